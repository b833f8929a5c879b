/- FnPlateShift: the law returns true for every input, and each input reads behind the call as before; part 5 of 6. No condition. Merged by program out of: EvPlate, EvPlateS, HPlateFar, FSpecL11Edges, EvPlateF, FSpecL71Pt, EvDraws. -/
import Derived.Test.YtkefmnmoaomlhaaDoorMFnPlateShift4
set_option linter.all false
section
set_option linter.unusedVariables false
set_option linter.unusedSimpArgs false
namespace Mort
theorem par_below {l:List Pt}{x y:Rat}(h:par l x y=true):∃ v∈l,y<(v.2:Rat):=by
 have h1:∃ e∈edges l,crsQ e.1.1 e.1.2 e.2.1 e.2.2 x y=true:=by
  refine Classical.byContradiction fun hn=>?_
  have:par l x y=xorAll ((edges l).map fun _=>false):=xorAll_congr fun e he=>by
   cases hc:crsQ e.1.1 e.1.2 e.2.1 e.2.2 x y with
   | true=>exact absurd ⟨e,he,hc⟩ hn
   | false=>rfl
  rw [this] at h;have:∀ (m:List Seg),xorAll (m.map fun _=>false)=false:=fun m=>by
   induction m with
   | nil=>rfl
   | cons a m ih=>rw [List.map_cons];unfold xorAll;rw [ih];rfl
  rw [this] at h;cases h
 obtain⟨e,he,hc⟩:=h1;obtain⟨i,hi,rfl⟩:=mem_edges.1 he;have m1:(ed l i).1∈l:=by
  unfold ed;simp only;rw [List.getD_eq_getElem?_getD,List.getElem?_eq_getElem hi];exact List.getElem_mem hi
 have hq:=Nat.mod_lt (i+1) (show 0<l.length by omega);have m2:(ed l i).2∈l:=by
  unfold ed;simp only;rw [List.getD_eq_getElem?_getD,List.getElem?_eq_getElem hq];exact List.getElem_mem hq
 unfold crsQ at hc;simp only [Bool.or_eq_true,Bool.and_eq_true,decide_eq_true_eq] at hc
 rcases hc with hc | hc
 ·
  exact⟨_,m2,hc.2.1⟩
 ·
  exact⟨_,m1,hc.2.1⟩
theorem inOf_below {l:List Pt}{p:Pt}(h:inOf l p=1):∃ v∈l,p.2<v.2:=by
 have hp:par l p.1 p.2=true:=by
  unfold inOf at h
  split at h
  ·
   omega
  ·
   split at h
   ·
    assumption
   ·
    omega
 obtain⟨v,hv,hlt⟩:=par_below hp;exact⟨v,hv,by exact_mod_cast hlt⟩
theorem vertex_on {l:List Pt}{v:Pt}(h:v∈l):onB l v=true:=by
 obtain⟨i,hi,rfl⟩:=List.getElem_of_mem h;refine (onB_iff l _).2 ⟨ed l i,mem_edges.2 ⟨i,hi,rfl⟩,?_⟩;have:(ed l i).1=l[i]:=by unfold ed;simp only;rw [List.getD_eq_getElem?_getD,List.getElem?_eq_getElem hi];rfl
 rw [← this];exact (has_ends _).1
theorem has_max {l:List Pt}(h:0<l.length):∃ v∈l,∀ u∈l,u.2≤v.2:=by
 induction l with
 | nil=>simp at h
 | cons a m ih =>
  by_cases hm:0<m.length
  ·
   obtain⟨v,hv,hx⟩:=ih hm;by_cases hc:v.2≤a.2
   ·
    refine⟨a,List.mem_cons_self,fun u hu=>?_⟩
    rcases List.mem_cons.1 hu with rfl | hu
    ·
     omega
    ·
     have:=hx u hu;omega
   ·
    refine⟨v,List.mem_cons_of_mem _ hv,fun u hu=>?_⟩
    rcases List.mem_cons.1 hu with rfl | hu
    ·
     omega
    ·
     exact hx u hu
  ·
   obtain rfl:m=[]:=List.eq_nil_of_length_eq_zero (by omega);exact⟨a,List.mem_cons_self,fun u hu=>by rw [List.mem_singleton] at hu;rw [hu];omega⟩
theorem PlateGood.on_outer {P:Plate}(g:PlateGood P){h:List Pt}(hh:h∈P.2){p:Pt}(hp:onB P.1 p=true):inOf h p = -1:=by
 have hl:=g.holes h hh;have same:∀ q,onB P.1 q=true→inOf h q=inOf h (P.1.getD 0 (0,0)):=fun q hq=>on_inOf (ndl_of_ok hl) (ndl_of_ok g.outer) (by rw [apartB_comm];exact g.away h hh) (loop_pos g.outer) hq
 rw [same p hp]
 rcases inOf_vals h (P.1.getD 0 (0,0)) with e | e | e
 ·
  exfalso
  have h1:=(inOf_zero h _).1 e;have h2:=g.on_hole hh h1;have h3:=(inOf_zero P.1 (P.1.getD 0 (0,0))).2 (first_on (loop_pos g.outer));omega
 ·
  exfalso
  obtain⟨v,hv,hmax⟩:=has_max (loop_pos g.outer);have h1:inOf h v=1:=(same v (vertex_on hv)).trans e;obtain⟨u,hu,hlt⟩:=inOf_below h1;have h2:=g.on_hole hh (vertex_on hu);obtain⟨t,ht,hlt2⟩:=inOf_below h2;have:=hmax t ht;omega
 ·
  exact e
theorem plateInOf_spec {P:Plate}(g:PlateGood P)(p:Pt):
  (inOf P.1 p=0→plateInOf P p=0∧∀ h∈P.2,inOf h p = -1)∧((∃ h∈P.2,inOf h p=0)→plateInOf P p=0∧inOf P.1 p=1) ∧
  (inOf P.1 p≠0→(∀ h∈P.2,inOf h p≠0)→plateInOf P p=if inOf P.1 p=1∧∀ h∈P.2,inOf h p = -1 then 1 else -1):=by
 refine⟨fun h0=>?_,fun⟨h,hh,h0⟩=>?_,fun h0 h1=>?_⟩
 ·
  have hon:=(inOf_zero _ _).1 h0;refine⟨?_,fun h hh=>g.on_outer hh hon⟩;unfold plateInOf plateOn;rw [hon,Bool.true_or,if_pos rfl]
 ·
  have hon:=(inOf_zero _ _).1 h0;refine⟨?_,g.on_hole hh hon⟩;have:plateOn P p=true:=by unfold plateOn;rw [Bool.or_eq_true,List.any_eq_true];exact .inr ⟨h,hh,hon⟩
  unfold plateInOf;rw [this,if_pos rfl]
 ·
  have:plateOn P p=false:=by
   unfold plateOn;rw [Bool.or_eq_false_iff];refine⟨?_,?_⟩
   ·
    cases hc:onB P.1 p with
    | true=>exact absurd ((inOf_zero _ _).2 hc) h0
    | false=>rfl
   ·
    rw [List.any_eq_false];intro h hh hc;exact h1 h hh ((inOf_zero _ _).2 hc)
  unfold plateInOf;rw [this,if_neg (by decide)];unfold plateInB;by_cases hq:inOf P.1 p=1∧∀ h∈P.2,inOf h p = -1
  ·
   rw [if_pos hq,if_pos];rw [Bool.and_eq_true,List.all_eq_true];exact⟨beq_iff_eq.2 hq.1,fun h hh=>beq_iff_eq.2 (hq.2 h hh)⟩
  ·
   rw [if_neg hq,if_neg];rw [Bool.and_eq_true,List.all_eq_true];exact fun e=>hq ⟨beq_iff_eq.1 e.1,fun h hh=>beq_iff_eq.1 (e.2 h hh)⟩
end Mort
namespace Go.Proofs.YtkefmnmoaomlhaaDoor.X
open Go.RowKit Go.Proofs.YtkefmnmoaomlhaaDoorW.PrintWords Go.Proofs.YtkefmnmoaomlhaaDoorW.PrintLast Go.Proofs.YtkefmnmoaomlhaaDoorW.PrintMore
open Mort (edges loopOk ptOk segOk has meet ed pairOk joined apartB plateOk plateInOf plateIn PlateGood inOf segMeet)
def pl (o:List S28)(H:List (List S28)):Mort.Plate:=(o.map ptP,H.map (List.map ptP))
theorem fst_pt (z:List S28):(z.map ptP).getD 0 (0,0)=fstP z:=ptP_getD z 0
theorem apart_ix (a b:List S28):apartB (a.map ptP) (b.map ptP)=true ↔ ∀ i,i<a.length→∀ j,j<b.length→meet (sgP (edS a i)) (sgP (edS b j))=false:=by
 rw [Mort.apartB_iff];constructor
 ·
  intro h i hi j hj;rw [← ed_edS,← ed_edS];exact h _ (Mort.mem_edges.2 ⟨i,by simpa using hi,rfl⟩) _ (Mort.mem_edges.2 ⟨j,by simpa using hj,rfl⟩)
 ·
  intro h e he f hf;obtain⟨i,hi,rfl⟩:=Mort.mem_edges.1 he;obtain⟨j,hj,rfl⟩:=Mort.mem_edges.1 hf;rw [ed_edS,ed_edS];exact h i (by simpa using hi) j (by simpa using hj)
theorem meetsB_eq {a b:List S28}(ha:loopOk (a.map ptP)=true)(hb:loopOk (b.map ptP)=true):(!meetsB a b)=apartB (a.map ptP) (b.map ptP):=by
 obtain⟨_,_,aok⟩:=ok_facts ha;obtain⟨_,_,bok⟩:=ok_facts hb;rw [Bool.eq_iff_iff,apart_ix];unfold meetsB;rw [Bool.not_eq_true',List.any_eq_false];constructor
 ·
  intro h i hi j hj;have h1:=h ⟨i,hi⟩ (List.mem_finRange _);rw [Bool.not_eq_true,List.any_eq_false] at h1;have h2:=h1 ⟨j,hj⟩ (List.mem_finRange _)
  cases hm:meet (sgP (edS a i)) (sgP (edS b j)) with
  | false=>rfl
  | true=>exact absurd ((Mort.segMeet_iff _ _).2 ⟨aok i hi,bok j hj,hm⟩) h2
 ·
  intro h i _ h1;rw [List.any_eq_true] at h1;obtain⟨j,_,h2⟩:=h1;have:=h i i.2 j j.2;rw [((Mort.segMeet_iff _ _).1 h2).2.2] at this;cases this
theorem iBodyOk (o:List S28)(H:List (List S28)):bodyOkB o H=plateOk (pl o H):=by
 unfold bodyOkB plateOk pl Mort.nested;simp only [List.length_map]
 match H with
 | [] =>
  simp only [List.length_nil,List.all_nil,List.map_nil,apartAll,nestedAll,List.range'_zero,Bool.and_true,Bool.true_and]
 | [a] =>
  simp only [List.length_cons,List.length_nil,List.all_cons,List.all_nil,List.map_cons,List.map_nil,apartAll,nestedAll,List.range'_succ,List.range'_zero,rowN,okN,Bool.and_true,Bool.true_and,fst_pt,inS,List.getD_cons_zero,beq_self_eq_true,Bool.true_or];cases ho:loopOk (o.map ptP) <;> cases ha:loopOk (a.map ptP) <;> try rfl
  rw [meetsB_eq ho ha];simp [Nat.zero_le]
 | [a,b] =>
  simp only [List.length_cons,List.length_nil,List.all_cons,List.all_nil,List.map_cons,List.map_nil,apartAll,nestedAll,List.range'_succ,List.range'_zero,rowN,okN,Bool.and_true,Bool.true_and,fst_pt,inS,List.getD_cons_zero,List.getD_cons_succ,beq_self_eq_true,Bool.true_or];cases ho:loopOk (o.map ptP) <;> cases ha:loopOk (a.map ptP) <;> cases hb:loopOk (b.map ptP) <;> try rfl
  rw [meetsB_eq ho ha,meetsB_eq ho hb,meetsB_eq ha hb];generalize apartB (o.map ptP) (a.map ptP)=t1;generalize apartB (o.map ptP) (b.map ptP)=t2;generalize apartB (a.map ptP) (b.map ptP)=t3;generalize (inOf (o.map ptP) (fstP a)==1)=t4;generalize (inOf (o.map ptP) (fstP b)==1)=t5;generalize (inOf (b.map ptP) (fstP a) == -1)=t6;generalize (inOf (a.map ptP) (fstP b) == -1)=t7;cases t1 <;> cases t2 <;> cases t3 <;> cases t4 <;> cases t5 <;> cases t6 <;> cases t7 <;> rfl
 | a::b::c::r =>
  rw [decide_eq_false (by simp only [List.length_cons];omega)];rfl
theorem good_of {o:List S28}{H:List (List S28)}(h:plateOk (pl o H)=true):PlateGood (pl o H):=(Mort.plateOk_iff _).1 h
theorem runIn_eq {o:List S28}{H:List (List S28)}(h:plateOk (pl o H)=true)(p:Mort.Pt):runIn p (inS o p) H=plateInOf (pl o H) p:=by
 obtain⟨s1,s2,s3⟩:=Mort.plateInOf_spec (good_of h) p;have gen:∀ (R:List (List S28)) (x:Int),runIn p x R=if (∃ z∈R,inS z p=0) then 0 else if (∃ z∈R,inS z p=1) then -1 else x:=by
  intro R
  induction R with
  | nil=>intro x;simp [runIn]
  | cons z R ih =>
   intro x;rw [runIn_cons,ih];by_cases h0:inS z p=0
   ·
    rw [if_pos h0,if_pos ⟨z,List.mem_cons_self,h0⟩]
   ·
    rw [if_neg h0];have e0:(∃ y∈z::R,inS y p=0) ↔ ∃ y∈R,inS y p=0:=by simp [h0]
    by_cases hR0:∃ y∈R,inS y p=0
    ·
     rw [if_pos hR0,if_pos (e0.2 hR0)]
    ·
     rw [if_neg hR0,if_neg (fun q=>hR0 (e0.1 q))];by_cases h1:inS z p=1
     ·
      rw [if_pos h1,if_pos (show ∃ y∈z::R,inS y p=1 from ⟨z,List.mem_cons_self,h1⟩)]
      split <;> rfl
     ·
      have e1:(∃ y∈z::R,inS y p=1) ↔ ∃ y∈R,inS y p=1:=by simp [h1]
      rw [if_neg h1];by_cases hR1:∃ y∈R,inS y p=1
      ·
       rw [if_pos hR1,if_pos (e1.2 hR1)]
      ·
       rw [if_neg hR1,if_neg (fun q=>hR1 (e1.1 q))]
 have mem:∀ z∈H,z.map ptP∈(pl o H).2:=fun z hz=>List.mem_map_of_mem hz
 rw [gen];by_cases h0:∃ z∈H,inS z p=0
 ·
  rw [if_pos h0];obtain⟨z,hz,e⟩:=h0;exact (s2 ⟨_,mem z hz,e⟩).1.symm
 ·
  rw [if_neg h0];have all0:∀ y∈(pl o H).2,inOf y p≠0:=by
   intro y hy e;obtain⟨z,hz,rfl⟩:=List.mem_map.1 hy;exact h0 ⟨z,hz,e⟩
  have ho:(pl o H).1=o.map ptP:=rfl;by_cases h1:∃ z∈H,inS z p=1
  ·
   rw [if_pos h1];obtain⟨z,hz,e⟩:=h1;have e':inOf (z.map ptP) p=1:=e;by_cases hq:inOf (pl o H).1 p=0
   ·
    have:=(s1 hq).2 _ (mem z hz);omega
   ·
    rw [s3 hq all0,if_neg];intro hh;have:=hh.2 _ (mem z hz);omega
  ·
   rw [if_neg h1];have allm:∀ y∈(pl o H).2,inOf y p = -1:=by
    intro y hy;have h2:=all0 y hy;obtain⟨z,hz,rfl⟩:=List.mem_map.1 hy
    rcases Mort.inOf_vals (z.map ptP) p with e | e | e
    ·
     exact absurd e h2
    ·
     exact absurd ⟨z,hz,e⟩ h1
    ·
     exact e
   show inOf (pl o H).1 p=_
   by_cases hq:inOf (pl o H).1 p=0
   ·
    rw [(s1 hq).1,hq]
   ·
    rw [s3 hq all0]
    rcases Mort.inOf_vals (pl o H).1 p with e | e | e
    ·
     exact absurd e hq
    ·
     rw [if_pos ⟨e,allm⟩,e]
    ·
     rw [if_neg (by omega),e]
theorem iPlateIn (o:List S28)(H:List (List S28))(x y:Int):impl_PlateIn.f o H x y=some (plateIn (pl o H) (x,y)):=by
 unfold impl_PlateIn.f plateIn;rw [iBodyOk]
 cases h:plateOk (pl o H) with
 | false=>rfl
 | true =>
  cases hp:ptOk (x,y) with
  | false=>rfl
  | true=>rw [runIn_eq h]
end Go.Proofs.YtkefmnmoaomlhaaDoor.X
end
section
set_option linter.unusedVariables false
set_option linter.unusedSimpArgs false
namespace Go.Proofs.YtkefmnmoaomlhaaDoor.X
open Go.RowKit Go.Proofs.YtkefmnmoaomlhaaDoorW.PrintWords Go.Proofs.YtkefmnmoaomlhaaDoorW.PrintLast Go.Proofs.YtkefmnmoaomlhaaDoorW.PrintMore
open Mort (edges loopOk ptOk segOk has meet ed pairOk joined apartB plateOk plateInOf plateIn PlateGood inOf segMeet)
theorem fst_ok {z:List S28}(h:loopOk (z.map ptP)=true):ptOk ((rd_T28 z 0).f0,(rd_T28 z 0).f1)=true:=by
 obtain⟨h3,_,hok⟩:=ok_facts h;exact (seg_ends (hok 0 (by omega))).1
theorem sL3In {z:List S28}{x y:Int}(h:loopOk (z.map ptP)=true)(hp:ptOk (x,y)=true):spec_l3In.f z x y=some (inOf (z.map ptP) (x,y)):=by
 unfold spec_l3In.f;rw [if_pos ⟨h,hp⟩]
theorem sL3Fst {z a:List S28}(h:loopOk (z.map ptP)=true)(ha:loopOk (a.map ptP)=true):spec_l3In.f z (rd_T28 a 0).f0 (rd_T28 a 0).f1=some (inOf (z.map ptP) (fstP a)):=sL3In h (fst_ok ha)
def holeOk (o a:List S28):Bool:=loopOk (a.map ptP) && (inOf (o.map ptP) (fstP a)==1 && apartB (o.map ptP) (a.map ptP))
def pairH (a b:List S28):Bool:=apartB (a.map ptP) (b.map ptP) && (inOf (b.map ptP) (fstP a) == -1 && inOf (a.map ptP) (fstP b) == -1)
theorem plate_hole {o:List S28}{H:List (List S28)}(ho:loopOk (o.map ptP)=true)(i:Nat)(hi:i<H.length){k:Nat}(hk:300≤k):
  spec_PlateOk.l0 (k+2) (i:Int) o H=if holeOk o (rd_L5 H (i:Int)) then spec_PlateOk.l1 k (i:Int) (rd_L5 H (i:Int)) 0 o H else some false:=by
 simp only [spec_PlateOk.l0];rw [if_pos (by omega),if_pos (by omega),sLoopOk (by omega),Option.bind_some];generalize rd_L5 H (i:Int)=a;unfold holeOk
 cases ha:loopOk (a.map ptP) with
 | false=>rw [if_neg (by decide)];simp only [spec_PlateOk.j2];simp
 | true =>
  obtain⟨h3,_,_⟩:=ok_facts ha;rw [if_pos rfl,if_pos (by omega),sL3Fst ho ha,Option.bind_some];by_cases h1:inOf (o.map ptP) (fstP a)=1
  ·
   rw [if_pos h1,sApart (by omega) ho ha,Option.bind_some];simp only [spec_PlateOk.j2];rw [h1];cases apartB (o.map ptP) (a.map ptP) <;> simp
  ·
   rw [if_neg h1,beq_eq_false_iff_ne.2 h1];simp only [spec_PlateOk.j2];simp
theorem sPlateOk {k:Nat}(hk:1000≤k)(o:List S28)(H:List (List S28)):spec_PlateOk.f k o H=some (plateOk (pl o H)):=by
 unfold spec_PlateOk.f;rw [sLoopOk (by omega),Option.bind_some];obtain⟨k,rfl⟩:∃ q,k=q+10:=⟨k-10,by omega⟩
 cases ho:loopOk (o.map ptP) with
 | false =>
  rw [if_neg (by decide)];simp only [spec_PlateOk.j0];unfold plateOk pl;simp only;rw [ho];simp
 | true =>
  rw [if_pos rfl];by_cases h2:H.length≤2
  ·
   rw [decide_eq_false (by omega)];simp only [spec_PlateOk.j0];rw [if_neg (by decide)];unfold plateOk pl Mort.nested;simp only [List.length_map];rw [ho,decide_eq_true h2]
   match H,h2 with
   | [],_=>simp only [spec_PlateOk.l0];simp
   | [a],_ =>
    refine Eq.trans (show spec_PlateOk.l0 (k+9) 0 o [a]=_ from plate_hole (k:=k+7) ho 0 (by simp) (by omega)) ?_;have e1:spec_PlateOk.l1 (k+7) ((0:Nat):Int) a 0 o [a]=some true:=by
     simp only [spec_PlateOk.l1];rw [if_neg (by omega),show wrap64 (((0:Nat):Int)+1)=1 by unfold wrap64;omega];simp only [spec_PlateOk.l0];rw [if_neg (by simp)]
    show (if holeOk o a then spec_PlateOk.l1 (k+7) ((0:Nat):Int) a 0 o [a] else _)=_
    rw [e1];unfold holeOk;simp only [List.map_cons,List.map_nil,List.all_cons,List.all_nil,Bool.and_true,Bool.true_and,fst_pt];generalize loopOk (a.map ptP)=t1;generalize (inOf (o.map ptP) (fstP a)==1)=t2;generalize apartB (o.map ptP) (a.map ptP)=t3;cases t1 <;> cases t2 <;> cases t3 <;> rfl
   | [a,b],_ =>
    refine Eq.trans (show spec_PlateOk.l0 (k+9) 0 o [a,b]=_ from plate_hole (k:=k+7) ho 0 (by simp) (by omega)) ?_;have e1:spec_PlateOk.l1 (k+7) ((0:Nat):Int) a 0 o [a,b]=if holeOk o b then spec_PlateOk.l1 (k+4) ((1:Nat):Int) b 0 o [a,b] else some false:=by
     simp only [spec_PlateOk.l1];rw [if_neg (by omega),show wrap64 (((0:Nat):Int)+1)=((1:Nat):Int) by unfold wrap64;omega,plate_hole (k:=k+4) ho 1 (by simp) (by omega)];rfl
    show (if holeOk o a then spec_PlateOk.l1 (k+7) ((0:Nat):Int) a 0 o [a,b] else _)=_
    rw [e1];have hp:holeOk o a=true→holeOk o b=true→spec_PlateOk.l1 (k+4) ((1:Nat):Int) b 0 o [a,b]=some (pairH b a):=by
     intro h1 h2;have ha:loopOk (a.map ptP)=true:=by unfold holeOk at h1;cases h:loopOk (a.map ptP) with | true=>rfl | false=>rw [h] at h1;cases h1
     have hb:loopOk (b.map ptP)=true:=by unfold holeOk at h2;cases h:loopOk (b.map ptP) with | true=>rfl | false=>rw [h] at h2;cases h2
     obtain⟨a3,_,_⟩:=ok_facts ha;obtain⟨b3,_,_⟩:=ok_facts hb;simp only [spec_PlateOk.l1];rw [if_pos (by omega),if_pos (by omega),if_pos (by simp)];rw [show rd_L5 [a,b] 0=a from rfl,sApart (by omega) hb ha,Option.bind_some];unfold pairH
     cases apartB (b.map ptP) (a.map ptP) with
     | false=>rw [if_neg (by decide)];rfl
     | true =>
      rw [if_pos rfl,if_pos (by omega),sL3Fst ha hb,Option.bind_some];by_cases e1:inOf (a.map ptP) (fstP b) = -1
      ·
       rw [if_pos e1,if_pos (by omega),sL3Fst hb ha,Option.bind_some,e1];by_cases e2:inOf (b.map ptP) (fstP a) = -1
       ·
        rw [if_pos e2,e2];have hw0:wrap64 (0+1)=1:=by unfold wrap64;omega
        rw [hw0,if_neg (by omega)];have hw2:wrap64 (((1:Nat):Int)+1)=2:=by unfold wrap64;omega
        rw [hw2];simp only [spec_PlateOk.l0];rw [if_neg (by simp)];rfl
       ·
        rw [if_neg e2,beq_eq_false_iff_ne.2 e2];rfl
      ·
       rw [if_neg e1,beq_eq_false_iff_ne.2 e1];rfl
    have hc:=Mort.apartB_comm (a.map ptP) (b.map ptP);simp only [List.map_cons,List.map_nil,List.all_cons,List.all_nil,Bool.and_true,Bool.true_and,fst_pt]
    cases h1:holeOk o a with
    | false =>
     rw [if_neg (by decide)];unfold holeOk at h1;revert h1;generalize loopOk (a.map ptP)=t1;generalize (inOf (o.map ptP) (fstP a)==1)=t2;generalize apartB (o.map ptP) (a.map ptP)=t3;intro h1;cases t1 <;> cases t2 <;> cases t3 <;> simp at h1 ⊢
    | true =>
     rw [if_pos rfl]
     cases h2:holeOk o b with
     | false =>
      rw [if_neg (by decide)];unfold holeOk at h2;revert h2;generalize loopOk (b.map ptP)=t1;generalize (inOf (o.map ptP) (fstP b)==1)=t2;generalize apartB (o.map ptP) (b.map ptP)=t3;intro h2;cases t1 <;> cases t2 <;> cases t3 <;> simp at h2 ⊢
     | true =>
      rw [if_pos rfl,hp h1 h2];unfold holeOk at h1 h2;unfold pairH;rw [hc];simp only [Bool.and_eq_true] at h1 h2;rw [h1.1,h1.2.1,h1.2.2,h2.1,h2.2.1,h2.2.2];generalize apartB (b.map ptP) (a.map ptP)=t1;generalize (inOf (b.map ptP) (fstP a) == -1)=t2;generalize (inOf (a.map ptP) (fstP b) == -1)=t3;cases t1 <;> cases t2 <;> cases t3 <;> rfl
  ·
   rw [decide_eq_true (by omega)];simp only [spec_PlateOk.j0];unfold plateOk pl;simp only [List.length_map];rw [decide_eq_false h2];simp
end Go.Proofs.YtkefmnmoaomlhaaDoor.X
end
section
set_option linter.unusedVariables false
set_option linter.unusedSimpArgs false
namespace Go.Proofs.YtkefmnmoaomlhaaDoor.X
open Go.RowKit Go.Shelf Go.Proofs.YtkefmnmoaomlhaaDoorW.PrintWords Go.Proofs.YtkefmnmoaomlhaaDoorW.PrintLast Go.Proofs.YtkefmnmoaomlhaaDoorW.PrintMore
open Mort (edges segMeet loopOk ptOk inOf segFar segOk least fracOk fracCmp)
theorem farE_told (b c:Nat)(A:Option Addr)(E:List S61)(x y:Int)(r:Mort.Frac)(w:World)(hcell:w.cell? ⟨b,2,none⟩=some (.slice A E.length c))(hcap:E.length≤c)
  (hC:Kd.C k61 w A E.length E) (hok:∀ s∈E,segOk (sgP s)=true) (hp:ptOk (x,y)=true) (hE:ErrW w) (hne:0<E.length) (hreach:E.length≤1000000) (h:farE E (x,y)=r) :
  Calls Tryd.prog 62 #[.pointer (some ⟨b,0,none⟩),.agg #[.int .i64 x,.int .i64 y]] w fun e w'=>e=.returned (.agg #[.int .i64 r.1,.int .i64 r.2])∧Below w.heap.size w w':=by
 cases E with
 | nil=>simp at hne
 | cons e0 es=>exact far_calls b c A e0 es x y r w hcell hcap hC hok hp hE (by simp only [List.length_cons] at hreach;omega) h
section
variable (A0_0:Option Addr) (c0_0:Nat) (l0_0:List S28) (A0_1:Option Addr) (c0_1:Nat) (l0_1:List (List S28))
set_option maxHeartbeats 4000000 in
set_option maxRecDepth 100000 in
theorem impl_PlateFar.calls (a1_0 a1_1 r1 r2:Int)(w:World)(hr0_0:Kd.C k28 w A0_0 l0_0.length l0_0)(hc0_0:l0_0.length≤c0_0)(hr0_1:Kd.C (Kd.slice 28 k28) w A0_1 l0_1.length l0_1)(hc0_1:l0_1.length≤c0_1)(hE:ErrW w)(h:impl_PlateFar.f l0_0 l0_1 a1_0 a1_1=some (r1,r2)):
  Calls Tryd.prog 22 #[.agg #[.slice A0_0 l0_0.length c0_0,.slice A0_1 l0_1.length c0_1],.agg #[.int .i64 a1_0,.int .i64 a1_1]] w fun e w'=>e=.returned (.agg #[.int .i64 r1,.int .i64 r2])∧Below w.heap.size w w':=by
 have hu26:=Tryd.underlying26;have hu28:=Tryd.underlying28;have hu35:=Tryd.underlying35;have hb:(if bodyOkB l0_0 l0_1 && ptOk (a1_0,a1_1) then farE (allEdges (l0_0::l0_1)) (a1_0,a1_1) else (0,0))=(r1,r2):=Option.some.inj h;clear h;have hal:=below_alloc (below_alloc (below_alloc (Below.refl w.heap.size w) (.cells #[.slice A0_0 l0_0.length c0_0,.slice A0_1 l0_1.length c0_1] 26)) (.cells #[.int .i64 a1_0,.int .i64 a1_1] 28)) (.cells #[.int .i64 0,.int .i64 0] 35);have HK:=a0_ (And.intro (Kd.C_below hr0_0 hal) (And.intro hc0_0 (And.intro (Kd.C_below hr0_1 hal) (And.intro hc0_1 (And.intro hal (hE.below hal))))));clear hr0_0 hc0_0 hr0_1 hc0_1 hal hE;have np:=blk_alloc (blk_new (w.alloc (.cells #[.slice A0_0 l0_0.length c0_0,.slice A0_1 l0_1.length c0_1] 26)) (.cells #[.int .i64 a1_0,.int .i64 a1_1] 28 (0,0))) (.cells #[.int .i64 0,.int .i64 0] 35);rw [World.size_alloc] at np;have nf:=blk_new ((w.alloc (.cells #[.slice A0_0 l0_0.length c0_0,.slice A0_1 l0_1.length c0_1] 26)).alloc (.cells #[.int .i64 a1_0,.int .i64 a1_1] 28)) (.cells #[.int .i64 0,.int .i64 0] 35 (0,0));rw [World.size_alloc,World.size_alloc] at nf;have NP:=Aside0.mk np;have NF:=Aside0.mk nf;clear np nf
 cases hk:bodyOkB l0_0 l0_1 with
 | false =>
  rw [hk,Bool.false_and,if_neg (by decide)] at hb;cases hb;have HB:=Aside0.mk hk;clear hk;go_enter Tryd.func22,Tryd.ntmps22;go_wp2_with (go_at_call 52;refine (bodyOf_calls A0_0 c0_0 l0_0 A0_1 c0_1 l0_1 false _ HK.out.1 HK.out.2.1 HK.out.2.2.1 HK.out.2.2.2.1 HB.out).mono ?_;rintro e w1 ⟨_,hN⟩;obtain⟨rfl,hb1⟩:=hN rfl;have n1:=blk_later NF.out hb1;have s10:w1.cell? ⟨w.heap.size+1+1,0,none⟩=some (.int .i64 0):=(blk_cell n1 0).trans rfl;have s11:w1.cell? ⟨w.heap.size+1+1,1,none⟩=some (.int .i64 0):=(blk_cell n1 1).trans rfl;have s12:=blk_frozen n1 0;have s13:=blk_frozen n1 1;have N1:=Aside0.mk n1;clear n1);refine bodyPost_ret (results_cell_row rfl _ _ (w.heap.size+1+1) 35 #[.int .i64 0,.int .i64 0] (0,0) _ rfl (blk_put (blk_put N1.out 0 _ rfl) 1 _ rfl) Tryd.underlying35 rfl (by kernel_rfl)) rfl ?_;exact⟨rfl,((below_step HK.out.2.2.2.2.1 hb1).setCell (p:=⟨w.heap.size+1+1,0,none⟩) (by show w.heap.size≤w.heap.size+1+1;omega) _).setCell (p:=⟨w.heap.size+1+1,1,none⟩) (by show w.heap.size≤w.heap.size+1+1;omega) _⟩
 | true =>
  cases hp:ptOk (a1_0,a1_1) with
  | false =>
   rw [hk,hp,Bool.and_false,if_neg (by decide)] at hb;cases hb;have HB:=a0_ (And.intro hk ((iPtOk a1_0 a1_1).trans (congrArg some hp)));clear hk hp;go_enter Tryd.func22,Tryd.ntmps22;go_wp2_with (first | (go_at_call 52;refine (bodyOf_calls A0_0 c0_0 l0_0 A0_1 c0_1 l0_1 true _ HK.out.1 HK.out.2.1 HK.out.2.2.1 HK.out.2.2.2.1 HB.out.1).mono ?_;rintro e w1 ⟨hN,_⟩;obtain⟨b,bs,v,rfl,hBA,hcell,hR,hb1⟩:=hN rfl;have n1:=blk_later NF.out hb1;have s10:w1.cell? ⟨w.heap.size+1+1,0,none⟩=some (.int .i64 0):=(blk_cell n1 0).trans rfl;have s11:w1.cell? ⟨w.heap.size+1+1,1,none⟩=some (.int .i64 0):=(blk_cell n1 1).trans rfl;have s12:=blk_frozen n1 0;have s13:=blk_frozen n1 1;have N1:=Aside0.mk n1;clear n1;have p1:=blk_later NP.out hb1;have m10:w1.cell? ⟨w.heap.size+1,0,none⟩=some (.int .i64 a1_0):=(blk_cell p1 0).trans rfl;have m11:w1.cell? ⟨w.heap.size+1,1,none⟩=some (.int .i64 a1_1):=(blk_cell p1 1).trans rfl;have M1:=Aside0.mk p1;clear p1;have HBY:=a0_ (And.intro hcell hR);clear hBA hR hcell) | (go_at_call 23;refine (impl_PtOk.calls a1_0 a1_1 false _ HB.out.2).mono ?_;rintro e w2 ⟨rfl,hb2⟩;have n2:=blk_later N1.out hb2;have s20:w2.cell? ⟨w.heap.size+1+1,0,none⟩=some (.int .i64 0):=(blk_cell n2 0).trans rfl;have s21:w2.cell? ⟨w.heap.size+1+1,1,none⟩=some (.int .i64 0):=(blk_cell n2 1).trans rfl;have s22:=blk_frozen n2 0;have s23:=blk_frozen n2 1;have N2:=Aside0.mk n2;clear n2;have p2:=blk_later M1.out hb2;have m20:w2.cell? ⟨w.heap.size+1,0,none⟩=some (.int .i64 a1_0):=(blk_cell p2 0).trans rfl;have m21:w2.cell? ⟨w.heap.size+1,1,none⟩=some (.int .i64 a1_1):=(blk_cell p2 1).trans rfl;have M2:=Aside0.mk p2;clear p2));refine bodyPost_ret (results_cell_row rfl _ _ (w.heap.size+1+1) 35 #[.int .i64 0,.int .i64 0] (0,0) _ rfl (blk_put (blk_put N2.out 0 _ rfl) 1 _ rfl) Tryd.underlying35 rfl (by kernel_rfl)) rfl ?_
   exact⟨rfl,((below_step (below_step HK.out.2.2.2.2.1 hb1) hb2).setCell (p:=⟨w.heap.size+1+1,0,none⟩) (by show w.heap.size≤w.heap.size+1+1;omega) _).setCell (p:=⟨w.heap.size+1+1,1,none⟩) (by show w.heap.size≤w.heap.size+1+1;omega) _⟩
  | true =>
   rw [hk,hp,Bool.and_true,if_pos rfl] at hb;have HB:=a0_ (And.intro hk (And.intro ((iPtOk a1_0 a1_1).trans (congrArg some hp)) (And.intro hp hb)));clear hk hp hb;go_enter Tryd.func22,Tryd.ntmps22
   go_wp2_with (first | (go_at_call 52;refine (bodyOf_calls A0_0 c0_0 l0_0 A0_1 c0_1 l0_1 true _ HK.out.1 HK.out.2.1 HK.out.2.2.1 HK.out.2.2.2.1 HB.out.1).mono ?_;rintro e w1 ⟨hN,_⟩;obtain⟨b,bs,v,rfl,hBA,hcell,hR,hb1⟩:=hN rfl;have n1:=blk_later NF.out hb1;have s10:w1.cell? ⟨w.heap.size+1+1,0,none⟩=some (.int .i64 0):=(blk_cell n1 0).trans rfl;have s11:w1.cell? ⟨w.heap.size+1+1,1,none⟩=some (.int .i64 0):=(blk_cell n1 1).trans rfl;have s12:=blk_frozen n1 0;have s13:=blk_frozen n1 1;have N1:=Aside0.mk n1;clear n1;have p1:=blk_later NP.out hb1;have m10:w1.cell? ⟨w.heap.size+1,0,none⟩=some (.int .i64 a1_0):=(blk_cell p1 0).trans rfl;have m11:w1.cell? ⟨w.heap.size+1,1,none⟩=some (.int .i64 a1_1):=(blk_cell p1 1).trans rfl;have M1:=Aside0.mk p1;clear p1;have HBY:=a0_ (And.intro hcell hR);clear hBA hR hcell) | (go_at_call 23;refine (impl_PtOk.calls a1_0 a1_1 true _ HB.out.2.1).mono ?_;rintro e w2 ⟨rfl,hb2⟩;have n2:=blk_later N1.out hb2;have s20:w2.cell? ⟨w.heap.size+1+1,0,none⟩=some (.int .i64 0):=(blk_cell n2 0).trans rfl;have s21:w2.cell? ⟨w.heap.size+1+1,1,none⟩=some (.int .i64 0):=(blk_cell n2 1).trans rfl;have s22:=blk_frozen n2 0;have s23:=blk_frozen n2 1;have N2:=Aside0.mk n2;clear n2;have p2:=blk_later M1.out hb2;have m20:w2.cell? ⟨w.heap.size+1,0,none⟩=some (.int .i64 a1_0):=(blk_cell p2 0).trans rfl;have m21:w2.cell? ⟨w.heap.size+1,1,none⟩=some (.int .i64 a1_1):=(blk_cell p2 1).trans rfl;have M2:=Aside0.mk p2;clear p2) | (go_at_call 62;obtain⟨Ae,ce,hv,hce,hCe⟩:=Kd.R_reads HBY.out.2;obtain⟨e0,es,hEe,hle⟩:=allEdges_cons HB.out.1;refine (farE_told b ce Ae (allEdges (l0_0::l0_1)) a1_0 a1_1 (r1,r2) _ (pw_cell_below hb2 (hv▸HBY.out.1)) hce (Kd.C_below hCe hb2) (allEdges_ok HB.out.1) HB.out.2.2.1 ((HK.out.2.2.2.2.2.below hb1).below hb2) (by rw [hEe];simp) (by rw [hEe];simp only [List.length_cons];omega) HB.out.2.2.2).mono ?_;clear hv hce hCe hEe hle;rintro e w3 ⟨rfl,hb3⟩;have n3:=blk_later N2.out hb3;have s30:w3.cell? ⟨w.heap.size+1+1,0,none⟩=some (.int .i64 0):=(blk_cell n3 0).trans rfl;have s31:w3.cell? ⟨w.heap.size+1+1,1,none⟩=some (.int .i64 0):=(blk_cell n3 1).trans rfl;have s32:=blk_frozen n3 0;have s33:=blk_frozen n3 1;have N3:=Aside0.mk n3;clear n3))
   refine bodyPost_ret (results_cell_row rfl _ _ (w.heap.size+1+1) 35 #[.int .i64 r1,.int .i64 r2] (0,0) _ rfl (blk_put (blk_put N3.out 0 _ rfl) 1 _ rfl) Tryd.underlying35 rfl (by kernel_rfl)) rfl ?_;exact⟨rfl,((below_step (below_step (below_step HK.out.2.2.2.2.1 hb1) hb2) hb3).setCell (p:=⟨w.heap.size+1+1,0,none⟩) (by show w.heap.size≤w.heap.size+1+1;omega) _).setCell (p:=⟨w.heap.size+1+1,1,none⟩) (by show w.heap.size≤w.heap.size+1+1;omega) _⟩
end
end Go.Proofs.YtkefmnmoaomlhaaDoor.X
end
section
namespace Go.Proofs.YtkefmnmoaomlhaaDoor.X
open Go.RowKit Go.Proofs.YtkefmnmoaomlhaaDoorW.PrintWords Go.Proofs.YtkefmnmoaomlhaaDoorW.PrintLast Go.Proofs.YtkefmnmoaomlhaaDoorW.PrintMore
attribute [local go_sem] max2_int min2_int max_two min_two max_three min_three max_four min_four
set_option linter.unusedVariables false
set_option linter.unusedSimpArgs false
def spec_l11Edges.l0:Nat→List (S61)→Int→List (S28)→List (List (S28))→Option ((List (S61)))
 | 0,_,_,_,_=>none
 | k+1,x3,x4,x457000,x457001=>if x4<(x457001.length:Int) then (if 0≤x4 then ((spec_l3Edges.f k (rd_L5 x457001 x4)).bind fun t461=>(if x3.length+t461.length<4398046511104 then (spec_l11Edges.l0 k (x3++t461) (wrap64 (x4+1)) x457000 x457001) else (none))) else (none)) else (some x3)
def spec_l11Edges.f (k:Nat)(l0_0:List (S28))(l0_1:List (List (S28))):Option ((List (S61))):=(spec_l3Edges.f k l0_0).bind fun t457=>(spec_l11Edges.l0 k t457 0 l0_0 l0_1)
set_option maxHeartbeats 8000000 in
set_option maxRecDepth 100000 in
theorem spec_l11Edges.calls (k:Nat)(A0_0:Option Addr)(c0_0:Nat)(l0_0:List (S28))(A0_1:Option Addr)(c0_1:Nat)(l0_1:List (List (S28)))(r:List (S61))(w:World)(hr0_0:Kd.C k28 w A0_0 l0_0.length l0_0)(hc0_0:l0_0.length≤c0_0)(hr0_1:Kd.C (Kd.slice 28 k28) w A0_1 l0_1.length l0_1)(hc0_1:l0_1.length≤c0_1)(h:spec_l11Edges.f k l0_0 l0_1=some r):
  Calls Tryd.prog 66 #[.agg #[.slice A0_0 l0_0.length c0_0,.slice A0_1 l0_1.length c0_1]] w fun e w'=>∃ v0_:Value,e=.returned (v0_)∧Kd.R k61 61 w' w.heap.size (fun _=>True) v0_ r∧Below w.heap.size w w':=by
 have hu26:=Tryd.underlying26;have HR0_0:=Aside0.mk hr0_0;have HC0_0:=Aside0.mk hc0_0;clear hr0_0 hc0_0;have HR0_1:=Aside0.mk hr0_1;have HC0_1:=Aside0.mk hc0_1;clear hr0_1 hc0_1;have HB:=a0_ (Below.refl w.heap.size w);have H:((spec_l3Edges.f k l0_0).bind fun t457=>(spec_l11Edges.l0 k t457 0 l0_0 l0_1))=some r:=h;clear h;replace H:=Option.bind_eq_some_iff.mp H;obtain⟨t457,A20,H⟩:=H
 (try dsimp only at H)
 have A2:=Aside0.mk A20;clear A20;have H':=Aside0.mk H;clear H;go_enter Tryd.func66,Tryd.ntmps66;go_wp2_with (first | ((with_reducible refine gate_dst (N:=1) rfl ?_);refine bx_ (N:=1) (cs:=#[.slice A0_0 l0_0.length c0_0,.slice A0_1 l0_1.length c0_1]) (t:=26) (h:=?_);intro gb456 hg w3 hbox hb;have BK456:=a0_ (hbox);have GW456:=gh_ HB hg;have GE456:=gh_ HB hg;replace HB:=sb_ HB hb;clear hb hbox hg;have hcz4_0:=c20_ BK456;have hcz4_1:=c21_ BK456;have hfz4_0:=fz_ BK456 0;have hfz4_1:=fz_ BK456 1) | ((with_reducible refine gate_callee (f:=98) rfl ?_);refine gL_ (some 7) Tryd.func98 #[.slice A0_0 l0_0.length c0_0] (h:=?_);(with_reducible refine (spec_l3Edges.calls k _ _ l0_0 t457 _ ?side1 ?side2 A2.out).mono ?_);(case side1=>repeat (first | exact (Kd.C_below HR0_0.out HB.out) | (with_reducible refine Kd.C_alloc ?_ _) | (with_reducible refine Kd.C_drewN ?_ _) | (with_reducible refine Kd.C_drew ?_)));(case side2=>exact HC0_0.out);rintro e w5 ⟨v458,rfl,ho0,hb⟩;refine⟨_,rfl,?_⟩;have HO459:=a0_ (Kd.R_lower ho0 (below_size hB_));replace BK456:=vb_ BK456 hb;replace HB:=sb_ HB hb;(try clear ho0 hb)));go_loopg [3,4] k (fun kq v3 v4 w'=>∃ (x3_1:List (S61)) (x4_1:Int),v4=.int .i64 x4_1∧Aside0 (spec_l11Edges.l0 kq x3_1 x4_1 l0_0 l0_1=some r)∧Aside0 (kq≤k)∧Aside0 (Kd.R k61 61 w' w.heap.size (fun _=>True) v3 x3_1)∧Aside0 (w'.heap[gb456]?=some (.cells #[(.slice A0_0 l0_0.length c0_0),(.slice A0_1 l0_1.length c0_1)] 26 (0,0)))∧Aside0 (Below w.heap.size w w'))
 case atStart=>exact⟨(t457),(0),(by first | rfl | (simp;done) | (simp [*];done)),H',⟨Nat.le_refl _⟩,⟨by (with_reducible repeat (first | apply Kd.R_alloc | apply Kd.R_drewN | apply Kd.R_drew));exact HO459.out⟩,⟨uq_⟩,⟨hB_⟩⟩
 case round =>
  clear H';obtain⟨x3_1,x4_1,rfl,HA,HK1,HO_3,BK456,HB⟩:=hrel
  cases gk with
  | zero=>exact absurd HA.out (by simp [spec_l11Edges.l0])
  | succ k1 =>
   have H:=HA.out;clear HA;simp only [spec_l11Edges.l0] at H;by_cases c6:x4_1<(l0_1.length:Int)
   ·
    rw [if_pos c6] at H;have c6b0:decide (x4_1<(l0_1.length:Int))=true:=decide_eq_true c6;clear c6;by_cases c7:0≤x4_1
    ·
     rw [if_pos c7] at H;have c7b0:decide (0≤x4_1)=true:=decide_eq_true c7;clear c7;replace H:=Option.bind_eq_some_iff.mp H;obtain⟨t461,A80,H⟩:=H
     (try dsimp only at H)
     have A8:=Aside0.mk A80;clear A80;by_cases c9:x3_1.length+t461.length<4398046511104
     ·
      rw [if_pos c9] at H;have LMc9:=Aside0.mk c9;clear c9;obtain⟨y464,hy464⟩:∃ y_:List (S61),y_=(x3_1++t461):=⟨_,rfl⟩;replace H:(spec_l11Edges.l0 k1 y464 (wrap64 (x4_1+1)) l0_0 l0_1)=some r:=by first | (rw [hy464];with_reducible exact H) | (have H2_:=(Option.bind_some _ _).symm.trans H;rw [hy464];with_reducible exact H2_) | (have H2_:=(Option.bind_some _ _).symm.trans H;with_reducible exact H2_) | with_reducible exact H | (rw [hy464];exact H) | exact H
      have Ny464:=Aside0.mk hy464;clear hy464;have H':=Aside0.mk H;clear H;have hcz10_0:=c20_ BK456;have hcz10_1:=c21_ BK456;have hfz10_0:=fz_ BK456 0;have hfz10_1:=fz_ BK456 1;have p460:0≤(x4_1:Int):=od_;have q460:x4_1<(l0_1.length:Int):=od_;obtain⟨ad460,A460_0,c460_0,e460,hx460_0,hl460_0,hi460_0⟩:=at_L5 HR0_1.out x4_1 p460 q460;cases e460;replace hx460_0:=ce_ HB hx460_0;have HR460_0:=Aside0.mk hi460_0;have HC460_0:=Aside0.mk hl460_0;clear hi460_0 hl460_0;replace p460:=eq_true p460;replace q460:=eq_true q460
      go_wp2_with (first | ((with_reducible refine gate_callee (f:=98) rfl ?_);refine gL_ (some 21) Tryd.func98 #[.slice A460_0 (rd_L5 l0_1 x4_1).length c460_0] (h:=?_);(with_reducible refine (spec_l3Edges.calls k1 _ _ (rd_L5 l0_1 x4_1) t461 _ ?side1 ?side2 A8.out).mono ?_);(case side1=>repeat (first | exact (Kd.C_below HR460_0.out HB.out) | (with_reducible refine Kd.C_alloc ?_ _) | (with_reducible refine Kd.C_drewN ?_ _) | (with_reducible refine Kd.C_drew ?_)));(case side2=>exact HC460_0.out);rintro e w11 ⟨v462,rfl,ho0,hb⟩;refine⟨_,rfl,?_⟩;have HO463:=a0_ (Kd.R_lower (Kd.R_new' ho0 (Kd.R_lt (uR_ HO_3))) (below_size hB_));replace HO_3:=a0_ (Kd.R_elder' (uR_ HO_3) (Kd.R_base ho0) hb);replace BK456:=vb_ BK456 hb;replace HB:=sb_ HB hb;(try clear ho0 hb);obtain⟨Ao13,co13,eo13⟩:=Kd.R_slice HO463.out;subst eo13) | ((with_reducible refine gate_builtin (b:=.append) (xs:=#[.tmp 15,.tmp 21]) rfl ?_);at_builtin;refine Kd.R_append_rows k61 (w0:=w) w.heap.size rfl (.tmp 15) (.tmp 21) 57 61 (.agg #[(.int .i64 0),(.int .i64 0),(.int .i64 0),(.int .i64 0)]) 32 rfl Tryd.underlying57 info61 rfl (by decide) (by omega) u3 x3_1 t461 _ _ _ (fun k_=>some k_≠(.slice Ao13 t461.length co13:Value).ownBlock) (fun _=>False) rfl rfl ?aO ?aR (fun _ _ h=>h) (fun _ h=>h.elim) ?aF ?aB ?aS ?aL ?_;(case aR=>repeat (first | exact (Kd.R_reads' HO463.out).2.2 | (with_reducible refine Kd.C_alloc ?_ _) | (with_reducible refine Kd.C_drewN ?_ _) | (with_reducible refine Kd.C_drew ?_)));(case aB=>exact hB_);(case aF=>exact (fun k_ hk=>Kd.fresh' (Kd.R_lt (uR_ HO463)) k_ hk));(case aO=>exact (by (with_reducible repeat (first | apply Kd.R_alloc | apply Kd.R_drewN | apply Kd.R_drew));exact Kd.R_mono HO_3.out (fun _ hk=>hk.2)));(case aS=>exact (below_size hB_));(case aL=>have:=LMc9.out;omega);intro v465 w12 ho hb hg hat;rw [← Ny464.out] at ho;have HO466:=a0_ (ho);replace BK456:=a0_ (blk_grown (g:=gb456) (o:=.cells #[.slice A0_0 l0_0.length c0_0,.slice (some ad460) l0_1.length c0_1] 26 (0,0)) uq_ hg (Kd.R_ne HO_3.out BK456.out (by decide)));replace HO463:=a0_ (Kd.R_after (ok:=(fun _=>True)) (uR_ HO463) hg hat);replace HB:=a0_ (hb);clear HO_3;clear ho hb hg hat))
      go_roundg k1
      case measure=>have:=HK1.out;omega
      case rel=>exact⟨(y464),(wrap64 (x4_1+1)),(by first | rfl | (simp;done) | (simp [*];done)),H',⟨by have:=HK1.out;omega⟩,⟨by (with_reducible repeat (first | apply Kd.R_alloc | apply Kd.R_drewN | apply Kd.R_drew));exact Kd.R_mono HO466.out (fun _ hk=>trivial)⟩,⟨uq_⟩,⟨hB_⟩⟩
     ·
      rw [if_neg c9] at H;exact absurd H (by simp)
    ·
     rw [if_neg c7] at H;exact absurd H (by simp)
   ·
    rw [if_neg c6] at H;have c6b0:decide (x4_1<(l0_1.length:Int))=false:=decide_eq_false c6;clear c6;obtain rfl:=Option.some.inj H;have hcz14_0:=c20_ BK456;have hcz14_1:=c21_ BK456;have hfz14_0:=fz_ BK456 0;have hfz14_1:=fz_ BK456 1;go_wp2;go_ret;exact⟨_,rr_,by (with_reducible repeat (first | apply Kd.R_alloc | apply Kd.R_drewN | apply Kd.R_drew));exact HO_3.out,hB_⟩
def spec_l11Far.l0:Nat→List (S61)→Int→Int→Int→Int→Int→Option (Int × Int)
 | 0,_,_,_,_,_,_=>none
 | k+1,x0,x6,x578000,x578001,x583000,x583001=>if x6<(x0.length:Int) then (if 0≤x6 then ((spec_l2Far.f k ((rd_T61 x0 x6).f0.f0) ((rd_T61 x0 x6).f0.f1) ((rd_T61 x0 x6).f1.f0) ((rd_T61 x0 x6).f1.f1) x578000 x578001).bind fun bt584=>((spec_l2Least.f x583000 x583001 bt584.1 bt584.2).bind fun bt586=>(spec_l11Far.l0 k x0 (wrap64 (x6+1)) x578000 x578001 bt586.1 bt586.2))) else (none)) else (some (x583000,x583001))
def spec_l11Far.f (k:Nat)(l0:List (S61))(a1_0:Int)(a1_1:Int):Option (Int × Int):=if 0<(l0.length:Int) then ((spec_l2Far.f k ((rd_T61 l0 0).f0.f0) ((rd_T61 l0 0).f0.f1) ((rd_T61 l0 0).f1.f0) ((rd_T61 l0 0).f1.f1) a1_0 a1_1).bind fun bt580=>(spec_l11Far.l0 k l0 1 a1_0 a1_1 bt580.1 bt580.2)) else (none)
def spec_l11Far.T5:Bool × List (List Nat × List Nat):=(true,[([],[]),([],[]),([],[]),([1,2],[1,2]),([3],[3]),([],[]),([4,5],[4,5]),([0,6,6],[0,6]),([7,7,0,1,2,3,4,5,6,7],[7])])
def spec_l11Far.B5:List Nat:=[0,0,0,6,14,0,62,127,255]
theorem spec_l11Far.tab5:rtab .any (opsOf Tryd.f73 5)=spec_l11Far.T5:=by kernel_rfl
theorem spec_l11Far.bits5:waitsOk spec_l11Far.T5.2 spec_l11Far.B5=true:=by kernel_rfl
set_option maxHeartbeats 8000000 in
set_option maxRecDepth 100000 in
theorem spec_l11Far.calls (k:Nat)(A0:Option Addr)(c0:Nat)(l0:List (S61))(a1_0:Int)(a1_1:Int)(r1:Int)(r2:Int)(w:World)(hr0:Kd.C k61 w A0 l0.length l0)(hc0:l0.length≤c0)(h:spec_l11Far.f k l0 a1_0 a1_1=some (r1,r2)):
  Calls Tryd.prog 73 #[.slice A0 l0.length c0,.agg #[.int .i64 a1_0,.int .i64 a1_1]] w fun e w'=>e=.returned (.agg #[.int .i64 r1,.int .i64 r2])∧Below w.heap.size w w':=by
 have hu28:=Tryd.underlying28;have hu35:=Tryd.underlying35;have hu61:=Tryd.underlying61;have HR0:=Aside0.mk hr0;have HC0:=Aside0.mk hc0;clear hr0 hc0;have HB:=a0_ (Below.refl w.heap.size w);have H:(if 0<(l0.length:Int) then ((spec_l2Far.f k ((rd_T61 l0 0).f0.f0) ((rd_T61 l0 0).f0.f1) ((rd_T61 l0 0).f1.f0) ((rd_T61 l0 0).f1.f1) a1_0 a1_1).bind fun bt580=>(spec_l11Far.l0 k l0 1 a1_0 a1_1 bt580.1 bt580.2)) else (none))=some (r1,r2):=h;clear h;by_cases c3:0<(l0.length:Int)
 ·
  rw [if_pos c3] at H;have c3b0:decide (0<(l0.length:Int))=true:=decide_eq_true c3;have c3b1:decide (0<l0.length)=true:=decide_eq_true (by omega);clear c3;replace H:=Option.bind_eq_some_iff.mp H;obtain⟨⟨t580,t581⟩,A40,H⟩:=H
  (try dsimp only at H)
  have A4:=Aside0.mk A40;clear A40;have H':=Aside0.mk H;clear H;go_enter Tryd.func73,Tryd.ntmps73
  try go_wp2_with (first | ((with_reducible refine gate_dst (N:=3) rfl ?_);refine bx_ (N:=3) (cs:=#[.int .i64 a1_0,.int .i64 a1_1]) (t:=28) (h:=?_);intro gb577 hg w5 hbox hb;have BK577:=a0_ (hbox);have GW577:=gh_ HB hg;have GE577:=gh_ HB hg;replace HB:=sb_ HB hb;clear hb hbox hg) | ((with_reducible refine gate_dst (N:=4) rfl ?_);refine bx_ (N:=4) (cs:=#[.int .i64 0,.int .i64 0]) (t:=35) (h:=?_);intro gb578 hg w6 hbox hb;have BK578:=a0_ (hbox);have GW578:=gh_ HB hg;have GE578:=gh_ HB hg;have NB577_578:=nl_ BK577 hg;have NB578_577:=nr_ BK577 hg;replace BK577:=vb_ BK577 hb;replace HB:=sb_ HB hb;clear hb hbox hg))
  replace BK577:=a0_ (blk_drew BK577.out);replace BK578:=a0_ (blk_drew BK578.out);replace HB:=a0_ (below_drew1 HB.out);have p579:0≤(0:Int):=(by omega);have q579:0<(l0.length:Int):=od_;obtain⟨ad579,e579,hx579_0,hx579_1,hx579_2,hx579_3⟩:=at_T61 HR0.out 0 p579 q579;have hw579_3:=hx579_3
  (try simp only [Int.toNat_zero,Nat.zero_mul,Addr.add_zero'] at hw579_3)
  have hw579_2:=hx579_2
  (try simp only [Int.toNat_zero,Nat.zero_mul,Addr.add_zero'] at hw579_2)
  have hw579_1:=hx579_1
  (try simp only [Int.toNat_zero,Nat.zero_mul,Addr.add_zero'] at hw579_1)
  have hw579_0:=hx579_0
  (try simp only [Int.toNat_zero,Nat.zero_mul,Addr.add_zero'] at hw579_0)
  cases e579;have qi579:(0<l0.length)=True:=eq_true (by omega)
  (try simp only [Int.toNat_zero,Nat.zero_mul,Addr.add_zero'] at hx579_0)
  (try simp only [Int.toNat_zero,Nat.zero_mul,Addr.add_zero'] at hx579_1)
  (try simp only [Int.toNat_zero,Nat.zero_mul,Addr.add_zero'] at hx579_2)
  (try simp only [Int.toNat_zero,Nat.zero_mul,Addr.add_zero'] at hx579_3)
  replace hx579_0:=ce_ HB hx579_0;replace hx579_1:=ce_ HB hx579_1;replace hx579_2:=ce_ HB hx579_2;replace hx579_3:=ce_ HB hx579_3;replace p579:=eq_true p579;replace q579:=eq_true q579;refine start_ (n:=7) (S:=fun w'=>w'.cell? ⟨gb577,0,none⟩=some (.int .i64 a1_0)∧w'.cell? ⟨gb577,1,none⟩=some (.int .i64 a1_1)∧w'.cell? ad579=some (.int .i64 ((rd_T61 l0 0).f0.f0))∧w'.cell? ⟨ad579.block,ad579.off+1,none⟩=some (.int .i64 ((rd_T61 l0 0).f0.f1))∧w'.cell? ⟨ad579.block,ad579.off+2,none⟩=some (.int .i64 ((rd_T61 l0 0).f1.f0))∧w'.cell? ⟨ad579.block,ad579.off+3,none⟩=some (.int .i64 ((rd_T61 l0 0).f1.f1))) (ds:=[]) (Array.replicate 7 false) (by kernel_rfl) rfl rfl ⟨bc_,bc_,(ce_ HB hw579_0),(ce_ HB hw579_1),(ce_ HB hw579_2),(ce_ HB hw579_3)⟩ (fun hHeld=>?_);generalize w6.drew=w7 at BK577 BK578 HB hx579_0 hx579_1 hx579_2 hx579_3 hHeld ⊢
  refine pv_ 0 7 (bm 7 1) ?_;refine pv_ 1 8 (bm 7 3) ?_;refine tb6_ 2 9 (bm 7 7) hHeld ?_;refine tb6_ 3 10 (bm 7 15) hHeld ?_;refine join_ (σ:=Nat) 1 (bm 7 63) (fun s_=>[(11,.agg #[.int .i64 t580,.int .i64 t581]),(5,.pointer (some ⟨s_,0,none⟩))]) (fun s_ w'=>(w'.cell? ⟨gb577,0,none⟩=some (.int .i64 a1_0)∧w'.cell? ⟨gb577,1,none⟩=some (.int .i64 a1_1)∧w'.cell? ad579=some (.int .i64 ((rd_T61 l0 0).f0.f0))∧w'.cell? ⟨ad579.block,ad579.off+1,none⟩=some (.int .i64 ((rd_T61 l0 0).f0.f1))∧w'.cell? ⟨ad579.block,ad579.off+2,none⟩=some (.int .i64 ((rd_T61 l0 0).f1.f0))∧w'.cell? ⟨ad579.block,ad579.off+3,none⟩=some (.int .i64 ((rd_T61 l0 0).f1.f1)))∧(w'.heap[gb577]?=some (.cells #[.int .i64 a1_0,.int .i64 a1_1] 28 (0,0)))∧(w'.heap[gb578]?=some (.cells #[.int .i64 0,.int .i64 0] 35 (0,0)))∧(w'.heap[s_]?=some (.cells #[.int .i64 0,.int .i64 0] 35 (0,0)))∧(w.heap.size≤s_)∧(w.heap.size≤s_)∧(gb577≠s_)∧(s_≠gb577)∧(gb578≠s_)∧(s_≠gb578)∧(Below w.heap.size w w')) ?_ ?_;rotate_left
  ·
   intro hCont;refine two_ (i:=4) (j:=5) (Ni:=some 11) (Nj:=some 5) (bm 7 31) (bm 7 47) rfl rfl rfl rfl (by kernel_rfl) (by decide) (by decide) (fun K hK=>?_) (fun K hK=>?_)
   ·
    skip;refine goes_ Tryd.func107 (by kernel_rfl) rfl #[.agg #[.int .i64 ((rd_T61 l0 0).f0.f0),.int .i64 ((rd_T61 l0 0).f0.f1),.int .i64 ((rd_T61 l0 0).f1.f0),.int .i64 ((rd_T61 l0 0).f1.f1)],.agg #[.int .i64 a1_0,.int .i64 a1_1]] (by rfl) rfl rfl ma_ ?_
    with_reducible refine (spec_l2Far.calls k ((rd_T61 l0 0).f0.f0) ((rd_T61 l0 0).f0.f1) ((rd_T61 l0 0).f1.f0) ((rd_T61 l0 0).f1.f1) a1_0 a1_1 t580 t581 _ A4.out).mono ?_
    rintro e w8 ⟨rfl,hb⟩;refine⟨_,rfl,?_⟩;replace BK577:=vb_ BK577 hb;replace BK578:=vb_ BK578 hb;replace HB:=sb_ HB hb
    (try clear hb)
    (try clear hb2)
    (try clear hk)
    (try clear hi)
    refine hK.out _ _ ⟨bc_,bc_,(ce_ HB hw579_0),(ce_ HB hw579_1),(ce_ HB hw579_2),(ce_ HB hw579_3)⟩ (fun hHeld=>?_);clear hK K;refine no_ (h:=?_);refine one_ (i:=5) (N:=some 5) (bm 7 63) rfl rfl (by kernel_rfl) (by decide) (fun K hK=>?_);refine box_step ?hg (N:=5) ?hd (cs:=#[.int .i64 0,.int .i64 0]) (t:=35) ?hr ?_;(case hd=>rfl);(case hg=>rfl);(case hr=>first | (go_simp;done) | (go_simp;rfl));intro gb582 hg w9 hbox hb;have BK582:=a0_ (hbox);have GW582:=gh_ HB hg;have GE582:=gh_ HB hg;have NB577_582:=nl_ BK577 hg;have NB582_577:=nr_ BK577 hg;have NB578_582:=nl_ BK578 hg;have NB582_578:=nr_ BK578 hg;replace BK577:=vb_ BK577 hb;replace BK578:=vb_ BK578 hb;replace HB:=sb_ HB hb;clear hb hbox hg;refine hK.out _ _ ⟨bc_,bc_,(ce_ HB hw579_0),(ce_ HB hw579_1),(ce_ HB hw579_2),(ce_ HB hw579_3)⟩ (fun hHeld=>?_);clear hK K;refine no_ (h:=?_);exact norm_ (by simp only [putAll,Act.put,List.setIfInBounds_toArray,List.set_cons_zero,List.set_cons_succ]) (hCont (gb582) _ ⟨hHeld,uq_,uq_,uq_,GW582.out,GE582.out,NB577_582.out,NB582_577.out,NB578_582.out,NB582_578.out,hB_⟩)
   ·
    skip;refine box_step ?hg (N:=5) ?hd (cs:=#[.int .i64 0,.int .i64 0]) (t:=35) ?hr ?_;(case hd=>rfl);(case hg=>rfl);(case hr=>first | (go_simp;done) | (go_simp;rfl));intro gb582 hg w8 hbox hb;have BK582:=a0_ (hbox);have GW582:=gh_ HB hg;have GE582:=gh_ HB hg;have NB577_582:=nl_ BK577 hg;have NB582_577:=nr_ BK577 hg;have NB578_582:=nl_ BK578 hg;have NB582_578:=nr_ BK578 hg;replace BK577:=vb_ BK577 hb;replace BK578:=vb_ BK578 hb;replace HB:=sb_ HB hb;clear hb hbox hg;refine hK.out _ _ ⟨bc_,bc_,(ce_ HB hw579_0),(ce_ HB hw579_1),(ce_ HB hw579_2),(ce_ HB hw579_3)⟩ (fun hHeld=>?_);clear hK K;refine no_ (h:=?_);refine one_ (i:=4) (N:=some 11) (bm 7 63) rfl rfl (by kernel_rfl) (by decide) (fun K hK=>?_);refine goes_ Tryd.func107 (by kernel_rfl) rfl #[.agg #[.int .i64 ((rd_T61 l0 0).f0.f0),.int .i64 ((rd_T61 l0 0).f0.f1),.int .i64 ((rd_T61 l0 0).f1.f0),.int .i64 ((rd_T61 l0 0).f1.f1)],.agg #[.int .i64 a1_0,.int .i64 a1_1]] (by rfl) rfl rfl ma_ ?_
    with_reducible refine (spec_l2Far.calls k ((rd_T61 l0 0).f0.f0) ((rd_T61 l0 0).f0.f1) ((rd_T61 l0 0).f1.f0) ((rd_T61 l0 0).f1.f1) a1_0 a1_1 t580 t581 _ A4.out).mono ?_
    rintro e w9 ⟨rfl,hb⟩;refine⟨_,rfl,?_⟩;replace BK577:=vb_ BK577 hb;replace BK578:=vb_ BK578 hb;replace BK582:=vb_ BK582 hb;replace HB:=sb_ HB hb
    (try clear hb)
    (try clear hb2)
    (try clear hk)
    (try clear hi)
    refine hK.out _ _ ⟨bc_,bc_,(ce_ HB hw579_0),(ce_ HB hw579_1),(ce_ HB hw579_2),(ce_ HB hw579_3)⟩ (fun hHeld=>?_);clear hK K;refine no_ (h:=?_);exact norm_ (by simp only [putAll,Act.put,List.setIfInBounds_toArray,List.set_cons_zero,List.set_cons_succ]) (hCont (gb582) _ ⟨hHeld,uq_,uq_,uq_,GW582.out,GE582.out,NB577_582.out,NB582_577.out,NB578_582.out,NB582_578.out,hB_⟩)
  rintro gb582 w10 ⟨hS_,h0_,h1_,h2_,h3_,h4_,h5_,h6_,h7_,h8_,h9_⟩;have n0_:Aside0 (w10.heap[gb577]?=some (.cells #[.int .i64 a1_0,.int .i64 a1_1] 28 (0,0))):=⟨h0_⟩;have n1_:Aside0 (w10.heap[gb578]?=some (.cells #[.int .i64 0,.int .i64 0] 35 (0,0))):=⟨h1_⟩;have n2_:Aside0 (w10.heap[gb582]?=some (.cells #[.int .i64 0,.int .i64 0] 35 (0,0))):=⟨h2_⟩;have n3_:Aside0 (w.heap.size≤gb582):=⟨h3_⟩;have n4_:Aside0 (w.heap.size≤gb582):=⟨h4_⟩;have n5_:Aside0 (gb577≠gb582):=⟨h5_⟩;have n6_:Aside0 (gb582≠gb577):=⟨h6_⟩;have n7_:Aside0 (gb578≠gb582):=⟨h7_⟩;have n8_:Aside0 (gb582≠gb578):=⟨h8_⟩;have n9_:Aside0 (Below w.heap.size w w10):=⟨h9_⟩;clear BK577 BK578 HB;clear h0_ h1_ h2_ h3_ h4_ h5_ h6_ h7_ h8_ h9_;have BK577:=n0_;have BK578:=n1_;have BK582:=n2_;have GW582:=n3_;have GE582:=n4_;have NB577_582:=n5_;have NB582_577:=n6_;have NB578_582:=n7_;have NB582_578:=n8_;have HB:=n9_;clear n0_ n1_ n2_ n3_ n4_ n5_ n6_ n7_ n8_ n9_;have hHeld:w10.cell? ⟨gb577,0,none⟩=some (.int .i64 a1_0)∧w10.cell? ⟨gb577,1,none⟩=some (.int .i64 a1_1)∧w10.cell? ad579=some (.int .i64 ((rd_T61 l0 0).f0.f0))∧w10.cell? ⟨ad579.block,ad579.off+1,none⟩=some (.int .i64 ((rd_T61 l0 0).f0.f1))∧w10.cell? ⟨ad579.block,ad579.off+2,none⟩=some (.int .i64 ((rd_T61 l0 0).f1.f0))∧w10.cell? ⟨ad579.block,ad579.off+3,none⟩=some (.int .i64 ((rd_T61 l0 0).f1.f1)):=hS_;refine norm_ (a':=?_) ?_ ?_;rotate_left
  ·
   simp only [putAll,Act.put,List.setIfInBounds_toArray,List.set_cons_zero,List.set_cons_succ];rfl
  refine one_ (i:=6) (N:=none) (bm 7 127) rfl rfl (by kernel_rfl) (by decide) (fun K hK=>?_);have hs11:w10.cell? ⟨gb582,0,none⟩=some (.int .i64 0):=bc_;have hfs11:=blk_frozen BK582.out 0;have hns11_0:=NB577_582.out;have hns11_1:=NB578_582.out;have hms11_0:=NB582_577.out;have hms11_1:=NB582_578.out;have hs12:w10.cell? ⟨gb582,1,none⟩=some (.int .i64 0):=bc_;have hfs12:=blk_frozen BK582.out 1;have hns12_0:=NB577_582.out;have hns12_1:=NB578_582.out;have hms12_0:=NB582_577.out;have hms12_1:=NB582_578.out;refine skip_ (w1:=?_) (by rfl) rfl ?_ ?_;rotate_left
  ·
   go_simp;rfl
  refine hK.out _ _ ⟨((cell_far (p:=⟨gb582,_,none⟩) NB577_582.out _).trans (((cell_far (p:=⟨gb582,_,none⟩) NB577_582.out _).trans (hHeld.1)))),((cell_far (p:=⟨gb582,_,none⟩) NB577_582.out _).trans (((cell_far (p:=⟨gb582,_,none⟩) NB577_582.out _).trans (hHeld.2.1)))),((cell_far (p:=⟨gb582,_,none⟩) (by first | exact Nat.ne_of_lt (Nat.lt_of_lt_of_le (by have:=World.block_lt_of_cell? _ _ hw579_0;first | rwa [add_block] at this | exact this) GW582.out) | (rw [add_block];exact Nat.ne_of_lt (Nat.lt_of_lt_of_le (by have:=World.block_lt_of_cell? _ _ hw579_0;first | rwa [add_block] at this | exact this) GW582.out)) | (show (Addr.add _ _).block≠_;rw [add_block];exact Nat.ne_of_lt (Nat.lt_of_lt_of_le (by have:=World.block_lt_of_cell? _ _ hw579_0;first | rwa [add_block] at this | exact this) GW582.out)) | (dsimp only;exact Nat.ne_of_lt (Nat.lt_of_lt_of_le (by have:=World.block_lt_of_cell? _ _ hw579_0;first | rwa [add_block] at this | exact this) GW582.out))) _).trans (((cell_far (p:=⟨gb582,_,none⟩) (by first | exact Nat.ne_of_lt (Nat.lt_of_lt_of_le (by have:=World.block_lt_of_cell? _ _ hw579_0;first | rwa [add_block] at this | exact this) GW582.out) | (rw [add_block];exact Nat.ne_of_lt (Nat.lt_of_lt_of_le (by have:=World.block_lt_of_cell? _ _ hw579_0;first | rwa [add_block] at this | exact this) GW582.out)) | (show (Addr.add _ _).block≠_;rw [add_block];exact Nat.ne_of_lt (Nat.lt_of_lt_of_le (by have:=World.block_lt_of_cell? _ _ hw579_0;first | rwa [add_block] at this | exact this) GW582.out)) | (dsimp only;exact Nat.ne_of_lt (Nat.lt_of_lt_of_le (by have:=World.block_lt_of_cell? _ _ hw579_0;first | rwa [add_block] at this | exact this) GW582.out))) _).trans (hHeld.2.2.1)))),((cell_far (p:=⟨gb582,_,none⟩) (by first | exact Nat.ne_of_lt (Nat.lt_of_lt_of_le (by have:=World.block_lt_of_cell? _ _ hw579_1;first | rwa [add_block] at this | exact this) GW582.out) | (rw [add_block];exact Nat.ne_of_lt (Nat.lt_of_lt_of_le (by have:=World.block_lt_of_cell? _ _ hw579_1;first | rwa [add_block] at this | exact this) GW582.out)) | (show (Addr.add _ _).block≠_;rw [add_block];exact Nat.ne_of_lt (Nat.lt_of_lt_of_le (by have:=World.block_lt_of_cell? _ _ hw579_1;first | rwa [add_block] at this | exact this) GW582.out)) | (dsimp only;exact Nat.ne_of_lt (Nat.lt_of_lt_of_le (by have:=World.block_lt_of_cell? _ _ hw579_1;first | rwa [add_block] at this | exact this) GW582.out))) _).trans (((cell_far (p:=⟨gb582,_,none⟩) (by first | exact Nat.ne_of_lt (Nat.lt_of_lt_of_le (by have:=World.block_lt_of_cell? _ _ hw579_1;first | rwa [add_block] at this | exact this) GW582.out) | (rw [add_block];exact Nat.ne_of_lt (Nat.lt_of_lt_of_le (by have:=World.block_lt_of_cell? _ _ hw579_1;first | rwa [add_block] at this | exact this) GW582.out)) | (show (Addr.add _ _).block≠_;rw [add_block];exact Nat.ne_of_lt (Nat.lt_of_lt_of_le (by have:=World.block_lt_of_cell? _ _ hw579_1;first | rwa [add_block] at this | exact this) GW582.out)) | (dsimp only;exact Nat.ne_of_lt (Nat.lt_of_lt_of_le (by have:=World.block_lt_of_cell? _ _ hw579_1;first | rwa [add_block] at this | exact this) GW582.out))) _).trans (hHeld.2.2.2.1)))),((cell_far (p:=⟨gb582,_,none⟩) (by first | exact Nat.ne_of_lt (Nat.lt_of_lt_of_le (by have:=World.block_lt_of_cell? _ _ hw579_2;first | rwa [add_block] at this | exact this) GW582.out) | (rw [add_block];exact Nat.ne_of_lt (Nat.lt_of_lt_of_le (by have:=World.block_lt_of_cell? _ _ hw579_2;first | rwa [add_block] at this | exact this) GW582.out)) | (show (Addr.add _ _).block≠_;rw [add_block];exact Nat.ne_of_lt (Nat.lt_of_lt_of_le (by have:=World.block_lt_of_cell? _ _ hw579_2;first | rwa [add_block] at this | exact this) GW582.out)) | (dsimp only;exact Nat.ne_of_lt (Nat.lt_of_lt_of_le (by have:=World.block_lt_of_cell? _ _ hw579_2;first | rwa [add_block] at this | exact this) GW582.out))) _).trans (((cell_far (p:=⟨gb582,_,none⟩) (by first | exact Nat.ne_of_lt (Nat.lt_of_lt_of_le (by have:=World.block_lt_of_cell? _ _ hw579_2;first | rwa [add_block] at this | exact this) GW582.out) | (rw [add_block];exact Nat.ne_of_lt (Nat.lt_of_lt_of_le (by have:=World.block_lt_of_cell? _ _ hw579_2;first | rwa [add_block] at this | exact this) GW582.out)) | (show (Addr.add _ _).block≠_;rw [add_block];exact Nat.ne_of_lt (Nat.lt_of_lt_of_le (by have:=World.block_lt_of_cell? _ _ hw579_2;first | rwa [add_block] at this | exact this) GW582.out)) | (dsimp only;exact Nat.ne_of_lt (Nat.lt_of_lt_of_le (by have:=World.block_lt_of_cell? _ _ hw579_2;first | rwa [add_block] at this | exact this) GW582.out))) _).trans (hHeld.2.2.2.2.1)))),((cell_far (p:=⟨gb582,_,none⟩) (by first | exact Nat.ne_of_lt (Nat.lt_of_lt_of_le (by have:=World.block_lt_of_cell? _ _ hw579_3;first | rwa [add_block] at this | exact this) GW582.out) | (rw [add_block];exact Nat.ne_of_lt (Nat.lt_of_lt_of_le (by have:=World.block_lt_of_cell? _ _ hw579_3;first | rwa [add_block] at this | exact this) GW582.out)) | (show (Addr.add _ _).block≠_;rw [add_block];exact Nat.ne_of_lt (Nat.lt_of_lt_of_le (by have:=World.block_lt_of_cell? _ _ hw579_3;first | rwa [add_block] at this | exact this) GW582.out)) | (dsimp only;exact Nat.ne_of_lt (Nat.lt_of_lt_of_le (by have:=World.block_lt_of_cell? _ _ hw579_3;first | rwa [add_block] at this | exact this) GW582.out))) _).trans (((cell_far (p:=⟨gb582,_,none⟩) (by first | exact Nat.ne_of_lt (Nat.lt_of_lt_of_le (by have:=World.block_lt_of_cell? _ _ hw579_3;first | rwa [add_block] at this | exact this) GW582.out) | (rw [add_block];exact Nat.ne_of_lt (Nat.lt_of_lt_of_le (by have:=World.block_lt_of_cell? _ _ hw579_3;first | rwa [add_block] at this | exact this) GW582.out)) | (show (Addr.add _ _).block≠_;rw [add_block];exact Nat.ne_of_lt (Nat.lt_of_lt_of_le (by have:=World.block_lt_of_cell? _ _ hw579_3;first | rwa [add_block] at this | exact this) GW582.out)) | (dsimp only;exact Nat.ne_of_lt (Nat.lt_of_lt_of_le (by have:=World.block_lt_of_cell? _ _ hw579_3;first | rwa [add_block] at this | exact this) GW582.out))) _).trans (hHeld.2.2.2.2.2))))⟩ (fun hHeld=>?_)
  clear hK K;refine done_ (by kernel_rfl) ?_
  try go_wp2
  go_loopg [6] k (fun kq v6 w'=>∃ (x6_1:Int) (x583000_1:Int) (x583001_1:Int),v6=.int .i64 x6_1∧Aside0 (spec_l11Far.l0 kq l0 x6_1 a1_0 a1_1 x583000_1 x583001_1=some (r1,r2))∧Aside0 (kq≤k)∧Aside0 (w'.heap[gb577]?=some (.cells #[.int .i64 a1_0,.int .i64 a1_1] 28 (0,0)))∧Aside0 (w'.heap[gb578]?=some (.cells #[.int .i64 0,.int .i64 0] 35 (0,0)))∧Aside0 (w'.heap[gb582]?=some (.cells #[.int .i64 x583000_1,.int .i64 x583001_1] 35 (0,0)))∧Aside0 (Below w.heap.size w w'))
  case atStart=>exact⟨(1),(t580),(t581),(by first | rfl | (simp;done) | (simp [*];done)),H',⟨Nat.le_refl _⟩,⟨by (with_reducible repeat (first | refine blk_drewN ?_ _ | refine blk_drew ?_ | refine blk_alloc ?_ _));refine blk_far ?_ NB577_582.out _;(with_reducible repeat (first | refine blk_drewN ?_ _ | refine blk_drew ?_ | refine blk_alloc ?_ _));refine blk_far ?_ NB577_582.out _;(with_reducible repeat (first | refine blk_drewN ?_ _ | refine blk_drew ?_ | refine blk_alloc ?_ _));exact BK577.out⟩,⟨by (with_reducible repeat (first | refine blk_drewN ?_ _ | refine blk_drew ?_ | refine blk_alloc ?_ _));refine blk_far ?_ NB578_582.out _;(with_reducible repeat (first | refine blk_drewN ?_ _ | refine blk_drew ?_ | refine blk_alloc ?_ _));refine blk_far ?_ NB578_582.out _;(with_reducible repeat (first | refine blk_drewN ?_ _ | refine blk_drew ?_ | refine blk_alloc ?_ _));exact BK578.out⟩,⟨by (with_reducible repeat (first | refine blk_drewN ?_ _ | refine blk_drew ?_ | refine blk_alloc ?_ _));refine blk_put (cs:=#[.int .i64 t580,.int .i64 0]) ?_ 1 _ rfl;(with_reducible repeat (first | refine blk_drewN ?_ _ | refine blk_drew ?_ | refine blk_alloc ?_ _));refine blk_put (cs:=#[.int .i64 0,.int .i64 0]) ?_ 0 _ rfl;(with_reducible repeat (first | refine blk_drewN ?_ _ | refine blk_drew ?_ | refine blk_alloc ?_ _));exact BK582.out⟩,⟨hB_⟩⟩
  case round =>
   clear H';obtain⟨x6_1,x583000_1,x583001_1,rfl,HA,HK1,BK577,BK578,BK582,HB⟩:=hrel
   cases gk with
   | zero=>exact absurd HA.out (by simp [spec_l11Far.l0])
   | succ k1 =>
    have H:=HA.out;clear HA;simp only [spec_l11Far.l0] at H;by_cases c13:x6_1<(l0.length:Int)
    ·
     rw [if_pos c13] at H;have c13b0:decide (x6_1<(l0.length:Int))=true:=decide_eq_true c13;clear c13;by_cases c14:0≤x6_1
     ·
      rw [if_pos c14] at H;have c14b0:decide (0≤x6_1)=true:=decide_eq_true c14;clear c14;replace H:=Option.bind_eq_some_iff.mp H;obtain⟨⟨t584,t585⟩,A150,H⟩:=H
      (try dsimp only at H)
      have A15:=Aside0.mk A150;clear A150;replace H:=Option.bind_eq_some_iff.mp H;obtain⟨⟨t586,t587⟩,A160,H⟩:=H
      (try dsimp only at H)
      have A16:=Aside0.mk A160;clear A160;have H':=Aside0.mk H;clear H
      try go_wp2
      replace BK577:=a0_ (blk_drew BK577.out);replace BK578:=a0_ (blk_drew BK578.out);replace BK582:=a0_ (blk_drew BK582.out);replace HB:=a0_ (below_drew1 HB.out);have p583:0≤(x6_1:Int):=od_;have q583:x6_1<(l0.length:Int):=od_;obtain⟨ad583,e583,hx583_0,hx583_1,hx583_2,hx583_3⟩:=at_T61 HR0.out x6_1 p583 q583;have hw583_3:=hx583_3;have hw583_2:=hx583_2;have hw583_1:=hx583_1;have hw583_0:=hx583_0;obtain rfl:ad579=ad583:=(by injection e583);replace hx583_0:=ce_ HB hx583_0;replace hx583_1:=ce_ HB hx583_1;replace hx583_2:=ce_ HB hx583_2;replace hx583_3:=ce_ HB hx583_3;replace p583:=eq_true p583;replace q583:=eq_true q583;refine start_ (n:=9) (S:=fun w'=>w'.cell? ⟨gb582,0,none⟩=some (.int .i64 x583000_1)∧w'.cell? ⟨gb582,1,none⟩=some (.int .i64 x583001_1)∧w'.cell? ⟨gb577,0,none⟩=some (.int .i64 a1_0)∧w'.cell? ⟨gb577,1,none⟩=some (.int .i64 a1_1)∧w'.cell? (ad579.add ((x6_1).toNat*4))=some (.int .i64 ((rd_T61 l0 x6_1).f0.f0))∧w'.cell? ⟨(ad579.add ((x6_1).toNat*4)).block,(ad579.add ((x6_1).toNat*4)).off+1,none⟩=some (.int .i64 ((rd_T61 l0 x6_1).f0.f1))∧w'.cell? ⟨(ad579.add ((x6_1).toNat*4)).block,(ad579.add ((x6_1).toNat*4)).off+2,none⟩=some (.int .i64 ((rd_T61 l0 x6_1).f1.f0))∧w'.cell? ⟨(ad579.add ((x6_1).toNat*4)).block,(ad579.add ((x6_1).toNat*4)).off+3,none⟩=some (.int .i64 ((rd_T61 l0 x6_1).f1.f1))) (ds:=[8]) (Array.replicate 9 false) (by kernel_rfl) rfl rfl ⟨bc_,bc_,bc_,bc_,(ce_ HB hw583_0),(ce_ HB hw583_1),(ce_ HB hw583_2),(ce_ HB hw583_3)⟩ (fun hHeld=>?_);refine with_tabW spec_l11Far.tab5 spec_l11Far.bits5 (fun HT_ HW_=>?_);generalize wr.drew=w17 at BK577 BK578 BK582 HB hx583_0 hx583_1 hx583_2 hx583_3 hHeld ⊢
      refine pu_ HT_ 1 19 (bm 9 2) ?_;refine pu_ HT_ 2 20 (bm 9 6) ?_;refine pu_ HT_ 3 21 (bm 9 14) ?_;refine ta8_ HT_ HW_ 0 18 (bm 9 15) hHeld ?_;refine ta8_ HT_ HW_ 4 22 (bm 9 31) hHeld ?_;refine ta8_ HT_ HW_ 5 23 (bm 9 63) hHeld ?_;refine one_ (i:=6) (N:=some 24) (bm 9 127) rfl rfl (one_of HT_.out (by kernel_rfl)) (by decide) (fun K hK=>?_);refine goes_ Tryd.func107 (by kernel_rfl) rfl #[.agg #[.int .i64 ((rd_T61 l0 x6_1).f0.f0),.int .i64 ((rd_T61 l0 x6_1).f0.f1),.int .i64 ((rd_T61 l0 x6_1).f1.f0),.int .i64 ((rd_T61 l0 x6_1).f1.f1)],.agg #[.int .i64 a1_0,.int .i64 a1_1]] (by rfl) rfl rfl ma_ ?_
      with_reducible refine (spec_l2Far.calls k1 ((rd_T61 l0 x6_1).f0.f0) ((rd_T61 l0 x6_1).f0.f1) ((rd_T61 l0 x6_1).f1.f0) ((rd_T61 l0 x6_1).f1.f1) a1_0 a1_1 t584 t585 _ A15.out).mono ?_
      rintro e w18 ⟨rfl,hb⟩;refine⟨_,rfl,?_⟩;replace BK577:=vb_ BK577 hb;replace BK578:=vb_ BK578 hb;replace BK582:=vb_ BK582 hb;replace HB:=sb_ HB hb
      (try clear hb)
      (try clear hb2)
      (try clear hk)
      (try clear hi)
      refine hK.out _ _ ⟨bc_,bc_,bc_,bc_,(ce_ HB hw583_0),(ce_ HB hw583_1),(ce_ HB hw583_2),(ce_ HB hw583_3)⟩ (fun hHeld=>?_);clear hK K;refine no_ (h:=?_);refine one_ (i:=7) (N:=some 25) (bm 9 255) rfl rfl (one_of HT_.out (by kernel_rfl)) (by decide) (fun K hK=>?_);refine goes_ Tryd.func108 (by kernel_rfl) rfl #[.agg #[.int .i64 x583000_1,.int .i64 x583001_1],.agg #[.int .i64 t584,.int .i64 t585]] (by rfl) rfl rfl ma_ ?_
      with_reducible refine (spec_l2Least.calls x583000_1 x583001_1 t584 t585 t586 t587 _ A16.out).mono ?_
      rintro e w19 ⟨rfl,hb⟩;refine⟨_,rfl,?_⟩;replace BK577:=vb_ BK577 hb;replace BK578:=vb_ BK578 hb;replace BK582:=vb_ BK582 hb;replace HB:=sb_ HB hb
      (try clear hb)
      (try clear hb2)
      (try clear hk)
      (try clear hi)
      refine hK.out _ _ ⟨bc_,bc_,bc_,bc_,(ce_ HB hw583_0),(ce_ HB hw583_1),(ce_ HB hw583_2),(ce_ HB hw583_3)⟩ (fun hHeld=>?_);clear hK K;refine no_ (h:=?_);refine last_ (i:=8) (N:=none) (bm 9 511) rfl rfl (one_of HT_.out (by kernel_rfl)) (by decide) (fun K hK=>?_);have hs20:w19.cell? ⟨gb582,0,none⟩=some (.int .i64 x583000_1):=bc_;have hfs20:=blk_frozen BK582.out 0;have hns20_0:=NB577_582.out;have hns20_1:=NB578_582.out;have hms20_0:=NB582_577.out;have hms20_1:=NB582_578.out;have hs21:w19.cell? ⟨gb582,1,none⟩=some (.int .i64 x583001_1):=bc_;have hfs21:=blk_frozen BK582.out 1;have hns21_0:=NB577_582.out;have hns21_1:=NB578_582.out;have hms21_0:=NB582_577.out;have hms21_1:=NB582_578.out;refine skip_ (w1:=?_) (by rfl) rfl ?_ ?_;rotate_left
      ·
       go_simp;rfl
      refine hK.out _ _ ?_;clear hK K;refine done_ (done_of HT_.out (by kernel_rfl)) ?_
      try go_wp2
      go_roundg k1
      case measure=>have:=HK1.out;omega
      case rel=>exact⟨(wrap64 (x6_1+1)),(t586),(t587),(by first | rfl | (simp;done) | (simp [*];done)),H',⟨by have:=HK1.out;omega⟩,⟨by (with_reducible repeat (first | refine blk_drewN ?_ _ | refine blk_drew ?_ | refine blk_alloc ?_ _));refine blk_far ?_ NB577_582.out _;(with_reducible repeat (first | refine blk_drewN ?_ _ | refine blk_drew ?_ | refine blk_alloc ?_ _));refine blk_far ?_ NB577_582.out _;(with_reducible repeat (first | refine blk_drewN ?_ _ | refine blk_drew ?_ | refine blk_alloc ?_ _));exact BK577.out⟩,⟨by (with_reducible repeat (first | refine blk_drewN ?_ _ | refine blk_drew ?_ | refine blk_alloc ?_ _));refine blk_far ?_ NB578_582.out _;(with_reducible repeat (first | refine blk_drewN ?_ _ | refine blk_drew ?_ | refine blk_alloc ?_ _));refine blk_far ?_ NB578_582.out _;(with_reducible repeat (first | refine blk_drewN ?_ _ | refine blk_drew ?_ | refine blk_alloc ?_ _));exact BK578.out⟩,⟨by (with_reducible repeat (first | refine blk_drewN ?_ _ | refine blk_drew ?_ | refine blk_alloc ?_ _));refine blk_put (cs:=#[.int .i64 t586,.int .i64 x583001_1]) ?_ 1 _ rfl;(with_reducible repeat (first | refine blk_drewN ?_ _ | refine blk_drew ?_ | refine blk_alloc ?_ _));refine blk_put (cs:=#[.int .i64 x583000_1,.int .i64 x583001_1]) ?_ 0 _ rfl;(with_reducible repeat (first | refine blk_drewN ?_ _ | refine blk_drew ?_ | refine blk_alloc ?_ _));exact BK582.out⟩,⟨hB_⟩⟩
     ·
      rw [if_neg c14] at H;exact absurd H (by simp)
    ·
     rw [if_neg c13] at H;have c13b0:decide (x6_1<(l0.length:Int))=false:=decide_eq_false c13;clear c13;simp only [Option.some.injEq,Prod.mk.injEq] at H;obtain⟨rfl,rfl⟩:=H;have hnb22:=NB582_577.out;have hnc22:=NB577_582.out;have hnb23:=NB582_578.out;have hnc23:=NB578_582.out;have hcz24_0:=c20_ BK582;have hcz24_1:=c21_ BK582;have hfz24_0:=fz_ BK582 0;have hfz24_1:=fz_ BK582 1;have hnb25:=NB578_577.out;have hnc25:=NB577_578.out;have hcz26_0:=c20_ BK578;have hcz26_1:=c21_ BK578;have hfz26_0:=fz_ BK578 0;have hfz26_1:=fz_ BK578 1;go_wp2;refine bodyPost_ret (results_cell_row rfl _ _ gb578 35 #[.int .i64 x583000_1,.int .i64 x583001_1] (0,0) _ rfl (by (with_reducible repeat (first | refine blk_drewN ?_ _ | refine blk_drew ?_ | refine blk_alloc ?_ _));refine blk_put (cs:=#[.int .i64 x583000_1,.int .i64 0]) ?_ 1 _ rfl;(with_reducible repeat (first | refine blk_drewN ?_ _ | refine blk_drew ?_ | refine blk_alloc ?_ _));refine blk_put (cs:=#[.int .i64 0,.int .i64 0]) ?_ 0 _ rfl;(with_reducible repeat (first | refine blk_drewN ?_ _ | refine blk_drew ?_ | refine blk_alloc ?_ _));exact BK578.out) Tryd.underlying35 rfl (by kernel_rfl)) rfl ?_;exact⟨rr_,hB_⟩
 ·
  rw [if_neg c3] at H;exact absurd H (by simp)
def spec_PlateFar.j0:Nat→Bool→List (S28)→List (List (S28))→Int→Int→Option (Int × Int)
 | 0,_,_,_,_,_=>none
 | k+1,x12,x589000,x589001,x590000,x590001=>if x12=true then (some (0,0)) else ((spec_l11Edges.f k x589000 x589001).bind fun t593=>((spec_l11Far.f k t593 x590000 x590001).bind fun bt596=>(some (bt596.1,bt596.2))))
def spec_PlateFar.f (k:Nat)(l0_0:List (S28))(l0_1:List (List (S28)))(a1_0:Int)(a1_1:Int):Option (Int × Int):=(spec_PlateOk.f k l0_0 l0_1).bind fun t591=>(if t591=true then ((spec_PtOk.f a1_0 a1_1).bind fun t592=>(spec_PlateFar.j0 k (!t592) l0_0 l0_1 a1_0 a1_1)) else (spec_PlateFar.j0 k true l0_0 l0_1 a1_0 a1_1))
set_option maxHeartbeats 8000000 in
set_option maxRecDepth 100000 in
theorem spec_PlateFar.calls (k:Nat)(A0_0:Option Addr)(c0_0:Nat)(l0_0:List (S28))(A0_1:Option Addr)(c0_1:Nat)(l0_1:List (List (S28)))(a1_0:Int)(a1_1:Int)(r1:Int)(r2:Int)(w:World)(hr0_0:Kd.C k28 w A0_0 l0_0.length l0_0)(hc0_0:l0_0.length≤c0_0)(hr0_1:Kd.C (Kd.slice 28 k28) w A0_1 l0_1.length l0_1)(hc0_1:l0_1.length≤c0_1)(h:spec_PlateFar.f k l0_0 l0_1 a1_0 a1_1=some (r1,r2)):
  Calls Tryd.prog 31 #[.agg #[.slice A0_0 l0_0.length c0_0,.slice A0_1 l0_1.length c0_1],.agg #[.int .i64 a1_0,.int .i64 a1_1]] w fun e w'=>e=.returned (.agg #[.int .i64 r1,.int .i64 r2])∧Below w.heap.size w w':=by
 have hu26:=Tryd.underlying26;have hu28:=Tryd.underlying28;have hu35:=Tryd.underlying35;have HR0_0:=Aside0.mk hr0_0;have HC0_0:=Aside0.mk hc0_0;clear hr0_0 hc0_0;have HR0_1:=Aside0.mk hr0_1;have HC0_1:=Aside0.mk hc0_1;clear hr0_1 hc0_1;have HB:=a0_ (Below.refl w.heap.size w);have H:((spec_PlateOk.f k l0_0 l0_1).bind fun t591=>(if t591=true then ((spec_PtOk.f a1_0 a1_1).bind fun t592=>(spec_PlateFar.j0 k (!t592) l0_0 l0_1 a1_0 a1_1)) else (spec_PlateFar.j0 k true l0_0 l0_1 a1_0 a1_1)))=some (r1,r2):=h;clear h;have HC3:=Aside0.mk H;clear H;go_enter Tryd.func31,Tryd.ntmps31;go_upto_region 1 with (first | ((with_reducible refine gate_dst (N:=2) rfl ?_);refine bx_ (N:=2) (cs:=#[.slice A0_0 l0_0.length c0_0,.slice A0_1 l0_1.length c0_1]) (t:=26) (h:=?_);intro gb588 hg w4 hbox hb;have BK588:=a0_ (hbox);have GW588:=gh_ HB hg;have GE588:=gh_ HB hg;replace HB:=sb_ HB hb;clear hb hbox hg) | ((with_reducible refine gate_dst (N:=3) rfl ?_);refine bx_ (N:=3) (cs:=#[.int .i64 a1_0,.int .i64 a1_1]) (t:=28) (h:=?_);intro gb589 hg w5 hbox hb;have BK589:=a0_ (hbox);have GW589:=gh_ HB hg;have GE589:=gh_ HB hg;have NB588_589:=nl_ BK588 hg;have NB589_588:=nr_ BK588 hg;replace BK588:=vb_ BK588 hb;replace HB:=sb_ HB hb;clear hb hbox hg) | ((with_reducible refine gate_dst (N:=4) rfl ?_);refine bx_ (N:=4) (cs:=#[.int .i64 0,.int .i64 0]) (t:=35) (h:=?_);intro gb590 hg w6 hbox hb;have BK590:=a0_ (hbox);have GW590:=gh_ HB hg;have GE590:=gh_ HB hg;have NB588_590:=nl_ BK588 hg;have NB590_588:=nr_ BK588 hg;have NB589_590:=nl_ BK589 hg;have NB590_589:=nr_ BK589 hg;replace BK588:=vb_ BK588 hb;replace BK589:=vb_ BK589 hb;replace HB:=sb_ HB hb;clear hb hbox hg))
 (try simp only [Act.put,List.setIfInBounds_toArray,List.set_cons_zero,List.set_cons_succ])
 go_cut [12] (fun v12 wc=>∃ (kq:Nat) (x12_2:Bool),v12=.bool x12_2∧Aside0 (spec_PlateFar.j0 kq x12_2 l0_0 l0_1 a1_0 a1_1=some (r1,r2))∧Aside0 (kq≤k)∧Aside0 (wc.heap[gb588]?=some (.cells #[(.slice A0_0 l0_0.length c0_0),(.slice A0_1 l0_1.length c0_1)] 26 (0,0)))∧Aside0 (wc.heap[gb589]?=some (.cells #[.int .i64 a1_0,.int .i64 a1_1] 28 (0,0)))∧Aside0 (wc.heap[gb590]?=some (.cells #[.int .i64 0,.int .i64 0] 35 (0,0)))∧Aside0 (Below w.heap.size w wc))
 case first =>
  have H:=HC3.out;clear HC3;replace H:=Option.bind_eq_some_iff.mp H;obtain⟨t591,A70,H⟩:=H
  (try dsimp only at H)
  have A7:=Aside0.mk A70;clear A70;by_cases c8:t591=true
  ·
   subst c8;rw [if_pos rfl] at H
   (try dsimp only at H)
   replace H:=Option.bind_eq_some_iff.mp H;obtain⟨t592,A90,H⟩:=H
   (try dsimp only at H)
   have A9:=Aside0.mk A90;clear A90;have H':=Aside0.mk H;clear H;have hnb10:=NB588_589.out;have hnc10:=NB589_588.out;have hnb11:=NB588_590.out;have hnc11:=NB590_588.out;have hcz12_0:=c20_ BK588;have hcz12_1:=c21_ BK588;have hfz12_0:=fz_ BK588 0;have hfz12_1:=fz_ BK588 1;go_wp2_with (first | ((with_reducible refine gate_callee (f:=18) rfl ?_);refine gL_ (some 6) Tryd.func18 #[.agg #[.slice A0_0 l0_0.length c0_0,.slice A0_1 l0_1.length c0_1]] (h:=?_);(with_reducible refine (spec_PlateOk.calls k _ _ l0_0 _ _ l0_1 true _ ?side1 ?side2 ?side3 ?side4 A7.out).mono ?_);(case side1=>repeat (first | exact (Kd.C_below HR0_0.out HB.out) | (with_reducible refine Kd.C_alloc ?_ _) | (with_reducible refine Kd.C_drewN ?_ _) | (with_reducible refine Kd.C_drew ?_)));(case side2=>exact HC0_0.out);(case side3=>repeat (first | exact (Kd.C_below HR0_1.out HB.out) | (with_reducible refine Kd.C_alloc ?_ _) | (with_reducible refine Kd.C_drewN ?_ _) | (with_reducible refine Kd.C_drew ?_)));(case side4=>exact HC0_1.out);rintro e w13 ⟨rfl,hb⟩;refine⟨_,rfl,?_⟩;replace BK588:=vb_ BK588 hb;replace BK589:=vb_ BK589 hb;replace BK590:=vb_ BK590 hb;replace HB:=sb_ HB hb;(try clear hb);have hnb14:=NB589_590.out;have hnc14:=NB590_589.out;have hcz15_0:=c20_ BK589;have hcz15_1:=c21_ BK589;have hfz15_0:=fz_ BK589 0;have hfz15_1:=fz_ BK589 1) | (go_at_call 19;(with_reducible refine (spec_PtOk.calls a1_0 a1_1 t592 _ A9.out).mono ?_);rintro e w16 ⟨rfl,hb⟩;replace BK588:=vb_ BK588 hb;replace BK589:=vb_ BK589 hb;replace BK590:=vb_ BK590 hb;replace HB:=sb_ HB hb;(try clear hb)));go_meet
   case rel=>exact⟨_,(!t592),(by first | rfl | (simp;done) | (simp [*];done)),H',⟨by first | omega | exact Nat.le_refl _⟩,⟨uq_⟩,⟨uq_⟩,⟨uq_⟩,⟨hB_⟩⟩
  ·
   replace c8:=Bool.eq_false_iff.mpr c8;subst c8;rw [if_neg (show ¬ (false=true) by decide)] at H
   (try dsimp only at H)
   have H':=Aside0.mk H;clear H;have hnb17:=NB588_589.out;have hnc17:=NB589_588.out;have hnb18:=NB588_590.out;have hnc18:=NB590_588.out;have hcz19_0:=c20_ BK588;have hcz19_1:=c21_ BK588;have hfz19_0:=fz_ BK588 0;have hfz19_1:=fz_ BK588 1;go_wp2_with (first | ((with_reducible refine gate_callee (f:=18) rfl ?_);refine gL_ (some 6) Tryd.func18 #[.agg #[.slice A0_0 l0_0.length c0_0,.slice A0_1 l0_1.length c0_1]] (h:=?_);(with_reducible refine (spec_PlateOk.calls k _ _ l0_0 _ _ l0_1 false _ ?side1 ?side2 ?side3 ?side4 A7.out).mono ?_);(case side1=>repeat (first | exact (Kd.C_below HR0_0.out HB.out) | (with_reducible refine Kd.C_alloc ?_ _) | (with_reducible refine Kd.C_drewN ?_ _) | (with_reducible refine Kd.C_drew ?_)));(case side2=>exact HC0_0.out);(case side3=>repeat (first | exact (Kd.C_below HR0_1.out HB.out) | (with_reducible refine Kd.C_alloc ?_ _) | (with_reducible refine Kd.C_drewN ?_ _) | (with_reducible refine Kd.C_drew ?_)));(case side4=>exact HC0_1.out);rintro e w20 ⟨rfl,hb⟩;refine⟨_,rfl,?_⟩;replace BK588:=vb_ BK588 hb;replace BK589:=vb_ BK589 hb;replace BK590:=vb_ BK590 hb;replace HB:=sb_ HB hb;(try clear hb)));go_meet
   case rel=>exact⟨_,(true),(by first | rfl | (simp;done) | (simp [*];done)),H',⟨by first | omega | exact Nat.le_refl _⟩,⟨uq_⟩,⟨uq_⟩,⟨uq_⟩,⟨hB_⟩⟩
 case rest =>
  clear HC3;obtain⟨kq,x12_2,rfl,HA,HJ2,BK588,BK589,BK590,HB⟩:=hcut
  cases kq with
  | zero=>exact absurd HA.out (by simp [spec_PlateFar.j0])
  | succ kj2 =>
   have H:=HA.out;clear HA;simp only [spec_PlateFar.j0] at H;by_cases c21:x12_2=true
   ·
    subst c21;rw [if_pos rfl] at H
    (try dsimp only at H)
    simp only [Option.some.injEq,Prod.mk.injEq] at H;obtain⟨rfl,rfl⟩:=H;have hnb22:=NB590_588.out;have hnc22:=NB588_590.out;have hnb23:=NB590_589.out;have hnc23:=NB589_590.out;have hcz24_0:=c20_ BK590;have hcz24_1:=c21_ BK590;have hfz24_0:=fz_ BK590 0;have hfz24_1:=fz_ BK590 1;go_wp2;refine bodyPost_ret (results_cell_row rfl _ _ gb590 35 #[.int .i64 0,.int .i64 0] (0,0) _ rfl (by (with_reducible repeat (first | refine blk_drewN ?_ _ | refine blk_drew ?_ | refine blk_alloc ?_ _));refine blk_put (cs:=#[.int .i64 0,.int .i64 0]) ?_ 1 _ rfl;(with_reducible repeat (first | refine blk_drewN ?_ _ | refine blk_drew ?_ | refine blk_alloc ?_ _));refine blk_put (cs:=#[.int .i64 0,.int .i64 0]) ?_ 0 _ rfl;(with_reducible repeat (first | refine blk_drewN ?_ _ | refine blk_drew ?_ | refine blk_alloc ?_ _));exact BK590.out) Tryd.underlying35 rfl (by kernel_rfl)) rfl ?_;exact⟨rr_,hB_⟩
   ·
    replace c21:=Bool.eq_false_iff.mpr c21;subst c21;rw [if_neg (show ¬ (false=true) by decide)] at H
    (try dsimp only at H)
    replace H:=Option.bind_eq_some_iff.mp H;obtain⟨t593,A250,H⟩:=H
    (try dsimp only at H)
    have A25:=Aside0.mk A250;clear A250;replace H:=Option.bind_eq_some_iff.mp H;obtain⟨⟨t596,t597⟩,A260,H⟩:=H
    (try dsimp only at H)
    have A26:=Aside0.mk A260;clear A260;simp only [Option.some.injEq,Prod.mk.injEq] at H;obtain⟨rfl,rfl⟩:=H
    try go_wp2
    replace BK588:=a0_ (blk_drew BK588.out);replace BK589:=a0_ (blk_drew BK589.out);replace BK590:=a0_ (blk_drew BK590.out);replace HB:=a0_ (below_drew1 HB.out);refine start_ (n:=5) (S:=fun w'=>w'.cell? ⟨gb588,0,none⟩=some (.slice A0_0 l0_0.length c0_0)∧w'.cell? ⟨gb588,1,none⟩=some (.slice A0_1 l0_1.length c0_1)∧w'.cell? ⟨gb589,0,none⟩=some (.int .i64 a1_0)∧w'.cell? ⟨gb589,1,none⟩=some (.int .i64 a1_1)) (ds:=[]) (Array.replicate 5 false) (by kernel_rfl) rfl rfl ⟨bc_,bc_,bc_,bc_⟩ (fun hHeld=>?_);generalize wc.drew=w27 at BK588 BK589 BK590 HB hHeld ⊢
    refine tb4_ 0 14 #[true,false,false,false,false] hHeld ?_;refine tb4_ 2 16 #[true,false,true,false,false] hHeld ?_;refine one_ (i:=1) (N:=some 15) #[true,true,true,false,false] rfl rfl (by kernel_rfl) (by decide) (fun K hK=>?_);refine goes_ Tryd.func66 (by kernel_rfl) rfl #[.agg #[.slice A0_0 l0_0.length c0_0,.slice A0_1 l0_1.length c0_1]] (by rfl) rfl rfl ma_ ?_
    with_reducible refine (spec_l11Edges.calls kj2 _ _ l0_0 _ _ l0_1 t593 _ ?side1 ?side2 ?side3 ?side4 A25.out).mono ?_
    (case side1=>repeat (first | exact (Kd.C_below HR0_0.out HB.out) | (with_reducible refine Kd.C_alloc ?_ _) | (with_reducible refine Kd.C_drewN ?_ _) | (with_reducible refine Kd.C_drew ?_)))
    (case side2=>exact HC0_0.out)
    (case side3=>repeat (first | exact (Kd.C_below HR0_1.out HB.out) | (with_reducible refine Kd.C_alloc ?_ _) | (with_reducible refine Kd.C_drewN ?_ _) | (with_reducible refine Kd.C_drew ?_)))
    (case side4=>exact HC0_1.out)
    rintro e w28 ⟨v594,rfl,ho0,hb⟩;refine⟨_,rfl,?_⟩;have HO595:=a0_ (Kd.R_lower ho0 (below_size hB_));replace BK588:=vb_ BK588 hb;replace BK589:=vb_ BK589 hb;replace BK590:=vb_ BK590 hb;replace HB:=sb_ HB hb
    (try clear hb)
    (try clear hb2)
    (try clear hk)
    (try clear hi)
    (try clear ho0)
    obtain⟨Ao29,co29,eo29⟩:=Kd.R_slice HO595.out
    (first | subst eo29 | (injection eo29 with f1_ f2_ f3_;have f4_:=f1_.symm;have f5_:=f3_.symm;clear f1_ f2_ f3_;subst f4_;subst f5_))
    refine hK.out _ _ ⟨bc_,bc_,bc_,bc_⟩ (fun hHeld=>?_);clear hK K;refine no_ (h:=?_);refine one_ (i:=3) (N:=some 17) #[true,true,true,true,false] rfl rfl (by kernel_rfl) (by decide) (fun K hK=>?_);refine goes_ Tryd.func73 (by kernel_rfl) rfl #[.slice Ao29 t593.length co29,.agg #[.int .i64 a1_0,.int .i64 a1_1]] (by rfl) rfl rfl ma_ ?_
    with_reducible refine (spec_l11Far.calls kj2 _ _ t593 a1_0 a1_1 t596 t597 _ ?side1 ?side2 A26.out).mono ?_
    (case side1=>repeat (first | exact (Kd.R_reads' HO595.out).2.2 | (with_reducible refine Kd.C_alloc ?_ _) | (with_reducible refine Kd.C_drewN ?_ _) | (with_reducible refine Kd.C_drew ?_)))
    (case side2=>exact (Kd.R_reads' HO595.out).2.1)
    rintro e w30 ⟨rfl,hb⟩;refine⟨_,rfl,?_⟩;replace HO595:=rb_ HO595 hb;replace BK588:=vb_ BK588 hb;replace BK589:=vb_ BK589 hb;replace BK590:=vb_ BK590 hb;replace HB:=sb_ HB hb
    (try clear hb)
    (try clear hb2)
    (try clear hk)
    (try clear hi)
    refine hK.out _ _ ⟨bc_,bc_,bc_,bc_⟩ (fun hHeld=>?_);clear hK K;refine no_ (h:=?_);refine one_ (i:=4) (N:=none) #[true,true,true,true,true] rfl rfl (by kernel_rfl) (by decide) (fun K hK=>?_);have hs31:w30.cell? ⟨gb590,0,none⟩=some (.int .i64 0):=bc_;have hfs31:=blk_frozen BK590.out 0;have hns31_0:=NB588_590.out;have hns31_1:=NB589_590.out;have hms31_0:=NB590_588.out;have hms31_1:=NB590_589.out;have hs32:w30.cell? ⟨gb590,1,none⟩=some (.int .i64 0):=bc_;have hfs32:=blk_frozen BK590.out 1;have hns32_0:=NB588_590.out;have hns32_1:=NB589_590.out;have hms32_0:=NB590_588.out;have hms32_1:=NB590_589.out;refine skip_ (w1:=?_) (by rfl) rfl ?_ ?_;rotate_left
    ·
     go_simp;rfl
    refine hK.out _ _ ⟨((cell_far (p:=⟨gb590,_,none⟩) NB588_590.out _).trans (((cell_far (p:=⟨gb590,_,none⟩) NB588_590.out _).trans (hHeld.1)))),((cell_far (p:=⟨gb590,_,none⟩) NB588_590.out _).trans (((cell_far (p:=⟨gb590,_,none⟩) NB588_590.out _).trans (hHeld.2.1)))),((cell_far (p:=⟨gb590,_,none⟩) NB589_590.out _).trans (((cell_far (p:=⟨gb590,_,none⟩) NB589_590.out _).trans (hHeld.2.2.1)))),((cell_far (p:=⟨gb590,_,none⟩) NB589_590.out _).trans (((cell_far (p:=⟨gb590,_,none⟩) NB589_590.out _).trans (hHeld.2.2.2))))⟩ (fun hHeld=>?_);clear hK K;refine done_ (by kernel_rfl) ?_
    try go_wp2
    refine bodyPost_ret (results_cell_row rfl _ _ gb590 35 #[.int .i64 t596,.int .i64 t597] (0,0) _ rfl (by (with_reducible repeat (first | refine blk_drewN ?_ _ | refine blk_drew ?_ | refine blk_alloc ?_ _));refine blk_put (cs:=#[.int .i64 t596,.int .i64 0]) ?_ 1 _ rfl;(with_reducible repeat (first | refine blk_drewN ?_ _ | refine blk_drew ?_ | refine blk_alloc ?_ _));refine blk_put (cs:=#[.int .i64 0,.int .i64 0]) ?_ 0 _ rfl;(with_reducible repeat (first | refine blk_drewN ?_ _ | refine blk_drew ?_ | refine blk_alloc ?_ _));exact BK590.out) Tryd.underlying35 rfl (by kernel_rfl)) rfl ?_;exact⟨rr_,hB_⟩
end Go.Proofs.YtkefmnmoaomlhaaDoor.X
end
section
set_option linter.unusedVariables false
set_option linter.unusedSimpArgs false
namespace Mort
def farL (es:List Seg)(p:Pt):Frac:=match es with
 | []=>(0,0)
 | e::r=>r.foldl (fun a s=>least a (segFar s p)) (segFar e p)
def plateFar (P:Plate)(p:Pt):Frac:=if plateOk P && ptOk p then farL (plateEdges P) p else (0,0)
theorem fold_least {p:Pt}(hp:ptOk p=true):∀ (r:List Seg) (a:Frac),fracOk a=true→(∀ e∈r,segOk e=true) →
  fracOk (r.foldl (fun a s=>least a (segFar s p)) a)=true∧val (r.foldl (fun a s=>least a (segFar s p)) a)≤val a∧(∀ e∈r,val (r.foldl (fun a s=>least a (segFar s p)) a)≤val (segFar e p)) ∧
  (r.foldl (fun a s=>least a (segFar s p)) a=a∨∃ e∈r,r.foldl (fun a s=>least a (segFar s p)) a=segFar e p):=by
 intro r
 induction r with
 | nil=>intro a ha _;exact⟨ha,Rat.le_refl,fun e he=>by simp at he,.inl rfl⟩
 | cons s r ih =>
  intro a ha hr;have hs:=(segFar_ok (hr s List.mem_cons_self) hp).1;obtain⟨⟨l1,l2⟩,l3⟩:=val_least ha hs;obtain⟨i1,i2,i3,i4⟩:=ih (least a (segFar s p)) (least_ok ha hs) (fun e he=>hr e (List.mem_cons_of_mem _ he));rw [List.foldl_cons];refine⟨i1,Rat.le_trans i2 l1,fun e he=>?_,?_⟩
  ·
   rcases List.mem_cons.1 he with rfl | he
   ·
    exact Rat.le_trans i2 l2
   ·
    exact i3 e he
  ·
   rcases i4 with h | ⟨e,he,h⟩
   ·
    rw [h]
    rcases l3 with h3 | h3
    ·
     exact .inl h3
    ·
     exact .inr ⟨s,List.mem_cons_self,h3⟩
   ·
    exact .inr ⟨e,List.mem_cons_of_mem _ he,h⟩
theorem farL_spec {es:List Seg}{p:Pt}(hp:ptOk p=true)(hne:0<es.length)(hok:∀ e∈es,segOk e=true):
  fracOk (farL es p)=true∧(∀ e∈es,val (farL es p)≤val (segFar e p))∧∃ e∈es,farL es p=segFar e p:=by
 cases es with
 | nil=>simp at hne
 | cons e r =>
  obtain⟨i1,i2,i3,i4⟩:=fold_least hp r (segFar e p) (segFar_ok (hok e List.mem_cons_self) hp).1 (fun s hs=>hok s (List.mem_cons_of_mem _ hs));refine⟨i1,fun s hs=>?_,?_⟩
  ·
   rcases List.mem_cons.1 hs with rfl | hs
   ·
    exact i2
   ·
    exact i3 s hs
  ·
   rcases i4 with h | ⟨s,hs,h⟩
   ·
    exact⟨e,List.mem_cons_self,h⟩
   ·
    exact⟨s,List.mem_cons_of_mem _ hs,h⟩
theorem plateEdges_ok {P:Plate}(g:PlateGood P):(∀ e∈plateEdges P,segOk e=true)∧0<(plateEdges P).length:=by
 refine⟨fun e he=>?_,?_⟩
 ·
  unfold plateEdges at he
  rcases List.mem_append.1 he with he | he
  ·
   exact ((loopOk_iff _).1 g.outer).2.2.1 e he
  ·
   obtain⟨h,hh,he⟩:=List.mem_flatMap.1 he;exact ((loopOk_iff _).1 (g.holes h hh)).2.2.1 e he
 ·
  unfold plateEdges;rw [List.length_append,edges_length];have:=loop_pos g.outer;omega
end Mort
namespace Go.Proofs.YtkefmnmoaomlhaaDoor.X
open Go.RowKit Go.Proofs.YtkefmnmoaomlhaaDoorW.PrintWords Go.Proofs.YtkefmnmoaomlhaaDoorW.PrintLast Go.Proofs.YtkefmnmoaomlhaaDoorW.PrintMore
open Mort (edges loopOk ptOk segOk has meet ed pairOk joined apartB plateOk plateInOf plateIn PlateGood inOf segMeet segFar least fracOk fracCmp cmp0 farL plateFar plateEdges)
theorem edgesS_eq (z:List S28):edgesS z=esOf z:=by
 unfold edgesS esOf;apply List.ext_getElem
 ·
  simp
 ·
  intro i h1 h2;simp
theorem allEdges_pl (o:List S28)(H:List (List S28)):(allEdges (o::H)).map sgP=plateEdges (pl o H):=by
 unfold allEdges plateEdges pl;rw [List.flatMap_cons,List.map_append,edgesS_eq,esOf_edges]
 congr 1
 induction H with
 | nil=>rfl
 | cons z H ih=>rw [List.flatMap_cons,List.map_append,edgesS_eq,esOf_edges,List.map_cons,List.flatMap_cons,ih]
theorem farE_L (E:List S61)(p:Mort.Pt):farE E p=farL (E.map sgP) p:=by
 cases E with
 | nil=>rfl
 | cons e r =>
  show r.foldl _ _=(r.map sgP).foldl _ _
  rw [List.foldl_map]
theorem iPlateFar (o:List S28)(H:List (List S28))(x y:Int):impl_PlateFar.f o H x y=some ((plateFar (pl o H) (x,y)).1,(plateFar (pl o H) (x,y)).2):=by
 unfold impl_PlateFar.f plateFar;rw [iBodyOk,farE_L,allEdges_pl]
theorem edges_facts {o:List S28}{H:List (List S28)}(h:plateOk (pl o H)=true):(∀ s∈allEdges (o::H),segOk (sgP s)=true)∧0<(allEdges (o::H)).length∧(allEdges (o::H)).length≤24∧H.length≤2:=by
 rw [← iBodyOk] at h;obtain⟨e0,es,hEe,hle⟩:=allEdges_cons h;refine⟨allEdges_ok h,by rw [hEe];simp,by rw [hEe];simp only [List.length_cons];omega,((bodyOkB_iff o H).1 h).1⟩
theorem sL11Edges {k:Nat}(hk:1000≤k){o:List S28}{H:List (List S28)}(h:plateOk (pl o H)=true):spec_l11Edges.f k o H=some (allEdges (o::H)):=by
 have g:=good_of h;obtain⟨o3,o8,_⟩:=ok_facts (z:=o) g.outer;have hH:∀ z∈H,z.length≤8:=fun z hz=>(ok_facts (g.holes _ (List.mem_map_of_mem hz))).2.1
 have h2:H.length≤2:=(edges_facts h).2.2.2;have loop:∀ (m i k:Nat) (acc:List S61),H.length-i=m→i≤H.length→m+20≤k→acc.length≤100*(i+1)→spec_l11Edges.l0 k acc (i:Int) o H=some (acc++(H.drop i).flatMap esOf):=by
  intro m
  induction m with
  | zero =>
   intro i k acc hm hi hk ha;obtain⟨k,rfl⟩:∃ q,k=q+1:=⟨k-1,by omega⟩;simp only [spec_l11Edges.l0];rw [if_neg (by omega),List.drop_of_length_le (by omega)];simp
  | succ m ih =>
   intro i k acc hm hi hk ha;obtain⟨k,rfl⟩:∃ q,k=q+1:=⟨k-1,by omega⟩;simp only [spec_l11Edges.l0];have hlt:i<H.length:=by omega
   have hg:rd_L5 H (i:Int)=H[i]:=by show H.getD i []=_;rw [List.getD_eq_getElem?_getD,List.getElem?_eq_getElem hlt];rfl
   have hl:=hH _ (List.getElem_mem hlt);rw [if_pos (by omega),if_pos (by omega),hg,sEdges (by omega) (by omega),Option.bind_some,if_pos (by rw [esOf_len];omega),succ64 (by omega),ih (i+1) k _ (by omega) (by omega) (by omega) (by rw [List.length_append,esOf_len];omega),List.drop_eq_getElem_cons hlt,List.flatMap_cons,List.append_assoc]
 unfold spec_l11Edges.f;rw [sEdges (by omega) (by omega),Option.bind_some];refine (loop H.length 0 k _ (by omega) (by omega) (by omega) (by rw [esOf_len];omega)).trans ?_;rw [List.drop_zero];unfold allEdges;rw [List.flatMap_cons,edgesS_eq]
 congr 2
 have:edgesS=esOf:=funext edgesS_eq;rw [this]
theorem rd_seg {E:List S61}{i:Nat}(h:i<E.length):rd_T61 E (i:Int)=E[i]:=by
 show E.getD i _=_
 rw [List.getD_eq_getElem?_getD,List.getElem?_eq_getElem h];rfl
theorem sFarS {k:Nat}(hk:100000≤k){s:S61}{x y:Int}(hs:segOk (sgP s)=true)(hp:ptOk (x,y)=true):spec_l2Far.f k s.f0.f0 s.f0.f1 s.f1.f0 s.f1.f1 x y=some ((segFar (sgP s) (x,y)).1,(segFar (sgP s) (x,y)).2):=by
 have hs':segOk ((s.f0.f0,s.f0.f1),(s.f1.f0,s.f1.f1))=true:=hs;rw [sL2Far hk hs' hp];have:segFar (sgP s) (x,y)=Mort.red (Mort.far ((s.f0.f0,s.f0.f1),(s.f1.f0,s.f1.f1)) (x,y)):=by
  show segFar ((s.f0.f0,s.f0.f1),(s.f1.f0,s.f1.f1)) (x,y)=_
  unfold segFar;rw [hs',hp];rfl
 rw [this]
theorem sL11Far {k:Nat}(hk:200000≤k){E:List S61}{x y:Int}(hok:∀ s∈E,segOk (sgP s)=true)(hp:ptOk (x,y)=true)(hne:0<E.length)(hle:E.length≤24):
  spec_l11Far.f k E x y=some ((farE E (x,y)).1,(farE E (x,y)).2):=by
 have loop:∀ (m i k:Nat) (a:Mort.Frac),E.length-i=m→i≤E.length→m+100001≤k→fracOk a=true →
   spec_l11Far.l0 k E (i:Int) x y a.1 a.2=some ((runFar (x,y) a (E.drop i)).1,(runFar (x,y) a (E.drop i)).2):=by
  intro m
  induction m with
  | zero =>
   intro i k a hm hi hk ha;obtain⟨k,rfl⟩:∃ q,k=q+1:=⟨k-1,by omega⟩;simp only [spec_l11Far.l0];rw [if_neg (by omega),List.drop_of_length_le (by omega)];rfl
  | succ m ih =>
   intro i k a hm hi hk ha;obtain⟨k,rfl⟩:∃ q,k=q+1:=⟨k-1,by omega⟩;simp only [spec_l11Far.l0];have hlt:i<E.length:=by omega
   have hs:=hok _ (List.getElem_mem hlt);have hf:=(Mort.segFar_ok hs hp).1;rw [if_pos (by omega),if_pos (by omega),rd_seg hlt,sFarS (by omega) hs hp,Option.bind_some];have hl:=sLeast (n:=a.1) (d:=a.2) (m:=(segFar (sgP E[i]) (x,y)).1) (q:=(segFar (sgP E[i]) (x,y)).2) ha hf;simp only;rw [hl,Option.bind_some,succ64 (by omega)];simp only;rw [ih (i+1) k (least a (segFar (sgP E[i]) (x,y))) (by omega) (by omega) (by omega) (Mort.least_ok ha hf),List.drop_eq_getElem_cons hlt];rfl
 unfold spec_l11Far.f;rw [if_pos (by omega)]
 cases E with
 | nil=>simp at hne
 | cons e es =>
  have hs:=hok e List.mem_cons_self;have e0:rd_T61 (e::es) 0=e:=rfl;rw [e0,sFarS (by omega) hs hp,Option.bind_some];exact loop es.length 1 k (segFar (sgP e) (x,y)) (by simp) (by simp) (by simp only [List.length_cons] at hle;omega) (Mort.segFar_ok hs hp).1
theorem sPlateFar {k:Nat}(hk:300000≤k)(o:List S28)(H:List (List S28))(x y:Int):spec_PlateFar.f k o H x y=some ((plateFar (pl o H) (x,y)).1,(plateFar (pl o H) (x,y)).2):=by
 unfold spec_PlateFar.f plateFar;rw [sPlateOk (by omega),Option.bind_some];obtain⟨k,rfl⟩:∃ q,k=q+1:=⟨k-1,by omega⟩
 cases h:plateOk (pl o H) with
 | false=>rw [if_neg (by decide)];rfl
 | true =>
  rw [if_pos rfl,sPtOk,Option.bind_some]
  cases hp:ptOk (x,y) with
  | false=>rfl
  | true =>
   simp only [spec_PlateFar.j0];obtain⟨h1,h2,h3,_⟩:=edges_facts h;rw [if_neg (by decide),sL11Edges (by omega) h,Option.bind_some,sL11Far (by omega) h1 hp h2 h3,Option.bind_some,Bool.and_self,if_pos rfl,farE_L,allEdges_pl]
end Go.Proofs.YtkefmnmoaomlhaaDoor.X
end
section
namespace Go.Proofs.YtkefmnmoaomlhaaDoor.X
open Go.RowKit Go.Proofs.YtkefmnmoaomlhaaDoorW.PrintWords Go.Proofs.YtkefmnmoaomlhaaDoorW.PrintLast Go.Proofs.YtkefmnmoaomlhaaDoorW.PrintMore
attribute [local go_sem] max2_int min2_int max_two min_two max_three min_three max_four min_four
set_option linter.unusedVariables false
set_option linter.unusedSimpArgs false
def spec_l71Pt.f (k:Nat)(s0_0:List Int)(s0_1:Int):Option (Int × Int × Int):=(spec_l6Rd_pick.f k s0_0 s0_1 10).bind fun bt108=>((spec_l6Rd_pick.f k s0_0 bt108.2 10).bind fun bt110=>((spec_l6Rd_pick.f k s0_0 bt110.2 40).bind fun bt113=>(if bt113.1=0 then ((some (([(-1),10]:List Int):List Int)).bind fun y115=>((spec_l6Rd_pick.f k s0_0 bt113.2 2).bind fun bt118=>(if 0≤bt118.1 then (if bt118.1<(y115.length:Int) then (some (rd y115 bt118.1,bt110.1,bt118.2)) else (none)) else (none)))) else (if bt113.1=1 then ((some (([(-1),10]:List Int):List Int)).bind fun y121=>((spec_l6Rd_pick.f k s0_0 bt113.2 2).bind fun bt124=>(if 0≤bt124.1 then (if bt124.1<(y121.length:Int) then (some (bt108.1,rd y121 bt124.1,bt124.2)) else (none)) else (none)))) else (some (bt108.1,bt110.1,bt113.2))))))
set_option maxHeartbeats 8000000 in
set_option maxRecDepth 100000 in
theorem spec_l71Pt.calls (k:Nat)(g:Nat)(s0_0:List Int)(s0_1:Int)(r1:Int)(r2:Int)(r3:Int)(w0 w:World)(hI:IsS123 w0 w g s0_0 s0_1)(hB:Below w0.heap.size w0 w)(h:spec_l71Pt.f k s0_0 s0_1=some (r1,r2,r3)):
  Calls Tryd.prog 51 #[.pointer (some ⟨g,0,none⟩)] w fun e w'=>e=.returned (.agg #[.int .i64 r1,.int .i64 r2])∧IsS123 w0 w' g s0_0 r3∧Below w0.heap.size w0 w'∧KeepBut w w' g none:=by
 have hu28:=Tryd.underlying28;have HI0:=Aside0.mk hI;have HK:=a0_ (KeepBut.refl w g none);have HL:=Aside0.mk hB.size;clear hI;have HW0:=Aside0.mk hB.size;have HB:=Aside0.mk hB;clear hB;have H:((spec_l6Rd_pick.f k s0_0 s0_1 10).bind fun bt108=>((spec_l6Rd_pick.f k s0_0 bt108.2 10).bind fun bt110=>((spec_l6Rd_pick.f k s0_0 bt110.2 40).bind fun bt113=>(if bt113.1=0 then ((some (([(-1),10]:List Int):List Int)).bind fun y115=>((spec_l6Rd_pick.f k s0_0 bt113.2 2).bind fun bt118=>(if 0≤bt118.1 then (if bt118.1<(y115.length:Int) then (some (rd y115 bt118.1,bt110.1,bt118.2)) else (none)) else (none)))) else (if bt113.1=1 then ((some (([(-1),10]:List Int):List Int)).bind fun y121=>((spec_l6Rd_pick.f k s0_0 bt113.2 2).bind fun bt124=>(if 0≤bt124.1 then (if bt124.1<(y121.length:Int) then (some (bt108.1,rd y121 bt124.1,bt124.2)) else (none)) else (none)))) else (some (bt108.1,bt110.1,bt113.2)))))))=some (r1,r2,r3):=h;clear h;replace H:=Option.bind_eq_some_iff.mp H;obtain⟨⟨t108,t109⟩,A20,H⟩:=H
 (try dsimp only at H)
 have A2:=Aside0.mk A20;clear A20;replace H:=Option.bind_eq_some_iff.mp H;obtain⟨⟨t110,t111⟩,A30,H⟩:=H
 (try dsimp only at H)
 have A3:=Aside0.mk A30;clear A30;replace H:=Option.bind_eq_some_iff.mp H;obtain⟨⟨t113,t114⟩,A40,H⟩:=H
 (try dsimp only at H)
 have A4:=Aside0.mk A40;clear A40;by_cases c5:t113=0
 ·
  rw [if_pos c5] at H;have c5b0:(t113==0)=true:=beq_iff_eq.mpr c5;have c5b1:(t113 != 0)=false:=bne_eq_false_iff_eq.mpr c5;clear c5;obtain⟨y115,hy115⟩:∃ y_:List Int,y_=(([(-1),10]:List Int)):=⟨_,rfl⟩;replace H:((spec_l6Rd_pick.f k s0_0 t114 2).bind fun bt118=>(if 0≤bt118.1 then (if bt118.1<(y115.length:Int) then (some (rd y115 bt118.1,t110,bt118.2)) else (none)) else (none)))=some (r1,r2,r3):=by first | (rw [hy115];with_reducible exact H) | (have H2_:=(Option.bind_some _ _).symm.trans H;rw [hy115];with_reducible exact H2_) | (have H2_:=(Option.bind_some _ _).symm.trans H;with_reducible exact H2_) | with_reducible exact H | (rw [hy115];exact H) | exact H
  have Ny115:=Aside0.mk hy115;clear hy115;replace H:=Option.bind_eq_some_iff.mp H;obtain⟨⟨t118,t119⟩,A60,H⟩:=H
  (try dsimp only at H)
  have A6:=Aside0.mk A60;clear A60;by_cases c7:0≤t118
  ·
   rw [if_pos c7] at H;have c7b0:decide (0≤t118)=true:=decide_eq_true c7;clear c7;by_cases c8:t118<(y115.length:Int)
   ·
    rw [if_pos c8] at H;have c8b0:decide (t118<(y115.length:Int))=true:=decide_eq_true c8;clear c8;simp only [Option.some.injEq,Prod.mk.injEq] at H;obtain⟨rfl,rfl,rfl⟩:=H;go_enter Tryd.func51,Tryd.ntmps51
    go_wp2_with (first | ((with_reducible refine gate_dst (N:=2) rfl ?_);refine bx_ (N:=2) (cs:=#[.int .i64 0,.int .i64 0]) (t:=28) (h:=?_);intro gb107 hg w9 hbox hb;have BK107:=a0_ (hbox);have GW107:=gw_ HK hg;have GE107:=a0_ ((Nat.le_trans HW0.out (gw_ HK hg).out));have NB0_107:=sl_ HI0 hg;have NB107_0:=sr_ HI0 hg;replace HK:=kb_ HK hb;replace HB:=a0_ (below_step hBs_ hb);replace HI0:=a0_ (IsS123.below hI_ hb);clear hb hbox hg) | ((with_reducible refine gate_callee (f:=74) rfl ?_);refine gL_ (some 5) Tryd.func74 #[.pointer (some ⟨g,0,none⟩),.int .i64 10] (h:=?_);(with_reducible refine (spec_l6Rd_pick.calls k g s0_0 s0_1 10 t108 t109 w0 _ hI_ hBs_ A2.out).mono ?_);rintro e w10 ⟨rfl,hi,hb,hk⟩;refine⟨_,rfl,?_⟩;replace BK107:=a0_ (KeepBut.blk hk (g':=gb107) (o:=.cells #[.int .i64 0,.int .i64 0] 28 (0,0)) uq_ NB107_0.out (by simp));replace HK:=kk_ HK hk;replace HB:=a0_ (hb);replace HI0:=a0_ (hi);(try clear hi hb hk)) | ((with_reducible refine gate_callee (f:=74) rfl ?_);refine gL_ (some 7) Tryd.func74 #[.pointer (some ⟨g,0,none⟩),.int .i64 10] (h:=?_);(with_reducible refine (spec_l6Rd_pick.calls k g s0_0 t109 10 t110 t111 w0 _ hI_ hBs_ A3.out).mono ?_);rintro e w11 ⟨rfl,hi,hb,hk⟩;refine⟨_,rfl,?_⟩;replace BK107:=a0_ (KeepBut.blk hk (g':=gb107) (o:=.cells #[.int .i64 0,.int .i64 0] 28 (0,0)) uq_ NB107_0.out (by simp));replace HK:=kk_ HK hk;replace HB:=a0_ (hb);replace HI0:=a0_ (hi);(try clear hi hb hk)) | ((with_reducible refine gate_dst (N:=3) rfl ?_);refine bx_ (N:=3) (cs:=#[.int .i64 0,.int .i64 0]) (t:=28) (h:=?_);intro gb112 hg w12 hbox hb;have BK112:=a0_ (hbox);have GW112:=gw_ HK hg;have GE112:=a0_ ((Nat.le_trans HW0.out (gw_ HK hg).out));have NB107_112:=nl_ BK107 hg;have NB112_107:=nr_ BK107 hg;have NB0_112:=sl_ HI0 hg;have NB112_0:=sr_ HI0 hg;replace BK107:=vb_ BK107 hb;replace HK:=kb_ HK hb;replace HB:=a0_ (below_step hBs_ hb);replace HI0:=a0_ (IsS123.below hI_ hb);clear hb hbox hg;have hnb13:=NB112_107.out;have hnc13:=NB107_112.out;have hnb14:=NB112_0.out;have hnc14:=NB0_112.out;have hcz15_0:=c20_ BK112;have hcz15_1:=c21_ BK112;have hfz15_0:=fz_ BK112 0;have hfz15_1:=fz_ BK112 1) | ((with_reducible refine gate_callee (f:=74) rfl ?_);refine gL_ (some 10) Tryd.func74 #[.pointer (some ⟨g,0,none⟩),.int .i64 40] (h:=?_);(with_reducible refine (spec_l6Rd_pick.calls k g s0_0 t111 40 t113 t114 w0 _ hI_ hBs_ A4.out).mono ?_);rintro e w16 ⟨rfl,hi,hb,hk⟩;refine⟨_,rfl,?_⟩;replace BK107:=a0_ (KeepBut.blk hk (g':=gb107) (o:=.cells #[.int .i64 0,.int .i64 0] 28 (0,0)) uf_ NB107_0.out (by simp));replace BK112:=a0_ (KeepBut.blk hk (g':=gb112) (o:=.cells #[.int .i64 t108,.int .i64 t110] 28 (0,0)) (by (with_reducible repeat (first | refine blk_drewN ?_ _ | refine blk_drew ?_ | refine blk_alloc ?_ _));refine blk_put (cs:=#[.int .i64 t108,.int .i64 0]) ?_ 1 _ rfl;(with_reducible repeat (first | refine blk_drewN ?_ _ | refine blk_drew ?_ | refine blk_alloc ?_ _));refine blk_put (cs:=#[.int .i64 0,.int .i64 0]) ?_ 0 _ rfl;(with_reducible repeat (first | refine blk_drewN ?_ _ | refine blk_drew ?_ | refine blk_alloc ?_ _));exact BK112.out) NB112_0.out (by simp));replace HK:=kk_ HK hk;replace HB:=a0_ (hb);replace HI0:=a0_ (hi);(try clear hi hb hk)) | ((with_reducible refine gate_dst (N:=13) rfl ?_);refine Kd.R_lit (Kd.int .i64) _ 3 ?hg (N:=13) ?hd (xs:=([(-1),10]:List Int)) (inner:=[.int .i64 (-1),.int .i64 10]) (ok:=fun _=>True) (okp:=fun _=>True) ?hr ?hp (fun _ hk=>hk) trivial (Below.refl _ _) (Nat.le_refl _) (by simp) ?_;(case hd=>rfl);(case hg=>rfl);(case hr=>first | (go_simp;done) | (go_simp;rfl));(case hp=>exact (Reps.one (show Kd.M (Kd.int .i64) _ _ _ (-1) [.int .i64 (-1)] from rfl) (Reps.one (show Kd.M (Kd.int .i64) _ _ _ 10 [.int .i64 10] from rfl) (Reps.none _ _))));intro v116 w17 ho18 hb hg_ hnew_;clear hg_ hnew_;(first | rw [← Ny115.out] at ho18 | (simp only [Int.reduceToNat] at ho18;rw [← Ny115.out] at ho18));have HO117:=a0_ (Kd.R_lower ho18 (keep_size (w:=w) (g:=g) (row:=none) (hK_ HK)));replace BK107:=vb_ BK107 hb;replace BK112:=vb_ BK112 hb;replace HK:=kb_ HK hb;replace HB:=a0_ (below_step hBs_ hb);replace HI0:=a0_ (IsS123.below hI_ hb);clear hb ho18) | ((with_reducible refine gate_callee (f:=74) rfl ?_);refine gL_ (some 15) Tryd.func74 #[.pointer (some ⟨g,0,none⟩),.int .i64 2] (h:=?_);(with_reducible refine (spec_l6Rd_pick.calls k g s0_0 t114 2 t118 t119 w0 _ hI_ hBs_ A6.out).mono ?_);rintro e w19 ⟨rfl,hi,hb,hk⟩;refine⟨_,rfl,?_⟩;replace BK107:=a0_ (KeepBut.blk hk (g':=gb107) (o:=.cells #[.int .i64 0,.int .i64 0] 28 (0,0)) uq_ NB107_0.out (by simp));replace BK112:=a0_ (KeepBut.blk hk (g':=gb112) (o:=.cells #[.int .i64 t108,.int .i64 t110] 28 (0,0)) uq_ NB112_0.out (by simp));replace HO117:=a0_ (Kd.R_mono (Kd.R_keep (IsS123.apart (show IsS123 w0 _ g s0_0 t114 from hI_) (uR_ HO117) (by decide)) hk (fun _ h=>h.2)) (fun _ h=>h.1));replace HK:=kk_ HK hk;replace HB:=a0_ (hb);replace HI0:=a0_ (hi);(try clear hi hb hk);obtain⟨Ao20,co20,eo20⟩:=Kd.R_slice HO117.out;subst eo20;have p120:0≤(t118:Int):=od_;have q120:t118<(y115.length:Int):=od_;obtain⟨ad120,e120,hx120_0⟩:=Kd.at_int (Kd.R_reads' HO117.out).2.2 t118 p120 q120;cases e120;replace p120:=eq_true p120;replace q120:=eq_true q120;have hcz21_0:=c20_ BK112;have hcz21_1:=c21_ BK112;have hfz21_0:=fz_ BK112 0;have hfz21_1:=fz_ BK112 1;have hnb22:=NB107_0.out;have hnc22:=NB0_107.out;have hcz23_0:=c20_ BK107;have hcz23_1:=c21_ BK107;have hfz23_0:=fz_ BK107 0;have hfz23_1:=fz_ BK107 1))
    refine bodyPost_ret (results_cell_row rfl _ _ gb107 28 #[.int .i64 (rd y115 t118),.int .i64 t110] (0,0) _ rfl (by (with_reducible repeat (first | refine blk_drewN ?_ _ | refine blk_drew ?_ | refine blk_alloc ?_ _));refine blk_put (cs:=#[.int .i64 (rd y115 t118),.int .i64 0]) ?_ 1 _ rfl;(with_reducible repeat (first | refine blk_drewN ?_ _ | refine blk_drew ?_ | refine blk_alloc ?_ _));refine blk_put (cs:=#[.int .i64 0,.int .i64 0]) ?_ 0 _ rfl;(with_reducible repeat (first | refine blk_drewN ?_ _ | refine blk_drew ?_ | refine blk_alloc ?_ _));refine blk_far ?_ NB107_112.out _;(with_reducible repeat (first | refine blk_drewN ?_ _ | refine blk_drew ?_ | refine blk_alloc ?_ _));exact BK107.out) Tryd.underlying28 rfl (by kernel_rfl)) rfl ?_;exact⟨rr_,by repeat (first | (with_reducible first | exact HI0.out | apply IsS123.alloc | apply IsS123.drewN | apply IsS123.drew | apply IsS123.set_1 | refine IsS123.far ?_ NB0_107.out _ | refine IsS123.far ?_ NB0_112.out _) | exact HI0.out),by repeat (first | (with_reducible first | exact HB.out | apply below_alloc | apply pw_below_drewN | apply below_drew1 | refine below_set ?_ (IsS123.ge HI0.out) | refine below_set ?_ GE107.out | refine below_set ?_ GE112.out) | exact HB.out),by repeat (first | (with_reducible first | exact HK.out | apply KeepBut.set_ | apply keep_drewN | apply keep_drew | apply keep_alloc | refine keep_far ?_ GW107.out _ | refine keep_far ?_ GW112.out _) | exact HK.out)⟩
   ·
    rw [if_neg c8] at H;exact absurd H (by simp)
  ·
   rw [if_neg c7] at H;exact absurd H (by simp)
 ·
  rw [if_neg c5] at H;have c5b0:(t113==0)=false:=beq_eq_false_iff_ne.mpr c5;have c5b1:(t113 != 0)=true:=bne_iff_ne.mpr c5;by_cases c24:t113=1
  ·
   rw [if_pos c24] at H;have c24b0:(t113==1)=true:=beq_iff_eq.mpr c24;have c24b1:(t113 != 1)=false:=bne_eq_false_iff_eq.mpr c24;clear c24;obtain⟨y121,hy121⟩:∃ y_:List Int,y_=(([(-1),10]:List Int)):=⟨_,rfl⟩;replace H:((spec_l6Rd_pick.f k s0_0 t114 2).bind fun bt124=>(if 0≤bt124.1 then (if bt124.1<(y121.length:Int) then (some (t108,rd y121 bt124.1,bt124.2)) else (none)) else (none)))=some (r1,r2,r3):=by first | (rw [hy121];with_reducible exact H) | (have H2_:=(Option.bind_some _ _).symm.trans H;rw [hy121];with_reducible exact H2_) | (have H2_:=(Option.bind_some _ _).symm.trans H;with_reducible exact H2_) | with_reducible exact H | (rw [hy121];exact H) | exact H
   have Ny121:=Aside0.mk hy121;clear hy121;replace H:=Option.bind_eq_some_iff.mp H;obtain⟨⟨t124,t125⟩,A250,H⟩:=H
   (try dsimp only at H)
   have A25:=Aside0.mk A250;clear A250;by_cases c26:0≤t124
   ·
    rw [if_pos c26] at H;have c26b0:decide (0≤t124)=true:=decide_eq_true c26;clear c26;by_cases c27:t124<(y121.length:Int)
    ·
     rw [if_pos c27] at H;have c27b0:decide (t124<(y121.length:Int))=true:=decide_eq_true c27;clear c27;simp only [Option.some.injEq,Prod.mk.injEq] at H;obtain⟨rfl,rfl,rfl⟩:=H;go_enter Tryd.func51,Tryd.ntmps51
     go_wp2_with (first | ((with_reducible refine gate_dst (N:=2) rfl ?_);refine bx_ (N:=2) (cs:=#[.int .i64 0,.int .i64 0]) (t:=28) (h:=?_);intro gb107 hg w28 hbox hb;have BK107:=a0_ (hbox);have GW107:=gw_ HK hg;have GE107:=a0_ ((Nat.le_trans HW0.out (gw_ HK hg).out));have NB0_107:=sl_ HI0 hg;have NB107_0:=sr_ HI0 hg;replace HK:=kb_ HK hb;replace HB:=a0_ (below_step hBs_ hb);replace HI0:=a0_ (IsS123.below hI_ hb);clear hb hbox hg) | ((with_reducible refine gate_callee (f:=74) rfl ?_);refine gL_ (some 5) Tryd.func74 #[.pointer (some ⟨g,0,none⟩),.int .i64 10] (h:=?_);(with_reducible refine (spec_l6Rd_pick.calls k g s0_0 s0_1 10 t108 t109 w0 _ hI_ hBs_ A2.out).mono ?_);rintro e w29 ⟨rfl,hi,hb,hk⟩;refine⟨_,rfl,?_⟩;replace BK107:=a0_ (KeepBut.blk hk (g':=gb107) (o:=.cells #[.int .i64 0,.int .i64 0] 28 (0,0)) uq_ NB107_0.out (by simp));replace HK:=kk_ HK hk;replace HB:=a0_ (hb);replace HI0:=a0_ (hi);(try clear hi hb hk)) | ((with_reducible refine gate_callee (f:=74) rfl ?_);refine gL_ (some 7) Tryd.func74 #[.pointer (some ⟨g,0,none⟩),.int .i64 10] (h:=?_);(with_reducible refine (spec_l6Rd_pick.calls k g s0_0 t109 10 t110 t111 w0 _ hI_ hBs_ A3.out).mono ?_);rintro e w30 ⟨rfl,hi,hb,hk⟩;refine⟨_,rfl,?_⟩;replace BK107:=a0_ (KeepBut.blk hk (g':=gb107) (o:=.cells #[.int .i64 0,.int .i64 0] 28 (0,0)) uq_ NB107_0.out (by simp));replace HK:=kk_ HK hk;replace HB:=a0_ (hb);replace HI0:=a0_ (hi);(try clear hi hb hk)) | ((with_reducible refine gate_dst (N:=3) rfl ?_);refine bx_ (N:=3) (cs:=#[.int .i64 0,.int .i64 0]) (t:=28) (h:=?_);intro gb112 hg w31 hbox hb;have BK112:=a0_ (hbox);have GW112:=gw_ HK hg;have GE112:=a0_ ((Nat.le_trans HW0.out (gw_ HK hg).out));have NB107_112:=nl_ BK107 hg;have NB112_107:=nr_ BK107 hg;have NB0_112:=sl_ HI0 hg;have NB112_0:=sr_ HI0 hg;replace BK107:=vb_ BK107 hb;replace HK:=kb_ HK hb;replace HB:=a0_ (below_step hBs_ hb);replace HI0:=a0_ (IsS123.below hI_ hb);clear hb hbox hg;have hnb32:=NB112_107.out;have hnc32:=NB107_112.out;have hnb33:=NB112_0.out;have hnc33:=NB0_112.out;have hcz34_0:=c20_ BK112;have hcz34_1:=c21_ BK112;have hfz34_0:=fz_ BK112 0;have hfz34_1:=fz_ BK112 1) | ((with_reducible refine gate_callee (f:=74) rfl ?_);refine gL_ (some 10) Tryd.func74 #[.pointer (some ⟨g,0,none⟩),.int .i64 40] (h:=?_);(with_reducible refine (spec_l6Rd_pick.calls k g s0_0 t111 40 t113 t114 w0 _ hI_ hBs_ A4.out).mono ?_);rintro e w35 ⟨rfl,hi,hb,hk⟩;refine⟨_,rfl,?_⟩;replace BK107:=a0_ (KeepBut.blk hk (g':=gb107) (o:=.cells #[.int .i64 0,.int .i64 0] 28 (0,0)) uf_ NB107_0.out (by simp));replace BK112:=a0_ (KeepBut.blk hk (g':=gb112) (o:=.cells #[.int .i64 t108,.int .i64 t110] 28 (0,0)) (by (with_reducible repeat (first | refine blk_drewN ?_ _ | refine blk_drew ?_ | refine blk_alloc ?_ _));refine blk_put (cs:=#[.int .i64 t108,.int .i64 0]) ?_ 1 _ rfl;(with_reducible repeat (first | refine blk_drewN ?_ _ | refine blk_drew ?_ | refine blk_alloc ?_ _));refine blk_put (cs:=#[.int .i64 0,.int .i64 0]) ?_ 0 _ rfl;(with_reducible repeat (first | refine blk_drewN ?_ _ | refine blk_drew ?_ | refine blk_alloc ?_ _));exact BK112.out) NB112_0.out (by simp));replace HK:=kk_ HK hk;replace HB:=a0_ (hb);replace HI0:=a0_ (hi);(try clear hi hb hk)) | ((with_reducible refine gate_dst (N:=21) rfl ?_);refine Kd.R_lit (Kd.int .i64) _ 3 ?hg (N:=21) ?hd (xs:=([(-1),10]:List Int)) (inner:=[.int .i64 (-1),.int .i64 10]) (ok:=fun _=>True) (okp:=fun _=>True) ?hr ?hp (fun _ hk=>hk) trivial (Below.refl _ _) (Nat.le_refl _) (by simp) ?_;(case hd=>rfl);(case hg=>rfl);(case hr=>first | (go_simp;done) | (go_simp;rfl));(case hp=>exact (Reps.one (show Kd.M (Kd.int .i64) _ _ _ (-1) [.int .i64 (-1)] from rfl) (Reps.one (show Kd.M (Kd.int .i64) _ _ _ 10 [.int .i64 10] from rfl) (Reps.none _ _))));intro v122 w36 ho37 hb hg_ hnew_;clear hg_ hnew_;(first | rw [← Ny121.out] at ho37 | (simp only [Int.reduceToNat] at ho37;rw [← Ny121.out] at ho37));have HO123:=a0_ (Kd.R_lower ho37 (keep_size (w:=w) (g:=g) (row:=none) (hK_ HK)));replace BK107:=vb_ BK107 hb;replace BK112:=vb_ BK112 hb;replace HK:=kb_ HK hb;replace HB:=a0_ (below_step hBs_ hb);replace HI0:=a0_ (IsS123.below hI_ hb);clear hb ho37) | ((with_reducible refine gate_callee (f:=74) rfl ?_);refine gL_ (some 23) Tryd.func74 #[.pointer (some ⟨g,0,none⟩),.int .i64 2] (h:=?_);(with_reducible refine (spec_l6Rd_pick.calls k g s0_0 t114 2 t124 t125 w0 _ hI_ hBs_ A25.out).mono ?_);rintro e w38 ⟨rfl,hi,hb,hk⟩;refine⟨_,rfl,?_⟩;replace BK107:=a0_ (KeepBut.blk hk (g':=gb107) (o:=.cells #[.int .i64 0,.int .i64 0] 28 (0,0)) uq_ NB107_0.out (by simp));replace BK112:=a0_ (KeepBut.blk hk (g':=gb112) (o:=.cells #[.int .i64 t108,.int .i64 t110] 28 (0,0)) uq_ NB112_0.out (by simp));replace HO123:=a0_ (Kd.R_mono (Kd.R_keep (IsS123.apart (show IsS123 w0 _ g s0_0 t114 from hI_) (uR_ HO123) (by decide)) hk (fun _ h=>h.2)) (fun _ h=>h.1));replace HK:=kk_ HK hk;replace HB:=a0_ (hb);replace HI0:=a0_ (hi);(try clear hi hb hk);obtain⟨Ao39,co39,eo39⟩:=Kd.R_slice HO123.out;subst eo39;have p126:0≤(t124:Int):=od_;have q126:t124<(y121.length:Int):=od_;obtain⟨ad126,e126,hx126_0⟩:=Kd.at_int (Kd.R_reads' HO123.out).2.2 t124 p126 q126;cases e126;replace p126:=eq_true p126;replace q126:=eq_true q126;have hcz40_0:=c20_ BK112;have hcz40_1:=c21_ BK112;have hfz40_0:=fz_ BK112 0;have hfz40_1:=fz_ BK112 1;have hnb41:=NB107_0.out;have hnc41:=NB0_107.out;have hcz42_0:=c20_ BK107;have hcz42_1:=c21_ BK107;have hfz42_0:=fz_ BK107 0;have hfz42_1:=fz_ BK107 1))
     refine bodyPost_ret (results_cell_row rfl _ _ gb107 28 #[.int .i64 t108,.int .i64 (rd y121 t124)] (0,0) _ rfl (by (with_reducible repeat (first | refine blk_drewN ?_ _ | refine blk_drew ?_ | refine blk_alloc ?_ _));refine blk_put (cs:=#[.int .i64 t108,.int .i64 0]) ?_ 1 _ rfl;(with_reducible repeat (first | refine blk_drewN ?_ _ | refine blk_drew ?_ | refine blk_alloc ?_ _));refine blk_put (cs:=#[.int .i64 0,.int .i64 0]) ?_ 0 _ rfl;(with_reducible repeat (first | refine blk_drewN ?_ _ | refine blk_drew ?_ | refine blk_alloc ?_ _));refine blk_far ?_ NB107_112.out _;(with_reducible repeat (first | refine blk_drewN ?_ _ | refine blk_drew ?_ | refine blk_alloc ?_ _));exact BK107.out) Tryd.underlying28 rfl (by kernel_rfl)) rfl ?_;exact⟨rr_,by repeat (first | (with_reducible first | exact HI0.out | apply IsS123.alloc | apply IsS123.drewN | apply IsS123.drew | apply IsS123.set_1 | refine IsS123.far ?_ NB0_107.out _ | refine IsS123.far ?_ NB0_112.out _) | exact HI0.out),by repeat (first | (with_reducible first | exact HB.out | apply below_alloc | apply pw_below_drewN | apply below_drew1 | refine below_set ?_ (IsS123.ge HI0.out) | refine below_set ?_ GE107.out | refine below_set ?_ GE112.out) | exact HB.out),by repeat (first | (with_reducible first | exact HK.out | apply KeepBut.set_ | apply keep_drewN | apply keep_drew | apply keep_alloc | refine keep_far ?_ GW107.out _ | refine keep_far ?_ GW112.out _) | exact HK.out)⟩
    ·
     rw [if_neg c27] at H;exact absurd H (by simp)
   ·
    rw [if_neg c26] at H;exact absurd H (by simp)
  ·
   rw [if_neg c24] at H;have c24b0:(t113==1)=false:=beq_eq_false_iff_ne.mpr c24;have c24b1:(t113 != 1)=true:=bne_iff_ne.mpr c24;simp only [Option.some.injEq,Prod.mk.injEq] at H;obtain⟨rfl,rfl,rfl⟩:=H;go_enter Tryd.func51,Tryd.ntmps51
   go_wp2_with (first | ((with_reducible refine gate_dst (N:=2) rfl ?_);refine bx_ (N:=2) (cs:=#[.int .i64 0,.int .i64 0]) (t:=28) (h:=?_);intro gb107 hg w43 hbox hb;have BK107:=a0_ (hbox);have GW107:=gw_ HK hg;have GE107:=a0_ ((Nat.le_trans HW0.out (gw_ HK hg).out));have NB0_107:=sl_ HI0 hg;have NB107_0:=sr_ HI0 hg;replace HK:=kb_ HK hb;replace HB:=a0_ (below_step hBs_ hb);replace HI0:=a0_ (IsS123.below hI_ hb);clear hb hbox hg) | ((with_reducible refine gate_callee (f:=74) rfl ?_);refine gL_ (some 5) Tryd.func74 #[.pointer (some ⟨g,0,none⟩),.int .i64 10] (h:=?_);(with_reducible refine (spec_l6Rd_pick.calls k g s0_0 s0_1 10 t108 t109 w0 _ hI_ hBs_ A2.out).mono ?_);rintro e w44 ⟨rfl,hi,hb,hk⟩;refine⟨_,rfl,?_⟩;replace BK107:=a0_ (KeepBut.blk hk (g':=gb107) (o:=.cells #[.int .i64 0,.int .i64 0] 28 (0,0)) uq_ NB107_0.out (by simp));replace HK:=kk_ HK hk;replace HB:=a0_ (hb);replace HI0:=a0_ (hi);(try clear hi hb hk)) | ((with_reducible refine gate_callee (f:=74) rfl ?_);refine gL_ (some 7) Tryd.func74 #[.pointer (some ⟨g,0,none⟩),.int .i64 10] (h:=?_);(with_reducible refine (spec_l6Rd_pick.calls k g s0_0 t109 10 t110 t111 w0 _ hI_ hBs_ A3.out).mono ?_);rintro e w45 ⟨rfl,hi,hb,hk⟩;refine⟨_,rfl,?_⟩;replace BK107:=a0_ (KeepBut.blk hk (g':=gb107) (o:=.cells #[.int .i64 0,.int .i64 0] 28 (0,0)) uq_ NB107_0.out (by simp));replace HK:=kk_ HK hk;replace HB:=a0_ (hb);replace HI0:=a0_ (hi);(try clear hi hb hk)) | ((with_reducible refine gate_dst (N:=3) rfl ?_);refine bx_ (N:=3) (cs:=#[.int .i64 0,.int .i64 0]) (t:=28) (h:=?_);intro gb112 hg w46 hbox hb;have BK112:=a0_ (hbox);have GW112:=gw_ HK hg;have GE112:=a0_ ((Nat.le_trans HW0.out (gw_ HK hg).out));have NB107_112:=nl_ BK107 hg;have NB112_107:=nr_ BK107 hg;have NB0_112:=sl_ HI0 hg;have NB112_0:=sr_ HI0 hg;replace BK107:=vb_ BK107 hb;replace HK:=kb_ HK hb;replace HB:=a0_ (below_step hBs_ hb);replace HI0:=a0_ (IsS123.below hI_ hb);clear hb hbox hg;have hnb47:=NB112_107.out;have hnc47:=NB107_112.out;have hnb48:=NB112_0.out;have hnc48:=NB0_112.out;have hcz49_0:=c20_ BK112;have hcz49_1:=c21_ BK112;have hfz49_0:=fz_ BK112 0;have hfz49_1:=fz_ BK112 1) | ((with_reducible refine gate_callee (f:=74) rfl ?_);refine gL_ (some 10) Tryd.func74 #[.pointer (some ⟨g,0,none⟩),.int .i64 40] (h:=?_);(with_reducible refine (spec_l6Rd_pick.calls k g s0_0 t111 40 t113 t114 w0 _ hI_ hBs_ A4.out).mono ?_);rintro e w50 ⟨rfl,hi,hb,hk⟩;refine⟨_,rfl,?_⟩;replace BK107:=a0_ (KeepBut.blk hk (g':=gb107) (o:=.cells #[.int .i64 0,.int .i64 0] 28 (0,0)) uf_ NB107_0.out (by simp));replace BK112:=a0_ (KeepBut.blk hk (g':=gb112) (o:=.cells #[.int .i64 t108,.int .i64 t110] 28 (0,0)) (by (with_reducible repeat (first | refine blk_drewN ?_ _ | refine blk_drew ?_ | refine blk_alloc ?_ _));refine blk_put (cs:=#[.int .i64 t108,.int .i64 0]) ?_ 1 _ rfl;(with_reducible repeat (first | refine blk_drewN ?_ _ | refine blk_drew ?_ | refine blk_alloc ?_ _));refine blk_put (cs:=#[.int .i64 0,.int .i64 0]) ?_ 0 _ rfl;(with_reducible repeat (first | refine blk_drewN ?_ _ | refine blk_drew ?_ | refine blk_alloc ?_ _));exact BK112.out) NB112_0.out (by simp));replace HK:=kk_ HK hk;replace HB:=a0_ (hb);replace HI0:=a0_ (hi);(try clear hi hb hk);have hcz51_0:=c20_ BK112;have hcz51_1:=c21_ BK112;have hfz51_0:=fz_ BK112 0;have hfz51_1:=fz_ BK112 1;have hnb52:=NB107_0.out;have hnc52:=NB0_107.out;have hcz53_0:=c20_ BK107;have hcz53_1:=c21_ BK107;have hfz53_0:=fz_ BK107 0;have hfz53_1:=fz_ BK107 1))
   refine bodyPost_ret (results_cell_row rfl _ _ gb107 28 #[.int .i64 t108,.int .i64 t110] (0,0) _ rfl (by (with_reducible repeat (first | refine blk_drewN ?_ _ | refine blk_drew ?_ | refine blk_alloc ?_ _));refine blk_put (cs:=#[.int .i64 t108,.int .i64 0]) ?_ 1 _ rfl;(with_reducible repeat (first | refine blk_drewN ?_ _ | refine blk_drew ?_ | refine blk_alloc ?_ _));refine blk_put (cs:=#[.int .i64 0,.int .i64 0]) ?_ 0 _ rfl;(with_reducible repeat (first | refine blk_drewN ?_ _ | refine blk_drew ?_ | refine blk_alloc ?_ _));exact BK107.out) Tryd.underlying28 rfl (by kernel_rfl)) rfl ?_;exact⟨rr_,by repeat (first | (with_reducible first | exact HI0.out | apply IsS123.alloc | apply IsS123.drewN | apply IsS123.drew | apply IsS123.set_1 | refine IsS123.far ?_ NB0_107.out _ | refine IsS123.far ?_ NB0_112.out _) | exact HI0.out),by repeat (first | (with_reducible first | exact HB.out | apply below_alloc | apply pw_below_drewN | apply below_drew1 | refine below_set ?_ (IsS123.ge HI0.out) | refine below_set ?_ GE107.out | refine below_set ?_ GE112.out) | exact HB.out),by repeat (first | (with_reducible first | exact HK.out | apply KeepBut.set_ | apply keep_drewN | apply keep_drew | apply keep_alloc | refine keep_far ?_ GW107.out _ | refine keep_far ?_ GW112.out _) | exact HK.out)⟩
def spec_l71Box.f (k:Nat)(s0_0:List Int)(s0_1:Int)(a1:Int)(a2:Int)(a3:Int)(a4:Int):Option ((List (S28)) × Int):=(some (([(⟨a1,a2⟩:S28),(⟨wrap64 (a1+a3),a2⟩:S28),(⟨wrap64 (a1+a3),wrap64 (a2+a4)⟩:S28),(⟨a1,wrap64 (a2+a4)⟩:S28)]:List (S28)):List (S28))).bind fun y192=>((spec_l6Rd_pick.f k s0_0 s0_1 7).bind fun bt195=>(if bt195.1=0 then (if 3≤(y192.length:Int) then (some ((y192.take (3:Int).toNat),bt195.2)) else (none)) else (if bt195.1=1 then (if a3>1 then (if a4>1 then (if 0<(y192.length:Int) then (if 1<(y192.length:Int) then (if 3<(y192.length:Int) then (some ((([(⟨(rd_T28 y192 0).f0,(rd_T28 y192 0).f1⟩:S28),(⟨(rd_T28 y192 1).f0,(rd_T28 y192 1).f1⟩:S28),(⟨wrap64 (a1+a3),wrap64 (a2+(wrap64 (Int.tdiv a4 2)))⟩:S28),(⟨wrap64 (a1+(wrap64 (Int.tdiv a3 2))),wrap64 (a2+(wrap64 (Int.tdiv a4 2)))⟩:S28),(⟨wrap64 (a1+(wrap64 (Int.tdiv a3 2))),wrap64 (a2+a4)⟩:S28),(⟨(rd_T28 y192 3).f0,(rd_T28 y192 3).f1⟩:S28)]:List (S28))),bt195.2)) else (none)) else (none)) else (none)) else (some (y192,bt195.2))) else (some (y192,bt195.2))) else (if bt195.1=2 then (if a4>1 then (if 0<(y192.length:Int) then (if 1<(y192.length:Int) then (if 3<(y192.length:Int) then (some ((([(⟨(rd_T28 y192 0).f0,(rd_T28 y192 0).f1⟩:S28),(⟨(rd_T28 y192 1).f0,(rd_T28 y192 1).f1⟩:S28),(⟨wrap64 (a1+a3),wrap64 (a2+(wrap64 (Int.tdiv a4 2)))⟩:S28),(⟨wrap64 (a1+(wrap64 (Int.tdiv a3 2))),wrap64 (a2+a4)⟩:S28),(⟨(rd_T28 y192 3).f0,(rd_T28 y192 3).f1⟩:S28)]:List (S28))),bt195.2)) else (none)) else (none)) else (none)) else (some (y192,bt195.2))) else (if bt195.1=3 then (if 3<(y192.length:Int) then (if 2<(y192.length:Int) then (if 1<(y192.length:Int) then (if 0<(y192.length:Int) then (some ((([(⟨(rd_T28 y192 3).f0,(rd_T28 y192 3).f1⟩:S28),(⟨(rd_T28 y192 2).f0,(rd_T28 y192 2).f1⟩:S28),(⟨(rd_T28 y192 1).f0,(rd_T28 y192 1).f1⟩:S28),(⟨(rd_T28 y192 0).f0,(rd_T28 y192 0).f1⟩:S28)]:List (S28))),bt195.2)) else (none)) else (none)) else (none)) else (none)) else (if bt195.1=4 then (if a3>2 then (if a4>2 then (if 0<(y192.length:Int) then (if 1<(y192.length:Int) then (if 2<(y192.length:Int) then (if 3<(y192.length:Int) then (some ((([(⟨(rd_T28 y192 0).f0,(rd_T28 y192 0).f1⟩:S28),(⟨wrap64 (a1+(wrap64 (Int.tdiv a3 2))),wrap64 (a2+1)⟩:S28),(⟨(rd_T28 y192 1).f0,(rd_T28 y192 1).f1⟩:S28),(⟨(rd_T28 y192 2).f0,(rd_T28 y192 2).f1⟩:S28),(⟨wrap64 (a1+(wrap64 (Int.tdiv a3 2))),wrap64 ((wrap64 (a2+a4))-1)⟩:S28),(⟨(rd_T28 y192 3).f0,(rd_T28 y192 3).f1⟩:S28)]:List (S28))),bt195.2)) else (none)) else (none)) else (none)) else (none)) else (some (y192,bt195.2))) else (some (y192,bt195.2))) else (some (y192,bt195.2))))))))
def spec_l71Box.T7:Bool × List (List Nat × List Nat):=(true,[([],[]),([0],[0]),([1],[1]),([],[]),([3],[3]),([4],[4]),([],[]),([],[]),([6,7],[6,7]),([],[]),([],[]),([10],[10]),([9,11],[9,11]),([8,12],[8,12]),([],[]),([],[]),([15],[15]),([14,16],[14,16]),([],[]),([],[]),([19],[19]),([18,20],[18,20]),([17,21],[17,21]),([],[]),([],[]),([24],[24]),([23,25],[23,25]),([],[]),([],[]),([27,28],[27,28]),([26,29],[26,29]),([],[]),([31],[31]),([32],[32]),([2,5,13,22,30,33],[2,5,13,22,30,33]),([34,0,1,2,3,4,5,6,7,8,9,10,11,12,13,14,15,16,17,18,19,20,21,22,23,24,25,26,27,28,29,30,31,32,33,34],[34])])
def spec_l71Box.B7:List Nat:=[0,1,3,0,8,24,0,0,192,0,0,1024,3584,8128,0,0,32768,114688,0,0,524288,1835008,4177920,0,0,16777216,58720256,0,0,402653184,1065353216,0,2147483648,6442450944,17179869183,34359738367]
theorem spec_l71Box.tab7:rtab .any (opsOf Tryd.f110 7)=spec_l71Box.T7:=by kernel_rfl
theorem spec_l71Box.bits7:waitsOk spec_l71Box.T7.2 spec_l71Box.B7=true:=by kernel_rfl
def spec_l71Box.T10:Bool × List (List Nat × List Nat):=(true,[([],[]),([0],[0]),([1],[1]),([],[]),([3],[3]),([4],[4]),([],[]),([],[]),([6,7],[6,7]),([],[]),([],[]),([10],[10]),([9,11],[9,11]),([8,12],[8,12]),([],[]),([],[]),([15],[15]),([14,16],[14,16]),([],[]),([],[]),([18,19],[18,19]),([17,20],[17,20]),([],[]),([22],[22]),([23],[23]),([2,5,13,21,24],[2,5,13,21,24]),([25,0,1,2,3,4,5,6,7,8,9,10,11,12,13,14,15,16,17,18,19,20,21,22,23,24,25],[25])])
def spec_l71Box.B10:List Nat:=[0,1,3,0,8,24,0,0,192,0,0,1024,3584,8128,0,0,32768,114688,0,0,786432,2080768,0,4194304,12582912,33554431,67108863]
theorem spec_l71Box.tab10:rtab .any (opsOf Tryd.f110 10)=spec_l71Box.T10:=by kernel_rfl
theorem spec_l71Box.bits10:waitsOk spec_l71Box.T10.2 spec_l71Box.B10=true:=by kernel_rfl
def spec_l71Box.T12:Bool × List (List Nat × List Nat):=(true,[([],[]),([0],[0]),([1],[1]),([],[]),([3],[3]),([4],[4]),([],[]),([6],[6]),([7],[7]),([],[]),([9],[9]),([10],[10]),([2,5,8,11],[2,5,8,11]),([12,0,1,2,3,4,5,6,7,8,9,10,11,12],[12])])
def spec_l71Box.B12:List Nat:=[0,1,3,0,8,24,0,64,192,0,512,1536,4095,8191]
theorem spec_l71Box.tab12:rtab .any (opsOf Tryd.f110 12)=spec_l71Box.T12:=by kernel_rfl
theorem spec_l71Box.bits12:waitsOk spec_l71Box.T12.2 spec_l71Box.B12=true:=by kernel_rfl
def spec_l71Box.T15:Bool × List (List Nat × List Nat):=(true,[([],[]),([0],[0]),([1],[1]),([],[]),([],[]),([4],[4]),([3,5],[3,5]),([],[]),([7],[7]),([6,8],[6,8]),([],[]),([10],[10]),([11],[11]),([],[]),([13],[13]),([14],[14]),([],[]),([],[]),([17],[17]),([16,18],[16,18]),([],[]),([],[]),([20,21],[20,21]),([22],[22]),([19,23],[19,23]),([],[]),([25],[25]),([26],[26]),([2,9,12,15,24,27],[2,9,12,15,24,27]),([28,0,1,2,3,4,5,6,7,8,9,10,11,12,13,14,15,16,17,18,19,20,21,22,23,24,25,26,27,28],[28])])
def spec_l71Box.B15:List Nat:=[0,1,3,0,0,16,56,0,128,504,0,1024,3072,0,8192,24576,0,0,131072,458752,0,0,3145728,7340032,16711680,0,33554432,100663296,268435455,536870911]
theorem spec_l71Box.tab15:rtab .any (opsOf Tryd.f110 15)=spec_l71Box.T15:=by kernel_rfl
theorem spec_l71Box.bits15:waitsOk spec_l71Box.T15.2 spec_l71Box.B15=true:=by kernel_rfl
set_option maxHeartbeats 8000000 in
set_option maxRecDepth 100000 in
theorem spec_l71Box.calls (k:Nat)(g:Nat)(s0_0:List Int)(s0_1:Int)(a1:Int)(a2:Int)(a3:Int)(a4:Int)(r1:List (S28))(r2:Int)(w0 w:World)(hI:IsS123 w0 w g s0_0 s0_1)(hB:Below w0.heap.size w0 w)(h:spec_l71Box.f k s0_0 s0_1 a1 a2 a3 a4=some (r1,r2)):
  Calls Tryd.prog 110 #[.pointer (some ⟨g,0,none⟩),.int .i64 a1,.int .i64 a2,.int .i64 a3,.int .i64 a4] w fun e w'=>∃ v0_:Value,e=.returned (v0_)∧Kd.R k28 28 w' w.heap.size (fun _=>True) v0_ r1∧IsS123 w0 w' g s0_0 r2∧Below w0.heap.size w0 w'∧KeepBut w w' g none:=by
 have hu28:=Tryd.underlying28;have HI0:=Aside0.mk hI;have HK:=a0_ (KeepBut.refl w g none);have HL:=Aside0.mk hB.size;clear hI;have HW0:=Aside0.mk hB.size;have HB:=Aside0.mk hB;clear hB
 have H:((some (([(⟨a1,a2⟩:S28),(⟨wrap64 (a1+a3),a2⟩:S28),(⟨wrap64 (a1+a3),wrap64 (a2+a4)⟩:S28),(⟨a1,wrap64 (a2+a4)⟩:S28)]:List (S28)):List (S28))).bind fun y192=>((spec_l6Rd_pick.f k s0_0 s0_1 7).bind fun bt195=>(if bt195.1=0 then (if 3≤(y192.length:Int) then (some ((y192.take (3:Int).toNat),bt195.2)) else (none)) else (if bt195.1=1 then (if a3>1 then (if a4>1 then (if 0<(y192.length:Int) then (if 1<(y192.length:Int) then (if 3<(y192.length:Int) then (some ((([(⟨(rd_T28 y192 0).f0,(rd_T28 y192 0).f1⟩:S28),(⟨(rd_T28 y192 1).f0,(rd_T28 y192 1).f1⟩:S28),(⟨wrap64 (a1+a3),wrap64 (a2+(wrap64 (Int.tdiv a4 2)))⟩:S28),(⟨wrap64 (a1+(wrap64 (Int.tdiv a3 2))),wrap64 (a2+(wrap64 (Int.tdiv a4 2)))⟩:S28),(⟨wrap64 (a1+(wrap64 (Int.tdiv a3 2))),wrap64 (a2+a4)⟩:S28),(⟨(rd_T28 y192 3).f0,(rd_T28 y192 3).f1⟩:S28)]:List (S28))),bt195.2)) else (none)) else (none)) else (none)) else (some (y192,bt195.2))) else (some (y192,bt195.2))) else (if bt195.1=2 then (if a4>1 then (if 0<(y192.length:Int) then (if 1<(y192.length:Int) then (if 3<(y192.length:Int) then (some ((([(⟨(rd_T28 y192 0).f0,(rd_T28 y192 0).f1⟩:S28),(⟨(rd_T28 y192 1).f0,(rd_T28 y192 1).f1⟩:S28),(⟨wrap64 (a1+a3),wrap64 (a2+(wrap64 (Int.tdiv a4 2)))⟩:S28),(⟨wrap64 (a1+(wrap64 (Int.tdiv a3 2))),wrap64 (a2+a4)⟩:S28),(⟨(rd_T28 y192 3).f0,(rd_T28 y192 3).f1⟩:S28)]:List (S28))),bt195.2)) else (none)) else (none)) else (none)) else (some (y192,bt195.2))) else (if bt195.1=3 then (if 3<(y192.length:Int) then (if 2<(y192.length:Int) then (if 1<(y192.length:Int) then (if 0<(y192.length:Int) then (some ((([(⟨(rd_T28 y192 3).f0,(rd_T28 y192 3).f1⟩:S28),(⟨(rd_T28 y192 2).f0,(rd_T28 y192 2).f1⟩:S28),(⟨(rd_T28 y192 1).f0,(rd_T28 y192 1).f1⟩:S28),(⟨(rd_T28 y192 0).f0,(rd_T28 y192 0).f1⟩:S28)]:List (S28))),bt195.2)) else (none)) else (none)) else (none)) else (none)) else (if bt195.1=4 then (if a3>2 then (if a4>2 then (if 0<(y192.length:Int) then (if 1<(y192.length:Int) then (if 2<(y192.length:Int) then (if 3<(y192.length:Int) then (some ((([(⟨(rd_T28 y192 0).f0,(rd_T28 y192 0).f1⟩:S28),(⟨wrap64 (a1+(wrap64 (Int.tdiv a3 2))),wrap64 (a2+1)⟩:S28),(⟨(rd_T28 y192 1).f0,(rd_T28 y192 1).f1⟩:S28),(⟨(rd_T28 y192 2).f0,(rd_T28 y192 2).f1⟩:S28),(⟨wrap64 (a1+(wrap64 (Int.tdiv a3 2))),wrap64 ((wrap64 (a2+a4))-1)⟩:S28),(⟨(rd_T28 y192 3).f0,(rd_T28 y192 3).f1⟩:S28)]:List (S28))),bt195.2)) else (none)) else (none)) else (none)) else (none)) else (some (y192,bt195.2))) else (some (y192,bt195.2))) else (some (y192,bt195.2)))))))))=some (r1,r2):=h
 clear h;obtain⟨y192,hy192⟩:∃ y_:List (S28),y_=(([(⟨a1,a2⟩:S28),(⟨wrap64 (a1+a3),a2⟩:S28),(⟨wrap64 (a1+a3),wrap64 (a2+a4)⟩:S28),(⟨a1,wrap64 (a2+a4)⟩:S28)]:List (S28))):=⟨_,rfl⟩
 replace H:((spec_l6Rd_pick.f k s0_0 s0_1 7).bind fun bt195=>(if bt195.1=0 then (if 3≤(y192.length:Int) then (some ((y192.take (3:Int).toNat),bt195.2)) else (none)) else (if bt195.1=1 then (if a3>1 then (if a4>1 then (if 0<(y192.length:Int) then (if 1<(y192.length:Int) then (if 3<(y192.length:Int) then (some ((([(⟨(rd_T28 y192 0).f0,(rd_T28 y192 0).f1⟩:S28),(⟨(rd_T28 y192 1).f0,(rd_T28 y192 1).f1⟩:S28),(⟨wrap64 (a1+a3),wrap64 (a2+(wrap64 (Int.tdiv a4 2)))⟩:S28),(⟨wrap64 (a1+(wrap64 (Int.tdiv a3 2))),wrap64 (a2+(wrap64 (Int.tdiv a4 2)))⟩:S28),(⟨wrap64 (a1+(wrap64 (Int.tdiv a3 2))),wrap64 (a2+a4)⟩:S28),(⟨(rd_T28 y192 3).f0,(rd_T28 y192 3).f1⟩:S28)]:List (S28))),bt195.2)) else (none)) else (none)) else (none)) else (some (y192,bt195.2))) else (some (y192,bt195.2))) else (if bt195.1=2 then (if a4>1 then (if 0<(y192.length:Int) then (if 1<(y192.length:Int) then (if 3<(y192.length:Int) then (some ((([(⟨(rd_T28 y192 0).f0,(rd_T28 y192 0).f1⟩:S28),(⟨(rd_T28 y192 1).f0,(rd_T28 y192 1).f1⟩:S28),(⟨wrap64 (a1+a3),wrap64 (a2+(wrap64 (Int.tdiv a4 2)))⟩:S28),(⟨wrap64 (a1+(wrap64 (Int.tdiv a3 2))),wrap64 (a2+a4)⟩:S28),(⟨(rd_T28 y192 3).f0,(rd_T28 y192 3).f1⟩:S28)]:List (S28))),bt195.2)) else (none)) else (none)) else (none)) else (some (y192,bt195.2))) else (if bt195.1=3 then (if 3<(y192.length:Int) then (if 2<(y192.length:Int) then (if 1<(y192.length:Int) then (if 0<(y192.length:Int) then (some ((([(⟨(rd_T28 y192 3).f0,(rd_T28 y192 3).f1⟩:S28),(⟨(rd_T28 y192 2).f0,(rd_T28 y192 2).f1⟩:S28),(⟨(rd_T28 y192 1).f0,(rd_T28 y192 1).f1⟩:S28),(⟨(rd_T28 y192 0).f0,(rd_T28 y192 0).f1⟩:S28)]:List (S28))),bt195.2)) else (none)) else (none)) else (none)) else (none)) else (if bt195.1=4 then (if a3>2 then (if a4>2 then (if 0<(y192.length:Int) then (if 1<(y192.length:Int) then (if 2<(y192.length:Int) then (if 3<(y192.length:Int) then (some ((([(⟨(rd_T28 y192 0).f0,(rd_T28 y192 0).f1⟩:S28),(⟨wrap64 (a1+(wrap64 (Int.tdiv a3 2))),wrap64 (a2+1)⟩:S28),(⟨(rd_T28 y192 1).f0,(rd_T28 y192 1).f1⟩:S28),(⟨(rd_T28 y192 2).f0,(rd_T28 y192 2).f1⟩:S28),(⟨wrap64 (a1+(wrap64 (Int.tdiv a3 2))),wrap64 ((wrap64 (a2+a4))-1)⟩:S28),(⟨(rd_T28 y192 3).f0,(rd_T28 y192 3).f1⟩:S28)]:List (S28))),bt195.2)) else (none)) else (none)) else (none)) else (none)) else (some (y192,bt195.2))) else (some (y192,bt195.2))) else (some (y192,bt195.2))))))))=some (r1,r2):=by first | (rw [hy192];with_reducible exact H) | (have H2_:=(Option.bind_some _ _).symm.trans H;rw [hy192];with_reducible exact H2_) | (have H2_:=(Option.bind_some _ _).symm.trans H;with_reducible exact H2_) | with_reducible exact H | (rw [hy192];exact H) | exact H
 have Ny192:=Aside0.mk hy192;clear hy192;replace H:=Option.bind_eq_some_iff.mp H;obtain⟨⟨t195,t196⟩,A60,H⟩:=H
 (try dsimp only at H)
 have A6:=Aside0.mk A60;clear A60;by_cases c7:t195=0
 ·
  rw [if_pos c7] at H;have c7b0:(t195==0)=true:=beq_iff_eq.mpr c7;have c7b1:(t195 != 0)=false:=bne_eq_false_iff_eq.mpr c7;clear c7;by_cases c8:3≤(y192.length:Int)
  ·
   rw [if_pos c8] at H;have c8b0:=eq_true c8;have c8b1:decide (3≤(y192.length:Int))=true:=decide_eq_true c8;clear c8;obtain⟨y197,hy197⟩:∃ y_:List (S28),y_=(y192.take (3:Int).toNat):=⟨_,rfl⟩;replace H:(some (y197,t196))=some (r1,r2):=by first | (rw [hy197];with_reducible exact H) | (have H2_:=(Option.bind_some _ _).symm.trans H;rw [hy197];with_reducible exact H2_) | (have H2_:=(Option.bind_some _ _).symm.trans H;with_reducible exact H2_) | with_reducible exact H | (rw [hy197];exact H) | exact H
   have Ny197:=Aside0.mk hy197;clear hy197;simp only [Option.some.injEq,Prod.mk.injEq] at H;obtain⟨rfl,rfl⟩:=H;go_enter Tryd.func110,Tryd.ntmps110
   go_wp2_with (first | ((with_reducible refine gate_dst (N:=32) rfl ?_);refine Kd.R_lit k28 _ 28 ?hg (N:=32) ?hd (xs:=([(⟨a1,a2⟩:S28),(⟨wrap64 (a1+a3),a2⟩:S28),(⟨wrap64 (a1+a3),wrap64 (a2+a4)⟩:S28),(⟨a1,wrap64 (a2+a4)⟩:S28)]:List (S28))) (inner:=[.int .i64 a1,.int .i64 a2,.int .i64 (wrap64 (a1+a3)),.int .i64 a2,.int .i64 (wrap64 (a1+a3)),.int .i64 (wrap64 (a2+a4)),.int .i64 a1,.int .i64 (wrap64 (a2+a4))]) (ok:=fun _=>True) (okp:=fun _=>True) ?hr ?hp (fun _ hk=>hk) trivial (Below.refl _ _) (Nat.le_refl _) (by simp) ?_;(case hd=>rfl);(case hg=>rfl);(case hr=>first | (go_simp;done) | (go_simp;rfl));(case hp=>exact (Reps.c2 (show Kd.M k28 _ _ _ (⟨a1,a2⟩:S28) [.int .i64 a1,.int .i64 a2] from (k28_mkM _ _ _ (⟨a1,a2⟩:S28) )) (Reps.c2 (show Kd.M k28 _ _ _ (⟨wrap64 (a1+a3),a2⟩:S28) [.int .i64 (wrap64 (a1+a3)),.int .i64 a2] from (k28_mkM _ _ _ (⟨wrap64 (a1+a3),a2⟩:S28) )) (Reps.c2 (show Kd.M k28 _ _ _ (⟨wrap64 (a1+a3),wrap64 (a2+a4)⟩:S28) [.int .i64 (wrap64 (a1+a3)),.int .i64 (wrap64 (a2+a4))] from (k28_mkM _ _ _ (⟨wrap64 (a1+a3),wrap64 (a2+a4)⟩:S28) )) (Reps.c2 (show Kd.M k28 _ _ _ (⟨a1,wrap64 (a2+a4)⟩:S28) [.int .i64 a1,.int .i64 (wrap64 (a2+a4))] from (k28_mkM _ _ _ (⟨a1,wrap64 (a2+a4)⟩:S28) )) (Reps.none _ _))))));intro v193 w9 ho10 hb hg_ hnew_;clear hg_ hnew_;(first | rw [← Ny192.out] at ho10 | (simp only [Int.reduceToNat] at ho10;rw [← Ny192.out] at ho10));have HO194:=a0_ (Kd.R_lower ho10 (keep_size (w:=w) (g:=g) (row:=none) (hK_ HK)));replace HK:=kb_ HK hb;replace HB:=a0_ (below_step hBs_ hb);replace HI0:=a0_ (IsS123.below hI_ hb);clear hb ho10) | ((with_reducible refine gate_callee (f:=74) rfl ?_);refine gL_ (some 34) Tryd.func74 #[.pointer (some ⟨g,0,none⟩),.int .i64 7] (h:=?_);(with_reducible refine (spec_l6Rd_pick.calls k g s0_0 s0_1 7 t195 t196 w0 _ hI_ hBs_ A6.out).mono ?_);rintro e w11 ⟨rfl,hi,hb,hk⟩;refine⟨_,rfl,?_⟩;replace HO194:=a0_ (Kd.R_mono (Kd.R_keep (IsS123.apart (show IsS123 w0 _ g s0_0 s0_1 from hI_) (uR_ HO194) (by decide)) hk (fun _ h=>h.2)) (fun _ h=>h.1));replace HK:=kk_ HK hk;replace HB:=a0_ (hb);replace HI0:=a0_ (hi);(try clear hi hb hk);obtain⟨Ao12,co12,eo12⟩:=Kd.R_slice HO194.out;subst eo12;have q13:(3:Int)≤((y192.length:Int):Int):=od_;obtain⟨i013,hi013,_,hsz13,_⟩:=info_parts info28;have hcut13:=cut_to (P:=Tryd.prog) 23 28 .i64 Tryd.underlying23 hi013 Ao12 y192.length co12 3 (by omega) q13 (Kd.R_reads' HO194.out).2.1;have hr13:=Kd.R_take (m:=(3:Int).toNat) HO194.out (by omega);have hy13:y197.length=(3:Int).toNat:=(by rw [Ny197.out,List.length_take];omega);rw [← Ny197.out] at hr13;rw [← hy13] at hr13 hcut13;clear hy13 hi013 hsz13 HO194;have HO199:=Aside0.mk hr13;clear hr13;replace q13:=eq_true q13))
   go_ret;exact⟨_,rr_,by (with_reducible repeat (first | apply Kd.R_alloc | apply Kd.R_drewN | apply Kd.R_drew));exact HO199.out,by repeat (first | (with_reducible first | exact HI0.out | apply IsS123.alloc | apply IsS123.drewN | apply IsS123.drew | apply IsS123.set_1) | exact HI0.out),by repeat (first | (with_reducible first | exact HB.out | apply below_alloc | apply pw_below_drewN | apply below_drew1 | refine below_set ?_ (IsS123.ge HI0.out)) | exact HB.out),by repeat (first | (with_reducible first | exact HK.out | apply KeepBut.set_ | apply keep_drewN | apply keep_drew | apply keep_alloc) | exact HK.out)⟩
  ·
   rw [if_neg c8] at H;exact absurd H (by simp)
 ·
  rw [if_neg c7] at H;have c7b0:(t195==0)=false:=beq_eq_false_iff_ne.mpr c7;have c7b1:(t195 != 0)=true:=bne_iff_ne.mpr c7;by_cases c14:t195=1
  ·
   rw [if_pos c14] at H;have c14b0:(t195==1)=true:=beq_iff_eq.mpr c14;have c14b1:(t195 != 1)=false:=bne_eq_false_iff_eq.mpr c14;clear c14;by_cases c15:a3>1
   ·
    rw [if_pos c15] at H;have c15b0:decide (1<a3)=true:=decide_eq_true c15;clear c15;by_cases c16:a4>1
    ·
     rw [if_pos c16] at H;have c16b0:decide (1<a4)=true:=decide_eq_true c16;clear c16;by_cases c17:0<(y192.length:Int)
     ·
      rw [if_pos c17] at H;have c17b0:decide (0<(y192.length:Int))=true:=decide_eq_true c17;have c17b1:decide (0<y192.length)=true:=decide_eq_true (by omega);clear c17;by_cases c18:1<(y192.length:Int)
      ·
       rw [if_pos c18] at H;have c18b0:decide (1<(y192.length:Int))=true:=decide_eq_true c18;have c18b1:decide (1<y192.length)=true:=decide_eq_true (by omega);clear c18;by_cases c19:3<(y192.length:Int)
       ·
        rw [if_pos c19] at H;have c19b0:decide (3<(y192.length:Int))=true:=decide_eq_true c19;have c19b1:decide (3<y192.length)=true:=decide_eq_true (by omega);clear c19;obtain⟨y203,hy203⟩:∃ y_:List (S28),y_=(([(⟨(rd_T28 y192 0).f0,(rd_T28 y192 0).f1⟩:S28),(⟨(rd_T28 y192 1).f0,(rd_T28 y192 1).f1⟩:S28),(⟨wrap64 (a1+a3),wrap64 (a2+(wrap64 (Int.tdiv a4 2)))⟩:S28),(⟨wrap64 (a1+(wrap64 (Int.tdiv a3 2))),wrap64 (a2+(wrap64 (Int.tdiv a4 2)))⟩:S28),(⟨wrap64 (a1+(wrap64 (Int.tdiv a3 2))),wrap64 (a2+a4)⟩:S28),(⟨(rd_T28 y192 3).f0,(rd_T28 y192 3).f1⟩:S28)]:List (S28))):=⟨_,rfl⟩;replace H:(some (y203,t196))=some (r1,r2):=by first | (rw [hy203];with_reducible exact H) | (have H2_:=(Option.bind_some _ _).symm.trans H;rw [hy203];with_reducible exact H2_) | (have H2_:=(Option.bind_some _ _).symm.trans H;with_reducible exact H2_) | with_reducible exact H | (rw [hy203];exact H) | exact H
        have Ny203:=Aside0.mk hy203;clear hy203;simp only [Option.some.injEq,Prod.mk.injEq] at H;obtain⟨rfl,rfl⟩:=H;go_enter Tryd.func110,Tryd.ntmps110
        try go_wp2_with (first | ((with_reducible refine gate_dst (N:=32) rfl ?_);refine Kd.R_lit k28 _ 28 ?hg (N:=32) ?hd (xs:=([(⟨a1,a2⟩:S28),(⟨wrap64 (a1+a3),a2⟩:S28),(⟨wrap64 (a1+a3),wrap64 (a2+a4)⟩:S28),(⟨a1,wrap64 (a2+a4)⟩:S28)]:List (S28))) (inner:=[.int .i64 a1,.int .i64 a2,.int .i64 (wrap64 (a1+a3)),.int .i64 a2,.int .i64 (wrap64 (a1+a3)),.int .i64 (wrap64 (a2+a4)),.int .i64 a1,.int .i64 (wrap64 (a2+a4))]) (ok:=fun _=>True) (okp:=fun _=>True) ?hr ?hp (fun _ hk=>hk) trivial (Below.refl _ _) (Nat.le_refl _) (by simp) ?_;(case hd=>rfl);(case hg=>rfl);(case hr=>first | (go_simp;done) | (go_simp;rfl));(case hp=>exact (Reps.c2 (show Kd.M k28 _ _ _ (⟨a1,a2⟩:S28) [.int .i64 a1,.int .i64 a2] from (k28_mkM _ _ _ (⟨a1,a2⟩:S28) )) (Reps.c2 (show Kd.M k28 _ _ _ (⟨wrap64 (a1+a3),a2⟩:S28) [.int .i64 (wrap64 (a1+a3)),.int .i64 a2] from (k28_mkM _ _ _ (⟨wrap64 (a1+a3),a2⟩:S28) )) (Reps.c2 (show Kd.M k28 _ _ _ (⟨wrap64 (a1+a3),wrap64 (a2+a4)⟩:S28) [.int .i64 (wrap64 (a1+a3)),.int .i64 (wrap64 (a2+a4))] from (k28_mkM _ _ _ (⟨wrap64 (a1+a3),wrap64 (a2+a4)⟩:S28) )) (Reps.c2 (show Kd.M k28 _ _ _ (⟨a1,wrap64 (a2+a4)⟩:S28) [.int .i64 a1,.int .i64 (wrap64 (a2+a4))] from (k28_mkM _ _ _ (⟨a1,wrap64 (a2+a4)⟩:S28) )) (Reps.none _ _))))));intro v193 w20 ho21 hb hg_ hnew_;clear hg_ hnew_;(first | rw [← Ny192.out] at ho21 | (simp only [Int.reduceToNat] at ho21;rw [← Ny192.out] at ho21));have HO194:=a0_ (Kd.R_lower ho21 (keep_size (w:=w) (g:=g) (row:=none) (hK_ HK)));replace HK:=kb_ HK hb;replace HB:=a0_ (below_step hBs_ hb);replace HI0:=a0_ (IsS123.below hI_ hb);clear hb ho21) | ((with_reducible refine gate_callee (f:=74) rfl ?_);refine gL_ (some 34) Tryd.func74 #[.pointer (some ⟨g,0,none⟩),.int .i64 7] (h:=?_);(with_reducible refine (spec_l6Rd_pick.calls k g s0_0 s0_1 7 t195 t196 w0 _ hI_ hBs_ A6.out).mono ?_);rintro e w22 ⟨rfl,hi,hb,hk⟩;refine⟨_,rfl,?_⟩;replace HO194:=a0_ (Kd.R_mono (Kd.R_keep (IsS123.apart (show IsS123 w0 _ g s0_0 s0_1 from hI_) (uR_ HO194) (by decide)) hk (fun _ h=>h.2)) (fun _ h=>h.1));replace HK:=kk_ HK hk;replace HB:=a0_ (hb);replace HI0:=a0_ (hi);(try clear hi hb hk)))
        replace HO194:=a0_ (Kd.R_drew HO194.out);replace HI0:=a0_ (IsS123.drew HI0.out);replace HK:=a0_ (keep_drew HK.out);replace HB:=a0_ (below_drew1 HB.out);obtain⟨Ao24,co24,eo24⟩:=Kd.R_slice HO194.out
        (first | subst eo24 | (injection eo24 with f1_ f2_ f3_;have f4_:=f1_.symm;have f5_:=f3_.symm;clear f1_ f2_ f3_;subst f4_;subst f5_))
        have p200:0≤(0:Int):=(by omega);have q200:0<(y192.length:Int):=od_;obtain⟨ad200,e200,hx200_0,hx200_1⟩:=at_T28 (Kd.R_reads' HO194.out).2.2 0 p200 q200;cases e200;have qi200:(0<y192.length)=True:=eq_true (by omega)
        (try simp only [Int.toNat_zero,Nat.zero_mul,Addr.add_zero'] at hx200_0)
        (try simp only [Int.toNat_zero,Nat.zero_mul,Addr.add_zero'] at hx200_1)
        replace p200:=eq_true p200;replace q200:=eq_true q200;have p201:0≤(1:Int):=(by omega);have q201:1<(y192.length:Int):=od_;obtain⟨ad201,e201,hx201_0,hx201_1⟩:=at_T28 (Kd.R_reads' HO194.out).2.2 1 p201 q201;obtain rfl:ad200=ad201:=(by injection e201)
        (try simp only [show (1:Int).toNat=1 from rfl,Nat.reduceMul,Nat.reduceEqDiff,Go.Addr.add,↓reduceIte] at hx201_0)
        (try simp only [show (1:Int).toNat=1 from rfl,Nat.reduceMul,Nat.reduceEqDiff,Go.Addr.add,↓reduceIte] at hx201_1)
        have qi201:(1<y192.length)=True:=eq_true (by omega)
        (try rw [show ((1:Int)).toNat=1 from rfl] at hx201_0)
        (try rw [show 1*2=2 from rfl] at hx201_0)
        (try rw [show ((1:Int)).toNat=1 from rfl] at hx201_1)
        (try rw [show 1*2=2 from rfl] at hx201_1)
        replace p201:=eq_true p201;replace q201:=eq_true q201;have p202:0≤(3:Int):=(by omega);have q202:3<(y192.length:Int):=od_;obtain⟨ad202,e202,hx202_0,hx202_1⟩:=at_T28 (Kd.R_reads' HO194.out).2.2 3 p202 q202;obtain rfl:ad200=ad202:=(by injection e202)
        (try simp only [show (3:Int).toNat=3 from rfl,Nat.reduceMul,Nat.reduceEqDiff,Go.Addr.add,↓reduceIte] at hx202_0)
        (try simp only [show (3:Int).toNat=3 from rfl,Nat.reduceMul,Nat.reduceEqDiff,Go.Addr.add,↓reduceIte] at hx202_1)
        have qi202:(3<y192.length)=True:=eq_true (by omega)
        (try rw [show ((3:Int)).toNat=3 from rfl] at hx202_0)
        (try rw [show 3*2=6 from rfl] at hx202_0)
        (try rw [show ((3:Int)).toNat=3 from rfl] at hx202_1)
        (try rw [show 3*2=6 from rfl] at hx202_1)
        replace p202:=eq_true p202;replace q202:=eq_true q202;refine start_ (n:=36) (S:=fun w'=>w'.cell? ad200=some (.int .i64 ((rd_T28 y192 0).f0))∧w'.cell? ⟨ad200.block,ad200.off+1,none⟩=some (.int .i64 ((rd_T28 y192 0).f1))∧w'.cell? ⟨ad200.block,ad200.off+2,none⟩=some (.int .i64 ((rd_T28 y192 1).f0))∧w'.cell? ⟨ad200.block,ad200.off+2+1,none⟩=some (.int .i64 ((rd_T28 y192 1).f1))∧w'.cell? ⟨ad200.block,ad200.off+6,none⟩=some (.int .i64 ((rd_T28 y192 3).f0))∧w'.cell? ⟨ad200.block,ad200.off+6+1,none⟩=some (.int .i64 ((rd_T28 y192 3).f1))) (ds:=[]) (Array.replicate 36 false) (by kernel_rfl) rfl rfl ⟨hx200_0,hx200_1,hx201_0,hx201_1,hx202_0,hx202_1⟩ (fun hHeld=>?_);refine with_tabW spec_l71Box.tab7 spec_l71Box.bits7 (fun HT_ HW_=>?_);generalize w22.drew=w23 at HO194 HI0 HK HB hx200_0 hx200_1 hx201_0 hx201_1 hx202_0 hx202_1 hHeld ⊢
        refine pu_ HT_ 0 47 (bm 36 1) ?_;refine pu_ HT_ 1 48 (bm 36 3) ?_;refine pu_ HT_ 3 50 (bm 36 11) ?_;refine pu_ HT_ 4 51 (bm 36 27) ?_;refine pu_ HT_ 6 53 (bm 36 91) ?_;refine pu_ HT_ 7 54 (bm 36 219) ?_;refine pu_ HT_ 8 55 (bm 36 475) ?_;refine pu_ HT_ 9 56 (bm 36 987) ?_;refine pu_ HT_ 10 57 (bm 36 2011) ?_;refine pu_ HT_ 11 58 (bm 36 4059) ?_;refine pu_ HT_ 12 59 (bm 36 8155) ?_;refine pu_ HT_ 13 60 (bm 36 16347) ?_;refine pu_ HT_ 14 61 (bm 36 32731) ?_;refine pu_ HT_ 15 62 (bm 36 65499) ?_;refine pu_ HT_ 16 63 (bm 36 131035) ?_;refine pu_ HT_ 17 64 (bm 36 262107) ?_;refine pu_ HT_ 18 65 (bm 36 524251) ?_;refine pu_ HT_ 19 66 (bm 36 1048539) ?_;refine pu_ HT_ 20 67 (bm 36 2097115) ?_;refine pu_ HT_ 21 68 (bm 36 4194267) ?_;refine pu_ HT_ 22 69 (bm 36 8388571) ?_;refine pu_ HT_ 23 70 (bm 36 16777179) ?_;refine pu_ HT_ 24 71 (bm 36 33554395) ?_;refine pu_ HT_ 25 72 (bm 36 67108827) ?_;refine pu_ HT_ 26 73 (bm 36 134217691) ?_;refine pu_ HT_ 27 74 (bm 36 268435419) ?_;refine pu_ HT_ 28 75 (bm 36 536870875) ?_;refine pu_ HT_ 29 76 (bm 36 1073741787) ?_;refine pu_ HT_ 30 77 (bm 36 2147483611) ?_;refine pu_ HT_ 31 78 (bm 36 4294967259) ?_;refine pu_ HT_ 32 79 (bm 36 8589934555) ?_;refine ta6_ HT_ HW_ 2 49 (bm 36 8589934559) hHeld ?_;refine ta6_ HT_ HW_ 5 52 (bm 36 8589934591) hHeld ?_;refine ta6_ HT_ HW_ 33 80 (bm 36 17179869183) hHeld ?_;refine one_ (i:=34) (N:=some 81) (bm 36 34359738367) rfl rfl (one_of HT_.out (by kernel_rfl)) (by decide) (fun K hK=>?_)
        refine Kd.R_lit_step k28 _ 28 ?hg (N:=81) ?hd (xs:=([(⟨(rd_T28 y192 0).f0,(rd_T28 y192 0).f1⟩:S28),(⟨(rd_T28 y192 1).f0,(rd_T28 y192 1).f1⟩:S28),(⟨wrap64 (a1+a3),wrap64 (a2+(wrap64 (Int.tdiv a4 2)))⟩:S28),(⟨wrap64 (a1+(wrap64 (Int.tdiv a3 2))),wrap64 (a2+(wrap64 (Int.tdiv a4 2)))⟩:S28),(⟨wrap64 (a1+(wrap64 (Int.tdiv a3 2))),wrap64 (a2+a4)⟩:S28),(⟨(rd_T28 y192 3).f0,(rd_T28 y192 3).f1⟩:S28)]:List (S28))) (inner:=[.int .i64 ((rd_T28 y192 0).f0),.int .i64 ((rd_T28 y192 0).f1),.int .i64 ((rd_T28 y192 1).f0),.int .i64 ((rd_T28 y192 1).f1),.int .i64 (wrap64 (a1+a3)),.int .i64 (wrap64 (a2+(wrap64 (Int.tdiv a4 2)))),.int .i64 (wrap64 (a1+(wrap64 (Int.tdiv a3 2)))),.int .i64 (wrap64 (a2+(wrap64 (Int.tdiv a4 2)))),.int .i64 (wrap64 (a1+(wrap64 (Int.tdiv a3 2)))),.int .i64 (wrap64 (a2+a4)),.int .i64 ((rd_T28 y192 3).f0),.int .i64 ((rd_T28 y192 3).f1)]) (ok:=fun _=>True) (okp:=fun _=>True) ?hr ?hp (fun _ hk=>hk) trivial (Below.refl _ _) (Nat.le_refl _) (by simp) ?_;(case hd=>rfl);(case hg=>rfl);(case hr=>first | (go_simp;done) | (go_simp;rfl));(case hp=>exact (Reps.c2 (show Kd.M k28 _ _ _ (⟨(rd_T28 y192 0).f0,(rd_T28 y192 0).f1⟩:S28) [.int .i64 ((rd_T28 y192 0).f0),.int .i64 ((rd_T28 y192 0).f1)] from (k28_mkM _ _ _ (⟨(rd_T28 y192 0).f0,(rd_T28 y192 0).f1⟩:S28) )) (Reps.c2 (show Kd.M k28 _ _ _ (⟨(rd_T28 y192 1).f0,(rd_T28 y192 1).f1⟩:S28) [.int .i64 ((rd_T28 y192 1).f0),.int .i64 ((rd_T28 y192 1).f1)] from (k28_mkM _ _ _ (⟨(rd_T28 y192 1).f0,(rd_T28 y192 1).f1⟩:S28) )) (Reps.c2 (show Kd.M k28 _ _ _ (⟨wrap64 (a1+a3),wrap64 (a2+(wrap64 (Int.tdiv a4 2)))⟩:S28) [.int .i64 (wrap64 (a1+a3)),.int .i64 (wrap64 (a2+(wrap64 (Int.tdiv a4 2))))] from (k28_mkM _ _ _ (⟨wrap64 (a1+a3),wrap64 (a2+(wrap64 (Int.tdiv a4 2)))⟩:S28) )) (Reps.c2 (show Kd.M k28 _ _ _ (⟨wrap64 (a1+(wrap64 (Int.tdiv a3 2))),wrap64 (a2+(wrap64 (Int.tdiv a4 2)))⟩:S28) [.int .i64 (wrap64 (a1+(wrap64 (Int.tdiv a3 2)))),.int .i64 (wrap64 (a2+(wrap64 (Int.tdiv a4 2))))] from (k28_mkM _ _ _ (⟨wrap64 (a1+(wrap64 (Int.tdiv a3 2))),wrap64 (a2+(wrap64 (Int.tdiv a4 2)))⟩:S28) )) (Reps.c2 (show Kd.M k28 _ _ _ (⟨wrap64 (a1+(wrap64 (Int.tdiv a3 2))),wrap64 (a2+a4)⟩:S28) [.int .i64 (wrap64 (a1+(wrap64 (Int.tdiv a3 2)))),.int .i64 (wrap64 (a2+a4))] from (k28_mkM _ _ _ (⟨wrap64 (a1+(wrap64 (Int.tdiv a3 2))),wrap64 (a2+a4)⟩:S28) )) (Reps.c2 (show Kd.M k28 _ _ _ (⟨(rd_T28 y192 3).f0,(rd_T28 y192 3).f1⟩:S28) [.int .i64 ((rd_T28 y192 3).f0),.int .i64 ((rd_T28 y192 3).f1)] from (k28_mkM _ _ _ (⟨(rd_T28 y192 3).f0,(rd_T28 y192 3).f1⟩:S28) )) (Reps.none _ _))))))))
        intro v204 w25 ho26 hb hg_ hnew_;have HS0_:=pw_cell_below hb hHeld.1;have HS1_:=pw_cell_below hb hHeld.2.1;have HS2_:=pw_cell_below hb hHeld.2.2.1;have HS3_:=pw_cell_below hb hHeld.2.2.2.1;have HS4_:=pw_cell_below hb hHeld.2.2.2.2.1;have HS5_:=pw_cell_below hb hHeld.2.2.2.2.2;clear hg_ hnew_
        (first | rw [← Ny203.out] at ho26 | (simp only [Int.reduceToNat] at ho26;rw [← Ny203.out] at ho26))
        have HO205:=a0_ (Kd.R_lower (Kd.R_new' ho26 (Kd.R_lt (uR_ HO194))) (keep_size (w:=w) (g:=g) (row:=none) (hK_ HK)));replace HO194:=a0_ (Kd.R_elder' (uR_ HO194) (Kd.R_base ho26) hb);replace HK:=kb_ HK hb;replace HB:=a0_ (below_step hBs_ hb);replace HI0:=a0_ (IsS123.below hI_ hb);clear hb ho26;refine hK.out _ _ ⟨HS0_,HS1_,HS2_,HS3_,HS4_,HS5_⟩ (fun hHeld=>?_);clear hK K;refine no_ (h:=?_);refine pu_ HT_ 35 10 (bm 36 68719476735) ?_;refine done_ (done_of HT_.out (by kernel_rfl)) ?_
        try go_wp2
        go_ret;exact⟨_,rr_,by (with_reducible repeat (first | apply Kd.R_alloc | apply Kd.R_drewN | apply Kd.R_drew));exact Kd.R_mono HO205.out (fun _ hk=>trivial),by repeat (first | (with_reducible first | exact HI0.out | apply IsS123.alloc | apply IsS123.drewN | apply IsS123.drew | apply IsS123.set_1) | exact HI0.out),by repeat (first | (with_reducible first | exact HB.out | apply below_alloc | apply pw_below_drewN | apply below_drew1 | refine below_set ?_ (IsS123.ge HI0.out)) | exact HB.out),by repeat (first | (with_reducible first | exact HK.out | apply KeepBut.set_ | apply keep_drewN | apply keep_drew | apply keep_alloc) | exact HK.out)⟩
       ·
        rw [if_neg c19] at H;exact absurd H (by simp)
      ·
       rw [if_neg c18] at H;exact absurd H (by simp)
     ·
      rw [if_neg c17] at H;exact absurd H (by simp)
    ·
     rw [if_neg c16] at H;have c16b0:decide (1<a4)=false:=decide_eq_false c16;clear c16;simp only [Option.some.injEq,Prod.mk.injEq] at H;obtain⟨rfl,rfl⟩:=H;go_enter Tryd.func110,Tryd.ntmps110
     go_wp2_with (first | ((with_reducible refine gate_dst (N:=32) rfl ?_);refine Kd.R_lit k28 _ 28 ?hg (N:=32) ?hd (xs:=([(⟨a1,a2⟩:S28),(⟨wrap64 (a1+a3),a2⟩:S28),(⟨wrap64 (a1+a3),wrap64 (a2+a4)⟩:S28),(⟨a1,wrap64 (a2+a4)⟩:S28)]:List (S28))) (inner:=[.int .i64 a1,.int .i64 a2,.int .i64 (wrap64 (a1+a3)),.int .i64 a2,.int .i64 (wrap64 (a1+a3)),.int .i64 (wrap64 (a2+a4)),.int .i64 a1,.int .i64 (wrap64 (a2+a4))]) (ok:=fun _=>True) (okp:=fun _=>True) ?hr ?hp (fun _ hk=>hk) trivial (Below.refl _ _) (Nat.le_refl _) (by simp) ?_;(case hd=>rfl);(case hg=>rfl);(case hr=>first | (go_simp;done) | (go_simp;rfl));(case hp=>exact (Reps.c2 (show Kd.M k28 _ _ _ (⟨a1,a2⟩:S28) [.int .i64 a1,.int .i64 a2] from (k28_mkM _ _ _ (⟨a1,a2⟩:S28) )) (Reps.c2 (show Kd.M k28 _ _ _ (⟨wrap64 (a1+a3),a2⟩:S28) [.int .i64 (wrap64 (a1+a3)),.int .i64 a2] from (k28_mkM _ _ _ (⟨wrap64 (a1+a3),a2⟩:S28) )) (Reps.c2 (show Kd.M k28 _ _ _ (⟨wrap64 (a1+a3),wrap64 (a2+a4)⟩:S28) [.int .i64 (wrap64 (a1+a3)),.int .i64 (wrap64 (a2+a4))] from (k28_mkM _ _ _ (⟨wrap64 (a1+a3),wrap64 (a2+a4)⟩:S28) )) (Reps.c2 (show Kd.M k28 _ _ _ (⟨a1,wrap64 (a2+a4)⟩:S28) [.int .i64 a1,.int .i64 (wrap64 (a2+a4))] from (k28_mkM _ _ _ (⟨a1,wrap64 (a2+a4)⟩:S28) )) (Reps.none _ _))))));intro v193 w27 ho28 hb hg_ hnew_;clear hg_ hnew_;(first | rw [← Ny192.out] at ho28 | (simp only [Int.reduceToNat] at ho28;rw [← Ny192.out] at ho28));have HO194:=a0_ (Kd.R_lower ho28 (keep_size (w:=w) (g:=g) (row:=none) (hK_ HK)));replace HK:=kb_ HK hb;replace HB:=a0_ (below_step hBs_ hb);replace HI0:=a0_ (IsS123.below hI_ hb);clear hb ho28) | ((with_reducible refine gate_callee (f:=74) rfl ?_);refine gL_ (some 34) Tryd.func74 #[.pointer (some ⟨g,0,none⟩),.int .i64 7] (h:=?_);(with_reducible refine (spec_l6Rd_pick.calls k g s0_0 s0_1 7 t195 t196 w0 _ hI_ hBs_ A6.out).mono ?_);rintro e w29 ⟨rfl,hi,hb,hk⟩;refine⟨_,rfl,?_⟩;replace HO194:=a0_ (Kd.R_mono (Kd.R_keep (IsS123.apart (show IsS123 w0 _ g s0_0 s0_1 from hI_) (uR_ HO194) (by decide)) hk (fun _ h=>h.2)) (fun _ h=>h.1));replace HK:=kk_ HK hk;replace HB:=a0_ (hb);replace HI0:=a0_ (hi);(try clear hi hb hk)))
     go_ret;exact⟨_,rr_,by (with_reducible repeat (first | apply Kd.R_alloc | apply Kd.R_drewN | apply Kd.R_drew));exact HO194.out,by repeat (first | (with_reducible first | exact HI0.out | apply IsS123.alloc | apply IsS123.drewN | apply IsS123.drew | apply IsS123.set_1) | exact HI0.out),by repeat (first | (with_reducible first | exact HB.out | apply below_alloc | apply pw_below_drewN | apply below_drew1 | refine below_set ?_ (IsS123.ge HI0.out)) | exact HB.out),by repeat (first | (with_reducible first | exact HK.out | apply KeepBut.set_ | apply keep_drewN | apply keep_drew | apply keep_alloc) | exact HK.out)⟩
   ·
    rw [if_neg c15] at H;have c15b0:decide (1<a3)=false:=decide_eq_false c15;clear c15;simp only [Option.some.injEq,Prod.mk.injEq] at H;obtain⟨rfl,rfl⟩:=H;go_enter Tryd.func110,Tryd.ntmps110
    go_wp2_with (first | ((with_reducible refine gate_dst (N:=32) rfl ?_);refine Kd.R_lit k28 _ 28 ?hg (N:=32) ?hd (xs:=([(⟨a1,a2⟩:S28),(⟨wrap64 (a1+a3),a2⟩:S28),(⟨wrap64 (a1+a3),wrap64 (a2+a4)⟩:S28),(⟨a1,wrap64 (a2+a4)⟩:S28)]:List (S28))) (inner:=[.int .i64 a1,.int .i64 a2,.int .i64 (wrap64 (a1+a3)),.int .i64 a2,.int .i64 (wrap64 (a1+a3)),.int .i64 (wrap64 (a2+a4)),.int .i64 a1,.int .i64 (wrap64 (a2+a4))]) (ok:=fun _=>True) (okp:=fun _=>True) ?hr ?hp (fun _ hk=>hk) trivial (Below.refl _ _) (Nat.le_refl _) (by simp) ?_;(case hd=>rfl);(case hg=>rfl);(case hr=>first | (go_simp;done) | (go_simp;rfl));(case hp=>exact (Reps.c2 (show Kd.M k28 _ _ _ (⟨a1,a2⟩:S28) [.int .i64 a1,.int .i64 a2] from (k28_mkM _ _ _ (⟨a1,a2⟩:S28) )) (Reps.c2 (show Kd.M k28 _ _ _ (⟨wrap64 (a1+a3),a2⟩:S28) [.int .i64 (wrap64 (a1+a3)),.int .i64 a2] from (k28_mkM _ _ _ (⟨wrap64 (a1+a3),a2⟩:S28) )) (Reps.c2 (show Kd.M k28 _ _ _ (⟨wrap64 (a1+a3),wrap64 (a2+a4)⟩:S28) [.int .i64 (wrap64 (a1+a3)),.int .i64 (wrap64 (a2+a4))] from (k28_mkM _ _ _ (⟨wrap64 (a1+a3),wrap64 (a2+a4)⟩:S28) )) (Reps.c2 (show Kd.M k28 _ _ _ (⟨a1,wrap64 (a2+a4)⟩:S28) [.int .i64 a1,.int .i64 (wrap64 (a2+a4))] from (k28_mkM _ _ _ (⟨a1,wrap64 (a2+a4)⟩:S28) )) (Reps.none _ _))))));intro v193 w30 ho31 hb hg_ hnew_;clear hg_ hnew_;(first | rw [← Ny192.out] at ho31 | (simp only [Int.reduceToNat] at ho31;rw [← Ny192.out] at ho31));have HO194:=a0_ (Kd.R_lower ho31 (keep_size (w:=w) (g:=g) (row:=none) (hK_ HK)));replace HK:=kb_ HK hb;replace HB:=a0_ (below_step hBs_ hb);replace HI0:=a0_ (IsS123.below hI_ hb);clear hb ho31) | ((with_reducible refine gate_callee (f:=74) rfl ?_);refine gL_ (some 34) Tryd.func74 #[.pointer (some ⟨g,0,none⟩),.int .i64 7] (h:=?_);(with_reducible refine (spec_l6Rd_pick.calls k g s0_0 s0_1 7 t195 t196 w0 _ hI_ hBs_ A6.out).mono ?_);rintro e w32 ⟨rfl,hi,hb,hk⟩;refine⟨_,rfl,?_⟩;replace HO194:=a0_ (Kd.R_mono (Kd.R_keep (IsS123.apart (show IsS123 w0 _ g s0_0 s0_1 from hI_) (uR_ HO194) (by decide)) hk (fun _ h=>h.2)) (fun _ h=>h.1));replace HK:=kk_ HK hk;replace HB:=a0_ (hb);replace HI0:=a0_ (hi);(try clear hi hb hk)))
    go_ret;exact⟨_,rr_,by (with_reducible repeat (first | apply Kd.R_alloc | apply Kd.R_drewN | apply Kd.R_drew));exact HO194.out,by repeat (first | (with_reducible first | exact HI0.out | apply IsS123.alloc | apply IsS123.drewN | apply IsS123.drew | apply IsS123.set_1) | exact HI0.out),by repeat (first | (with_reducible first | exact HB.out | apply below_alloc | apply pw_below_drewN | apply below_drew1 | refine below_set ?_ (IsS123.ge HI0.out)) | exact HB.out),by repeat (first | (with_reducible first | exact HK.out | apply KeepBut.set_ | apply keep_drewN | apply keep_drew | apply keep_alloc) | exact HK.out)⟩
  ·
   rw [if_neg c14] at H;have c14b0:(t195==1)=false:=beq_eq_false_iff_ne.mpr c14;have c14b1:(t195 != 1)=true:=bne_iff_ne.mpr c14;by_cases c33:t195=2
   ·
    rw [if_pos c33] at H;have c33b0:(t195==2)=true:=beq_iff_eq.mpr c33;have c33b1:(t195 != 2)=false:=bne_eq_false_iff_eq.mpr c33;clear c33;by_cases c34:a4>1
    ·
     rw [if_pos c34] at H;have c34b0:decide (1<a4)=true:=decide_eq_true c34;clear c34;by_cases c35:0<(y192.length:Int)
     ·
      rw [if_pos c35] at H;have c35b0:decide (0<(y192.length:Int))=true:=decide_eq_true c35;have c35b1:decide (0<y192.length)=true:=decide_eq_true (by omega);clear c35;by_cases c36:1<(y192.length:Int)
      ·
       rw [if_pos c36] at H;have c36b0:decide (1<(y192.length:Int))=true:=decide_eq_true c36;have c36b1:decide (1<y192.length)=true:=decide_eq_true (by omega);clear c36;by_cases c37:3<(y192.length:Int)
       ·
        rw [if_pos c37] at H;have c37b0:decide (3<(y192.length:Int))=true:=decide_eq_true c37;have c37b1:decide (3<y192.length)=true:=decide_eq_true (by omega);clear c37;obtain⟨y209,hy209⟩:∃ y_:List (S28),y_=(([(⟨(rd_T28 y192 0).f0,(rd_T28 y192 0).f1⟩:S28),(⟨(rd_T28 y192 1).f0,(rd_T28 y192 1).f1⟩:S28),(⟨wrap64 (a1+a3),wrap64 (a2+(wrap64 (Int.tdiv a4 2)))⟩:S28),(⟨wrap64 (a1+(wrap64 (Int.tdiv a3 2))),wrap64 (a2+a4)⟩:S28),(⟨(rd_T28 y192 3).f0,(rd_T28 y192 3).f1⟩:S28)]:List (S28))):=⟨_,rfl⟩;replace H:(some (y209,t196))=some (r1,r2):=by first | (rw [hy209];with_reducible exact H) | (have H2_:=(Option.bind_some _ _).symm.trans H;rw [hy209];with_reducible exact H2_) | (have H2_:=(Option.bind_some _ _).symm.trans H;with_reducible exact H2_) | with_reducible exact H | (rw [hy209];exact H) | exact H
        have Ny209:=Aside0.mk hy209;clear hy209;simp only [Option.some.injEq,Prod.mk.injEq] at H;obtain⟨rfl,rfl⟩:=H;go_enter Tryd.func110,Tryd.ntmps110
        try go_wp2_with (first | ((with_reducible refine gate_dst (N:=32) rfl ?_);refine Kd.R_lit k28 _ 28 ?hg (N:=32) ?hd (xs:=([(⟨a1,a2⟩:S28),(⟨wrap64 (a1+a3),a2⟩:S28),(⟨wrap64 (a1+a3),wrap64 (a2+a4)⟩:S28),(⟨a1,wrap64 (a2+a4)⟩:S28)]:List (S28))) (inner:=[.int .i64 a1,.int .i64 a2,.int .i64 (wrap64 (a1+a3)),.int .i64 a2,.int .i64 (wrap64 (a1+a3)),.int .i64 (wrap64 (a2+a4)),.int .i64 a1,.int .i64 (wrap64 (a2+a4))]) (ok:=fun _=>True) (okp:=fun _=>True) ?hr ?hp (fun _ hk=>hk) trivial (Below.refl _ _) (Nat.le_refl _) (by simp) ?_;(case hd=>rfl);(case hg=>rfl);(case hr=>first | (go_simp;done) | (go_simp;rfl));(case hp=>exact (Reps.c2 (show Kd.M k28 _ _ _ (⟨a1,a2⟩:S28) [.int .i64 a1,.int .i64 a2] from (k28_mkM _ _ _ (⟨a1,a2⟩:S28) )) (Reps.c2 (show Kd.M k28 _ _ _ (⟨wrap64 (a1+a3),a2⟩:S28) [.int .i64 (wrap64 (a1+a3)),.int .i64 a2] from (k28_mkM _ _ _ (⟨wrap64 (a1+a3),a2⟩:S28) )) (Reps.c2 (show Kd.M k28 _ _ _ (⟨wrap64 (a1+a3),wrap64 (a2+a4)⟩:S28) [.int .i64 (wrap64 (a1+a3)),.int .i64 (wrap64 (a2+a4))] from (k28_mkM _ _ _ (⟨wrap64 (a1+a3),wrap64 (a2+a4)⟩:S28) )) (Reps.c2 (show Kd.M k28 _ _ _ (⟨a1,wrap64 (a2+a4)⟩:S28) [.int .i64 a1,.int .i64 (wrap64 (a2+a4))] from (k28_mkM _ _ _ (⟨a1,wrap64 (a2+a4)⟩:S28) )) (Reps.none _ _))))));intro v193 w38 ho39 hb hg_ hnew_;clear hg_ hnew_;(first | rw [← Ny192.out] at ho39 | (simp only [Int.reduceToNat] at ho39;rw [← Ny192.out] at ho39));have HO194:=a0_ (Kd.R_lower ho39 (keep_size (w:=w) (g:=g) (row:=none) (hK_ HK)));replace HK:=kb_ HK hb;replace HB:=a0_ (below_step hBs_ hb);replace HI0:=a0_ (IsS123.below hI_ hb);clear hb ho39) | ((with_reducible refine gate_callee (f:=74) rfl ?_);refine gL_ (some 34) Tryd.func74 #[.pointer (some ⟨g,0,none⟩),.int .i64 7] (h:=?_);(with_reducible refine (spec_l6Rd_pick.calls k g s0_0 s0_1 7 t195 t196 w0 _ hI_ hBs_ A6.out).mono ?_);rintro e w40 ⟨rfl,hi,hb,hk⟩;refine⟨_,rfl,?_⟩;replace HO194:=a0_ (Kd.R_mono (Kd.R_keep (IsS123.apart (show IsS123 w0 _ g s0_0 s0_1 from hI_) (uR_ HO194) (by decide)) hk (fun _ h=>h.2)) (fun _ h=>h.1));replace HK:=kk_ HK hk;replace HB:=a0_ (hb);replace HI0:=a0_ (hi);(try clear hi hb hk)))
        replace HO194:=a0_ (Kd.R_drew HO194.out);replace HI0:=a0_ (IsS123.drew HI0.out);replace HK:=a0_ (keep_drew HK.out);replace HB:=a0_ (below_drew1 HB.out);obtain⟨Ao42,co42,eo42⟩:=Kd.R_slice HO194.out
        (first | subst eo42 | (injection eo42 with f1_ f2_ f3_;have f4_:=f1_.symm;have f5_:=f3_.symm;clear f1_ f2_ f3_;subst f4_;subst f5_))
        have p206:0≤(0:Int):=(by omega);have q206:0<(y192.length:Int):=od_;obtain⟨ad206,e206,hx206_0,hx206_1⟩:=at_T28 (Kd.R_reads' HO194.out).2.2 0 p206 q206;cases e206;have qi206:(0<y192.length)=True:=eq_true (by omega)
        (try simp only [Int.toNat_zero,Nat.zero_mul,Addr.add_zero'] at hx206_0)
        (try simp only [Int.toNat_zero,Nat.zero_mul,Addr.add_zero'] at hx206_1)
        replace p206:=eq_true p206;replace q206:=eq_true q206;have p207:0≤(1:Int):=(by omega);have q207:1<(y192.length:Int):=od_;obtain⟨ad207,e207,hx207_0,hx207_1⟩:=at_T28 (Kd.R_reads' HO194.out).2.2 1 p207 q207;obtain rfl:ad206=ad207:=(by injection e207)
        (try simp only [show (1:Int).toNat=1 from rfl,Nat.reduceMul,Nat.reduceEqDiff,Go.Addr.add,↓reduceIte] at hx207_0)
        (try simp only [show (1:Int).toNat=1 from rfl,Nat.reduceMul,Nat.reduceEqDiff,Go.Addr.add,↓reduceIte] at hx207_1)
        have qi207:(1<y192.length)=True:=eq_true (by omega)
        (try rw [show ((1:Int)).toNat=1 from rfl] at hx207_0)
        (try rw [show 1*2=2 from rfl] at hx207_0)
        (try rw [show ((1:Int)).toNat=1 from rfl] at hx207_1)
        (try rw [show 1*2=2 from rfl] at hx207_1)
        replace p207:=eq_true p207;replace q207:=eq_true q207;have p208:0≤(3:Int):=(by omega);have q208:3<(y192.length:Int):=od_;obtain⟨ad208,e208,hx208_0,hx208_1⟩:=at_T28 (Kd.R_reads' HO194.out).2.2 3 p208 q208;obtain rfl:ad206=ad208:=(by injection e208)
        (try simp only [show (3:Int).toNat=3 from rfl,Nat.reduceMul,Nat.reduceEqDiff,Go.Addr.add,↓reduceIte] at hx208_0)
        (try simp only [show (3:Int).toNat=3 from rfl,Nat.reduceMul,Nat.reduceEqDiff,Go.Addr.add,↓reduceIte] at hx208_1)
        have qi208:(3<y192.length)=True:=eq_true (by omega)
        (try rw [show ((3:Int)).toNat=3 from rfl] at hx208_0)
        (try rw [show 3*2=6 from rfl] at hx208_0)
        (try rw [show ((3:Int)).toNat=3 from rfl] at hx208_1)
        (try rw [show 3*2=6 from rfl] at hx208_1)
        replace p208:=eq_true p208;replace q208:=eq_true q208;refine start_ (n:=27) (S:=fun w'=>w'.cell? ad206=some (.int .i64 ((rd_T28 y192 0).f0))∧w'.cell? ⟨ad206.block,ad206.off+1,none⟩=some (.int .i64 ((rd_T28 y192 0).f1))∧w'.cell? ⟨ad206.block,ad206.off+2,none⟩=some (.int .i64 ((rd_T28 y192 1).f0))∧w'.cell? ⟨ad206.block,ad206.off+2+1,none⟩=some (.int .i64 ((rd_T28 y192 1).f1))∧w'.cell? ⟨ad206.block,ad206.off+6,none⟩=some (.int .i64 ((rd_T28 y192 3).f0))∧w'.cell? ⟨ad206.block,ad206.off+6+1,none⟩=some (.int .i64 ((rd_T28 y192 3).f1))) (ds:=[]) (Array.replicate 27 false) (by kernel_rfl) rfl rfl ⟨hx206_0,hx206_1,hx207_0,hx207_1,hx208_0,hx208_1⟩ (fun hHeld=>?_);refine with_tabW spec_l71Box.tab10 spec_l71Box.bits10 (fun HT_ HW_=>?_);generalize w40.drew=w41 at HO194 HI0 HK HB hx206_0 hx206_1 hx207_0 hx207_1 hx208_0 hx208_1 hHeld ⊢
        refine pu_ HT_ 0 86 (bm 27 1) ?_;refine pu_ HT_ 1 87 (bm 27 3) ?_;refine pu_ HT_ 3 89 (bm 27 11) ?_;refine pu_ HT_ 4 90 (bm 27 27) ?_;refine pu_ HT_ 6 92 (bm 27 91) ?_;refine pu_ HT_ 7 93 (bm 27 219) ?_;refine pu_ HT_ 8 94 (bm 27 475) ?_;refine pu_ HT_ 9 95 (bm 27 987) ?_;refine pu_ HT_ 10 96 (bm 27 2011) ?_;refine pu_ HT_ 11 97 (bm 27 4059) ?_;refine pu_ HT_ 12 98 (bm 27 8155) ?_;refine pu_ HT_ 13 99 (bm 27 16347) ?_;refine pu_ HT_ 14 100 (bm 27 32731) ?_;refine pu_ HT_ 15 101 (bm 27 65499) ?_;refine pu_ HT_ 16 102 (bm 27 131035) ?_;refine pu_ HT_ 17 103 (bm 27 262107) ?_;refine pu_ HT_ 18 104 (bm 27 524251) ?_;refine pu_ HT_ 19 105 (bm 27 1048539) ?_;refine pu_ HT_ 20 106 (bm 27 2097115) ?_;refine pu_ HT_ 21 107 (bm 27 4194267) ?_;refine pu_ HT_ 22 108 (bm 27 8388571) ?_;refine pu_ HT_ 23 109 (bm 27 16777179) ?_;refine ta6_ HT_ HW_ 2 88 (bm 27 16777183) hHeld ?_;refine ta6_ HT_ HW_ 5 91 (bm 27 16777215) hHeld ?_;refine ta6_ HT_ HW_ 24 110 (bm 27 33554431) hHeld ?_;refine one_ (i:=25) (N:=some 111) (bm 27 67108863) rfl rfl (one_of HT_.out (by kernel_rfl)) (by decide) (fun K hK=>?_)
        refine Kd.R_lit_step k28 _ 28 ?hg (N:=111) ?hd (xs:=([(⟨(rd_T28 y192 0).f0,(rd_T28 y192 0).f1⟩:S28),(⟨(rd_T28 y192 1).f0,(rd_T28 y192 1).f1⟩:S28),(⟨wrap64 (a1+a3),wrap64 (a2+(wrap64 (Int.tdiv a4 2)))⟩:S28),(⟨wrap64 (a1+(wrap64 (Int.tdiv a3 2))),wrap64 (a2+a4)⟩:S28),(⟨(rd_T28 y192 3).f0,(rd_T28 y192 3).f1⟩:S28)]:List (S28))) (inner:=[.int .i64 ((rd_T28 y192 0).f0),.int .i64 ((rd_T28 y192 0).f1),.int .i64 ((rd_T28 y192 1).f0),.int .i64 ((rd_T28 y192 1).f1),.int .i64 (wrap64 (a1+a3)),.int .i64 (wrap64 (a2+(wrap64 (Int.tdiv a4 2)))),.int .i64 (wrap64 (a1+(wrap64 (Int.tdiv a3 2)))),.int .i64 (wrap64 (a2+a4)),.int .i64 ((rd_T28 y192 3).f0),.int .i64 ((rd_T28 y192 3).f1)]) (ok:=fun _=>True) (okp:=fun _=>True) ?hr ?hp (fun _ hk=>hk) trivial (Below.refl _ _) (Nat.le_refl _) (by simp) ?_;(case hd=>rfl);(case hg=>rfl);(case hr=>first | (go_simp;done) | (go_simp;rfl));(case hp=>exact (Reps.c2 (show Kd.M k28 _ _ _ (⟨(rd_T28 y192 0).f0,(rd_T28 y192 0).f1⟩:S28) [.int .i64 ((rd_T28 y192 0).f0),.int .i64 ((rd_T28 y192 0).f1)] from (k28_mkM _ _ _ (⟨(rd_T28 y192 0).f0,(rd_T28 y192 0).f1⟩:S28) )) (Reps.c2 (show Kd.M k28 _ _ _ (⟨(rd_T28 y192 1).f0,(rd_T28 y192 1).f1⟩:S28) [.int .i64 ((rd_T28 y192 1).f0),.int .i64 ((rd_T28 y192 1).f1)] from (k28_mkM _ _ _ (⟨(rd_T28 y192 1).f0,(rd_T28 y192 1).f1⟩:S28) )) (Reps.c2 (show Kd.M k28 _ _ _ (⟨wrap64 (a1+a3),wrap64 (a2+(wrap64 (Int.tdiv a4 2)))⟩:S28) [.int .i64 (wrap64 (a1+a3)),.int .i64 (wrap64 (a2+(wrap64 (Int.tdiv a4 2))))] from (k28_mkM _ _ _ (⟨wrap64 (a1+a3),wrap64 (a2+(wrap64 (Int.tdiv a4 2)))⟩:S28) )) (Reps.c2 (show Kd.M k28 _ _ _ (⟨wrap64 (a1+(wrap64 (Int.tdiv a3 2))),wrap64 (a2+a4)⟩:S28) [.int .i64 (wrap64 (a1+(wrap64 (Int.tdiv a3 2)))),.int .i64 (wrap64 (a2+a4))] from (k28_mkM _ _ _ (⟨wrap64 (a1+(wrap64 (Int.tdiv a3 2))),wrap64 (a2+a4)⟩:S28) )) (Reps.c2 (show Kd.M k28 _ _ _ (⟨(rd_T28 y192 3).f0,(rd_T28 y192 3).f1⟩:S28) [.int .i64 ((rd_T28 y192 3).f0),.int .i64 ((rd_T28 y192 3).f1)] from (k28_mkM _ _ _ (⟨(rd_T28 y192 3).f0,(rd_T28 y192 3).f1⟩:S28) )) (Reps.none _ _)))))))
        intro v210 w43 ho44 hb hg_ hnew_;have HS0_:=pw_cell_below hb hHeld.1;have HS1_:=pw_cell_below hb hHeld.2.1;have HS2_:=pw_cell_below hb hHeld.2.2.1;have HS3_:=pw_cell_below hb hHeld.2.2.2.1;have HS4_:=pw_cell_below hb hHeld.2.2.2.2.1;have HS5_:=pw_cell_below hb hHeld.2.2.2.2.2;clear hg_ hnew_
        (first | rw [← Ny209.out] at ho44 | (simp only [Int.reduceToNat] at ho44;rw [← Ny209.out] at ho44))
        have HO211:=a0_ (Kd.R_lower (Kd.R_new' ho44 (Kd.R_lt (uR_ HO194))) (keep_size (w:=w) (g:=g) (row:=none) (hK_ HK)));replace HO194:=a0_ (Kd.R_elder' (uR_ HO194) (Kd.R_base ho44) hb);replace HK:=kb_ HK hb;replace HB:=a0_ (below_step hBs_ hb);replace HI0:=a0_ (IsS123.below hI_ hb);clear hb ho44;refine hK.out _ _ ⟨HS0_,HS1_,HS2_,HS3_,HS4_,HS5_⟩ (fun hHeld=>?_);clear hK K;refine no_ (h:=?_);refine pu_ HT_ 26 10 (bm 27 134217727) ?_;refine done_ (done_of HT_.out (by kernel_rfl)) ?_
        try go_wp2
        go_ret;exact⟨_,rr_,by (with_reducible repeat (first | apply Kd.R_alloc | apply Kd.R_drewN | apply Kd.R_drew));exact Kd.R_mono HO211.out (fun _ hk=>trivial),by repeat (first | (with_reducible first | exact HI0.out | apply IsS123.alloc | apply IsS123.drewN | apply IsS123.drew | apply IsS123.set_1) | exact HI0.out),by repeat (first | (with_reducible first | exact HB.out | apply below_alloc | apply pw_below_drewN | apply below_drew1 | refine below_set ?_ (IsS123.ge HI0.out)) | exact HB.out),by repeat (first | (with_reducible first | exact HK.out | apply KeepBut.set_ | apply keep_drewN | apply keep_drew | apply keep_alloc) | exact HK.out)⟩
       ·
        rw [if_neg c37] at H;exact absurd H (by simp)
      ·
       rw [if_neg c36] at H;exact absurd H (by simp)
     ·
      rw [if_neg c35] at H;exact absurd H (by simp)
    ·
     rw [if_neg c34] at H;have c34b0:decide (1<a4)=false:=decide_eq_false c34;clear c34;simp only [Option.some.injEq,Prod.mk.injEq] at H;obtain⟨rfl,rfl⟩:=H;go_enter Tryd.func110,Tryd.ntmps110
     go_wp2_with (first | ((with_reducible refine gate_dst (N:=32) rfl ?_);refine Kd.R_lit k28 _ 28 ?hg (N:=32) ?hd (xs:=([(⟨a1,a2⟩:S28),(⟨wrap64 (a1+a3),a2⟩:S28),(⟨wrap64 (a1+a3),wrap64 (a2+a4)⟩:S28),(⟨a1,wrap64 (a2+a4)⟩:S28)]:List (S28))) (inner:=[.int .i64 a1,.int .i64 a2,.int .i64 (wrap64 (a1+a3)),.int .i64 a2,.int .i64 (wrap64 (a1+a3)),.int .i64 (wrap64 (a2+a4)),.int .i64 a1,.int .i64 (wrap64 (a2+a4))]) (ok:=fun _=>True) (okp:=fun _=>True) ?hr ?hp (fun _ hk=>hk) trivial (Below.refl _ _) (Nat.le_refl _) (by simp) ?_;(case hd=>rfl);(case hg=>rfl);(case hr=>first | (go_simp;done) | (go_simp;rfl));(case hp=>exact (Reps.c2 (show Kd.M k28 _ _ _ (⟨a1,a2⟩:S28) [.int .i64 a1,.int .i64 a2] from (k28_mkM _ _ _ (⟨a1,a2⟩:S28) )) (Reps.c2 (show Kd.M k28 _ _ _ (⟨wrap64 (a1+a3),a2⟩:S28) [.int .i64 (wrap64 (a1+a3)),.int .i64 a2] from (k28_mkM _ _ _ (⟨wrap64 (a1+a3),a2⟩:S28) )) (Reps.c2 (show Kd.M k28 _ _ _ (⟨wrap64 (a1+a3),wrap64 (a2+a4)⟩:S28) [.int .i64 (wrap64 (a1+a3)),.int .i64 (wrap64 (a2+a4))] from (k28_mkM _ _ _ (⟨wrap64 (a1+a3),wrap64 (a2+a4)⟩:S28) )) (Reps.c2 (show Kd.M k28 _ _ _ (⟨a1,wrap64 (a2+a4)⟩:S28) [.int .i64 a1,.int .i64 (wrap64 (a2+a4))] from (k28_mkM _ _ _ (⟨a1,wrap64 (a2+a4)⟩:S28) )) (Reps.none _ _))))));intro v193 w45 ho46 hb hg_ hnew_;clear hg_ hnew_;(first | rw [← Ny192.out] at ho46 | (simp only [Int.reduceToNat] at ho46;rw [← Ny192.out] at ho46));have HO194:=a0_ (Kd.R_lower ho46 (keep_size (w:=w) (g:=g) (row:=none) (hK_ HK)));replace HK:=kb_ HK hb;replace HB:=a0_ (below_step hBs_ hb);replace HI0:=a0_ (IsS123.below hI_ hb);clear hb ho46) | ((with_reducible refine gate_callee (f:=74) rfl ?_);refine gL_ (some 34) Tryd.func74 #[.pointer (some ⟨g,0,none⟩),.int .i64 7] (h:=?_);(with_reducible refine (spec_l6Rd_pick.calls k g s0_0 s0_1 7 t195 t196 w0 _ hI_ hBs_ A6.out).mono ?_);rintro e w47 ⟨rfl,hi,hb,hk⟩;refine⟨_,rfl,?_⟩;replace HO194:=a0_ (Kd.R_mono (Kd.R_keep (IsS123.apart (show IsS123 w0 _ g s0_0 s0_1 from hI_) (uR_ HO194) (by decide)) hk (fun _ h=>h.2)) (fun _ h=>h.1));replace HK:=kk_ HK hk;replace HB:=a0_ (hb);replace HI0:=a0_ (hi);(try clear hi hb hk)))
     go_ret;exact⟨_,rr_,by (with_reducible repeat (first | apply Kd.R_alloc | apply Kd.R_drewN | apply Kd.R_drew));exact HO194.out,by repeat (first | (with_reducible first | exact HI0.out | apply IsS123.alloc | apply IsS123.drewN | apply IsS123.drew | apply IsS123.set_1) | exact HI0.out),by repeat (first | (with_reducible first | exact HB.out | apply below_alloc | apply pw_below_drewN | apply below_drew1 | refine below_set ?_ (IsS123.ge HI0.out)) | exact HB.out),by repeat (first | (with_reducible first | exact HK.out | apply KeepBut.set_ | apply keep_drewN | apply keep_drew | apply keep_alloc) | exact HK.out)⟩
   ·
    rw [if_neg c33] at H;have c33b0:(t195==2)=false:=beq_eq_false_iff_ne.mpr c33;have c33b1:(t195 != 2)=true:=bne_iff_ne.mpr c33;by_cases c48:t195=3
    ·
     rw [if_pos c48] at H;have c48b0:(t195==3)=true:=beq_iff_eq.mpr c48;have c48b1:(t195 != 3)=false:=bne_eq_false_iff_eq.mpr c48;clear c48;by_cases c49:3<(y192.length:Int)
     ·
      rw [if_pos c49] at H;have c49b0:decide (3<(y192.length:Int))=true:=decide_eq_true c49;have c49b1:decide (3<y192.length)=true:=decide_eq_true (by omega);clear c49;by_cases c50:2<(y192.length:Int)
      ·
       rw [if_pos c50] at H;have c50b0:decide (2<(y192.length:Int))=true:=decide_eq_true c50;have c50b1:decide (2<y192.length)=true:=decide_eq_true (by omega);clear c50;by_cases c51:1<(y192.length:Int)
       ·
        rw [if_pos c51] at H;have c51b0:decide (1<(y192.length:Int))=true:=decide_eq_true c51;have c51b1:decide (1<y192.length)=true:=decide_eq_true (by omega);clear c51;by_cases c52:0<(y192.length:Int)
        ·
         rw [if_pos c52] at H;have c52b0:decide (0<(y192.length:Int))=true:=decide_eq_true c52;have c52b1:decide (0<y192.length)=true:=decide_eq_true (by omega);clear c52;obtain⟨y216,hy216⟩:∃ y_:List (S28),y_=(([(⟨(rd_T28 y192 3).f0,(rd_T28 y192 3).f1⟩:S28),(⟨(rd_T28 y192 2).f0,(rd_T28 y192 2).f1⟩:S28),(⟨(rd_T28 y192 1).f0,(rd_T28 y192 1).f1⟩:S28),(⟨(rd_T28 y192 0).f0,(rd_T28 y192 0).f1⟩:S28)]:List (S28))):=⟨_,rfl⟩;replace H:(some (y216,t196))=some (r1,r2):=by first | (rw [hy216];with_reducible exact H) | (have H2_:=(Option.bind_some _ _).symm.trans H;rw [hy216];with_reducible exact H2_) | (have H2_:=(Option.bind_some _ _).symm.trans H;with_reducible exact H2_) | with_reducible exact H | (rw [hy216];exact H) | exact H
         have Ny216:=Aside0.mk hy216;clear hy216;simp only [Option.some.injEq,Prod.mk.injEq] at H;obtain⟨rfl,rfl⟩:=H;go_enter Tryd.func110,Tryd.ntmps110
         try go_wp2_with (first | ((with_reducible refine gate_dst (N:=32) rfl ?_);refine Kd.R_lit k28 _ 28 ?hg (N:=32) ?hd (xs:=([(⟨a1,a2⟩:S28),(⟨wrap64 (a1+a3),a2⟩:S28),(⟨wrap64 (a1+a3),wrap64 (a2+a4)⟩:S28),(⟨a1,wrap64 (a2+a4)⟩:S28)]:List (S28))) (inner:=[.int .i64 a1,.int .i64 a2,.int .i64 (wrap64 (a1+a3)),.int .i64 a2,.int .i64 (wrap64 (a1+a3)),.int .i64 (wrap64 (a2+a4)),.int .i64 a1,.int .i64 (wrap64 (a2+a4))]) (ok:=fun _=>True) (okp:=fun _=>True) ?hr ?hp (fun _ hk=>hk) trivial (Below.refl _ _) (Nat.le_refl _) (by simp) ?_;(case hd=>rfl);(case hg=>rfl);(case hr=>first | (go_simp;done) | (go_simp;rfl));(case hp=>exact (Reps.c2 (show Kd.M k28 _ _ _ (⟨a1,a2⟩:S28) [.int .i64 a1,.int .i64 a2] from (k28_mkM _ _ _ (⟨a1,a2⟩:S28) )) (Reps.c2 (show Kd.M k28 _ _ _ (⟨wrap64 (a1+a3),a2⟩:S28) [.int .i64 (wrap64 (a1+a3)),.int .i64 a2] from (k28_mkM _ _ _ (⟨wrap64 (a1+a3),a2⟩:S28) )) (Reps.c2 (show Kd.M k28 _ _ _ (⟨wrap64 (a1+a3),wrap64 (a2+a4)⟩:S28) [.int .i64 (wrap64 (a1+a3)),.int .i64 (wrap64 (a2+a4))] from (k28_mkM _ _ _ (⟨wrap64 (a1+a3),wrap64 (a2+a4)⟩:S28) )) (Reps.c2 (show Kd.M k28 _ _ _ (⟨a1,wrap64 (a2+a4)⟩:S28) [.int .i64 a1,.int .i64 (wrap64 (a2+a4))] from (k28_mkM _ _ _ (⟨a1,wrap64 (a2+a4)⟩:S28) )) (Reps.none _ _))))));intro v193 w53 ho54 hb hg_ hnew_;clear hg_ hnew_;(first | rw [← Ny192.out] at ho54 | (simp only [Int.reduceToNat] at ho54;rw [← Ny192.out] at ho54));have HO194:=a0_ (Kd.R_lower ho54 (keep_size (w:=w) (g:=g) (row:=none) (hK_ HK)));replace HK:=kb_ HK hb;replace HB:=a0_ (below_step hBs_ hb);replace HI0:=a0_ (IsS123.below hI_ hb);clear hb ho54) | ((with_reducible refine gate_callee (f:=74) rfl ?_);refine gL_ (some 34) Tryd.func74 #[.pointer (some ⟨g,0,none⟩),.int .i64 7] (h:=?_);(with_reducible refine (spec_l6Rd_pick.calls k g s0_0 s0_1 7 t195 t196 w0 _ hI_ hBs_ A6.out).mono ?_);rintro e w55 ⟨rfl,hi,hb,hk⟩;refine⟨_,rfl,?_⟩;replace HO194:=a0_ (Kd.R_mono (Kd.R_keep (IsS123.apart (show IsS123 w0 _ g s0_0 s0_1 from hI_) (uR_ HO194) (by decide)) hk (fun _ h=>h.2)) (fun _ h=>h.1));replace HK:=kk_ HK hk;replace HB:=a0_ (hb);replace HI0:=a0_ (hi);(try clear hi hb hk)))
         replace HO194:=a0_ (Kd.R_drew HO194.out);replace HI0:=a0_ (IsS123.drew HI0.out);replace HK:=a0_ (keep_drew HK.out);replace HB:=a0_ (below_drew1 HB.out);obtain⟨Ao57,co57,eo57⟩:=Kd.R_slice HO194.out
         (first | subst eo57 | (injection eo57 with f1_ f2_ f3_;have f4_:=f1_.symm;have f5_:=f3_.symm;clear f1_ f2_ f3_;subst f4_;subst f5_))
         have p212:0≤(3:Int):=(by omega);have q212:3<(y192.length:Int):=od_;obtain⟨ad212,e212,hx212_0,hx212_1⟩:=at_T28 (Kd.R_reads' HO194.out).2.2 3 p212 q212;cases e212
         (try simp only [show (3:Int).toNat=3 from rfl,Nat.reduceMul,Nat.reduceEqDiff,Go.Addr.add,↓reduceIte] at hx212_0)
         (try simp only [show (3:Int).toNat=3 from rfl,Nat.reduceMul,Nat.reduceEqDiff,Go.Addr.add,↓reduceIte] at hx212_1)
         have qi212:(3<y192.length)=True:=eq_true (by omega)
         (try rw [show ((3:Int)).toNat=3 from rfl] at hx212_0)
         (try rw [show 3*2=6 from rfl] at hx212_0)
         (try rw [show ((3:Int)).toNat=3 from rfl] at hx212_1)
         (try rw [show 3*2=6 from rfl] at hx212_1)
         replace p212:=eq_true p212;replace q212:=eq_true q212;have p213:0≤(2:Int):=(by omega);have q213:2<(y192.length:Int):=od_;obtain⟨ad213,e213,hx213_0,hx213_1⟩:=at_T28 (Kd.R_reads' HO194.out).2.2 2 p213 q213;obtain rfl:ad212=ad213:=(by injection e213)
         (try simp only [show (2:Int).toNat=2 from rfl,Nat.reduceMul,Nat.reduceEqDiff,Go.Addr.add,↓reduceIte] at hx213_0)
         (try simp only [show (2:Int).toNat=2 from rfl,Nat.reduceMul,Nat.reduceEqDiff,Go.Addr.add,↓reduceIte] at hx213_1)
         have qi213:(2<y192.length)=True:=eq_true (by omega)
         (try rw [show ((2:Int)).toNat=2 from rfl] at hx213_0)
         (try rw [show 2*2=4 from rfl] at hx213_0)
         (try rw [show ((2:Int)).toNat=2 from rfl] at hx213_1)
         (try rw [show 2*2=4 from rfl] at hx213_1)
         replace p213:=eq_true p213;replace q213:=eq_true q213;have p214:0≤(1:Int):=(by omega);have q214:1<(y192.length:Int):=od_;obtain⟨ad214,e214,hx214_0,hx214_1⟩:=at_T28 (Kd.R_reads' HO194.out).2.2 1 p214 q214;obtain rfl:ad212=ad214:=(by injection e214)
         (try simp only [show (1:Int).toNat=1 from rfl,Nat.reduceMul,Nat.reduceEqDiff,Go.Addr.add,↓reduceIte] at hx214_0)
         (try simp only [show (1:Int).toNat=1 from rfl,Nat.reduceMul,Nat.reduceEqDiff,Go.Addr.add,↓reduceIte] at hx214_1)
         have qi214:(1<y192.length)=True:=eq_true (by omega)
         (try rw [show ((1:Int)).toNat=1 from rfl] at hx214_0)
         (try rw [show 1*2=2 from rfl] at hx214_0)
         (try rw [show ((1:Int)).toNat=1 from rfl] at hx214_1)
         (try rw [show 1*2=2 from rfl] at hx214_1)
         replace p214:=eq_true p214;replace q214:=eq_true q214;have p215:0≤(0:Int):=(by omega);have q215:0<(y192.length:Int):=od_;obtain⟨ad215,e215,hx215_0,hx215_1⟩:=at_T28 (Kd.R_reads' HO194.out).2.2 0 p215 q215;obtain rfl:ad212=ad215:=(by injection e215);have qi215:(0<y192.length)=True:=eq_true (by omega)
         (try simp only [Int.toNat_zero,Nat.zero_mul,Addr.add_zero'] at hx215_0)
         (try simp only [Int.toNat_zero,Nat.zero_mul,Addr.add_zero'] at hx215_1)
         replace p215:=eq_true p215;replace q215:=eq_true q215;refine start_ (n:=14) (S:=fun w'=>w'.cell? ⟨ad212.block,ad212.off+6,none⟩=some (.int .i64 ((rd_T28 y192 3).f0))∧w'.cell? ⟨ad212.block,ad212.off+6+1,none⟩=some (.int .i64 ((rd_T28 y192 3).f1))∧w'.cell? ⟨ad212.block,ad212.off+4,none⟩=some (.int .i64 ((rd_T28 y192 2).f0))∧w'.cell? ⟨ad212.block,ad212.off+4+1,none⟩=some (.int .i64 ((rd_T28 y192 2).f1))∧w'.cell? ⟨ad212.block,ad212.off+2,none⟩=some (.int .i64 ((rd_T28 y192 1).f0))∧w'.cell? ⟨ad212.block,ad212.off+2+1,none⟩=some (.int .i64 ((rd_T28 y192 1).f1))∧w'.cell? ad212=some (.int .i64 ((rd_T28 y192 0).f0))∧w'.cell? ⟨ad212.block,ad212.off+1,none⟩=some (.int .i64 ((rd_T28 y192 0).f1))) (ds:=[]) (Array.replicate 14 false) (by kernel_rfl) rfl rfl ⟨hx212_0,hx212_1,hx213_0,hx213_1,hx214_0,hx214_1,hx215_0,hx215_1⟩ (fun hHeld=>?_);refine with_tabW spec_l71Box.tab12 spec_l71Box.bits12 (fun HT_ HW_=>?_);generalize w55.drew=w56 at HO194 HI0 HK HB hx212_0 hx212_1 hx213_0 hx213_1 hx214_0 hx214_1 hx215_0 hx215_1 hHeld ⊢
         refine pu_ HT_ 0 114 (bm 14 1) ?_;refine pu_ HT_ 1 115 (bm 14 3) ?_;refine pu_ HT_ 3 117 (bm 14 11) ?_;refine pu_ HT_ 4 118 (bm 14 27) ?_;refine pu_ HT_ 6 120 (bm 14 91) ?_;refine pu_ HT_ 7 121 (bm 14 219) ?_;refine pu_ HT_ 9 123 (bm 14 731) ?_;refine pu_ HT_ 10 124 (bm 14 1755) ?_;refine ta8_ HT_ HW_ 2 116 (bm 14 1759) hHeld ?_;refine ta8_ HT_ HW_ 5 119 (bm 14 1791) hHeld ?_;refine ta8_ HT_ HW_ 8 122 (bm 14 2047) hHeld ?_;refine ta8_ HT_ HW_ 11 125 (bm 14 4095) hHeld ?_;refine one_ (i:=12) (N:=some 126) (bm 14 8191) rfl rfl (one_of HT_.out (by kernel_rfl)) (by decide) (fun K hK=>?_)
         refine Kd.R_lit_step k28 _ 28 ?hg (N:=126) ?hd (xs:=([(⟨(rd_T28 y192 3).f0,(rd_T28 y192 3).f1⟩:S28),(⟨(rd_T28 y192 2).f0,(rd_T28 y192 2).f1⟩:S28),(⟨(rd_T28 y192 1).f0,(rd_T28 y192 1).f1⟩:S28),(⟨(rd_T28 y192 0).f0,(rd_T28 y192 0).f1⟩:S28)]:List (S28))) (inner:=[.int .i64 ((rd_T28 y192 3).f0),.int .i64 ((rd_T28 y192 3).f1),.int .i64 ((rd_T28 y192 2).f0),.int .i64 ((rd_T28 y192 2).f1),.int .i64 ((rd_T28 y192 1).f0),.int .i64 ((rd_T28 y192 1).f1),.int .i64 ((rd_T28 y192 0).f0),.int .i64 ((rd_T28 y192 0).f1)]) (ok:=fun _=>True) (okp:=fun _=>True) ?hr ?hp (fun _ hk=>hk) trivial (Below.refl _ _) (Nat.le_refl _) (by simp) ?_;(case hd=>rfl);(case hg=>rfl);(case hr=>first | (go_simp;done) | (go_simp;rfl));(case hp=>exact (Reps.c2 (show Kd.M k28 _ _ _ (⟨(rd_T28 y192 3).f0,(rd_T28 y192 3).f1⟩:S28) [.int .i64 ((rd_T28 y192 3).f0),.int .i64 ((rd_T28 y192 3).f1)] from (k28_mkM _ _ _ (⟨(rd_T28 y192 3).f0,(rd_T28 y192 3).f1⟩:S28) )) (Reps.c2 (show Kd.M k28 _ _ _ (⟨(rd_T28 y192 2).f0,(rd_T28 y192 2).f1⟩:S28) [.int .i64 ((rd_T28 y192 2).f0),.int .i64 ((rd_T28 y192 2).f1)] from (k28_mkM _ _ _ (⟨(rd_T28 y192 2).f0,(rd_T28 y192 2).f1⟩:S28) )) (Reps.c2 (show Kd.M k28 _ _ _ (⟨(rd_T28 y192 1).f0,(rd_T28 y192 1).f1⟩:S28) [.int .i64 ((rd_T28 y192 1).f0),.int .i64 ((rd_T28 y192 1).f1)] from (k28_mkM _ _ _ (⟨(rd_T28 y192 1).f0,(rd_T28 y192 1).f1⟩:S28) )) (Reps.c2 (show Kd.M k28 _ _ _ (⟨(rd_T28 y192 0).f0,(rd_T28 y192 0).f1⟩:S28) [.int .i64 ((rd_T28 y192 0).f0),.int .i64 ((rd_T28 y192 0).f1)] from (k28_mkM _ _ _ (⟨(rd_T28 y192 0).f0,(rd_T28 y192 0).f1⟩:S28) )) (Reps.none _ _))))));intro v217 w58 ho59 hb hg_ hnew_;have HS0_:=pw_cell_below hb hHeld.1;have HS1_:=pw_cell_below hb hHeld.2.1;have HS2_:=pw_cell_below hb hHeld.2.2.1;have HS3_:=pw_cell_below hb hHeld.2.2.2.1;have HS4_:=pw_cell_below hb hHeld.2.2.2.2.1;have HS5_:=pw_cell_below hb hHeld.2.2.2.2.2.1
         have HS6_:=pw_cell_below hb hHeld.2.2.2.2.2.2.1;have HS7_:=pw_cell_below hb hHeld.2.2.2.2.2.2.2;clear hg_ hnew_
         (first | rw [← Ny216.out] at ho59 | (simp only [Int.reduceToNat] at ho59;rw [← Ny216.out] at ho59))
         have HO218:=a0_ (Kd.R_lower (Kd.R_new' ho59 (Kd.R_lt (uR_ HO194))) (keep_size (w:=w) (g:=g) (row:=none) (hK_ HK)));replace HO194:=a0_ (Kd.R_elder' (uR_ HO194) (Kd.R_base ho59) hb);replace HK:=kb_ HK hb;replace HB:=a0_ (below_step hBs_ hb);replace HI0:=a0_ (IsS123.below hI_ hb);clear hb ho59;refine hK.out _ _ ⟨HS0_,HS1_,HS2_,HS3_,HS4_,HS5_,HS6_,HS7_⟩ (fun hHeld=>?_);clear hK K;refine no_ (h:=?_);refine pu_ HT_ 13 10 (bm 14 16383) ?_;refine done_ (done_of HT_.out (by kernel_rfl)) ?_
         try go_wp2
         go_ret;exact⟨_,rr_,by (with_reducible repeat (first | apply Kd.R_alloc | apply Kd.R_drewN | apply Kd.R_drew));exact Kd.R_mono HO218.out (fun _ hk=>trivial),by repeat (first | (with_reducible first | exact HI0.out | apply IsS123.alloc | apply IsS123.drewN | apply IsS123.drew | apply IsS123.set_1) | exact HI0.out),by repeat (first | (with_reducible first | exact HB.out | apply below_alloc | apply pw_below_drewN | apply below_drew1 | refine below_set ?_ (IsS123.ge HI0.out)) | exact HB.out),by repeat (first | (with_reducible first | exact HK.out | apply KeepBut.set_ | apply keep_drewN | apply keep_drew | apply keep_alloc) | exact HK.out)⟩
        ·
         rw [if_neg c52] at H;exact absurd H (by simp)
       ·
        rw [if_neg c51] at H;exact absurd H (by simp)
      ·
       rw [if_neg c50] at H;exact absurd H (by simp)
     ·
      rw [if_neg c49] at H;exact absurd H (by simp)
    ·
     rw [if_neg c48] at H;have c48b0:(t195==3)=false:=beq_eq_false_iff_ne.mpr c48;have c48b1:(t195 != 3)=true:=bne_iff_ne.mpr c48;by_cases c60:t195=4
     ·
      rw [if_pos c60] at H;have c60b0:(t195==4)=true:=beq_iff_eq.mpr c60;have c60b1:(t195 != 4)=false:=bne_eq_false_iff_eq.mpr c60;clear c60;by_cases c61:a3>2
      ·
       rw [if_pos c61] at H;have c61b0:decide (2<a3)=true:=decide_eq_true c61;clear c61;by_cases c62:a4>2
       ·
        rw [if_pos c62] at H;have c62b0:decide (2<a4)=true:=decide_eq_true c62;clear c62;by_cases c63:0<(y192.length:Int)
        ·
         rw [if_pos c63] at H;have c63b0:decide (0<(y192.length:Int))=true:=decide_eq_true c63;have c63b1:decide (0<y192.length)=true:=decide_eq_true (by omega);clear c63;by_cases c64:1<(y192.length:Int)
         ·
          rw [if_pos c64] at H;have c64b0:decide (1<(y192.length:Int))=true:=decide_eq_true c64;have c64b1:decide (1<y192.length)=true:=decide_eq_true (by omega);clear c64;by_cases c65:2<(y192.length:Int)
          ·
           rw [if_pos c65] at H;have c65b0:decide (2<(y192.length:Int))=true:=decide_eq_true c65;have c65b1:decide (2<y192.length)=true:=decide_eq_true (by omega);clear c65;by_cases c66:3<(y192.length:Int)
           ·
            rw [if_pos c66] at H;have c66b0:decide (3<(y192.length:Int))=true:=decide_eq_true c66;have c66b1:decide (3<y192.length)=true:=decide_eq_true (by omega);clear c66;obtain⟨y223,hy223⟩:∃ y_:List (S28),y_=(([(⟨(rd_T28 y192 0).f0,(rd_T28 y192 0).f1⟩:S28),(⟨wrap64 (a1+(wrap64 (Int.tdiv a3 2))),wrap64 (a2+1)⟩:S28),(⟨(rd_T28 y192 1).f0,(rd_T28 y192 1).f1⟩:S28),(⟨(rd_T28 y192 2).f0,(rd_T28 y192 2).f1⟩:S28),(⟨wrap64 (a1+(wrap64 (Int.tdiv a3 2))),wrap64 ((wrap64 (a2+a4))-1)⟩:S28),(⟨(rd_T28 y192 3).f0,(rd_T28 y192 3).f1⟩:S28)]:List (S28))):=⟨_,rfl⟩;replace H:(some (y223,t196))=some (r1,r2):=by first | (rw [hy223];with_reducible exact H) | (have H2_:=(Option.bind_some _ _).symm.trans H;rw [hy223];with_reducible exact H2_) | (have H2_:=(Option.bind_some _ _).symm.trans H;with_reducible exact H2_) | with_reducible exact H | (rw [hy223];exact H) | exact H
            have Ny223:=Aside0.mk hy223;clear hy223;simp only [Option.some.injEq,Prod.mk.injEq] at H;obtain⟨rfl,rfl⟩:=H;go_enter Tryd.func110,Tryd.ntmps110
            try go_wp2_with (first | ((with_reducible refine gate_dst (N:=32) rfl ?_);refine Kd.R_lit k28 _ 28 ?hg (N:=32) ?hd (xs:=([(⟨a1,a2⟩:S28),(⟨wrap64 (a1+a3),a2⟩:S28),(⟨wrap64 (a1+a3),wrap64 (a2+a4)⟩:S28),(⟨a1,wrap64 (a2+a4)⟩:S28)]:List (S28))) (inner:=[.int .i64 a1,.int .i64 a2,.int .i64 (wrap64 (a1+a3)),.int .i64 a2,.int .i64 (wrap64 (a1+a3)),.int .i64 (wrap64 (a2+a4)),.int .i64 a1,.int .i64 (wrap64 (a2+a4))]) (ok:=fun _=>True) (okp:=fun _=>True) ?hr ?hp (fun _ hk=>hk) trivial (Below.refl _ _) (Nat.le_refl _) (by simp) ?_;(case hd=>rfl);(case hg=>rfl);(case hr=>first | (go_simp;done) | (go_simp;rfl));(case hp=>exact (Reps.c2 (show Kd.M k28 _ _ _ (⟨a1,a2⟩:S28) [.int .i64 a1,.int .i64 a2] from (k28_mkM _ _ _ (⟨a1,a2⟩:S28) )) (Reps.c2 (show Kd.M k28 _ _ _ (⟨wrap64 (a1+a3),a2⟩:S28) [.int .i64 (wrap64 (a1+a3)),.int .i64 a2] from (k28_mkM _ _ _ (⟨wrap64 (a1+a3),a2⟩:S28) )) (Reps.c2 (show Kd.M k28 _ _ _ (⟨wrap64 (a1+a3),wrap64 (a2+a4)⟩:S28) [.int .i64 (wrap64 (a1+a3)),.int .i64 (wrap64 (a2+a4))] from (k28_mkM _ _ _ (⟨wrap64 (a1+a3),wrap64 (a2+a4)⟩:S28) )) (Reps.c2 (show Kd.M k28 _ _ _ (⟨a1,wrap64 (a2+a4)⟩:S28) [.int .i64 a1,.int .i64 (wrap64 (a2+a4))] from (k28_mkM _ _ _ (⟨a1,wrap64 (a2+a4)⟩:S28) )) (Reps.none _ _))))));intro v193 w67 ho68 hb hg_ hnew_;clear hg_ hnew_;(first | rw [← Ny192.out] at ho68 | (simp only [Int.reduceToNat] at ho68;rw [← Ny192.out] at ho68));have HO194:=a0_ (Kd.R_lower ho68 (keep_size (w:=w) (g:=g) (row:=none) (hK_ HK)));replace HK:=kb_ HK hb;replace HB:=a0_ (below_step hBs_ hb);replace HI0:=a0_ (IsS123.below hI_ hb);clear hb ho68) | ((with_reducible refine gate_callee (f:=74) rfl ?_);refine gL_ (some 34) Tryd.func74 #[.pointer (some ⟨g,0,none⟩),.int .i64 7] (h:=?_);(with_reducible refine (spec_l6Rd_pick.calls k g s0_0 s0_1 7 t195 t196 w0 _ hI_ hBs_ A6.out).mono ?_);rintro e w69 ⟨rfl,hi,hb,hk⟩;refine⟨_,rfl,?_⟩;replace HO194:=a0_ (Kd.R_mono (Kd.R_keep (IsS123.apart (show IsS123 w0 _ g s0_0 s0_1 from hI_) (uR_ HO194) (by decide)) hk (fun _ h=>h.2)) (fun _ h=>h.1));replace HK:=kk_ HK hk;replace HB:=a0_ (hb);replace HI0:=a0_ (hi);(try clear hi hb hk)))
            replace HO194:=a0_ (Kd.R_drew HO194.out);replace HI0:=a0_ (IsS123.drew HI0.out);replace HK:=a0_ (keep_drew HK.out);replace HB:=a0_ (below_drew1 HB.out);obtain⟨Ao71,co71,eo71⟩:=Kd.R_slice HO194.out
            (first | subst eo71 | (injection eo71 with f1_ f2_ f3_;have f4_:=f1_.symm;have f5_:=f3_.symm;clear f1_ f2_ f3_;subst f4_;subst f5_))
            have p219:0≤(0:Int):=(by omega);have q219:0<(y192.length:Int):=od_;obtain⟨ad219,e219,hx219_0,hx219_1⟩:=at_T28 (Kd.R_reads' HO194.out).2.2 0 p219 q219;cases e219;have qi219:(0<y192.length)=True:=eq_true (by omega)
            (try simp only [Int.toNat_zero,Nat.zero_mul,Addr.add_zero'] at hx219_0)
            (try simp only [Int.toNat_zero,Nat.zero_mul,Addr.add_zero'] at hx219_1)
            replace p219:=eq_true p219;replace q219:=eq_true q219;have p220:0≤(1:Int):=(by omega);have q220:1<(y192.length:Int):=od_;obtain⟨ad220,e220,hx220_0,hx220_1⟩:=at_T28 (Kd.R_reads' HO194.out).2.2 1 p220 q220;obtain rfl:ad219=ad220:=(by injection e220)
            (try simp only [show (1:Int).toNat=1 from rfl,Nat.reduceMul,Nat.reduceEqDiff,Go.Addr.add,↓reduceIte] at hx220_0)
            (try simp only [show (1:Int).toNat=1 from rfl,Nat.reduceMul,Nat.reduceEqDiff,Go.Addr.add,↓reduceIte] at hx220_1)
            have qi220:(1<y192.length)=True:=eq_true (by omega)
            (try rw [show ((1:Int)).toNat=1 from rfl] at hx220_0)
            (try rw [show 1*2=2 from rfl] at hx220_0)
            (try rw [show ((1:Int)).toNat=1 from rfl] at hx220_1)
            (try rw [show 1*2=2 from rfl] at hx220_1)
            replace p220:=eq_true p220;replace q220:=eq_true q220;have p221:0≤(2:Int):=(by omega);have q221:2<(y192.length:Int):=od_;obtain⟨ad221,e221,hx221_0,hx221_1⟩:=at_T28 (Kd.R_reads' HO194.out).2.2 2 p221 q221;obtain rfl:ad219=ad221:=(by injection e221)
            (try simp only [show (2:Int).toNat=2 from rfl,Nat.reduceMul,Nat.reduceEqDiff,Go.Addr.add,↓reduceIte] at hx221_0)
            (try simp only [show (2:Int).toNat=2 from rfl,Nat.reduceMul,Nat.reduceEqDiff,Go.Addr.add,↓reduceIte] at hx221_1)
            have qi221:(2<y192.length)=True:=eq_true (by omega)
            (try rw [show ((2:Int)).toNat=2 from rfl] at hx221_0)
            (try rw [show 2*2=4 from rfl] at hx221_0)
            (try rw [show ((2:Int)).toNat=2 from rfl] at hx221_1)
            (try rw [show 2*2=4 from rfl] at hx221_1)
            replace p221:=eq_true p221;replace q221:=eq_true q221;have p222:0≤(3:Int):=(by omega);have q222:3<(y192.length:Int):=od_;obtain⟨ad222,e222,hx222_0,hx222_1⟩:=at_T28 (Kd.R_reads' HO194.out).2.2 3 p222 q222;obtain rfl:ad219=ad222:=(by injection e222)
            (try simp only [show (3:Int).toNat=3 from rfl,Nat.reduceMul,Nat.reduceEqDiff,Go.Addr.add,↓reduceIte] at hx222_0)
            (try simp only [show (3:Int).toNat=3 from rfl,Nat.reduceMul,Nat.reduceEqDiff,Go.Addr.add,↓reduceIte] at hx222_1)
            have qi222:(3<y192.length)=True:=eq_true (by omega)
            (try rw [show ((3:Int)).toNat=3 from rfl] at hx222_0)
            (try rw [show 3*2=6 from rfl] at hx222_0)
            (try rw [show ((3:Int)).toNat=3 from rfl] at hx222_1)
            (try rw [show 3*2=6 from rfl] at hx222_1)
            replace p222:=eq_true p222;replace q222:=eq_true q222;refine start_ (n:=30) (S:=fun w'=>w'.cell? ad219=some (.int .i64 ((rd_T28 y192 0).f0))∧w'.cell? ⟨ad219.block,ad219.off+1,none⟩=some (.int .i64 ((rd_T28 y192 0).f1))∧w'.cell? ⟨ad219.block,ad219.off+2,none⟩=some (.int .i64 ((rd_T28 y192 1).f0))∧w'.cell? ⟨ad219.block,ad219.off+2+1,none⟩=some (.int .i64 ((rd_T28 y192 1).f1))∧w'.cell? ⟨ad219.block,ad219.off+4,none⟩=some (.int .i64 ((rd_T28 y192 2).f0))∧w'.cell? ⟨ad219.block,ad219.off+4+1,none⟩=some (.int .i64 ((rd_T28 y192 2).f1))∧w'.cell? ⟨ad219.block,ad219.off+6,none⟩=some (.int .i64 ((rd_T28 y192 3).f0))∧w'.cell? ⟨ad219.block,ad219.off+6+1,none⟩=some (.int .i64 ((rd_T28 y192 3).f1))) (ds:=[]) (Array.replicate 30 false) (by kernel_rfl) rfl rfl ⟨hx219_0,hx219_1,hx220_0,hx220_1,hx221_0,hx221_1,hx222_0,hx222_1⟩ (fun hHeld=>?_);refine with_tabW spec_l71Box.tab15 spec_l71Box.bits15 (fun HT_ HW_=>?_);generalize w69.drew=w70 at HO194 HI0 HK HB hx219_0 hx219_1 hx220_0 hx220_1 hx221_0 hx221_1 hx222_0 hx222_1 hHeld ⊢
            refine pu_ HT_ 0 135 (bm 30 1) ?_;refine pu_ HT_ 1 136 (bm 30 3) ?_;refine pu_ HT_ 3 138 (bm 30 11) ?_;refine pu_ HT_ 4 139 (bm 30 27) ?_;refine pu_ HT_ 5 140 (bm 30 59) ?_;refine pu_ HT_ 6 141 (bm 30 123) ?_;refine pu_ HT_ 7 142 (bm 30 251) ?_;refine pu_ HT_ 8 143 (bm 30 507) ?_;refine pu_ HT_ 9 144 (bm 30 1019) ?_;refine pu_ HT_ 10 145 (bm 30 2043) ?_;refine pu_ HT_ 11 146 (bm 30 4091) ?_;refine pu_ HT_ 13 148 (bm 30 12283) ?_;refine pu_ HT_ 14 149 (bm 30 28667) ?_;refine pu_ HT_ 16 151 (bm 30 94203) ?_;refine pu_ HT_ 17 152 (bm 30 225275) ?_;refine pu_ HT_ 18 153 (bm 30 487419) ?_;refine pu_ HT_ 19 154 (bm 30 1011707) ?_;refine pu_ HT_ 20 155 (bm 30 2060283) ?_;refine pu_ HT_ 21 156 (bm 30 4157435) ?_;refine pu_ HT_ 22 157 (bm 30 8351739) ?_;refine pu_ HT_ 23 158 (bm 30 16740347) ?_;refine pu_ HT_ 24 159 (bm 30 33517563) ?_;refine pu_ HT_ 25 160 (bm 30 67071995) ?_;refine pu_ HT_ 26 161 (bm 30 134180859) ?_;refine ta8_ HT_ HW_ 2 137 (bm 30 134180863) hHeld ?_;refine ta8_ HT_ HW_ 12 147 (bm 30 134184959) hHeld ?_;refine ta8_ HT_ HW_ 15 150 (bm 30 134217727) hHeld ?_;refine ta8_ HT_ HW_ 27 162 (bm 30 268435455) hHeld ?_;refine one_ (i:=28) (N:=some 163) (bm 30 536870911) rfl rfl (one_of HT_.out (by kernel_rfl)) (by decide) (fun K hK=>?_)
            refine Kd.R_lit_step k28 _ 28 ?hg (N:=163) ?hd (xs:=([(⟨(rd_T28 y192 0).f0,(rd_T28 y192 0).f1⟩:S28),(⟨wrap64 (a1+(wrap64 (Int.tdiv a3 2))),wrap64 (a2+1)⟩:S28),(⟨(rd_T28 y192 1).f0,(rd_T28 y192 1).f1⟩:S28),(⟨(rd_T28 y192 2).f0,(rd_T28 y192 2).f1⟩:S28),(⟨wrap64 (a1+(wrap64 (Int.tdiv a3 2))),wrap64 ((wrap64 (a2+a4))-1)⟩:S28),(⟨(rd_T28 y192 3).f0,(rd_T28 y192 3).f1⟩:S28)]:List (S28))) (inner:=[.int .i64 ((rd_T28 y192 0).f0),.int .i64 ((rd_T28 y192 0).f1),.int .i64 (wrap64 (a1+(wrap64 (Int.tdiv a3 2)))),.int .i64 (wrap64 (a2+1)),.int .i64 ((rd_T28 y192 1).f0),.int .i64 ((rd_T28 y192 1).f1),.int .i64 ((rd_T28 y192 2).f0),.int .i64 ((rd_T28 y192 2).f1),.int .i64 (wrap64 (a1+(wrap64 (Int.tdiv a3 2)))),.int .i64 (wrap64 ((wrap64 (a2+a4))-1)),.int .i64 ((rd_T28 y192 3).f0),.int .i64 ((rd_T28 y192 3).f1)]) (ok:=fun _=>True) (okp:=fun _=>True) ?hr ?hp (fun _ hk=>hk) trivial (Below.refl _ _) (Nat.le_refl _) (by simp) ?_;(case hd=>rfl);(case hg=>rfl);(case hr=>first | (go_simp;done) | (go_simp;rfl));(case hp=>exact (Reps.c2 (show Kd.M k28 _ _ _ (⟨(rd_T28 y192 0).f0,(rd_T28 y192 0).f1⟩:S28) [.int .i64 ((rd_T28 y192 0).f0),.int .i64 ((rd_T28 y192 0).f1)] from (k28_mkM _ _ _ (⟨(rd_T28 y192 0).f0,(rd_T28 y192 0).f1⟩:S28) )) (Reps.c2 (show Kd.M k28 _ _ _ (⟨wrap64 (a1+(wrap64 (Int.tdiv a3 2))),wrap64 (a2+1)⟩:S28) [.int .i64 (wrap64 (a1+(wrap64 (Int.tdiv a3 2)))),.int .i64 (wrap64 (a2+1))] from (k28_mkM _ _ _ (⟨wrap64 (a1+(wrap64 (Int.tdiv a3 2))),wrap64 (a2+1)⟩:S28) )) (Reps.c2 (show Kd.M k28 _ _ _ (⟨(rd_T28 y192 1).f0,(rd_T28 y192 1).f1⟩:S28) [.int .i64 ((rd_T28 y192 1).f0),.int .i64 ((rd_T28 y192 1).f1)] from (k28_mkM _ _ _ (⟨(rd_T28 y192 1).f0,(rd_T28 y192 1).f1⟩:S28) )) (Reps.c2 (show Kd.M k28 _ _ _ (⟨(rd_T28 y192 2).f0,(rd_T28 y192 2).f1⟩:S28) [.int .i64 ((rd_T28 y192 2).f0),.int .i64 ((rd_T28 y192 2).f1)] from (k28_mkM _ _ _ (⟨(rd_T28 y192 2).f0,(rd_T28 y192 2).f1⟩:S28) )) (Reps.c2 (show Kd.M k28 _ _ _ (⟨wrap64 (a1+(wrap64 (Int.tdiv a3 2))),wrap64 ((wrap64 (a2+a4))-1)⟩:S28) [.int .i64 (wrap64 (a1+(wrap64 (Int.tdiv a3 2)))),.int .i64 (wrap64 ((wrap64 (a2+a4))-1))] from (k28_mkM _ _ _ (⟨wrap64 (a1+(wrap64 (Int.tdiv a3 2))),wrap64 ((wrap64 (a2+a4))-1)⟩:S28) )) (Reps.c2 (show Kd.M k28 _ _ _ (⟨(rd_T28 y192 3).f0,(rd_T28 y192 3).f1⟩:S28) [.int .i64 ((rd_T28 y192 3).f0),.int .i64 ((rd_T28 y192 3).f1)] from (k28_mkM _ _ _ (⟨(rd_T28 y192 3).f0,(rd_T28 y192 3).f1⟩:S28) )) (Reps.none _ _))))))))
            intro v224 w72 ho73 hb hg_ hnew_;have HS0_:=pw_cell_below hb hHeld.1;have HS1_:=pw_cell_below hb hHeld.2.1;have HS2_:=pw_cell_below hb hHeld.2.2.1;have HS3_:=pw_cell_below hb hHeld.2.2.2.1;have HS4_:=pw_cell_below hb hHeld.2.2.2.2.1;have HS5_:=pw_cell_below hb hHeld.2.2.2.2.2.1;have HS6_:=pw_cell_below hb hHeld.2.2.2.2.2.2.1;have HS7_:=pw_cell_below hb hHeld.2.2.2.2.2.2.2;clear hg_ hnew_
            (first | rw [← Ny223.out] at ho73 | (simp only [Int.reduceToNat] at ho73;rw [← Ny223.out] at ho73))
            have HO225:=a0_ (Kd.R_lower (Kd.R_new' ho73 (Kd.R_lt (uR_ HO194))) (keep_size (w:=w) (g:=g) (row:=none) (hK_ HK)));replace HO194:=a0_ (Kd.R_elder' (uR_ HO194) (Kd.R_base ho73) hb);replace HK:=kb_ HK hb;replace HB:=a0_ (below_step hBs_ hb);replace HI0:=a0_ (IsS123.below hI_ hb);clear hb ho73;refine hK.out _ _ ⟨HS0_,HS1_,HS2_,HS3_,HS4_,HS5_,HS6_,HS7_⟩ (fun hHeld=>?_);clear hK K;refine no_ (h:=?_);refine pu_ HT_ 29 10 (bm 30 1073741823) ?_;refine done_ (done_of HT_.out (by kernel_rfl)) ?_
            try go_wp2
            go_ret;exact⟨_,rr_,by (with_reducible repeat (first | apply Kd.R_alloc | apply Kd.R_drewN | apply Kd.R_drew));exact Kd.R_mono HO225.out (fun _ hk=>trivial),by repeat (first | (with_reducible first | exact HI0.out | apply IsS123.alloc | apply IsS123.drewN | apply IsS123.drew | apply IsS123.set_1) | exact HI0.out),by repeat (first | (with_reducible first | exact HB.out | apply below_alloc | apply pw_below_drewN | apply below_drew1 | refine below_set ?_ (IsS123.ge HI0.out)) | exact HB.out),by repeat (first | (with_reducible first | exact HK.out | apply KeepBut.set_ | apply keep_drewN | apply keep_drew | apply keep_alloc) | exact HK.out)⟩
           ·
            rw [if_neg c66] at H;exact absurd H (by simp)
          ·
           rw [if_neg c65] at H;exact absurd H (by simp)
         ·
          rw [if_neg c64] at H;exact absurd H (by simp)
        ·
         rw [if_neg c63] at H;exact absurd H (by simp)
       ·
        rw [if_neg c62] at H;have c62b0:decide (2<a4)=false:=decide_eq_false c62;clear c62;simp only [Option.some.injEq,Prod.mk.injEq] at H;obtain⟨rfl,rfl⟩:=H;go_enter Tryd.func110,Tryd.ntmps110
        go_wp2_with (first | ((with_reducible refine gate_dst (N:=32) rfl ?_);refine Kd.R_lit k28 _ 28 ?hg (N:=32) ?hd (xs:=([(⟨a1,a2⟩:S28),(⟨wrap64 (a1+a3),a2⟩:S28),(⟨wrap64 (a1+a3),wrap64 (a2+a4)⟩:S28),(⟨a1,wrap64 (a2+a4)⟩:S28)]:List (S28))) (inner:=[.int .i64 a1,.int .i64 a2,.int .i64 (wrap64 (a1+a3)),.int .i64 a2,.int .i64 (wrap64 (a1+a3)),.int .i64 (wrap64 (a2+a4)),.int .i64 a1,.int .i64 (wrap64 (a2+a4))]) (ok:=fun _=>True) (okp:=fun _=>True) ?hr ?hp (fun _ hk=>hk) trivial (Below.refl _ _) (Nat.le_refl _) (by simp) ?_;(case hd=>rfl);(case hg=>rfl);(case hr=>first | (go_simp;done) | (go_simp;rfl));(case hp=>exact (Reps.c2 (show Kd.M k28 _ _ _ (⟨a1,a2⟩:S28) [.int .i64 a1,.int .i64 a2] from (k28_mkM _ _ _ (⟨a1,a2⟩:S28) )) (Reps.c2 (show Kd.M k28 _ _ _ (⟨wrap64 (a1+a3),a2⟩:S28) [.int .i64 (wrap64 (a1+a3)),.int .i64 a2] from (k28_mkM _ _ _ (⟨wrap64 (a1+a3),a2⟩:S28) )) (Reps.c2 (show Kd.M k28 _ _ _ (⟨wrap64 (a1+a3),wrap64 (a2+a4)⟩:S28) [.int .i64 (wrap64 (a1+a3)),.int .i64 (wrap64 (a2+a4))] from (k28_mkM _ _ _ (⟨wrap64 (a1+a3),wrap64 (a2+a4)⟩:S28) )) (Reps.c2 (show Kd.M k28 _ _ _ (⟨a1,wrap64 (a2+a4)⟩:S28) [.int .i64 a1,.int .i64 (wrap64 (a2+a4))] from (k28_mkM _ _ _ (⟨a1,wrap64 (a2+a4)⟩:S28) )) (Reps.none _ _))))));intro v193 w74 ho75 hb hg_ hnew_;clear hg_ hnew_;(first | rw [← Ny192.out] at ho75 | (simp only [Int.reduceToNat] at ho75;rw [← Ny192.out] at ho75));have HO194:=a0_ (Kd.R_lower ho75 (keep_size (w:=w) (g:=g) (row:=none) (hK_ HK)));replace HK:=kb_ HK hb;replace HB:=a0_ (below_step hBs_ hb);replace HI0:=a0_ (IsS123.below hI_ hb);clear hb ho75) | ((with_reducible refine gate_callee (f:=74) rfl ?_);refine gL_ (some 34) Tryd.func74 #[.pointer (some ⟨g,0,none⟩),.int .i64 7] (h:=?_);(with_reducible refine (spec_l6Rd_pick.calls k g s0_0 s0_1 7 t195 t196 w0 _ hI_ hBs_ A6.out).mono ?_);rintro e w76 ⟨rfl,hi,hb,hk⟩;refine⟨_,rfl,?_⟩;replace HO194:=a0_ (Kd.R_mono (Kd.R_keep (IsS123.apart (show IsS123 w0 _ g s0_0 s0_1 from hI_) (uR_ HO194) (by decide)) hk (fun _ h=>h.2)) (fun _ h=>h.1));replace HK:=kk_ HK hk;replace HB:=a0_ (hb);replace HI0:=a0_ (hi);(try clear hi hb hk)))
        go_ret;exact⟨_,rr_,by (with_reducible repeat (first | apply Kd.R_alloc | apply Kd.R_drewN | apply Kd.R_drew));exact HO194.out,by repeat (first | (with_reducible first | exact HI0.out | apply IsS123.alloc | apply IsS123.drewN | apply IsS123.drew | apply IsS123.set_1) | exact HI0.out),by repeat (first | (with_reducible first | exact HB.out | apply below_alloc | apply pw_below_drewN | apply below_drew1 | refine below_set ?_ (IsS123.ge HI0.out)) | exact HB.out),by repeat (first | (with_reducible first | exact HK.out | apply KeepBut.set_ | apply keep_drewN | apply keep_drew | apply keep_alloc) | exact HK.out)⟩
      ·
       rw [if_neg c61] at H;have c61b0:decide (2<a3)=false:=decide_eq_false c61;clear c61;simp only [Option.some.injEq,Prod.mk.injEq] at H;obtain⟨rfl,rfl⟩:=H;go_enter Tryd.func110,Tryd.ntmps110
       go_wp2_with (first | ((with_reducible refine gate_dst (N:=32) rfl ?_);refine Kd.R_lit k28 _ 28 ?hg (N:=32) ?hd (xs:=([(⟨a1,a2⟩:S28),(⟨wrap64 (a1+a3),a2⟩:S28),(⟨wrap64 (a1+a3),wrap64 (a2+a4)⟩:S28),(⟨a1,wrap64 (a2+a4)⟩:S28)]:List (S28))) (inner:=[.int .i64 a1,.int .i64 a2,.int .i64 (wrap64 (a1+a3)),.int .i64 a2,.int .i64 (wrap64 (a1+a3)),.int .i64 (wrap64 (a2+a4)),.int .i64 a1,.int .i64 (wrap64 (a2+a4))]) (ok:=fun _=>True) (okp:=fun _=>True) ?hr ?hp (fun _ hk=>hk) trivial (Below.refl _ _) (Nat.le_refl _) (by simp) ?_;(case hd=>rfl);(case hg=>rfl);(case hr=>first | (go_simp;done) | (go_simp;rfl));(case hp=>exact (Reps.c2 (show Kd.M k28 _ _ _ (⟨a1,a2⟩:S28) [.int .i64 a1,.int .i64 a2] from (k28_mkM _ _ _ (⟨a1,a2⟩:S28) )) (Reps.c2 (show Kd.M k28 _ _ _ (⟨wrap64 (a1+a3),a2⟩:S28) [.int .i64 (wrap64 (a1+a3)),.int .i64 a2] from (k28_mkM _ _ _ (⟨wrap64 (a1+a3),a2⟩:S28) )) (Reps.c2 (show Kd.M k28 _ _ _ (⟨wrap64 (a1+a3),wrap64 (a2+a4)⟩:S28) [.int .i64 (wrap64 (a1+a3)),.int .i64 (wrap64 (a2+a4))] from (k28_mkM _ _ _ (⟨wrap64 (a1+a3),wrap64 (a2+a4)⟩:S28) )) (Reps.c2 (show Kd.M k28 _ _ _ (⟨a1,wrap64 (a2+a4)⟩:S28) [.int .i64 a1,.int .i64 (wrap64 (a2+a4))] from (k28_mkM _ _ _ (⟨a1,wrap64 (a2+a4)⟩:S28) )) (Reps.none _ _))))));intro v193 w77 ho78 hb hg_ hnew_;clear hg_ hnew_;(first | rw [← Ny192.out] at ho78 | (simp only [Int.reduceToNat] at ho78;rw [← Ny192.out] at ho78));have HO194:=a0_ (Kd.R_lower ho78 (keep_size (w:=w) (g:=g) (row:=none) (hK_ HK)));replace HK:=kb_ HK hb;replace HB:=a0_ (below_step hBs_ hb);replace HI0:=a0_ (IsS123.below hI_ hb);clear hb ho78) | ((with_reducible refine gate_callee (f:=74) rfl ?_);refine gL_ (some 34) Tryd.func74 #[.pointer (some ⟨g,0,none⟩),.int .i64 7] (h:=?_);(with_reducible refine (spec_l6Rd_pick.calls k g s0_0 s0_1 7 t195 t196 w0 _ hI_ hBs_ A6.out).mono ?_);rintro e w79 ⟨rfl,hi,hb,hk⟩;refine⟨_,rfl,?_⟩;replace HO194:=a0_ (Kd.R_mono (Kd.R_keep (IsS123.apart (show IsS123 w0 _ g s0_0 s0_1 from hI_) (uR_ HO194) (by decide)) hk (fun _ h=>h.2)) (fun _ h=>h.1));replace HK:=kk_ HK hk;replace HB:=a0_ (hb);replace HI0:=a0_ (hi);(try clear hi hb hk)))
       go_ret;exact⟨_,rr_,by (with_reducible repeat (first | apply Kd.R_alloc | apply Kd.R_drewN | apply Kd.R_drew));exact HO194.out,by repeat (first | (with_reducible first | exact HI0.out | apply IsS123.alloc | apply IsS123.drewN | apply IsS123.drew | apply IsS123.set_1) | exact HI0.out),by repeat (first | (with_reducible first | exact HB.out | apply below_alloc | apply pw_below_drewN | apply below_drew1 | refine below_set ?_ (IsS123.ge HI0.out)) | exact HB.out),by repeat (first | (with_reducible first | exact HK.out | apply KeepBut.set_ | apply keep_drewN | apply keep_drew | apply keep_alloc) | exact HK.out)⟩
     ·
      rw [if_neg c60] at H;have c60b0:(t195==4)=false:=beq_eq_false_iff_ne.mpr c60;have c60b1:(t195 != 4)=true:=bne_iff_ne.mpr c60;simp only [Option.some.injEq,Prod.mk.injEq] at H;obtain⟨rfl,rfl⟩:=H;go_enter Tryd.func110,Tryd.ntmps110
      go_wp2_with (first | ((with_reducible refine gate_dst (N:=32) rfl ?_);refine Kd.R_lit k28 _ 28 ?hg (N:=32) ?hd (xs:=([(⟨a1,a2⟩:S28),(⟨wrap64 (a1+a3),a2⟩:S28),(⟨wrap64 (a1+a3),wrap64 (a2+a4)⟩:S28),(⟨a1,wrap64 (a2+a4)⟩:S28)]:List (S28))) (inner:=[.int .i64 a1,.int .i64 a2,.int .i64 (wrap64 (a1+a3)),.int .i64 a2,.int .i64 (wrap64 (a1+a3)),.int .i64 (wrap64 (a2+a4)),.int .i64 a1,.int .i64 (wrap64 (a2+a4))]) (ok:=fun _=>True) (okp:=fun _=>True) ?hr ?hp (fun _ hk=>hk) trivial (Below.refl _ _) (Nat.le_refl _) (by simp) ?_;(case hd=>rfl);(case hg=>rfl);(case hr=>first | (go_simp;done) | (go_simp;rfl));(case hp=>exact (Reps.c2 (show Kd.M k28 _ _ _ (⟨a1,a2⟩:S28) [.int .i64 a1,.int .i64 a2] from (k28_mkM _ _ _ (⟨a1,a2⟩:S28) )) (Reps.c2 (show Kd.M k28 _ _ _ (⟨wrap64 (a1+a3),a2⟩:S28) [.int .i64 (wrap64 (a1+a3)),.int .i64 a2] from (k28_mkM _ _ _ (⟨wrap64 (a1+a3),a2⟩:S28) )) (Reps.c2 (show Kd.M k28 _ _ _ (⟨wrap64 (a1+a3),wrap64 (a2+a4)⟩:S28) [.int .i64 (wrap64 (a1+a3)),.int .i64 (wrap64 (a2+a4))] from (k28_mkM _ _ _ (⟨wrap64 (a1+a3),wrap64 (a2+a4)⟩:S28) )) (Reps.c2 (show Kd.M k28 _ _ _ (⟨a1,wrap64 (a2+a4)⟩:S28) [.int .i64 a1,.int .i64 (wrap64 (a2+a4))] from (k28_mkM _ _ _ (⟨a1,wrap64 (a2+a4)⟩:S28) )) (Reps.none _ _))))));intro v193 w80 ho81 hb hg_ hnew_;clear hg_ hnew_;(first | rw [← Ny192.out] at ho81 | (simp only [Int.reduceToNat] at ho81;rw [← Ny192.out] at ho81));have HO194:=a0_ (Kd.R_lower ho81 (keep_size (w:=w) (g:=g) (row:=none) (hK_ HK)));replace HK:=kb_ HK hb;replace HB:=a0_ (below_step hBs_ hb);replace HI0:=a0_ (IsS123.below hI_ hb);clear hb ho81) | ((with_reducible refine gate_callee (f:=74) rfl ?_);refine gL_ (some 34) Tryd.func74 #[.pointer (some ⟨g,0,none⟩),.int .i64 7] (h:=?_);(with_reducible refine (spec_l6Rd_pick.calls k g s0_0 s0_1 7 t195 t196 w0 _ hI_ hBs_ A6.out).mono ?_);rintro e w82 ⟨rfl,hi,hb,hk⟩;refine⟨_,rfl,?_⟩;replace HO194:=a0_ (Kd.R_mono (Kd.R_keep (IsS123.apart (show IsS123 w0 _ g s0_0 s0_1 from hI_) (uR_ HO194) (by decide)) hk (fun _ h=>h.2)) (fun _ h=>h.1));replace HK:=kk_ HK hk;replace HB:=a0_ (hb);replace HI0:=a0_ (hi);(try clear hi hb hk)))
      go_ret;exact⟨_,rr_,by (with_reducible repeat (first | apply Kd.R_alloc | apply Kd.R_drewN | apply Kd.R_drew));exact HO194.out,by repeat (first | (with_reducible first | exact HI0.out | apply IsS123.alloc | apply IsS123.drewN | apply IsS123.drew | apply IsS123.set_1) | exact HI0.out),by repeat (first | (with_reducible first | exact HB.out | apply below_alloc | apply pw_below_drewN | apply below_drew1 | refine below_set ?_ (IsS123.ge HI0.out)) | exact HB.out),by repeat (first | (with_reducible first | exact HK.out | apply KeepBut.set_ | apply keep_drewN | apply keep_drew | apply keep_alloc) | exact HK.out)⟩
def spec_l71Loop.l0:Nat→List (S28)→Int→List Int→Int→Option ((List (S28)) × Int)
 | 0,_,_,_,_=>none
 | k+1,x5,x6,x1000,x1001=>if x6≥0 then (if (x5.length:Int)=0 then (none) else ((spec_l71Pt.f k x1000 x1001).bind fun bt296=>(if 0≤(Int.tmod x6 (x5.length:Int)) then (if (Int.tmod x6 (x5.length:Int))<(x5.length:Int) then (spec_l71Loop.l0 k (x5.set ((Int.tmod x6 (x5.length:Int)):Int).toNat (⟨bt296.1,bt296.2.1⟩:S28)) (wrap64 (x6-1)) x1000 bt296.2.2) else (none)) else (none)))) else (some (x5,x1001))
def spec_l71Loop.f (k:Nat)(s0_0:List Int)(s0_1:Int):Option ((List (S28)) × Int):=(spec_l6Rd_pick.f k s0_0 s0_1 5).bind fun bt268=>((spec_l6Rd_pick.f k s0_0 bt268.2 5).bind fun bt270=>((spec_l6Rd_pick.f k s0_0 bt270.2 (wrap64 (9-bt268.1))).bind fun bt272=>((spec_l6Rd_pick.f k s0_0 bt272.2 (wrap64 (9-bt270.1))).bind fun bt274=>((spec_l71Box.f k s0_0 bt274.2 bt268.1 bt270.1 (wrap64 (1+bt272.1)) (wrap64 (1+bt274.1))).bind fun bt276=>((spec_l6Rd_pick.f k s0_0 bt276.2 12).bind fun bt280=>(if bt280.1=0 then ((spec_l71Pt.f k s0_0 bt280.2).bind fun bt282=>(if bt276.1.length<8796093022208 then (some ((bt276.1++[(⟨bt282.1,bt282.2.1⟩:S28)]),bt282.2.2)) else (none))) else (if bt280.1=1 then ((spec_l6Rd_pick.f k s0_0 bt280.2 (bt276.1.length:Int)).bind fun bt288=>((spec_l71Pt.f k s0_0 bt288.2).bind fun bt290=>(if 0≤bt288.1 then (if bt288.1<(bt276.1.length:Int) then (some ((bt276.1.set (bt288.1:Int).toNat (⟨bt290.1,bt290.2.1⟩:S28)),bt290.2.2)) else (none)) else (none)))) else (if bt280.1=2 then ((spec_l6Rd_pick.f k s0_0 bt280.2 6).bind fun bt294=>(spec_l71Loop.l0 k bt276.1 bt294.1 s0_0 bt294.2)) else (some (bt276.1,bt280.2))))))))))
def spec_l71Loop.T13:Bool × List (List Nat × List Nat):=(true,[([],[]),([],[]),([],[]),([2],[2]),([1,3],[1,3]),([],[]),([5],[5]),([0,4,0,1,2,3,4,5,6],[0,4]),([7,6,6,0,1,2,3,4,5,6],[6,7])])
def spec_l71Loop.B13:List Nat:=[0,0,0,4,14,0,32,127,255]
theorem spec_l71Loop.tab13:rtab .any (opsOf Tryd.f92 13)=spec_l71Loop.T13:=by kernel_rfl
theorem spec_l71Loop.bits13:waitsOk spec_l71Loop.T13.2 spec_l71Loop.B13=true:=by kernel_rfl
set_option maxHeartbeats 8000000 in
set_option maxRecDepth 100000 in
theorem spec_l71Loop.calls (k:Nat)(g:Nat)(s0_0:List Int)(s0_1:Int)(r1:List (S28))(r2:Int)(w0 w:World)(hI:IsS123 w0 w g s0_0 s0_1)(hB:Below w0.heap.size w0 w)(h:spec_l71Loop.f k s0_0 s0_1=some (r1,r2)):
  Calls Tryd.prog 92 #[.pointer (some ⟨g,0,none⟩)] w fun e w'=>∃ v0_:Value,e=.returned (v0_)∧Kd.R k28 28 w' w.heap.size (fun _=>True) v0_ r1∧IsS123 w0 w' g s0_0 r2∧Below w0.heap.size w0 w'∧KeepBut w w' g none:=by
 have hu28:=Tryd.underlying28;have HI0:=Aside0.mk hI;have HK:=a0_ (KeepBut.refl w g none);have HL:=Aside0.mk hB.size;clear hI;have HW0:=Aside0.mk hB.size;have HB:=Aside0.mk hB;clear hB;have H:((spec_l6Rd_pick.f k s0_0 s0_1 5).bind fun bt268=>((spec_l6Rd_pick.f k s0_0 bt268.2 5).bind fun bt270=>((spec_l6Rd_pick.f k s0_0 bt270.2 (wrap64 (9-bt268.1))).bind fun bt272=>((spec_l6Rd_pick.f k s0_0 bt272.2 (wrap64 (9-bt270.1))).bind fun bt274=>((spec_l71Box.f k s0_0 bt274.2 bt268.1 bt270.1 (wrap64 (1+bt272.1)) (wrap64 (1+bt274.1))).bind fun bt276=>((spec_l6Rd_pick.f k s0_0 bt276.2 12).bind fun bt280=>(if bt280.1=0 then ((spec_l71Pt.f k s0_0 bt280.2).bind fun bt282=>(if bt276.1.length<8796093022208 then (some ((bt276.1++[(⟨bt282.1,bt282.2.1⟩:S28)]),bt282.2.2)) else (none))) else (if bt280.1=1 then ((spec_l6Rd_pick.f k s0_0 bt280.2 (bt276.1.length:Int)).bind fun bt288=>((spec_l71Pt.f k s0_0 bt288.2).bind fun bt290=>(if 0≤bt288.1 then (if bt288.1<(bt276.1.length:Int) then (some ((bt276.1.set (bt288.1:Int).toNat (⟨bt290.1,bt290.2.1⟩:S28)),bt290.2.2)) else (none)) else (none)))) else (if bt280.1=2 then ((spec_l6Rd_pick.f k s0_0 bt280.2 6).bind fun bt294=>(spec_l71Loop.l0 k bt276.1 bt294.1 s0_0 bt294.2)) else (some (bt276.1,bt280.2)))))))))))=some (r1,r2):=h;clear h;replace H:=Option.bind_eq_some_iff.mp H;obtain⟨⟨t268,t269⟩,A20,H⟩:=H
 (try dsimp only at H)
 have A2:=Aside0.mk A20;clear A20;replace H:=Option.bind_eq_some_iff.mp H;obtain⟨⟨t270,t271⟩,A30,H⟩:=H
 (try dsimp only at H)
 have A3:=Aside0.mk A30;clear A30;replace H:=Option.bind_eq_some_iff.mp H;obtain⟨⟨t272,t273⟩,A40,H⟩:=H
 (try dsimp only at H)
 have A4:=Aside0.mk A40;clear A40;replace H:=Option.bind_eq_some_iff.mp H;obtain⟨⟨t274,t275⟩,A50,H⟩:=H
 (try dsimp only at H)
 have A5:=Aside0.mk A50;clear A50;replace H:=Option.bind_eq_some_iff.mp H;obtain⟨⟨t276,t279⟩,A60,H⟩:=H
 (try dsimp only at H)
 have A6:=Aside0.mk A60;clear A60;replace H:=Option.bind_eq_some_iff.mp H;obtain⟨⟨t280,t281⟩,A70,H⟩:=H
 (try dsimp only at H)
 have A7:=Aside0.mk A70;clear A70;by_cases c8:t280=0
 ·
  rw [if_pos c8] at H;have c8b0:(t280==0)=true:=beq_iff_eq.mpr c8;have c8b1:(t280 != 0)=false:=bne_eq_false_iff_eq.mpr c8;clear c8;replace H:=Option.bind_eq_some_iff.mp H;obtain⟨⟨t282,t283,t284⟩,A90,H⟩:=H
  (try dsimp only at H)
  have A9:=Aside0.mk A90;clear A90;by_cases c10:t276.length<8796093022208
  ·
   rw [if_pos c10] at H;have LMc10:=Aside0.mk c10;clear c10;obtain⟨y285,hy285⟩:∃ y_:List (S28),y_=(t276++[(⟨t282,t283⟩:S28)]):=⟨_,rfl⟩;replace H:(some (y285,t284))=some (r1,r2):=by first | (rw [hy285];with_reducible exact H) | (have H2_:=(Option.bind_some _ _).symm.trans H;rw [hy285];with_reducible exact H2_) | (have H2_:=(Option.bind_some _ _).symm.trans H;with_reducible exact H2_) | with_reducible exact H | (rw [hy285];exact H) | exact H
   have Ny285:=Aside0.mk hy285;clear hy285;simp only [Option.some.injEq,Prod.mk.injEq] at H;obtain⟨rfl,rfl⟩:=H;go_enter Tryd.func92,Tryd.ntmps92
   go_wp2_with (first | ((with_reducible refine gate_callee (f:=74) rfl ?_);refine gL_ (some 8) Tryd.func74 #[.pointer (some ⟨g,0,none⟩),.int .i64 5] (h:=?_);(with_reducible refine (spec_l6Rd_pick.calls k g s0_0 s0_1 5 t268 t269 w0 _ hI_ hBs_ A2.out).mono ?_);rintro e w11 ⟨rfl,hi,hb,hk⟩;refine⟨_,rfl,?_⟩;replace HK:=kk_ HK hk;replace HB:=a0_ (hb);replace HI0:=a0_ (hi);(try clear hi hb hk)) | ((with_reducible refine gate_callee (f:=74) rfl ?_);refine gL_ (some 10) Tryd.func74 #[.pointer (some ⟨g,0,none⟩),.int .i64 5] (h:=?_);(with_reducible refine (spec_l6Rd_pick.calls k g s0_0 t269 5 t270 t271 w0 _ hI_ hBs_ A3.out).mono ?_);rintro e w12 ⟨rfl,hi,hb,hk⟩;refine⟨_,rfl,?_⟩;replace HK:=kk_ HK hk;replace HB:=a0_ (hb);replace HI0:=a0_ (hi);(try clear hi hb hk)) | ((with_reducible refine gate_callee (f:=74) rfl ?_);refine gL_ (some 17) Tryd.func74 #[.pointer (some ⟨g,0,none⟩),.int .i64 (wrap64 (9-t268))] (h:=?_);(with_reducible refine (spec_l6Rd_pick.calls k g s0_0 t271 (wrap64 (9-t268)) t272 t273 w0 _ hI_ hBs_ A4.out).mono ?_);rintro e w13 ⟨rfl,hi,hb,hk⟩;refine⟨_,rfl,?_⟩;replace HK:=kk_ HK hk;replace HB:=a0_ (hb);replace HI0:=a0_ (hi);(try clear hi hb hk)) | ((with_reducible refine gate_callee (f:=74) rfl ?_);refine gL_ (some 22) Tryd.func74 #[.pointer (some ⟨g,0,none⟩),.int .i64 (wrap64 (9-t270))] (h:=?_);(with_reducible refine (spec_l6Rd_pick.calls k g s0_0 t273 (wrap64 (9-t270)) t274 t275 w0 _ hI_ hBs_ A5.out).mono ?_);rintro e w14 ⟨rfl,hi,hb,hk⟩;refine⟨_,rfl,?_⟩;replace HK:=kk_ HK hk;replace HB:=a0_ (hb);replace HI0:=a0_ (hi);(try clear hi hb hk)) | ((with_reducible refine gate_callee (f:=110) rfl ?_);refine gL_ (some 24) Tryd.func110 #[.pointer (some ⟨g,0,none⟩),.int .i64 t268,.int .i64 t270,.int .i64 (wrap64 (1+t272)),.int .i64 (wrap64 (1+t274))] (h:=?_);(with_reducible refine (spec_l71Box.calls k g s0_0 t275 t268 t270 (wrap64 (1+t272)) (wrap64 (1+t274)) t276 t279 w0 _ hI_ hBs_ A6.out).mono ?_);rintro e w15 ⟨v277,rfl,ho0,hi,hb,hk⟩;refine⟨_,rfl,?_⟩;have HO278:=a0_ (Kd.R_lower ho0 (keep_size (w:=w) (g:=g) (row:=none) (hK_ HK)));replace HK:=kk_ HK hk;replace HB:=a0_ (hb);replace HI0:=a0_ (hi);(try clear ho0 hi hb hk)) | ((with_reducible refine gate_callee (f:=74) rfl ?_);refine gL_ (some 26) Tryd.func74 #[.pointer (some ⟨g,0,none⟩),.int .i64 12] (h:=?_);(with_reducible refine (spec_l6Rd_pick.calls k g s0_0 t279 12 t280 t281 w0 _ hI_ hBs_ A7.out).mono ?_);rintro e w16 ⟨rfl,hi,hb,hk⟩;refine⟨_,rfl,?_⟩;replace HO278:=a0_ (Kd.R_mono (Kd.R_keep (IsS123.apart (show IsS123 w0 _ g s0_0 t279 from hI_) (uR_ HO278) (by decide)) hk (fun _ h=>h.2)) (fun _ h=>h.1));replace HK:=kk_ HK hk;replace HB:=a0_ (hb);replace HI0:=a0_ (hi);(try clear hi hb hk)) | ((with_reducible refine gate_callee (f:=51) rfl ?_);refine gL_ (some 31) Tryd.func51 #[.pointer (some ⟨g,0,none⟩)] (h:=?_);(with_reducible refine (spec_l71Pt.calls k g s0_0 t281 t282 t283 t284 w0 _ hI_ hBs_ A9.out).mono ?_);rintro e w17 ⟨rfl,hi,hb,hk⟩;refine⟨_,rfl,?_⟩;replace HO278:=a0_ (Kd.R_mono (Kd.R_keep (IsS123.apart (show IsS123 w0 _ g s0_0 t281 from hI_) (uR_ HO278) (by decide)) hk (fun _ h=>h.2)) (fun _ h=>h.1));replace HK:=kk_ HK hk;replace HB:=a0_ (hb);replace HI0:=a0_ (hi);(try clear hi hb hk)) | ((with_reducible refine gate_builtin (b:=.append) (xs:=#[.tmp 29,.tmp 32]) rfl ?_);at_builtin;refine Kd.R_append k28 w.heap.size rfl (.tmp 29) (.tmp 32) 23 28 (.agg #[(.int .i64 0),(.int .i64 0)]) 16 rfl Tryd.underlying23 info28 rfl (by decide) (by omega) v277 t276 (⟨t282,t283⟩:S28) [.int .i64 t282,.int .i64 t283] (fun _=>True) (fun _=>False) rfl rfl ?aP (fun _ hk=>hk.elim) ?aF ?aO (Below.refl _ _) ?aS ?aL ?_;(case aP=>exact k28_mkM _ _ _ (⟨t282,t283⟩:S28));(case aF=>exact (fun _ _=>trivial));(case aO=>exact (uR_ HO278));(case aS=>exact (keep_size (w:=w) (g:=g) (row:=none) (hK_ HK)));(case aL=>have:=LMc10.out;omega);intro v286 w18 ho hb hg hat;rw [← Ny285.out] at ho;have HO287:=a0_ (ho);replace HB:=a0_ (below_weaken hBs_ HL.out hb);replace HI0:=a0_ (IsS123.grown hI_ hg (IsS123.own_ne HI0.out HO278.out (by decide)));replace HK:=a0_ (KeepBut.trans (hK_ HK) (KeepBut.of_grown hg g) (Kd.R_base2 HO278.out));clear HO278;clear ho hb hg hat))
   go_ret;exact⟨_,rr_,by (with_reducible repeat (first | apply Kd.R_alloc | apply Kd.R_drewN | apply Kd.R_drew));exact HO287.out,by repeat (first | (with_reducible first | exact HI0.out | apply IsS123.alloc | apply IsS123.drewN | apply IsS123.drew | apply IsS123.set_1) | exact HI0.out),by repeat (first | (with_reducible first | exact HB.out | apply below_alloc | apply pw_below_drewN | apply below_drew1 | refine below_set ?_ (IsS123.ge HI0.out)) | exact HB.out),by repeat (first | (with_reducible first | exact HK.out | apply KeepBut.set_ | apply keep_drewN | apply keep_drew | apply keep_alloc) | exact HK.out)⟩
  ·
   rw [if_neg c10] at H;exact absurd H (by simp)
 ·
  rw [if_neg c8] at H;have c8b0:(t280==0)=false:=beq_eq_false_iff_ne.mpr c8;have c8b1:(t280 != 0)=true:=bne_iff_ne.mpr c8;by_cases c19:t280=1
  ·
   rw [if_pos c19] at H;have c19b0:(t280==1)=true:=beq_iff_eq.mpr c19;have c19b1:(t280 != 1)=false:=bne_eq_false_iff_eq.mpr c19;clear c19;replace H:=Option.bind_eq_some_iff.mp H;obtain⟨⟨t288,t289⟩,A200,H⟩:=H
   (try dsimp only at H)
   have A20:=Aside0.mk A200;clear A200;replace H:=Option.bind_eq_some_iff.mp H;obtain⟨⟨t290,t291,t292⟩,A210,H⟩:=H
   (try dsimp only at H)
   have A21:=Aside0.mk A210;clear A210;by_cases c22:0≤t288
   ·
    rw [if_pos c22] at H;have c22b0:decide (0≤t288)=true:=decide_eq_true c22;clear c22;by_cases c23:t288<(t276.length:Int)
    ·
     rw [if_pos c23] at H;have c23b0:decide (t288<(t276.length:Int))=true:=decide_eq_true c23;clear c23;obtain⟨y293,hy293⟩:∃ y_:List (S28),y_=(t276.set (t288:Int).toNat (⟨t290,t291⟩:S28)):=⟨_,rfl⟩;replace H:(some (y293,t292))=some (r1,r2):=by first | (rw [hy293];with_reducible exact H) | (have H2_:=(Option.bind_some _ _).symm.trans H;rw [hy293];with_reducible exact H2_) | (have H2_:=(Option.bind_some _ _).symm.trans H;with_reducible exact H2_) | with_reducible exact H | (rw [hy293];exact H) | exact H
     have Ny293:=Aside0.mk hy293;clear hy293;simp only [Option.some.injEq,Prod.mk.injEq] at H;obtain⟨rfl,rfl⟩:=H;go_enter Tryd.func92,Tryd.ntmps92
     go_wp2_with (first | ((with_reducible refine gate_callee (f:=74) rfl ?_);refine gL_ (some 8) Tryd.func74 #[.pointer (some ⟨g,0,none⟩),.int .i64 5] (h:=?_);(with_reducible refine (spec_l6Rd_pick.calls k g s0_0 s0_1 5 t268 t269 w0 _ hI_ hBs_ A2.out).mono ?_);rintro e w25 ⟨rfl,hi,hb,hk⟩;refine⟨_,rfl,?_⟩;replace HK:=kk_ HK hk;replace HB:=a0_ (hb);replace HI0:=a0_ (hi);(try clear hi hb hk)) | ((with_reducible refine gate_callee (f:=74) rfl ?_);refine gL_ (some 10) Tryd.func74 #[.pointer (some ⟨g,0,none⟩),.int .i64 5] (h:=?_);(with_reducible refine (spec_l6Rd_pick.calls k g s0_0 t269 5 t270 t271 w0 _ hI_ hBs_ A3.out).mono ?_);rintro e w26 ⟨rfl,hi,hb,hk⟩;refine⟨_,rfl,?_⟩;replace HK:=kk_ HK hk;replace HB:=a0_ (hb);replace HI0:=a0_ (hi);(try clear hi hb hk)) | ((with_reducible refine gate_callee (f:=74) rfl ?_);refine gL_ (some 17) Tryd.func74 #[.pointer (some ⟨g,0,none⟩),.int .i64 (wrap64 (9-t268))] (h:=?_);(with_reducible refine (spec_l6Rd_pick.calls k g s0_0 t271 (wrap64 (9-t268)) t272 t273 w0 _ hI_ hBs_ A4.out).mono ?_);rintro e w27 ⟨rfl,hi,hb,hk⟩;refine⟨_,rfl,?_⟩;replace HK:=kk_ HK hk;replace HB:=a0_ (hb);replace HI0:=a0_ (hi);(try clear hi hb hk)) | ((with_reducible refine gate_callee (f:=74) rfl ?_);refine gL_ (some 22) Tryd.func74 #[.pointer (some ⟨g,0,none⟩),.int .i64 (wrap64 (9-t270))] (h:=?_);(with_reducible refine (spec_l6Rd_pick.calls k g s0_0 t273 (wrap64 (9-t270)) t274 t275 w0 _ hI_ hBs_ A5.out).mono ?_);rintro e w28 ⟨rfl,hi,hb,hk⟩;refine⟨_,rfl,?_⟩;replace HK:=kk_ HK hk;replace HB:=a0_ (hb);replace HI0:=a0_ (hi);(try clear hi hb hk)) | ((with_reducible refine gate_callee (f:=110) rfl ?_);refine gL_ (some 24) Tryd.func110 #[.pointer (some ⟨g,0,none⟩),.int .i64 t268,.int .i64 t270,.int .i64 (wrap64 (1+t272)),.int .i64 (wrap64 (1+t274))] (h:=?_);(with_reducible refine (spec_l71Box.calls k g s0_0 t275 t268 t270 (wrap64 (1+t272)) (wrap64 (1+t274)) t276 t279 w0 _ hI_ hBs_ A6.out).mono ?_);rintro e w29 ⟨v277,rfl,ho0,hi,hb,hk⟩;refine⟨_,rfl,?_⟩;have HO278:=a0_ (Kd.R_lower ho0 (keep_size (w:=w) (g:=g) (row:=none) (hK_ HK)));replace HK:=kk_ HK hk;replace HB:=a0_ (hb);replace HI0:=a0_ (hi);(try clear ho0 hi hb hk)) | ((with_reducible refine gate_callee (f:=74) rfl ?_);refine gL_ (some 26) Tryd.func74 #[.pointer (some ⟨g,0,none⟩),.int .i64 12] (h:=?_);(with_reducible refine (spec_l6Rd_pick.calls k g s0_0 t279 12 t280 t281 w0 _ hI_ hBs_ A7.out).mono ?_);rintro e w30 ⟨rfl,hi,hb,hk⟩;refine⟨_,rfl,?_⟩;replace HO278:=a0_ (Kd.R_mono (Kd.R_keep (IsS123.apart (show IsS123 w0 _ g s0_0 t279 from hI_) (uR_ HO278) (by decide)) hk (fun _ h=>h.2)) (fun _ h=>h.1));replace HK:=kk_ HK hk;replace HB:=a0_ (hb);replace HI0:=a0_ (hi);(try clear hi hb hk);obtain⟨Ao31,co31,eo31⟩:=Kd.R_slice HO278.out;subst eo31) | ((with_reducible refine gate_callee (f:=74) rfl ?_);refine gL_ (some 40) Tryd.func74 #[.pointer (some ⟨g,0,none⟩),.int .i64 (t276.length:Int)] (h:=?_);(with_reducible refine (spec_l6Rd_pick.calls k g s0_0 t281 (t276.length:Int) t288 t289 w0 _ hI_ hBs_ A20.out).mono ?_);rintro e w32 ⟨rfl,hi,hb,hk⟩;refine⟨_,rfl,?_⟩;replace HO278:=a0_ (Kd.R_mono (Kd.R_keep (IsS123.apart (show IsS123 w0 _ g s0_0 t281 from hI_) (uR_ HO278) (by decide)) hk (fun _ h=>h.2)) (fun _ h=>h.1));replace HK:=kk_ HK hk;replace HB:=a0_ (hb);replace HI0:=a0_ (hi);(try clear hi hb hk)) | ((with_reducible refine gate_callee (f:=51) rfl ?_);refine gL_ (some 42) Tryd.func51 #[.pointer (some ⟨g,0,none⟩)] (h:=?_);(with_reducible refine (spec_l71Pt.calls k g s0_0 t289 t290 t291 t292 w0 _ hI_ hBs_ A21.out).mono ?_);rintro e w33 ⟨rfl,hi,hb,hk⟩;refine⟨_,rfl,?_⟩;replace HO278:=a0_ (Kd.R_mono (Kd.R_keep (IsS123.apart (show IsS123 w0 _ g s0_0 t289 from hI_) (uR_ HO278) (by decide)) hk (fun _ h=>h.2)) (fun _ h=>h.1));replace HK:=kk_ HK hk;replace HB:=a0_ (hb);replace HI0:=a0_ (hi);(try clear hi hb hk);have p24:0≤(t288:Int):=od_;have q24:(t288:Int)<((t276.length:Int):Int):=od_;obtain⟨go24,co24,eo24,gb24,gl24,cl24,HG24⟩:=Kd.R_form HO278.out (by omega);(first | cases eo24 | (injection eo24 with ea_ en_ ec_;(first | subst ea_ | (injection ea_ with ea_;subst ea_));subst ec_;clear en_));have GB24:=Aside0.mk gb24;have GG24:=Aside0.mk HG24;clear gb24 gl24 HG24;obtain⟨ce24,hcl24,hM24,hcc24,hfr24⟩:=Kd.R_elem HO278.out z28 (t288:Int) p24 q24;obtain rfl:=k28_openM hM24;have hx24_0:w33.cell? ⟨go24,(t288:Int).toNat*2,none⟩=some (.int .i64 ((rd_T28 t276 t288).f0)):=hcc24 0 _ rfl;have hx24_1:w33.cell? ⟨go24,(t288:Int).toNat*2+1,none⟩=some (.int .i64 ((rd_T28 t276 t288).f1)):=hcc24 1 _ rfl;have hf24_0:w33.frozen? ⟨go24,(t288:Int).toNat*2,none⟩=false:=hfr24 0;have hf24_1:w33.frozen? ⟨go24,(t288:Int).toNat*2+1,none⟩=false:=hfr24 1;clear hcl24 hcc24 hfr24;(try clear hM24);replace p24:=eq_true p24;replace q24:=eq_true q24;have HX34:=a0_ (show Kd.R k28 28 w33 w.heap.size (fun _=>True) (.slice (some ⟨go24,0,none⟩) t276.length co31) t276 from (uR_ HO278));obtain⟨ce34,hcl34,hM34,hcc34,hfr34⟩:=Kd.R_elem HX34.out z28 (t288:Int) (od_) (by have h_:(t288:Int)<((t276.length:Int):Int):=od_;first | exact h_ | (have e_:=(Kd.R_reads' HO278.out).1;omega) | simpa using h_);obtain rfl:=k28_openM hM34;have HP34:=Kd.R_seg HX34.out (t288:Int) (od_) (by have h_:(t288:Int)<((t276.length:Int):Int):=od_;first | exact h_ | (have e_:=(Kd.R_reads' HO278.out).1;omega) | simpa using h_) (seg:=[.int .i64 t290,.int .i64 t291]) (j:=0) hcl34 hcc34 (show 2≤2 from by decide) (x':=(⟨t290,t291⟩:S28)) (k28_mkM _ _ _ (⟨t290,t291⟩:S28) ) (fun _ hk=>hk);have hx34_0:=hcc34 0 _ rfl;(try simp only [show (k28).sz=2 from rfl,Nat.mul_one,Nat.add_zero] at hx34_0);have hf34_0:=hfr34 0;(try simp only [show (k28).sz=2 from rfl,Nat.mul_one,Nat.add_zero] at hf34_0);have hx34_1:=hcc34 1 _ rfl;(try simp only [show (k28).sz=2 from rfl,Nat.mul_one,Nat.add_zero] at hx34_1);have hf34_1:=hfr34 1;(try simp only [show (k28).sz=2 from rfl,Nat.mul_one,Nat.add_zero] at hf34_1);clear hcl34 hcc34 hfr34;(try clear hM34)) | ((with_reducible refine gate_store (t:=28) (p:=43) rfl ?_);refine store_event (t:=28) (p:=43) (v:=?vo_w35) (w1:=((w33.setCell ⟨go24,(t288:Int).toNat*2,none⟩ (.int .i64 t290)).setCell ⟨go24,(t288:Int).toNat*2+1,none⟩ (.int .i64 t291))) ?hg ?ho ?hn ?hr ?_;(case ho=>rfl);(case hg=>rfl);(case hn=>rfl);(case hr=>first | (go_simp;done) | (go_simp;rfl));intro w35 hw;have hg:w33.grownBy w35 (some go24):=(by rw [hw];exact HP34.2);have hp_:Kd.R k28 28 w35 w.heap.size (fun _=>True) (.slice (some ⟨go24,0,none⟩) t276.length co31) y293:=(by rw [hw,Ny293.out];exact HP34.1);clear HP34;replace HI0:=a0_ (IsS123.grown hI_ hg (IsS123.own_ne HI0.out HO278.out (by decide)));replace HB:=a0_ ((by rw [hw];exact below_set (below_set (HB.out) (Nat.le_trans HL.out GB24.out)) (Nat.le_trans HL.out GB24.out):Below w0.heap.size w0 w35));replace HK:=a0_ (KeepBut.trans (hK_ HK) (KeepBut.of_grown hg g) (Kd.R_base2 HO278.out));replace HO278:=a0_ (hp_);clear hg hw hp_))
     go_ret;exact⟨_,rr_,by (with_reducible repeat (first | apply Kd.R_alloc | apply Kd.R_drewN | apply Kd.R_drew));exact HO278.out,by repeat (first | (with_reducible first | exact HI0.out | apply IsS123.alloc | apply IsS123.drewN | apply IsS123.drew | apply IsS123.set_1) | exact HI0.out),by repeat (first | (with_reducible first | exact HB.out | apply below_alloc | apply pw_below_drewN | apply below_drew1 | refine below_set ?_ (IsS123.ge HI0.out)) | exact HB.out),by repeat (first | (with_reducible first | exact HK.out | apply KeepBut.set_ | apply keep_drewN | apply keep_drew | apply keep_alloc) | exact HK.out)⟩
    ·
     rw [if_neg c23] at H;exact absurd H (by simp)
   ·
    rw [if_neg c22] at H;exact absurd H (by simp)
  ·
   rw [if_neg c19] at H;have c19b0:(t280==1)=false:=beq_eq_false_iff_ne.mpr c19;have c19b1:(t280 != 1)=true:=bne_iff_ne.mpr c19;by_cases c36:t280=2
   ·
    rw [if_pos c36] at H;have c36b0:(t280==2)=true:=beq_iff_eq.mpr c36;have c36b1:(t280 != 2)=false:=bne_eq_false_iff_eq.mpr c36;clear c36;replace H:=Option.bind_eq_some_iff.mp H;obtain⟨⟨t294,t295⟩,A370,H⟩:=H
    (try dsimp only at H)
    have A37:=Aside0.mk A370;clear A370;have H':=Aside0.mk H;clear H;go_enter Tryd.func92,Tryd.ntmps92
    go_wp2_with (first | ((with_reducible refine gate_callee (f:=74) rfl ?_);refine gL_ (some 8) Tryd.func74 #[.pointer (some ⟨g,0,none⟩),.int .i64 5] (h:=?_);(with_reducible refine (spec_l6Rd_pick.calls k g s0_0 s0_1 5 t268 t269 w0 _ hI_ hBs_ A2.out).mono ?_);rintro e w38 ⟨rfl,hi,hb,hk⟩;refine⟨_,rfl,?_⟩;replace HK:=kk_ HK hk;replace HB:=a0_ (hb);replace HI0:=a0_ (hi);(try clear hi hb hk)) | ((with_reducible refine gate_callee (f:=74) rfl ?_);refine gL_ (some 10) Tryd.func74 #[.pointer (some ⟨g,0,none⟩),.int .i64 5] (h:=?_);(with_reducible refine (spec_l6Rd_pick.calls k g s0_0 t269 5 t270 t271 w0 _ hI_ hBs_ A3.out).mono ?_);rintro e w39 ⟨rfl,hi,hb,hk⟩;refine⟨_,rfl,?_⟩;replace HK:=kk_ HK hk;replace HB:=a0_ (hb);replace HI0:=a0_ (hi);(try clear hi hb hk)) | ((with_reducible refine gate_callee (f:=74) rfl ?_);refine gL_ (some 17) Tryd.func74 #[.pointer (some ⟨g,0,none⟩),.int .i64 (wrap64 (9-t268))] (h:=?_);(with_reducible refine (spec_l6Rd_pick.calls k g s0_0 t271 (wrap64 (9-t268)) t272 t273 w0 _ hI_ hBs_ A4.out).mono ?_);rintro e w40 ⟨rfl,hi,hb,hk⟩;refine⟨_,rfl,?_⟩;replace HK:=kk_ HK hk;replace HB:=a0_ (hb);replace HI0:=a0_ (hi);(try clear hi hb hk)) | ((with_reducible refine gate_callee (f:=74) rfl ?_);refine gL_ (some 22) Tryd.func74 #[.pointer (some ⟨g,0,none⟩),.int .i64 (wrap64 (9-t270))] (h:=?_);(with_reducible refine (spec_l6Rd_pick.calls k g s0_0 t273 (wrap64 (9-t270)) t274 t275 w0 _ hI_ hBs_ A5.out).mono ?_);rintro e w41 ⟨rfl,hi,hb,hk⟩;refine⟨_,rfl,?_⟩;replace HK:=kk_ HK hk;replace HB:=a0_ (hb);replace HI0:=a0_ (hi);(try clear hi hb hk)) | ((with_reducible refine gate_callee (f:=110) rfl ?_);refine gL_ (some 24) Tryd.func110 #[.pointer (some ⟨g,0,none⟩),.int .i64 t268,.int .i64 t270,.int .i64 (wrap64 (1+t272)),.int .i64 (wrap64 (1+t274))] (h:=?_);(with_reducible refine (spec_l71Box.calls k g s0_0 t275 t268 t270 (wrap64 (1+t272)) (wrap64 (1+t274)) t276 t279 w0 _ hI_ hBs_ A6.out).mono ?_);rintro e w42 ⟨v277,rfl,ho0,hi,hb,hk⟩;refine⟨_,rfl,?_⟩;have HO278:=a0_ (Kd.R_lower ho0 (keep_size (w:=w) (g:=g) (row:=none) (hK_ HK)));replace HK:=kk_ HK hk;replace HB:=a0_ (hb);replace HI0:=a0_ (hi);(try clear ho0 hi hb hk)) | ((with_reducible refine gate_callee (f:=74) rfl ?_);refine gL_ (some 26) Tryd.func74 #[.pointer (some ⟨g,0,none⟩),.int .i64 12] (h:=?_);(with_reducible refine (spec_l6Rd_pick.calls k g s0_0 t279 12 t280 t281 w0 _ hI_ hBs_ A7.out).mono ?_);rintro e w43 ⟨rfl,hi,hb,hk⟩;refine⟨_,rfl,?_⟩;replace HO278:=a0_ (Kd.R_mono (Kd.R_keep (IsS123.apart (show IsS123 w0 _ g s0_0 t279 from hI_) (uR_ HO278) (by decide)) hk (fun _ h=>h.2)) (fun _ h=>h.1));replace HK:=kk_ HK hk;replace HB:=a0_ (hb);replace HI0:=a0_ (hi);(try clear hi hb hk)) | ((with_reducible refine gate_callee (f:=74) rfl ?_);refine gL_ (some 47) Tryd.func74 #[.pointer (some ⟨g,0,none⟩),.int .i64 6] (h:=?_);(with_reducible refine (spec_l6Rd_pick.calls k g s0_0 t281 6 t294 t295 w0 _ hI_ hBs_ A37.out).mono ?_);rintro e w44 ⟨rfl,hi,hb,hk⟩;refine⟨_,rfl,?_⟩;replace HO278:=a0_ (Kd.R_mono (Kd.R_keep (IsS123.apart (show IsS123 w0 _ g s0_0 t281 from hI_) (uR_ HO278) (by decide)) hk (fun _ h=>h.2)) (fun _ h=>h.1));replace HK:=kk_ HK hk;replace HB:=a0_ (hb);replace HI0:=a0_ (hi);(try clear hi hb hk)))
    go_loopg [6] k (fun kq v6 w'=>∃ (x5_1:List (S28)) (x6_1:Int) (x1001_1:Int),v6=.int .i64 x6_1∧Aside0 (spec_l71Loop.l0 kq x5_1 x6_1 s0_0 x1001_1=some (r1,r2))∧Aside0 (kq≤k)∧Aside0 (Kd.R k28 28 w' w.heap.size (fun _=>True) v277 x5_1)∧Aside0 (IsS123 w0 w' g s0_0 x1001_1)∧Aside0 (KeepBut w w' g none)∧Aside0 (Below w0.heap.size w0 w'))
    case atStart=>exact⟨(t276),(t294),(t295),(by first | rfl | (simp;done) | (simp [*];done)),H',⟨Nat.le_refl _⟩,⟨by (with_reducible repeat (first | apply Kd.R_alloc | apply Kd.R_drewN | apply Kd.R_drew));exact HO278.out⟩,⟨by repeat (first | (with_reducible first | exact HI0.out | apply IsS123.alloc | apply IsS123.drewN | apply IsS123.drew | apply IsS123.set_1) | exact HI0.out)⟩,⟨by repeat (first | (with_reducible first | exact HK.out | apply KeepBut.set_ | apply keep_drewN | apply keep_drew | apply keep_alloc) | exact HK.out)⟩,⟨by repeat (first | (with_reducible first | exact HB.out | apply below_alloc | apply pw_below_drewN | apply below_drew1 | refine below_set ?_ (IsS123.ge HI0.out)) | exact HB.out)⟩⟩
    case round =>
     clear H';obtain⟨x5_1,x6_1,x1001_1,rfl,HA,HK1,HO_5,HI0,HK,HB⟩:=hrel
     cases gk with
     | zero=>exact absurd HA.out (by simp [spec_l71Loop.l0])
     | succ k1 =>
      have H:=HA.out;clear HA;simp only [spec_l71Loop.l0] at H;by_cases c45:x6_1≥0
      ·
       rw [if_pos c45] at H;have c45b0:decide (0≤x6_1)=true:=decide_eq_true c45;clear c45;by_cases c46:(x5_1.length:Int)=0
       ·
        rw [if_pos c46] at H;exact absurd H (by simp)
       ·
        rw [if_neg c46] at H;have c46b0:((x5_1.length:Int)==0)=false:=beq_eq_false_iff_ne.mpr c46;have c46b1:((x5_1.length:Int) != 0)=true:=bne_iff_ne.mpr c46;have c46b2:¬ (x5_1=[]):=fun h_=>c46 (by rw [h_];rfl)
        replace H:=Option.bind_eq_some_iff.mp H;obtain⟨⟨t296,t297,t298⟩,A470,H⟩:=H
        (try dsimp only at H)
        have A47:=Aside0.mk A470;clear A470;obtain⟨ji48,hji48⟩:∃ j_:Int,(Int.tmod x6_1 (x5_1.length:Int))=j_:=⟨_,rfl⟩;replace H:(if 0≤(ji48) then (if (ji48)<(x5_1.length:Int) then (spec_l71Loop.l0 k1 (x5_1.set ((ji48):Int).toNat (⟨t296,t297⟩:S28)) (wrap64 (x6_1-1)) s0_0 t298) else (none)) else (none))=some (r1,r2):=by first | (rw [hji48] at H;exact H) | (simp only [hji48] at H ⊢;exact H)
        (try rw [hji48] at A47)
        by_cases c49:0≤(ji48)
        ·
         rw [if_pos c49] at H;have c49b0:decide (0≤(ji48))=true:=decide_eq_true c49;clear c49;by_cases c50:(ji48)<(x5_1.length:Int)
         ·
          rw [if_pos c50] at H;have c50b0:decide ((ji48)<(x5_1.length:Int))=true:=decide_eq_true c50;clear c50;obtain⟨y299,hy299⟩:∃ y_:List (S28),y_=(x5_1.set ((ji48):Int).toNat (⟨t296,t297⟩:S28)):=⟨_,rfl⟩;replace H:(spec_l71Loop.l0 k1 y299 (wrap64 (x6_1-1)) s0_0 t298)=some (r1,r2):=by first | (rw [hy299];with_reducible exact H) | (have H2_:=(Option.bind_some _ _).symm.trans H;rw [hy299];with_reducible exact H2_) | (have H2_:=(Option.bind_some _ _).symm.trans H;with_reducible exact H2_) | with_reducible exact H | (rw [hy299];exact H) | exact H
          have Ny299:=Aside0.mk hy299;clear hy299;have H':=Aside0.mk H;clear H
          try go_wp2
          replace HO_5:=a0_ (Kd.R_drew HO_5.out);replace HI0:=a0_ (IsS123.drew HI0.out);replace HK:=a0_ (keep_drew HK.out);replace HB:=a0_ (below_drew1 HB.out);obtain⟨Ao53,co53,eo53⟩:=Kd.R_slice HO_5.out
          (first | subst eo53 | (injection eo53 with f1_ f2_ f3_;have f4_:=f1_.symm;have f5_:=f3_.symm;clear f1_ f2_ f3_;subst f4_;subst f5_))
          refine start_ (n:=9) (S:=fun w'=>True) (ds:=[8]) (Array.replicate 9 false) (by kernel_rfl) rfl rfl trivial (fun hHeld=>?_);refine with_tabW spec_l71Loop.tab13 spec_l71Loop.bits13 (fun HT_ HW_=>?_);generalize wr.drew=w52 at HO_5 HI0 HK HB hHeld ⊢
          refine pu_ HT_ 0 52 (bm 9 1) ?_;refine pu_ HT_ 1 53 (bm 9 3) ?_;refine pu_ HT_ 2 54 (bm 9 7) ?_;refine pu_ HT_ 3 55 (bm 9 15) ?_;refine pu_ HT_ 4 56 (bm 9 31) ?_;refine pu_ HT_ 5 57 (bm 9 63) ?_;refine one_ (i:=6) (N:=some 58) (bm 9 127) rfl rfl (one_of HT_.out (by kernel_rfl)) (by decide) (fun K hK=>?_);refine goes_ Tryd.func51 (by kernel_rfl) rfl #[.pointer (some ⟨g,0,none⟩)] (by rfl) rfl rfl ma_ ?_
          with_reducible refine (spec_l71Pt.calls k1 g s0_0 x1001_1 t296 t297 t298 w0 _ hI_ hBs_ A47.out).mono ?_
          rintro e w54 ⟨rfl,hi,hb,hk⟩;refine⟨_,rfl,?_⟩;replace HO_5:=a0_ (Kd.R_mono (Kd.R_keep (IsS123.apart (show IsS123 w0 _ g s0_0 x1001_1 from hI_) (uR_ HO_5) (by decide)) hk (fun _ h=>h.2)) (fun _ h=>h.1));replace HK:=kk_ HK hk;replace HB:=a0_ (hb);replace HI0:=a0_ (hi)
          (try clear hb)
          (try clear hb2)
          (try clear hk)
          (try clear hi)
          have p51:0≤((ji48):Int):=od_;have q51:((ji48):Int)<((x5_1.length:Int):Int):=od_;obtain⟨go51,co51,eo51,gb51,gl51,cl51,HG51⟩:=Kd.R_form HO_5.out (by omega)
          (first | cases eo51 | (injection eo51 with ea_ en_ ec_;(first | subst ea_ | (injection ea_ with ea_;subst ea_));subst ec_;clear en_))
          have GB51:=Aside0.mk gb51;have GG51:=Aside0.mk HG51;clear gb51 gl51 HG51;obtain⟨ce51,hcl51,hM51,hcc51,hfr51⟩:=Kd.R_elem HO_5.out z28 ((ji48):Int) p51 q51;obtain rfl:=k28_openM hM51;have hx51_0:World.cell? _ ⟨go51,((ji48):Int).toNat*2,none⟩=some (.int .i64 ((rd_T28 x5_1 (ji48)).f0)):=hcc51 0 _ rfl;have hx51_1:World.cell? _ ⟨go51,((ji48):Int).toNat*2+1,none⟩=some (.int .i64 ((rd_T28 x5_1 (ji48)).f1)):=hcc51 1 _ rfl;have hf51_0:World.frozen? _ ⟨go51,((ji48):Int).toNat*2,none⟩=false:=hfr51 0;have hf51_1:World.frozen? _ ⟨go51,((ji48):Int).toNat*2+1,none⟩=false:=hfr51 1;clear hcl51 hcc51 hfr51;(try clear hM51);replace p51:=eq_true p51;replace q51:=eq_true q51;have HN0_go51:=a0_ (show g≠go51 from by have h_:=IsS123.own_ne HI0.out HO_5.out (by decide);intro e_;exact h_ (by rw [e_];rfl));obtain⟨ce55,hcl55,hM55,hcc55,hfr55⟩:=Kd.R_elem HO_5.out z28 ((ji48):Int) (od_) (by have h_:((ji48):Int)<((x5_1.length:Int):Int):=od_;first | exact h_ | (have e_:=(Kd.R_reads' HO_5.out).1;omega) | simpa using h_);obtain rfl:=k28_openM hM55;have HP55:=(Kd.R_seg HO_5.out ((ji48):Int) (od_) (by have h_:((ji48):Int)<((x5_1.length:Int):Int):=od_;first | exact h_ | (have e_:=(Kd.R_reads' HO_5.out).1;omega) | simpa using h_) (seg:=[.int .i64 t296,.int .i64 t297]) (j:=0) hcl55 hcc55 (show 2≤2 from by decide) (x':=(⟨t296,t297⟩:S28)) (k28_mkM _ _ _ (⟨t296,t297⟩:S28) ) (fun _ hk=>hk)).1;rw [← Ny299.out] at HP55;have HQ55:=Aside0.mk HP55;clear hcl55 hcc55 hfr55 HP55;(try clear hM55);refine hK.out _ _ trivial (fun hHeld=>?_);clear hK K;refine no_ (h:=?_);refine pu_ HT_ 7 59 (bm 9 255) ?_;refine last_ (i:=8) (N:=none) (bm 9 511) rfl rfl (one_of HT_.out (by kernel_rfl)) (by decide) (fun K hK=>?_);refine skip_ (w1:=?_) (by rfl) rfl ?_ ?_;rotate_left
          ·
           go_simp;rfl
          refine hK.out _ _ ?_;clear hK K;refine done_ (done_of HT_.out (by kernel_rfl)) ?_
          try go_wp2
          go_roundg k1
          case measure=>have:=HK1.out;omega
          case rel=>exact⟨(y299),(wrap64 (x6_1-1)),(t298),(by first | rfl | (simp;done) | (simp [*];done)),H',⟨by have:=HK1.out;omega⟩,⟨by (with_reducible repeat (first | apply Kd.R_alloc | apply Kd.R_drewN | apply Kd.R_drew));exact HQ55.out⟩,⟨by repeat (first | (with_reducible first | exact HI0.out | apply IsS123.alloc | apply IsS123.drewN | apply IsS123.drew | apply IsS123.set_1 | refine IsS123.far ?_ HN0_go51.out _ | refine IsS123.far ?_ HN0_go51.out _) | exact HI0.out)⟩,⟨by repeat (first | (with_reducible first | exact HK.out | apply KeepBut.set_ | apply keep_drewN | apply keep_drew | apply keep_alloc | refine keep_far ?_ GB51.out _ | refine keep_far ?_ GB51.out _) | exact HK.out)⟩,⟨by repeat (first | (with_reducible first | exact HB.out | apply below_alloc | apply pw_below_drewN | apply below_drew1 | refine below_set ?_ (Nat.le_trans HL.out GB51.out) | refine below_set ?_ (Nat.le_trans HL.out GB51.out) | refine below_set ?_ (IsS123.ge HI0.out)) | exact HB.out)⟩⟩
         ·
          rw [if_neg c50] at H;exact absurd H (by simp)
        ·
         rw [if_neg c49] at H;exact absurd H (by simp)
      ·
       rw [if_neg c45] at H;have c45b0:decide (0≤x6_1)=false:=decide_eq_false c45;clear c45;simp only [Option.some.injEq,Prod.mk.injEq] at H;obtain⟨rfl,rfl⟩:=H;go_wp2;go_ret;exact⟨_,rr_,by (with_reducible repeat (first | apply Kd.R_alloc | apply Kd.R_drewN | apply Kd.R_drew));exact HO_5.out,by repeat (first | (with_reducible first | exact HI0.out | apply IsS123.alloc | apply IsS123.drewN | apply IsS123.drew | apply IsS123.set_1) | exact HI0.out),by repeat (first | (with_reducible first | exact HB.out | apply below_alloc | apply pw_below_drewN | apply below_drew1 | refine below_set ?_ (IsS123.ge HI0.out)) | exact HB.out),by repeat (first | (with_reducible first | exact HK.out | apply KeepBut.set_ | apply keep_drewN | apply keep_drew | apply keep_alloc) | exact HK.out)⟩
   ·
    rw [if_neg c36] at H;have c36b0:(t280==2)=false:=beq_eq_false_iff_ne.mpr c36;have c36b1:(t280 != 2)=true:=bne_iff_ne.mpr c36;simp only [Option.some.injEq,Prod.mk.injEq] at H;obtain⟨rfl,rfl⟩:=H;go_enter Tryd.func92,Tryd.ntmps92
    go_wp2_with (first | ((with_reducible refine gate_callee (f:=74) rfl ?_);refine gL_ (some 8) Tryd.func74 #[.pointer (some ⟨g,0,none⟩),.int .i64 5] (h:=?_);(with_reducible refine (spec_l6Rd_pick.calls k g s0_0 s0_1 5 t268 t269 w0 _ hI_ hBs_ A2.out).mono ?_);rintro e w56 ⟨rfl,hi,hb,hk⟩;refine⟨_,rfl,?_⟩;replace HK:=kk_ HK hk;replace HB:=a0_ (hb);replace HI0:=a0_ (hi);(try clear hi hb hk)) | ((with_reducible refine gate_callee (f:=74) rfl ?_);refine gL_ (some 10) Tryd.func74 #[.pointer (some ⟨g,0,none⟩),.int .i64 5] (h:=?_);(with_reducible refine (spec_l6Rd_pick.calls k g s0_0 t269 5 t270 t271 w0 _ hI_ hBs_ A3.out).mono ?_);rintro e w57 ⟨rfl,hi,hb,hk⟩;refine⟨_,rfl,?_⟩;replace HK:=kk_ HK hk;replace HB:=a0_ (hb);replace HI0:=a0_ (hi);(try clear hi hb hk)) | ((with_reducible refine gate_callee (f:=74) rfl ?_);refine gL_ (some 17) Tryd.func74 #[.pointer (some ⟨g,0,none⟩),.int .i64 (wrap64 (9-t268))] (h:=?_);(with_reducible refine (spec_l6Rd_pick.calls k g s0_0 t271 (wrap64 (9-t268)) t272 t273 w0 _ hI_ hBs_ A4.out).mono ?_);rintro e w58 ⟨rfl,hi,hb,hk⟩;refine⟨_,rfl,?_⟩;replace HK:=kk_ HK hk;replace HB:=a0_ (hb);replace HI0:=a0_ (hi);(try clear hi hb hk)) | ((with_reducible refine gate_callee (f:=74) rfl ?_);refine gL_ (some 22) Tryd.func74 #[.pointer (some ⟨g,0,none⟩),.int .i64 (wrap64 (9-t270))] (h:=?_);(with_reducible refine (spec_l6Rd_pick.calls k g s0_0 t273 (wrap64 (9-t270)) t274 t275 w0 _ hI_ hBs_ A5.out).mono ?_);rintro e w59 ⟨rfl,hi,hb,hk⟩;refine⟨_,rfl,?_⟩;replace HK:=kk_ HK hk;replace HB:=a0_ (hb);replace HI0:=a0_ (hi);(try clear hi hb hk)) | ((with_reducible refine gate_callee (f:=110) rfl ?_);refine gL_ (some 24) Tryd.func110 #[.pointer (some ⟨g,0,none⟩),.int .i64 t268,.int .i64 t270,.int .i64 (wrap64 (1+t272)),.int .i64 (wrap64 (1+t274))] (h:=?_);(with_reducible refine (spec_l71Box.calls k g s0_0 t275 t268 t270 (wrap64 (1+t272)) (wrap64 (1+t274)) t276 t279 w0 _ hI_ hBs_ A6.out).mono ?_);rintro e w60 ⟨v277,rfl,ho0,hi,hb,hk⟩;refine⟨_,rfl,?_⟩;have HO278:=a0_ (Kd.R_lower ho0 (keep_size (w:=w) (g:=g) (row:=none) (hK_ HK)));replace HK:=kk_ HK hk;replace HB:=a0_ (hb);replace HI0:=a0_ (hi);(try clear ho0 hi hb hk)) | ((with_reducible refine gate_callee (f:=74) rfl ?_);refine gL_ (some 26) Tryd.func74 #[.pointer (some ⟨g,0,none⟩),.int .i64 12] (h:=?_);(with_reducible refine (spec_l6Rd_pick.calls k g s0_0 t279 12 t280 t281 w0 _ hI_ hBs_ A7.out).mono ?_);rintro e w61 ⟨rfl,hi,hb,hk⟩;refine⟨_,rfl,?_⟩;replace HO278:=a0_ (Kd.R_mono (Kd.R_keep (IsS123.apart (show IsS123 w0 _ g s0_0 t279 from hI_) (uR_ HO278) (by decide)) hk (fun _ h=>h.2)) (fun _ h=>h.1));replace HK:=kk_ HK hk;replace HB:=a0_ (hb);replace HI0:=a0_ (hi);(try clear hi hb hk)))
    go_ret;exact⟨_,rr_,by (with_reducible repeat (first | apply Kd.R_alloc | apply Kd.R_drewN | apply Kd.R_drew));exact HO278.out,by repeat (first | (with_reducible first | exact HI0.out | apply IsS123.alloc | apply IsS123.drewN | apply IsS123.drew | apply IsS123.set_1) | exact HI0.out),by repeat (first | (with_reducible first | exact HB.out | apply below_alloc | apply pw_below_drewN | apply below_drew1 | refine below_set ?_ (IsS123.ge HI0.out)) | exact HB.out),by repeat (first | (with_reducible first | exact HK.out | apply KeepBut.set_ | apply keep_drewN | apply keep_drew | apply keep_alloc) | exact HK.out)⟩
end Go.Proofs.YtkefmnmoaomlhaaDoor.X
end
section
set_option linter.unusedVariables false
set_option linter.unusedSimpArgs false
namespace Go.Proofs.YtkefmnmoaomlhaaDoor.X
open Go.RowKit Go.Proofs.YtkefmnmoaomlhaaDoorW.PrintWords Go.Proofs.YtkefmnmoaomlhaaDoorW.PrintLast Go.Proofs.YtkefmnmoaomlhaaDoorW.PrintMore
def Tells {α:Type}(K:Nat)(f:Nat→Option α)(P:α→Prop):Prop:=∃ a,(∀ k,K≤k→f k=some a)∧P a
namespace Tells
variable {α β:Type} {K:Nat} {P:α→Prop} {Q:β→Prop}
theorem bind {f:Nat→Option α}{g:α→Nat→Option β}(h:Tells K f P)(hg:∀ a,P a→Tells K (g a) Q):Tells K (fun k=>(f k).bind fun a=>g a k) Q:=by
 obtain⟨a,h1,h2⟩:=h;obtain⟨b,h3,h4⟩:=hg a h2;exact⟨b,fun k hk=>by show (f k).bind _=_;rw [h1 k hk,Option.bind_some,h3 k hk],h4⟩
theorem ret (a:α)(h:P a):Tells K (fun _=>some a) P:=⟨a,fun _ _=>rfl,h⟩
theorem ite {c:Prop}[Decidable c]{f g:Nat→Option α}(h1:c→Tells K f P)(h2:¬ c→Tells K g P):Tells K (fun k=>if c then f k else g k) P:=by
 by_cases h:c
 ·
  obtain⟨a,e,p⟩:=h1 h;exact⟨a,fun k hk=>by show (if c then _ else _)=_;rw [if_pos h,e k hk],p⟩
 ·
  obtain⟨a,e,p⟩:=h2 h;exact⟨a,fun k hk=>by show (if c then _ else _)=_;rw [if_neg h,e k hk],p⟩
theorem guard {c:Prop}[Decidable c]{f:Nat→Option α}(h:c)(h1:Tells K f P):Tells K (fun k=>if c then f k else none) P:=ite (fun _=>h1) (fun n=>absurd h n)
theorem nay {c:Prop}[Decidable c]{f:Nat→Option α}(h:¬ c)(h1:Tells K f P):Tells K (fun k=>if c then none else f k) P:=ite (fun n=>absurd n h) (fun _=>h1)
theorem up {K':Nat}{f:Nat→Option α}(hk:K≤K')(h:Tells K f P):Tells K' f P:=by
 obtain⟨a,e,p⟩:=h;exact⟨a,fun k hk'=>e k (by omega),p⟩
theorem mono {P':α→Prop}{f:Nat→Option α}(h:Tells K f P)(hp:∀ a,P a→P' a):Tells K f P':=by
 obtain⟨a,e,p⟩:=h;exact⟨a,e,hp a p⟩
theorem succ {f g:Nat→Option α}(hf:∀ k,f (k+1)=g k)(h:Tells K g P):Tells (K+1) f P:=by
 obtain⟨a,e,p⟩:=h;refine⟨a,fun k hk=>?_,p⟩;obtain⟨k,rfl⟩:∃ q,k=q+1:=⟨k-1,by omega⟩;rw [hf,e k (by omega)]
theorem same {f g:Nat→Option α}(hf:∀ k,f k=g k)(h:Tells K g P):Tells K f P:=by
 obtain⟨a,e,p⟩:=h;exact⟨a,fun k hk=>by rw [hf,e k hk],p⟩
end Tells
section
variable {l:List Int} (hl:Bytes l)
include hl
theorem tPick {K:Nat}(hK:1≤K){p n:Int}(hp:0≤p)(hp':p≤1000000)(hn:1≤n)(hn':n≤1000000):Tells K (fun k=>spec_l6Rd_pick.f k l p n) fun a=>0≤a.1∧a.1<n∧a.2=p+1:=by
 obtain⟨r,h1,h2,h3⟩:=pick_told hl hp hp' hn hn';exact⟨(r,p+1),fun k hk=>h1 k (by omega),h2,h3,rfl⟩
theorem tPt {K:Nat}(hK:1≤K){p:Int}(hp:0≤p)(hp':p≤900000):Tells K (fun k=>spec_l71Pt.f k l p) fun a=>p≤a.2.2∧a.2.2≤p+10:=by
 unfold spec_l71Pt.f;refine Tells.bind (tPick hl hK hp (by omega) (by omega) (by omega)) ?_;rintro⟨r1,q1⟩ ⟨a1,b1,c1⟩;simp only at a1 b1 c1 ⊢
 refine Tells.bind (tPick hl hK (by omega) (by omega) (by omega) (by omega)) ?_;rintro⟨r2,q2⟩ ⟨a2,b2,c2⟩;simp only at a2 b2 c2 ⊢
 refine Tells.bind (tPick hl hK (by omega) (by omega) (by omega) (by omega)) ?_;rintro⟨r3,q3⟩ ⟨a3,b3,c3⟩;simp only at a3 b3 c3 ⊢
 refine Tells.ite (fun h=>?_) (fun h=>Tells.ite (fun h'=>?_) (fun h'=>?_))
 ·
  refine Tells.bind (Tells.ret (P:=fun a=>a=[(-1),10]) _ rfl) ?_;rintro y rfl;refine Tells.bind (tPick hl hK (by omega) (by omega) (by omega) (by omega)) ?_;rintro⟨r4,q4⟩ ⟨a4,b4,c4⟩;simp only at a4 b4 c4 ⊢
  exact Tells.guard (by omega) (Tells.guard (by simpa using b4) (Tells.ret _ (by simp only;omega)))
 ·
  refine Tells.bind (Tells.ret (P:=fun a=>a=[(-1),10]) _ rfl) ?_;rintro y rfl;refine Tells.bind (tPick hl hK (by omega) (by omega) (by omega) (by omega)) ?_;rintro⟨r4,q4⟩ ⟨a4,b4,c4⟩;simp only at a4 b4 c4 ⊢
  exact Tells.guard (by omega) (Tells.guard (by simpa using b4) (Tells.ret _ (by simp only;omega)))
 ·
  exact Tells.ret _ (by simp only;omega)
theorem tBox {K:Nat}(hK:1≤K){p a1 a2 a3 a4:Int}(hp:0≤p)(hp':p≤900000):Tells K (fun k=>spec_l71Box.f k l p a1 a2 a3 a4) fun a=>(3≤a.1.length∧a.1.length≤6)∧p≤a.2∧a.2≤p+10:=by
 unfold spec_l71Box.f;refine Tells.bind (Tells.ret (P:=fun a=>a.length=4) _ rfl) ?_;intro y hy;have hy':(y.length:Int)=4:=by omega
 refine Tells.bind (tPick hl hK hp (by omega) (by omega) (by omega)) ?_;rintro⟨r1,q1⟩ ⟨a1,b1,c1⟩;simp only at a1 b1 c1 ⊢
 rw [hy']
 repeat' first
  | (refine Tells.ret _ ⟨⟨?_,?_⟩,?_,?_⟩ <;> first | omega | (simp;done) | (simp [hy];done) | (simp only [List.length_take];omega))
  | (refine Tells.guard (by omega) ?_)
  | (refine Tells.ite (fun _=>?_) (fun _=>?_))
theorem tLoopL {K:Nat}(hK:1≤K):∀ (m:Nat) (z:List S28) (i p:Int),i<m → -1≤i→i≤100→3≤z.length→z.length≤1000→0≤p→p+10*m≤900000→Tells (K+m+1) (fun k=>spec_l71Loop.l0 k z i l p) fun a=>a.1.length=z.length∧p≤a.2∧a.2≤p+10*m:=by
 intro m
 induction m with
 | zero =>
  intro z i p hm hi hi' hz hz' hp hp';refine Tells.succ (fun k=>by simp only [spec_l71Loop.l0];exact rfl) ?_;exact Tells.ite (fun h=>by omega) (fun _=>Tells.ret _ ⟨rfl,Int.le_refl _,by show p≤p+10*_;omega⟩)
 | succ m ih =>
  intro z i p hm hi hi' hz hz' hp hp';refine Tells.succ (K:=K+(m+1)) (fun k=>by simp only [spec_l71Loop.l0];exact rfl) ?_;refine Tells.ite (fun h=>?_) (fun _=>Tells.ret _ ⟨rfl,Int.le_refl _,by show p≤p+10*_;omega⟩);refine Tells.nay (by omega) ?_;refine Tells.bind (tPt hl (by omega) hp (by omega)) ?_;rintro⟨x,y,q⟩ ⟨h1,h2⟩;simp only at h1 h2 ⊢
  have t1:0≤Int.tmod i z.length:=Int.tmod_nonneg _ (by omega);have t2:Int.tmod i z.length<z.length:=Int.tmod_lt_of_pos _ (by omega);refine Tells.guard t1 (Tells.guard t2 ?_);refine Tells.mono (ih _ (wrap64 (i-1)) q (by unfold wrap64;omega) (by unfold wrap64;omega) (by unfold wrap64;omega) (by rw [List.length_set];omega) (by rw [List.length_set];omega) (by omega) (by omega)) ?_;rintro⟨b,u⟩ ⟨g1,g2,g3⟩;rw [List.length_set] at g1;simp only at g1 g2 g3 ⊢
  omega
theorem tLoop {K:Nat}(hK:20≤K){p:Int}(hp:0≤p)(hp':p≤800000):Tells K (fun k=>spec_l71Loop.f k l p) fun a=>a.1.length≤100∧p≤a.2∧a.2≤p+200:=by
 unfold spec_l71Loop.f;refine Tells.bind (tPick hl (by omega) hp (by omega) (by omega) (by omega)) ?_;rintro⟨r1,q1⟩ ⟨a1,b1,c1⟩;simp only at a1 b1 c1 ⊢
 refine Tells.bind (tPick hl (by omega) (by omega) (by omega) (by omega) (by omega)) ?_;rintro⟨r2,q2⟩ ⟨a2,b2,c2⟩;simp only at a2 b2 c2 ⊢
 refine Tells.bind (tPick hl (by omega) (by omega) (by omega) (by unfold wrap64;omega) (by unfold wrap64;omega)) ?_;rintro⟨r3,q3⟩ ⟨a3,b3,c3⟩;simp only at a3 b3 c3 ⊢
 refine Tells.bind (tPick hl (by omega) (by omega) (by omega) (by unfold wrap64;omega) (by unfold wrap64;omega)) ?_;rintro⟨r4,q4⟩ ⟨a4,b4,c4⟩;simp only at a4 b4 c4 ⊢
 refine Tells.bind (tBox hl (by omega) (by omega) (by omega)) ?_;rintro⟨z,q5⟩ ⟨⟨a5,b5⟩,c5,d5⟩;simp only at a5 b5 c5 d5 ⊢
 refine Tells.bind (tPick hl (by omega) (by omega) (by omega) (by omega) (by omega)) ?_;rintro⟨r6,q6⟩ ⟨a6,b6,c6⟩;simp only at a6 b6 c6 ⊢
 refine Tells.ite (fun _=>?_) (fun _=>Tells.ite (fun _=>?_) (fun _=>Tells.ite (fun _=>?_) (fun _=>?_)))
 ·
  refine Tells.bind (tPt hl (by omega) (by omega) (by omega)) ?_;rintro⟨x,y,q⟩ ⟨h1,h2⟩;simp only at h1 h2 ⊢
  exact Tells.guard (by omega) (Tells.ret _ (by simp only [List.length_append,List.length_cons,List.length_nil];omega))
 ·
  refine Tells.bind (tPick hl (by omega) (by omega) (by omega) (by omega) (by omega)) ?_;rintro⟨r7,q7⟩ ⟨a7,b7,c7⟩;simp only at a7 b7 c7 ⊢
  refine Tells.bind (tPt hl (by omega) (by omega) (by omega)) ?_;rintro⟨x,y,q⟩ ⟨h1,h2⟩;simp only at h1 h2 ⊢
  exact Tells.guard (by omega) (Tells.guard (by omega) (Tells.ret _ (by simp only [List.length_set];omega)))
 ·
  refine Tells.bind (tPick hl (by omega) (by omega) (by omega) (by omega) (by omega)) ?_;rintro⟨r7,q7⟩ ⟨a7,b7,c7⟩;simp only at a7 b7 c7 ⊢
  refine Tells.up (K:=1+7+1) (by omega) (Tells.mono (tLoopL hl (K:=1) (by omega) 7 z r7 q7 (by omega) (by omega) (by omega) (by omega) (by omega) (by omega) (by omega)) ?_);rintro⟨b,u⟩ ⟨g1,g2,g3⟩;simp only at g1 g2 g3 ⊢
  omega
 ·
  exact Tells.ret _ (by simp only;omega)
end
end Go.Proofs.YtkefmnmoaomlhaaDoor.X
end
