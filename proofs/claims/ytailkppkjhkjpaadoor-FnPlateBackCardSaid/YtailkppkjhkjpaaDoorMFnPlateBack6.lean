/- FnPlateBack: the law returns true for every input, and each input reads behind the call as before; part 6 of 6. No condition. Merged by program out of: HPText, FLawsFnPlateBack, EvLoop, EvPlate, EvPlateS, EvDraws, EvText, EvRead, PureFnPlateBack, WSized, LawFnPlateBack. -/
import Derived.Test.YtailkppkjhkjpaaDoorMFnPlateBack5
import Derived.SizedLaws
import Derived.ChangeSlices
import Derived.WalkKit
import Derived.ProofKit
import Derived.OpenShut
import Derived.ShutString
import Derived.ChangeOld
import Derived.Below
import Derived.SevenTiedAt
set_option linter.all false
section
set_option linter.unusedVariables false
set_option linter.unusedSimpArgs false
namespace Go.Proofs.YtailkppkjhkjpaaDoor.X
open Go.RowKit Go.Shelf Go.Proofs.YtailkppkjhkjpaaDoorW.PrintWords Go.Proofs.YtailkppkjhkjpaaDoorW.PrintLast Go.Proofs.YtailkppkjhkjpaaDoorW.PrintMore
open Mort (ptOk loopOk)
open Txt (wrLoop wrLines)
theorem builder_below {T e:TypeId}{B b:Nat}{p:Value}{bs:List Value}{w w':World}(h:Lib.BuilderAtF T e B b p bs w)(hb:Below w.heap.size w w'):Lib.BuilderAtF T e B b p bs w':=by
 obtain⟨h1,v,h2,⟨h3,h4⟩,h5⟩:=h;refine⟨h1,v,blk_below h2 hb,⟨h3,?_⟩,h5⟩
 rcases h4 with h4 | ⟨g,cap,cur,fz,e1,e2,e3,e4⟩
 ·
  exact .inl h4
 ·
  exact .inr ⟨g,cap,cur,fz,e1,e2,blk_below e3 hb,e4⟩
theorem isBuilder_below {T e:TypeId}{B b:Nat}{bs:List Value}{w w':World}(h:Lib.IsBuilderF T e B b bs w)(hb:Below w.heap.size w w'):Lib.IsBuilderF T e B b bs w':=
 h.elim (fun k=>.inl (builder_below k hb)) (fun k=>.inr (builder_below k hb))
theorem isBuilder_used {T e:TypeId}{B b:Nat}{bs:List Value}{w:World}(h:Lib.BuilderAtF T e B b (.pointer (some ⟨b,0,none⟩)) bs w):Lib.IsBuilderF T e B b bs w:=Or.inr h
def linesOf (ls:List (List S37)):List UInt8:=wrLines (ls.map (List.map ptP))
theorem linesOf_snoc (ls:List (List S37))(z:List S37):linesOf (ls++[z])=linesOf ls++(textOf z).data.toList++[10]:=by
 unfold linesOf wrLines textOf;simp
theorem textOf_len {z:List S37}(h0:0<z.length)(h8:z.length≤8):(textOf z).size≤31:=by
 unfold textOf
 show (wrLoop (z.map ptP)).toArray.size≤31
 cases z with
 | nil=>simp at h0
 | cons p ps =>
  rw [List.map_cons,List.size_toArray,Txt.loop_len,List.length_map];rw [List.length_cons] at h8;omega
def impl_PlateText.f (l0_0:List S37)(l0_1:List (List S37)):Option ByteArray:=some (if bodyOkB l0_0 l0_1 then ⟨(linesOf (l0_0::l0_1)).toArray⟩ else ⟨#[]⟩)
theorem loop_ptOk {l:List Mort.Pt}(h:loopOk l=true):∀ p∈l,ptOk p=true:=by
 intro p hp;rw [← Mort.edges_fst l] at hp;obtain⟨e,he,rfl⟩:=List.mem_map.1 hp;exact ((Mort.segOk_iff _).1 (((Mort.loopOk_iff _).1 h).2.2.1 e he)).1
theorem lines_len:∀ (ls:List (List S37)),(∀ z∈ls,0<z.length∧z.length≤8)→(linesOf ls).length≤32*ls.length
 | [],_=>by simp [linesOf,wrLines]
 | z::ls,h=>by
  have ih:=lines_len ls (fun y hy=>h y (List.mem_cons_of_mem _ hy));have hz:=textOf_len (h z (by simp)).1 (h z (by simp)).2;have e:linesOf (z::ls)=(textOf z).data.toList++[10]++linesOf ls:=by simp [linesOf,wrLines,textOf]
  rw [e];have e2:(textOf z).data.toList.length=(textOf z).size:=by rw [Array.length_toList];rfl
  simp only [List.length_append,List.length_cons,List.length_nil];omega
theorem loop_pts {z:List S37}(h:loopOk (z.map ptP)=true):impl_pointsText.f z=some (textOf z):=by
 have hl:=loop_len h;unfold impl_pointsText.f;rw [if_pos];rw [Bool.and_eq_true,Bool.and_eq_true,decide_eq_true_eq,decide_eq_true_eq];refine⟨⟨by omega,by omega⟩,?_⟩;unfold allPts;rw [List.all_eq_true];intro p hp;exact loop_ptOk h _ (List.mem_map_of_mem hp)
set_option maxHeartbeats 4000000 in
set_option maxRecDepth 100000 in
theorem impl_PlateText.calls (A0_0:Option Addr)(c0_0:Nat)(l0_0:List S37)(A0_1:Option Addr)(c0_1:Nat)(l0_1:List (List S37))(r:ByteArray)(w:World)(hr0_0:Kd.C k37 w A0_0 l0_0.length l0_0)(hc0_0:l0_0.length≤c0_0)(hr0_1:Kd.C (Kd.slice 37 k37) w A0_1 l0_1.length l0_1)(hc0_1:l0_1.length≤c0_1)(h:impl_PlateText.f l0_0 l0_1=some r):
  Calls Tryd.prog 7 #[.agg #[.slice A0_0 l0_0.length c0_0,.slice A0_1 l0_1.length c0_1]] w fun e w'=>e=.returned (.string r)∧Below w.heap.size w w':=by
 have hu26:=Tryd.underlying26;have hb:(if bodyOkB l0_0 l0_1 then (⟨(linesOf (l0_0::l0_1)).toArray⟩:ByteArray) else ⟨#[]⟩)=r:=Option.some.inj h;clear h;have hal:=below_alloc (Below.refl w.heap.size w) (.cells #[.slice A0_0 l0_0.length c0_0,.slice A0_1 l0_1.length c0_1] 26);have HK:=a0_ (And.intro (Kd.C_below hr0_0 hal) (And.intro hc0_0 (And.intro (Kd.C_below hr0_1 hal) (And.intro hc0_1 hal))));clear hr0_0 hc0_0 hr0_1 hc0_1 hal
 cases hk:bodyOkB l0_0 l0_1 with
 | false =>
  rw [hk,if_neg (by decide)] at hb;subst hb;have HB:=Aside0.mk hk;clear hk;go_enter Tryd.func7,Tryd.ntmps7;go_wp2_with (go_at_call 24;refine (bodyOf_calls A0_0 c0_0 l0_0 A0_1 c0_1 l0_1 false _ HK.out.1 HK.out.2.1 HK.out.2.2.1 HK.out.2.2.2.1 HB.out).mono ?_;rintro e w1 ⟨_,hN⟩;obtain⟨rfl,hb1⟩:=hN rfl);go_ret;exact⟨rfl,below_step HK.out.2.2.2.2 hb1⟩
 | true =>
  rw [hk,if_pos rfl] at hb;have HB:=a0_ (And.intro hk hb);clear hk hb;go_enter Tryd.func7,Tryd.ntmps7;go_wp2_with (go_at_call 24;refine (bodyOf_calls A0_0 c0_0 l0_0 A0_1 c0_1 l0_1 true _ HK.out.1 HK.out.2.1 HK.out.2.2.1 HK.out.2.2.2.1 HB.out.1).mono ?_;rintro e w1 ⟨hN,_⟩;obtain⟨b,bs,v,rfl,hBA,hcell,hR,hb1⟩:=hN rfl;have HBA:=a0_ (And.intro hBA hb1);clear hBA hR hcell hb1);clear hN;have hg0:=Lib.IsBuilderF.of (Lib.fresh_isBuilder 52 5 w1);have hRG:RingsAt w1 (some ⟨b,0,none⟩) (l0_0::l0_1):=by
   obtain⟨A1,c1,h1⟩:=HBA.out.1.outer;exact⟨b,A1,c1,_,rfl,h1,HBA.out.1.holes.at _ 0 rfl⟩
  have hB1:=below_alloc (Below.refl _ w1) (.cells #[.pointer none,.slice none 0 0] 52);have hlp:∀ z∈l0_0::l0_1,loopOk (z.map ptP)=true:=by
   obtain⟨_,h1,h2,_⟩:=(bodyOkB_iff _ _).1 HB.out.1;intro z hz
   rcases List.mem_cons.1 hz with rfl | hz
   ·
    exact h1
   ·
    exact h2 z hz
  have hln:l0_1.length≤2:=((bodyOkB_iff _ _).1 HB.out.1).1;obtain⟨g,hg⟩:∃ g,w1.heap.size=g:=⟨_,rfl⟩;rw [hg] at hg0;have HG:=a0_ (And.intro hg (And.intro hg0 (And.intro hRG (And.intro hB1 (And.intro hlp hln)))));rw [hg];clear hg hg0 hRG hB1 hlp hln;generalize w1.alloc (.cells #[.pointer none,.slice none 0 0] 52)=W1 at *;go_loopg [6] (l0_0::l0_1).length (fun kq v6 wr=>∃ (p:Option Addr) (rest done:List (List S37)),v6=.pointer p∧Aside0 (kq=rest.length∧RingsAt w1 p rest∧done++rest=l0_0::l0_1∧Lib.IsBuilderF 52 5 g g (Lib.byteCells (linesOf done)) wr∧Below w1.heap.size w1 wr))
  case atStart=>exact⟨_,l0_0::l0_1,[],rfl,⟨rfl,HG.out.2.2.1,rfl,HG.out.2.1,HG.out.2.2.2.1⟩⟩
  case round =>
   obtain⟨p,rest,done,rfl,HR⟩:=hrel;have hsz:g≤wr.heap.size:=by have:=HR.out.2.2.2.2.size;have:=HG.out.1;omega
   cases rest with
   | nil =>
    obtain rfl:p=none:=HR.out.2.1;have hd:done=l0_0::l0_1:=by have:=HR.out.2.2.1;rwa [List.append_nil] at this
    have HD:=a0_ (And.intro hd hsz);clear hd hsz;go_wp2_with (go_at_call 28;(with_reducible refine (Tryd.Builder_String_any_k g g (linesOf done) _ HR.out.2.2.2.1 HD.out.2).mono ?_);rintro e w3 ⟨rfl,_,hb3,_⟩;have H3:=Aside0.mk hb3;clear hb3);go_ret;refine⟨?_,below_step HK.out.2.2.2.2 (below_step HBA.out.2 (HR.out.2.2.2.2.trans (HG.out.1.symm▸H3.out)))⟩;rw [HD.out.1,HB.out.2];rfl
   | cons z rest =>
    obtain⟨b1,A1,c1,n1,rfl,hz,hrest⟩:=HR.out.2.1;have z1:=pw_cell_below HR.out.2.2.2.2 hz.pts;have z2:=pw_cell_below HR.out.2.2.2.2 hz.nxt;have hu55:=Tryd.underlying55;have hzo:=HG.out.2.2.2.2.1 z (by rw [← HR.out.2.2.1];simp);have hlz:=loop_len hzo;have hdl:done.length+rest.length+1≤3:=by
     have:=congrArg List.length HR.out.2.2.1;have h2:=HG.out.2.2.2.2.2;simp only [List.length_append,List.length_cons] at this;omega
    have hdn:(Lib.byteCells (linesOf done)).length≤96:=by
     rw [Lib.byteCells_length];refine Nat.le_trans (lines_len done (fun y hy=>?_)) (by omega);have:=loop_len (HG.out.2.2.2.2.1 y (by rw [← HR.out.2.2.1];simp [hy]));omega
    have htl:=textOf_len (z:=z) (by omega) hlz.2;have hl3:(Lib.byteCells (linesOf done)++Lib.strCells (textOf z)).length+1≤140737488355328:=by
     have e2:(textOf z).data.toList.length=(textOf z).size:=by rw [Array.length_toList];rfl
     rw [List.length_append,Lib.strCells_eq,Lib.byteCells_length (textOf z).data.toList,e2];omega
    have HL3:=Aside0.mk hl3;have HZ5:=Aside0.mk HR.out.2.2.2.2.size;have HZ:=a0_ (And.intro hz (And.intro hrest (And.intro hzo (And.intro hdn (And.intro htl hsz)))));clear hz hrest hzo hlz hdl hdn htl hsz hl3
    go_wp2_with (first
     | (go_at_call 26;(with_reducible refine (impl_pointsText.calls A1 c1 z (textOf z) _ (HZ.out.1.later HR.out.2.2.2.2).row (HZ.out.1.later HR.out.2.2.2.2).cap (loop_pts HZ.out.2.2.1)).mono ?_);rintro e w2 ⟨rfl,hb2⟩;have H2:=Aside0.mk hb2;clear hb2)
     | (go_at_call 25;(with_reducible refine (Tryd.Builder_WriteString_k g g _ (textOf z) _ (isBuilder_below HR.out.2.2.2.1 H2.out) (by have:=HZ.out.2.2.2.1;have:=HZ.out.2.2.2.2.1;omega) (Nat.le_trans HZ.out.2.2.2.2.2 H2.out.size)).mono ?_);rintro e w3 ⟨rfl,hB3,hb3,_⟩;have H3:=a0_ (And.intro hB3 hb3);clear hB3 hb3)
     | (go_at_call 27;(with_reducible refine (Tryd.Builder_WriteByte_k g g _ 10 _ (isBuilder_used H3.out.1) HL3.out (Nat.le_trans (Nat.le_trans HZ.out.2.2.2.2.2 H2.out.size) H3.out.2.size)).mono ?_);rintro e w4 ⟨rfl,hB4,hb4,_⟩;have q4:Below w1.heap.size w1 w4:=HR.out.2.2.2.2.trans ((H2.out.mono HZ5.out).trans (by rw [HG.out.1];exact H3.out.2.trans hb4));have z3:=pw_cell_below q4 HZ.out.1.nxt;have H4:=a0_ (And.intro hB4 q4);clear q4;clear hB4 hb4))
    obtain⟨r1,_,r3,_,_⟩:=HR.out;obtain⟨hB4,q4⟩:=H4.out;have e4:Lib.byteCells (linesOf done)++Lib.strCells (textOf z)++[.int .u8 10]=Lib.byteCells (linesOf (done++[z])):=by
     rw [linesOf_snoc,Lib.byteCells_append,Lib.byteCells_append,Lib.strCells_eq];rfl
    rw [e4] at hB4;go_roundg rest.length
    case measure=>rw [r1];simp
    case rel=>exact⟨n1,rest,done++[z],rfl,⟨rfl,HZ.out.2.1,by rw [List.append_assoc];exact r3,isBuilder_used hB4,q4⟩⟩
end Go.Proofs.YtailkppkjhkjpaaDoor.X
end
section
namespace Go.Proofs.YtailkppkjhkjpaaDoor.X
open Go.RowKit Go.Proofs.YtailkppkjhkjpaaDoorW.PrintWords Go.Proofs.YtailkppkjhkjpaaDoorW.PrintLast Go.Proofs.YtailkppkjhkjpaaDoorW.PrintMore
attribute [local go_sem] max2_int min2_int max_two min_two max_three min_three max_four min_four
set_option linter.unusedVariables false
set_option linter.unusedSimpArgs false
def laws_FnPlateBack.j0:Nat→ByteArray→Bool→List (S37)→List (List (S37))→Option (Bool)
 | 0,_,_,_,_=>none
 | k+1,x4,x22,x471000,x471001=>if x22=true then ((spec_PlateText.f k x471000 x471001).bind fun t473=>(some (x4.toList==t473.toList))) else ((impl_PlateRead.f k x4).bind fun bt474=>((impl_LoopText.f x471000).bind fun t482=>(if t482.size+1≤9223372036854775807 then (if bt474.2.2=true then ((laws_luPlates.f k bt474.1 bt474.2.1 x471000 x471001).bind fun t483=>(if t483=true then (if (x4.size:Int)≥((t482++(⟨#[10]⟩:ByteArray)).size:Int) then (if 0≤((t482++(⟨#[10]⟩:ByteArray)).size:Int) then (if ((t482++(⟨#[10]⟩:ByteArray)).size:Int)≤(x4.size:Int) then (some ((x4.extract 0 (((t482++(⟨#[10]⟩:ByteArray)).size:Int):Int).toNat).toList==(t482++(⟨#[10]⟩:ByteArray)).toList)) else (none)) else (none)) else (some false)) else (some false))) else (some false)) else (none))))
def laws_FnPlateBack.f (k:Nat)(l0:List Int):Option (Bool):=if (l0.length:Int)>1048576 then (some true) else ((spec_DrawPlateText.f k l0).bind fun bt464=>((impl_PlateText.f bt464.1 bt464.2).bind fun t471=>((spec_PlateText.f k bt464.1 bt464.2).bind fun t472=>(if t471.toList=t472.toList then (laws_FnPlateBack.j0 k t471 (t471.toList==([]:List UInt8)) bt464.1 bt464.2) else (laws_FnPlateBack.j0 k t471 true bt464.1 bt464.2)))))
set_option maxHeartbeats 8000000 in
set_option maxRecDepth 100000 in
theorem laws_FnPlateBack.calls (k:Nat)(A0:Option Addr)(c0:Nat)(l0:List Int)(r:Bool)(w:World)(hr0:Kd.C (Kd.int .u8) w A0 l0.length l0)(hc0:l0.length≤c0)(h:laws_FnPlateBack.f k l0=some r):
  Calls Tryd.prog 3 #[.slice A0 l0.length c0] w fun e w'=>e=.returned (.bool r)∧Below w.heap.size w w':=by
 have hu26:=Tryd.underlying26;have HR0:=Aside0.mk hr0;have HC0:=Aside0.mk hc0;clear hr0 hc0;have HB:=a0_ (Below.refl w.heap.size w);have H:(if (l0.length:Int)>1048576 then (some true) else ((spec_DrawPlateText.f k l0).bind fun bt464=>((impl_PlateText.f bt464.1 bt464.2).bind fun t471=>((spec_PlateText.f k bt464.1 bt464.2).bind fun t472=>(if t471.toList=t472.toList then (laws_FnPlateBack.j0 k t471 (t471.toList==([]:List UInt8)) bt464.1 bt464.2) else (laws_FnPlateBack.j0 k t471 true bt464.1 bt464.2))))))=some r:=h;clear h;by_cases c2:(l0.length:Int)>1048576
 ·
  rw [if_pos c2] at H;have c2b0:decide (1048576<(l0.length:Int))=true:=decide_eq_true c2;have c2b1:decide (1048576<l0.length)=true:=decide_eq_true (by omega);clear c2;obtain rfl:=Option.some.inj H;go_enter Tryd.func3,Tryd.ntmps3;go_wp2;go_ret;exact⟨rr_,hB_⟩
 ·
  rw [if_neg c2] at H;have c2b0:decide (1048576<(l0.length:Int))=false:=decide_eq_false c2;have c2b1:decide (1048576<l0.length)=false:=decide_eq_false (by omega);clear c2;replace H:=Option.bind_eq_some_iff.mp H;obtain⟨⟨t464,t467⟩,A30,H⟩:=H
  (try dsimp only at H)
  have A3:=Aside0.mk A30;clear A30;replace H:=Option.bind_eq_some_iff.mp H;obtain⟨t471,A40,H⟩:=H
  (try dsimp only at H)
  have A4:=Aside0.mk A40;clear A40;have HC5:=Aside0.mk H;clear H;go_enter Tryd.func3,Tryd.ntmps3
  go_upto_region 5 with (first | ((with_reducible refine gate_callee (f:=6) rfl ?_);refine gL_ (some 12) Tryd.func6 #[.slice A0 l0.length c0] (h:=?_);(with_reducible refine (spec_DrawPlateText.calls k _ _ l0 t464 t467 _ ?side1 ?side2 A3.out).mono ?_);(case side1=>repeat (first | exact HR0.out | (with_reducible refine Kd.C_alloc ?_ _) | (with_reducible refine Kd.C_drewN ?_ _) | (with_reducible refine Kd.C_drew ?_)));(case side2=>exact HC0.out);rintro e w6 ⟨v465,v468,rfl,ho0,ho1,hb⟩;refine⟨_,rfl,?_⟩;have HO466:=a0_ (Kd.R_lower (Kd.R_mono (ok':=fun k_=>True) ho0 (fun _ hk_=>trivial)) (below_size hB_));have HO469:=a0_ (Kd.N_lower (Kd.N_mono (ok':=fun k_=>some k_≠(v465:Value).ownBlock) ho1 (fun k_ hk_=>hk_.2)) (below_size hB_));replace HB:=sb_ HB hb;(try clear ho0 ho1 hb)) | ((with_reducible refine gate_dst (N:=3) rfl ?_);(try (refine gate_guard (by rfl) ?_;dsimp only));refine bx_ (N:=3) (cs:=#[.slice none 0 0,.slice none 0 0]) (t:=26) (h:=?_);intro gb470 hg w7 hbox hb;have BK470:=a0_ (hbox);have GW470:=gh_ HB hg;have GE470:=gh_ HB hg;replace HO466:=rb_ HO466 hb;replace HO469:=a0_ (Kd.N_below (Kd.N_elderB (uN_ HO469) gb470 (Nat.le_of_eq hg.symm)) hb);replace HB:=sb_ HB hb;clear hb hbox hg;obtain⟨Ao8,co8,eo8⟩:=Kd.R_slice HO466.out;subst eo8;have hcz9_0:=c20_ BK470;have hcz9_1:=c21_ BK470;have hfz9_0:=fz_ BK470 0;have hfz9_1:=fz_ BK470 1;obtain⟨Ao10,co10,eo10⟩:=Kd.N_slice HO469.out;subst eo10) | ((with_reducible refine gate_callee (f:=7) rfl ?_);refine gL_ (some 14) Tryd.func7 #[.agg #[.slice Ao8 t464.length co8,.slice Ao10 t467.length co10]] (h:=?_);(with_reducible refine (impl_PlateText.calls _ _ t464 _ _ t467 t471 _ ?side1 ?side2 ?side3 ?side4 A4.out).mono ?_);(case side1=>refine (Kd.R_reads' (e:=37) (base:=w.heap.size) (ok:=fun k_=>True) (n:=t464.length) (c:=co8) ?_).2.2;exact (by (with_reducible repeat (first | apply Kd.R_alloc | apply Kd.R_drewN | apply Kd.R_drew));exact (Kd.R_mono (Kd.R_far (p:=⟨gb470,1,none⟩) (Kd.R_far (p:=⟨gb470,0,none⟩) (Kd.R_types HO466.out BK470.out (by decide)) (fun _ hk=>hk.2) (.slice Ao8 t464.length co8)) (fun _ hk=>hk.2) (.slice Ao10 t467.length co10)) (fun _ h_=>h_.1))));(case side2=>exact (Kd.R_reads' HO466.out).2.1);(case side3=>refine (Kd.N_reads' (e:=23) (base:=w.heap.size) (ok:=fun k_=>(some k_≠(.slice Ao8 t464.length co8:Value).ownBlock∧k_≠gb470)) (n:=t467.length) (c:=co10) ?_).2.2;exact (by (with_reducible repeat (first | apply Kd.N_alloc | apply Kd.N_drewN | apply Kd.N_drew));exact (Kd.N_mono (Kd.N_far (p:=⟨gb470,1,none⟩) (Kd.N_far (p:=⟨gb470,0,none⟩) (Kd.N_mono HO469.out (fun k_ hk=>(⟨hk,hk.2⟩:_∧k_≠gb470))) (fun _ hk=>hk.2) (.slice Ao8 t464.length co8)) (fun _ hk=>hk.2) (.slice Ao10 t467.length co10)) (fun _ h_=>h_.1))));(case side4=>exact (Kd.N_reads' HO469.out).2.1);rintro e w11 ⟨rfl,hb⟩;refine⟨_,rfl,?_⟩;replace HO466:=a0_ (Kd.R_below (by (with_reducible repeat (first | apply Kd.R_alloc | apply Kd.R_drewN | apply Kd.R_drew));exact (Kd.R_mono (Kd.R_far (p:=⟨gb470,1,none⟩) (Kd.R_far (p:=⟨gb470,0,none⟩) (Kd.R_types HO466.out BK470.out (by decide)) (fun _ hk=>hk.2) (.slice Ao8 t464.length co8)) (fun _ hk=>hk.2) (.slice Ao10 t467.length co10)) (fun _ h_=>h_.1))) hb);replace HO469:=a0_ (Kd.N_below (by (with_reducible repeat (first | apply Kd.N_alloc | apply Kd.N_drewN | apply Kd.N_drew));exact (Kd.N_mono (Kd.N_far (p:=⟨gb470,1,none⟩) (Kd.N_far (p:=⟨gb470,0,none⟩) (Kd.N_mono HO469.out (fun k_ hk=>(⟨hk,hk.2⟩:_∧k_≠gb470))) (fun _ hk=>hk.2) (.slice Ao8 t464.length co8)) (fun _ hk=>hk.2) (.slice Ao10 t467.length co10)) (fun _ h_=>h_.1))) hb);replace BK470:=a0_ (blk_below (g:=gb470) (o:=.cells #[.slice Ao8 t464.length co8,.slice Ao10 t467.length co10] 26 (0,0)) (by (with_reducible repeat (first | refine blk_drewN ?_ _ | refine blk_drew ?_ | refine blk_alloc ?_ _));refine blk_put (cs:=#[.slice Ao8 t464.length co8,.slice none 0 0]) ?_ 1 _ rfl;(with_reducible repeat (first | refine blk_drewN ?_ _ | refine blk_drew ?_ | refine blk_alloc ?_ _));refine blk_put (cs:=#[.slice none 0 0,.slice none 0 0]) ?_ 0 _ rfl;(with_reducible repeat (first | refine blk_drewN ?_ _ | refine blk_drew ?_ | refine blk_alloc ?_ _));exact BK470.out) hb);replace HB:=sb_ HB hb;(try clear hb)))
  (try simp only [Act.put,List.setIfInBounds_toArray,List.set_cons_zero,List.set_cons_succ])
  go_cut [22] (fun v22 wc=>∃ (kq:Nat) (x22_4:Bool),v22=.bool x22_4∧Aside0 (laws_FnPlateBack.j0 kq t471 x22_4 t464 t467=some r)∧Aside0 (kq≤k)∧Aside0 (Kd.R k37 37 wc w.heap.size (fun _=>True) (.slice Ao8 t464.length co8) t464)∧Aside0 (Kd.N (Kd.slice 37 k37) 23 wc w.heap.size (fun k_=>some k_≠((.slice Ao8 t464.length co8):Value).ownBlock∧k_≠gb470) (.slice Ao10 t467.length co10) t467)∧Aside0 (wc.heap[gb470]?=some (.cells #[(.slice Ao8 t464.length co8),(.slice Ao10 t467.length co10)] 26 (0,0)))∧Aside0 (Below w.heap.size w wc))
  case first =>
   have H:=HC5.out;clear HC5;replace H:=Option.bind_eq_some_iff.mp H;obtain⟨t472,A120,H⟩:=H
   (try dsimp only at H)
   have A12:=Aside0.mk A120;clear A120;by_cases c13:t471.toList=t472.toList
   ·
    rw [if_pos c13] at H;have c13b0:(t471.toList==t472.toList)=true:=beq_iff_eq.mpr c13;have c13b1:(t471.toList != t472.toList)=false:=bne_eq_false_iff_eq.mpr c13;clear c13
    (first | rw [c13b0] | (simp only [i64_w,i32_w];rw [c13b0]) | skip)
    have H':=Aside0.mk H;clear H;have hcz14_0:=c20_ BK470;have hcz14_1:=c21_ BK470;have hfz14_0:=fz_ BK470 0;have hfz14_1:=fz_ BK470 1;go_wp2_with (first | ((with_reducible refine gate_callee (f:=8) rfl ?_);refine gL_ (some 17) Tryd.func8 #[.agg #[.slice Ao8 t464.length co8,.slice Ao10 t467.length co10]] (h:=?_);(with_reducible refine (spec_PlateText.calls k _ _ t464 _ _ t467 t472 _ ?side1 ?side2 ?side3 ?side4 A12.out).mono ?_);(case side1=>repeat (first | exact (Kd.R_reads' HO466.out).2.2 | (with_reducible refine Kd.C_alloc ?_ _) | (with_reducible refine Kd.C_drewN ?_ _) | (with_reducible refine Kd.C_drew ?_)));(case side2=>exact (Kd.R_reads' HO466.out).2.1);(case side3=>repeat (first | exact (Kd.N_reads' HO469.out).2.2 | (with_reducible refine Kd.C_alloc ?_ _) | (with_reducible refine Kd.C_drewN ?_ _) | (with_reducible refine Kd.C_drew ?_)));(case side4=>exact (Kd.N_reads' HO469.out).2.1);rintro e w15 ⟨rfl,hb⟩;refine⟨_,rfl,?_⟩;replace HO466:=rb_ HO466 hb;replace HO469:=nb_ HO469 hb;replace BK470:=vb_ BK470 hb;replace HB:=sb_ HB hb;(try clear hb)));go_meet
    case rel=>exact⟨_,((t471.toList==([]:List UInt8))),(by first | rfl | (simp;done) | (simp [*];done)),H',⟨by first | omega | exact Nat.le_refl _⟩,⟨by (with_reducible repeat (first | apply Kd.R_alloc | apply Kd.R_drewN | apply Kd.R_drew));exact HO466.out⟩,⟨by (with_reducible repeat (first | apply Kd.N_alloc | apply Kd.N_drewN | apply Kd.N_drew));exact HO469.out⟩,⟨uq_⟩,⟨hB_⟩⟩
   ·
    rw [if_neg c13] at H;have c13b0:(t471.toList==t472.toList)=false:=beq_eq_false_iff_ne.mpr c13;have c13b1:(t471.toList != t472.toList)=true:=bne_iff_ne.mpr c13
    (first | rw [c13b0] | (simp only [i64_w,i32_w];rw [c13b0]) | skip)
    have H':=Aside0.mk H;clear H;have hcz16_0:=c20_ BK470;have hcz16_1:=c21_ BK470;have hfz16_0:=fz_ BK470 0;have hfz16_1:=fz_ BK470 1;go_wp2_with (first | ((with_reducible refine gate_callee (f:=8) rfl ?_);refine gL_ (some 17) Tryd.func8 #[.agg #[.slice Ao8 t464.length co8,.slice Ao10 t467.length co10]] (h:=?_);(with_reducible refine (spec_PlateText.calls k _ _ t464 _ _ t467 t472 _ ?side1 ?side2 ?side3 ?side4 A12.out).mono ?_);(case side1=>repeat (first | exact (Kd.R_reads' HO466.out).2.2 | (with_reducible refine Kd.C_alloc ?_ _) | (with_reducible refine Kd.C_drewN ?_ _) | (with_reducible refine Kd.C_drew ?_)));(case side2=>exact (Kd.R_reads' HO466.out).2.1);(case side3=>repeat (first | exact (Kd.N_reads' HO469.out).2.2 | (with_reducible refine Kd.C_alloc ?_ _) | (with_reducible refine Kd.C_drewN ?_ _) | (with_reducible refine Kd.C_drew ?_)));(case side4=>exact (Kd.N_reads' HO469.out).2.1);rintro e w17 ⟨rfl,hb⟩;refine⟨_,rfl,?_⟩;replace HO466:=rb_ HO466 hb;replace HO469:=nb_ HO469 hb;replace BK470:=vb_ BK470 hb;replace HB:=sb_ HB hb;(try clear hb)));go_meet
    case rel=>exact⟨_,(true),(by first | rfl | (simp;done) | (simp [*];done)),H',⟨by first | omega | exact Nat.le_refl _⟩,⟨by (with_reducible repeat (first | apply Kd.R_alloc | apply Kd.R_drewN | apply Kd.R_drew));exact HO466.out⟩,⟨by (with_reducible repeat (first | apply Kd.N_alloc | apply Kd.N_drewN | apply Kd.N_drew));exact HO469.out⟩,⟨uq_⟩,⟨hB_⟩⟩
  case rest =>
   clear HC5;obtain⟨kq,x22_4,rfl,HA,HJ4,HO_471000,HO_471001,BK470,HB⟩:=hcut
   cases kq with
   | zero=>exact absurd HA.out (by simp [laws_FnPlateBack.j0])
   | succ kj4 =>
    have H:=HA.out;clear HA;simp only [laws_FnPlateBack.j0] at H;by_cases c18:x22_4=true
    ·
     subst c18;rw [if_pos rfl] at H
     (try dsimp only at H)
     replace H:=Option.bind_eq_some_iff.mp H;obtain⟨t473,A190,H⟩:=H
     (try dsimp only at H)
     have A19:=Aside0.mk A190;clear A190;obtain rfl:=Option.some.inj H;have hcz20_0:=c20_ BK470;have hcz20_1:=c21_ BK470;have hfz20_0:=fz_ BK470 0;have hfz20_1:=fz_ BK470 1;go_wp2_with (first | ((with_reducible refine gate_callee (f:=8) rfl ?_);refine gL_ (some 25) Tryd.func8 #[.agg #[.slice Ao8 t464.length co8,.slice Ao10 t467.length co10]] (h:=?_);(with_reducible refine (spec_PlateText.calls kj4 _ _ t464 _ _ t467 t473 _ ?side1 ?side2 ?side3 ?side4 A19.out).mono ?_);(case side1=>repeat (first | exact (Kd.R_reads' HO_471000.out).2.2 | (with_reducible refine Kd.C_alloc ?_ _) | (with_reducible refine Kd.C_drewN ?_ _) | (with_reducible refine Kd.C_drew ?_)));(case side2=>exact (Kd.R_reads' HO_471000.out).2.1);(case side3=>repeat (first | exact (Kd.N_reads' HO_471001.out).2.2 | (with_reducible refine Kd.C_alloc ?_ _) | (with_reducible refine Kd.C_drewN ?_ _) | (with_reducible refine Kd.C_drew ?_)));(case side4=>exact (Kd.N_reads' HO_471001.out).2.1);rintro e w21 ⟨rfl,hb⟩;refine⟨_,rfl,?_⟩;replace HO_471000:=rb_ HO_471000 hb;replace HO_471001:=nb_ HO_471001 hb;replace BK470:=vb_ BK470 hb;replace HB:=sb_ HB hb;(try clear hb)));go_ret;exact⟨rr_,hB_⟩
    ·
     replace c18:=Bool.eq_false_iff.mpr c18;subst c18;rw [if_neg (show ¬ (false=true) by decide)] at H
     (try dsimp only at H)
     replace H:=Option.bind_eq_some_iff.mp H;obtain⟨⟨t474,t477,t480⟩,A220,H⟩:=H
     (try dsimp only at H)
     have A22:=Aside0.mk A220;clear A220;replace H:=Option.bind_eq_some_iff.mp H;obtain⟨t482,A230,H⟩:=H
     (try dsimp only at H)
     have A23:=Aside0.mk A230;clear A230;by_cases c24:t482.size+1≤9223372036854775807
     ·
      rw [if_pos c24] at H;have c24b0:=eq_true c24;have c24b1:decide (t482.size+1≤9223372036854775807)=true:=decide_eq_true c24
      try have c24b2:(9223372036854775807<t482.size+1)=False:=eq_false (Nat.not_lt.2 c24)
      by_cases c25:t480=true
      ·
       subst c25;rw [if_pos rfl] at H
       (try dsimp only at H)
       replace H:=Option.bind_eq_some_iff.mp H;obtain⟨t483,A260,H⟩:=H
       (try dsimp only at H)
       have A26:=Aside0.mk A260;clear A260;by_cases c27:t483=true
       ·
        subst c27;rw [if_pos rfl] at H
        (try dsimp only at H)
        by_cases c28:(t471.size:Int)≥((t482++(⟨#[10]⟩:ByteArray)).size:Int)
        ·
         rw [if_pos c28] at H;have c28b0:decide (((t482++(⟨#[10]⟩:ByteArray)).size:Int)≤(t471.size:Int))=true:=decide_eq_true c28;have c28b1:decide ((t482++(⟨#[10]⟩:ByteArray)).size≤t471.size)=true:=decide_eq_true (Int.ofNat_le.mp c28);have c28b3:decide ((t482.size:Int)+1≤(t471.size:Int))=true:=by have h_:=of_decide_eq_true c28b1;rw [ByteArray.size_append] at h_;exact decide_eq_true (by have h1_:(⟨#[10]⟩:ByteArray).size=1:=rfl;omega)
         have c28b4:decide (t482.size+1≤t471.size)=true:=by have h_:=of_decide_eq_true c28b1;rw [ByteArray.size_append] at h_;exact decide_eq_true (by have h1_:(⟨#[10]⟩:ByteArray).size=1:=rfl;omega)
         have c28b5:((t482.size:Int)+1≤(t471.size:Int))=True:=eq_true (of_decide_eq_true c28b3);have c28b6:(0≤(t482.size:Int)+1)=True:=eq_true (by omega);clear c28;by_cases c29:0≤((t482++(⟨#[10]⟩:ByteArray)).size:Int)
         ·
          rw [if_pos c29] at H;have c29b0:=eq_true c29;have c29b1:decide (0≤((t482++(⟨#[10]⟩:ByteArray)).size:Int))=true:=decide_eq_true c29;by_cases c30:((t482++(⟨#[10]⟩:ByteArray)).size:Int)≤(t471.size:Int)
          ·
           rw [if_pos c30] at H;have c30b0:=eq_true c30;have c30b1:decide (((t482++(⟨#[10]⟩:ByteArray)).size:Int)≤(t471.size:Int))=true:=decide_eq_true c30;obtain rfl:=Option.some.inj H
           go_wp2_with (first | ((with_reducible refine gate_callee (f:=9) rfl ?_);refine gL_ (some 29) Tryd.func9 #[.string t471] (h:=?_);(with_reducible refine (impl_PlateRead.calls kj4 t471 t474 t477 true _ A22.out).mono ?_);rintro e w31 ⟨v475,v478,rfl,ho0,ho1,hb⟩;refine⟨_,rfl,?_⟩;have HO476:=a0_ (Kd.R_lower (Kd.R_new' ho0 (Kd.R_lt (uR_ HO_471000))) (below_size hB_));have HO479:=a0_ (Kd.N_lower (Kd.N_mono (ok':=fun k_=>some k_≠(v475:Value).ownBlock∧some k_≠(.slice Ao8 t464.length co8:Value).ownBlock∧some k_≠(.slice Ao10 t467.length co10:Value).ownBlock∧k_≠gb470) (Kd.S_N (Kd.S_bound ho1)) (fun k_ hk_=>⟨hk_.1,(Kd.fresh' (Kd.R_lt (uR_ HO_471000)) k_ hk_.2.1),(Kd.fresh' (Kd.N_lt (uN_ HO_471001)) k_ hk_.2.1),(Kd.freshB (g:=gb470) (o:=.cells #[.slice Ao8 t464.length co8,.slice Ao10 t467.length co10] 26 (0,0)) uq_ k_ hk_.2.1)⟩)) (below_size hB_));replace HO_471000:=a0_ (Kd.R_elder' (uR_ HO_471000) (Kd.R_base ho0) hb);replace HO_471001:=a0_ (Kd.N_mono (Kd.N_told (Kd.N_told (Kd.N_old (uN_ HO_471001) hb) (Kd.R_base ho0)) (Kd.S_base ho1)) (fun _ h_=>h_.1));replace BK470:=vb_ BK470 hb;replace HB:=sb_ HB hb;(try clear ho0 ho1 hb)) | ((with_reducible refine gate_dst (N:=5) rfl ?_);(try (refine gate_guard (by rfl) ?_;dsimp only));refine bx_ (N:=5) (cs:=#[.slice none 0 0,.slice none 0 0]) (t:=26) (h:=?_);intro gb481 hg w32 hbox hb;have BK481:=a0_ (hbox);have GW481:=gh_ HB hg;have GE481:=gh_ HB hg;have NB470_481:=nl_ BK470 hg;have NB481_470:=nr_ BK470 hg;replace HO_471000:=rb_ HO_471000 hb;replace HO_471001:=a0_ (Kd.N_below (Kd.N_elderB (uN_ HO_471001) gb481 (Nat.le_of_eq hg.symm)) hb);replace HO476:=rb_ HO476 hb;replace HO479:=a0_ (Kd.N_below (Kd.N_elderB (uN_ HO479) gb481 (Nat.le_of_eq hg.symm)) hb);replace BK470:=vb_ BK470 hb;replace HB:=sb_ HB hb;clear hb hbox hg;obtain⟨Ao33,co33,eo33⟩:=Kd.R_slice HO476.out;subst eo33;have hnb34:=NB481_470.out;have hnc34:=NB470_481.out;have hcz35_0:=c20_ BK481;have hcz35_1:=c21_ BK481;have hfz35_0:=fz_ BK481 0;have hfz35_1:=fz_ BK481 1;obtain⟨Ao36,co36,eo36⟩:=Kd.N_slice HO479.out;subst eo36;have hcz37_0:=c20_ BK470;have hcz37_1:=c21_ BK470;have hfz37_0:=fz_ BK470 0;have hfz37_1:=fz_ BK470 1) | ((with_reducible refine gate_callee (f:=10) rfl ?_);refine gL_ (some 34) Tryd.func10 #[.slice Ao8 t464.length co8] (h:=?_);(with_reducible refine (impl_LoopText.calls _ _ t464 t482 _ ?side1 ?side2 A23.out).mono ?_);(case side1=>refine (Kd.R_reads' (e:=37) (base:=w.heap.size) (ok:=fun k_=>(True∧some k_≠(.slice Ao33 t474.length co33:Value).ownBlock)) (n:=t464.length) (c:=co8) ?_).2.2;exact (by (with_reducible repeat (first | apply Kd.R_alloc | apply Kd.R_drewN | apply Kd.R_drew));exact (Kd.R_mono (Kd.R_far (p:=⟨gb481,1,none⟩) (Kd.R_far (p:=⟨gb481,0,none⟩) (Kd.R_types HO_471000.out BK481.out (by decide)) (fun _ hk=>hk.2) (.slice Ao33 t474.length co33)) (fun _ hk=>hk.2) (.slice Ao36 t477.length co36)) (fun _ h_=>h_.1))));(case side2=>exact (Kd.R_reads' HO_471000.out).2.1);rintro e w38 ⟨rfl,hb⟩;refine⟨_,rfl,?_⟩;replace HO_471000:=a0_ (Kd.R_below (by (with_reducible repeat (first | apply Kd.R_alloc | apply Kd.R_drewN | apply Kd.R_drew));exact (Kd.R_mono (Kd.R_far (p:=⟨gb481,1,none⟩) (Kd.R_far (p:=⟨gb481,0,none⟩) (Kd.R_types HO_471000.out BK481.out (by decide)) (fun _ hk=>hk.2) (.slice Ao33 t474.length co33)) (fun _ hk=>hk.2) (.slice Ao36 t477.length co36)) (fun _ h_=>h_.1))) hb);replace HO_471001:=a0_ (Kd.N_below (by (with_reducible repeat (first | apply Kd.N_alloc | apply Kd.N_drewN | apply Kd.N_drew));exact (Kd.N_mono (Kd.N_far (p:=⟨gb481,1,none⟩) (Kd.N_far (p:=⟨gb481,0,none⟩) (Kd.N_mono HO_471001.out (fun k_ hk=>(⟨hk,hk.2⟩:_∧k_≠gb481))) (fun _ hk=>hk.2) (.slice Ao33 t474.length co33)) (fun _ hk=>hk.2) (.slice Ao36 t477.length co36)) (fun _ h_=>h_.1))) hb);replace HO476:=a0_ (Kd.R_below (by (with_reducible repeat (first | apply Kd.R_alloc | apply Kd.R_drewN | apply Kd.R_drew));exact (Kd.R_mono (Kd.R_far (p:=⟨gb481,1,none⟩) (Kd.R_far (p:=⟨gb481,0,none⟩) (Kd.R_types HO476.out BK481.out (by decide)) (fun _ hk=>hk.2) (.slice Ao33 t474.length co33)) (fun _ hk=>hk.2) (.slice Ao36 t477.length co36)) (fun _ h_=>h_.1))) hb);replace HO479:=a0_ (Kd.N_below (by (with_reducible repeat (first | apply Kd.N_alloc | apply Kd.N_drewN | apply Kd.N_drew));exact (Kd.N_mono (Kd.N_far (p:=⟨gb481,1,none⟩) (Kd.N_far (p:=⟨gb481,0,none⟩) (Kd.N_mono HO479.out (fun k_ hk=>(⟨hk,hk.2⟩:_∧k_≠gb481))) (fun _ hk=>hk.2) (.slice Ao33 t474.length co33)) (fun _ hk=>hk.2) (.slice Ao36 t477.length co36)) (fun _ h_=>h_.1))) hb);replace BK470:=a0_ (blk_below (g:=gb470) (o:=.cells #[.slice Ao8 t464.length co8,.slice Ao10 t467.length co10] 26 (0,0)) uf_ hb);replace BK481:=a0_ (blk_below (g:=gb481) (o:=.cells #[.slice Ao33 t474.length co33,.slice Ao36 t477.length co36] 26 (0,0)) (by (with_reducible repeat (first | refine blk_drewN ?_ _ | refine blk_drew ?_ | refine blk_alloc ?_ _));refine blk_put (cs:=#[.slice Ao33 t474.length co33,.slice none 0 0]) ?_ 1 _ rfl;(with_reducible repeat (first | refine blk_drewN ?_ _ | refine blk_drew ?_ | refine blk_alloc ?_ _));refine blk_put (cs:=#[.slice none 0 0,.slice none 0 0]) ?_ 0 _ rfl;(with_reducible repeat (first | refine blk_drewN ?_ _ | refine blk_drew ?_ | refine blk_alloc ?_ _));exact BK481.out) hb);replace HB:=sb_ HB hb;(try clear hb);have hcz39_0:=c20_ BK481;have hcz39_1:=c21_ BK481;have hfz39_0:=fz_ BK481 0;have hfz39_1:=fz_ BK481 1;have hcz40_0:=c20_ BK470;have hcz40_1:=c21_ BK470;have hfz40_0:=fz_ BK470 0;have hfz40_1:=fz_ BK470 1) | (go_at_call 11;(with_reducible refine (laws_luPlates.calls kj4 _ _ t474 _ _ t477 _ _ t464 _ _ t467 true _ ?side1 ?side2 ?side3 ?side4 ?side5 ?side6 ?side7 ?side8 A26.out).mono ?_);(case side1=>repeat (first | exact (Kd.R_reads' HO476.out).2.2 | (with_reducible refine Kd.C_alloc ?_ _) | (with_reducible refine Kd.C_drewN ?_ _) | (with_reducible refine Kd.C_drew ?_)));(case side2=>exact (Kd.R_reads' HO476.out).2.1);(case side3=>repeat (first | exact (Kd.N_reads' HO479.out).2.2 | (with_reducible refine Kd.C_alloc ?_ _) | (with_reducible refine Kd.C_drewN ?_ _) | (with_reducible refine Kd.C_drew ?_)));(case side4=>exact (Kd.N_reads' HO479.out).2.1);(case side5=>repeat (first | exact (Kd.R_reads' HO_471000.out).2.2 | (with_reducible refine Kd.C_alloc ?_ _) | (with_reducible refine Kd.C_drewN ?_ _) | (with_reducible refine Kd.C_drew ?_)));(case side6=>exact (Kd.R_reads' HO_471000.out).2.1);(case side7=>repeat (first | exact (Kd.N_reads' HO_471001.out).2.2 | (with_reducible refine Kd.C_alloc ?_ _) | (with_reducible refine Kd.C_drewN ?_ _) | (with_reducible refine Kd.C_drew ?_)));(case side8=>exact (Kd.N_reads' HO_471001.out).2.1);rintro e w41 ⟨rfl,hb⟩;replace HO_471000:=rb_ HO_471000 hb;replace HO_471001:=nb_ HO_471001 hb;replace HO476:=rb_ HO476 hb;replace HO479:=nb_ HO479 hb;replace BK470:=vb_ BK470 hb;replace BK481:=vb_ BK481 hb;replace HB:=sb_ HB hb;(try clear hb)))
           go_ret;exact⟨rr_,hB_⟩
          ·
           rw [if_neg c30] at H;exact absurd H (by simp)
         ·
          rw [if_neg c29] at H;exact absurd H (by simp)
        ·
         rw [if_neg c28] at H;have c28b0:decide (((t482++(⟨#[10]⟩:ByteArray)).size:Int)≤(t471.size:Int))=false:=decide_eq_false c28;have c28b1:decide ((t482++(⟨#[10]⟩:ByteArray)).size≤t471.size)=false:=decide_eq_false (fun h=>c28 (Int.ofNat_le.mpr h));have c28b3:decide ((t482.size:Int)+1≤(t471.size:Int))=false:=by have h_:=of_decide_eq_false c28b1;rw [ByteArray.size_append] at h_;exact decide_eq_false (by have h1_:(⟨#[10]⟩:ByteArray).size=1:=rfl;omega)
         have c28b4:decide (t482.size+1≤t471.size)=false:=by have h_:=of_decide_eq_false c28b1;rw [ByteArray.size_append] at h_;exact decide_eq_false (by have h1_:(⟨#[10]⟩:ByteArray).size=1:=rfl;omega)
         clear c28;obtain rfl:=Option.some.inj H
         go_wp2_with (first | ((with_reducible refine gate_callee (f:=9) rfl ?_);refine gL_ (some 29) Tryd.func9 #[.string t471] (h:=?_);(with_reducible refine (impl_PlateRead.calls kj4 t471 t474 t477 true _ A22.out).mono ?_);rintro e w42 ⟨v475,v478,rfl,ho0,ho1,hb⟩;refine⟨_,rfl,?_⟩;have HO476:=a0_ (Kd.R_lower (Kd.R_new' ho0 (Kd.R_lt (uR_ HO_471000))) (below_size hB_));have HO479:=a0_ (Kd.N_lower (Kd.N_mono (ok':=fun k_=>some k_≠(v475:Value).ownBlock∧some k_≠(.slice Ao8 t464.length co8:Value).ownBlock∧some k_≠(.slice Ao10 t467.length co10:Value).ownBlock∧k_≠gb470) (Kd.S_N (Kd.S_bound ho1)) (fun k_ hk_=>⟨hk_.1,(Kd.fresh' (Kd.R_lt (uR_ HO_471000)) k_ hk_.2.1),(Kd.fresh' (Kd.N_lt (uN_ HO_471001)) k_ hk_.2.1),(Kd.freshB (g:=gb470) (o:=.cells #[.slice Ao8 t464.length co8,.slice Ao10 t467.length co10] 26 (0,0)) uq_ k_ hk_.2.1)⟩)) (below_size hB_));replace HO_471000:=a0_ (Kd.R_elder' (uR_ HO_471000) (Kd.R_base ho0) hb);replace HO_471001:=a0_ (Kd.N_mono (Kd.N_told (Kd.N_told (Kd.N_old (uN_ HO_471001) hb) (Kd.R_base ho0)) (Kd.S_base ho1)) (fun _ h_=>h_.1));replace BK470:=vb_ BK470 hb;replace HB:=sb_ HB hb;(try clear ho0 ho1 hb)) | ((with_reducible refine gate_dst (N:=5) rfl ?_);(try (refine gate_guard (by rfl) ?_;dsimp only));refine bx_ (N:=5) (cs:=#[.slice none 0 0,.slice none 0 0]) (t:=26) (h:=?_);intro gb481 hg w43 hbox hb;have BK481:=a0_ (hbox);have GW481:=gh_ HB hg;have GE481:=gh_ HB hg;have NB470_481:=nl_ BK470 hg;have NB481_470:=nr_ BK470 hg;replace HO_471000:=rb_ HO_471000 hb;replace HO_471001:=a0_ (Kd.N_below (Kd.N_elderB (uN_ HO_471001) gb481 (Nat.le_of_eq hg.symm)) hb);replace HO476:=rb_ HO476 hb;replace HO479:=a0_ (Kd.N_below (Kd.N_elderB (uN_ HO479) gb481 (Nat.le_of_eq hg.symm)) hb);replace BK470:=vb_ BK470 hb;replace HB:=sb_ HB hb;clear hb hbox hg;obtain⟨Ao44,co44,eo44⟩:=Kd.R_slice HO476.out;subst eo44;have hnb45:=NB481_470.out;have hnc45:=NB470_481.out;have hcz46_0:=c20_ BK481;have hcz46_1:=c21_ BK481;have hfz46_0:=fz_ BK481 0;have hfz46_1:=fz_ BK481 1;obtain⟨Ao47,co47,eo47⟩:=Kd.N_slice HO479.out;subst eo47;have hcz48_0:=c20_ BK470;have hcz48_1:=c21_ BK470;have hfz48_0:=fz_ BK470 0;have hfz48_1:=fz_ BK470 1) | ((with_reducible refine gate_callee (f:=10) rfl ?_);refine gL_ (some 34) Tryd.func10 #[.slice Ao8 t464.length co8] (h:=?_);(with_reducible refine (impl_LoopText.calls _ _ t464 t482 _ ?side1 ?side2 A23.out).mono ?_);(case side1=>refine (Kd.R_reads' (e:=37) (base:=w.heap.size) (ok:=fun k_=>(True∧some k_≠(.slice Ao44 t474.length co44:Value).ownBlock)) (n:=t464.length) (c:=co8) ?_).2.2;exact (by (with_reducible repeat (first | apply Kd.R_alloc | apply Kd.R_drewN | apply Kd.R_drew));exact (Kd.R_mono (Kd.R_far (p:=⟨gb481,1,none⟩) (Kd.R_far (p:=⟨gb481,0,none⟩) (Kd.R_types HO_471000.out BK481.out (by decide)) (fun _ hk=>hk.2) (.slice Ao44 t474.length co44)) (fun _ hk=>hk.2) (.slice Ao47 t477.length co47)) (fun _ h_=>h_.1))));(case side2=>exact (Kd.R_reads' HO_471000.out).2.1);rintro e w49 ⟨rfl,hb⟩;refine⟨_,rfl,?_⟩;replace HO_471000:=a0_ (Kd.R_below (by (with_reducible repeat (first | apply Kd.R_alloc | apply Kd.R_drewN | apply Kd.R_drew));exact (Kd.R_mono (Kd.R_far (p:=⟨gb481,1,none⟩) (Kd.R_far (p:=⟨gb481,0,none⟩) (Kd.R_types HO_471000.out BK481.out (by decide)) (fun _ hk=>hk.2) (.slice Ao44 t474.length co44)) (fun _ hk=>hk.2) (.slice Ao47 t477.length co47)) (fun _ h_=>h_.1))) hb);replace HO_471001:=a0_ (Kd.N_below (by (with_reducible repeat (first | apply Kd.N_alloc | apply Kd.N_drewN | apply Kd.N_drew));exact (Kd.N_mono (Kd.N_far (p:=⟨gb481,1,none⟩) (Kd.N_far (p:=⟨gb481,0,none⟩) (Kd.N_mono HO_471001.out (fun k_ hk=>(⟨hk,hk.2⟩:_∧k_≠gb481))) (fun _ hk=>hk.2) (.slice Ao44 t474.length co44)) (fun _ hk=>hk.2) (.slice Ao47 t477.length co47)) (fun _ h_=>h_.1))) hb);replace HO476:=a0_ (Kd.R_below (by (with_reducible repeat (first | apply Kd.R_alloc | apply Kd.R_drewN | apply Kd.R_drew));exact (Kd.R_mono (Kd.R_far (p:=⟨gb481,1,none⟩) (Kd.R_far (p:=⟨gb481,0,none⟩) (Kd.R_types HO476.out BK481.out (by decide)) (fun _ hk=>hk.2) (.slice Ao44 t474.length co44)) (fun _ hk=>hk.2) (.slice Ao47 t477.length co47)) (fun _ h_=>h_.1))) hb);replace HO479:=a0_ (Kd.N_below (by (with_reducible repeat (first | apply Kd.N_alloc | apply Kd.N_drewN | apply Kd.N_drew));exact (Kd.N_mono (Kd.N_far (p:=⟨gb481,1,none⟩) (Kd.N_far (p:=⟨gb481,0,none⟩) (Kd.N_mono HO479.out (fun k_ hk=>(⟨hk,hk.2⟩:_∧k_≠gb481))) (fun _ hk=>hk.2) (.slice Ao44 t474.length co44)) (fun _ hk=>hk.2) (.slice Ao47 t477.length co47)) (fun _ h_=>h_.1))) hb);replace BK470:=a0_ (blk_below (g:=gb470) (o:=.cells #[.slice Ao8 t464.length co8,.slice Ao10 t467.length co10] 26 (0,0)) uf_ hb);replace BK481:=a0_ (blk_below (g:=gb481) (o:=.cells #[.slice Ao44 t474.length co44,.slice Ao47 t477.length co47] 26 (0,0)) (by (with_reducible repeat (first | refine blk_drewN ?_ _ | refine blk_drew ?_ | refine blk_alloc ?_ _));refine blk_put (cs:=#[.slice Ao44 t474.length co44,.slice none 0 0]) ?_ 1 _ rfl;(with_reducible repeat (first | refine blk_drewN ?_ _ | refine blk_drew ?_ | refine blk_alloc ?_ _));refine blk_put (cs:=#[.slice none 0 0,.slice none 0 0]) ?_ 0 _ rfl;(with_reducible repeat (first | refine blk_drewN ?_ _ | refine blk_drew ?_ | refine blk_alloc ?_ _));exact BK481.out) hb);replace HB:=sb_ HB hb;(try clear hb);have hcz50_0:=c20_ BK481;have hcz50_1:=c21_ BK481;have hfz50_0:=fz_ BK481 0;have hfz50_1:=fz_ BK481 1;have hcz51_0:=c20_ BK470;have hcz51_1:=c21_ BK470;have hfz51_0:=fz_ BK470 0;have hfz51_1:=fz_ BK470 1) | (go_at_call 11;(with_reducible refine (laws_luPlates.calls kj4 _ _ t474 _ _ t477 _ _ t464 _ _ t467 true _ ?side1 ?side2 ?side3 ?side4 ?side5 ?side6 ?side7 ?side8 A26.out).mono ?_);(case side1=>repeat (first | exact (Kd.R_reads' HO476.out).2.2 | (with_reducible refine Kd.C_alloc ?_ _) | (with_reducible refine Kd.C_drewN ?_ _) | (with_reducible refine Kd.C_drew ?_)));(case side2=>exact (Kd.R_reads' HO476.out).2.1);(case side3=>repeat (first | exact (Kd.N_reads' HO479.out).2.2 | (with_reducible refine Kd.C_alloc ?_ _) | (with_reducible refine Kd.C_drewN ?_ _) | (with_reducible refine Kd.C_drew ?_)));(case side4=>exact (Kd.N_reads' HO479.out).2.1);(case side5=>repeat (first | exact (Kd.R_reads' HO_471000.out).2.2 | (with_reducible refine Kd.C_alloc ?_ _) | (with_reducible refine Kd.C_drewN ?_ _) | (with_reducible refine Kd.C_drew ?_)));(case side6=>exact (Kd.R_reads' HO_471000.out).2.1);(case side7=>repeat (first | exact (Kd.N_reads' HO_471001.out).2.2 | (with_reducible refine Kd.C_alloc ?_ _) | (with_reducible refine Kd.C_drewN ?_ _) | (with_reducible refine Kd.C_drew ?_)));(case side8=>exact (Kd.N_reads' HO_471001.out).2.1);rintro e w52 ⟨rfl,hb⟩;replace HO_471000:=rb_ HO_471000 hb;replace HO_471001:=nb_ HO_471001 hb;replace HO476:=rb_ HO476 hb;replace HO479:=nb_ HO479 hb;replace BK470:=vb_ BK470 hb;replace BK481:=vb_ BK481 hb;replace HB:=sb_ HB hb;(try clear hb)))
         go_ret;exact⟨rr_,hB_⟩
       ·
        replace c27:=Bool.eq_false_iff.mpr c27;subst c27;rw [if_neg (show ¬ (false=true) by decide)] at H
        (try dsimp only at H)
        obtain rfl:=Option.some.inj H
        go_wp2_with (first | ((with_reducible refine gate_callee (f:=9) rfl ?_);refine gL_ (some 29) Tryd.func9 #[.string t471] (h:=?_);(with_reducible refine (impl_PlateRead.calls kj4 t471 t474 t477 true _ A22.out).mono ?_);rintro e w53 ⟨v475,v478,rfl,ho0,ho1,hb⟩;refine⟨_,rfl,?_⟩;have HO476:=a0_ (Kd.R_lower (Kd.R_new' ho0 (Kd.R_lt (uR_ HO_471000))) (below_size hB_));have HO479:=a0_ (Kd.N_lower (Kd.N_mono (ok':=fun k_=>some k_≠(v475:Value).ownBlock∧some k_≠(.slice Ao8 t464.length co8:Value).ownBlock∧some k_≠(.slice Ao10 t467.length co10:Value).ownBlock∧k_≠gb470) (Kd.S_N (Kd.S_bound ho1)) (fun k_ hk_=>⟨hk_.1,(Kd.fresh' (Kd.R_lt (uR_ HO_471000)) k_ hk_.2.1),(Kd.fresh' (Kd.N_lt (uN_ HO_471001)) k_ hk_.2.1),(Kd.freshB (g:=gb470) (o:=.cells #[.slice Ao8 t464.length co8,.slice Ao10 t467.length co10] 26 (0,0)) uq_ k_ hk_.2.1)⟩)) (below_size hB_));replace HO_471000:=a0_ (Kd.R_elder' (uR_ HO_471000) (Kd.R_base ho0) hb);replace HO_471001:=a0_ (Kd.N_mono (Kd.N_told (Kd.N_told (Kd.N_old (uN_ HO_471001) hb) (Kd.R_base ho0)) (Kd.S_base ho1)) (fun _ h_=>h_.1));replace BK470:=vb_ BK470 hb;replace HB:=sb_ HB hb;(try clear ho0 ho1 hb)) | ((with_reducible refine gate_dst (N:=5) rfl ?_);(try (refine gate_guard (by rfl) ?_;dsimp only));refine bx_ (N:=5) (cs:=#[.slice none 0 0,.slice none 0 0]) (t:=26) (h:=?_);intro gb481 hg w54 hbox hb;have BK481:=a0_ (hbox);have GW481:=gh_ HB hg;have GE481:=gh_ HB hg;have NB470_481:=nl_ BK470 hg;have NB481_470:=nr_ BK470 hg;replace HO_471000:=rb_ HO_471000 hb;replace HO_471001:=a0_ (Kd.N_below (Kd.N_elderB (uN_ HO_471001) gb481 (Nat.le_of_eq hg.symm)) hb);replace HO476:=rb_ HO476 hb;replace HO479:=a0_ (Kd.N_below (Kd.N_elderB (uN_ HO479) gb481 (Nat.le_of_eq hg.symm)) hb);replace BK470:=vb_ BK470 hb;replace HB:=sb_ HB hb;clear hb hbox hg;obtain⟨Ao55,co55,eo55⟩:=Kd.R_slice HO476.out;subst eo55;have hnb56:=NB481_470.out;have hnc56:=NB470_481.out;have hcz57_0:=c20_ BK481;have hcz57_1:=c21_ BK481;have hfz57_0:=fz_ BK481 0;have hfz57_1:=fz_ BK481 1;obtain⟨Ao58,co58,eo58⟩:=Kd.N_slice HO479.out;subst eo58;have hcz59_0:=c20_ BK470;have hcz59_1:=c21_ BK470;have hfz59_0:=fz_ BK470 0;have hfz59_1:=fz_ BK470 1) | ((with_reducible refine gate_callee (f:=10) rfl ?_);refine gL_ (some 34) Tryd.func10 #[.slice Ao8 t464.length co8] (h:=?_);(with_reducible refine (impl_LoopText.calls _ _ t464 t482 _ ?side1 ?side2 A23.out).mono ?_);(case side1=>refine (Kd.R_reads' (e:=37) (base:=w.heap.size) (ok:=fun k_=>(True∧some k_≠(.slice Ao55 t474.length co55:Value).ownBlock)) (n:=t464.length) (c:=co8) ?_).2.2;exact (by (with_reducible repeat (first | apply Kd.R_alloc | apply Kd.R_drewN | apply Kd.R_drew));exact (Kd.R_mono (Kd.R_far (p:=⟨gb481,1,none⟩) (Kd.R_far (p:=⟨gb481,0,none⟩) (Kd.R_types HO_471000.out BK481.out (by decide)) (fun _ hk=>hk.2) (.slice Ao55 t474.length co55)) (fun _ hk=>hk.2) (.slice Ao58 t477.length co58)) (fun _ h_=>h_.1))));(case side2=>exact (Kd.R_reads' HO_471000.out).2.1);rintro e w60 ⟨rfl,hb⟩;refine⟨_,rfl,?_⟩;replace HO_471000:=a0_ (Kd.R_below (by (with_reducible repeat (first | apply Kd.R_alloc | apply Kd.R_drewN | apply Kd.R_drew));exact (Kd.R_mono (Kd.R_far (p:=⟨gb481,1,none⟩) (Kd.R_far (p:=⟨gb481,0,none⟩) (Kd.R_types HO_471000.out BK481.out (by decide)) (fun _ hk=>hk.2) (.slice Ao55 t474.length co55)) (fun _ hk=>hk.2) (.slice Ao58 t477.length co58)) (fun _ h_=>h_.1))) hb);replace HO_471001:=a0_ (Kd.N_below (by (with_reducible repeat (first | apply Kd.N_alloc | apply Kd.N_drewN | apply Kd.N_drew));exact (Kd.N_mono (Kd.N_far (p:=⟨gb481,1,none⟩) (Kd.N_far (p:=⟨gb481,0,none⟩) (Kd.N_mono HO_471001.out (fun k_ hk=>(⟨hk,hk.2⟩:_∧k_≠gb481))) (fun _ hk=>hk.2) (.slice Ao55 t474.length co55)) (fun _ hk=>hk.2) (.slice Ao58 t477.length co58)) (fun _ h_=>h_.1))) hb);replace HO476:=a0_ (Kd.R_below (by (with_reducible repeat (first | apply Kd.R_alloc | apply Kd.R_drewN | apply Kd.R_drew));exact (Kd.R_mono (Kd.R_far (p:=⟨gb481,1,none⟩) (Kd.R_far (p:=⟨gb481,0,none⟩) (Kd.R_types HO476.out BK481.out (by decide)) (fun _ hk=>hk.2) (.slice Ao55 t474.length co55)) (fun _ hk=>hk.2) (.slice Ao58 t477.length co58)) (fun _ h_=>h_.1))) hb);replace HO479:=a0_ (Kd.N_below (by (with_reducible repeat (first | apply Kd.N_alloc | apply Kd.N_drewN | apply Kd.N_drew));exact (Kd.N_mono (Kd.N_far (p:=⟨gb481,1,none⟩) (Kd.N_far (p:=⟨gb481,0,none⟩) (Kd.N_mono HO479.out (fun k_ hk=>(⟨hk,hk.2⟩:_∧k_≠gb481))) (fun _ hk=>hk.2) (.slice Ao55 t474.length co55)) (fun _ hk=>hk.2) (.slice Ao58 t477.length co58)) (fun _ h_=>h_.1))) hb);replace BK470:=a0_ (blk_below (g:=gb470) (o:=.cells #[.slice Ao8 t464.length co8,.slice Ao10 t467.length co10] 26 (0,0)) uf_ hb);replace BK481:=a0_ (blk_below (g:=gb481) (o:=.cells #[.slice Ao55 t474.length co55,.slice Ao58 t477.length co58] 26 (0,0)) (by (with_reducible repeat (first | refine blk_drewN ?_ _ | refine blk_drew ?_ | refine blk_alloc ?_ _));refine blk_put (cs:=#[.slice Ao55 t474.length co55,.slice none 0 0]) ?_ 1 _ rfl;(with_reducible repeat (first | refine blk_drewN ?_ _ | refine blk_drew ?_ | refine blk_alloc ?_ _));refine blk_put (cs:=#[.slice none 0 0,.slice none 0 0]) ?_ 0 _ rfl;(with_reducible repeat (first | refine blk_drewN ?_ _ | refine blk_drew ?_ | refine blk_alloc ?_ _));exact BK481.out) hb);replace HB:=sb_ HB hb;(try clear hb);have hcz61_0:=c20_ BK481;have hcz61_1:=c21_ BK481;have hfz61_0:=fz_ BK481 0;have hfz61_1:=fz_ BK481 1;have hcz62_0:=c20_ BK470;have hcz62_1:=c21_ BK470;have hfz62_0:=fz_ BK470 0;have hfz62_1:=fz_ BK470 1) | (go_at_call 11;(with_reducible refine (laws_luPlates.calls kj4 _ _ t474 _ _ t477 _ _ t464 _ _ t467 false _ ?side1 ?side2 ?side3 ?side4 ?side5 ?side6 ?side7 ?side8 A26.out).mono ?_);(case side1=>repeat (first | exact (Kd.R_reads' HO476.out).2.2 | (with_reducible refine Kd.C_alloc ?_ _) | (with_reducible refine Kd.C_drewN ?_ _) | (with_reducible refine Kd.C_drew ?_)));(case side2=>exact (Kd.R_reads' HO476.out).2.1);(case side3=>repeat (first | exact (Kd.N_reads' HO479.out).2.2 | (with_reducible refine Kd.C_alloc ?_ _) | (with_reducible refine Kd.C_drewN ?_ _) | (with_reducible refine Kd.C_drew ?_)));(case side4=>exact (Kd.N_reads' HO479.out).2.1);(case side5=>repeat (first | exact (Kd.R_reads' HO_471000.out).2.2 | (with_reducible refine Kd.C_alloc ?_ _) | (with_reducible refine Kd.C_drewN ?_ _) | (with_reducible refine Kd.C_drew ?_)));(case side6=>exact (Kd.R_reads' HO_471000.out).2.1);(case side7=>repeat (first | exact (Kd.N_reads' HO_471001.out).2.2 | (with_reducible refine Kd.C_alloc ?_ _) | (with_reducible refine Kd.C_drewN ?_ _) | (with_reducible refine Kd.C_drew ?_)));(case side8=>exact (Kd.N_reads' HO_471001.out).2.1);rintro e w63 ⟨rfl,hb⟩;replace HO_471000:=rb_ HO_471000 hb;replace HO_471001:=nb_ HO_471001 hb;replace HO476:=rb_ HO476 hb;replace HO479:=nb_ HO479 hb;replace BK470:=vb_ BK470 hb;replace BK481:=vb_ BK481 hb;replace HB:=sb_ HB hb;(try clear hb)))
        go_ret;exact⟨rr_,hB_⟩
      ·
       replace c25:=Bool.eq_false_iff.mpr c25;subst c25;rw [if_neg (show ¬ (false=true) by decide)] at H
       (try dsimp only at H)
       obtain rfl:=Option.some.inj H
       go_wp2_with (first | ((with_reducible refine gate_callee (f:=9) rfl ?_);refine gL_ (some 29) Tryd.func9 #[.string t471] (h:=?_);(with_reducible refine (impl_PlateRead.calls kj4 t471 t474 t477 false _ A22.out).mono ?_);rintro e w64 ⟨v475,v478,rfl,ho0,ho1,hb⟩;refine⟨_,rfl,?_⟩;have HO476:=a0_ (Kd.R_lower (Kd.R_new' ho0 (Kd.R_lt (uR_ HO_471000))) (below_size hB_));have HO479:=a0_ (Kd.N_lower (Kd.N_mono (ok':=fun k_=>some k_≠(v475:Value).ownBlock∧some k_≠(.slice Ao8 t464.length co8:Value).ownBlock∧some k_≠(.slice Ao10 t467.length co10:Value).ownBlock∧k_≠gb470) (Kd.S_N (Kd.S_bound ho1)) (fun k_ hk_=>⟨hk_.1,(Kd.fresh' (Kd.R_lt (uR_ HO_471000)) k_ hk_.2.1),(Kd.fresh' (Kd.N_lt (uN_ HO_471001)) k_ hk_.2.1),(Kd.freshB (g:=gb470) (o:=.cells #[.slice Ao8 t464.length co8,.slice Ao10 t467.length co10] 26 (0,0)) uq_ k_ hk_.2.1)⟩)) (below_size hB_));replace HO_471000:=a0_ (Kd.R_elder' (uR_ HO_471000) (Kd.R_base ho0) hb);replace HO_471001:=a0_ (Kd.N_mono (Kd.N_told (Kd.N_told (Kd.N_old (uN_ HO_471001) hb) (Kd.R_base ho0)) (Kd.S_base ho1)) (fun _ h_=>h_.1));replace BK470:=vb_ BK470 hb;replace HB:=sb_ HB hb;(try clear ho0 ho1 hb)) | ((with_reducible refine gate_dst (N:=5) rfl ?_);(try (refine gate_guard (by rfl) ?_;dsimp only));refine bx_ (N:=5) (cs:=#[.slice none 0 0,.slice none 0 0]) (t:=26) (h:=?_);intro gb481 hg w65 hbox hb;have BK481:=a0_ (hbox);have GW481:=gh_ HB hg;have GE481:=gh_ HB hg;have NB470_481:=nl_ BK470 hg;have NB481_470:=nr_ BK470 hg;replace HO_471000:=rb_ HO_471000 hb;replace HO_471001:=a0_ (Kd.N_below (Kd.N_elderB (uN_ HO_471001) gb481 (Nat.le_of_eq hg.symm)) hb);replace HO476:=rb_ HO476 hb;replace HO479:=a0_ (Kd.N_below (Kd.N_elderB (uN_ HO479) gb481 (Nat.le_of_eq hg.symm)) hb);replace BK470:=vb_ BK470 hb;replace HB:=sb_ HB hb;clear hb hbox hg;obtain⟨Ao66,co66,eo66⟩:=Kd.R_slice HO476.out;subst eo66;have hnb67:=NB481_470.out;have hnc67:=NB470_481.out;have hcz68_0:=c20_ BK481;have hcz68_1:=c21_ BK481;have hfz68_0:=fz_ BK481 0;have hfz68_1:=fz_ BK481 1;obtain⟨Ao69,co69,eo69⟩:=Kd.N_slice HO479.out;subst eo69;have hcz70_0:=c20_ BK470;have hcz70_1:=c21_ BK470;have hfz70_0:=fz_ BK470 0;have hfz70_1:=fz_ BK470 1) | ((with_reducible refine gate_callee (f:=10) rfl ?_);refine gL_ (some 34) Tryd.func10 #[.slice Ao8 t464.length co8] (h:=?_);(with_reducible refine (impl_LoopText.calls _ _ t464 t482 _ ?side1 ?side2 A23.out).mono ?_);(case side1=>refine (Kd.R_reads' (e:=37) (base:=w.heap.size) (ok:=fun k_=>(True∧some k_≠(.slice Ao66 t474.length co66:Value).ownBlock)) (n:=t464.length) (c:=co8) ?_).2.2;exact (by (with_reducible repeat (first | apply Kd.R_alloc | apply Kd.R_drewN | apply Kd.R_drew));exact (Kd.R_mono (Kd.R_far (p:=⟨gb481,1,none⟩) (Kd.R_far (p:=⟨gb481,0,none⟩) (Kd.R_types HO_471000.out BK481.out (by decide)) (fun _ hk=>hk.2) (.slice Ao66 t474.length co66)) (fun _ hk=>hk.2) (.slice Ao69 t477.length co69)) (fun _ h_=>h_.1))));(case side2=>exact (Kd.R_reads' HO_471000.out).2.1);rintro e w71 ⟨rfl,hb⟩;refine⟨_,rfl,?_⟩;replace HO_471000:=a0_ (Kd.R_below (by (with_reducible repeat (first | apply Kd.R_alloc | apply Kd.R_drewN | apply Kd.R_drew));exact (Kd.R_mono (Kd.R_far (p:=⟨gb481,1,none⟩) (Kd.R_far (p:=⟨gb481,0,none⟩) (Kd.R_types HO_471000.out BK481.out (by decide)) (fun _ hk=>hk.2) (.slice Ao66 t474.length co66)) (fun _ hk=>hk.2) (.slice Ao69 t477.length co69)) (fun _ h_=>h_.1))) hb);replace HO_471001:=a0_ (Kd.N_below (by (with_reducible repeat (first | apply Kd.N_alloc | apply Kd.N_drewN | apply Kd.N_drew));exact (Kd.N_mono (Kd.N_far (p:=⟨gb481,1,none⟩) (Kd.N_far (p:=⟨gb481,0,none⟩) (Kd.N_mono HO_471001.out (fun k_ hk=>(⟨hk,hk.2⟩:_∧k_≠gb481))) (fun _ hk=>hk.2) (.slice Ao66 t474.length co66)) (fun _ hk=>hk.2) (.slice Ao69 t477.length co69)) (fun _ h_=>h_.1))) hb);replace HO476:=a0_ (Kd.R_below (by (with_reducible repeat (first | apply Kd.R_alloc | apply Kd.R_drewN | apply Kd.R_drew));exact (Kd.R_mono (Kd.R_far (p:=⟨gb481,1,none⟩) (Kd.R_far (p:=⟨gb481,0,none⟩) (Kd.R_types HO476.out BK481.out (by decide)) (fun _ hk=>hk.2) (.slice Ao66 t474.length co66)) (fun _ hk=>hk.2) (.slice Ao69 t477.length co69)) (fun _ h_=>h_.1))) hb);replace HO479:=a0_ (Kd.N_below (by (with_reducible repeat (first | apply Kd.N_alloc | apply Kd.N_drewN | apply Kd.N_drew));exact (Kd.N_mono (Kd.N_far (p:=⟨gb481,1,none⟩) (Kd.N_far (p:=⟨gb481,0,none⟩) (Kd.N_mono HO479.out (fun k_ hk=>(⟨hk,hk.2⟩:_∧k_≠gb481))) (fun _ hk=>hk.2) (.slice Ao66 t474.length co66)) (fun _ hk=>hk.2) (.slice Ao69 t477.length co69)) (fun _ h_=>h_.1))) hb);replace BK470:=a0_ (blk_below (g:=gb470) (o:=.cells #[.slice Ao8 t464.length co8,.slice Ao10 t467.length co10] 26 (0,0)) uf_ hb);replace BK481:=a0_ (blk_below (g:=gb481) (o:=.cells #[.slice Ao66 t474.length co66,.slice Ao69 t477.length co69] 26 (0,0)) (by (with_reducible repeat (first | refine blk_drewN ?_ _ | refine blk_drew ?_ | refine blk_alloc ?_ _));refine blk_put (cs:=#[.slice Ao66 t474.length co66,.slice none 0 0]) ?_ 1 _ rfl;(with_reducible repeat (first | refine blk_drewN ?_ _ | refine blk_drew ?_ | refine blk_alloc ?_ _));refine blk_put (cs:=#[.slice none 0 0,.slice none 0 0]) ?_ 0 _ rfl;(with_reducible repeat (first | refine blk_drewN ?_ _ | refine blk_drew ?_ | refine blk_alloc ?_ _));exact BK481.out) hb);replace HB:=sb_ HB hb;(try clear hb)))
       go_ret;exact⟨rr_,hB_⟩
     ·
      rw [if_neg c24] at H;exact absurd H (by simp)
def laws_FnPlateBack.Pure:Prop:=∀ (l0:List Int),l0.length≤maxLen→l0.length*1≤140737488351232→(∀ x∈l0,(Lit.int .u8 x).wf=true)→∃ k,laws_FnPlateBack.f k l0=some true
theorem laws_FnPlateBack.walk (P:laws_FnPlateBack.Pure)(a0:Option Addr)(len0 cap0:Nat)(z0:List Int)(w:World)(w0:(a0=none∧len0=0∧cap0=0∧z0=[])∨∃ x,a0=some x∧len0≤cap0∧cap0≤maxLen∧z0.length=cap0∧(∀ i,i<z0.length→w.cell? (x.add i)=some (.int .u8 (z0.getD i 0)))∧∀ n∈z0,(Lit.int .u8 n).wf=true)(y0:len0*1≤140737488351232):
  Calls Tryd.prog 3 #[.slice a0 len0 cap0] w fun e w'=>e=.returned (.bool true)∧Below w.heap.size w w':=by
 obtain⟨l0,rfl,hr0,hm0,hw0,hc0⟩:=ReadsInt.ofRowC w0;obtain⟨k,h⟩:=P l0 hm0 y0 hw0;refine (laws_FnPlateBack.calls k _ _ l0 true w (Kd.C_of_reads (d:=(0:Int)) (h1:=fun _=>rfl) hr0) hc0 h).mono ?_;rintro e w' ⟨rfl,hd⟩;exact⟨rfl,hd⟩
end Go.Proofs.YtailkppkjhkjpaaDoor.X
end
section
set_option linter.unusedVariables false
set_option linter.unusedSimpArgs false
namespace Go.Proofs.YtailkppkjhkjpaaDoor.X
open Go.RowKit Go.Proofs.YtailkppkjhkjpaaDoorW.PrintWords Go.Proofs.YtailkppkjhkjpaaDoorW.PrintLast Go.Proofs.YtailkppkjhkjpaaDoorW.PrintMore
open Mort (edges loopOk ptOk segOk has meet ed pairOk joined apartB)
theorem rd_es (z:List S37){i:Nat}(h:i<z.length):rd_T89 (esOf z) (i:Int)=edS z i:=esOf_getD z h
theorem seg_ends {s:S89}(h:segOk (sgP s)=true):ptOk (s.f0.f0,s.f0.f1)=true∧ptOk (s.f1.f0,s.f1.f1)=true:=⟨((Mort.segOk_iff _).1 h).1,((Mort.segOk_iff _).1 h).2.1⟩
theorem sHasS {s:S89}{x y:Int}(h:segOk (sgP s)=true)(hp:ptOk (x,y)=true):spec_l2Has.f s.f0.f0 s.f0.f1 s.f1.f0 s.f1.f1 x y=some (has (sgP s) (x,y)):=sHas (seg_ends h).1 (seg_ends h).2 hp
theorem sMeetS {s t:S89}(h:segOk (sgP s)=true)(h':segOk (sgP t)=true):spec_l2Meet.f s.f0.f0 s.f0.f1 s.f1.f0 s.f1.f1 t.f0.f0 t.f0.f1 t.f1.f0 t.f1.f1=some (meet (sgP s) (sgP t)):=sMeet (seg_ends h).1 (seg_ends h).2 (seg_ends h').1 (seg_ends h').2
theorem succ64 {i:Nat}(h:i≤100000):wrap64 ((i:Int)+1)=((i+1:Nat):Int):=by rw [w64i (by omega) (by omega)];rfl
def rowJ (l:List Mort.Pt)(i j:Nat):Bool:=decide ((j+1) % l.length=i) || !meet (ed l i) (ed l j)
def rowI (l:List Mort.Pt)(i:Nat):Bool:=joined (ed l i) (ed l ((i+1) % l.length)) && (List.range' (i+2) (l.length-(i+2))).all (rowJ l i)
section
variable (z:List S37) (h8:z.length≤8) (hall:∀ i,i<z.length→segOk (sgP (edS z i))=true)
include h8 hall
theorem loop_l2 (i:Nat)(hi:i<z.length)(R:Bool)(K:Nat)(hR:∀ k,K≤k→spec_LoopOk.l1 k (z.length:Int) (esOf z) ((i+1:Nat):Int)=some R):
  ∀ (m j k:Nat),z.length-j=m→j≤10→K+m+1≤k→spec_LoopOk.l2 k (z.length:Int) (esOf z) (i:Int) (j:Int)=some ((List.range' j m).all (rowJ (z.map ptP) i) && R):=by
 intro m
 induction m with
 | zero =>
  intro j k hm hj hk;obtain⟨k,rfl⟩:∃ q,k=q+1:=⟨k-1,by omega⟩;simp only [spec_LoopOk.l2];rw [if_neg (by omega),succ64 (by omega),hR k (by omega)];simp
 | succ m ih =>
  intro j k hm hj hk;obtain⟨k,rfl⟩:∃ q,k=q+1:=⟨k-1,by omega⟩;simp only [spec_LoopOk.l2];rw [if_pos (by omega),if_neg (by omega),succ64 (by omega)];have ht:Int.tmod ((j+1:Nat):Int) (z.length:Int)=(((j+1) % z.length:Nat):Int):=rfl;rw [ht,List.range'_succ,List.all_cons];by_cases hq:(j+1) % z.length=i
  ·
   rw [if_pos (by omega),ih (j+1) k (by omega) (by omega) (by omega)];have:rowJ (z.map ptP) i j=true:=by unfold rowJ;rw [List.length_map,decide_eq_true hq];rfl
   rw [this,Bool.true_and]
  ·
   rw [if_neg (by omega),if_pos (by omega),if_pos (by rw [esOf_len];omega),if_pos (by omega),if_pos (by rw [esOf_len];omega)];rw [rd_es z hi,rd_es z (by omega),sMeetS (hall i hi) (hall j (by omega)),Option.bind_some];have hrow:rowJ (z.map ptP) i j = !meet (sgP (edS z i)) (sgP (edS z j)):=by unfold rowJ;rw [List.length_map,decide_eq_false hq,ed_edS,ed_edS];rfl
   rw [hrow]
   cases hm2:meet (sgP (edS z i)) (sgP (edS z j)) with
   | true=>rw [if_pos rfl];simp
   | false=>rw [if_neg (by decide),ih (j+1) k (by omega) (by omega) (by omega)];simp
theorem loop_l1:∀ (m i k:Nat),z.length-i=m→i≤z.length→m*20+1≤k→spec_LoopOk.l1 k (z.length:Int) (esOf z) (i:Int)=some ((List.range' i m).all (rowI (z.map ptP))):=by
 intro m
 induction m with
 | zero =>
  intro i k hm hi hk;obtain⟨k,rfl⟩:∃ q,k=q+1:=⟨k-1,by omega⟩;simp only [spec_LoopOk.l1];rw [if_neg (by omega)];simp
 | succ m ih =>
  intro i k hm hi hk;obtain⟨k,rfl⟩:∃ q,k=q+2:=⟨k-2,by omega⟩;simp only [spec_LoopOk.l1];have hlt:=Nat.mod_lt (i+1) (show 0<z.length by omega);have ht:Int.tmod ((i+1:Nat):Int) (z.length:Int)=(((i+1) % z.length:Nat):Int):=rfl;rw [if_pos (by omega),if_pos (by omega),if_pos (by rw [esOf_len];omega),if_neg (by omega),succ64 (by omega),ht,if_pos (by omega),if_pos (by rw [esOf_len];omega)];rw [rd_es z (by omega:i<z.length),rd_es z hlt];generalize hq:(i+1) % z.length=q at hlt;have o1:=hall i (by omega);have o2:=hall q hlt;rw [sHasS o1 (seg_ends o2).2,Option.bind_some,sHasS o2 (seg_ends o1).1,Option.bind_some];have hrow:rowI (z.map ptP) i=((!has (sgP (edS z i)) (sgP (edS z q)).2 && !has (sgP (edS z q)) (sgP (edS z i)).1) && (List.range' (i+2) (z.length-(i+2))).all (rowJ (z.map ptP) i)):=by
   unfold rowI joined;rw [List.length_map,hq,ed_edS,ed_edS]
  have e2:(ptP (edS z q).f1)=((edS z q).f1.f0,(edS z q).f1.f1):=rfl;rw [List.range'_succ,List.all_cons,hrow]
  show (if has (sgP (edS z i)) (sgP (edS z q)).2=true then _ else spec_LoopOk.j2 (k+1) _ _ _ (has (sgP (edS z q)) (sgP (edS z i)).1))=_
  cases has (sgP (edS z i)) (sgP (edS z q)).2 with
  | true=>rw [if_pos rfl];simp only [spec_LoopOk.j2];simp
  | false =>
   rw [if_neg (by decide)];simp only [spec_LoopOk.j2]
   cases has (sgP (edS z q)) (sgP (edS z i)).1 with
   | true=>rw [if_pos rfl];simp
   | false =>
    rw [if_neg (by decide)];have hw:wrap64 ((i:Int)+2)=((i+2:Nat):Int):=by rw [w64i (by omega) (by omega)];rfl
    rw [hw,loop_l2 z h8 hall i (by omega) _ (m*20+1) (fun k hk=>ih (i+1) k (by omega) (by omega) hk) (z.length-(i+2)) (i+2) k rfl (by omega) (by omega)];simp
end
theorem loop_l0 (z:List S37)(h8:z.length≤8):∀ (m i k:Nat),z.length-i=m→i≤z.length→m+200≤k→(∀ j,j<i→segOk (sgP (edS z j))=true) →
  spec_LoopOk.l0 k (z.length:Int) (esOf z) (i:Int)=some ((List.range' i m).all (fun j=>segOk (sgP (edS z j))) && (List.range' 0 z.length).all (rowI (z.map ptP))):=by
 intro m
 induction m with
 | zero =>
  intro i k hm hi hk hp;obtain⟨k,rfl⟩:∃ q,k=q+1:=⟨k-1,by omega⟩;simp only [spec_LoopOk.l0];rw [if_neg (by omega),show (0:Int)=((0:Nat):Int) from rfl,loop_l1 z h8 (fun j hj=>hp j (by omega)) z.length 0 k (by omega) (by omega) (by omega)];simp
 | succ m ih =>
  intro i k hm hi hk hp;obtain⟨k,rfl⟩:∃ q,k=q+1:=⟨k-1,by omega⟩;simp only [spec_LoopOk.l0];rw [if_pos (by omega),if_pos (by omega),if_pos (by rw [esOf_len];omega),rd_es z (by omega:i<z.length),sSegOk,Option.bind_some,List.range'_succ,List.all_cons]
  show (if segOk (sgP (edS z i))=true then _ else _)=_
  cases ho:segOk (sgP (edS z i)) with
  | true =>
   rw [if_pos rfl,succ64 (by omega),ih (i+1) k (by omega) (by omega) (by omega) (fun j hj=>by
    by_cases hji:j=i
    ·
     rw [hji];exact ho
    ·
     exact hp j (by omega))]
   simp
  | false=>rw [if_neg (by decide)];simp
theorem rows_pairs (l:List Mort.Pt)(h3:3≤l.length):(List.range' 0 l.length).all (rowI l)=(List.range l.length).all fun i=>(List.range l.length).all fun j=>pairOk l i j:=by
 rw [Bool.eq_iff_iff];simp only [List.all_eq_true,List.mem_range'_1,List.mem_range];constructor
 ·
  intro h i hi j hj;have row:∀ i,i<l.length→joined (ed l i) (ed l ((i+1) % l.length))=true∧∀ j,i+2≤j→j<l.length→rowJ l i j=true:=fun i hi=>by
   have:=h i ⟨by omega,by omega⟩;unfold rowI at this;simp only [Bool.and_eq_true,List.all_eq_true,List.mem_range'_1] at this;exact⟨this.1,fun j h1 h2=>this.2 j ⟨h1,by omega⟩⟩
  unfold pairOk;by_cases h1:j≤i
  ·
   rw [if_pos h1]
  ·
   rw [if_neg h1];by_cases h2:j=i+1
   ·
    rw [if_pos h2];have:=(row i hi).1
    rwa [Nat.mod_eq_of_lt (by omega),← h2] at this
   ·
    rw [if_neg h2];by_cases h4:i=0∧j+1=l.length
    ·
     rw [if_pos h4];have:=(row j hj).1
     rwa [h4.2,Nat.mod_self,← h4.1] at this
    ·
     rw [if_neg h4];have:=(row i hi).2 j (by omega) hj;unfold rowJ at this;have hne:(j+1) % l.length≠i:=by
      intro e;by_cases hj2:j+1<l.length
      ·
       rw [Nat.mod_eq_of_lt hj2] at e;omega
      ·
       have e2:j+1=l.length:=by omega
       rw [e2,Nat.mod_self] at e;exact h4 ⟨e.symm,e2⟩
     rwa [decide_eq_false hne,Bool.false_or] at this
 ·
  intro h i hi;have hi2:i<l.length:=by omega
  unfold rowI;simp only [Bool.and_eq_true,List.all_eq_true,List.mem_range'_1];refine⟨?_,fun j hj=>?_⟩
  ·
   by_cases h1:i+1<l.length
   ·
    have:=h i hi2 (i+1) h1;unfold pairOk at this;rw [if_neg (by omega),if_pos rfl] at this
    rwa [Nat.mod_eq_of_lt h1]
   ·
    have e2:i+1=l.length:=by omega
    have:=h 0 (by omega) i hi2;unfold pairOk at this;rw [if_neg (by omega),if_neg (by omega),if_pos ⟨rfl,e2⟩] at this
    rwa [e2,Nat.mod_self]
  ·
   unfold rowJ;by_cases hq:(j+1) % l.length=i
   ·
    rw [decide_eq_true hq];rfl
   ·
    rw [decide_eq_false hq,Bool.false_or];have:=h i hi2 j (by omega);unfold pairOk at this;rw [if_neg (by omega),if_neg (by omega),if_neg (fun e=>hq (by rw [e.2,Nat.mod_self];exact e.1.symm))] at this;exact this
theorem sLoopOk {k:Nat}(hk:300≤k)(z:List S37):spec_LoopOk.f k z=some (loopOk (z.map ptP)):=by
 unfold spec_LoopOk.f loopOk;rw [l6In_told,Option.bind_some,List.length_map];have e0:(decide (3≤(z.length:Int)) && decide ((z.length:Int)≤8))=(decide (3≤z.length) && decide (z.length≤8)):=by
  congr 1
  ·
   rw [decide_eq_decide];omega
  ·
   rw [decide_eq_decide];omega
 rw [e0];by_cases hn:3≤z.length∧z.length≤8
 ·
  rw [decide_eq_true hn.1,decide_eq_true hn.2,Bool.and_self,if_pos rfl,sEdges (by omega) (by omega),Option.bind_some,Bool.true_and,show (0:Int)=((0:Nat):Int) from rfl,loop_l0 z hn.2 z.length 0 k (by omega) (by omega) (by omega) (fun j hj=>by omega)];have h3:=rows_pairs (z.map ptP) (by rw [List.length_map];exact hn.1);rw [List.length_map] at h3;rw [h3,Mort.edges_eq,List.length_map,List.all_map,List.range_eq_range']
  congr 3
  funext i
  show _=segOk (ed (z.map ptP) i)
  rw [ed_edS]
 ·
  have:(decide (3≤z.length) && decide (z.length≤8))=false:=by
   by_cases h1:3≤z.length
   ·
    rw [decide_eq_false (show ¬ z.length≤8 from fun h2=>hn ⟨h1,h2⟩),Bool.and_false]
   ·
    rw [decide_eq_false h1,Bool.false_and]
  rw [this,if_neg (by decide),Bool.false_and]
theorem ok_facts {z:List S37}(h:loopOk (z.map ptP)=true):3≤z.length∧z.length≤8∧∀ i,i<z.length→segOk (sgP (edS z i))=true:=by
 obtain⟨h1,h2,h3,_⟩:=(Mort.loopOk_iff _).1 h;rw [List.length_map] at h1 h2;refine⟨h1,h2,fun i hi=>?_⟩;have:=h3 _ (Mort.mem_edges.2 ⟨i,by simpa using hi,rfl⟩)
 rwa [ed_edS] at this
theorem apart_l1 (a b:List S37)(ha:loopOk (a.map ptP)=true)(hb:loopOk (b.map ptP)=true)(i:Nat)(hi:i<a.length)(R:Bool)(K:Nat)(hR:∀ k,K≤k→spec_l11Apart.l0 k (esOf a) (esOf b) ((i+1:Nat):Int)=some R):
  ∀ (m j k:Nat),b.length-j=m→j≤b.length→K+m+1≤k→spec_l11Apart.l1 k (esOf a) (esOf b) (i:Int) (j:Int)=some ((List.range' j m).all (fun j => !meet (sgP (edS a i)) (sgP (edS b j))) && R):=by
 obtain⟨a3,a8,aok⟩:=ok_facts ha;obtain⟨b3,b8,bok⟩:=ok_facts hb;intro m
 induction m with
 | zero =>
  intro j k hm hj hk;obtain⟨k,rfl⟩:∃ q,k=q+1:=⟨k-1,by omega⟩;simp only [spec_l11Apart.l1];rw [if_neg (by rw [esOf_len];omega),succ64 (by omega),hR k (by omega)];simp
 | succ m ih =>
  intro j k hm hj hk;obtain⟨k,rfl⟩:∃ q,k=q+1:=⟨k-1,by omega⟩;simp only [spec_l11Apart.l1];rw [if_pos (by rw [esOf_len];omega),if_pos (by omega),if_pos (by rw [esOf_len];omega),if_pos (by omega),rd_es a hi,rd_es b (by omega),sMeetS (aok i hi) (bok j (by omega)),Option.bind_some,List.range'_succ,List.all_cons]
  cases meet (sgP (edS a i)) (sgP (edS b j)) with
  | true=>rw [if_pos rfl];simp
  | false=>rw [if_neg (by decide),succ64 (by omega),ih (j+1) k (by omega) (by omega) (by omega)];simp
theorem apart_l0 (a b:List S37)(ha:loopOk (a.map ptP)=true)(hb:loopOk (b.map ptP)=true):
  ∀ (m i k:Nat),a.length-i=m→i≤a.length→m*20+1≤k→spec_l11Apart.l0 k (esOf a) (esOf b) (i:Int)=some ((List.range' i m).all (fun i=>(List.range' 0 b.length).all (fun j => !meet (sgP (edS a i)) (sgP (edS b j))))):=by
 obtain⟨a3,a8,aok⟩:=ok_facts ha;obtain⟨b3,b8,bok⟩:=ok_facts hb;intro m
 induction m with
 | zero =>
  intro i k hm hi hk;obtain⟨k,rfl⟩:∃ q,k=q+1:=⟨k-1,by omega⟩;simp only [spec_l11Apart.l0];rw [if_neg (by rw [esOf_len];omega)];simp
 | succ m ih =>
  intro i k hm hi hk;obtain⟨k,rfl⟩:∃ q,k=q+1:=⟨k-1,by omega⟩;simp only [spec_l11Apart.l0]
  rw [if_pos (by rw [esOf_len];omega),List.range'_succ,List.all_cons,show (0:Int)=((0:Nat):Int) from rfl,
   apart_l1 a b ha hb i (by omega) _ (m*20+1) (fun k hk=>ih (i+1) k (by omega) (by omega) hk) b.length 0 k (by omega) (by omega) (by omega)]
theorem sApart {k:Nat}(hk:300≤k){a b:List S37}(ha:loopOk (a.map ptP)=true)(hb:loopOk (b.map ptP)=true):spec_l11Apart.f k a b=some (apartB (a.map ptP) (b.map ptP)):=by
 obtain⟨a3,a8,aok⟩:=ok_facts ha;obtain⟨b3,b8,bok⟩:=ok_facts hb;unfold spec_l11Apart.f apartB;rw [sEdges (by omega) (by omega),sEdges (by omega) (by omega),Option.bind_some,Option.bind_some,show (0:Int)=((0:Nat):Int) from rfl,apart_l0 a b ha hb a.length 0 k (by omega) (by omega) (by omega)];rw [Mort.edges_eq (a.map ptP),Mort.edges_eq (b.map ptP),List.length_map,List.length_map,List.all_map,List.range_eq_range']
 congr 2
 funext i
 show _=((List.range b.length).map (ed (b.map ptP))).all _
 rw [List.all_map,List.range_eq_range']
 congr 1
 funext j
 show _ = !meet (ed (a.map ptP) i) (ed (b.map ptP) j)
 rw [ed_edS,ed_edS]
end Go.Proofs.YtailkppkjhkjpaaDoor.X
end
section
set_option linter.unusedVariables false
set_option linter.unusedSimpArgs false
namespace Mort
end Mort
namespace Go.Proofs.YtailkppkjhkjpaaDoor.X
open Go.RowKit Go.Proofs.YtailkppkjhkjpaaDoorW.PrintWords Go.Proofs.YtailkppkjhkjpaaDoorW.PrintLast Go.Proofs.YtailkppkjhkjpaaDoorW.PrintMore
open Mort (edges loopOk ptOk segOk has meet ed pairOk joined apartB plateOk inOf segMeet)
def pl (o:List S37)(H:List (List S37)):Mort.Plate:=(o.map ptP,H.map (List.map ptP))
theorem fst_pt (z:List S37):(z.map ptP).getD 0 (0,0)=fstP z:=ptP_getD z 0
theorem apart_ix (a b:List S37):apartB (a.map ptP) (b.map ptP)=true ↔ ∀ i,i<a.length→∀ j,j<b.length→meet (sgP (edS a i)) (sgP (edS b j))=false:=by
 rw [Mort.apartB_iff];constructor
 ·
  intro h i hi j hj;rw [← ed_edS,← ed_edS];exact h _ (Mort.mem_edges.2 ⟨i,by simpa using hi,rfl⟩) _ (Mort.mem_edges.2 ⟨j,by simpa using hj,rfl⟩)
 ·
  intro h e he f hf;obtain⟨i,hi,rfl⟩:=Mort.mem_edges.1 he;obtain⟨j,hj,rfl⟩:=Mort.mem_edges.1 hf;rw [ed_edS,ed_edS];exact h i (by simpa using hi) j (by simpa using hj)
theorem meetsB_eq {a b:List S37}(ha:loopOk (a.map ptP)=true)(hb:loopOk (b.map ptP)=true):(!meetsB a b)=apartB (a.map ptP) (b.map ptP):=by
 obtain⟨_,_,aok⟩:=ok_facts ha;obtain⟨_,_,bok⟩:=ok_facts hb;rw [Bool.eq_iff_iff,apart_ix];unfold meetsB;rw [Bool.not_eq_true',List.any_eq_false];constructor
 ·
  intro h i hi j hj;have h1:=h ⟨i,hi⟩ (List.mem_finRange _);rw [Bool.not_eq_true,List.any_eq_false] at h1;have h2:=h1 ⟨j,hj⟩ (List.mem_finRange _)
  cases hm:meet (sgP (edS a i)) (sgP (edS b j)) with
  | false=>rfl
  | true=>exact absurd ((Mort.segMeet_iff _ _).2 ⟨aok i hi,bok j hj,hm⟩) h2
 ·
  intro h i _ h1;rw [List.any_eq_true] at h1;obtain⟨j,_,h2⟩:=h1;have:=h i i.2 j j.2;rw [((Mort.segMeet_iff _ _).1 h2).2.2] at this;cases this
theorem iBodyOk (o:List S37)(H:List (List S37)):bodyOkB o H=plateOk (pl o H):=by
 unfold bodyOkB plateOk pl Mort.nested;simp only [List.length_map]
 match H with
 | [] =>
  simp only [List.length_nil,List.all_nil,List.map_nil,apartAll,nestedAll,List.range'_zero,Bool.and_true,Bool.true_and]
 | [a] =>
  simp only [List.length_cons,List.length_nil,List.all_cons,List.all_nil,List.map_cons,List.map_nil,apartAll,nestedAll,List.range'_succ,List.range'_zero,rowN,okN,Bool.and_true,Bool.true_and,fst_pt,inS,List.getD_cons_zero,beq_self_eq_true,Bool.true_or];cases ho:loopOk (o.map ptP) <;> cases ha:loopOk (a.map ptP) <;> try rfl
  rw [meetsB_eq ho ha];simp [Nat.zero_le]
 | [a,b] =>
  simp only [List.length_cons,List.length_nil,List.all_cons,List.all_nil,List.map_cons,List.map_nil,apartAll,nestedAll,List.range'_succ,List.range'_zero,rowN,okN,Bool.and_true,Bool.true_and,fst_pt,inS,List.getD_cons_zero,List.getD_cons_succ,beq_self_eq_true,Bool.true_or];cases ho:loopOk (o.map ptP) <;> cases ha:loopOk (a.map ptP) <;> cases hb:loopOk (b.map ptP) <;> try rfl
  rw [meetsB_eq ho ha,meetsB_eq ho hb,meetsB_eq ha hb];generalize apartB (o.map ptP) (a.map ptP)=t1;generalize apartB (o.map ptP) (b.map ptP)=t2;generalize apartB (a.map ptP) (b.map ptP)=t3;generalize (inOf (o.map ptP) (fstP a)==1)=t4;generalize (inOf (o.map ptP) (fstP b)==1)=t5;generalize (inOf (b.map ptP) (fstP a) == -1)=t6;generalize (inOf (a.map ptP) (fstP b) == -1)=t7;cases t1 <;> cases t2 <;> cases t3 <;> cases t4 <;> cases t5 <;> cases t6 <;> cases t7 <;> rfl
 | a::b::c::r =>
  rw [decide_eq_false (by simp only [List.length_cons];omega)];rfl
end Go.Proofs.YtailkppkjhkjpaaDoor.X
end
section
set_option linter.unusedVariables false
set_option linter.unusedSimpArgs false
namespace Go.Proofs.YtailkppkjhkjpaaDoor.X
open Go.RowKit Go.Proofs.YtailkppkjhkjpaaDoorW.PrintWords Go.Proofs.YtailkppkjhkjpaaDoorW.PrintLast Go.Proofs.YtailkppkjhkjpaaDoorW.PrintMore
open Mort (edges loopOk ptOk segOk has meet ed pairOk joined apartB plateOk inOf segMeet)
theorem fst_ok {z:List S37}(h:loopOk (z.map ptP)=true):ptOk ((rd_T37 z 0).f0,(rd_T37 z 0).f1)=true:=by
 obtain⟨h3,_,hok⟩:=ok_facts h;exact (seg_ends (hok 0 (by omega))).1
theorem sL3In {z:List S37}{x y:Int}(h:loopOk (z.map ptP)=true)(hp:ptOk (x,y)=true):spec_l3In.f z x y=some (inOf (z.map ptP) (x,y)):=by
 unfold spec_l3In.f;rw [if_pos ⟨h,hp⟩]
theorem sL3Fst {z a:List S37}(h:loopOk (z.map ptP)=true)(ha:loopOk (a.map ptP)=true):spec_l3In.f z (rd_T37 a 0).f0 (rd_T37 a 0).f1=some (inOf (z.map ptP) (fstP a)):=sL3In h (fst_ok ha)
def holeOk (o a:List S37):Bool:=loopOk (a.map ptP) && (inOf (o.map ptP) (fstP a)==1 && apartB (o.map ptP) (a.map ptP))
def pairH (a b:List S37):Bool:=apartB (a.map ptP) (b.map ptP) && (inOf (b.map ptP) (fstP a) == -1 && inOf (a.map ptP) (fstP b) == -1)
theorem plate_hole {o:List S37}{H:List (List S37)}(ho:loopOk (o.map ptP)=true)(i:Nat)(hi:i<H.length){k:Nat}(hk:300≤k):
  spec_PlateOk.l0 (k+2) (i:Int) o H=if holeOk o (rd_L5 H (i:Int)) then spec_PlateOk.l1 k (i:Int) (rd_L5 H (i:Int)) 0 o H else some false:=by
 simp only [spec_PlateOk.l0];rw [if_pos (by omega),if_pos (by omega),sLoopOk (by omega),Option.bind_some];generalize rd_L5 H (i:Int)=a;unfold holeOk
 cases ha:loopOk (a.map ptP) with
 | false=>rw [if_neg (by decide)];simp only [spec_PlateOk.j2];simp
 | true =>
  obtain⟨h3,_,_⟩:=ok_facts ha;rw [if_pos rfl,if_pos (by omega),sL3Fst ho ha,Option.bind_some];by_cases h1:inOf (o.map ptP) (fstP a)=1
  ·
   rw [if_pos h1,sApart (by omega) ho ha,Option.bind_some];simp only [spec_PlateOk.j2];rw [h1];cases apartB (o.map ptP) (a.map ptP) <;> simp
  ·
   rw [if_neg h1,beq_eq_false_iff_ne.2 h1];simp only [spec_PlateOk.j2];simp
theorem sPlateOk {k:Nat}(hk:1000≤k)(o:List S37)(H:List (List S37)):spec_PlateOk.f k o H=some (plateOk (pl o H)):=by
 unfold spec_PlateOk.f;rw [sLoopOk (by omega),Option.bind_some];obtain⟨k,rfl⟩:∃ q,k=q+10:=⟨k-10,by omega⟩
 cases ho:loopOk (o.map ptP) with
 | false =>
  rw [if_neg (by decide)];simp only [spec_PlateOk.j0];unfold plateOk pl;simp only;rw [ho];simp
 | true =>
  rw [if_pos rfl];by_cases h2:H.length≤2
  ·
   rw [decide_eq_false (by omega)];simp only [spec_PlateOk.j0];rw [if_neg (by decide)];unfold plateOk pl Mort.nested;simp only [List.length_map];rw [ho,decide_eq_true h2]
   match H,h2 with
   | [],_=>simp only [spec_PlateOk.l0];simp
   | [a],_ =>
    refine Eq.trans (show spec_PlateOk.l0 (k+9) 0 o [a]=_ from plate_hole (k:=k+7) ho 0 (by simp) (by omega)) ?_;have e1:spec_PlateOk.l1 (k+7) ((0:Nat):Int) a 0 o [a]=some true:=by
     simp only [spec_PlateOk.l1];rw [if_neg (by omega),show wrap64 (((0:Nat):Int)+1)=1 by unfold wrap64;omega];simp only [spec_PlateOk.l0];rw [if_neg (by simp)]
    show (if holeOk o a then spec_PlateOk.l1 (k+7) ((0:Nat):Int) a 0 o [a] else _)=_
    rw [e1];unfold holeOk;simp only [List.map_cons,List.map_nil,List.all_cons,List.all_nil,Bool.and_true,Bool.true_and,fst_pt];generalize loopOk (a.map ptP)=t1;generalize (inOf (o.map ptP) (fstP a)==1)=t2;generalize apartB (o.map ptP) (a.map ptP)=t3;cases t1 <;> cases t2 <;> cases t3 <;> rfl
   | [a,b],_ =>
    refine Eq.trans (show spec_PlateOk.l0 (k+9) 0 o [a,b]=_ from plate_hole (k:=k+7) ho 0 (by simp) (by omega)) ?_;have e1:spec_PlateOk.l1 (k+7) ((0:Nat):Int) a 0 o [a,b]=if holeOk o b then spec_PlateOk.l1 (k+4) ((1:Nat):Int) b 0 o [a,b] else some false:=by
     simp only [spec_PlateOk.l1];rw [if_neg (by omega),show wrap64 (((0:Nat):Int)+1)=((1:Nat):Int) by unfold wrap64;omega,plate_hole (k:=k+4) ho 1 (by simp) (by omega)];rfl
    show (if holeOk o a then spec_PlateOk.l1 (k+7) ((0:Nat):Int) a 0 o [a,b] else _)=_
    rw [e1];have hp:holeOk o a=true→holeOk o b=true→spec_PlateOk.l1 (k+4) ((1:Nat):Int) b 0 o [a,b]=some (pairH b a):=by
     intro h1 h2;have ha:loopOk (a.map ptP)=true:=by unfold holeOk at h1;cases h:loopOk (a.map ptP) with | true=>rfl | false=>rw [h] at h1;cases h1
     have hb:loopOk (b.map ptP)=true:=by unfold holeOk at h2;cases h:loopOk (b.map ptP) with | true=>rfl | false=>rw [h] at h2;cases h2
     obtain⟨a3,_,_⟩:=ok_facts ha;obtain⟨b3,_,_⟩:=ok_facts hb;simp only [spec_PlateOk.l1];rw [if_pos (by omega),if_pos (by omega),if_pos (by simp)];rw [show rd_L5 [a,b] 0=a from rfl,sApart (by omega) hb ha,Option.bind_some];unfold pairH
     cases apartB (b.map ptP) (a.map ptP) with
     | false=>rw [if_neg (by decide)];rfl
     | true =>
      rw [if_pos rfl,if_pos (by omega),sL3Fst ha hb,Option.bind_some];by_cases e1:inOf (a.map ptP) (fstP b) = -1
      ·
       rw [if_pos e1,if_pos (by omega),sL3Fst hb ha,Option.bind_some,e1];by_cases e2:inOf (b.map ptP) (fstP a) = -1
       ·
        rw [if_pos e2,e2];have hw0:wrap64 (0+1)=1:=by unfold wrap64;omega
        rw [hw0,if_neg (by omega)];have hw2:wrap64 (((1:Nat):Int)+1)=2:=by unfold wrap64;omega
        rw [hw2];simp only [spec_PlateOk.l0];rw [if_neg (by simp)];rfl
       ·
        rw [if_neg e2,beq_eq_false_iff_ne.2 e2];rfl
      ·
       rw [if_neg e1,beq_eq_false_iff_ne.2 e1];rfl
    have hc:=Mort.apartB_comm (a.map ptP) (b.map ptP);simp only [List.map_cons,List.map_nil,List.all_cons,List.all_nil,Bool.and_true,Bool.true_and,fst_pt]
    cases h1:holeOk o a with
    | false =>
     rw [if_neg (by decide)];unfold holeOk at h1;revert h1;generalize loopOk (a.map ptP)=t1;generalize (inOf (o.map ptP) (fstP a)==1)=t2;generalize apartB (o.map ptP) (a.map ptP)=t3;intro h1;cases t1 <;> cases t2 <;> cases t3 <;> simp at h1 ⊢
    | true =>
     rw [if_pos rfl]
     cases h2:holeOk o b with
     | false =>
      rw [if_neg (by decide)];unfold holeOk at h2;revert h2;generalize loopOk (b.map ptP)=t1;generalize (inOf (o.map ptP) (fstP b)==1)=t2;generalize apartB (o.map ptP) (b.map ptP)=t3;intro h2;cases t1 <;> cases t2 <;> cases t3 <;> simp at h2 ⊢
     | true =>
      rw [if_pos rfl,hp h1 h2];unfold holeOk at h1 h2;unfold pairH;rw [hc];simp only [Bool.and_eq_true] at h1 h2;rw [h1.1,h1.2.1,h1.2.2,h2.1,h2.2.1,h2.2.2];generalize apartB (b.map ptP) (a.map ptP)=t1;generalize (inOf (b.map ptP) (fstP a) == -1)=t2;generalize (inOf (a.map ptP) (fstP b) == -1)=t3;cases t1 <;> cases t2 <;> cases t3 <;> rfl
  ·
   rw [decide_eq_true (by omega)];simp only [spec_PlateOk.j0];unfold plateOk pl;simp only [List.length_map];rw [decide_eq_false h2];simp
end Go.Proofs.YtailkppkjhkjpaaDoor.X
end
section
set_option linter.unusedVariables false
set_option linter.unusedSimpArgs false
namespace Go.Proofs.YtailkppkjhkjpaaDoor.X
open Go.RowKit Go.Proofs.YtailkppkjhkjpaaDoorW.PrintWords Go.Proofs.YtailkppkjhkjpaaDoorW.PrintLast Go.Proofs.YtailkppkjhkjpaaDoorW.PrintMore
def Tells {α:Type}(K:Nat)(f:Nat→Option α)(P:α→Prop):Prop:=∃ a,(∀ k,K≤k→f k=some a)∧P a
namespace Tells
variable {α β:Type} {K:Nat} {P:α→Prop} {Q:β→Prop}
theorem bind {f:Nat→Option α}{g:α→Nat→Option β}(h:Tells K f P)(hg:∀ a,P a→Tells K (g a) Q):Tells K (fun k=>(f k).bind fun a=>g a k) Q:=by
 obtain⟨a,h1,h2⟩:=h;obtain⟨b,h3,h4⟩:=hg a h2;exact⟨b,fun k hk=>by show (f k).bind _=_;rw [h1 k hk,Option.bind_some,h3 k hk],h4⟩
theorem ret (a:α)(h:P a):Tells K (fun _=>some a) P:=⟨a,fun _ _=>rfl,h⟩
theorem ite {c:Prop}[Decidable c]{f g:Nat→Option α}(h1:c→Tells K f P)(h2:¬ c→Tells K g P):Tells K (fun k=>if c then f k else g k) P:=by
 by_cases h:c
 ·
  obtain⟨a,e,p⟩:=h1 h;exact⟨a,fun k hk=>by show (if c then _ else _)=_;rw [if_pos h,e k hk],p⟩
 ·
  obtain⟨a,e,p⟩:=h2 h;exact⟨a,fun k hk=>by show (if c then _ else _)=_;rw [if_neg h,e k hk],p⟩
theorem guard {c:Prop}[Decidable c]{f:Nat→Option α}(h:c)(h1:Tells K f P):Tells K (fun k=>if c then f k else none) P:=ite (fun _=>h1) (fun n=>absurd h n)
theorem nay {c:Prop}[Decidable c]{f:Nat→Option α}(h:¬ c)(h1:Tells K f P):Tells K (fun k=>if c then none else f k) P:=ite (fun n=>absurd n h) (fun _=>h1)
theorem up {K':Nat}{f:Nat→Option α}(hk:K≤K')(h:Tells K f P):Tells K' f P:=by
 obtain⟨a,e,p⟩:=h;exact⟨a,fun k hk'=>e k (by omega),p⟩
theorem mono {P':α→Prop}{f:Nat→Option α}(h:Tells K f P)(hp:∀ a,P a→P' a):Tells K f P':=by
 obtain⟨a,e,p⟩:=h;exact⟨a,e,hp a p⟩
theorem succ {f g:Nat→Option α}(hf:∀ k,f (k+1)=g k)(h:Tells K g P):Tells (K+1) f P:=by
 obtain⟨a,e,p⟩:=h;refine⟨a,fun k hk=>?_,p⟩;obtain⟨k,rfl⟩:∃ q,k=q+1:=⟨k-1,by omega⟩;rw [hf,e k (by omega)]
theorem same {f g:Nat→Option α}(hf:∀ k,f k=g k)(h:Tells K g P):Tells K f P:=by
 obtain⟨a,e,p⟩:=h;exact⟨a,fun k hk=>by rw [hf,e k hk],p⟩
end Tells
section
variable {l:List Int} (hl:Bytes l)
include hl
theorem tPick {K:Nat}(hK:1≤K){p n:Int}(hp:0≤p)(hp':p≤1000000)(hn:1≤n)(hn':n≤1000000):Tells K (fun k=>spec_l6Rd_pick.f k l p n) fun a=>0≤a.1∧a.1<n∧a.2=p+1:=by
 obtain⟨r,h1,h2,h3⟩:=pick_told hl hp hp' hn hn';exact⟨(r,p+1),fun k hk=>h1 k (by omega),h2,h3,rfl⟩
theorem tPt {K:Nat}(hK:1≤K){p:Int}(hp:0≤p)(hp':p≤900000):Tells K (fun k=>spec_l71Pt.f k l p) fun a=>p≤a.2.2∧a.2.2≤p+10:=by
 unfold spec_l71Pt.f;refine Tells.bind (tPick hl hK hp (by omega) (by omega) (by omega)) ?_;rintro⟨r1,q1⟩ ⟨a1,b1,c1⟩;simp only at a1 b1 c1 ⊢
 refine Tells.bind (tPick hl hK (by omega) (by omega) (by omega) (by omega)) ?_;rintro⟨r2,q2⟩ ⟨a2,b2,c2⟩;simp only at a2 b2 c2 ⊢
 refine Tells.bind (tPick hl hK (by omega) (by omega) (by omega) (by omega)) ?_;rintro⟨r3,q3⟩ ⟨a3,b3,c3⟩;simp only at a3 b3 c3 ⊢
 refine Tells.ite (fun h=>?_) (fun h=>Tells.ite (fun h'=>?_) (fun h'=>?_))
 ·
  refine Tells.bind (Tells.ret (P:=fun a=>a=[(-1),10]) _ rfl) ?_;rintro y rfl;refine Tells.bind (tPick hl hK (by omega) (by omega) (by omega) (by omega)) ?_;rintro⟨r4,q4⟩ ⟨a4,b4,c4⟩;simp only at a4 b4 c4 ⊢
  exact Tells.guard (by omega) (Tells.guard (by simpa using b4) (Tells.ret _ (by simp only;omega)))
 ·
  refine Tells.bind (Tells.ret (P:=fun a=>a=[(-1),10]) _ rfl) ?_;rintro y rfl;refine Tells.bind (tPick hl hK (by omega) (by omega) (by omega) (by omega)) ?_;rintro⟨r4,q4⟩ ⟨a4,b4,c4⟩;simp only at a4 b4 c4 ⊢
  exact Tells.guard (by omega) (Tells.guard (by simpa using b4) (Tells.ret _ (by simp only;omega)))
 ·
  exact Tells.ret _ (by simp only;omega)
theorem tBox {K:Nat}(hK:1≤K){p a1 a2 a3 a4:Int}(hp:0≤p)(hp':p≤900000):Tells K (fun k=>spec_l71Box.f k l p a1 a2 a3 a4) fun a=>(3≤a.1.length∧a.1.length≤6)∧p≤a.2∧a.2≤p+10:=by
 unfold spec_l71Box.f;refine Tells.bind (Tells.ret (P:=fun a=>a.length=4) _ rfl) ?_;intro y hy;have hy':(y.length:Int)=4:=by omega
 refine Tells.bind (tPick hl hK hp (by omega) (by omega) (by omega)) ?_;rintro⟨r1,q1⟩ ⟨a1,b1,c1⟩;simp only at a1 b1 c1 ⊢
 rw [hy']
 repeat' first
  | (refine Tells.ret _ ⟨⟨?_,?_⟩,?_,?_⟩ <;> first | omega | (simp;done) | (simp [hy];done) | (simp only [List.length_take];omega))
  | (refine Tells.guard (by omega) ?_)
  | (refine Tells.ite (fun _=>?_) (fun _=>?_))
theorem tLoopL {K:Nat}(hK:1≤K):∀ (m:Nat) (z:List S37) (i p:Int),i<m → -1≤i→i≤100→3≤z.length→z.length≤1000→0≤p→p+10*m≤900000→Tells (K+m+1) (fun k=>spec_l71Loop.l0 k z i l p) fun a=>a.1.length=z.length∧p≤a.2∧a.2≤p+10*m:=by
 intro m
 induction m with
 | zero =>
  intro z i p hm hi hi' hz hz' hp hp';refine Tells.succ (fun k=>by simp only [spec_l71Loop.l0];exact rfl) ?_;exact Tells.ite (fun h=>by omega) (fun _=>Tells.ret _ ⟨rfl,Int.le_refl _,by show p≤p+10*_;omega⟩)
 | succ m ih =>
  intro z i p hm hi hi' hz hz' hp hp';refine Tells.succ (K:=K+(m+1)) (fun k=>by simp only [spec_l71Loop.l0];exact rfl) ?_;refine Tells.ite (fun h=>?_) (fun _=>Tells.ret _ ⟨rfl,Int.le_refl _,by show p≤p+10*_;omega⟩);refine Tells.nay (by omega) ?_;refine Tells.bind (tPt hl (by omega) hp (by omega)) ?_;rintro⟨x,y,q⟩ ⟨h1,h2⟩;simp only at h1 h2 ⊢
  have t1:0≤Int.tmod i z.length:=Int.tmod_nonneg _ (by omega);have t2:Int.tmod i z.length<z.length:=Int.tmod_lt_of_pos _ (by omega);refine Tells.guard t1 (Tells.guard t2 ?_);refine Tells.mono (ih _ (wrap64 (i-1)) q (by unfold wrap64;omega) (by unfold wrap64;omega) (by unfold wrap64;omega) (by rw [List.length_set];omega) (by rw [List.length_set];omega) (by omega) (by omega)) ?_;rintro⟨b,u⟩ ⟨g1,g2,g3⟩;rw [List.length_set] at g1;simp only at g1 g2 g3 ⊢
  omega
theorem tLoop {K:Nat}(hK:20≤K){p:Int}(hp:0≤p)(hp':p≤800000):Tells K (fun k=>spec_l71Loop.f k l p) fun a=>a.1.length≤100∧p≤a.2∧a.2≤p+200:=by
 unfold spec_l71Loop.f;refine Tells.bind (tPick hl (by omega) hp (by omega) (by omega) (by omega)) ?_;rintro⟨r1,q1⟩ ⟨a1,b1,c1⟩;simp only at a1 b1 c1 ⊢
 refine Tells.bind (tPick hl (by omega) (by omega) (by omega) (by omega) (by omega)) ?_;rintro⟨r2,q2⟩ ⟨a2,b2,c2⟩;simp only at a2 b2 c2 ⊢
 refine Tells.bind (tPick hl (by omega) (by omega) (by omega) (by unfold wrap64;omega) (by unfold wrap64;omega)) ?_;rintro⟨r3,q3⟩ ⟨a3,b3,c3⟩;simp only at a3 b3 c3 ⊢
 refine Tells.bind (tPick hl (by omega) (by omega) (by omega) (by unfold wrap64;omega) (by unfold wrap64;omega)) ?_;rintro⟨r4,q4⟩ ⟨a4,b4,c4⟩;simp only at a4 b4 c4 ⊢
 refine Tells.bind (tBox hl (by omega) (by omega) (by omega)) ?_;rintro⟨z,q5⟩ ⟨⟨a5,b5⟩,c5,d5⟩;simp only at a5 b5 c5 d5 ⊢
 refine Tells.bind (tPick hl (by omega) (by omega) (by omega) (by omega) (by omega)) ?_;rintro⟨r6,q6⟩ ⟨a6,b6,c6⟩;simp only at a6 b6 c6 ⊢
 refine Tells.ite (fun _=>?_) (fun _=>Tells.ite (fun _=>?_) (fun _=>Tells.ite (fun _=>?_) (fun _=>?_)))
 ·
  refine Tells.bind (tPt hl (by omega) (by omega) (by omega)) ?_;rintro⟨x,y,q⟩ ⟨h1,h2⟩;simp only at h1 h2 ⊢
  exact Tells.guard (by omega) (Tells.ret _ (by simp only [List.length_append,List.length_cons,List.length_nil];omega))
 ·
  refine Tells.bind (tPick hl (by omega) (by omega) (by omega) (by omega) (by omega)) ?_;rintro⟨r7,q7⟩ ⟨a7,b7,c7⟩;simp only at a7 b7 c7 ⊢
  refine Tells.bind (tPt hl (by omega) (by omega) (by omega)) ?_;rintro⟨x,y,q⟩ ⟨h1,h2⟩;simp only at h1 h2 ⊢
  exact Tells.guard (by omega) (Tells.guard (by omega) (Tells.ret _ (by simp only [List.length_set];omega)))
 ·
  refine Tells.bind (tPick hl (by omega) (by omega) (by omega) (by omega) (by omega)) ?_;rintro⟨r7,q7⟩ ⟨a7,b7,c7⟩;simp only at a7 b7 c7 ⊢
  refine Tells.up (K:=1+7+1) (by omega) (Tells.mono (tLoopL hl (K:=1) (by omega) 7 z r7 q7 (by omega) (by omega) (by omega) (by omega) (by omega) (by omega) (by omega)) ?_);rintro⟨b,u⟩ ⟨g1,g2,g3⟩;simp only at g1 g2 g3 ⊢
  omega
 ·
  exact Tells.ret _ (by simp only;omega)
end
section
variable {l:List Int} (hl:Bytes l)
include hl
theorem tGoodL {K:Nat}(hK:1000≤K):∀ (m:Nat) (x3 x4 x5 x6 i p:Int) (o:List S37) (H:List (List S37)),i≤m→i≤100→(0≤x3∧x3≤20)→(0≤x4∧x4≤20)→(3≤x5∧x5≤20)→(3≤x6∧x6≤20)→H.length+m≤100→o.length≤100→0≤p→p+20*m≤900000 →
  Tells (K+m+1) (fun k=>spec_l71Good.l0 k x3 x4 x5 x6 i l p o H) fun a=>a.1.length≤100∧a.2.1.length≤100∧p≤a.2.2∧a.2.2≤p+20*m:=by
 intro m
 induction m with
 | zero =>
  intro x3 x4 x5 x6 i p o H hm hi h3 h4 h5 h6 hH ho hp hp';refine Tells.succ (fun k=>by simp only [spec_l71Good.l0];exact rfl) ?_;exact Tells.ite (fun h=>by omega) (fun _=>Tells.ret _ ⟨ho,by show H.length≤100;omega,Int.le_refl _,by show p≤p+20*_;omega⟩)
 | succ m ih =>
  intro x3 x4 x5 x6 i p o H hm hi h3 h4 h5 h6 hH ho hp hp';refine Tells.succ (K:=K+(m+1)) (fun k=>by simp only [spec_l71Good.l0];exact rfl) ?_;refine Tells.ite (fun h=>?_) (fun _=>Tells.ret _ ⟨ho,by show H.length≤100;omega,Int.le_refl _,by show p≤p+20*_;omega⟩);refine Tells.bind (tPick hl (by omega) hp (by omega) (by unfold wrap64;omega) (by unfold wrap64;omega)) ?_;rintro⟨r1,q1⟩ ⟨a1,b1,c1⟩;simp only at a1 b1 c1 ⊢
  refine Tells.bind (tPick hl (by omega) (by omega) (by omega) (by unfold wrap64;omega) (by unfold wrap64;omega)) ?_;rintro⟨r2,q2⟩ ⟨a2,b2,c2⟩;simp only at a2 b2 c2 ⊢
  refine Tells.bind (tPick hl (by omega) (by omega) (by omega) (by omega) (by omega)) ?_;rintro⟨r3,q3⟩ ⟨a3,b3,c3⟩;simp only at a3 b3 c3 ⊢
  refine Tells.bind (tPick hl (by omega) (by omega) (by omega) (by omega) (by omega)) ?_;rintro⟨r4,q4⟩ ⟨a4,b4,c4⟩;simp only at a4 b4 c4 ⊢
  refine Tells.bind (tBox hl (by omega) (by omega) (by omega)) ?_;rintro⟨z,q5⟩ ⟨_,c5,d5⟩;simp only at c5 d5 ⊢
  refine Tells.bind (Tells.ret (P:=fun a=>a=[]) _ rfl) ?_;rintro y rfl;refine Tells.guard (by simp;omega) ?_;refine Tells.bind (Tells.ret (P:=fun a=>a=H) _ rfl) ?_;rintro y rfl;refine Tells.guard (by omega) ?_;refine Tells.bind (Tells.ret (P:=fun a=>a.length=y.length+1) _ (by simp)) ?_;intro y2 hy2;refine Tells.bind (P:=fun _=>True) ⟨_,fun k hk=>sPlateOk (by omega) o y2,trivial⟩ ?_;intro t _;have hw:wrap64 (i-1)=i-1:=w64i (by omega) (by omega);by_cases hneg:0≤i
  ·
   rw [hw];refine Tells.ite (fun _=>?_) (fun _=>?_)
   ·
    refine Tells.mono (ih x3 x4 x5 x6 (i-1) q5 o y2 (by omega) (by omega) h3 h4 h5 h6 (by omega) ho (by omega) (by omega)) ?_;rintro⟨u1,u2,u3⟩ ⟨g1,g2,g3,g4⟩;simp only at g1 g2 g3 g4 ⊢
    omega
   ·
    refine Tells.mono (ih x3 x4 x5 x6 (i-1) q5 o y (by omega) (by omega) h3 h4 h5 h6 (by omega) ho (by omega) (by omega)) ?_;rintro⟨u1,u2,u3⟩ ⟨g1,g2,g3,g4⟩;simp only at g1 g2 g3 g4 ⊢
    omega
  ·
   omega
theorem tGood {K:Nat}(hK:1010≤K){p:Int}(hp:0≤p)(hp':p≤800000):Tells K (fun k=>spec_l71Good.f k l p) fun a=>a.1.length≤100∧a.2.1.length≤100∧p≤a.2.2∧a.2.2≤p+100:=by
 unfold spec_l71Good.f;refine Tells.bind (tPick hl (by omega) hp (by omega) (by omega) (by omega)) ?_;rintro⟨r1,q1⟩ ⟨a1,b1,c1⟩;simp only at a1 b1 c1 ⊢
 refine Tells.bind (tPick hl (by omega) (by omega) (by omega) (by omega) (by omega)) ?_;rintro⟨r2,q2⟩ ⟨a2,b2,c2⟩;simp only at a2 b2 c2 ⊢
 refine Tells.bind (tPick hl (by omega) (by omega) (by omega) (by unfold wrap64;omega) (by unfold wrap64;omega)) ?_;rintro⟨r3,q3⟩ ⟨a3,b3,c3⟩;have b3':r3<9-r1-3:=by
  have e:wrap64 (wrap64 (9-r1)-3)=9-r1-3:=by unfold wrap64;omega
  simp only at b3;omega
 simp only at a3 c3 ⊢
 refine Tells.bind (tPick hl (by omega) (by omega) (by omega) (by unfold wrap64;omega) (by unfold wrap64;omega)) ?_;rintro⟨r4,q4⟩ ⟨a4,b4,c4⟩;have b4':r4<9-r2-3:=by
  have e:wrap64 (wrap64 (9-r2)-3)=9-r2-3:=by unfold wrap64;omega
  simp only at b4;omega
 simp only at a4 c4 ⊢
 have e1:wrap64 (4+r3)=4+r3:=w64i (by omega) (by omega);have e2:wrap64 (4+r4)=4+r4:=w64i (by omega) (by omega);rw [e1,e2];refine Tells.bind (tBox hl (by omega) (by omega) (by omega)) ?_;rintro⟨z,q5⟩ ⟨⟨_,z5⟩,c5,d5⟩;simp only at z5 c5 d5 ⊢
 refine Tells.bind (tPick hl (by omega) (by omega) (by omega) (by omega) (by omega)) ?_;rintro⟨r6,q6⟩ ⟨a6,b6,c6⟩;simp only at a6 b6 c6 ⊢
 refine Tells.up (K:=1000+2+1) (by omega) (Tells.mono (tGoodL hl (K:=1000) (by omega) 2 r1 r2 (4+r3) (4+r4) r6 q6 z [] (by omega) (by omega) (by omega) (by omega) (by omega) (by omega) (by simp) (by omega) (by omega) (by omega)) ?_);rintro⟨u1,u2,u3⟩ ⟨g1,g2,g3,g4⟩;simp only at g1 g2 g3 g4 ⊢
 omega
theorem tPlate {K:Nat}(hK:1010≤K){p:Int}(hp:0≤p)(hp':p≤700000):Tells K (fun k=>spec_l71Plate.f k l p) fun a=>p≤a.2.2∧a.2.2≤p+1000:=by
 unfold spec_l71Plate.f;refine Tells.bind (tGood hl hK hp (by omega)) ?_;rintro⟨o,H,q⟩ ⟨g1,g2,g3,g4⟩;simp only at g1 g2 g3 g4 ⊢
 refine Tells.bind (tPick hl (by omega) (by omega) (by omega) (by omega) (by omega)) ?_;rintro⟨r1,q1⟩ ⟨a1,b1,c1⟩;simp only at a1 b1 c1 ⊢
 refine Tells.ite (fun _=>?_) (fun _=>Tells.ite (fun _=>?_) (fun _=>Tells.ite (fun _=>?_) (fun _=>?_)))
 ·
  refine Tells.bind (tLoop hl (by omega) (by omega) (by omega)) ?_;rintro⟨z,q2⟩ ⟨h1,h2,h3⟩;simp only at h1 h2 h3 ⊢
  exact Tells.ret _ (by simp only;omega)
 ·
  refine Tells.bind (tLoop hl (by omega) (by omega) (by omega)) ?_;rintro⟨z,q2⟩ ⟨h1,h2,h3⟩;simp only at h1 h2 h3 ⊢
  exact Tells.guard (by omega) (Tells.ret _ (by simp only;omega))
 ·
  refine Tells.bind (Tells.ret (P:=fun a=>a=[]) _ rfl) ?_;rintro y rfl;refine Tells.guard (by simp;omega) ?_;refine Tells.bind (Tells.ret (P:=fun a=>a=o) _ rfl) ?_;rintro y rfl;refine Tells.bind (tPt hl (by omega) (by omega) (by omega)) ?_;rintro⟨x,y',q2⟩ ⟨h1,h2⟩;simp only at h1 h2 ⊢
  exact Tells.guard (by omega) (Tells.ret _ (by simp only;omega))
 ·
  exact Tells.ret _ (by simp only;omega)
end
theorem drawPlateText (l:List Int)(h:∀ x∈l,(Lit.int .u8 x).wf=true):∃ o H,∀ k,400000≤k→spec_DrawPlateText.f k l=some (o,H):=by
 obtain⟨m,hm,hb⟩:=open_told l h;have t:Tells 400000 (fun k=>(spec_l71Plate.f k m 0).bind fun bt=>some (bt.1,bt.2.1)) fun _=>True:=Tells.bind (tPlate hb (by omega) (by omega) (by omega)) (fun a _=>Tells.ret _ trivial)
 obtain⟨⟨o,H⟩,ht,_⟩:=t;exact⟨o,H,fun k hk=>by unfold spec_DrawPlateText.f;rw [hm,Option.bind_some];exact ht k hk⟩
end Go.Proofs.YtailkppkjhkjpaaDoor.X
end
section
set_option linter.unusedVariables false
set_option linter.unusedSimpArgs false
namespace Go.Proofs.YtailkppkjhkjpaaDoor.X
open Go.RowKit Go.Shelf Go.Proofs.YtailkppkjhkjpaaDoorW.PrintWords Go.Proofs.YtailkppkjhkjpaaDoorW.PrintLast Go.Proofs.YtailkppkjhkjpaaDoorW.PrintMore
open Mort (ptOk loopOk plateOk)
open Txt (fig wrPt wrLoop wrLines)
theorem sDec {k:Nat}(hk:1≤k){n:Int}(h0:0≤n)(h9:n≤9):spec_l6Dec.f k n=some ⟨#[fig n]⟩:=by
 obtain⟨k,rfl⟩:∃ q,k=q+1:=⟨k-1,by omega⟩;rw [spec_l6Dec.f,if_neg (by omega),if_neg (by omega),if_pos (by omega)];have:n=0∨n=1∨n=2∨n=3∨n=4∨n=5∨n=6∨n=7∨n=8∨n=9:=by omega
 rcases this with rfl | rfl | rfl | rfl | rfl | rfl | rfl | rfl | rfl | rfl <;> decide +kernel
theorem sPt {k:Nat}(hk:1≤k){p:S37}(h:ptOk (ptP p)=true):spec_l3Pt.f k p.f0 p.f1=some (ptT p):=by
 have hq:=(Mort.ptOk_iff _).1 h;have q0:0≤p.f0:=hq.1;have q1:p.f0≤9:=hq.2.1;have q2:0≤p.f1:=hq.2.2.1;have q3:p.f1≤9:=hq.2.2.2;unfold spec_l3Pt.f;have z:∀ a:UInt8,(⟨#[a]⟩:ByteArray).size=1:=fun _=>rfl
 rw [sDec hk q0 q1,Option.bind_some,if_pos (by rw [z];omega),sDec hk q2 q3,Option.bind_some,if_pos (by rw [ByteArray.size_append,z,z,z];omega)];rfl
def tailT (l:List S37):List UInt8:=Go.Lib.joinTail [32] (l.map fun p=>wrPt (ptP p))
theorem textOf_cons (p:S37)(ps:List S37):(textOf (p::ps)).data.toList=wrPt (ptP p)++tailT ps:=by
 unfold textOf wrLoop tailT
 show Go.Lib.join _ _=_
 rw [List.map_cons,List.map_cons,Go.Lib.join_cons,List.map_map];rfl
theorem rdT_drop {l:List S37}{i:Nat}(hi:i<l.length):l.drop i=rd_T37 l (i:Int)::l.drop (i+1):=by
 rw [List.drop_eq_getElem_cons hi]
 congr 1
 show _=l.getD (i:Int).toNat _
 rw [Int.toNat_natCast,List.getD_eq_getElem?_getD,List.getElem?_eq_getElem hi];rfl
theorem ba_app (a:List UInt8)(b:ByteArray):(⟨a.toArray⟩:ByteArray)++b=⟨(a++b.data.toList).toArray⟩:=by
 apply ByteArray.ext;rw [ByteArray.data_append];simp
theorem ba_size (a:List UInt8):(⟨a.toArray⟩:ByteArray).size=a.length:=rfl
theorem sText_l (l:List S37)(hl:l.length≤8)(hp:∀ p∈l,ptOk (ptP p)=true):∀ (m i k:Nat) (acc:List UInt8),l.length-i=m→1≤i→m+2≤k→acc.length≤4*i→spec_l3Text.l0 k l ⟨acc.toArray⟩ (i:Int)=some ⟨(acc++tailT (l.drop i)).toArray⟩:=by
 intro m
 induction m with
 | zero =>
  intro i k acc hm hi hk ha;obtain⟨k,rfl⟩:∃ q,k=q+1:=⟨k-1,by omega⟩;rw [spec_l3Text.l0,if_neg (by omega),List.drop_eq_nil_of_le (by omega)];simp [tailT,Go.Lib.joinTail]
 | succ m ih =>
  intro i k acc hm hi hk ha;obtain⟨k,rfl⟩:∃ q,k=q+1:=⟨k-1,by omega⟩;have hlt:i<l.length:=by omega
  have hd:=rdT_drop hlt;obtain⟨p,hpe⟩:∃ p,rd_T37 l (i:Int)=p:=⟨_,rfl⟩;rw [hpe] at hd;have hpk:ptOk (ptP p)=true:=hp p (List.mem_of_mem_drop (by rw [hd];simp));rw [spec_l3Text.l0,if_pos (by omega),if_pos (by omega),hpe];rw [if_pos (by rw [ba_size];omega),if_pos (by omega),sPt (by omega) hpk,Option.bind_some,ba_app,ba_app];have e32:(⟨#[32]⟩:ByteArray).data.toList=[32]:=rfl;have ept:(ptT p).data.toList=wrPt (ptP p):=rfl;have epl:(wrPt (ptP p)).length=3:=rfl;rw [if_pos (by rw [ba_size,e32];have:(ptT p).size=3:=rfl;simp only [List.length_append,List.length_cons,List.length_nil];omega),succ64 (by omega),e32,ept,ih (i+1) k _ (by omega) (by omega) (by omega) (by simp only [List.length_append,List.length_cons,List.length_nil,epl];omega),hd]
  congr 2
  have:tailT (p::l.drop (i+1))=[32]++wrPt (ptP p)++tailT (l.drop (i+1)):=by simp [tailT,Go.Lib.joinTail]
  rw [this];simp
theorem sText {k:Nat}(hk:20≤k){l:List S37}(h0:0<l.length)(hl:l.length≤8)(hp:∀ p∈l,ptOk (ptP p)=true):spec_l3Text.f k l=some (textOf l):=by
 obtain⟨k,rfl⟩:∃ q,k=q+1:=⟨k-1,by omega⟩
 cases l with
 | nil=>simp at h0
 | cons p ps =>
  unfold spec_l3Text.f;rw [spec_l3Text.l0,if_pos (by simp only [List.length_cons];omega),if_neg (by omega),if_pos (by omega)];have e0:rd_T37 (p::ps) 0=p:=rfl;rw [e0,sPt (by omega) (hp p (by simp)),Option.bind_some];have e1:(⟨#[]⟩:ByteArray)++ptT p=⟨(wrPt (ptP p)).toArray⟩:=by
   rw [ba_app []];rfl
  rw [if_pos (by show 0+(ptT p).size≤_;have:(ptT p).size=3:=rfl;omega),e1];have ew:wrap64 (0+1)=((1:Nat):Int):=succ64 (i:=0) (by omega);rw [ew];refine (sText_l (p::ps) hl hp ps.length 1 k (wrPt (ptP p)) (by simp) (Nat.le_refl _) (by simp only [List.length_cons] at hl;omega) (by have:(wrPt (ptP p)).length=3:=rfl;omega)).trans ?_;rw [List.drop_one,List.tail_cons,← textOf_cons]
theorem lines_cons_len {o:List S37}{H:List (List S37)}(ho:0<o.length∧o.length≤8)(hH:∀ z∈H,0<z.length∧z.length≤8)(h2:H.length≤2)(i:Nat):(linesOf (o::H.take i)).length≤96:=by
 refine Nat.le_trans (lines_len _ (fun z hz=>?_)) ?_
 ·
  rcases List.mem_cons.1 hz with rfl | hz
  ·
   exact ho
  ·
   exact hH z (List.mem_of_mem_take hz)
 ·
  rw [List.length_cons,List.length_take];omega
theorem rdL_take {H:List (List S37)}{i:Nat}(hi:i<H.length):H.take (i+1)=H.take i++[rd_L5 H (i:Int)]:=by
 rw [List.take_succ_eq_append_getElem hi]
 congr 2
 show _=H.getD (i:Int).toNat _
 rw [Int.toNat_natCast,List.getD_eq_getElem?_getD,List.getElem?_eq_getElem hi];rfl
theorem sPlateText {k:Nat}(hk:1100≤k)(o:List S37)(H:List (List S37)):spec_PlateText.f k o H=impl_PlateText.f o H:=by
 unfold spec_PlateText.f impl_PlateText.f;rw [sPlateOk (by omega),Option.bind_some,iBodyOk]
 cases hb:plateOk (pl o H) with
 | false=>rfl
 | true =>
  rw [if_pos rfl,if_pos rfl];have hB:bodyOkB o H=true:=by rw [iBodyOk];exact hb
  obtain⟨h2,h1,hH,_,_⟩:=(bodyOkB_iff o H).1 hB;have lo:=loop_len h1;rw [sText (by omega) (by omega) lo.2 (fun p hp=>loop_ptOk h1 _ (List.mem_map_of_mem hp)),Option.bind_some];have hts:=textOf_len (z:=o) (by omega) lo.2;rw [if_pos (by omega)];have hlH:∀ z∈H,0<z.length∧z.length≤8:=fun z hz=>by have:=loop_len (hH z hz);omega
  have key:∀ (m i k:Nat),H.length-i=m→i≤H.length→m+30≤k→spec_PlateText.l0 k ⟨(linesOf (o::H.take i)).toArray⟩ (i:Int) o H=some ⟨(linesOf (o::H)).toArray⟩:=by
   intro m
   induction m with
   | zero =>
    intro i k hm hi hk;obtain⟨k,rfl⟩:∃ q,k=q+1:=⟨k-1,by omega⟩;rw [spec_PlateText.l0,if_neg (by omega),List.take_of_length_le (by omega)]
   | succ m ih =>
    intro i k hm hi hk;obtain⟨k,rfl⟩:∃ q,k=q+1:=⟨k-1,by omega⟩;have hlt:i<H.length:=by omega
    have ht:=rdL_take hlt;obtain⟨z,hz⟩:∃ z,rd_L5 H (i:Int)=z:=⟨_,rfl⟩;rw [hz] at ht;have hzm:z∈H:=List.mem_of_mem_take (i:=i+1) (by rw [ht];simp);have lz:=hlH z hzm;have hl1:=lines_cons_len ⟨by omega,lo.2⟩ hlH h2 i;have hts:=textOf_len lz.1 lz.2;have ets:(textOf z).data.toList.length=(textOf z).size:=by rw [Array.length_toList];rfl
    rw [spec_PlateText.l0,if_pos (by omega),if_pos (by omega),hz,sText (by omega) lz.1 lz.2 (fun p hp=>loop_ptOk (hH z hzm) _ (List.mem_map_of_mem hp)),Option.bind_some,if_pos (by rw [ba_size];omega),ba_app,if_pos (by rw [ba_size,List.length_append];omega),ba_app,succ64 (by omega)];have e10:(⟨#[10]⟩:ByteArray).data.toList=[10]:=rfl;rw [e10,← linesOf_snoc,List.cons_append,← ht];exact ih (i+1) k (by omega) (by omega) (by omega)
  have e0:textOf o++(⟨#[10]⟩:ByteArray)=⟨(linesOf (o::H.take 0)).toArray⟩:=by
   apply ByteArray.ext;rw [ByteArray.data_append,List.take_zero];unfold linesOf wrLines textOf;simp
  rw [e0];exact key H.length 0 k (by omega) (by omega) (by omega)
end Go.Proofs.YtailkppkjhkjpaaDoor.X
end
section
set_option linter.unusedVariables false
set_option linter.unusedSimpArgs false
namespace Go.Proofs.YtailkppkjhkjpaaDoor.X
open Go.RowKit Go.Shelf Go.Proofs.YtailkppkjhkjpaaDoorW.PrintWords Go.Proofs.YtailkppkjhkjpaaDoorW.PrintLast Go.Proofs.YtailkppkjhkjpaaDoorW.PrintMore
open Mort (ptOk loopOk plateOk)
open Txt (fig wrPt wrLoop wrLines allOf cutAt small smallL)
abbrev PlR:=List S37 × List (List S37) × Bool
def badR:PlR:=([],[],false)
def finR (o:List S37)(H:List (List S37)):PlR:=if bodyOkB o H then (o,H,true) else badR
def readLL (t:ByteArray):Option (List S37):=if (readL t).2 then some (readL t).1 else none
def unl (l:List UInt8):Option (List UInt8):=if l.getLast?=some 10 then some l.dropLast else none
def linesR (ls:List ByteArray):PlR:=match allOf readLL ls with | some (o::H)=>finR o H | _=>badR
def readPl (t:ByteArray):PlR:=if t.size≤120 then (match unl t.data.toList with | some u=>linesR (cutB 10 ⟨u.toArray⟩) | none=>badR) else badR
theorem last_app (u:List UInt8)(a:UInt8):(u++[a]).getLast?=some a:=by simp
theorem unl_app (u:List UInt8):unl (u++[10])=some u:=by
 unfold unl;rw [last_app,if_pos rfl,List.dropLast_concat]
theorem unl_some {l u:List UInt8}(h:unl l=some u):l=u++[10]:=by
 unfold unl at h
 split at h
 ·
  rename_i hl
  obtain rfl:=Option.some.inj h;rw [List.getLast?_eq_some_iff] at hl;obtain⟨ys,rfl⟩:=hl;rw [List.dropLast_concat]
 ·
  cases h
theorem hasSuffix_nl (t:ByteArray)(hs:t.size≤1000):strings_HasSuffix.f t (⟨#[10]⟩:ByteArray)=some (decide (t.data.toList.getLast?=some 10)):=by
 unfold strings_HasSuffix.f stringslite_HasSuffix.f;have z:(⟨#[10]⟩:ByteArray).size=1:=rfl;have e2:t.data.toList.length=t.size:=by rw [Array.length_toList];rfl
 rw [z];by_cases h0:(t.size:Int)≥((1:Nat):Int)
 ·
  have hw:wrap64 ((t.size:Int)-((1:Nat):Int))=((t.size-1:Nat):Int):=by unfold wrap64;omega
  rw [if_pos h0,hw,if_pos (by omega),if_pos (by omega),Option.bind_some,Int.toNat_natCast]
  congr 1
  rw [Lib.toList_data,Lib.extract_data,Lib.toList_data];obtain⟨ys,y,hy⟩:∃ ys y,t.data.toList=ys++[y]:=by
   have hne:t.data.toList≠[]:=fun e=>by rw [e] at e2;simp at e2;omega
   exact⟨_,_,(List.dropLast_concat_getLast hne).symm⟩
  have hyl:ys.length=t.size-1:=by rw [hy] at e2;simp at e2;omega
  rw [hy,← hyl,List.drop_left,last_app];have e3:t.size-ys.length=1:=by omega
  rw [e3]
  show ([y]==[10])=decide (some y=some 10)
  by_cases hyy:y=10
  ·
   subst hyy;rfl
  ·
   simp [hyy]
 ·
  rw [if_neg h0,Option.bind_some];have:t.data.toList=[]:=List.eq_nil_of_length_eq_zero (by omega);rw [this];rfl
theorem trimSuffix_nl (t:ByteArray)(hs:t.size≤1000){u:List UInt8}(h:unl t.data.toList=some u):strings_TrimSuffix.f t (⟨#[10]⟩:ByteArray)=some ⟨u.toArray⟩:=by
 have hl:=unl_some h;have h2:=hasSuffix_nl t hs;unfold strings_HasSuffix.f at h2;have h3:stringslite_HasSuffix.f t (⟨#[10]⟩:ByteArray)=some true:=by
  cases hh:stringslite_HasSuffix.f t (⟨#[10]⟩:ByteArray) with
  | none=>rw [hh] at h2;cases h2
  | some b =>
   rw [hh,Option.bind_some] at h2;rw [Option.some.inj h2,hl,last_app];rfl
 unfold strings_TrimSuffix.f stringslite_TrimSuffix.f;have z:(⟨#[10]⟩:ByteArray).size=1:=rfl;have e2:t.data.toList.length=t.size:=by rw [Array.length_toList];rfl
 have e3:u.length+1=t.size:=by rw [← e2,hl];simp
 have hw:wrap64 ((t.size:Int)-((1:Nat):Int))=((u.length:Nat):Int):=by unfold wrap64;omega
 rw [h3,Option.bind_some,if_pos rfl,z,hw,if_pos (by omega),if_pos (by omega),Option.bind_some,Int.toNat_natCast]
 congr 1
 apply ByteArray.ext;apply Array.toList_inj.1
 show (t.extract 0 u.length).data.toList=u
 rw [Lib.extract_data,hl];simp
theorem lines_l (ls:List ByteArray)(hl:ls.length≤1000):∀ (m i k:Nat) (o:List S37) (Z:List (List S37)),ls.length-i=m→1≤i→m+1≤k→Z.length≤i→impl_PlateRead.l0 k ls (ls.length:Int) (i:Int) o Z=some (match allOf readLL (ls.drop i) with | some Hs=>finR o (Z++Hs) | none=>badR):=by
 intro m
 induction m with
 | zero =>
  intro i k o Z hm hi hk hz;obtain⟨k,rfl⟩:∃ q,k=q+1:=⟨k-1,by omega⟩;rw [impl_PlateRead.l0,if_neg (by omega),List.drop_eq_nil_of_le (by omega)];unfold impl_PlateOk.f;rw [Option.bind_some];simp only [allOf,List.append_nil];unfold finR;cases bodyOkB o Z <;> rfl
 | succ m ih =>
  intro i k o Z hm hi hk hz;obtain⟨k,rfl⟩:∃ q,k=q+1:=⟨k-1,by omega⟩;have hlt:i<ls.length:=by omega
  obtain⟨x,hx⟩:∃ x,rdOf ByteArray.empty ls (i:Int)=x:=⟨_,rfl⟩;have hd:=allOf_at hlt hx;rw [impl_PlateRead.l0,if_pos (by omega),if_pos (by omega),if_pos (by omega),hx,hd,allOf];unfold impl_LoopRead.f;rw [Option.bind_some];unfold readLL;by_cases hr:(readL x).2=true
  ·
   rw [if_pos hr,if_pos hr,if_neg (by omega),if_pos (by omega),succ64 (by omega),ih (i+1) k _ _ (by omega) (by omega) (by omega) (by simp only [List.length_append,List.length_cons,List.length_nil];omega),Option.bind_some];unfold readLL
   cases allOf (fun t=>if (readL t).2=true then some (readL t).1 else none) (ls.drop (i+1)) with
   | none=>rfl
   | some Hs=>simp
  ·
   rw [if_neg hr,if_neg hr];rfl
theorem lines_f (ls:List ByteArray)(h0:0<ls.length)(hl:ls.length≤1000){k:Nat}(hk:ls.length+1≤k):impl_PlateRead.l0 k ls (ls.length:Int) 0 [] []=some (linesR ls):=by
 obtain⟨k,rfl⟩:∃ q,k=q+1:=⟨k-1,by omega⟩;obtain⟨x,hx⟩:∃ x,rdOf ByteArray.empty ls ((0:Nat):Int)=x:=⟨_,rfl⟩;have hd:=allOf_at h0 hx;rw [List.drop_zero] at hd;have hx0:rdOf ByteArray.empty ls 0=x:=hx;rw [impl_PlateRead.l0,if_pos (by omega),if_pos (by omega),if_pos (by omega),hx0];unfold impl_LoopRead.f linesR;rw [Option.bind_some,hd,allOf];unfold readLL;have ew:wrap64 (0+1)=((1:Nat):Int):=succ64 (i:=0) (by omega);by_cases hr:(readL x).2=true
 ·
  rw [if_pos hr,if_pos rfl,if_pos hr,ew,← hd,lines_l ls hl (ls.length-1) 1 k _ _ rfl (Nat.le_refl _) (by omega) (by simp),Option.bind_some];unfold readLL
  cases allOf (fun t=>if (readL t).2=true then some (readL t).1 else none) (ls.drop (0+1)) with
  | none=>rfl
  | some Hs=>rfl
 ·
  rw [if_neg hr,if_neg hr];rfl
theorem iPlateRead {k:Nat}(hk:200≤k)(t:ByteArray):impl_PlateRead.f k t=some (readPl t):=by
 obtain⟨k,rfl⟩:∃ q,k=q+1:=⟨k-1,by omega⟩;unfold impl_PlateRead.f readPl;by_cases h120:t.size≤120
 ·
  rw [if_neg (by omega),if_pos h120,hasSuffix_nl t (by omega),Option.bind_some,impl_PlateRead.j0]
  cases hu:unl t.data.toList with
  | none =>
   have:¬ t.data.toList.getLast?=some 10:=fun e=>by unfold unl at hu;rw [if_pos e] at hu;cases hu
   rw [decide_eq_false this,if_pos (show (!false)=true from rfl)];rfl
  | some u =>
   have hl:=unl_some hu;have:t.data.toList.getLast?=some 10:=by rw [hl,last_app]
   rw [decide_eq_true this,if_neg (by decide),trimSuffix_nl t (by omega) hu,Option.bind_some];have e2:t.data.toList.length=t.size:=by rw [Array.length_toList];rfl
   have e3:u.length+1=t.size:=by rw [← e2,hl];simp
   have hsp:strings_Split.f ⟨u.toArray⟩ ⟨#[10]⟩=some (cutB 10 ⟨u.toArray⟩):=by unfold strings_Split.f;rw [if_pos (by rw [ba_size];omega)]
   have hcl:=cutB_len 10 ⟨u.toArray⟩;rw [ba_size] at hcl;rw [hsp,Option.bind_some,lines_f _ hcl.1 (by omega) (by omega)]
 ·
  rw [if_pos (by omega),if_neg h120,impl_PlateRead.j0,if_pos rfl];rfl
theorem ptOk_small {p:Int × Int}(h:ptOk p=true):small p:=by
 have hq:=(Mort.ptOk_iff _).1 h;exact hq
theorem rdS_pt {p:S37}(h:ptOk (ptP p)=true):rdS (ptT p)=some p:=by
 unfold rdS;have e:(ptT p).data.toList=wrPt (ptP p):=rfl;rw [e,Txt.rd_wr (ptOk_small h)];rfl
theorem readL_text {z:List S37}(h:loopOk (z.map ptP)=true):readL (textOf z)=(z,true):=by
 have lz:=loop_len h;have hts:=textOf_len (z:=z) (by omega) lz.2;have hp:∀ p∈z,ptOk (ptP p)=true:=fun p hp=>loop_ptOk h _ (List.mem_map_of_mem hp)
 have hsm:smallL (z.map ptP):=by
  intro q hq;obtain⟨p,hpm,rfl⟩:=List.mem_map.1 hq;exact ptOk_small (hp p hpm)
 have hcut:cutB 32 (textOf z)=z.map ptT:=by
  unfold cutB textOf wrLoop
  cases z with
  | nil=>simp at lz
  | cons p ps =>
   show (cutAt 32 (Go.Lib.join ((p::ps).map ptP |>.map wrPt) [32])).map _=_
   rw [List.map_map,List.map_cons,Txt.cut_join]
   ·
    rw [List.map_cons,List.map_map,List.map_cons];rfl
   ·
    intro w hw;rw [← List.map_cons (f:=wrPt ∘ ptP)] at hw;obtain⟨q,hq,rfl⟩:=List.mem_map.1 hw;exact Txt.pt_no (ptOk_small (hp q hq)) (by decide) (by decide)
 unfold readL;rw [if_pos (by omega),hcut,Txt.allOf_map (f:=rdS) (g:=ptT) (fun p hpm=>rdS_pt (hp p hpm))];simp only;rw [if_pos h]
theorem readLL_text {z:List S37}(h:loopOk (z.map ptP)=true):readLL (textOf z)=some z:=by
 unfold readLL;rw [readL_text h];rfl
theorem text_no {z:List S37}(h:loopOk (z.map ptP)=true):(10:UInt8) ∉ wrLoop (z.map ptP):=by
 refine Txt.loop_no fun q hq=>?_
 obtain⟨p,hpm,rfl⟩:=List.mem_map.1 hq;exact ptOk_small (loop_ptOk h _ (List.mem_map_of_mem hpm))
theorem readPl_text {o:List S37}{H:List (List S37)}(hB:bodyOkB o H=true):readPl ⟨(linesOf (o::H)).toArray⟩=(o,H,true):=by
 obtain⟨h2,h1,hH,_,_⟩:=(bodyOkB_iff o H).1 hB;have hall:∀ z∈o::H,loopOk (z.map ptP)=true:=fun z hz=>by
  rcases List.mem_cons.1 hz with rfl | hz
  ·
   exact h1
  ·
   exact hH z hz
 have lo:=loop_len h1;have hlen:=lines_cons_len (o:=o) (H:=H) ⟨by omega,lo.2⟩ (fun z hz=>by have:=loop_len (hH z hz);omega) h2 2;rw [List.take_of_length_le h2] at hlen;unfold readPl;rw [if_pos (by rw [ba_size];omega)];have e1:linesOf (o::H)=Go.Lib.join (((o::H).map (List.map ptP)).map wrLoop) [10]++[10]:=by
  unfold linesOf;rw [List.map_cons];exact Txt.wrLines_join _ _
 show (match unl (linesOf (o::H)) with | some u=>linesR (cutB 10 ⟨u.toArray⟩) | none=>badR)=_
 rw [e1,unl_app];simp only;have e2:cutB 10 ⟨(Go.Lib.join (((o::H).map (List.map ptP)).map wrLoop) [10]).toArray⟩=(o::H).map textOf:=by
  unfold cutB
  show (cutAt 10 (Go.Lib.join (((o::H).map (List.map ptP)).map wrLoop) [10])).map _=_
  rw [List.map_map,List.map_cons,Txt.cut_join]
  ·
   rw [List.map_cons,List.map_map,List.map_cons];rfl
  ·
   intro w hw;rw [← List.map_cons (f:=wrLoop ∘ List.map ptP)] at hw;obtain⟨q,hq,rfl⟩:=List.mem_map.1 hw;exact text_no (hall q hq)
 rw [e2];unfold linesR;rw [Txt.allOf_map (f:=readLL) (g:=textOf) (fun z hz=>readLL_text (hall z hz))];simp only;unfold finR;rw [hB,if_pos rfl]
theorem luSame_l (z:List S37)(hl:z.length≤1000):∀ (m i k:Nat),z.length-i=m→m+1≤k→laws_luSame.l0 k z z (i:Int)=some true:=by
 intro m
 induction m with
 | zero =>
  intro i k hm hk;obtain⟨k,rfl⟩:∃ q,k=q+1:=⟨k-1,by omega⟩;rw [laws_luSame.l0,if_neg (by omega)]
 | succ m ih =>
  intro i k hm hk;obtain⟨k,rfl⟩:∃ q,k=q+1:=⟨k-1,by omega⟩;rw [laws_luSame.l0,if_pos (by omega),if_pos (by omega),if_pos (by omega),if_neg (by simp),succ64 (by omega)];exact ih (i+1) k (by omega) (by omega)
theorem luSame_f {k:Nat}(z:List S37)(hl:z.length≤1000)(hk:z.length+1≤k):laws_luSame.f k z z=some true:=by
 unfold laws_luSame.f;rw [if_pos rfl];exact luSame_l z hl z.length 0 k (by omega) hk
theorem luPlates_l (o:List S37)(H:List (List S37))(hl:H.length≤1000)(hz:∀ z∈H,z.length≤1000):∀ (m i k:Nat),H.length-i=m→m+1100≤k→laws_luPlates.l0 k (i:Int) o H o H=some true:=by
 intro m
 induction m with
 | zero =>
  intro i k hm hk;obtain⟨k,rfl⟩:∃ q,k=q+1:=⟨k-1,by omega⟩;rw [laws_luPlates.l0,if_neg (by omega)]
 | succ m ih =>
  intro i k hm hk;obtain⟨k,rfl⟩:∃ q,k=q+1:=⟨k-1,by omega⟩;have hlt:i<H.length:=by omega
  have ht:=rdL_take hlt;obtain⟨z,hze⟩:∃ z,rd_L5 H (i:Int)=z:=⟨_,rfl⟩;rw [hze] at ht;have hzm:z∈H:=List.mem_of_mem_take (i:=i+1) (by rw [ht];simp);have:=hz z hzm;rw [laws_luPlates.l0,if_pos (by omega),if_pos (by omega),if_pos (by omega),hze,luSame_f z (by omega) (by omega),Option.bind_some,if_pos rfl,succ64 (by omega)];exact ih (i+1) k (by omega) (by omega)
theorem luPlates_f {k:Nat}{o:List S37}{H:List (List S37)}(ho:o.length≤1000)(hl:H.length≤1000)(hz:∀ z∈H,z.length≤1000)(hk:2200≤k):laws_luPlates.f k o H o H=some true:=by
 obtain⟨k,rfl⟩:∃ q,k=q+1:=⟨k-1,by omega⟩;unfold laws_luPlates.f;rw [luSame_f o ho (by omega),Option.bind_some,if_pos rfl];have e:((H.length:Int) != (H.length:Int))=false:=by simp
 rw [e,laws_luPlates.j0,if_neg (by decide)];exact luPlates_l o H hl hz H.length 0 k (by omega) (by omega)
end Go.Proofs.YtailkppkjhkjpaaDoor.X
end
section
set_option linter.unusedVariables false
set_option linter.unusedSimpArgs false
namespace Go.Proofs.YtailkppkjhkjpaaDoor.Pure
open Go.RowKit Go.Proofs.YtailkppkjhkjpaaDoor.X Go.Proofs.YtailkppkjhkjpaaDoorW.PrintWords Go.Proofs.YtailkppkjhkjpaaDoorW.PrintLast
open Mort (ptOk plateOk loopOk)
theorem back_first {o:List S37}{H:List (List S37)}:∃ rest,linesOf (o::H)=(textOf o++(⟨#[10]⟩:ByteArray)).data.toList++rest:=by
 refine⟨linesOf H,?_⟩;rw [ByteArray.data_append,Array.toList_append];unfold linesOf Txt.wrLines textOf;simp
theorem FnPlateBack:laws_FnPlateBack.Pure:=by
 intro l _ _ hw;obtain⟨o,H,hd⟩:=drawPlateText l hw;refine⟨400000+1,?_⟩;unfold laws_FnPlateBack.f
 split
 ·
  rfl
 rw [hd _ (by omega)];simp only [Option.bind_some];obtain⟨t,ht⟩:∃ t,impl_PlateText.f o H=some t:=⟨_,rfl⟩;rw [sPlateText (by omega),ht,Option.bind_some,Option.bind_some,if_pos rfl];rw [laws_FnPlateBack.j0];by_cases he:(t.toList==([]:List UInt8))=true
 ·
  rw [if_pos he,sPlateText (by omega),ht,Option.bind_some];simp
 ·
  rw [if_neg he]
  cases hb:bodyOkB o H with
  | false =>
   exfalso
   unfold impl_PlateText.f at ht;rw [hb,if_neg (by decide)] at ht;obtain rfl:=Option.some.inj ht;exact he (by rw [Go.Lib.toList_data];rfl)
  | true =>
   unfold impl_PlateText.f at ht;rw [hb,if_pos rfl] at ht;obtain rfl:=Option.some.inj ht;obtain⟨h2,h1,hH,_,_⟩:=(bodyOkB_iff o H).1 hb;have lo:=loop_len h1;have hlt:impl_LoopText.f o=some (textOf o):=by
    unfold impl_LoopText.f impl_LoopOk.f;rw [Option.bind_some,if_pos h1,loop_pts h1];rfl
   have hts:=textOf_len (z:=o) (by omega) lo.2;rw [iPlateRead (by omega),readPl_text hb,Option.bind_some,hlt,Option.bind_some,if_pos (by omega),if_pos rfl];simp only;rw [luPlates_f (o:=o) (H:=H) (by omega) (by omega) (fun z hz=>by have:=loop_len (hH z hz);omega) (by omega),Option.bind_some,if_pos rfl];obtain⟨rest,hr⟩:=back_first (o:=o) (H:=H);obtain⟨f,hf⟩:∃ f,textOf o++(⟨#[10]⟩:ByteArray)=f:=⟨_,rfl⟩;rw [hf] at hr ⊢
   have e2:f.data.toList.length=f.size:=by rw [Array.length_toList];rfl
   have hle:f.size≤(⟨(linesOf (o::H)).toArray⟩:ByteArray).size:=by
    have hl2:(linesOf (o::H)).length=f.size+rest.length:=by rw [hr,List.length_append,e2]
    have:=ba_size (linesOf (o::H));omega
   rw [if_pos (by omega),if_pos (by omega),if_pos (by omega),Int.toNat_natCast]
   congr 1
   rw [Go.Lib.toList_data,Go.Lib.toList_data,Go.Lib.extract_data]
   show (((linesOf (o::H)).drop 0).take (f.size-0)==f.data.toList)=true
   rw [hr,List.drop_zero,Nat.sub_zero,← e2,List.take_left];simp
end Go.Proofs.YtailkppkjhkjpaaDoor.Pure
end
section
namespace Go.Proofs.YtailkppkjhkjpaaDoorW.PrintWords
open Go.ChangeShapes Go.WideShapes
theorem sized_ints {H:Type}{enc:TypeId × Value→H}{P:Program}{W:World}{base:Nat}{spare:Nat→Bool}{held:Bool}{t e:TypeId}{k:IntKind}{a:Option Addr}{len cap:Nat}{d:DataW H}{ps:List MemPlace}{ts:List TypeId}{ds:List (DataW H)}{j:Nat}
  (hsz:(DataW.weightsEach P ts ds).all (· ≤ reachBytes)=true) (ht:ts[j]?=some t) (hd:ds[j]?=some d) (hu:P.underlying t=some (.slice e)) (he:P.underlying e=some (.int k)) (hc:P.cellsOf e=1) {B:Nat} (hB:P.bytesOf e=B)
  (h:DataW.Trod enc P W base spare held t (.slice a len cap) d ps):len*B≤140737488351232:=by
 obtain⟨fuel,hf⟩:=h
 rcases open_ints hu he hc hf with ⟨hcs,_⟩ | ⟨x,l,c,zs,hcs,_,hl,_,hz,hx,_,_⟩
 ·
  simp [Value.cells] at hcs;obtain⟨rfl,rfl,rfl⟩:=hcs;simp
 ·
  simp [Value.cells] at hcs;obtain⟨rfl,rfl,rfl⟩:=hcs;obtain⟨hx,_⟩:=Prod.mk.inj hx;subst hx;have z:=sized_slice hsz ht hd hu;rw [hB] at z;have hl2:len≤zs.length:=by
   rw [hz]
   split
   ·
    exact hl
   ·
    exact Nat.le_refl _
  have h1:(lits (H:=H) k (zs.take len)).length+(lits (H:=H) k (zs.drop len)).length=zs.length:=by
   simp [lits];omega
  rw [h1] at z;exact Nat.le_trans (Nat.mul_le_mul_right _ hl2) z
end Go.Proofs.YtailkppkjhkjpaaDoorW.PrintWords
end
section
set_option linter.unusedVariables false
namespace Go.Proofs.YtailkppkjhkjpaaDoor.fnPlateBack
open Go Go.ChangeShapes Go.WideShapes Go.ChangeAt Go.RowKit Go.Proofs.YtailkppkjhkjpaaDoorW
open Go.ChangeMaps (open_string shut_string)
def IsRow (k:IntKind)(w:World)(a:Option Addr)(len cap:Nat)(zs:List Int):Prop:=
 (a=none∧len=0∧cap=0∧zs=[]) ∨
 ∃ x,a=some x∧len≤cap∧cap≤maxLen∧zs.length=cap∧(∀ i,i<zs.length→w.cell? (x.add i)=some (.int k (zs.getD i 0)))∧∀ n∈zs,(Lit.int k n).wf=true
set_option maxRecDepth 100000 in
theorem lifted (os:Os)(started:os.Started)(H:Type)(enc:TypeId × Value→H):
  ReturnsInHanded {} Tryd.checked os 3 .any (fun w args=>(Rows.fnPlateBackSpec.pre enc Tryd.prog Tryd.f3 [] false w args∧laidMet Tryd.prog Rows.fnPlateBackRow.laid w)∧sizedMet enc Tryd.prog Tryd.f3 (OpenSpec.ofChange Rows.fnPlateBackSpec) false w args) (Rows.fnPlateBackSpec.post enc Tryd.prog Tryd.f3 false true false false):=by
 refine returnsInHanded_of_change_and (C:=Tryd.checked) (X:=fun w _=>laidMet Tryd.prog Rows.fnPlateBackRow.laid w) (fun _ _ _ hh h=>h.of_heap hh) own started (by kernel_rfl) Tryd.func3
  (ChangeSpec.witness_at (enc:=enc) (C:=Tryd.checked) (os:=os) (X:=fun w _=>laidMet Tryd.prog Rows.fnPlateBackRow.laid w) false (laidWorld2 os) #[.slice none 0 0] 8 rfl (by kernel_rfl) (by kernel_rfl) (by kernel_rfl) (by kernel_rfl) (by kernel_rfl) (back_met os _)) ?_
 intro W base args ds gs before hval0 hW hcnd hsz0 hL _;have hsz:(DataW.weightsEach Tryd.prog (Tryd.f3.params.toList++Rows.fnPlateBackSpec.plain.varTypes Tryd.prog) (ds++gs)).all (· ≤ reachBytes)=true:=hsz0;have hval:∀ (j:Nat) t v,Tryd.f3.params[j]?=some t→args[j]?=some v→Value.okWide Tryd.prog W .any base t v:=hval0;have hW':=hW;obtain⟨p,q,hA0,hV0,rfl,hfz,hnd⟩:=hW;have hA:DataW.TrodAll enc Tryd.prog W 0 (fun _=>true) true Tryd.f3.params.toList args.toList ds p:=hA0;have hV:DataW.TrodVars enc Tryd.prog W (fun _=>true) [] gs q:=hV0;rw [Tryd.params3] at hA hval hsz;obtain⟨v0,vs0,d0,ds0,p0,q0,hargs,rfl,rfl,h0,r0⟩:=trodAll_cons hA;obtain⟨rfl,rfl,rfl⟩:=trodAll_nil r0;obtain rfl:args=#[v0]:=by cases args;simp_all
 obtain⟨rfl,rfl⟩:gs=[]∧q=[]:=by
  cases gs with
  | nil=>exact⟨rfl,hV⟩
  | cons _ _=>exact hV.elim
 obtain⟨a0,len0,cap0,rfl⟩:=okWide_slice Tryd.underlying22 (hval 0 22 v0 rfl rfl);have k0:=h0;have lt0:∀ x∈p0,x.block<W.heap.size:=by obtain⟨m,hm⟩:=k0;exact DataW.trod_lt m _ _ _ hm
 obtain⟨z0,w0⟩:∃ zs,IsRow .u8 W a0 len0 cap0 zs:=by
  obtain⟨fuel,hf⟩:=h0
  rcases open_ints Tryd.underlying22 Tryd.underlying5 (by kernel_rfl) hf with ⟨hcs,_⟩ | ⟨x,l,c,zs,hcs,_,hl,hm,hz,_,hcell,hwz⟩
  ·
   simp [Value.cells] at hcs;obtain⟨rfl,rfl,rfl⟩:=hcs;exact⟨[],.inl ⟨rfl,rfl,rfl,rfl⟩⟩
  ·
   simp [Value.cells] at hcs;obtain⟨rfl,rfl,rfl⟩:=hcs;exact⟨zs,.inr ⟨_,rfl,hl,hm,by simpa using hz,hcell,hwz⟩⟩
 have y0:len0*1≤140737488351232:=PrintWords.sized_ints hsz (j:=0) (t:=22) rfl rfl Tryd.underlying22 Tryd.underlying5 (by kernel_rfl) (by kernel_rfl) h0;clear hA0 hval0 hsz0 hsz;refine (X.laws_FnPlateBack.walk Pure.FnPlateBack a0 len0 cap0 z0 W w0 y0).mono fun e W' ⟨he,bel⟩=>?_
 subst he;exact⟨_,rfl,_,_,_,[],_,[],hW',trodAll_mk1 (shut_bool Tryd.underlying4 _),(trodAll_cons_mk (Below.trod laidOut (by kernel_rfl) (of_decide_eq_true (by kernel_rfl)) k0 bel lt0) trodAll_mk0),rfl,bel.frame _,fun h=>by cases h⟩
theorem over:Rows.fnPlateBackRow.holds Tryd.pinned (OpenSpec.ofChange Rows.fnPlateBackSpec):=
 OpenClaim.holds_of_wide 3 Tryd.f3 rfl rfl rfl rfl rfl rfl rfl ⟨rfl,rfl,rfl,rfl,rfl⟩ rfl rfl rfl rfl rfl (by kernel_rfl) Tryd.func3 (by kernel_rfl)
  (of_decide_eq_true (by kernel_rfl)) (by unfold Func.isWrapper;first | (rw [if_pos (by decide +kernel)];kernel_rfl) | (rw [if_neg (by decide +kernel)];exact⟨rfl,rfl⟩))
  (fun os started H enc _=>lifted os started H enc)
theorem proved:Rows.FnPlateBackCardSaid:=
 Claim7.holds_tied_plain_at .later [] [.data,.data,.data,.data,.pinned] true (true,"b4ab95a4db49b2771e2f8168cb46a810f1ec4b19641b07dd5b55ecff015c9d10") false
  over (fun _ h=>by cases h) (by kernel_rfl) (fun _ h=>by cases h) fnPlateBack_row_tie rfl ⟨rfl,rfl⟩ (by kernel_rfl) rfl
  (fun f fn hf hfn=>by
   obtain rfl:f=3:=Option.some.inj ((show Tryd.prog.funcNamed "loop.example/mortiser/laws.FnPlateBack" = some 3 by kernel_rfl).symm.trans hf) |>.symm
   obtain rfl:fn=Tryd.f3:=(Option.some.inj (Tryd.func3.symm.trans hfn)).symm
   exact⟨by kernel_rfl,fun j t ht=>by
    rw [Tryd.params3] at ht;have h3:t=22:=by
     rcases j with _ | j
     ·
      simpa using ht.symm
     ·
      simp at ht
    subst h3
    exact (show Tryd.prog.wantsStandIn 22=false by kernel_rfl)⟩)
  (by kernel_rfl)
end Go.Proofs.YtailkppkjhkjpaaDoor.fnPlateBack
namespace Go.Proofs.YtailkppkjhkjpaaDoor
theorem fnPlateBack_holds:Rows.FnPlateBackCardSaid:=fnPlateBack.proved
end Go.Proofs.YtailkppkjhkjpaaDoor
end
