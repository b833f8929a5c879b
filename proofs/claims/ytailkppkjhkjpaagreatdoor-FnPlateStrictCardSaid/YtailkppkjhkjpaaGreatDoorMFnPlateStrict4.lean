/- FnPlateStrict: the law returns true for every input, and each input reads behind the call as before; part 4 of 7. No condition. Merged by program out of: FImplPlateRead, HMeet, FSpecL11Apart, EvEdges, HL3In. -/
import Derived.Test.YtailkppkjhkjpaaGreatDoorMFnPlateStrict3
import Derived.Deep.LoopGhost
import Derived.Deep.RegionHeld3
import Derived.RegionTactic
set_option linter.all false
section
namespace Go.Proofs.YtailkppkjhkjpaaGreatDoor.X
open Go.RowKit Go.Proofs.YtailkppkjhkjpaaGreatDoorW.PrintWords Go.Proofs.YtailkppkjhkjpaaGreatDoorW.PrintLast Go.Proofs.YtailkppkjhkjpaaGreatDoorW.PrintMore
attribute [local go_sem] max2_int min2_int max_two min_two max_three min_three max_four min_four
set_option linter.unusedVariables false
set_option linter.unusedSimpArgs false
mutual
def impl_PlateRead.j0:Nat→ByteArray→Bool→Option ((List (S70)) × (List (List (S70))) × Bool)
 | 0,_,_=>none
 | k+1,x0,x16=>if x16=true then (some (([]:List (S70)),([]:List (List (S70))),false)) else ((strings_TrimSuffix.f x0 (⟨#[10]⟩:ByteArray)).bind fun t475=>((strings_Split.f t475 (⟨#[10]⟩:ByteArray)).bind fun t476=>(impl_PlateRead.l0 k t476 (t476.length:Int) 0 ([]:List (S70)) ([]:List (List (S70))))))
def impl_PlateRead.l0:Nat→List ByteArray→Int→Int→List (S70)→List (List (S70))→Option ((List (S70)) × (List (List (S70))) × Bool)
 | 0,_,_,_,_,_=>none
 | k+1,x20,x21,x22,x475000,x475001=>if x22<x21 then (if 0≤x22 then (if x22<(x20.length:Int) then ((impl_LoopRead.f (rdOf ByteArray.empty x20 x22)).bind fun bt481=>(if bt481.2=true then (if x22=0 then (impl_PlateRead.l0 k x20 x21 (wrap64 (x22+1)) bt481.1 x475001) else (if x475001.length<5864062014805 then (impl_PlateRead.l0 k x20 x21 (wrap64 (x22+1)) x475000 (x475001++[bt481.1])) else (none))) else (some (([]:List (S70)),([]:List (List (S70))),false)))) else (none)) else (none)) else ((impl_PlateOk.f x475000 x475001).bind fun t479=>(if t479=true then (some (x475000,x475001,true)) else (some (([]:List (S70)),([]:List (List (S70))),false))))
end
def impl_PlateRead.f (k:Nat)(a0:ByteArray):Option ((List (S70)) × (List (List (S70))) × Bool):=if (a0.size:Int)>120 then (impl_PlateRead.j0 k a0 true) else ((strings_HasSuffix.f a0 (⟨#[10]⟩:ByteArray)).bind fun t473=>(impl_PlateRead.j0 k a0 (!t473)))
set_option maxHeartbeats 8000000 in
set_option maxRecDepth 100000 in
theorem impl_PlateRead.calls (k:Nat)(a0:ByteArray)(r1:List (S70))(r2:List (List (S70)))(r3:Bool)(w:World)(h:impl_PlateRead.f k a0=some (r1,r2,r3)):
  Calls Tryz.prog 6 #[.string a0] w fun e w'=>∃ v0_ v1_:Value,e=.returned (.tuple #[.agg #[v0_,v1_],.bool r3])∧Kd.R k70 70 w' w.heap.size (fun _=>True) v0_ r1∧Kd.S (Kd.slice 70 k70) 24 w' w.heap.size (fun k_=>some k_≠(v0_:Value).ownBlock) v1_ r2∧Below w.heap.size w w':=by
 have hu27:=Tryz.underlying27;have HB:=a0_ (Below.refl w.heap.size w);have H:(if (a0.size:Int)>120 then (impl_PlateRead.j0 k a0 true) else ((strings_HasSuffix.f a0 (⟨#[10]⟩:ByteArray)).bind fun t473=>(impl_PlateRead.j0 k a0 (!t473))))=some (r1,r2,r3):=h;clear h;have HC2:=Aside0.mk H;clear H;go_enter Tryz.func6,Tryz.ntmps6;go_upto_region 1 with (first | ((with_reducible refine gate_dst (N:=2) rfl ?_);refine bx_ (N:=2) (cs:=#[.slice none 0 0,.slice none 0 0]) (t:=27) (h:=?_);intro gb472 hg w3 hbox hb;have BK472:=a0_ (hbox);have GW472:=gh_ HB hg;have GE472:=gh_ HB hg;replace HB:=sb_ HB hb;clear hb hbox hg))
 (try simp only [Act.put,List.setIfInBounds_toArray,List.set_cons_zero,List.set_cons_succ])
 go_cut [16] (fun v16 wc=>∃ (kq:Nat) (x16_1:Bool),v16=.bool x16_1∧Aside0 (impl_PlateRead.j0 kq a0 x16_1=some (r1,r2,r3))∧Aside0 (kq≤k)∧Aside0 (wc.heap[gb472]?=some (.cells #[(.slice none 0 0),(.slice none 0 0)] 27 (0,0)))∧Aside0 (Below w.heap.size w wc))
 case first =>
  have H:=HC2.out;clear HC2;by_cases c4:(a0.size:Int)>120
  ·
   rw [if_pos c4] at H;have c4b0:decide (120<(a0.size:Int))=true:=decide_eq_true c4;have c4b1:decide (120<a0.size)=true:=decide_eq_true (by omega);clear c4
   (first | rw [c4b0] | (simp only [i64_w,i32_w];rw [c4b0]) | skip)
   have H':=Aside0.mk H;clear H;go_wp2;go_meet
   case rel=>exact⟨_,(true),(by first | rfl | (simp;done) | (simp [*];done)),H',⟨by first | omega | exact Nat.le_refl _⟩,⟨uq_⟩,⟨hB_⟩⟩
  ·
   rw [if_neg c4] at H;have c4b0:decide (120<(a0.size:Int))=false:=decide_eq_false c4;have c4b1:decide (120<a0.size)=false:=decide_eq_false (by omega);clear c4
   (first | rw [c4b0] | (simp only [i64_w,i32_w];rw [c4b0]) | skip)
   replace H:=Option.bind_eq_some_iff.mp H;obtain⟨t473,A50,H⟩:=H
   (try dsimp only at H)
   have A5:=Aside0.mk A50;clear A50;have H':=Aside0.mk H;clear H;go_wp2_with (first | (go_at_call 18;(with_reducible refine (strings_HasSuffix.calls a0 (⟨#[10]⟩:ByteArray) t473 _ A5.out).mono ?_);rintro e w' ⟨rfl,⟨nd,rfl⟩⟩));go_meet
   case rel=>exact⟨_,(!t473),(by first | rfl | (simp;done) | (simp [*];done)),H',⟨by first | omega | exact Nat.le_refl _⟩,⟨uq_⟩,⟨hB_⟩⟩
 case rest =>
  clear HC2;obtain⟨kq,x16_1,rfl,HA,HJ1,BK472,HB⟩:=hcut
  cases kq with
  | zero=>exact absurd HA.out (by simp [impl_PlateRead.j0])
  | succ kj1 =>
   have H:=HA.out;clear HA;simp only [impl_PlateRead.j0] at H;by_cases c6:x16_1=true
   ·
    subst c6;rw [if_pos rfl] at H
    (try dsimp only at H)
    simp only [Option.some.injEq,Prod.mk.injEq] at H;obtain⟨rfl,rfl,rfl⟩:=H;have hcz7_0:=c20_ BK472;have hcz7_1:=c21_ BK472;have hfz7_0:=fz_ BK472 0;have hfz7_1:=fz_ BK472 1;go_wp2;refine bodyPost_ret (results_ct rfl _ _ gb472 27 #[.slice none 0 0,.slice none 0 0] (0,0) _ rfl (by (with_reducible repeat (first | refine blk_drewN ?_ _ | refine blk_drew ?_ | refine blk_alloc ?_ _));refine blk_put (cs:=#[.slice none 0 0,.slice none 0 0]) ?_ 1 _ rfl;(with_reducible repeat (first | refine blk_drewN ?_ _ | refine blk_drew ?_ | refine blk_alloc ?_ _));refine blk_put (cs:=#[.slice none 0 0,.slice none 0 0]) ?_ 0 _ rfl;(with_reducible repeat (first | refine blk_drewN ?_ _ | refine blk_drew ?_ | refine blk_alloc ?_ _));exact BK472.out) Tryz.underlying27 rfl (by kernel_rfl)) rfl ?_;exact⟨_,_,rr_,by first | exact Kd.R_nil _ _ _ _ _ | exact Kd.N_nil _ _ _ _ _ | exact Kd.V_nil _ _ _ _ _ | exact Kd.Q_nil _ _ _ _ _ | exact Kd.S_nil _ _ _ _ _,by first | exact Kd.S_nil _ _ _ _ _ | exact Kd.N_nil _ _ _ _ _ | exact Kd.V_nil _ _ _ _ _ | exact Kd.Q_nil _ _ _ _ _ | exact Kd.R_nil _ _ _ _ _,hB_⟩
   ·
    replace c6:=Bool.eq_false_iff.mpr c6;subst c6;rw [if_neg (show ¬ (false=true) by decide)] at H
    (try dsimp only at H)
    replace H:=Option.bind_eq_some_iff.mp H;obtain⟨t475,A80,H⟩:=H
    (try dsimp only at H)
    have A8:=Aside0.mk A80;clear A80;replace H:=Option.bind_eq_some_iff.mp H;obtain⟨t476,A90,H⟩:=H
    (try dsimp only at H)
    have A9:=Aside0.mk A90;clear A90;have H':=Aside0.mk H;clear H;go_wp2_with (first | ((with_reducible refine gate_dst (N:=4) rfl ?_);refine bx_ (N:=4) (cs:=#[.slice none 0 0,.slice none 0 0]) (t:=27) (h:=?_);intro gb474 hg w10 hbox hb;have BK474:=a0_ (hbox);have GW474:=gh_ HB hg;have GE474:=gh_ HB hg;have NB472_474:=nl_ BK472 hg;have NB474_472:=nr_ BK472 hg;replace BK472:=vb_ BK472 hb;replace HB:=sb_ HB hb;clear hb hbox hg) | ((with_reducible refine gate_callee (f:=20) rfl ?_);refine gL_ (some 19) Tryz.func20 #[.string a0,.string (⟨#[10]⟩:ByteArray)] (h:=?_);(with_reducible refine (strings_TrimSuffix.calls a0 (⟨#[10]⟩:ByteArray) t475 _ A8.out).mono ?_);rintro e w' ⟨rfl,⟨nd,rfl⟩⟩;refine⟨_,rfl,?_⟩) | ((with_reducible refine gate_callee (f:=19) rfl ?_);refine gL_ (some 20) Tryz.func19 #[.string t475,.string (⟨#[10]⟩:ByteArray)] (h:=?_);(with_reducible refine (strings_Split.calls t475 (⟨#[10]⟩:ByteArray) t476 _ A9.out).mono ?_);rintro e w11 ⟨v477,rfl,ho0,hb⟩;refine⟨_,rfl,?_⟩;have HO478:=a0_ (Kd.R_lower ho0 (below_size hB_));replace BK472:=vb_ BK472 hb;replace BK474:=vb_ BK474 hb;replace HB:=sb_ HB hb;(try clear ho0 hb);obtain⟨Ao12,co12,eo12⟩:=Kd.R_slice HO478.out;subst eo12))
    go_loopg [22] kj1 (fun kq v22 w'=>∃ (x22_2:Int) (x475000_2:List (S70)) (x475001_2:List (List (S70))) (u475000:Value) (u475001:Value),v22=.int .i64 x22_2∧Aside0 (impl_PlateRead.l0 kq t476 (t476.length:Int) x22_2 x475000_2 x475001_2=some (r1,r2,r3))∧Aside0 (kq≤kj1)∧Aside0 (Kd.R Kd.string 9 w' w.heap.size (fun _=>True) (.slice Ao12 t476.length co12) t476)∧Aside0 (Kd.R k70 70 w' w.heap.size (fun _=>True) u475000 x475000_2)∧Aside0 (Kd.S (Kd.slice 70 k70) 24 w' w.heap.size (fun k_=>some k_≠(u475000:Value).ownBlock) u475001 x475001_2)∧Aside0 (w'.heap[gb472]?=some (.cells #[(.slice none 0 0),(.slice none 0 0)] 27 (0,0)))∧Aside0 (w'.heap[gb474]?=some (.cells #[u475000,u475001] 27 (0,0)))∧Aside0 (Below w.heap.size w w'))
    case atStart=>exact⟨(0),(([]:List (S70))),(([]:List (List (S70)))),(.slice none 0 0),(.slice none 0 0),(by first | rfl | (simp;done) | (simp [*];done)),H',⟨Nat.le_refl _⟩,⟨by (with_reducible repeat (first | apply Kd.R_alloc | apply Kd.R_drewN | apply Kd.R_drew));exact HO478.out⟩,⟨by first | exact Kd.R_nil _ _ _ _ _ | exact Kd.N_nil _ _ _ _ _ | exact Kd.V_nil _ _ _ _ _ | exact Kd.Q_nil _ _ _ _ _ | exact Kd.S_nil _ _ _ _ _⟩,⟨by first | exact Kd.S_nil _ _ _ _ _ | exact Kd.N_nil _ _ _ _ _ | exact Kd.V_nil _ _ _ _ _ | exact Kd.Q_nil _ _ _ _ _ | exact Kd.R_nil _ _ _ _ _⟩,⟨uq_⟩,⟨uq_⟩,⟨hB_⟩⟩
    case round =>
     clear H';obtain⟨x22_2,x475000_2,x475001_2,u475000,u475001,rfl,HA,HK2,HO_20,HO_475000,HO_475001,BK472,BK474,HB⟩:=hrel
     cases gk with
     | zero=>exact absurd HA.out (by simp [impl_PlateRead.l0])
     | succ k2 =>
      have H:=HA.out;clear HA;simp only [impl_PlateRead.l0] at H;by_cases c13:x22_2<(t476.length:Int)
      ·
       rw [if_pos c13] at H;have c13b0:decide (x22_2<(t476.length:Int))=true:=decide_eq_true c13;clear c13;by_cases c14:0≤x22_2
       ·
        rw [if_pos c14] at H;have c14b0:decide (0≤x22_2)=true:=decide_eq_true c14;clear c14;by_cases c15:x22_2<(t476.length:Int)
        ·
         rw [if_pos c15] at H;have c15b0:decide (x22_2<(t476.length:Int))=true:=decide_eq_true c15;clear c15;replace H:=Option.bind_eq_some_iff.mp H;obtain⟨⟨t481,t482⟩,A160,H⟩:=H
         (try dsimp only at H)
         have A16:=Aside0.mk A160;clear A160;by_cases c17:t482=true
         ·
          subst c17;rw [if_pos rfl] at H
          (try dsimp only at H)
          by_cases c18:x22_2=0
          ·
           rw [if_pos c18] at H;have c18b0:(x22_2==0)=true:=beq_iff_eq.mpr c18;have c18b1:(x22_2 != 0)=false:=bne_eq_false_iff_eq.mpr c18;clear c18;have H':=Aside0.mk H;clear H;have p480:0≤(x22_2:Int):=od_;have q480:x22_2<(t476.length:Int):=od_;obtain⟨ad480,e480,hx480_0⟩:=Kd.at_string (Kd.R_reads' HO_20.out).2.2 x22_2 p480 q480;cases e480;replace p480:=eq_true p480;replace q480:=eq_true q480;go_wp2_with (first | ((with_reducible refine gate_callee (f:=21) rfl ?_);refine gL_ (some 29) Tryz.func21 #[.string (rdOf ByteArray.empty t476 x22_2)] (h:=?_);(with_reducible refine (impl_LoopRead.calls (rdOf ByteArray.empty t476 x22_2) t481 true _ A16.out).mono ?_);rintro e w19 ⟨v483,rfl,ho0,hb⟩;refine⟨_,rfl,?_⟩;have HO484:=a0_ (Kd.R_lower (Kd.R_new' ho0 (Kd.R_lt (uR_ HO_475000))) (below_size hB_));replace HO_20:=rb_ HO_20 hb;replace HO_475000:=a0_ (Kd.R_elder' (uR_ HO_475000) (Kd.R_base ho0) hb);replace HO_475001:=a0_ (Kd.S_elder' (by (with_reducible repeat (first | apply Kd.S_alloc | apply Kd.S_drewN | apply Kd.S_drew));exact HO_475001.out) (Kd.R_base ho0) hb);replace BK472:=vb_ BK472 hb;replace BK474:=vb_ BK474 hb;replace HB:=sb_ HB hb;(try clear ho0 hb);obtain⟨Ao20,co20,eo20⟩:=Kd.R_slice HO484.out;subst eo20;have hnb21:=NB474_472.out;have hnc21:=NB472_474.out;have hcz22_0:=c20_ BK474;have hcz22_1:=c21_ BK474;have hfz22_0:=fz_ BK474 0;have hfz22_1:=fz_ BK474 1));go_roundg k2
           case measure=>have:=HJ1.out;have:=HK2.out;omega
           case rel=>exact⟨(wrap64 (x22_2+1)),(t481),(x475001_2),(.slice Ao20 t481.length co20),(u475001),(by first | rfl | (simp;done) | (simp [*];done)),H',⟨by have:=HJ1.out;have:=HK2.out;omega⟩,⟨by (with_reducible repeat (first | apply Kd.R_alloc | apply Kd.R_drewN | apply Kd.R_drew));exact Kd.R_mono (Kd.R_far (p:=⟨gb474,0,none⟩) (Kd.R_types HO_20.out BK474.out (by decide)) (fun _ hk=>hk.2) (.slice Ao20 t481.length co20)) (fun _ hk=>trivial)⟩,⟨by (with_reducible repeat (first | apply Kd.R_alloc | apply Kd.R_drewN | apply Kd.R_drew));exact Kd.R_mono (Kd.R_far (p:=⟨gb474,0,none⟩) (Kd.R_types HO484.out BK474.out (by decide)) (fun _ hk=>hk.2) (.slice Ao20 t481.length co20)) (fun _ hk=>trivial)⟩,⟨by (with_reducible repeat (first | apply Kd.S_alloc | apply Kd.S_drewN | apply Kd.S_drew));exact Kd.S_mono (Kd.S_far (p:=⟨gb474,0,none⟩) (Kd.S_types HO_475001.out BK474.out (by decide)) (fun _ hk=>hk.2) (.slice Ao20 t481.length co20)) (fun _ hk=>hk.1.2)⟩,⟨by (with_reducible repeat (first | refine blk_drewN ?_ _ | refine blk_drew ?_ | refine blk_alloc ?_ _));refine blk_far ?_ NB472_474.out _;(with_reducible repeat (first | refine blk_drewN ?_ _ | refine blk_drew ?_ | refine blk_alloc ?_ _));exact BK472.out⟩,⟨by (with_reducible repeat (first | refine blk_drewN ?_ _ | refine blk_drew ?_ | refine blk_alloc ?_ _));refine blk_put (cs:=#[u475000,u475001]) ?_ 0 _ rfl;(with_reducible repeat (first | refine blk_drewN ?_ _ | refine blk_drew ?_ | refine blk_alloc ?_ _));exact BK474.out⟩,⟨hB_⟩⟩
          ·
           rw [if_neg c18] at H;have c18b0:(x22_2==0)=false:=beq_eq_false_iff_ne.mpr c18;have c18b1:(x22_2 != 0)=true:=bne_iff_ne.mpr c18;by_cases c23:x475001_2.length<5864062014805
           ·
            rw [if_pos c23] at H;have LMc23:=Aside0.mk c23;clear c23;obtain⟨y485,hy485⟩:∃ y_:List (List (S70)),y_=(x475001_2++[t481]):=⟨_,rfl⟩;replace H:(impl_PlateRead.l0 k2 t476 (t476.length:Int) (wrap64 (x22_2+1)) x475000_2 y485)=some (r1,r2,r3):=by first | (rw [hy485];with_reducible exact H) | (have H2_:=(Option.bind_some _ _).symm.trans H;rw [hy485];with_reducible exact H2_) | (have H2_:=(Option.bind_some _ _).symm.trans H;with_reducible exact H2_) | with_reducible exact H | (rw [hy485];exact H) | exact H
            have Ny485:=Aside0.mk hy485;clear hy485;have H':=Aside0.mk H;clear H;have p480:0≤(x22_2:Int):=od_;have q480:x22_2<(t476.length:Int):=od_;obtain⟨ad480,e480,hx480_0⟩:=Kd.at_string (Kd.R_reads' HO_20.out).2.2 x22_2 p480 q480;cases e480;replace p480:=eq_true p480;replace q480:=eq_true q480
            go_wp2_with (first | ((with_reducible refine gate_callee (f:=21) rfl ?_);refine gL_ (some 29) Tryz.func21 #[.string (rdOf ByteArray.empty t476 x22_2)] (h:=?_);(with_reducible refine (impl_LoopRead.calls (rdOf ByteArray.empty t476 x22_2) t481 true _ A16.out).mono ?_);rintro e w24 ⟨v483,rfl,ho0,hb⟩;refine⟨_,rfl,?_⟩;have HO484:=a0_ (Kd.R_lower (Kd.R_new' ho0 (Kd.R_lt (uR_ HO_475000))) (below_size hB_));replace HO_20:=rb_ HO_20 hb;replace HO_475000:=a0_ (Kd.R_elder' (uR_ HO_475000) (Kd.R_base ho0) hb);replace HO_475001:=a0_ (Kd.S_elder' (by (with_reducible repeat (first | apply Kd.S_alloc | apply Kd.S_drewN | apply Kd.S_drew));exact HO_475001.out) (Kd.R_base ho0) hb);replace BK472:=vb_ BK472 hb;replace BK474:=vb_ BK474 hb;replace HB:=sb_ HB hb;(try clear ho0 hb);have hnb25:=NB474_472.out;have hnc25:=NB472_474.out;have hcz26_0:=c20_ BK474;have hcz26_1:=c21_ BK474;have hfz26_0:=fz_ BK474 0;have hfz26_1:=fz_ BK474 1;obtain⟨Ao28,co28,eo28⟩:=Kd.R_slice HO484.out;subst eo28) | ((with_reducible refine gate_builtin (b:=.append) (xs:=#[.tmp 40,.tmp 42]) rfl ?_);at_builtin;refine Kd.S_append (Kd.slice 70 k70) (w0:=w) w.heap.size rfl (.tmp 40) (.tmp 42) 25 24 (.slice none 0 0) 24 rfl Tryz.underlying25 info24 rfl (by decide) (by omega) u475001 x475001_2 t481 [.slice Ao28 t481.length co28] (fun k_=>some k_≠(u475000:Value).ownBlock) (fun k_=>some k_=(.slice Ao28 t481.length co28:Value).ownBlock) rfl rfl ?aP (fun k_ hk_=>((Kd.R_mono (ok':=fun k_=>((fun k_=>some k_≠(u475000:Value).ownBlock)) k_∧some k_≠(u475001:Value).ownBlock) (Kd.R_apart' (HO484.out) (Kd.S_typed HO_475001.out) (by decide)) (fun k_ hk=>⟨hk.1.2,hk.2⟩))).1 k_ hk_.symm) ?aF ?aO ?aB ?aS ?aL ?_;(case aP=>exact Kd.M_row (Kd.R_mono (Kd.R_tight rfl (Kd.R_mono (ok':=fun k_=>((fun k_=>some k_≠(u475000:Value).ownBlock)) k_∧some k_≠(u475001:Value).ownBlock) (Kd.R_apart' (HO484.out) (Kd.S_typed HO_475001.out) (by decide)) (fun k_ hk=>⟨hk.1.2,hk.2⟩))) (fun _ h_=>h_)));(case aB=>exact hB_);(case aF=>exact (fun k_ hk=>Kd.fresh' (Kd.R_lt (uR_ HO_475000)) k_ hk));(case aO=>exact (by (with_reducible repeat (first | apply Kd.S_alloc | apply Kd.S_drewN | apply Kd.S_drew));exact Kd.S_mono HO_475001.out (fun k_ hk=>⟨hk.1,fun e_=>hk.2 e_⟩)));(case aS=>exact (below_size hB_));(case aL=>have:=LMc23.out;omega);intro v486 w27 ho hb hg hat;rw [← Ny485.out] at ho;have HO487:=a0_ (ho);replace HO_20:=a0_ (Kd.R_over' (uR_ HO_20) (Kd.S_typed (by (with_reducible repeat (first | apply Kd.S_alloc | apply Kd.S_drewN | apply Kd.S_drew));exact HO_475001.out)) (by decide) hg);replace HO_475000:=a0_ (Kd.R_over' (uR_ HO_475000) (Kd.S_typed (by (with_reducible repeat (first | apply Kd.S_alloc | apply Kd.S_drewN | apply Kd.S_drew));exact HO_475001.out)) (by decide) hg);replace BK472:=a0_ (blk_grown (g:=gb472) (o:=.cells #[.slice none 0 0,.slice none 0 0] 27 (0,0)) uq_ hg (Kd.S_ne HO_475001.out BK472.out (by decide)));replace BK474:=a0_ (blk_grown (g:=gb474) (o:=.cells #[u475000,u475001] 27 (0,0)) uq_ hg (Kd.S_ne HO_475001.out BK474.out (by decide)));replace HB:=a0_ (hb);clear HO484 HO_475001;clear ho hb hg hat;obtain⟨Ao29,co29,eo29⟩:=Kd.S_slice HO487.out;subst eo29;have hcz30_0:=c20_ BK474;have hcz30_1:=c21_ BK474;have hfz30_0:=fz_ BK474 0;have hfz30_1:=fz_ BK474 1))
            go_roundg k2
            case measure=>have:=HJ1.out;have:=HK2.out;omega
            case rel=>exact⟨(wrap64 (x22_2+1)),(x475000_2),(y485),(u475000),(.slice Ao29 y485.length co29),(by first | rfl | (simp;done) | (simp [*];done)),H',⟨by have:=HJ1.out;have:=HK2.out;omega⟩,⟨by (with_reducible repeat (first | apply Kd.R_alloc | apply Kd.R_drewN | apply Kd.R_drew));exact Kd.R_mono (Kd.R_far (p:=⟨gb474,1,none⟩) (Kd.R_types HO_20.out BK474.out (by decide)) (fun _ hk=>hk.2) (.slice Ao29 y485.length co29)) (fun _ hk=>trivial)⟩,⟨by (with_reducible repeat (first | apply Kd.R_alloc | apply Kd.R_drewN | apply Kd.R_drew));exact Kd.R_mono (Kd.R_far (p:=⟨gb474,1,none⟩) (Kd.R_types HO_475000.out BK474.out (by decide)) (fun _ hk=>hk.2) (.slice Ao29 y485.length co29)) (fun _ hk=>trivial)⟩,⟨by (with_reducible repeat (first | apply Kd.S_alloc | apply Kd.S_drewN | apply Kd.S_drew));exact Kd.S_mono (Kd.S_far (p:=⟨gb474,1,none⟩) (Kd.S_types HO487.out BK474.out (by decide)) (fun _ hk=>hk.2) (.slice Ao29 y485.length co29)) (fun _ hk=>hk.1)⟩,⟨by (with_reducible repeat (first | refine blk_drewN ?_ _ | refine blk_drew ?_ | refine blk_alloc ?_ _));refine blk_far ?_ NB472_474.out _;(with_reducible repeat (first | refine blk_drewN ?_ _ | refine blk_drew ?_ | refine blk_alloc ?_ _));exact BK472.out⟩,⟨by (with_reducible repeat (first | refine blk_drewN ?_ _ | refine blk_drew ?_ | refine blk_alloc ?_ _));refine blk_put (cs:=#[u475000,u475001]) ?_ 1 _ rfl;(with_reducible repeat (first | refine blk_drewN ?_ _ | refine blk_drew ?_ | refine blk_alloc ?_ _));exact BK474.out⟩,⟨hB_⟩⟩
           ·
            rw [if_neg c23] at H;exact absurd H (by simp)
         ·
          replace c17:=Bool.eq_false_iff.mpr c17;subst c17;rw [if_neg (show ¬ (false=true) by decide)] at H
          (try dsimp only at H)
          simp only [Option.some.injEq,Prod.mk.injEq] at H;obtain⟨rfl,rfl,rfl⟩:=H;have p480:0≤(x22_2:Int):=od_;have q480:x22_2<(t476.length:Int):=od_;obtain⟨ad480,e480,hx480_0⟩:=Kd.at_string (Kd.R_reads' HO_20.out).2.2 x22_2 p480 q480;cases e480;replace p480:=eq_true p480;replace q480:=eq_true q480;go_wp2_with (first | ((with_reducible refine gate_callee (f:=21) rfl ?_);refine gL_ (some 29) Tryz.func21 #[.string (rdOf ByteArray.empty t476 x22_2)] (h:=?_);(with_reducible refine (impl_LoopRead.calls (rdOf ByteArray.empty t476 x22_2) t481 false _ A16.out).mono ?_);rintro e w31 ⟨v483,rfl,ho0,hb⟩;refine⟨_,rfl,?_⟩;have HO484:=a0_ (Kd.R_lower (Kd.R_new' ho0 (Kd.R_lt (uR_ HO_475000))) (below_size hB_));replace HO_20:=rb_ HO_20 hb;replace HO_475000:=a0_ (Kd.R_elder' (uR_ HO_475000) (Kd.R_base ho0) hb);replace HO_475001:=a0_ (Kd.S_elder' (by (with_reducible repeat (first | apply Kd.S_alloc | apply Kd.S_drewN | apply Kd.S_drew));exact HO_475001.out) (Kd.R_base ho0) hb);replace BK472:=vb_ BK472 hb;replace BK474:=vb_ BK474 hb;replace HB:=sb_ HB hb;(try clear ho0 hb);have hnb32:=NB472_474.out;have hnc32:=NB474_472.out;have hcz33_0:=c20_ BK472;have hcz33_1:=c21_ BK472;have hfz33_0:=fz_ BK472 0;have hfz33_1:=fz_ BK472 1));refine bodyPost_ret (results_ct rfl _ _ gb472 27 #[.slice none 0 0,.slice none 0 0] (0,0) _ rfl (by (with_reducible repeat (first | refine blk_drewN ?_ _ | refine blk_drew ?_ | refine blk_alloc ?_ _));refine blk_put (cs:=#[.slice none 0 0,.slice none 0 0]) ?_ 1 _ rfl;(with_reducible repeat (first | refine blk_drewN ?_ _ | refine blk_drew ?_ | refine blk_alloc ?_ _));refine blk_put (cs:=#[.slice none 0 0,.slice none 0 0]) ?_ 0 _ rfl;(with_reducible repeat (first | refine blk_drewN ?_ _ | refine blk_drew ?_ | refine blk_alloc ?_ _));exact BK472.out) Tryz.underlying27 rfl (by kernel_rfl)) rfl ?_
          exact⟨_,_,rr_,by first | exact Kd.R_nil _ _ _ _ _ | exact Kd.N_nil _ _ _ _ _ | exact Kd.V_nil _ _ _ _ _ | exact Kd.Q_nil _ _ _ _ _ | exact Kd.S_nil _ _ _ _ _,by first | exact Kd.S_nil _ _ _ _ _ | exact Kd.N_nil _ _ _ _ _ | exact Kd.V_nil _ _ _ _ _ | exact Kd.Q_nil _ _ _ _ _ | exact Kd.R_nil _ _ _ _ _,hB_⟩
        ·
         rw [if_neg c15] at H;exact absurd H (by simp)
       ·
        rw [if_neg c14] at H;exact absurd H (by simp)
      ·
       rw [if_neg c13] at H;have c13b0:decide (x22_2<(t476.length:Int))=false:=decide_eq_false c13;clear c13;replace H:=Option.bind_eq_some_iff.mp H;obtain⟨t479,A340,H⟩:=H
       (try dsimp only at H)
       have A34:=Aside0.mk A340;clear A340;by_cases c35:t479=true
       ·
        subst c35;rw [if_pos rfl] at H
        (try dsimp only at H)
        simp only [Option.some.injEq,Prod.mk.injEq] at H;obtain⟨rfl,rfl,rfl⟩:=H;have hnb36:=NB474_472.out;have hnc36:=NB472_474.out;have hcz37_0:=c20_ BK474;have hcz37_1:=c21_ BK474;have hfz37_0:=fz_ BK474 0;have hfz37_1:=fz_ BK474 1;obtain⟨Ao38,co38,eo38⟩:=Kd.R_slice HO_475000.out;subst eo38;obtain⟨Ao39,co39,eo39⟩:=Kd.S_slice HO_475001.out;subst eo39;go_wp2_with (first | ((with_reducible refine gate_callee (f:=8) rfl ?_);refine gL_ (some 47) Tryz.func8 #[.agg #[.slice Ao38 x475000_2.length co38,.slice Ao39 x475001_2.length co39]] (h:=?_);(with_reducible refine (impl_PlateOk.calls _ _ x475000_2 _ _ x475001_2 true _ ?side1 ?side2 ?side3 ?side4 A34.out).mono ?_);(case side1=>repeat (first | exact (Kd.R_reads' HO_475000.out).2.2 | (with_reducible refine Kd.C_alloc ?_ _) | (with_reducible refine Kd.C_drewN ?_ _) | (with_reducible refine Kd.C_drew ?_)));(case side2=>exact (Kd.R_reads' HO_475000.out).2.1);(case side3=>repeat (first | exact (Kd.S_reads' HO_475001.out).2.2 | (with_reducible refine Kd.C_alloc ?_ _) | (with_reducible refine Kd.C_drewN ?_ _) | (with_reducible refine Kd.C_drew ?_)));(case side4=>exact (Kd.S_reads' HO_475001.out).2.1);rintro e w40 ⟨rfl,hb⟩;refine⟨_,rfl,?_⟩;replace HO_20:=rb_ HO_20 hb;replace HO_475000:=rb_ HO_475000 hb;replace HO_475001:=a0_ (Kd.S_below (by (with_reducible repeat (first | apply Kd.S_alloc | apply Kd.S_drewN | apply Kd.S_drew));exact HO_475001.out) hb);replace BK472:=vb_ BK472 hb;replace BK474:=vb_ BK474 hb;replace HB:=sb_ HB hb;(try clear hb);have hcz41_0:=c20_ BK474;have hcz41_1:=c21_ BK474;have hfz41_0:=fz_ BK474 0;have hfz41_1:=fz_ BK474 1;have hcz42_0:=c20_ BK472;have hcz42_1:=c21_ BK472;have hfz42_0:=fz_ BK472 0;have hfz42_1:=fz_ BK472 1))
        refine bodyPost_ret (results_ct rfl _ _ gb472 27 #[.slice Ao38 x475000_2.length co38,.slice Ao39 x475001_2.length co39] (0,0) _ rfl (by (with_reducible repeat (first | refine blk_drewN ?_ _ | refine blk_drew ?_ | refine blk_alloc ?_ _));refine blk_put (cs:=#[.slice Ao38 x475000_2.length co38,.slice none 0 0]) ?_ 1 _ rfl;(with_reducible repeat (first | refine blk_drewN ?_ _ | refine blk_drew ?_ | refine blk_alloc ?_ _));refine blk_put (cs:=#[.slice none 0 0,.slice none 0 0]) ?_ 0 _ rfl;(with_reducible repeat (first | refine blk_drewN ?_ _ | refine blk_drew ?_ | refine blk_alloc ?_ _));exact BK472.out) Tryz.underlying27 rfl (by kernel_rfl)) rfl ?_;exact⟨_,_,rr_,by (with_reducible repeat (first | apply Kd.R_alloc | apply Kd.R_drewN | apply Kd.R_drew));exact Kd.R_mono (Kd.R_far (p:=⟨gb472,1,none⟩) (Kd.R_far (p:=⟨gb472,0,none⟩) (Kd.R_types HO_475000.out BK472.out (by decide)) (fun _ hk=>hk.2) (.slice Ao38 x475000_2.length co38)) (fun _ hk=>hk.2) (.slice Ao39 x475001_2.length co39)) (fun _ hk=>trivial),by (with_reducible repeat (first | apply Kd.S_alloc | apply Kd.S_drewN | apply Kd.S_drew));exact Kd.S_mono (Kd.S_far (p:=⟨gb472,1,none⟩) (Kd.S_far (p:=⟨gb472,0,none⟩) (Kd.S_types HO_475001.out BK472.out (by decide)) (fun _ hk=>hk.2) (.slice Ao38 x475000_2.length co38)) (fun _ hk=>hk.2) (.slice Ao39 x475001_2.length co39)) (fun _ hk=>hk.1),hB_⟩
       ·
        replace c35:=Bool.eq_false_iff.mpr c35;subst c35;rw [if_neg (show ¬ (false=true) by decide)] at H
        (try dsimp only at H)
        simp only [Option.some.injEq,Prod.mk.injEq] at H;obtain⟨rfl,rfl,rfl⟩:=H;have hnb43:=NB474_472.out;have hnc43:=NB472_474.out;have hcz44_0:=c20_ BK474;have hcz44_1:=c21_ BK474;have hfz44_0:=fz_ BK474 0;have hfz44_1:=fz_ BK474 1;obtain⟨Ao45,co45,eo45⟩:=Kd.R_slice HO_475000.out;subst eo45;obtain⟨Ao46,co46,eo46⟩:=Kd.S_slice HO_475001.out;subst eo46;go_wp2_with (first | ((with_reducible refine gate_callee (f:=8) rfl ?_);refine gL_ (some 47) Tryz.func8 #[.agg #[.slice Ao45 x475000_2.length co45,.slice Ao46 x475001_2.length co46]] (h:=?_);(with_reducible refine (impl_PlateOk.calls _ _ x475000_2 _ _ x475001_2 false _ ?side1 ?side2 ?side3 ?side4 A34.out).mono ?_);(case side1=>repeat (first | exact (Kd.R_reads' HO_475000.out).2.2 | (with_reducible refine Kd.C_alloc ?_ _) | (with_reducible refine Kd.C_drewN ?_ _) | (with_reducible refine Kd.C_drew ?_)));(case side2=>exact (Kd.R_reads' HO_475000.out).2.1);(case side3=>repeat (first | exact (Kd.S_reads' HO_475001.out).2.2 | (with_reducible refine Kd.C_alloc ?_ _) | (with_reducible refine Kd.C_drewN ?_ _) | (with_reducible refine Kd.C_drew ?_)));(case side4=>exact (Kd.S_reads' HO_475001.out).2.1);rintro e w47 ⟨rfl,hb⟩;refine⟨_,rfl,?_⟩;replace HO_20:=rb_ HO_20 hb;replace HO_475000:=rb_ HO_475000 hb;replace HO_475001:=a0_ (Kd.S_below (by (with_reducible repeat (first | apply Kd.S_alloc | apply Kd.S_drewN | apply Kd.S_drew));exact HO_475001.out) hb);replace BK472:=vb_ BK472 hb;replace BK474:=vb_ BK474 hb;replace HB:=sb_ HB hb;(try clear hb);have hcz48_0:=c20_ BK472;have hcz48_1:=c21_ BK472;have hfz48_0:=fz_ BK472 0;have hfz48_1:=fz_ BK472 1))
        refine bodyPost_ret (results_ct rfl _ _ gb472 27 #[.slice none 0 0,.slice none 0 0] (0,0) _ rfl (by (with_reducible repeat (first | refine blk_drewN ?_ _ | refine blk_drew ?_ | refine blk_alloc ?_ _));refine blk_put (cs:=#[.slice none 0 0,.slice none 0 0]) ?_ 1 _ rfl;(with_reducible repeat (first | refine blk_drewN ?_ _ | refine blk_drew ?_ | refine blk_alloc ?_ _));refine blk_put (cs:=#[.slice none 0 0,.slice none 0 0]) ?_ 0 _ rfl;(with_reducible repeat (first | refine blk_drewN ?_ _ | refine blk_drew ?_ | refine blk_alloc ?_ _));exact BK472.out) Tryz.underlying27 rfl (by kernel_rfl)) rfl ?_;exact⟨_,_,rr_,by first | exact Kd.R_nil _ _ _ _ _ | exact Kd.N_nil _ _ _ _ _ | exact Kd.V_nil _ _ _ _ _ | exact Kd.Q_nil _ _ _ _ _ | exact Kd.S_nil _ _ _ _ _,by first | exact Kd.S_nil _ _ _ _ _ | exact Kd.N_nil _ _ _ _ _ | exact Kd.V_nil _ _ _ _ _ | exact Kd.Q_nil _ _ _ _ _ | exact Kd.R_nil _ _ _ _ _,hB_⟩
attribute [local go_sem high] eqA70
def laws_luSame.l0:Nat→List (S70)→List (S70)→Int→Option (Bool)
 | 0,_,_,_=>none
 | k+1,x0,x1,x5=>if x5<(x0.length:Int) then (if 0≤x5 then (if x5<(x1.length:Int) then (if (!(((rd_T70 x0 x5).f0)==((rd_T70 x1 x5).f0)) || (!(((rd_T70 x0 x5).f1)==((rd_T70 x1 x5).f1))))=true then (some false) else (laws_luSame.l0 k x0 x1 (wrap64 (x5+1)))) else (none)) else (none)) else (some true)
def laws_luSame.f (k:Nat)(l0:List (S70))(l1:List (S70)):Option (Bool):=if (l0.length:Int)=(l1.length:Int) then (laws_luSame.l0 k l0 l1 0) else (some false)
set_option maxHeartbeats 8000000 in
set_option maxRecDepth 100000 in
theorem laws_luSame.calls (k:Nat)(A0:Option Addr)(c0:Nat)(l0:List (S70))(A1:Option Addr)(c1:Nat)(l1:List (S70))(r:Bool)(w:World)(hr0:Kd.C k70 w A0 l0.length l0)(hc0:l0.length≤c0)(hr1:Kd.C k70 w A1 l1.length l1)(hc1:l1.length≤c1)(h:laws_luSame.f k l0 l1=some r):
  Calls Tryz.prog 22 #[.slice A0 l0.length c0,.slice A1 l1.length c1] w fun e w'=>e=.returned (.bool r)∧Drawn0 w w':=by
 have hu70:=Tryz.underlying70;have HR0:=Aside0.mk hr0;have HC0:=Aside0.mk hc0;clear hr0 hc0;have HR1:=Aside0.mk hr1;have HC1:=Aside0.mk hc1;clear hr1 hc1;have H:(if (l0.length:Int)=(l1.length:Int) then (laws_luSame.l0 k l0 l1 0) else (some false))=some r:=h;clear h;by_cases c3:(l0.length:Int)=(l1.length:Int)
 ·
  rw [if_pos c3] at H;have c3b0:((l0.length:Int)==(l1.length:Int))=true:=beq_iff_eq.mpr c3;have c3b1:((l0.length:Int) != (l1.length:Int))=false:=bne_eq_false_iff_eq.mpr c3;have c3b2:(l0.length==l1.length)=true:=by first | simpa using c3 | (simp at c3 ⊢;omega)
  clear c3;have H':=Aside0.mk H;clear H;go_enter Tryz.func22,Tryz.ntmps22;go_wp2
  repeat (go_quiet (fail);try go_wp2)
  go_loopg [5] k (fun kq v5 w'=>∃ (x5_1:Int),v5=.int .i64 x5_1∧Aside0 (laws_luSame.l0 kq l0 l1 x5_1=some r)∧Aside0 (kq≤k)∧Drawn0 w w')
  case atStart=>exact⟨(0),(by first | rfl | (simp;done) | (simp [*];done)),H',⟨Nat.le_refl _⟩,by repeat (first | exact Drawn0.refl _ | apply Drawn0.step)⟩
  case round =>
   clear H';obtain⟨x5_1,rfl,HA,HK1,⟨m1,rfl⟩⟩:=hrel
   cases gk with
   | zero=>exact absurd HA.out (by simp [laws_luSame.l0])
   | succ k1 =>
    have H:=HA.out;clear HA;simp only [laws_luSame.l0] at H;by_cases c4:x5_1<(l0.length:Int)
    ·
     rw [if_pos c4] at H;have c4b0:decide (x5_1<(l0.length:Int))=true:=decide_eq_true c4;clear c4;by_cases c5:0≤x5_1
     ·
      rw [if_pos c5] at H;have c5b0:decide (0≤x5_1)=true:=decide_eq_true c5;clear c5;by_cases c6:x5_1<(l1.length:Int)
      ·
       rw [if_pos c6] at H;have c6b0:decide (x5_1<(l1.length:Int))=true:=decide_eq_true c6;clear c6;by_cases c7:(!(((rd_T70 l0 x5_1).f0)==((rd_T70 l1 x5_1).f0)) || (!(((rd_T70 l0 x5_1).f1)==((rd_T70 l1 x5_1).f1))))=true
       ·
        rw [if_pos c7] at H;have c7b0:(!(((rd_T70 l0 x5_1).f0)==((rd_T70 l1 x5_1).f0)) || (!(((rd_T70 l0 x5_1).f1)==((rd_T70 l1 x5_1).f1))))=true:=c7;clear c7;obtain rfl:=Option.some.inj H;have p488:0≤(x5_1:Int):=od_;have q488:x5_1<(l0.length:Int):=od_;obtain⟨ad488,e488,hx488_0,hx488_1⟩:=at_T70 HR0.out x5_1 p488 q488;cases e488;replace p488:=eq_true p488;replace q488:=eq_true q488;have p489:0≤(x5_1:Int):=od_;have q489:x5_1<(l1.length:Int):=od_;obtain⟨ad489,e489,hx489_0,hx489_1⟩:=at_T70 HR1.out x5_1 p489 q489;cases e489;replace p489:=eq_true p489;replace q489:=eq_true q489;go_wp2
        repeat (go_quiet (fail);try go_wp2)
        go_ret;exact⟨by first | rfl | (simp;done) | (simp [*];done),by repeat (first | exact Drawn0.refl _ | apply Drawn0.step)⟩
       ·
        rw [if_neg c7] at H;have c7b0:(!(((rd_T70 l0 x5_1).f0)==((rd_T70 l1 x5_1).f0)) || (!(((rd_T70 l0 x5_1).f1)==((rd_T70 l1 x5_1).f1))))=false:=by simpa using c7
        clear c7;have H':=Aside0.mk H;clear H;have p488:0≤(x5_1:Int):=od_;have q488:x5_1<(l0.length:Int):=od_;obtain⟨ad488,e488,hx488_0,hx488_1⟩:=at_T70 HR0.out x5_1 p488 q488;cases e488;replace p488:=eq_true p488;replace q488:=eq_true q488;have p489:0≤(x5_1:Int):=od_;have q489:x5_1<(l1.length:Int):=od_;obtain⟨ad489,e489,hx489_0,hx489_1⟩:=at_T70 HR1.out x5_1 p489 q489;cases e489;replace p489:=eq_true p489;replace q489:=eq_true q489;go_wp2
        repeat (go_quiet (fail);try go_wp2)
        go_roundg k1
        case measure=>have:=HK1.out;omega
        case rel=>exact⟨(wrap64 (x5_1+1)),(by first | rfl | (simp;done) | (simp [*];done)),H',⟨by have:=HK1.out;omega⟩,by repeat (first | exact Drawn0.refl _ | apply Drawn0.step)⟩
      ·
       rw [if_neg c6] at H;exact absurd H (by simp)
     ·
      rw [if_neg c5] at H;exact absurd H (by simp)
    ·
     rw [if_neg c4] at H;have c4b0:decide (x5_1<(l0.length:Int))=false:=decide_eq_false c4;clear c4;obtain rfl:=Option.some.inj H;go_wp2
     repeat (go_quiet (fail);try go_wp2)
     go_ret;exact⟨by first | rfl | (simp;done) | (simp [*];done),by repeat (first | exact Drawn0.refl _ | apply Drawn0.step)⟩
 ·
  rw [if_neg c3] at H;have c3b0:((l0.length:Int)==(l1.length:Int))=false:=beq_eq_false_iff_ne.mpr c3;have c3b1:((l0.length:Int) != (l1.length:Int))=true:=bne_iff_ne.mpr c3;have c3b2:(l0.length==l1.length)=false:=by first | simpa using c3 | (simp at c3 ⊢;omega)
  obtain rfl:=Option.some.inj H;go_enter Tryz.func22,Tryz.ntmps22;go_wp2
  repeat (go_quiet (fail);try go_wp2)
  go_ret;exact⟨by first | rfl | (simp;done) | (simp [*];done),by repeat (first | exact Drawn0.refl _ | apply Drawn0.step)⟩
mutual
def laws_luPlates.j0:Nat→Bool→List (S70)→List (List (S70))→List (S70)→List (List (S70))→Option (Bool)
 | 0,_,_,_,_,_=>none
 | k+1,x20,x491000,x491001,x492000,x492001=>if x20=true then (some false) else (laws_luPlates.l0 k 0 x491000 x491001 x492000 x492001)
def laws_luPlates.l0:Nat→Int→List (S70)→List (List (S70))→List (S70)→List (List (S70))→Option (Bool)
 | 0,_,_,_,_,_=>none
 | k+1,x5,x491000,x491001,x492000,x492001=>if x5<(x491001.length:Int) then (if 0≤x5 then (if x5<(x492001.length:Int) then ((laws_luSame.f k (rd_L5 x491001 x5) (rd_L5 x492001 x5)).bind fun t495=>(if t495=true then (laws_luPlates.l0 k (wrap64 (x5+1)) x491000 x491001 x492000 x492001) else (some false))) else (none)) else (none)) else (some true)
end
def laws_luPlates.f (k:Nat)(l0_0:List (S70))(l0_1:List (List (S70)))(l1_0:List (S70))(l1_1:List (List (S70))):Option (Bool):=(laws_luSame.f k l0_0 l1_0).bind fun t492=>(if t492=true then (laws_luPlates.j0 k ((l0_1.length:Int) != (l1_1.length:Int)) l0_0 l0_1 l1_0 l1_1) else (laws_luPlates.j0 k true l0_0 l0_1 l1_0 l1_1))
set_option maxHeartbeats 8000000 in
set_option maxRecDepth 100000 in
theorem laws_luPlates.calls (k:Nat)(A0_0:Option Addr)(c0_0:Nat)(l0_0:List (S70))(A0_1:Option Addr)(c0_1:Nat)(l0_1:List (List (S70)))(A1_0:Option Addr)(c1_0:Nat)(l1_0:List (S70))(A1_1:Option Addr)(c1_1:Nat)(l1_1:List (List (S70)))(r:Bool)(w:World)(hr0_0:Kd.C k70 w A0_0 l0_0.length l0_0)(hc0_0:l0_0.length≤c0_0)(hr0_1:Kd.C (Kd.slice 70 k70) w A0_1 l0_1.length l0_1)(hc0_1:l0_1.length≤c0_1)(hr1_0:Kd.C k70 w A1_0 l1_0.length l1_0)(hc1_0:l1_0.length≤c1_0)(hr1_1:Kd.C (Kd.slice 70 k70) w A1_1 l1_1.length l1_1)(hc1_1:l1_1.length≤c1_1)(h:laws_luPlates.f k l0_0 l0_1 l1_0 l1_1=some r):
  Calls Tryz.prog 7 #[.agg #[.slice A0_0 l0_0.length c0_0,.slice A0_1 l0_1.length c0_1],.agg #[.slice A1_0 l1_0.length c1_0,.slice A1_1 l1_1.length c1_1]] w fun e w'=>e=.returned (.bool r)∧Below w.heap.size w w':=by
 have hu27:=Tryz.underlying27;have HR0_0:=Aside0.mk hr0_0;have HC0_0:=Aside0.mk hc0_0;clear hr0_0 hc0_0;have HR0_1:=Aside0.mk hr0_1;have HC0_1:=Aside0.mk hc0_1;clear hr0_1 hc0_1;have HR1_0:=Aside0.mk hr1_0;have HC1_0:=Aside0.mk hc1_0;clear hr1_0 hc1_0;have HR1_1:=Aside0.mk hr1_1;have HC1_1:=Aside0.mk hc1_1;clear hr1_1 hc1_1;have HB:=a0_ (Below.refl w.heap.size w);have H:((laws_luSame.f k l0_0 l1_0).bind fun t492=>(if t492=true then (laws_luPlates.j0 k ((l0_1.length:Int) != (l1_1.length:Int)) l0_0 l0_1 l1_0 l1_1) else (laws_luPlates.j0 k true l0_0 l0_1 l1_0 l1_1)))=some r:=h;clear h;have HC3:=Aside0.mk H;clear H;go_enter Tryz.func7,Tryz.ntmps7;go_upto_region 1 with (first | ((with_reducible refine gate_dst (N:=2) rfl ?_);(try (refine gate_guard (by rfl) ?_;dsimp only));refine bx_ (N:=2) (cs:=#[.slice A0_0 l0_0.length c0_0,.slice A0_1 l0_1.length c0_1]) (t:=27) (h:=?_);intro gb490 hg w4 hbox hb;have BK490:=a0_ (hbox);have GW490:=gh_ HB hg;have GE490:=gh_ HB hg;replace HB:=sb_ HB hb;clear hb hbox hg) | ((with_reducible refine gate_dst (N:=3) rfl ?_);(try (refine gate_guard (by rfl) ?_;dsimp only));refine bx_ (N:=3) (cs:=#[.slice A1_0 l1_0.length c1_0,.slice A1_1 l1_1.length c1_1]) (t:=27) (h:=?_);intro gb491 hg w5 hbox hb;have BK491:=a0_ (hbox);have GW491:=gh_ HB hg;have GE491:=gh_ HB hg;have NB490_491:=nl_ BK490 hg;have NB491_490:=nr_ BK490 hg;replace BK490:=vb_ BK490 hb;replace HB:=sb_ HB hb;clear hb hbox hg))
 repeat (go_quiet (first | ((with_reducible refine gate_dst (N:=2) rfl ?_);(try (refine gate_guard (by rfl) ?_;dsimp only));refine bx_ (N:=2) (cs:=#[.slice A0_0 l0_0.length c0_0,.slice A0_1 l0_1.length c0_1]) (t:=27) (h:=?_);intro gb490 hg w4 hbox hb;have BK490:=a0_ (hbox);have GW490:=gh_ HB hg;have GE490:=gh_ HB hg;replace HB:=sb_ HB hb;clear hb hbox hg) | ((with_reducible refine gate_dst (N:=3) rfl ?_);(try (refine gate_guard (by rfl) ?_;dsimp only));refine bx_ (N:=3) (cs:=#[.slice A1_0 l1_0.length c1_0,.slice A1_1 l1_1.length c1_1]) (t:=27) (h:=?_);intro gb491 hg w5 hbox hb;have BK491:=a0_ (hbox);have GW491:=gh_ HB hg;have GE491:=gh_ HB hg;have NB490_491:=nl_ BK490 hg;have NB491_490:=nr_ BK490 hg;replace BK490:=vb_ BK490 hb;replace HB:=sb_ HB hb;clear hb hbox hg));go_upto_region 1 with (first | ((with_reducible refine gate_dst (N:=2) rfl ?_);(try (refine gate_guard (by rfl) ?_;dsimp only));refine bx_ (N:=2) (cs:=#[.slice A0_0 l0_0.length c0_0,.slice A0_1 l0_1.length c0_1]) (t:=27) (h:=?_);intro gb490 hg w4 hbox hb;have BK490:=a0_ (hbox);have GW490:=gh_ HB hg;have GE490:=gh_ HB hg;replace HB:=sb_ HB hb;clear hb hbox hg) | ((with_reducible refine gate_dst (N:=3) rfl ?_);(try (refine gate_guard (by rfl) ?_;dsimp only));refine bx_ (N:=3) (cs:=#[.slice A1_0 l1_0.length c1_0,.slice A1_1 l1_1.length c1_1]) (t:=27) (h:=?_);intro gb491 hg w5 hbox hb;have BK491:=a0_ (hbox);have GW491:=gh_ HB hg;have GE491:=gh_ HB hg;have NB490_491:=nl_ BK490 hg;have NB491_490:=nr_ BK490 hg;replace BK490:=vb_ BK490 hb;replace HB:=sb_ HB hb;clear hb hbox hg)))
 (try simp only [Act.put,List.setIfInBounds_toArray,List.set_cons_zero,List.set_cons_succ])
 go_cut [20] (fun v20 wc=>∃ (kq:Nat) (x20_2:Bool),v20=.bool x20_2∧Aside0 (laws_luPlates.j0 kq x20_2 l0_0 l0_1 l1_0 l1_1=some r)∧Aside0 (kq≤k)∧Aside0 (wc.heap[gb490]?=some (.cells #[(.slice A0_0 l0_0.length c0_0),(.slice A0_1 l0_1.length c0_1)] 27 (0,0)))∧Aside0 (wc.heap[gb491]?=some (.cells #[(.slice A1_0 l1_0.length c1_0),(.slice A1_1 l1_1.length c1_1)] 27 (0,0)))∧Aside0 (Below w.heap.size w wc))
 case first =>
  have H:=HC3.out;clear HC3;replace H:=Option.bind_eq_some_iff.mp H;obtain⟨t492,A60,H⟩:=H
  (try dsimp only at H)
  have A6:=Aside0.mk A60;clear A60;by_cases c7:t492=true
  ·
   subst c7;rw [if_pos rfl] at H
   (try dsimp only at H)
   have H':=Aside0.mk H;clear H;have hnb8:=NB490_491.out;have hnc8:=NB491_490.out;have hcz9_0:=c20_ BK490;have hcz9_1:=c21_ BK490;have hfz9_0:=fz_ BK490 0;have hfz9_1:=fz_ BK490 1;have hcz10_0:=c20_ BK491;have hcz10_1:=c21_ BK491;have hfz10_0:=fz_ BK491 0;have hfz10_1:=fz_ BK491 1;go_wp2_with (first | (go_at_call 22;(with_reducible refine (laws_luSame.calls k _ _ l0_0 _ _ l1_0 true _ ?side1 ?side2 ?side3 ?side4 A6.out).mono ?_);(case side1=>repeat (first | exact (Kd.C_below HR0_0.out HB.out) | (with_reducible refine Kd.C_alloc ?_ _) | (with_reducible refine Kd.C_drewN ?_ _) | (with_reducible refine Kd.C_drew ?_)));(case side2=>exact HC0_0.out);(case side3=>repeat (first | exact (Kd.C_below HR1_0.out HB.out) | (with_reducible refine Kd.C_alloc ?_ _) | (with_reducible refine Kd.C_drewN ?_ _) | (with_reducible refine Kd.C_drew ?_)));(case side4=>exact HC1_0.out);rintro e w' ⟨rfl,⟨nd,rfl⟩⟩;(try first | exact⟨rfl,_,World.drewN_drewN _ _ _⟩ | exact⟨rfl,_,Eq.trans (World.drewN_drewN _ _ _) (congrArg (World.drewN _) (Nat.add_assoc _ _ _))⟩)))
   repeat (go_quiet (first | (go_at_call 22;(with_reducible refine (laws_luSame.calls k _ _ l0_0 _ _ l1_0 true _ ?side1 ?side2 ?side3 ?side4 A6.out).mono ?_);(case side1=>repeat (first | exact (Kd.C_below HR0_0.out HB.out) | (with_reducible refine Kd.C_alloc ?_ _) | (with_reducible refine Kd.C_drewN ?_ _) | (with_reducible refine Kd.C_drew ?_)));(case side2=>exact HC0_0.out);(case side3=>repeat (first | exact (Kd.C_below HR1_0.out HB.out) | (with_reducible refine Kd.C_alloc ?_ _) | (with_reducible refine Kd.C_drewN ?_ _) | (with_reducible refine Kd.C_drew ?_)));(case side4=>exact HC1_0.out);rintro e w' ⟨rfl,⟨nd,rfl⟩⟩;(try first | exact⟨rfl,_,World.drewN_drewN _ _ _⟩ | exact⟨rfl,_,Eq.trans (World.drewN_drewN _ _ _) (congrArg (World.drewN _) (Nat.add_assoc _ _ _))⟩)));try go_wp2_with (first | (go_at_call 22;(with_reducible refine (laws_luSame.calls k _ _ l0_0 _ _ l1_0 true _ ?side1 ?side2 ?side3 ?side4 A6.out).mono ?_);(case side1=>repeat (first | exact (Kd.C_below HR0_0.out HB.out) | (with_reducible refine Kd.C_alloc ?_ _) | (with_reducible refine Kd.C_drewN ?_ _) | (with_reducible refine Kd.C_drew ?_)));(case side2=>exact HC0_0.out);(case side3=>repeat (first | exact (Kd.C_below HR1_0.out HB.out) | (with_reducible refine Kd.C_alloc ?_ _) | (with_reducible refine Kd.C_drewN ?_ _) | (with_reducible refine Kd.C_drew ?_)));(case side4=>exact HC1_0.out);rintro e w' ⟨rfl,⟨nd,rfl⟩⟩;(try first | exact⟨rfl,_,World.drewN_drewN _ _ _⟩ | exact⟨rfl,_,Eq.trans (World.drewN_drewN _ _ _) (congrArg (World.drewN _) (Nat.add_assoc _ _ _))⟩))))
   go_meet
   case rel=>exact⟨_,(((l0_1.length:Int) != (l1_1.length:Int))),(by first | rfl | (simp;done) | (simp [*];done)),H',⟨by first | omega | exact Nat.le_refl _⟩,⟨uq_⟩,⟨uq_⟩,⟨hB_⟩⟩
  ·
   replace c7:=Bool.eq_false_iff.mpr c7;subst c7;rw [if_neg (show ¬ (false=true) by decide)] at H
   (try dsimp only at H)
   have H':=Aside0.mk H;clear H;have hnb11:=NB490_491.out;have hnc11:=NB491_490.out;have hcz12_0:=c20_ BK490;have hcz12_1:=c21_ BK490;have hfz12_0:=fz_ BK490 0;have hfz12_1:=fz_ BK490 1;have hcz13_0:=c20_ BK491;have hcz13_1:=c21_ BK491;have hfz13_0:=fz_ BK491 0;have hfz13_1:=fz_ BK491 1;go_wp2_with (first | (go_at_call 22;(with_reducible refine (laws_luSame.calls k _ _ l0_0 _ _ l1_0 false _ ?side1 ?side2 ?side3 ?side4 A6.out).mono ?_);(case side1=>repeat (first | exact (Kd.C_below HR0_0.out HB.out) | (with_reducible refine Kd.C_alloc ?_ _) | (with_reducible refine Kd.C_drewN ?_ _) | (with_reducible refine Kd.C_drew ?_)));(case side2=>exact HC0_0.out);(case side3=>repeat (first | exact (Kd.C_below HR1_0.out HB.out) | (with_reducible refine Kd.C_alloc ?_ _) | (with_reducible refine Kd.C_drewN ?_ _) | (with_reducible refine Kd.C_drew ?_)));(case side4=>exact HC1_0.out);rintro e w' ⟨rfl,⟨nd,rfl⟩⟩;(try first | exact⟨rfl,_,World.drewN_drewN _ _ _⟩ | exact⟨rfl,_,Eq.trans (World.drewN_drewN _ _ _) (congrArg (World.drewN _) (Nat.add_assoc _ _ _))⟩)))
   repeat (go_quiet (first | (go_at_call 22;(with_reducible refine (laws_luSame.calls k _ _ l0_0 _ _ l1_0 false _ ?side1 ?side2 ?side3 ?side4 A6.out).mono ?_);(case side1=>repeat (first | exact (Kd.C_below HR0_0.out HB.out) | (with_reducible refine Kd.C_alloc ?_ _) | (with_reducible refine Kd.C_drewN ?_ _) | (with_reducible refine Kd.C_drew ?_)));(case side2=>exact HC0_0.out);(case side3=>repeat (first | exact (Kd.C_below HR1_0.out HB.out) | (with_reducible refine Kd.C_alloc ?_ _) | (with_reducible refine Kd.C_drewN ?_ _) | (with_reducible refine Kd.C_drew ?_)));(case side4=>exact HC1_0.out);rintro e w' ⟨rfl,⟨nd,rfl⟩⟩;(try first | exact⟨rfl,_,World.drewN_drewN _ _ _⟩ | exact⟨rfl,_,Eq.trans (World.drewN_drewN _ _ _) (congrArg (World.drewN _) (Nat.add_assoc _ _ _))⟩)));try go_wp2_with (first | (go_at_call 22;(with_reducible refine (laws_luSame.calls k _ _ l0_0 _ _ l1_0 false _ ?side1 ?side2 ?side3 ?side4 A6.out).mono ?_);(case side1=>repeat (first | exact (Kd.C_below HR0_0.out HB.out) | (with_reducible refine Kd.C_alloc ?_ _) | (with_reducible refine Kd.C_drewN ?_ _) | (with_reducible refine Kd.C_drew ?_)));(case side2=>exact HC0_0.out);(case side3=>repeat (first | exact (Kd.C_below HR1_0.out HB.out) | (with_reducible refine Kd.C_alloc ?_ _) | (with_reducible refine Kd.C_drewN ?_ _) | (with_reducible refine Kd.C_drew ?_)));(case side4=>exact HC1_0.out);rintro e w' ⟨rfl,⟨nd,rfl⟩⟩;(try first | exact⟨rfl,_,World.drewN_drewN _ _ _⟩ | exact⟨rfl,_,Eq.trans (World.drewN_drewN _ _ _) (congrArg (World.drewN _) (Nat.add_assoc _ _ _))⟩))))
   go_meet
   case rel=>exact⟨_,(true),(by first | rfl | (simp;done) | (simp [*];done)),H',⟨by first | omega | exact Nat.le_refl _⟩,⟨uq_⟩,⟨uq_⟩,⟨hB_⟩⟩
 case rest =>
  clear HC3;obtain⟨kq,x20_2,rfl,HA,HJ2,BK490,BK491,HB⟩:=hcut
  cases kq with
  | zero=>exact absurd HA.out (by simp [laws_luPlates.j0])
  | succ kj2 =>
   have H:=HA.out;clear HA;simp only [laws_luPlates.j0] at H;by_cases c14:x20_2=true
   ·
    subst c14;rw [if_pos rfl] at H
    (try dsimp only at H)
    obtain rfl:=Option.some.inj H;go_wp2
    repeat (go_quiet (fail);try go_wp2)
    go_ret;exact⟨rr_,hB_⟩
   ·
    replace c14:=Bool.eq_false_iff.mpr c14;subst c14;rw [if_neg (show ¬ (false=true) by decide)] at H
    (try dsimp only at H)
    have H':=Aside0.mk H;clear H;go_wp2
    repeat (go_quiet (fail);try go_wp2)
    go_loopg [5] kj2 (fun kq v5 w'=>∃ (x5_2:Int),v5=.int .i64 x5_2∧Aside0 (laws_luPlates.l0 kq x5_2 l0_0 l0_1 l1_0 l1_1=some r)∧Aside0 (kq≤kj2)∧Aside0 (w'.heap[gb490]?=some (.cells #[(.slice A0_0 l0_0.length c0_0),(.slice A0_1 l0_1.length c0_1)] 27 (0,0)))∧Aside0 (w'.heap[gb491]?=some (.cells #[(.slice A1_0 l1_0.length c1_0),(.slice A1_1 l1_1.length c1_1)] 27 (0,0)))∧Aside0 (Below w.heap.size w w'))
    case atStart=>exact⟨(0),(by first | rfl | (simp;done) | (simp [*];done)),H',⟨Nat.le_refl _⟩,⟨uq_⟩,⟨uq_⟩,⟨hB_⟩⟩
    case round =>
     clear H';obtain⟨x5_2,rfl,HA,HK2,BK490,BK491,HB⟩:=hrel
     cases gk with
     | zero=>exact absurd HA.out (by simp [laws_luPlates.l0])
     | succ k2 =>
      have H:=HA.out;clear HA;simp only [laws_luPlates.l0] at H;by_cases c15:x5_2<(l0_1.length:Int)
      ·
       rw [if_pos c15] at H;have c15b0:decide (x5_2<(l0_1.length:Int))=true:=decide_eq_true c15;clear c15;by_cases c16:0≤x5_2
       ·
        rw [if_pos c16] at H;have c16b0:decide (0≤x5_2)=true:=decide_eq_true c16;clear c16;by_cases c17:x5_2<(l1_1.length:Int)
        ·
         rw [if_pos c17] at H;have c17b0:decide (x5_2<(l1_1.length:Int))=true:=decide_eq_true c17;clear c17;replace H:=Option.bind_eq_some_iff.mp H;obtain⟨t495,A180,H⟩:=H
         (try dsimp only at H)
         have A18:=Aside0.mk A180;clear A180;by_cases c19:t495=true
         ·
          subst c19;rw [if_pos rfl] at H
          (try dsimp only at H)
          have H':=Aside0.mk H;clear H;have hnb20:=NB490_491.out;have hnc20:=NB491_490.out;have hcz21_0:=c20_ BK490;have hcz21_1:=c21_ BK490;have hfz21_0:=fz_ BK490 0;have hfz21_1:=fz_ BK490 1;have p493:0≤(x5_2:Int):=od_;have q493:x5_2<(l0_1.length:Int):=od_;obtain⟨ad493,A493_0,c493_0,e493,hx493_0,hl493_0,hi493_0⟩:=at_L5 HR0_1.out x5_2 p493 q493;cases e493;replace hx493_0:=ce_ HB hx493_0;have HR493_0:=Aside0.mk hi493_0;have HC493_0:=Aside0.mk hl493_0;clear hi493_0 hl493_0;replace p493:=eq_true p493;replace q493:=eq_true q493;have hcz22_0:=c20_ BK491;have hcz22_1:=c21_ BK491;have hfz22_0:=fz_ BK491 0;have hfz22_1:=fz_ BK491 1;have p494:0≤(x5_2:Int):=od_;have q494:x5_2<(l1_1.length:Int):=od_;obtain⟨ad494,A494_0,c494_0,e494,hx494_0,hl494_0,hi494_0⟩:=at_L5 HR1_1.out x5_2 p494 q494;cases e494;replace hx494_0:=ce_ HB hx494_0;have HR494_0:=Aside0.mk hi494_0;have HC494_0:=Aside0.mk hl494_0;clear hi494_0 hl494_0;replace p494:=eq_true p494;replace q494:=eq_true q494;go_wp2_with (first | (go_at_call 22;(with_reducible refine (laws_luSame.calls k2 _ _ (rd_L5 l0_1 x5_2) _ _ (rd_L5 l1_1 x5_2) true _ ?side1 ?side2 ?side3 ?side4 A18.out).mono ?_);(case side1=>repeat (first | exact (Kd.C_below HR493_0.out HB.out) | (with_reducible refine Kd.C_alloc ?_ _) | (with_reducible refine Kd.C_drewN ?_ _) | (with_reducible refine Kd.C_drew ?_)));(case side2=>exact HC493_0.out);(case side3=>repeat (first | exact (Kd.C_below HR494_0.out HB.out) | (with_reducible refine Kd.C_alloc ?_ _) | (with_reducible refine Kd.C_drewN ?_ _) | (with_reducible refine Kd.C_drew ?_)));(case side4=>exact HC494_0.out);rintro e w' ⟨rfl,⟨nd,rfl⟩⟩;(try first | exact⟨rfl,_,World.drewN_drewN _ _ _⟩ | exact⟨rfl,_,Eq.trans (World.drewN_drewN _ _ _) (congrArg (World.drewN _) (Nat.add_assoc _ _ _))⟩)))
          repeat (go_quiet (first | (go_at_call 22;(with_reducible refine (laws_luSame.calls k2 _ _ (rd_L5 l0_1 x5_2) _ _ (rd_L5 l1_1 x5_2) true _ ?side1 ?side2 ?side3 ?side4 A18.out).mono ?_);(case side1=>repeat (first | exact (Kd.C_below HR493_0.out HB.out) | (with_reducible refine Kd.C_alloc ?_ _) | (with_reducible refine Kd.C_drewN ?_ _) | (with_reducible refine Kd.C_drew ?_)));(case side2=>exact HC493_0.out);(case side3=>repeat (first | exact (Kd.C_below HR494_0.out HB.out) | (with_reducible refine Kd.C_alloc ?_ _) | (with_reducible refine Kd.C_drewN ?_ _) | (with_reducible refine Kd.C_drew ?_)));(case side4=>exact HC494_0.out);rintro e w' ⟨rfl,⟨nd,rfl⟩⟩;(try first | exact⟨rfl,_,World.drewN_drewN _ _ _⟩ | exact⟨rfl,_,Eq.trans (World.drewN_drewN _ _ _) (congrArg (World.drewN _) (Nat.add_assoc _ _ _))⟩)));try go_wp2_with (first | (go_at_call 22;(with_reducible refine (laws_luSame.calls k2 _ _ (rd_L5 l0_1 x5_2) _ _ (rd_L5 l1_1 x5_2) true _ ?side1 ?side2 ?side3 ?side4 A18.out).mono ?_);(case side1=>repeat (first | exact (Kd.C_below HR493_0.out HB.out) | (with_reducible refine Kd.C_alloc ?_ _) | (with_reducible refine Kd.C_drewN ?_ _) | (with_reducible refine Kd.C_drew ?_)));(case side2=>exact HC493_0.out);(case side3=>repeat (first | exact (Kd.C_below HR494_0.out HB.out) | (with_reducible refine Kd.C_alloc ?_ _) | (with_reducible refine Kd.C_drewN ?_ _) | (with_reducible refine Kd.C_drew ?_)));(case side4=>exact HC494_0.out);rintro e w' ⟨rfl,⟨nd,rfl⟩⟩;(try first | exact⟨rfl,_,World.drewN_drewN _ _ _⟩ | exact⟨rfl,_,Eq.trans (World.drewN_drewN _ _ _) (congrArg (World.drewN _) (Nat.add_assoc _ _ _))⟩))))
          go_roundg k2
          case measure=>have:=HJ2.out;have:=HK2.out;omega
          case rel=>exact⟨(wrap64 (x5_2+1)),(by first | rfl | (simp;done) | (simp [*];done)),H',⟨by have:=HJ2.out;have:=HK2.out;omega⟩,⟨uq_⟩,⟨uq_⟩,⟨hB_⟩⟩
         ·
          replace c19:=Bool.eq_false_iff.mpr c19;subst c19;rw [if_neg (show ¬ (false=true) by decide)] at H
          (try dsimp only at H)
          obtain rfl:=Option.some.inj H;have hnb23:=NB490_491.out;have hnc23:=NB491_490.out;have hcz24_0:=c20_ BK490;have hcz24_1:=c21_ BK490;have hfz24_0:=fz_ BK490 0;have hfz24_1:=fz_ BK490 1;have p493:0≤(x5_2:Int):=od_;have q493:x5_2<(l0_1.length:Int):=od_;obtain⟨ad493,A493_0,c493_0,e493,hx493_0,hl493_0,hi493_0⟩:=at_L5 HR0_1.out x5_2 p493 q493;cases e493;replace hx493_0:=ce_ HB hx493_0;have HR493_0:=Aside0.mk hi493_0;have HC493_0:=Aside0.mk hl493_0;clear hi493_0 hl493_0;replace p493:=eq_true p493;replace q493:=eq_true q493;have hcz25_0:=c20_ BK491;have hcz25_1:=c21_ BK491;have hfz25_0:=fz_ BK491 0;have hfz25_1:=fz_ BK491 1;have p494:0≤(x5_2:Int):=od_;have q494:x5_2<(l1_1.length:Int):=od_;obtain⟨ad494,A494_0,c494_0,e494,hx494_0,hl494_0,hi494_0⟩:=at_L5 HR1_1.out x5_2 p494 q494;cases e494;replace hx494_0:=ce_ HB hx494_0;have HR494_0:=Aside0.mk hi494_0;have HC494_0:=Aside0.mk hl494_0;clear hi494_0 hl494_0;replace p494:=eq_true p494;replace q494:=eq_true q494;go_wp2_with (first | (go_at_call 22;(with_reducible refine (laws_luSame.calls k2 _ _ (rd_L5 l0_1 x5_2) _ _ (rd_L5 l1_1 x5_2) false _ ?side1 ?side2 ?side3 ?side4 A18.out).mono ?_);(case side1=>repeat (first | exact (Kd.C_below HR493_0.out HB.out) | (with_reducible refine Kd.C_alloc ?_ _) | (with_reducible refine Kd.C_drewN ?_ _) | (with_reducible refine Kd.C_drew ?_)));(case side2=>exact HC493_0.out);(case side3=>repeat (first | exact (Kd.C_below HR494_0.out HB.out) | (with_reducible refine Kd.C_alloc ?_ _) | (with_reducible refine Kd.C_drewN ?_ _) | (with_reducible refine Kd.C_drew ?_)));(case side4=>exact HC494_0.out);rintro e w' ⟨rfl,⟨nd,rfl⟩⟩;(try first | exact⟨rfl,_,World.drewN_drewN _ _ _⟩ | exact⟨rfl,_,Eq.trans (World.drewN_drewN _ _ _) (congrArg (World.drewN _) (Nat.add_assoc _ _ _))⟩)))
          repeat (go_quiet (first | (go_at_call 22;(with_reducible refine (laws_luSame.calls k2 _ _ (rd_L5 l0_1 x5_2) _ _ (rd_L5 l1_1 x5_2) false _ ?side1 ?side2 ?side3 ?side4 A18.out).mono ?_);(case side1=>repeat (first | exact (Kd.C_below HR493_0.out HB.out) | (with_reducible refine Kd.C_alloc ?_ _) | (with_reducible refine Kd.C_drewN ?_ _) | (with_reducible refine Kd.C_drew ?_)));(case side2=>exact HC493_0.out);(case side3=>repeat (first | exact (Kd.C_below HR494_0.out HB.out) | (with_reducible refine Kd.C_alloc ?_ _) | (with_reducible refine Kd.C_drewN ?_ _) | (with_reducible refine Kd.C_drew ?_)));(case side4=>exact HC494_0.out);rintro e w' ⟨rfl,⟨nd,rfl⟩⟩;(try first | exact⟨rfl,_,World.drewN_drewN _ _ _⟩ | exact⟨rfl,_,Eq.trans (World.drewN_drewN _ _ _) (congrArg (World.drewN _) (Nat.add_assoc _ _ _))⟩)));try go_wp2_with (first | (go_at_call 22;(with_reducible refine (laws_luSame.calls k2 _ _ (rd_L5 l0_1 x5_2) _ _ (rd_L5 l1_1 x5_2) false _ ?side1 ?side2 ?side3 ?side4 A18.out).mono ?_);(case side1=>repeat (first | exact (Kd.C_below HR493_0.out HB.out) | (with_reducible refine Kd.C_alloc ?_ _) | (with_reducible refine Kd.C_drewN ?_ _) | (with_reducible refine Kd.C_drew ?_)));(case side2=>exact HC493_0.out);(case side3=>repeat (first | exact (Kd.C_below HR494_0.out HB.out) | (with_reducible refine Kd.C_alloc ?_ _) | (with_reducible refine Kd.C_drewN ?_ _) | (with_reducible refine Kd.C_drew ?_)));(case side4=>exact HC494_0.out);rintro e w' ⟨rfl,⟨nd,rfl⟩⟩;(try first | exact⟨rfl,_,World.drewN_drewN _ _ _⟩ | exact⟨rfl,_,Eq.trans (World.drewN_drewN _ _ _) (congrArg (World.drewN _) (Nat.add_assoc _ _ _))⟩))))
          go_ret;exact⟨rr_,hB_⟩
        ·
         rw [if_neg c17] at H;exact absurd H (by simp)
       ·
        rw [if_neg c16] at H;exact absurd H (by simp)
      ·
       rw [if_neg c15] at H;have c15b0:decide (x5_2<(l0_1.length:Int))=false:=decide_eq_false c15;clear c15;obtain rfl:=Option.some.inj H;have hnb26:=NB490_491.out;have hnc26:=NB491_490.out;have hcz27_0:=c20_ BK490;have hcz27_1:=c21_ BK490;have hfz27_0:=fz_ BK490 0;have hfz27_1:=fz_ BK490 1;go_wp2
       repeat (go_quiet (fail);try go_wp2)
       go_ret;exact⟨rr_,hB_⟩
def spec_l6Rd_of.f (k:Nat)(s0_0:List Int)(s0_1:Int)(l1:List ByteArray):Option (ByteArray × Int):=(spec_l6Rd_pick.f k s0_0 s0_1 (l1.length:Int)).bind fun bt354=>(if 0≤bt354.1 then (if bt354.1<(l1.length:Int) then (some (rdOf ByteArray.empty l1 bt354.1,bt354.2)) else (none)) else (none))
set_option maxHeartbeats 8000000 in
set_option maxRecDepth 100000 in
theorem spec_l6Rd_of.calls (k:Nat)(g:Nat)(s0_0:List Int)(s0_1:Int)(A1:Option Addr)(c1:Nat)(l1:List ByteArray)(r1:ByteArray)(r2:Int)(w0 w:World)(hI:IsS67 w0 w g s0_0 s0_1)(hB:Below w0.heap.size w0 w)(hr1:Kd.C Kd.string w A1 l1.length l1)(hc1:l1.length≤c1)(hf1:∀ ad,A1=some ad→0<l1.length→ad.block≠g)(h:spec_l6Rd_of.f k s0_0 s0_1 l1=some (r1,r2)):
  Calls Tryz.prog 14 #[.pointer (some ⟨g,0,none⟩),.slice A1 l1.length c1] w fun e w'=>e=.returned (.string r1)∧IsS67 w0 w' g s0_0 r2∧Below w0.heap.size w0 w'∧KeepBut w w' g none:=by
 have HR1:=Aside0.mk hr1;have HC1:=Aside0.mk hc1;clear hr1 hc1;have HI0:=Aside0.mk hI;have HK:=a0_ (KeepBut.refl w g none);have HL:=Aside0.mk hB.size;clear hI;have HW0:=Aside0.mk hB.size;have HB:=Aside0.mk hB;clear hB;have H:((spec_l6Rd_pick.f k s0_0 s0_1 (l1.length:Int)).bind fun bt354=>(if 0≤bt354.1 then (if bt354.1<(l1.length:Int) then (some (rdOf ByteArray.empty l1 bt354.1,bt354.2)) else (none)) else (none)))=some (r1,r2):=h;clear h;replace H:=Option.bind_eq_some_iff.mp H;obtain⟨⟨t354,t355⟩,A30,H⟩:=H
 (try dsimp only at H)
 have A3:=Aside0.mk A30;clear A30;by_cases c4:0≤t354
 ·
  rw [if_pos c4] at H;have c4b0:decide (0≤t354)=true:=decide_eq_true c4;clear c4;by_cases c5:t354<(l1.length:Int)
  ·
   rw [if_pos c5] at H;have c5b0:decide (t354<(l1.length:Int))=true:=decide_eq_true c5;clear c5;simp only [Option.some.injEq,Prod.mk.injEq] at H;obtain⟨rfl,rfl⟩:=H;go_enter Tryz.func14,Tryz.ntmps14;go_wp2_with (first | ((with_reducible refine gate_callee (f:=13) rfl ?_);refine gL_ (some 9) Tryz.func13 #[.pointer (some ⟨g,0,none⟩),.int .i64 (l1.length:Int)] (h:=?_);(with_reducible refine (spec_l6Rd_pick.calls k g s0_0 s0_1 (l1.length:Int) t354 t355 w0 _ hI_ hBs_ A3.out).mono ?_);rintro e w6 ⟨rfl,hi,hb,hk⟩;refine⟨_,rfl,?_⟩;replace HK:=kk_ HK hk;replace HB:=a0_ (hb);replace HI0:=a0_ (hi);(try clear hi hb hk);have p356:0≤(t354:Int):=od_;have q356:t354<(l1.length:Int):=od_;obtain⟨ad356,e356,hx356_0⟩:=Kd.at_string HR1.out t354 p356 q356;cases e356;replace hx356_0:=keep_cell HK.out hx356_0 (by first | (rw [add_block];exact hf1 _ rfl (by omega)) | exact hf1 _ rfl (by omega) | exact hf1 ad356 rfl (by omega));replace p356:=eq_true p356;replace q356:=eq_true q356));go_ret;exact⟨rr_,by repeat (first | (with_reducible first | exact HI0.out | apply IsS67.alloc | apply IsS67.drewN | apply IsS67.drew | apply IsS67.set_1) | exact HI0.out),by repeat (first | (with_reducible first | exact HB.out | apply below_alloc | apply pw_below_drewN | apply below_drew1 | refine below_set ?_ (IsS67.ge HI0.out)) | exact HB.out),by repeat (first | (with_reducible first | exact HK.out | apply KeepBut.set_ | apply keep_drewN | apply keep_drew | apply keep_alloc) | exact HK.out)⟩
  ·
   rw [if_neg c5] at H;exact absurd H (by simp)
 ·
  rw [if_neg c4] at H;exact absurd H (by simp)
def spec_l71Box.f (k:Nat)(s0_0:List Int)(s0_1:Int)(a1:Int)(a2:Int)(a3:Int)(a4:Int):Option ((List (S70)) × Int):=(some (([(⟨a1,a2⟩:S70),(⟨wrap64 (a1+a3),a2⟩:S70),(⟨wrap64 (a1+a3),wrap64 (a2+a4)⟩:S70),(⟨a1,wrap64 (a2+a4)⟩:S70)]:List (S70)):List (S70))).bind fun y192=>((spec_l6Rd_pick.f k s0_0 s0_1 7).bind fun bt195=>(if bt195.1=0 then (if 3≤(y192.length:Int) then (some ((y192.take (3:Int).toNat),bt195.2)) else (none)) else (if bt195.1=1 then (if a3>1 then (if a4>1 then (if 0<(y192.length:Int) then (if 1<(y192.length:Int) then (if 3<(y192.length:Int) then (some ((([(⟨(rd_T70 y192 0).f0,(rd_T70 y192 0).f1⟩:S70),(⟨(rd_T70 y192 1).f0,(rd_T70 y192 1).f1⟩:S70),(⟨wrap64 (a1+a3),wrap64 (a2+(wrap64 (Int.tdiv a4 2)))⟩:S70),(⟨wrap64 (a1+(wrap64 (Int.tdiv a3 2))),wrap64 (a2+(wrap64 (Int.tdiv a4 2)))⟩:S70),(⟨wrap64 (a1+(wrap64 (Int.tdiv a3 2))),wrap64 (a2+a4)⟩:S70),(⟨(rd_T70 y192 3).f0,(rd_T70 y192 3).f1⟩:S70)]:List (S70))),bt195.2)) else (none)) else (none)) else (none)) else (some (y192,bt195.2))) else (some (y192,bt195.2))) else (if bt195.1=2 then (if a4>1 then (if 0<(y192.length:Int) then (if 1<(y192.length:Int) then (if 3<(y192.length:Int) then (some ((([(⟨(rd_T70 y192 0).f0,(rd_T70 y192 0).f1⟩:S70),(⟨(rd_T70 y192 1).f0,(rd_T70 y192 1).f1⟩:S70),(⟨wrap64 (a1+a3),wrap64 (a2+(wrap64 (Int.tdiv a4 2)))⟩:S70),(⟨wrap64 (a1+(wrap64 (Int.tdiv a3 2))),wrap64 (a2+a4)⟩:S70),(⟨(rd_T70 y192 3).f0,(rd_T70 y192 3).f1⟩:S70)]:List (S70))),bt195.2)) else (none)) else (none)) else (none)) else (some (y192,bt195.2))) else (if bt195.1=3 then (if 3<(y192.length:Int) then (if 2<(y192.length:Int) then (if 1<(y192.length:Int) then (if 0<(y192.length:Int) then (some ((([(⟨(rd_T70 y192 3).f0,(rd_T70 y192 3).f1⟩:S70),(⟨(rd_T70 y192 2).f0,(rd_T70 y192 2).f1⟩:S70),(⟨(rd_T70 y192 1).f0,(rd_T70 y192 1).f1⟩:S70),(⟨(rd_T70 y192 0).f0,(rd_T70 y192 0).f1⟩:S70)]:List (S70))),bt195.2)) else (none)) else (none)) else (none)) else (none)) else (if bt195.1=4 then (if a3>2 then (if a4>2 then (if 0<(y192.length:Int) then (if 1<(y192.length:Int) then (if 2<(y192.length:Int) then (if 3<(y192.length:Int) then (some ((([(⟨(rd_T70 y192 0).f0,(rd_T70 y192 0).f1⟩:S70),(⟨wrap64 (a1+(wrap64 (Int.tdiv a3 2))),wrap64 (a2+1)⟩:S70),(⟨(rd_T70 y192 1).f0,(rd_T70 y192 1).f1⟩:S70),(⟨(rd_T70 y192 2).f0,(rd_T70 y192 2).f1⟩:S70),(⟨wrap64 (a1+(wrap64 (Int.tdiv a3 2))),wrap64 ((wrap64 (a2+a4))-1)⟩:S70),(⟨(rd_T70 y192 3).f0,(rd_T70 y192 3).f1⟩:S70)]:List (S70))),bt195.2)) else (none)) else (none)) else (none)) else (none)) else (some (y192,bt195.2))) else (some (y192,bt195.2))) else (some (y192,bt195.2))))))))
def spec_l71Box.T7:Bool × List (List Nat × List Nat):=(true,[([],[]),([0],[0]),([1],[1]),([],[]),([3],[3]),([4],[4]),([],[]),([],[]),([6,7],[6,7]),([],[]),([],[]),([10],[10]),([9,11],[9,11]),([8,12],[8,12]),([],[]),([],[]),([15],[15]),([14,16],[14,16]),([],[]),([],[]),([19],[19]),([18,20],[18,20]),([17,21],[17,21]),([],[]),([],[]),([24],[24]),([23,25],[23,25]),([],[]),([],[]),([27,28],[27,28]),([26,29],[26,29]),([],[]),([31],[31]),([32],[32]),([2,5,13,22,30,33],[2,5,13,22,30,33]),([34,0,1,2,3,4,5,6,7,8,9,10,11,12,13,14,15,16,17,18,19,20,21,22,23,24,25,26,27,28,29,30,31,32,33,34],[34])])
def spec_l71Box.B7:List Nat:=[0,1,3,0,8,24,0,0,192,0,0,1024,3584,8128,0,0,32768,114688,0,0,524288,1835008,4177920,0,0,16777216,58720256,0,0,402653184,1065353216,0,2147483648,6442450944,17179869183,34359738367]
theorem spec_l71Box.tab7:rtab .any (opsOf Tryz.f48 7)=spec_l71Box.T7:=by kernel_rfl
theorem spec_l71Box.bits7:waitsOk spec_l71Box.T7.2 spec_l71Box.B7=true:=by kernel_rfl
def spec_l71Box.T10:Bool × List (List Nat × List Nat):=(true,[([],[]),([0],[0]),([1],[1]),([],[]),([3],[3]),([4],[4]),([],[]),([],[]),([6,7],[6,7]),([],[]),([],[]),([10],[10]),([9,11],[9,11]),([8,12],[8,12]),([],[]),([],[]),([15],[15]),([14,16],[14,16]),([],[]),([],[]),([18,19],[18,19]),([17,20],[17,20]),([],[]),([22],[22]),([23],[23]),([2,5,13,21,24],[2,5,13,21,24]),([25,0,1,2,3,4,5,6,7,8,9,10,11,12,13,14,15,16,17,18,19,20,21,22,23,24,25],[25])])
def spec_l71Box.B10:List Nat:=[0,1,3,0,8,24,0,0,192,0,0,1024,3584,8128,0,0,32768,114688,0,0,786432,2080768,0,4194304,12582912,33554431,67108863]
theorem spec_l71Box.tab10:rtab .any (opsOf Tryz.f48 10)=spec_l71Box.T10:=by kernel_rfl
theorem spec_l71Box.bits10:waitsOk spec_l71Box.T10.2 spec_l71Box.B10=true:=by kernel_rfl
def spec_l71Box.T12:Bool × List (List Nat × List Nat):=(true,[([],[]),([0],[0]),([1],[1]),([],[]),([3],[3]),([4],[4]),([],[]),([6],[6]),([7],[7]),([],[]),([9],[9]),([10],[10]),([2,5,8,11],[2,5,8,11]),([12,0,1,2,3,4,5,6,7,8,9,10,11,12],[12])])
def spec_l71Box.B12:List Nat:=[0,1,3,0,8,24,0,64,192,0,512,1536,4095,8191]
theorem spec_l71Box.tab12:rtab .any (opsOf Tryz.f48 12)=spec_l71Box.T12:=by kernel_rfl
theorem spec_l71Box.bits12:waitsOk spec_l71Box.T12.2 spec_l71Box.B12=true:=by kernel_rfl
def spec_l71Box.T15:Bool × List (List Nat × List Nat):=(true,[([],[]),([0],[0]),([1],[1]),([],[]),([],[]),([4],[4]),([3,5],[3,5]),([],[]),([7],[7]),([6,8],[6,8]),([],[]),([10],[10]),([11],[11]),([],[]),([13],[13]),([14],[14]),([],[]),([],[]),([17],[17]),([16,18],[16,18]),([],[]),([],[]),([20,21],[20,21]),([22],[22]),([19,23],[19,23]),([],[]),([25],[25]),([26],[26]),([2,9,12,15,24,27],[2,9,12,15,24,27]),([28,0,1,2,3,4,5,6,7,8,9,10,11,12,13,14,15,16,17,18,19,20,21,22,23,24,25,26,27,28],[28])])
def spec_l71Box.B15:List Nat:=[0,1,3,0,0,16,56,0,128,504,0,1024,3072,0,8192,24576,0,0,131072,458752,0,0,3145728,7340032,16711680,0,33554432,100663296,268435455,536870911]
theorem spec_l71Box.tab15:rtab .any (opsOf Tryz.f48 15)=spec_l71Box.T15:=by kernel_rfl
theorem spec_l71Box.bits15:waitsOk spec_l71Box.T15.2 spec_l71Box.B15=true:=by kernel_rfl
set_option maxHeartbeats 8000000 in
set_option maxRecDepth 100000 in
theorem spec_l71Box.calls (k:Nat)(g:Nat)(s0_0:List Int)(s0_1:Int)(a1:Int)(a2:Int)(a3:Int)(a4:Int)(r1:List (S70))(r2:Int)(w0 w:World)(hI:IsS67 w0 w g s0_0 s0_1)(hB:Below w0.heap.size w0 w)(h:spec_l71Box.f k s0_0 s0_1 a1 a2 a3 a4=some (r1,r2)):
  Calls Tryz.prog 48 #[.pointer (some ⟨g,0,none⟩),.int .i64 a1,.int .i64 a2,.int .i64 a3,.int .i64 a4] w fun e w'=>∃ v0_:Value,e=.returned (v0_)∧Kd.R k70 70 w' w.heap.size (fun _=>True) v0_ r1∧IsS67 w0 w' g s0_0 r2∧Below w0.heap.size w0 w'∧KeepBut w w' g none:=by
 have hu70:=Tryz.underlying70;have HI0:=Aside0.mk hI;have HK:=a0_ (KeepBut.refl w g none);have HL:=Aside0.mk hB.size;clear hI;have HW0:=Aside0.mk hB.size;have HB:=Aside0.mk hB;clear hB
 have H:((some (([(⟨a1,a2⟩:S70),(⟨wrap64 (a1+a3),a2⟩:S70),(⟨wrap64 (a1+a3),wrap64 (a2+a4)⟩:S70),(⟨a1,wrap64 (a2+a4)⟩:S70)]:List (S70)):List (S70))).bind fun y192=>((spec_l6Rd_pick.f k s0_0 s0_1 7).bind fun bt195=>(if bt195.1=0 then (if 3≤(y192.length:Int) then (some ((y192.take (3:Int).toNat),bt195.2)) else (none)) else (if bt195.1=1 then (if a3>1 then (if a4>1 then (if 0<(y192.length:Int) then (if 1<(y192.length:Int) then (if 3<(y192.length:Int) then (some ((([(⟨(rd_T70 y192 0).f0,(rd_T70 y192 0).f1⟩:S70),(⟨(rd_T70 y192 1).f0,(rd_T70 y192 1).f1⟩:S70),(⟨wrap64 (a1+a3),wrap64 (a2+(wrap64 (Int.tdiv a4 2)))⟩:S70),(⟨wrap64 (a1+(wrap64 (Int.tdiv a3 2))),wrap64 (a2+(wrap64 (Int.tdiv a4 2)))⟩:S70),(⟨wrap64 (a1+(wrap64 (Int.tdiv a3 2))),wrap64 (a2+a4)⟩:S70),(⟨(rd_T70 y192 3).f0,(rd_T70 y192 3).f1⟩:S70)]:List (S70))),bt195.2)) else (none)) else (none)) else (none)) else (some (y192,bt195.2))) else (some (y192,bt195.2))) else (if bt195.1=2 then (if a4>1 then (if 0<(y192.length:Int) then (if 1<(y192.length:Int) then (if 3<(y192.length:Int) then (some ((([(⟨(rd_T70 y192 0).f0,(rd_T70 y192 0).f1⟩:S70),(⟨(rd_T70 y192 1).f0,(rd_T70 y192 1).f1⟩:S70),(⟨wrap64 (a1+a3),wrap64 (a2+(wrap64 (Int.tdiv a4 2)))⟩:S70),(⟨wrap64 (a1+(wrap64 (Int.tdiv a3 2))),wrap64 (a2+a4)⟩:S70),(⟨(rd_T70 y192 3).f0,(rd_T70 y192 3).f1⟩:S70)]:List (S70))),bt195.2)) else (none)) else (none)) else (none)) else (some (y192,bt195.2))) else (if bt195.1=3 then (if 3<(y192.length:Int) then (if 2<(y192.length:Int) then (if 1<(y192.length:Int) then (if 0<(y192.length:Int) then (some ((([(⟨(rd_T70 y192 3).f0,(rd_T70 y192 3).f1⟩:S70),(⟨(rd_T70 y192 2).f0,(rd_T70 y192 2).f1⟩:S70),(⟨(rd_T70 y192 1).f0,(rd_T70 y192 1).f1⟩:S70),(⟨(rd_T70 y192 0).f0,(rd_T70 y192 0).f1⟩:S70)]:List (S70))),bt195.2)) else (none)) else (none)) else (none)) else (none)) else (if bt195.1=4 then (if a3>2 then (if a4>2 then (if 0<(y192.length:Int) then (if 1<(y192.length:Int) then (if 2<(y192.length:Int) then (if 3<(y192.length:Int) then (some ((([(⟨(rd_T70 y192 0).f0,(rd_T70 y192 0).f1⟩:S70),(⟨wrap64 (a1+(wrap64 (Int.tdiv a3 2))),wrap64 (a2+1)⟩:S70),(⟨(rd_T70 y192 1).f0,(rd_T70 y192 1).f1⟩:S70),(⟨(rd_T70 y192 2).f0,(rd_T70 y192 2).f1⟩:S70),(⟨wrap64 (a1+(wrap64 (Int.tdiv a3 2))),wrap64 ((wrap64 (a2+a4))-1)⟩:S70),(⟨(rd_T70 y192 3).f0,(rd_T70 y192 3).f1⟩:S70)]:List (S70))),bt195.2)) else (none)) else (none)) else (none)) else (none)) else (some (y192,bt195.2))) else (some (y192,bt195.2))) else (some (y192,bt195.2)))))))))=some (r1,r2):=h
 clear h;obtain⟨y192,hy192⟩:∃ y_:List (S70),y_=(([(⟨a1,a2⟩:S70),(⟨wrap64 (a1+a3),a2⟩:S70),(⟨wrap64 (a1+a3),wrap64 (a2+a4)⟩:S70),(⟨a1,wrap64 (a2+a4)⟩:S70)]:List (S70))):=⟨_,rfl⟩
 replace H:((spec_l6Rd_pick.f k s0_0 s0_1 7).bind fun bt195=>(if bt195.1=0 then (if 3≤(y192.length:Int) then (some ((y192.take (3:Int).toNat),bt195.2)) else (none)) else (if bt195.1=1 then (if a3>1 then (if a4>1 then (if 0<(y192.length:Int) then (if 1<(y192.length:Int) then (if 3<(y192.length:Int) then (some ((([(⟨(rd_T70 y192 0).f0,(rd_T70 y192 0).f1⟩:S70),(⟨(rd_T70 y192 1).f0,(rd_T70 y192 1).f1⟩:S70),(⟨wrap64 (a1+a3),wrap64 (a2+(wrap64 (Int.tdiv a4 2)))⟩:S70),(⟨wrap64 (a1+(wrap64 (Int.tdiv a3 2))),wrap64 (a2+(wrap64 (Int.tdiv a4 2)))⟩:S70),(⟨wrap64 (a1+(wrap64 (Int.tdiv a3 2))),wrap64 (a2+a4)⟩:S70),(⟨(rd_T70 y192 3).f0,(rd_T70 y192 3).f1⟩:S70)]:List (S70))),bt195.2)) else (none)) else (none)) else (none)) else (some (y192,bt195.2))) else (some (y192,bt195.2))) else (if bt195.1=2 then (if a4>1 then (if 0<(y192.length:Int) then (if 1<(y192.length:Int) then (if 3<(y192.length:Int) then (some ((([(⟨(rd_T70 y192 0).f0,(rd_T70 y192 0).f1⟩:S70),(⟨(rd_T70 y192 1).f0,(rd_T70 y192 1).f1⟩:S70),(⟨wrap64 (a1+a3),wrap64 (a2+(wrap64 (Int.tdiv a4 2)))⟩:S70),(⟨wrap64 (a1+(wrap64 (Int.tdiv a3 2))),wrap64 (a2+a4)⟩:S70),(⟨(rd_T70 y192 3).f0,(rd_T70 y192 3).f1⟩:S70)]:List (S70))),bt195.2)) else (none)) else (none)) else (none)) else (some (y192,bt195.2))) else (if bt195.1=3 then (if 3<(y192.length:Int) then (if 2<(y192.length:Int) then (if 1<(y192.length:Int) then (if 0<(y192.length:Int) then (some ((([(⟨(rd_T70 y192 3).f0,(rd_T70 y192 3).f1⟩:S70),(⟨(rd_T70 y192 2).f0,(rd_T70 y192 2).f1⟩:S70),(⟨(rd_T70 y192 1).f0,(rd_T70 y192 1).f1⟩:S70),(⟨(rd_T70 y192 0).f0,(rd_T70 y192 0).f1⟩:S70)]:List (S70))),bt195.2)) else (none)) else (none)) else (none)) else (none)) else (if bt195.1=4 then (if a3>2 then (if a4>2 then (if 0<(y192.length:Int) then (if 1<(y192.length:Int) then (if 2<(y192.length:Int) then (if 3<(y192.length:Int) then (some ((([(⟨(rd_T70 y192 0).f0,(rd_T70 y192 0).f1⟩:S70),(⟨wrap64 (a1+(wrap64 (Int.tdiv a3 2))),wrap64 (a2+1)⟩:S70),(⟨(rd_T70 y192 1).f0,(rd_T70 y192 1).f1⟩:S70),(⟨(rd_T70 y192 2).f0,(rd_T70 y192 2).f1⟩:S70),(⟨wrap64 (a1+(wrap64 (Int.tdiv a3 2))),wrap64 ((wrap64 (a2+a4))-1)⟩:S70),(⟨(rd_T70 y192 3).f0,(rd_T70 y192 3).f1⟩:S70)]:List (S70))),bt195.2)) else (none)) else (none)) else (none)) else (none)) else (some (y192,bt195.2))) else (some (y192,bt195.2))) else (some (y192,bt195.2))))))))=some (r1,r2):=by first | (rw [hy192];with_reducible exact H) | (have H2_:=(Option.bind_some _ _).symm.trans H;rw [hy192];with_reducible exact H2_) | (have H2_:=(Option.bind_some _ _).symm.trans H;with_reducible exact H2_) | with_reducible exact H | (rw [hy192];exact H) | exact H
 have Ny192:=Aside0.mk hy192;clear hy192;replace H:=Option.bind_eq_some_iff.mp H;obtain⟨⟨t195,t196⟩,A60,H⟩:=H
 (try dsimp only at H)
 have A6:=Aside0.mk A60;clear A60;by_cases c7:t195=0
 ·
  rw [if_pos c7] at H;have c7b0:(t195==0)=true:=beq_iff_eq.mpr c7;have c7b1:(t195 != 0)=false:=bne_eq_false_iff_eq.mpr c7;clear c7;by_cases c8:3≤(y192.length:Int)
  ·
   rw [if_pos c8] at H;have c8b0:=eq_true c8;have c8b1:decide (3≤(y192.length:Int))=true:=decide_eq_true c8;clear c8;obtain⟨y197,hy197⟩:∃ y_:List (S70),y_=(y192.take (3:Int).toNat):=⟨_,rfl⟩;replace H:(some (y197,t196))=some (r1,r2):=by first | (rw [hy197];with_reducible exact H) | (have H2_:=(Option.bind_some _ _).symm.trans H;rw [hy197];with_reducible exact H2_) | (have H2_:=(Option.bind_some _ _).symm.trans H;with_reducible exact H2_) | with_reducible exact H | (rw [hy197];exact H) | exact H
   have Ny197:=Aside0.mk hy197;clear hy197;simp only [Option.some.injEq,Prod.mk.injEq] at H;obtain⟨rfl,rfl⟩:=H;go_enter Tryz.func48,Tryz.ntmps48
   go_wp2_with (first | ((with_reducible refine gate_dst (N:=32) rfl ?_);refine Kd.R_lit k70 _ 70 ?hg (N:=32) ?hd (xs:=([(⟨a1,a2⟩:S70),(⟨wrap64 (a1+a3),a2⟩:S70),(⟨wrap64 (a1+a3),wrap64 (a2+a4)⟩:S70),(⟨a1,wrap64 (a2+a4)⟩:S70)]:List (S70))) (inner:=[.int .i64 a1,.int .i64 a2,.int .i64 (wrap64 (a1+a3)),.int .i64 a2,.int .i64 (wrap64 (a1+a3)),.int .i64 (wrap64 (a2+a4)),.int .i64 a1,.int .i64 (wrap64 (a2+a4))]) (ok:=fun _=>True) (okp:=fun _=>True) ?hr ?hp (fun _ hk=>hk) trivial (Below.refl _ _) (Nat.le_refl _) (by simp) ?_;(case hd=>rfl);(case hg=>rfl);(case hr=>first | (go_simp;done) | (go_simp;rfl));(case hp=>exact (Reps.c2 (show Kd.M k70 _ _ _ (⟨a1,a2⟩:S70) [.int .i64 a1,.int .i64 a2] from (k70_mkM _ _ _ (⟨a1,a2⟩:S70) )) (Reps.c2 (show Kd.M k70 _ _ _ (⟨wrap64 (a1+a3),a2⟩:S70) [.int .i64 (wrap64 (a1+a3)),.int .i64 a2] from (k70_mkM _ _ _ (⟨wrap64 (a1+a3),a2⟩:S70) )) (Reps.c2 (show Kd.M k70 _ _ _ (⟨wrap64 (a1+a3),wrap64 (a2+a4)⟩:S70) [.int .i64 (wrap64 (a1+a3)),.int .i64 (wrap64 (a2+a4))] from (k70_mkM _ _ _ (⟨wrap64 (a1+a3),wrap64 (a2+a4)⟩:S70) )) (Reps.c2 (show Kd.M k70 _ _ _ (⟨a1,wrap64 (a2+a4)⟩:S70) [.int .i64 a1,.int .i64 (wrap64 (a2+a4))] from (k70_mkM _ _ _ (⟨a1,wrap64 (a2+a4)⟩:S70) )) (Reps.none _ _))))));intro v193 w9 ho10 hb hg_ hnew_;clear hg_ hnew_;(first | rw [← Ny192.out] at ho10 | (simp only [Int.reduceToNat] at ho10;rw [← Ny192.out] at ho10));have HO194:=a0_ (Kd.R_lower ho10 (keep_size (w:=w) (g:=g) (row:=none) (hK_ HK)));replace HK:=kb_ HK hb;replace HB:=a0_ (below_step hBs_ hb);replace HI0:=a0_ (IsS67.below hI_ hb);clear hb ho10) | ((with_reducible refine gate_callee (f:=13) rfl ?_);refine gL_ (some 34) Tryz.func13 #[.pointer (some ⟨g,0,none⟩),.int .i64 7] (h:=?_);(with_reducible refine (spec_l6Rd_pick.calls k g s0_0 s0_1 7 t195 t196 w0 _ hI_ hBs_ A6.out).mono ?_);rintro e w11 ⟨rfl,hi,hb,hk⟩;refine⟨_,rfl,?_⟩;replace HO194:=a0_ (Kd.R_mono (Kd.R_keep (IsS67.apart (show IsS67 w0 _ g s0_0 s0_1 from hI_) (uR_ HO194) (by decide)) hk (fun _ h=>h.2)) (fun _ h=>h.1));replace HK:=kk_ HK hk;replace HB:=a0_ (hb);replace HI0:=a0_ (hi);(try clear hi hb hk);obtain⟨Ao12,co12,eo12⟩:=Kd.R_slice HO194.out;subst eo12;have q13:(3:Int)≤((y192.length:Int):Int):=od_;obtain⟨i013,hi013,_,hsz13,_⟩:=info_parts info70;have hcut13:=cut_to (P:=Tryz.prog) 24 70 .i64 Tryz.underlying24 hi013 Ao12 y192.length co12 3 (by omega) q13 (Kd.R_reads' HO194.out).2.1;have hr13:=Kd.R_take (m:=(3:Int).toNat) HO194.out (by omega);have hy13:y197.length=(3:Int).toNat:=(by rw [Ny197.out,List.length_take];omega);rw [← Ny197.out] at hr13;rw [← hy13] at hr13 hcut13;clear hy13 hi013 hsz13 HO194;have HO199:=Aside0.mk hr13;clear hr13;replace q13:=eq_true q13))
   go_ret;exact⟨_,rr_,by (with_reducible repeat (first | apply Kd.R_alloc | apply Kd.R_drewN | apply Kd.R_drew));exact HO199.out,by repeat (first | (with_reducible first | exact HI0.out | apply IsS67.alloc | apply IsS67.drewN | apply IsS67.drew | apply IsS67.set_1) | exact HI0.out),by repeat (first | (with_reducible first | exact HB.out | apply below_alloc | apply pw_below_drewN | apply below_drew1 | refine below_set ?_ (IsS67.ge HI0.out)) | exact HB.out),by repeat (first | (with_reducible first | exact HK.out | apply KeepBut.set_ | apply keep_drewN | apply keep_drew | apply keep_alloc) | exact HK.out)⟩
  ·
   rw [if_neg c8] at H;exact absurd H (by simp)
 ·
  rw [if_neg c7] at H;have c7b0:(t195==0)=false:=beq_eq_false_iff_ne.mpr c7;have c7b1:(t195 != 0)=true:=bne_iff_ne.mpr c7;by_cases c14:t195=1
  ·
   rw [if_pos c14] at H;have c14b0:(t195==1)=true:=beq_iff_eq.mpr c14;have c14b1:(t195 != 1)=false:=bne_eq_false_iff_eq.mpr c14;clear c14;by_cases c15:a3>1
   ·
    rw [if_pos c15] at H;have c15b0:decide (1<a3)=true:=decide_eq_true c15;clear c15;by_cases c16:a4>1
    ·
     rw [if_pos c16] at H;have c16b0:decide (1<a4)=true:=decide_eq_true c16;clear c16;by_cases c17:0<(y192.length:Int)
     ·
      rw [if_pos c17] at H;have c17b0:decide (0<(y192.length:Int))=true:=decide_eq_true c17;have c17b1:decide (0<y192.length)=true:=decide_eq_true (by omega);clear c17;by_cases c18:1<(y192.length:Int)
      ·
       rw [if_pos c18] at H;have c18b0:decide (1<(y192.length:Int))=true:=decide_eq_true c18;have c18b1:decide (1<y192.length)=true:=decide_eq_true (by omega);clear c18;by_cases c19:3<(y192.length:Int)
       ·
        rw [if_pos c19] at H;have c19b0:decide (3<(y192.length:Int))=true:=decide_eq_true c19;have c19b1:decide (3<y192.length)=true:=decide_eq_true (by omega);clear c19;obtain⟨y203,hy203⟩:∃ y_:List (S70),y_=(([(⟨(rd_T70 y192 0).f0,(rd_T70 y192 0).f1⟩:S70),(⟨(rd_T70 y192 1).f0,(rd_T70 y192 1).f1⟩:S70),(⟨wrap64 (a1+a3),wrap64 (a2+(wrap64 (Int.tdiv a4 2)))⟩:S70),(⟨wrap64 (a1+(wrap64 (Int.tdiv a3 2))),wrap64 (a2+(wrap64 (Int.tdiv a4 2)))⟩:S70),(⟨wrap64 (a1+(wrap64 (Int.tdiv a3 2))),wrap64 (a2+a4)⟩:S70),(⟨(rd_T70 y192 3).f0,(rd_T70 y192 3).f1⟩:S70)]:List (S70))):=⟨_,rfl⟩;replace H:(some (y203,t196))=some (r1,r2):=by first | (rw [hy203];with_reducible exact H) | (have H2_:=(Option.bind_some _ _).symm.trans H;rw [hy203];with_reducible exact H2_) | (have H2_:=(Option.bind_some _ _).symm.trans H;with_reducible exact H2_) | with_reducible exact H | (rw [hy203];exact H) | exact H
        have Ny203:=Aside0.mk hy203;clear hy203;simp only [Option.some.injEq,Prod.mk.injEq] at H;obtain⟨rfl,rfl⟩:=H;go_enter Tryz.func48,Tryz.ntmps48
        try go_wp2_with (first | ((with_reducible refine gate_dst (N:=32) rfl ?_);refine Kd.R_lit k70 _ 70 ?hg (N:=32) ?hd (xs:=([(⟨a1,a2⟩:S70),(⟨wrap64 (a1+a3),a2⟩:S70),(⟨wrap64 (a1+a3),wrap64 (a2+a4)⟩:S70),(⟨a1,wrap64 (a2+a4)⟩:S70)]:List (S70))) (inner:=[.int .i64 a1,.int .i64 a2,.int .i64 (wrap64 (a1+a3)),.int .i64 a2,.int .i64 (wrap64 (a1+a3)),.int .i64 (wrap64 (a2+a4)),.int .i64 a1,.int .i64 (wrap64 (a2+a4))]) (ok:=fun _=>True) (okp:=fun _=>True) ?hr ?hp (fun _ hk=>hk) trivial (Below.refl _ _) (Nat.le_refl _) (by simp) ?_;(case hd=>rfl);(case hg=>rfl);(case hr=>first | (go_simp;done) | (go_simp;rfl));(case hp=>exact (Reps.c2 (show Kd.M k70 _ _ _ (⟨a1,a2⟩:S70) [.int .i64 a1,.int .i64 a2] from (k70_mkM _ _ _ (⟨a1,a2⟩:S70) )) (Reps.c2 (show Kd.M k70 _ _ _ (⟨wrap64 (a1+a3),a2⟩:S70) [.int .i64 (wrap64 (a1+a3)),.int .i64 a2] from (k70_mkM _ _ _ (⟨wrap64 (a1+a3),a2⟩:S70) )) (Reps.c2 (show Kd.M k70 _ _ _ (⟨wrap64 (a1+a3),wrap64 (a2+a4)⟩:S70) [.int .i64 (wrap64 (a1+a3)),.int .i64 (wrap64 (a2+a4))] from (k70_mkM _ _ _ (⟨wrap64 (a1+a3),wrap64 (a2+a4)⟩:S70) )) (Reps.c2 (show Kd.M k70 _ _ _ (⟨a1,wrap64 (a2+a4)⟩:S70) [.int .i64 a1,.int .i64 (wrap64 (a2+a4))] from (k70_mkM _ _ _ (⟨a1,wrap64 (a2+a4)⟩:S70) )) (Reps.none _ _))))));intro v193 w20 ho21 hb hg_ hnew_;clear hg_ hnew_;(first | rw [← Ny192.out] at ho21 | (simp only [Int.reduceToNat] at ho21;rw [← Ny192.out] at ho21));have HO194:=a0_ (Kd.R_lower ho21 (keep_size (w:=w) (g:=g) (row:=none) (hK_ HK)));replace HK:=kb_ HK hb;replace HB:=a0_ (below_step hBs_ hb);replace HI0:=a0_ (IsS67.below hI_ hb);clear hb ho21) | ((with_reducible refine gate_callee (f:=13) rfl ?_);refine gL_ (some 34) Tryz.func13 #[.pointer (some ⟨g,0,none⟩),.int .i64 7] (h:=?_);(with_reducible refine (spec_l6Rd_pick.calls k g s0_0 s0_1 7 t195 t196 w0 _ hI_ hBs_ A6.out).mono ?_);rintro e w22 ⟨rfl,hi,hb,hk⟩;refine⟨_,rfl,?_⟩;replace HO194:=a0_ (Kd.R_mono (Kd.R_keep (IsS67.apart (show IsS67 w0 _ g s0_0 s0_1 from hI_) (uR_ HO194) (by decide)) hk (fun _ h=>h.2)) (fun _ h=>h.1));replace HK:=kk_ HK hk;replace HB:=a0_ (hb);replace HI0:=a0_ (hi);(try clear hi hb hk)))
        replace HO194:=a0_ (Kd.R_drew HO194.out);replace HI0:=a0_ (IsS67.drew HI0.out);replace HK:=a0_ (keep_drew HK.out);replace HB:=a0_ (below_drew1 HB.out);obtain⟨Ao24,co24,eo24⟩:=Kd.R_slice HO194.out
        (first | subst eo24 | (injection eo24 with f1_ f2_ f3_;have f4_:=f1_.symm;have f5_:=f3_.symm;clear f1_ f2_ f3_;subst f4_;subst f5_))
        have p200:0≤(0:Int):=(by omega);have q200:0<(y192.length:Int):=od_;obtain⟨ad200,e200,hx200_0,hx200_1⟩:=at_T70 (Kd.R_reads' HO194.out).2.2 0 p200 q200;cases e200;have qi200:(0<y192.length)=True:=eq_true (by omega)
        (try simp only [Int.toNat_zero,Nat.zero_mul,Addr.add_zero'] at hx200_0)
        (try simp only [Int.toNat_zero,Nat.zero_mul,Addr.add_zero'] at hx200_1)
        replace p200:=eq_true p200;replace q200:=eq_true q200;have p201:0≤(1:Int):=(by omega);have q201:1<(y192.length:Int):=od_;obtain⟨ad201,e201,hx201_0,hx201_1⟩:=at_T70 (Kd.R_reads' HO194.out).2.2 1 p201 q201;obtain rfl:ad200=ad201:=(by injection e201)
        (try simp only [show (1:Int).toNat=1 from rfl,Nat.reduceMul,Nat.reduceEqDiff,Go.Addr.add,↓reduceIte] at hx201_0)
        (try simp only [show (1:Int).toNat=1 from rfl,Nat.reduceMul,Nat.reduceEqDiff,Go.Addr.add,↓reduceIte] at hx201_1)
        have qi201:(1<y192.length)=True:=eq_true (by omega)
        (try rw [show ((1:Int)).toNat=1 from rfl] at hx201_0)
        (try rw [show 1*2=2 from rfl] at hx201_0)
        (try rw [show ((1:Int)).toNat=1 from rfl] at hx201_1)
        (try rw [show 1*2=2 from rfl] at hx201_1)
        replace p201:=eq_true p201;replace q201:=eq_true q201;have p202:0≤(3:Int):=(by omega);have q202:3<(y192.length:Int):=od_;obtain⟨ad202,e202,hx202_0,hx202_1⟩:=at_T70 (Kd.R_reads' HO194.out).2.2 3 p202 q202;obtain rfl:ad200=ad202:=(by injection e202)
        (try simp only [show (3:Int).toNat=3 from rfl,Nat.reduceMul,Nat.reduceEqDiff,Go.Addr.add,↓reduceIte] at hx202_0)
        (try simp only [show (3:Int).toNat=3 from rfl,Nat.reduceMul,Nat.reduceEqDiff,Go.Addr.add,↓reduceIte] at hx202_1)
        have qi202:(3<y192.length)=True:=eq_true (by omega)
        (try rw [show ((3:Int)).toNat=3 from rfl] at hx202_0)
        (try rw [show 3*2=6 from rfl] at hx202_0)
        (try rw [show ((3:Int)).toNat=3 from rfl] at hx202_1)
        (try rw [show 3*2=6 from rfl] at hx202_1)
        replace p202:=eq_true p202;replace q202:=eq_true q202;refine start_ (n:=36) (S:=fun w'=>w'.cell? ad200=some (.int .i64 ((rd_T70 y192 0).f0))∧w'.cell? ⟨ad200.block,ad200.off+1,none⟩=some (.int .i64 ((rd_T70 y192 0).f1))∧w'.cell? ⟨ad200.block,ad200.off+2,none⟩=some (.int .i64 ((rd_T70 y192 1).f0))∧w'.cell? ⟨ad200.block,ad200.off+2+1,none⟩=some (.int .i64 ((rd_T70 y192 1).f1))∧w'.cell? ⟨ad200.block,ad200.off+6,none⟩=some (.int .i64 ((rd_T70 y192 3).f0))∧w'.cell? ⟨ad200.block,ad200.off+6+1,none⟩=some (.int .i64 ((rd_T70 y192 3).f1))) (ds:=[]) (Array.replicate 36 false) (by kernel_rfl) rfl rfl ⟨hx200_0,hx200_1,hx201_0,hx201_1,hx202_0,hx202_1⟩ (fun hHeld=>?_);refine with_tabW spec_l71Box.tab7 spec_l71Box.bits7 (fun HT_ HW_=>?_);generalize w22.drew=w23 at HO194 HI0 HK HB hx200_0 hx200_1 hx201_0 hx201_1 hx202_0 hx202_1 hHeld ⊢
        refine pu_ HT_ 0 47 (bm 36 1) ?_;refine pu_ HT_ 1 48 (bm 36 3) ?_;refine pu_ HT_ 3 50 (bm 36 11) ?_;refine pu_ HT_ 4 51 (bm 36 27) ?_;refine pu_ HT_ 6 53 (bm 36 91) ?_;refine pu_ HT_ 7 54 (bm 36 219) ?_;refine pu_ HT_ 8 55 (bm 36 475) ?_;refine pu_ HT_ 9 56 (bm 36 987) ?_;refine pu_ HT_ 10 57 (bm 36 2011) ?_;refine pu_ HT_ 11 58 (bm 36 4059) ?_;refine pu_ HT_ 12 59 (bm 36 8155) ?_;refine pu_ HT_ 13 60 (bm 36 16347) ?_;refine pu_ HT_ 14 61 (bm 36 32731) ?_;refine pu_ HT_ 15 62 (bm 36 65499) ?_;refine pu_ HT_ 16 63 (bm 36 131035) ?_;refine pu_ HT_ 17 64 (bm 36 262107) ?_;refine pu_ HT_ 18 65 (bm 36 524251) ?_;refine pu_ HT_ 19 66 (bm 36 1048539) ?_;refine pu_ HT_ 20 67 (bm 36 2097115) ?_;refine pu_ HT_ 21 68 (bm 36 4194267) ?_;refine pu_ HT_ 22 69 (bm 36 8388571) ?_;refine pu_ HT_ 23 70 (bm 36 16777179) ?_;refine pu_ HT_ 24 71 (bm 36 33554395) ?_;refine pu_ HT_ 25 72 (bm 36 67108827) ?_;refine pu_ HT_ 26 73 (bm 36 134217691) ?_;refine pu_ HT_ 27 74 (bm 36 268435419) ?_;refine pu_ HT_ 28 75 (bm 36 536870875) ?_;refine pu_ HT_ 29 76 (bm 36 1073741787) ?_;refine pu_ HT_ 30 77 (bm 36 2147483611) ?_;refine pu_ HT_ 31 78 (bm 36 4294967259) ?_;refine pu_ HT_ 32 79 (bm 36 8589934555) ?_;refine ta6_ HT_ HW_ 2 49 (bm 36 8589934559) hHeld ?_;refine ta6_ HT_ HW_ 5 52 (bm 36 8589934591) hHeld ?_;refine ta6_ HT_ HW_ 33 80 (bm 36 17179869183) hHeld ?_;refine one_ (i:=34) (N:=some 81) (bm 36 34359738367) rfl rfl (one_of HT_.out (by kernel_rfl)) (by decide) (fun K hK=>?_)
        refine Kd.R_lit_step k70 _ 70 ?hg (N:=81) ?hd (xs:=([(⟨(rd_T70 y192 0).f0,(rd_T70 y192 0).f1⟩:S70),(⟨(rd_T70 y192 1).f0,(rd_T70 y192 1).f1⟩:S70),(⟨wrap64 (a1+a3),wrap64 (a2+(wrap64 (Int.tdiv a4 2)))⟩:S70),(⟨wrap64 (a1+(wrap64 (Int.tdiv a3 2))),wrap64 (a2+(wrap64 (Int.tdiv a4 2)))⟩:S70),(⟨wrap64 (a1+(wrap64 (Int.tdiv a3 2))),wrap64 (a2+a4)⟩:S70),(⟨(rd_T70 y192 3).f0,(rd_T70 y192 3).f1⟩:S70)]:List (S70))) (inner:=[.int .i64 ((rd_T70 y192 0).f0),.int .i64 ((rd_T70 y192 0).f1),.int .i64 ((rd_T70 y192 1).f0),.int .i64 ((rd_T70 y192 1).f1),.int .i64 (wrap64 (a1+a3)),.int .i64 (wrap64 (a2+(wrap64 (Int.tdiv a4 2)))),.int .i64 (wrap64 (a1+(wrap64 (Int.tdiv a3 2)))),.int .i64 (wrap64 (a2+(wrap64 (Int.tdiv a4 2)))),.int .i64 (wrap64 (a1+(wrap64 (Int.tdiv a3 2)))),.int .i64 (wrap64 (a2+a4)),.int .i64 ((rd_T70 y192 3).f0),.int .i64 ((rd_T70 y192 3).f1)]) (ok:=fun _=>True) (okp:=fun _=>True) ?hr ?hp (fun _ hk=>hk) trivial (Below.refl _ _) (Nat.le_refl _) (by simp) ?_;(case hd=>rfl);(case hg=>rfl);(case hr=>first | (go_simp;done) | (go_simp;rfl));(case hp=>exact (Reps.c2 (show Kd.M k70 _ _ _ (⟨(rd_T70 y192 0).f0,(rd_T70 y192 0).f1⟩:S70) [.int .i64 ((rd_T70 y192 0).f0),.int .i64 ((rd_T70 y192 0).f1)] from (k70_mkM _ _ _ (⟨(rd_T70 y192 0).f0,(rd_T70 y192 0).f1⟩:S70) )) (Reps.c2 (show Kd.M k70 _ _ _ (⟨(rd_T70 y192 1).f0,(rd_T70 y192 1).f1⟩:S70) [.int .i64 ((rd_T70 y192 1).f0),.int .i64 ((rd_T70 y192 1).f1)] from (k70_mkM _ _ _ (⟨(rd_T70 y192 1).f0,(rd_T70 y192 1).f1⟩:S70) )) (Reps.c2 (show Kd.M k70 _ _ _ (⟨wrap64 (a1+a3),wrap64 (a2+(wrap64 (Int.tdiv a4 2)))⟩:S70) [.int .i64 (wrap64 (a1+a3)),.int .i64 (wrap64 (a2+(wrap64 (Int.tdiv a4 2))))] from (k70_mkM _ _ _ (⟨wrap64 (a1+a3),wrap64 (a2+(wrap64 (Int.tdiv a4 2)))⟩:S70) )) (Reps.c2 (show Kd.M k70 _ _ _ (⟨wrap64 (a1+(wrap64 (Int.tdiv a3 2))),wrap64 (a2+(wrap64 (Int.tdiv a4 2)))⟩:S70) [.int .i64 (wrap64 (a1+(wrap64 (Int.tdiv a3 2)))),.int .i64 (wrap64 (a2+(wrap64 (Int.tdiv a4 2))))] from (k70_mkM _ _ _ (⟨wrap64 (a1+(wrap64 (Int.tdiv a3 2))),wrap64 (a2+(wrap64 (Int.tdiv a4 2)))⟩:S70) )) (Reps.c2 (show Kd.M k70 _ _ _ (⟨wrap64 (a1+(wrap64 (Int.tdiv a3 2))),wrap64 (a2+a4)⟩:S70) [.int .i64 (wrap64 (a1+(wrap64 (Int.tdiv a3 2)))),.int .i64 (wrap64 (a2+a4))] from (k70_mkM _ _ _ (⟨wrap64 (a1+(wrap64 (Int.tdiv a3 2))),wrap64 (a2+a4)⟩:S70) )) (Reps.c2 (show Kd.M k70 _ _ _ (⟨(rd_T70 y192 3).f0,(rd_T70 y192 3).f1⟩:S70) [.int .i64 ((rd_T70 y192 3).f0),.int .i64 ((rd_T70 y192 3).f1)] from (k70_mkM _ _ _ (⟨(rd_T70 y192 3).f0,(rd_T70 y192 3).f1⟩:S70) )) (Reps.none _ _))))))))
        intro v204 w25 ho26 hb hg_ hnew_;have HS0_:=pw_cell_below hb hHeld.1;have HS1_:=pw_cell_below hb hHeld.2.1;have HS2_:=pw_cell_below hb hHeld.2.2.1;have HS3_:=pw_cell_below hb hHeld.2.2.2.1;have HS4_:=pw_cell_below hb hHeld.2.2.2.2.1;have HS5_:=pw_cell_below hb hHeld.2.2.2.2.2;clear hg_ hnew_
        (first | rw [← Ny203.out] at ho26 | (simp only [Int.reduceToNat] at ho26;rw [← Ny203.out] at ho26))
        have HO205:=a0_ (Kd.R_lower (Kd.R_new' ho26 (Kd.R_lt (uR_ HO194))) (keep_size (w:=w) (g:=g) (row:=none) (hK_ HK)));replace HO194:=a0_ (Kd.R_elder' (uR_ HO194) (Kd.R_base ho26) hb);replace HK:=kb_ HK hb;replace HB:=a0_ (below_step hBs_ hb);replace HI0:=a0_ (IsS67.below hI_ hb);clear hb ho26;refine hK.out _ _ ⟨HS0_,HS1_,HS2_,HS3_,HS4_,HS5_⟩ (fun hHeld=>?_);clear hK K;refine no_ (h:=?_);refine pu_ HT_ 35 10 (bm 36 68719476735) ?_;refine done_ (done_of HT_.out (by kernel_rfl)) ?_
        try go_wp2
        go_ret;exact⟨_,rr_,by (with_reducible repeat (first | apply Kd.R_alloc | apply Kd.R_drewN | apply Kd.R_drew));exact Kd.R_mono HO205.out (fun _ hk=>trivial),by repeat (first | (with_reducible first | exact HI0.out | apply IsS67.alloc | apply IsS67.drewN | apply IsS67.drew | apply IsS67.set_1) | exact HI0.out),by repeat (first | (with_reducible first | exact HB.out | apply below_alloc | apply pw_below_drewN | apply below_drew1 | refine below_set ?_ (IsS67.ge HI0.out)) | exact HB.out),by repeat (first | (with_reducible first | exact HK.out | apply KeepBut.set_ | apply keep_drewN | apply keep_drew | apply keep_alloc) | exact HK.out)⟩
       ·
        rw [if_neg c19] at H;exact absurd H (by simp)
      ·
       rw [if_neg c18] at H;exact absurd H (by simp)
     ·
      rw [if_neg c17] at H;exact absurd H (by simp)
    ·
     rw [if_neg c16] at H;have c16b0:decide (1<a4)=false:=decide_eq_false c16;clear c16;simp only [Option.some.injEq,Prod.mk.injEq] at H;obtain⟨rfl,rfl⟩:=H;go_enter Tryz.func48,Tryz.ntmps48
     go_wp2_with (first | ((with_reducible refine gate_dst (N:=32) rfl ?_);refine Kd.R_lit k70 _ 70 ?hg (N:=32) ?hd (xs:=([(⟨a1,a2⟩:S70),(⟨wrap64 (a1+a3),a2⟩:S70),(⟨wrap64 (a1+a3),wrap64 (a2+a4)⟩:S70),(⟨a1,wrap64 (a2+a4)⟩:S70)]:List (S70))) (inner:=[.int .i64 a1,.int .i64 a2,.int .i64 (wrap64 (a1+a3)),.int .i64 a2,.int .i64 (wrap64 (a1+a3)),.int .i64 (wrap64 (a2+a4)),.int .i64 a1,.int .i64 (wrap64 (a2+a4))]) (ok:=fun _=>True) (okp:=fun _=>True) ?hr ?hp (fun _ hk=>hk) trivial (Below.refl _ _) (Nat.le_refl _) (by simp) ?_;(case hd=>rfl);(case hg=>rfl);(case hr=>first | (go_simp;done) | (go_simp;rfl));(case hp=>exact (Reps.c2 (show Kd.M k70 _ _ _ (⟨a1,a2⟩:S70) [.int .i64 a1,.int .i64 a2] from (k70_mkM _ _ _ (⟨a1,a2⟩:S70) )) (Reps.c2 (show Kd.M k70 _ _ _ (⟨wrap64 (a1+a3),a2⟩:S70) [.int .i64 (wrap64 (a1+a3)),.int .i64 a2] from (k70_mkM _ _ _ (⟨wrap64 (a1+a3),a2⟩:S70) )) (Reps.c2 (show Kd.M k70 _ _ _ (⟨wrap64 (a1+a3),wrap64 (a2+a4)⟩:S70) [.int .i64 (wrap64 (a1+a3)),.int .i64 (wrap64 (a2+a4))] from (k70_mkM _ _ _ (⟨wrap64 (a1+a3),wrap64 (a2+a4)⟩:S70) )) (Reps.c2 (show Kd.M k70 _ _ _ (⟨a1,wrap64 (a2+a4)⟩:S70) [.int .i64 a1,.int .i64 (wrap64 (a2+a4))] from (k70_mkM _ _ _ (⟨a1,wrap64 (a2+a4)⟩:S70) )) (Reps.none _ _))))));intro v193 w27 ho28 hb hg_ hnew_;clear hg_ hnew_;(first | rw [← Ny192.out] at ho28 | (simp only [Int.reduceToNat] at ho28;rw [← Ny192.out] at ho28));have HO194:=a0_ (Kd.R_lower ho28 (keep_size (w:=w) (g:=g) (row:=none) (hK_ HK)));replace HK:=kb_ HK hb;replace HB:=a0_ (below_step hBs_ hb);replace HI0:=a0_ (IsS67.below hI_ hb);clear hb ho28) | ((with_reducible refine gate_callee (f:=13) rfl ?_);refine gL_ (some 34) Tryz.func13 #[.pointer (some ⟨g,0,none⟩),.int .i64 7] (h:=?_);(with_reducible refine (spec_l6Rd_pick.calls k g s0_0 s0_1 7 t195 t196 w0 _ hI_ hBs_ A6.out).mono ?_);rintro e w29 ⟨rfl,hi,hb,hk⟩;refine⟨_,rfl,?_⟩;replace HO194:=a0_ (Kd.R_mono (Kd.R_keep (IsS67.apart (show IsS67 w0 _ g s0_0 s0_1 from hI_) (uR_ HO194) (by decide)) hk (fun _ h=>h.2)) (fun _ h=>h.1));replace HK:=kk_ HK hk;replace HB:=a0_ (hb);replace HI0:=a0_ (hi);(try clear hi hb hk)))
     go_ret;exact⟨_,rr_,by (with_reducible repeat (first | apply Kd.R_alloc | apply Kd.R_drewN | apply Kd.R_drew));exact HO194.out,by repeat (first | (with_reducible first | exact HI0.out | apply IsS67.alloc | apply IsS67.drewN | apply IsS67.drew | apply IsS67.set_1) | exact HI0.out),by repeat (first | (with_reducible first | exact HB.out | apply below_alloc | apply pw_below_drewN | apply below_drew1 | refine below_set ?_ (IsS67.ge HI0.out)) | exact HB.out),by repeat (first | (with_reducible first | exact HK.out | apply KeepBut.set_ | apply keep_drewN | apply keep_drew | apply keep_alloc) | exact HK.out)⟩
   ·
    rw [if_neg c15] at H;have c15b0:decide (1<a3)=false:=decide_eq_false c15;clear c15;simp only [Option.some.injEq,Prod.mk.injEq] at H;obtain⟨rfl,rfl⟩:=H;go_enter Tryz.func48,Tryz.ntmps48
    go_wp2_with (first | ((with_reducible refine gate_dst (N:=32) rfl ?_);refine Kd.R_lit k70 _ 70 ?hg (N:=32) ?hd (xs:=([(⟨a1,a2⟩:S70),(⟨wrap64 (a1+a3),a2⟩:S70),(⟨wrap64 (a1+a3),wrap64 (a2+a4)⟩:S70),(⟨a1,wrap64 (a2+a4)⟩:S70)]:List (S70))) (inner:=[.int .i64 a1,.int .i64 a2,.int .i64 (wrap64 (a1+a3)),.int .i64 a2,.int .i64 (wrap64 (a1+a3)),.int .i64 (wrap64 (a2+a4)),.int .i64 a1,.int .i64 (wrap64 (a2+a4))]) (ok:=fun _=>True) (okp:=fun _=>True) ?hr ?hp (fun _ hk=>hk) trivial (Below.refl _ _) (Nat.le_refl _) (by simp) ?_;(case hd=>rfl);(case hg=>rfl);(case hr=>first | (go_simp;done) | (go_simp;rfl));(case hp=>exact (Reps.c2 (show Kd.M k70 _ _ _ (⟨a1,a2⟩:S70) [.int .i64 a1,.int .i64 a2] from (k70_mkM _ _ _ (⟨a1,a2⟩:S70) )) (Reps.c2 (show Kd.M k70 _ _ _ (⟨wrap64 (a1+a3),a2⟩:S70) [.int .i64 (wrap64 (a1+a3)),.int .i64 a2] from (k70_mkM _ _ _ (⟨wrap64 (a1+a3),a2⟩:S70) )) (Reps.c2 (show Kd.M k70 _ _ _ (⟨wrap64 (a1+a3),wrap64 (a2+a4)⟩:S70) [.int .i64 (wrap64 (a1+a3)),.int .i64 (wrap64 (a2+a4))] from (k70_mkM _ _ _ (⟨wrap64 (a1+a3),wrap64 (a2+a4)⟩:S70) )) (Reps.c2 (show Kd.M k70 _ _ _ (⟨a1,wrap64 (a2+a4)⟩:S70) [.int .i64 a1,.int .i64 (wrap64 (a2+a4))] from (k70_mkM _ _ _ (⟨a1,wrap64 (a2+a4)⟩:S70) )) (Reps.none _ _))))));intro v193 w30 ho31 hb hg_ hnew_;clear hg_ hnew_;(first | rw [← Ny192.out] at ho31 | (simp only [Int.reduceToNat] at ho31;rw [← Ny192.out] at ho31));have HO194:=a0_ (Kd.R_lower ho31 (keep_size (w:=w) (g:=g) (row:=none) (hK_ HK)));replace HK:=kb_ HK hb;replace HB:=a0_ (below_step hBs_ hb);replace HI0:=a0_ (IsS67.below hI_ hb);clear hb ho31) | ((with_reducible refine gate_callee (f:=13) rfl ?_);refine gL_ (some 34) Tryz.func13 #[.pointer (some ⟨g,0,none⟩),.int .i64 7] (h:=?_);(with_reducible refine (spec_l6Rd_pick.calls k g s0_0 s0_1 7 t195 t196 w0 _ hI_ hBs_ A6.out).mono ?_);rintro e w32 ⟨rfl,hi,hb,hk⟩;refine⟨_,rfl,?_⟩;replace HO194:=a0_ (Kd.R_mono (Kd.R_keep (IsS67.apart (show IsS67 w0 _ g s0_0 s0_1 from hI_) (uR_ HO194) (by decide)) hk (fun _ h=>h.2)) (fun _ h=>h.1));replace HK:=kk_ HK hk;replace HB:=a0_ (hb);replace HI0:=a0_ (hi);(try clear hi hb hk)))
    go_ret;exact⟨_,rr_,by (with_reducible repeat (first | apply Kd.R_alloc | apply Kd.R_drewN | apply Kd.R_drew));exact HO194.out,by repeat (first | (with_reducible first | exact HI0.out | apply IsS67.alloc | apply IsS67.drewN | apply IsS67.drew | apply IsS67.set_1) | exact HI0.out),by repeat (first | (with_reducible first | exact HB.out | apply below_alloc | apply pw_below_drewN | apply below_drew1 | refine below_set ?_ (IsS67.ge HI0.out)) | exact HB.out),by repeat (first | (with_reducible first | exact HK.out | apply KeepBut.set_ | apply keep_drewN | apply keep_drew | apply keep_alloc) | exact HK.out)⟩
  ·
   rw [if_neg c14] at H;have c14b0:(t195==1)=false:=beq_eq_false_iff_ne.mpr c14;have c14b1:(t195 != 1)=true:=bne_iff_ne.mpr c14;by_cases c33:t195=2
   ·
    rw [if_pos c33] at H;have c33b0:(t195==2)=true:=beq_iff_eq.mpr c33;have c33b1:(t195 != 2)=false:=bne_eq_false_iff_eq.mpr c33;clear c33;by_cases c34:a4>1
    ·
     rw [if_pos c34] at H;have c34b0:decide (1<a4)=true:=decide_eq_true c34;clear c34;by_cases c35:0<(y192.length:Int)
     ·
      rw [if_pos c35] at H;have c35b0:decide (0<(y192.length:Int))=true:=decide_eq_true c35;have c35b1:decide (0<y192.length)=true:=decide_eq_true (by omega);clear c35;by_cases c36:1<(y192.length:Int)
      ·
       rw [if_pos c36] at H;have c36b0:decide (1<(y192.length:Int))=true:=decide_eq_true c36;have c36b1:decide (1<y192.length)=true:=decide_eq_true (by omega);clear c36;by_cases c37:3<(y192.length:Int)
       ·
        rw [if_pos c37] at H;have c37b0:decide (3<(y192.length:Int))=true:=decide_eq_true c37;have c37b1:decide (3<y192.length)=true:=decide_eq_true (by omega);clear c37;obtain⟨y209,hy209⟩:∃ y_:List (S70),y_=(([(⟨(rd_T70 y192 0).f0,(rd_T70 y192 0).f1⟩:S70),(⟨(rd_T70 y192 1).f0,(rd_T70 y192 1).f1⟩:S70),(⟨wrap64 (a1+a3),wrap64 (a2+(wrap64 (Int.tdiv a4 2)))⟩:S70),(⟨wrap64 (a1+(wrap64 (Int.tdiv a3 2))),wrap64 (a2+a4)⟩:S70),(⟨(rd_T70 y192 3).f0,(rd_T70 y192 3).f1⟩:S70)]:List (S70))):=⟨_,rfl⟩;replace H:(some (y209,t196))=some (r1,r2):=by first | (rw [hy209];with_reducible exact H) | (have H2_:=(Option.bind_some _ _).symm.trans H;rw [hy209];with_reducible exact H2_) | (have H2_:=(Option.bind_some _ _).symm.trans H;with_reducible exact H2_) | with_reducible exact H | (rw [hy209];exact H) | exact H
        have Ny209:=Aside0.mk hy209;clear hy209;simp only [Option.some.injEq,Prod.mk.injEq] at H;obtain⟨rfl,rfl⟩:=H;go_enter Tryz.func48,Tryz.ntmps48
        try go_wp2_with (first | ((with_reducible refine gate_dst (N:=32) rfl ?_);refine Kd.R_lit k70 _ 70 ?hg (N:=32) ?hd (xs:=([(⟨a1,a2⟩:S70),(⟨wrap64 (a1+a3),a2⟩:S70),(⟨wrap64 (a1+a3),wrap64 (a2+a4)⟩:S70),(⟨a1,wrap64 (a2+a4)⟩:S70)]:List (S70))) (inner:=[.int .i64 a1,.int .i64 a2,.int .i64 (wrap64 (a1+a3)),.int .i64 a2,.int .i64 (wrap64 (a1+a3)),.int .i64 (wrap64 (a2+a4)),.int .i64 a1,.int .i64 (wrap64 (a2+a4))]) (ok:=fun _=>True) (okp:=fun _=>True) ?hr ?hp (fun _ hk=>hk) trivial (Below.refl _ _) (Nat.le_refl _) (by simp) ?_;(case hd=>rfl);(case hg=>rfl);(case hr=>first | (go_simp;done) | (go_simp;rfl));(case hp=>exact (Reps.c2 (show Kd.M k70 _ _ _ (⟨a1,a2⟩:S70) [.int .i64 a1,.int .i64 a2] from (k70_mkM _ _ _ (⟨a1,a2⟩:S70) )) (Reps.c2 (show Kd.M k70 _ _ _ (⟨wrap64 (a1+a3),a2⟩:S70) [.int .i64 (wrap64 (a1+a3)),.int .i64 a2] from (k70_mkM _ _ _ (⟨wrap64 (a1+a3),a2⟩:S70) )) (Reps.c2 (show Kd.M k70 _ _ _ (⟨wrap64 (a1+a3),wrap64 (a2+a4)⟩:S70) [.int .i64 (wrap64 (a1+a3)),.int .i64 (wrap64 (a2+a4))] from (k70_mkM _ _ _ (⟨wrap64 (a1+a3),wrap64 (a2+a4)⟩:S70) )) (Reps.c2 (show Kd.M k70 _ _ _ (⟨a1,wrap64 (a2+a4)⟩:S70) [.int .i64 a1,.int .i64 (wrap64 (a2+a4))] from (k70_mkM _ _ _ (⟨a1,wrap64 (a2+a4)⟩:S70) )) (Reps.none _ _))))));intro v193 w38 ho39 hb hg_ hnew_;clear hg_ hnew_;(first | rw [← Ny192.out] at ho39 | (simp only [Int.reduceToNat] at ho39;rw [← Ny192.out] at ho39));have HO194:=a0_ (Kd.R_lower ho39 (keep_size (w:=w) (g:=g) (row:=none) (hK_ HK)));replace HK:=kb_ HK hb;replace HB:=a0_ (below_step hBs_ hb);replace HI0:=a0_ (IsS67.below hI_ hb);clear hb ho39) | ((with_reducible refine gate_callee (f:=13) rfl ?_);refine gL_ (some 34) Tryz.func13 #[.pointer (some ⟨g,0,none⟩),.int .i64 7] (h:=?_);(with_reducible refine (spec_l6Rd_pick.calls k g s0_0 s0_1 7 t195 t196 w0 _ hI_ hBs_ A6.out).mono ?_);rintro e w40 ⟨rfl,hi,hb,hk⟩;refine⟨_,rfl,?_⟩;replace HO194:=a0_ (Kd.R_mono (Kd.R_keep (IsS67.apart (show IsS67 w0 _ g s0_0 s0_1 from hI_) (uR_ HO194) (by decide)) hk (fun _ h=>h.2)) (fun _ h=>h.1));replace HK:=kk_ HK hk;replace HB:=a0_ (hb);replace HI0:=a0_ (hi);(try clear hi hb hk)))
        replace HO194:=a0_ (Kd.R_drew HO194.out);replace HI0:=a0_ (IsS67.drew HI0.out);replace HK:=a0_ (keep_drew HK.out);replace HB:=a0_ (below_drew1 HB.out);obtain⟨Ao42,co42,eo42⟩:=Kd.R_slice HO194.out
        (first | subst eo42 | (injection eo42 with f1_ f2_ f3_;have f4_:=f1_.symm;have f5_:=f3_.symm;clear f1_ f2_ f3_;subst f4_;subst f5_))
        have p206:0≤(0:Int):=(by omega);have q206:0<(y192.length:Int):=od_;obtain⟨ad206,e206,hx206_0,hx206_1⟩:=at_T70 (Kd.R_reads' HO194.out).2.2 0 p206 q206;cases e206;have qi206:(0<y192.length)=True:=eq_true (by omega)
        (try simp only [Int.toNat_zero,Nat.zero_mul,Addr.add_zero'] at hx206_0)
        (try simp only [Int.toNat_zero,Nat.zero_mul,Addr.add_zero'] at hx206_1)
        replace p206:=eq_true p206;replace q206:=eq_true q206;have p207:0≤(1:Int):=(by omega);have q207:1<(y192.length:Int):=od_;obtain⟨ad207,e207,hx207_0,hx207_1⟩:=at_T70 (Kd.R_reads' HO194.out).2.2 1 p207 q207;obtain rfl:ad206=ad207:=(by injection e207)
        (try simp only [show (1:Int).toNat=1 from rfl,Nat.reduceMul,Nat.reduceEqDiff,Go.Addr.add,↓reduceIte] at hx207_0)
        (try simp only [show (1:Int).toNat=1 from rfl,Nat.reduceMul,Nat.reduceEqDiff,Go.Addr.add,↓reduceIte] at hx207_1)
        have qi207:(1<y192.length)=True:=eq_true (by omega)
        (try rw [show ((1:Int)).toNat=1 from rfl] at hx207_0)
        (try rw [show 1*2=2 from rfl] at hx207_0)
        (try rw [show ((1:Int)).toNat=1 from rfl] at hx207_1)
        (try rw [show 1*2=2 from rfl] at hx207_1)
        replace p207:=eq_true p207;replace q207:=eq_true q207;have p208:0≤(3:Int):=(by omega);have q208:3<(y192.length:Int):=od_;obtain⟨ad208,e208,hx208_0,hx208_1⟩:=at_T70 (Kd.R_reads' HO194.out).2.2 3 p208 q208;obtain rfl:ad206=ad208:=(by injection e208)
        (try simp only [show (3:Int).toNat=3 from rfl,Nat.reduceMul,Nat.reduceEqDiff,Go.Addr.add,↓reduceIte] at hx208_0)
        (try simp only [show (3:Int).toNat=3 from rfl,Nat.reduceMul,Nat.reduceEqDiff,Go.Addr.add,↓reduceIte] at hx208_1)
        have qi208:(3<y192.length)=True:=eq_true (by omega)
        (try rw [show ((3:Int)).toNat=3 from rfl] at hx208_0)
        (try rw [show 3*2=6 from rfl] at hx208_0)
        (try rw [show ((3:Int)).toNat=3 from rfl] at hx208_1)
        (try rw [show 3*2=6 from rfl] at hx208_1)
        replace p208:=eq_true p208;replace q208:=eq_true q208;refine start_ (n:=27) (S:=fun w'=>w'.cell? ad206=some (.int .i64 ((rd_T70 y192 0).f0))∧w'.cell? ⟨ad206.block,ad206.off+1,none⟩=some (.int .i64 ((rd_T70 y192 0).f1))∧w'.cell? ⟨ad206.block,ad206.off+2,none⟩=some (.int .i64 ((rd_T70 y192 1).f0))∧w'.cell? ⟨ad206.block,ad206.off+2+1,none⟩=some (.int .i64 ((rd_T70 y192 1).f1))∧w'.cell? ⟨ad206.block,ad206.off+6,none⟩=some (.int .i64 ((rd_T70 y192 3).f0))∧w'.cell? ⟨ad206.block,ad206.off+6+1,none⟩=some (.int .i64 ((rd_T70 y192 3).f1))) (ds:=[]) (Array.replicate 27 false) (by kernel_rfl) rfl rfl ⟨hx206_0,hx206_1,hx207_0,hx207_1,hx208_0,hx208_1⟩ (fun hHeld=>?_);refine with_tabW spec_l71Box.tab10 spec_l71Box.bits10 (fun HT_ HW_=>?_);generalize w40.drew=w41 at HO194 HI0 HK HB hx206_0 hx206_1 hx207_0 hx207_1 hx208_0 hx208_1 hHeld ⊢
        refine pu_ HT_ 0 86 (bm 27 1) ?_;refine pu_ HT_ 1 87 (bm 27 3) ?_;refine pu_ HT_ 3 89 (bm 27 11) ?_;refine pu_ HT_ 4 90 (bm 27 27) ?_;refine pu_ HT_ 6 92 (bm 27 91) ?_;refine pu_ HT_ 7 93 (bm 27 219) ?_;refine pu_ HT_ 8 94 (bm 27 475) ?_;refine pu_ HT_ 9 95 (bm 27 987) ?_;refine pu_ HT_ 10 96 (bm 27 2011) ?_;refine pu_ HT_ 11 97 (bm 27 4059) ?_;refine pu_ HT_ 12 98 (bm 27 8155) ?_;refine pu_ HT_ 13 99 (bm 27 16347) ?_;refine pu_ HT_ 14 100 (bm 27 32731) ?_;refine pu_ HT_ 15 101 (bm 27 65499) ?_;refine pu_ HT_ 16 102 (bm 27 131035) ?_;refine pu_ HT_ 17 103 (bm 27 262107) ?_;refine pu_ HT_ 18 104 (bm 27 524251) ?_;refine pu_ HT_ 19 105 (bm 27 1048539) ?_;refine pu_ HT_ 20 106 (bm 27 2097115) ?_;refine pu_ HT_ 21 107 (bm 27 4194267) ?_;refine pu_ HT_ 22 108 (bm 27 8388571) ?_;refine pu_ HT_ 23 109 (bm 27 16777179) ?_;refine ta6_ HT_ HW_ 2 88 (bm 27 16777183) hHeld ?_;refine ta6_ HT_ HW_ 5 91 (bm 27 16777215) hHeld ?_;refine ta6_ HT_ HW_ 24 110 (bm 27 33554431) hHeld ?_;refine one_ (i:=25) (N:=some 111) (bm 27 67108863) rfl rfl (one_of HT_.out (by kernel_rfl)) (by decide) (fun K hK=>?_)
        refine Kd.R_lit_step k70 _ 70 ?hg (N:=111) ?hd (xs:=([(⟨(rd_T70 y192 0).f0,(rd_T70 y192 0).f1⟩:S70),(⟨(rd_T70 y192 1).f0,(rd_T70 y192 1).f1⟩:S70),(⟨wrap64 (a1+a3),wrap64 (a2+(wrap64 (Int.tdiv a4 2)))⟩:S70),(⟨wrap64 (a1+(wrap64 (Int.tdiv a3 2))),wrap64 (a2+a4)⟩:S70),(⟨(rd_T70 y192 3).f0,(rd_T70 y192 3).f1⟩:S70)]:List (S70))) (inner:=[.int .i64 ((rd_T70 y192 0).f0),.int .i64 ((rd_T70 y192 0).f1),.int .i64 ((rd_T70 y192 1).f0),.int .i64 ((rd_T70 y192 1).f1),.int .i64 (wrap64 (a1+a3)),.int .i64 (wrap64 (a2+(wrap64 (Int.tdiv a4 2)))),.int .i64 (wrap64 (a1+(wrap64 (Int.tdiv a3 2)))),.int .i64 (wrap64 (a2+a4)),.int .i64 ((rd_T70 y192 3).f0),.int .i64 ((rd_T70 y192 3).f1)]) (ok:=fun _=>True) (okp:=fun _=>True) ?hr ?hp (fun _ hk=>hk) trivial (Below.refl _ _) (Nat.le_refl _) (by simp) ?_;(case hd=>rfl);(case hg=>rfl);(case hr=>first | (go_simp;done) | (go_simp;rfl));(case hp=>exact (Reps.c2 (show Kd.M k70 _ _ _ (⟨(rd_T70 y192 0).f0,(rd_T70 y192 0).f1⟩:S70) [.int .i64 ((rd_T70 y192 0).f0),.int .i64 ((rd_T70 y192 0).f1)] from (k70_mkM _ _ _ (⟨(rd_T70 y192 0).f0,(rd_T70 y192 0).f1⟩:S70) )) (Reps.c2 (show Kd.M k70 _ _ _ (⟨(rd_T70 y192 1).f0,(rd_T70 y192 1).f1⟩:S70) [.int .i64 ((rd_T70 y192 1).f0),.int .i64 ((rd_T70 y192 1).f1)] from (k70_mkM _ _ _ (⟨(rd_T70 y192 1).f0,(rd_T70 y192 1).f1⟩:S70) )) (Reps.c2 (show Kd.M k70 _ _ _ (⟨wrap64 (a1+a3),wrap64 (a2+(wrap64 (Int.tdiv a4 2)))⟩:S70) [.int .i64 (wrap64 (a1+a3)),.int .i64 (wrap64 (a2+(wrap64 (Int.tdiv a4 2))))] from (k70_mkM _ _ _ (⟨wrap64 (a1+a3),wrap64 (a2+(wrap64 (Int.tdiv a4 2)))⟩:S70) )) (Reps.c2 (show Kd.M k70 _ _ _ (⟨wrap64 (a1+(wrap64 (Int.tdiv a3 2))),wrap64 (a2+a4)⟩:S70) [.int .i64 (wrap64 (a1+(wrap64 (Int.tdiv a3 2)))),.int .i64 (wrap64 (a2+a4))] from (k70_mkM _ _ _ (⟨wrap64 (a1+(wrap64 (Int.tdiv a3 2))),wrap64 (a2+a4)⟩:S70) )) (Reps.c2 (show Kd.M k70 _ _ _ (⟨(rd_T70 y192 3).f0,(rd_T70 y192 3).f1⟩:S70) [.int .i64 ((rd_T70 y192 3).f0),.int .i64 ((rd_T70 y192 3).f1)] from (k70_mkM _ _ _ (⟨(rd_T70 y192 3).f0,(rd_T70 y192 3).f1⟩:S70) )) (Reps.none _ _)))))))
        intro v210 w43 ho44 hb hg_ hnew_;have HS0_:=pw_cell_below hb hHeld.1;have HS1_:=pw_cell_below hb hHeld.2.1;have HS2_:=pw_cell_below hb hHeld.2.2.1;have HS3_:=pw_cell_below hb hHeld.2.2.2.1;have HS4_:=pw_cell_below hb hHeld.2.2.2.2.1;have HS5_:=pw_cell_below hb hHeld.2.2.2.2.2;clear hg_ hnew_
        (first | rw [← Ny209.out] at ho44 | (simp only [Int.reduceToNat] at ho44;rw [← Ny209.out] at ho44))
        have HO211:=a0_ (Kd.R_lower (Kd.R_new' ho44 (Kd.R_lt (uR_ HO194))) (keep_size (w:=w) (g:=g) (row:=none) (hK_ HK)));replace HO194:=a0_ (Kd.R_elder' (uR_ HO194) (Kd.R_base ho44) hb);replace HK:=kb_ HK hb;replace HB:=a0_ (below_step hBs_ hb);replace HI0:=a0_ (IsS67.below hI_ hb);clear hb ho44;refine hK.out _ _ ⟨HS0_,HS1_,HS2_,HS3_,HS4_,HS5_⟩ (fun hHeld=>?_);clear hK K;refine no_ (h:=?_);refine pu_ HT_ 26 10 (bm 27 134217727) ?_;refine done_ (done_of HT_.out (by kernel_rfl)) ?_
        try go_wp2
        go_ret;exact⟨_,rr_,by (with_reducible repeat (first | apply Kd.R_alloc | apply Kd.R_drewN | apply Kd.R_drew));exact Kd.R_mono HO211.out (fun _ hk=>trivial),by repeat (first | (with_reducible first | exact HI0.out | apply IsS67.alloc | apply IsS67.drewN | apply IsS67.drew | apply IsS67.set_1) | exact HI0.out),by repeat (first | (with_reducible first | exact HB.out | apply below_alloc | apply pw_below_drewN | apply below_drew1 | refine below_set ?_ (IsS67.ge HI0.out)) | exact HB.out),by repeat (first | (with_reducible first | exact HK.out | apply KeepBut.set_ | apply keep_drewN | apply keep_drew | apply keep_alloc) | exact HK.out)⟩
       ·
        rw [if_neg c37] at H;exact absurd H (by simp)
      ·
       rw [if_neg c36] at H;exact absurd H (by simp)
     ·
      rw [if_neg c35] at H;exact absurd H (by simp)
    ·
     rw [if_neg c34] at H;have c34b0:decide (1<a4)=false:=decide_eq_false c34;clear c34;simp only [Option.some.injEq,Prod.mk.injEq] at H;obtain⟨rfl,rfl⟩:=H;go_enter Tryz.func48,Tryz.ntmps48
     go_wp2_with (first | ((with_reducible refine gate_dst (N:=32) rfl ?_);refine Kd.R_lit k70 _ 70 ?hg (N:=32) ?hd (xs:=([(⟨a1,a2⟩:S70),(⟨wrap64 (a1+a3),a2⟩:S70),(⟨wrap64 (a1+a3),wrap64 (a2+a4)⟩:S70),(⟨a1,wrap64 (a2+a4)⟩:S70)]:List (S70))) (inner:=[.int .i64 a1,.int .i64 a2,.int .i64 (wrap64 (a1+a3)),.int .i64 a2,.int .i64 (wrap64 (a1+a3)),.int .i64 (wrap64 (a2+a4)),.int .i64 a1,.int .i64 (wrap64 (a2+a4))]) (ok:=fun _=>True) (okp:=fun _=>True) ?hr ?hp (fun _ hk=>hk) trivial (Below.refl _ _) (Nat.le_refl _) (by simp) ?_;(case hd=>rfl);(case hg=>rfl);(case hr=>first | (go_simp;done) | (go_simp;rfl));(case hp=>exact (Reps.c2 (show Kd.M k70 _ _ _ (⟨a1,a2⟩:S70) [.int .i64 a1,.int .i64 a2] from (k70_mkM _ _ _ (⟨a1,a2⟩:S70) )) (Reps.c2 (show Kd.M k70 _ _ _ (⟨wrap64 (a1+a3),a2⟩:S70) [.int .i64 (wrap64 (a1+a3)),.int .i64 a2] from (k70_mkM _ _ _ (⟨wrap64 (a1+a3),a2⟩:S70) )) (Reps.c2 (show Kd.M k70 _ _ _ (⟨wrap64 (a1+a3),wrap64 (a2+a4)⟩:S70) [.int .i64 (wrap64 (a1+a3)),.int .i64 (wrap64 (a2+a4))] from (k70_mkM _ _ _ (⟨wrap64 (a1+a3),wrap64 (a2+a4)⟩:S70) )) (Reps.c2 (show Kd.M k70 _ _ _ (⟨a1,wrap64 (a2+a4)⟩:S70) [.int .i64 a1,.int .i64 (wrap64 (a2+a4))] from (k70_mkM _ _ _ (⟨a1,wrap64 (a2+a4)⟩:S70) )) (Reps.none _ _))))));intro v193 w45 ho46 hb hg_ hnew_;clear hg_ hnew_;(first | rw [← Ny192.out] at ho46 | (simp only [Int.reduceToNat] at ho46;rw [← Ny192.out] at ho46));have HO194:=a0_ (Kd.R_lower ho46 (keep_size (w:=w) (g:=g) (row:=none) (hK_ HK)));replace HK:=kb_ HK hb;replace HB:=a0_ (below_step hBs_ hb);replace HI0:=a0_ (IsS67.below hI_ hb);clear hb ho46) | ((with_reducible refine gate_callee (f:=13) rfl ?_);refine gL_ (some 34) Tryz.func13 #[.pointer (some ⟨g,0,none⟩),.int .i64 7] (h:=?_);(with_reducible refine (spec_l6Rd_pick.calls k g s0_0 s0_1 7 t195 t196 w0 _ hI_ hBs_ A6.out).mono ?_);rintro e w47 ⟨rfl,hi,hb,hk⟩;refine⟨_,rfl,?_⟩;replace HO194:=a0_ (Kd.R_mono (Kd.R_keep (IsS67.apart (show IsS67 w0 _ g s0_0 s0_1 from hI_) (uR_ HO194) (by decide)) hk (fun _ h=>h.2)) (fun _ h=>h.1));replace HK:=kk_ HK hk;replace HB:=a0_ (hb);replace HI0:=a0_ (hi);(try clear hi hb hk)))
     go_ret;exact⟨_,rr_,by (with_reducible repeat (first | apply Kd.R_alloc | apply Kd.R_drewN | apply Kd.R_drew));exact HO194.out,by repeat (first | (with_reducible first | exact HI0.out | apply IsS67.alloc | apply IsS67.drewN | apply IsS67.drew | apply IsS67.set_1) | exact HI0.out),by repeat (first | (with_reducible first | exact HB.out | apply below_alloc | apply pw_below_drewN | apply below_drew1 | refine below_set ?_ (IsS67.ge HI0.out)) | exact HB.out),by repeat (first | (with_reducible first | exact HK.out | apply KeepBut.set_ | apply keep_drewN | apply keep_drew | apply keep_alloc) | exact HK.out)⟩
   ·
    rw [if_neg c33] at H;have c33b0:(t195==2)=false:=beq_eq_false_iff_ne.mpr c33;have c33b1:(t195 != 2)=true:=bne_iff_ne.mpr c33;by_cases c48:t195=3
    ·
     rw [if_pos c48] at H;have c48b0:(t195==3)=true:=beq_iff_eq.mpr c48;have c48b1:(t195 != 3)=false:=bne_eq_false_iff_eq.mpr c48;clear c48;by_cases c49:3<(y192.length:Int)
     ·
      rw [if_pos c49] at H;have c49b0:decide (3<(y192.length:Int))=true:=decide_eq_true c49;have c49b1:decide (3<y192.length)=true:=decide_eq_true (by omega);clear c49;by_cases c50:2<(y192.length:Int)
      ·
       rw [if_pos c50] at H;have c50b0:decide (2<(y192.length:Int))=true:=decide_eq_true c50;have c50b1:decide (2<y192.length)=true:=decide_eq_true (by omega);clear c50;by_cases c51:1<(y192.length:Int)
       ·
        rw [if_pos c51] at H;have c51b0:decide (1<(y192.length:Int))=true:=decide_eq_true c51;have c51b1:decide (1<y192.length)=true:=decide_eq_true (by omega);clear c51;by_cases c52:0<(y192.length:Int)
        ·
         rw [if_pos c52] at H;have c52b0:decide (0<(y192.length:Int))=true:=decide_eq_true c52;have c52b1:decide (0<y192.length)=true:=decide_eq_true (by omega);clear c52;obtain⟨y216,hy216⟩:∃ y_:List (S70),y_=(([(⟨(rd_T70 y192 3).f0,(rd_T70 y192 3).f1⟩:S70),(⟨(rd_T70 y192 2).f0,(rd_T70 y192 2).f1⟩:S70),(⟨(rd_T70 y192 1).f0,(rd_T70 y192 1).f1⟩:S70),(⟨(rd_T70 y192 0).f0,(rd_T70 y192 0).f1⟩:S70)]:List (S70))):=⟨_,rfl⟩;replace H:(some (y216,t196))=some (r1,r2):=by first | (rw [hy216];with_reducible exact H) | (have H2_:=(Option.bind_some _ _).symm.trans H;rw [hy216];with_reducible exact H2_) | (have H2_:=(Option.bind_some _ _).symm.trans H;with_reducible exact H2_) | with_reducible exact H | (rw [hy216];exact H) | exact H
         have Ny216:=Aside0.mk hy216;clear hy216;simp only [Option.some.injEq,Prod.mk.injEq] at H;obtain⟨rfl,rfl⟩:=H;go_enter Tryz.func48,Tryz.ntmps48
         try go_wp2_with (first | ((with_reducible refine gate_dst (N:=32) rfl ?_);refine Kd.R_lit k70 _ 70 ?hg (N:=32) ?hd (xs:=([(⟨a1,a2⟩:S70),(⟨wrap64 (a1+a3),a2⟩:S70),(⟨wrap64 (a1+a3),wrap64 (a2+a4)⟩:S70),(⟨a1,wrap64 (a2+a4)⟩:S70)]:List (S70))) (inner:=[.int .i64 a1,.int .i64 a2,.int .i64 (wrap64 (a1+a3)),.int .i64 a2,.int .i64 (wrap64 (a1+a3)),.int .i64 (wrap64 (a2+a4)),.int .i64 a1,.int .i64 (wrap64 (a2+a4))]) (ok:=fun _=>True) (okp:=fun _=>True) ?hr ?hp (fun _ hk=>hk) trivial (Below.refl _ _) (Nat.le_refl _) (by simp) ?_;(case hd=>rfl);(case hg=>rfl);(case hr=>first | (go_simp;done) | (go_simp;rfl));(case hp=>exact (Reps.c2 (show Kd.M k70 _ _ _ (⟨a1,a2⟩:S70) [.int .i64 a1,.int .i64 a2] from (k70_mkM _ _ _ (⟨a1,a2⟩:S70) )) (Reps.c2 (show Kd.M k70 _ _ _ (⟨wrap64 (a1+a3),a2⟩:S70) [.int .i64 (wrap64 (a1+a3)),.int .i64 a2] from (k70_mkM _ _ _ (⟨wrap64 (a1+a3),a2⟩:S70) )) (Reps.c2 (show Kd.M k70 _ _ _ (⟨wrap64 (a1+a3),wrap64 (a2+a4)⟩:S70) [.int .i64 (wrap64 (a1+a3)),.int .i64 (wrap64 (a2+a4))] from (k70_mkM _ _ _ (⟨wrap64 (a1+a3),wrap64 (a2+a4)⟩:S70) )) (Reps.c2 (show Kd.M k70 _ _ _ (⟨a1,wrap64 (a2+a4)⟩:S70) [.int .i64 a1,.int .i64 (wrap64 (a2+a4))] from (k70_mkM _ _ _ (⟨a1,wrap64 (a2+a4)⟩:S70) )) (Reps.none _ _))))));intro v193 w53 ho54 hb hg_ hnew_;clear hg_ hnew_;(first | rw [← Ny192.out] at ho54 | (simp only [Int.reduceToNat] at ho54;rw [← Ny192.out] at ho54));have HO194:=a0_ (Kd.R_lower ho54 (keep_size (w:=w) (g:=g) (row:=none) (hK_ HK)));replace HK:=kb_ HK hb;replace HB:=a0_ (below_step hBs_ hb);replace HI0:=a0_ (IsS67.below hI_ hb);clear hb ho54) | ((with_reducible refine gate_callee (f:=13) rfl ?_);refine gL_ (some 34) Tryz.func13 #[.pointer (some ⟨g,0,none⟩),.int .i64 7] (h:=?_);(with_reducible refine (spec_l6Rd_pick.calls k g s0_0 s0_1 7 t195 t196 w0 _ hI_ hBs_ A6.out).mono ?_);rintro e w55 ⟨rfl,hi,hb,hk⟩;refine⟨_,rfl,?_⟩;replace HO194:=a0_ (Kd.R_mono (Kd.R_keep (IsS67.apart (show IsS67 w0 _ g s0_0 s0_1 from hI_) (uR_ HO194) (by decide)) hk (fun _ h=>h.2)) (fun _ h=>h.1));replace HK:=kk_ HK hk;replace HB:=a0_ (hb);replace HI0:=a0_ (hi);(try clear hi hb hk)))
         replace HO194:=a0_ (Kd.R_drew HO194.out);replace HI0:=a0_ (IsS67.drew HI0.out);replace HK:=a0_ (keep_drew HK.out);replace HB:=a0_ (below_drew1 HB.out);obtain⟨Ao57,co57,eo57⟩:=Kd.R_slice HO194.out
         (first | subst eo57 | (injection eo57 with f1_ f2_ f3_;have f4_:=f1_.symm;have f5_:=f3_.symm;clear f1_ f2_ f3_;subst f4_;subst f5_))
         have p212:0≤(3:Int):=(by omega);have q212:3<(y192.length:Int):=od_;obtain⟨ad212,e212,hx212_0,hx212_1⟩:=at_T70 (Kd.R_reads' HO194.out).2.2 3 p212 q212;cases e212
         (try simp only [show (3:Int).toNat=3 from rfl,Nat.reduceMul,Nat.reduceEqDiff,Go.Addr.add,↓reduceIte] at hx212_0)
         (try simp only [show (3:Int).toNat=3 from rfl,Nat.reduceMul,Nat.reduceEqDiff,Go.Addr.add,↓reduceIte] at hx212_1)
         have qi212:(3<y192.length)=True:=eq_true (by omega)
         (try rw [show ((3:Int)).toNat=3 from rfl] at hx212_0)
         (try rw [show 3*2=6 from rfl] at hx212_0)
         (try rw [show ((3:Int)).toNat=3 from rfl] at hx212_1)
         (try rw [show 3*2=6 from rfl] at hx212_1)
         replace p212:=eq_true p212;replace q212:=eq_true q212;have p213:0≤(2:Int):=(by omega);have q213:2<(y192.length:Int):=od_;obtain⟨ad213,e213,hx213_0,hx213_1⟩:=at_T70 (Kd.R_reads' HO194.out).2.2 2 p213 q213;obtain rfl:ad212=ad213:=(by injection e213)
         (try simp only [show (2:Int).toNat=2 from rfl,Nat.reduceMul,Nat.reduceEqDiff,Go.Addr.add,↓reduceIte] at hx213_0)
         (try simp only [show (2:Int).toNat=2 from rfl,Nat.reduceMul,Nat.reduceEqDiff,Go.Addr.add,↓reduceIte] at hx213_1)
         have qi213:(2<y192.length)=True:=eq_true (by omega)
         (try rw [show ((2:Int)).toNat=2 from rfl] at hx213_0)
         (try rw [show 2*2=4 from rfl] at hx213_0)
         (try rw [show ((2:Int)).toNat=2 from rfl] at hx213_1)
         (try rw [show 2*2=4 from rfl] at hx213_1)
         replace p213:=eq_true p213;replace q213:=eq_true q213;have p214:0≤(1:Int):=(by omega);have q214:1<(y192.length:Int):=od_;obtain⟨ad214,e214,hx214_0,hx214_1⟩:=at_T70 (Kd.R_reads' HO194.out).2.2 1 p214 q214;obtain rfl:ad212=ad214:=(by injection e214)
         (try simp only [show (1:Int).toNat=1 from rfl,Nat.reduceMul,Nat.reduceEqDiff,Go.Addr.add,↓reduceIte] at hx214_0)
         (try simp only [show (1:Int).toNat=1 from rfl,Nat.reduceMul,Nat.reduceEqDiff,Go.Addr.add,↓reduceIte] at hx214_1)
         have qi214:(1<y192.length)=True:=eq_true (by omega)
         (try rw [show ((1:Int)).toNat=1 from rfl] at hx214_0)
         (try rw [show 1*2=2 from rfl] at hx214_0)
         (try rw [show ((1:Int)).toNat=1 from rfl] at hx214_1)
         (try rw [show 1*2=2 from rfl] at hx214_1)
         replace p214:=eq_true p214;replace q214:=eq_true q214;have p215:0≤(0:Int):=(by omega);have q215:0<(y192.length:Int):=od_;obtain⟨ad215,e215,hx215_0,hx215_1⟩:=at_T70 (Kd.R_reads' HO194.out).2.2 0 p215 q215;obtain rfl:ad212=ad215:=(by injection e215);have qi215:(0<y192.length)=True:=eq_true (by omega)
         (try simp only [Int.toNat_zero,Nat.zero_mul,Addr.add_zero'] at hx215_0)
         (try simp only [Int.toNat_zero,Nat.zero_mul,Addr.add_zero'] at hx215_1)
         replace p215:=eq_true p215;replace q215:=eq_true q215;refine start_ (n:=14) (S:=fun w'=>w'.cell? ⟨ad212.block,ad212.off+6,none⟩=some (.int .i64 ((rd_T70 y192 3).f0))∧w'.cell? ⟨ad212.block,ad212.off+6+1,none⟩=some (.int .i64 ((rd_T70 y192 3).f1))∧w'.cell? ⟨ad212.block,ad212.off+4,none⟩=some (.int .i64 ((rd_T70 y192 2).f0))∧w'.cell? ⟨ad212.block,ad212.off+4+1,none⟩=some (.int .i64 ((rd_T70 y192 2).f1))∧w'.cell? ⟨ad212.block,ad212.off+2,none⟩=some (.int .i64 ((rd_T70 y192 1).f0))∧w'.cell? ⟨ad212.block,ad212.off+2+1,none⟩=some (.int .i64 ((rd_T70 y192 1).f1))∧w'.cell? ad212=some (.int .i64 ((rd_T70 y192 0).f0))∧w'.cell? ⟨ad212.block,ad212.off+1,none⟩=some (.int .i64 ((rd_T70 y192 0).f1))) (ds:=[]) (Array.replicate 14 false) (by kernel_rfl) rfl rfl ⟨hx212_0,hx212_1,hx213_0,hx213_1,hx214_0,hx214_1,hx215_0,hx215_1⟩ (fun hHeld=>?_);refine with_tabW spec_l71Box.tab12 spec_l71Box.bits12 (fun HT_ HW_=>?_);generalize w55.drew=w56 at HO194 HI0 HK HB hx212_0 hx212_1 hx213_0 hx213_1 hx214_0 hx214_1 hx215_0 hx215_1 hHeld ⊢
         refine pu_ HT_ 0 114 (bm 14 1) ?_;refine pu_ HT_ 1 115 (bm 14 3) ?_;refine pu_ HT_ 3 117 (bm 14 11) ?_;refine pu_ HT_ 4 118 (bm 14 27) ?_;refine pu_ HT_ 6 120 (bm 14 91) ?_;refine pu_ HT_ 7 121 (bm 14 219) ?_;refine pu_ HT_ 9 123 (bm 14 731) ?_;refine pu_ HT_ 10 124 (bm 14 1755) ?_;refine ta8_ HT_ HW_ 2 116 (bm 14 1759) hHeld ?_;refine ta8_ HT_ HW_ 5 119 (bm 14 1791) hHeld ?_;refine ta8_ HT_ HW_ 8 122 (bm 14 2047) hHeld ?_;refine ta8_ HT_ HW_ 11 125 (bm 14 4095) hHeld ?_;refine one_ (i:=12) (N:=some 126) (bm 14 8191) rfl rfl (one_of HT_.out (by kernel_rfl)) (by decide) (fun K hK=>?_)
         refine Kd.R_lit_step k70 _ 70 ?hg (N:=126) ?hd (xs:=([(⟨(rd_T70 y192 3).f0,(rd_T70 y192 3).f1⟩:S70),(⟨(rd_T70 y192 2).f0,(rd_T70 y192 2).f1⟩:S70),(⟨(rd_T70 y192 1).f0,(rd_T70 y192 1).f1⟩:S70),(⟨(rd_T70 y192 0).f0,(rd_T70 y192 0).f1⟩:S70)]:List (S70))) (inner:=[.int .i64 ((rd_T70 y192 3).f0),.int .i64 ((rd_T70 y192 3).f1),.int .i64 ((rd_T70 y192 2).f0),.int .i64 ((rd_T70 y192 2).f1),.int .i64 ((rd_T70 y192 1).f0),.int .i64 ((rd_T70 y192 1).f1),.int .i64 ((rd_T70 y192 0).f0),.int .i64 ((rd_T70 y192 0).f1)]) (ok:=fun _=>True) (okp:=fun _=>True) ?hr ?hp (fun _ hk=>hk) trivial (Below.refl _ _) (Nat.le_refl _) (by simp) ?_;(case hd=>rfl);(case hg=>rfl);(case hr=>first | (go_simp;done) | (go_simp;rfl));(case hp=>exact (Reps.c2 (show Kd.M k70 _ _ _ (⟨(rd_T70 y192 3).f0,(rd_T70 y192 3).f1⟩:S70) [.int .i64 ((rd_T70 y192 3).f0),.int .i64 ((rd_T70 y192 3).f1)] from (k70_mkM _ _ _ (⟨(rd_T70 y192 3).f0,(rd_T70 y192 3).f1⟩:S70) )) (Reps.c2 (show Kd.M k70 _ _ _ (⟨(rd_T70 y192 2).f0,(rd_T70 y192 2).f1⟩:S70) [.int .i64 ((rd_T70 y192 2).f0),.int .i64 ((rd_T70 y192 2).f1)] from (k70_mkM _ _ _ (⟨(rd_T70 y192 2).f0,(rd_T70 y192 2).f1⟩:S70) )) (Reps.c2 (show Kd.M k70 _ _ _ (⟨(rd_T70 y192 1).f0,(rd_T70 y192 1).f1⟩:S70) [.int .i64 ((rd_T70 y192 1).f0),.int .i64 ((rd_T70 y192 1).f1)] from (k70_mkM _ _ _ (⟨(rd_T70 y192 1).f0,(rd_T70 y192 1).f1⟩:S70) )) (Reps.c2 (show Kd.M k70 _ _ _ (⟨(rd_T70 y192 0).f0,(rd_T70 y192 0).f1⟩:S70) [.int .i64 ((rd_T70 y192 0).f0),.int .i64 ((rd_T70 y192 0).f1)] from (k70_mkM _ _ _ (⟨(rd_T70 y192 0).f0,(rd_T70 y192 0).f1⟩:S70) )) (Reps.none _ _))))));intro v217 w58 ho59 hb hg_ hnew_;have HS0_:=pw_cell_below hb hHeld.1;have HS1_:=pw_cell_below hb hHeld.2.1;have HS2_:=pw_cell_below hb hHeld.2.2.1;have HS3_:=pw_cell_below hb hHeld.2.2.2.1;have HS4_:=pw_cell_below hb hHeld.2.2.2.2.1;have HS5_:=pw_cell_below hb hHeld.2.2.2.2.2.1
         have HS6_:=pw_cell_below hb hHeld.2.2.2.2.2.2.1;have HS7_:=pw_cell_below hb hHeld.2.2.2.2.2.2.2;clear hg_ hnew_
         (first | rw [← Ny216.out] at ho59 | (simp only [Int.reduceToNat] at ho59;rw [← Ny216.out] at ho59))
         have HO218:=a0_ (Kd.R_lower (Kd.R_new' ho59 (Kd.R_lt (uR_ HO194))) (keep_size (w:=w) (g:=g) (row:=none) (hK_ HK)));replace HO194:=a0_ (Kd.R_elder' (uR_ HO194) (Kd.R_base ho59) hb);replace HK:=kb_ HK hb;replace HB:=a0_ (below_step hBs_ hb);replace HI0:=a0_ (IsS67.below hI_ hb);clear hb ho59;refine hK.out _ _ ⟨HS0_,HS1_,HS2_,HS3_,HS4_,HS5_,HS6_,HS7_⟩ (fun hHeld=>?_);clear hK K;refine no_ (h:=?_);refine pu_ HT_ 13 10 (bm 14 16383) ?_;refine done_ (done_of HT_.out (by kernel_rfl)) ?_
         try go_wp2
         go_ret;exact⟨_,rr_,by (with_reducible repeat (first | apply Kd.R_alloc | apply Kd.R_drewN | apply Kd.R_drew));exact Kd.R_mono HO218.out (fun _ hk=>trivial),by repeat (first | (with_reducible first | exact HI0.out | apply IsS67.alloc | apply IsS67.drewN | apply IsS67.drew | apply IsS67.set_1) | exact HI0.out),by repeat (first | (with_reducible first | exact HB.out | apply below_alloc | apply pw_below_drewN | apply below_drew1 | refine below_set ?_ (IsS67.ge HI0.out)) | exact HB.out),by repeat (first | (with_reducible first | exact HK.out | apply KeepBut.set_ | apply keep_drewN | apply keep_drew | apply keep_alloc) | exact HK.out)⟩
        ·
         rw [if_neg c52] at H;exact absurd H (by simp)
       ·
        rw [if_neg c51] at H;exact absurd H (by simp)
      ·
       rw [if_neg c50] at H;exact absurd H (by simp)
     ·
      rw [if_neg c49] at H;exact absurd H (by simp)
    ·
     rw [if_neg c48] at H;have c48b0:(t195==3)=false:=beq_eq_false_iff_ne.mpr c48;have c48b1:(t195 != 3)=true:=bne_iff_ne.mpr c48;by_cases c60:t195=4
     ·
      rw [if_pos c60] at H;have c60b0:(t195==4)=true:=beq_iff_eq.mpr c60;have c60b1:(t195 != 4)=false:=bne_eq_false_iff_eq.mpr c60;clear c60;by_cases c61:a3>2
      ·
       rw [if_pos c61] at H;have c61b0:decide (2<a3)=true:=decide_eq_true c61;clear c61;by_cases c62:a4>2
       ·
        rw [if_pos c62] at H;have c62b0:decide (2<a4)=true:=decide_eq_true c62;clear c62;by_cases c63:0<(y192.length:Int)
        ·
         rw [if_pos c63] at H;have c63b0:decide (0<(y192.length:Int))=true:=decide_eq_true c63;have c63b1:decide (0<y192.length)=true:=decide_eq_true (by omega);clear c63;by_cases c64:1<(y192.length:Int)
         ·
          rw [if_pos c64] at H;have c64b0:decide (1<(y192.length:Int))=true:=decide_eq_true c64;have c64b1:decide (1<y192.length)=true:=decide_eq_true (by omega);clear c64;by_cases c65:2<(y192.length:Int)
          ·
           rw [if_pos c65] at H;have c65b0:decide (2<(y192.length:Int))=true:=decide_eq_true c65;have c65b1:decide (2<y192.length)=true:=decide_eq_true (by omega);clear c65;by_cases c66:3<(y192.length:Int)
           ·
            rw [if_pos c66] at H;have c66b0:decide (3<(y192.length:Int))=true:=decide_eq_true c66;have c66b1:decide (3<y192.length)=true:=decide_eq_true (by omega);clear c66;obtain⟨y223,hy223⟩:∃ y_:List (S70),y_=(([(⟨(rd_T70 y192 0).f0,(rd_T70 y192 0).f1⟩:S70),(⟨wrap64 (a1+(wrap64 (Int.tdiv a3 2))),wrap64 (a2+1)⟩:S70),(⟨(rd_T70 y192 1).f0,(rd_T70 y192 1).f1⟩:S70),(⟨(rd_T70 y192 2).f0,(rd_T70 y192 2).f1⟩:S70),(⟨wrap64 (a1+(wrap64 (Int.tdiv a3 2))),wrap64 ((wrap64 (a2+a4))-1)⟩:S70),(⟨(rd_T70 y192 3).f0,(rd_T70 y192 3).f1⟩:S70)]:List (S70))):=⟨_,rfl⟩;replace H:(some (y223,t196))=some (r1,r2):=by first | (rw [hy223];with_reducible exact H) | (have H2_:=(Option.bind_some _ _).symm.trans H;rw [hy223];with_reducible exact H2_) | (have H2_:=(Option.bind_some _ _).symm.trans H;with_reducible exact H2_) | with_reducible exact H | (rw [hy223];exact H) | exact H
            have Ny223:=Aside0.mk hy223;clear hy223;simp only [Option.some.injEq,Prod.mk.injEq] at H;obtain⟨rfl,rfl⟩:=H;go_enter Tryz.func48,Tryz.ntmps48
            try go_wp2_with (first | ((with_reducible refine gate_dst (N:=32) rfl ?_);refine Kd.R_lit k70 _ 70 ?hg (N:=32) ?hd (xs:=([(⟨a1,a2⟩:S70),(⟨wrap64 (a1+a3),a2⟩:S70),(⟨wrap64 (a1+a3),wrap64 (a2+a4)⟩:S70),(⟨a1,wrap64 (a2+a4)⟩:S70)]:List (S70))) (inner:=[.int .i64 a1,.int .i64 a2,.int .i64 (wrap64 (a1+a3)),.int .i64 a2,.int .i64 (wrap64 (a1+a3)),.int .i64 (wrap64 (a2+a4)),.int .i64 a1,.int .i64 (wrap64 (a2+a4))]) (ok:=fun _=>True) (okp:=fun _=>True) ?hr ?hp (fun _ hk=>hk) trivial (Below.refl _ _) (Nat.le_refl _) (by simp) ?_;(case hd=>rfl);(case hg=>rfl);(case hr=>first | (go_simp;done) | (go_simp;rfl));(case hp=>exact (Reps.c2 (show Kd.M k70 _ _ _ (⟨a1,a2⟩:S70) [.int .i64 a1,.int .i64 a2] from (k70_mkM _ _ _ (⟨a1,a2⟩:S70) )) (Reps.c2 (show Kd.M k70 _ _ _ (⟨wrap64 (a1+a3),a2⟩:S70) [.int .i64 (wrap64 (a1+a3)),.int .i64 a2] from (k70_mkM _ _ _ (⟨wrap64 (a1+a3),a2⟩:S70) )) (Reps.c2 (show Kd.M k70 _ _ _ (⟨wrap64 (a1+a3),wrap64 (a2+a4)⟩:S70) [.int .i64 (wrap64 (a1+a3)),.int .i64 (wrap64 (a2+a4))] from (k70_mkM _ _ _ (⟨wrap64 (a1+a3),wrap64 (a2+a4)⟩:S70) )) (Reps.c2 (show Kd.M k70 _ _ _ (⟨a1,wrap64 (a2+a4)⟩:S70) [.int .i64 a1,.int .i64 (wrap64 (a2+a4))] from (k70_mkM _ _ _ (⟨a1,wrap64 (a2+a4)⟩:S70) )) (Reps.none _ _))))));intro v193 w67 ho68 hb hg_ hnew_;clear hg_ hnew_;(first | rw [← Ny192.out] at ho68 | (simp only [Int.reduceToNat] at ho68;rw [← Ny192.out] at ho68));have HO194:=a0_ (Kd.R_lower ho68 (keep_size (w:=w) (g:=g) (row:=none) (hK_ HK)));replace HK:=kb_ HK hb;replace HB:=a0_ (below_step hBs_ hb);replace HI0:=a0_ (IsS67.below hI_ hb);clear hb ho68) | ((with_reducible refine gate_callee (f:=13) rfl ?_);refine gL_ (some 34) Tryz.func13 #[.pointer (some ⟨g,0,none⟩),.int .i64 7] (h:=?_);(with_reducible refine (spec_l6Rd_pick.calls k g s0_0 s0_1 7 t195 t196 w0 _ hI_ hBs_ A6.out).mono ?_);rintro e w69 ⟨rfl,hi,hb,hk⟩;refine⟨_,rfl,?_⟩;replace HO194:=a0_ (Kd.R_mono (Kd.R_keep (IsS67.apart (show IsS67 w0 _ g s0_0 s0_1 from hI_) (uR_ HO194) (by decide)) hk (fun _ h=>h.2)) (fun _ h=>h.1));replace HK:=kk_ HK hk;replace HB:=a0_ (hb);replace HI0:=a0_ (hi);(try clear hi hb hk)))
            replace HO194:=a0_ (Kd.R_drew HO194.out);replace HI0:=a0_ (IsS67.drew HI0.out);replace HK:=a0_ (keep_drew HK.out);replace HB:=a0_ (below_drew1 HB.out);obtain⟨Ao71,co71,eo71⟩:=Kd.R_slice HO194.out
            (first | subst eo71 | (injection eo71 with f1_ f2_ f3_;have f4_:=f1_.symm;have f5_:=f3_.symm;clear f1_ f2_ f3_;subst f4_;subst f5_))
            have p219:0≤(0:Int):=(by omega);have q219:0<(y192.length:Int):=od_;obtain⟨ad219,e219,hx219_0,hx219_1⟩:=at_T70 (Kd.R_reads' HO194.out).2.2 0 p219 q219;cases e219;have qi219:(0<y192.length)=True:=eq_true (by omega)
            (try simp only [Int.toNat_zero,Nat.zero_mul,Addr.add_zero'] at hx219_0)
            (try simp only [Int.toNat_zero,Nat.zero_mul,Addr.add_zero'] at hx219_1)
            replace p219:=eq_true p219;replace q219:=eq_true q219;have p220:0≤(1:Int):=(by omega);have q220:1<(y192.length:Int):=od_;obtain⟨ad220,e220,hx220_0,hx220_1⟩:=at_T70 (Kd.R_reads' HO194.out).2.2 1 p220 q220;obtain rfl:ad219=ad220:=(by injection e220)
            (try simp only [show (1:Int).toNat=1 from rfl,Nat.reduceMul,Nat.reduceEqDiff,Go.Addr.add,↓reduceIte] at hx220_0)
            (try simp only [show (1:Int).toNat=1 from rfl,Nat.reduceMul,Nat.reduceEqDiff,Go.Addr.add,↓reduceIte] at hx220_1)
            have qi220:(1<y192.length)=True:=eq_true (by omega)
            (try rw [show ((1:Int)).toNat=1 from rfl] at hx220_0)
            (try rw [show 1*2=2 from rfl] at hx220_0)
            (try rw [show ((1:Int)).toNat=1 from rfl] at hx220_1)
            (try rw [show 1*2=2 from rfl] at hx220_1)
            replace p220:=eq_true p220;replace q220:=eq_true q220;have p221:0≤(2:Int):=(by omega);have q221:2<(y192.length:Int):=od_;obtain⟨ad221,e221,hx221_0,hx221_1⟩:=at_T70 (Kd.R_reads' HO194.out).2.2 2 p221 q221;obtain rfl:ad219=ad221:=(by injection e221)
            (try simp only [show (2:Int).toNat=2 from rfl,Nat.reduceMul,Nat.reduceEqDiff,Go.Addr.add,↓reduceIte] at hx221_0)
            (try simp only [show (2:Int).toNat=2 from rfl,Nat.reduceMul,Nat.reduceEqDiff,Go.Addr.add,↓reduceIte] at hx221_1)
            have qi221:(2<y192.length)=True:=eq_true (by omega)
            (try rw [show ((2:Int)).toNat=2 from rfl] at hx221_0)
            (try rw [show 2*2=4 from rfl] at hx221_0)
            (try rw [show ((2:Int)).toNat=2 from rfl] at hx221_1)
            (try rw [show 2*2=4 from rfl] at hx221_1)
            replace p221:=eq_true p221;replace q221:=eq_true q221;have p222:0≤(3:Int):=(by omega);have q222:3<(y192.length:Int):=od_;obtain⟨ad222,e222,hx222_0,hx222_1⟩:=at_T70 (Kd.R_reads' HO194.out).2.2 3 p222 q222;obtain rfl:ad219=ad222:=(by injection e222)
            (try simp only [show (3:Int).toNat=3 from rfl,Nat.reduceMul,Nat.reduceEqDiff,Go.Addr.add,↓reduceIte] at hx222_0)
            (try simp only [show (3:Int).toNat=3 from rfl,Nat.reduceMul,Nat.reduceEqDiff,Go.Addr.add,↓reduceIte] at hx222_1)
            have qi222:(3<y192.length)=True:=eq_true (by omega)
            (try rw [show ((3:Int)).toNat=3 from rfl] at hx222_0)
            (try rw [show 3*2=6 from rfl] at hx222_0)
            (try rw [show ((3:Int)).toNat=3 from rfl] at hx222_1)
            (try rw [show 3*2=6 from rfl] at hx222_1)
            replace p222:=eq_true p222;replace q222:=eq_true q222;refine start_ (n:=30) (S:=fun w'=>w'.cell? ad219=some (.int .i64 ((rd_T70 y192 0).f0))∧w'.cell? ⟨ad219.block,ad219.off+1,none⟩=some (.int .i64 ((rd_T70 y192 0).f1))∧w'.cell? ⟨ad219.block,ad219.off+2,none⟩=some (.int .i64 ((rd_T70 y192 1).f0))∧w'.cell? ⟨ad219.block,ad219.off+2+1,none⟩=some (.int .i64 ((rd_T70 y192 1).f1))∧w'.cell? ⟨ad219.block,ad219.off+4,none⟩=some (.int .i64 ((rd_T70 y192 2).f0))∧w'.cell? ⟨ad219.block,ad219.off+4+1,none⟩=some (.int .i64 ((rd_T70 y192 2).f1))∧w'.cell? ⟨ad219.block,ad219.off+6,none⟩=some (.int .i64 ((rd_T70 y192 3).f0))∧w'.cell? ⟨ad219.block,ad219.off+6+1,none⟩=some (.int .i64 ((rd_T70 y192 3).f1))) (ds:=[]) (Array.replicate 30 false) (by kernel_rfl) rfl rfl ⟨hx219_0,hx219_1,hx220_0,hx220_1,hx221_0,hx221_1,hx222_0,hx222_1⟩ (fun hHeld=>?_);refine with_tabW spec_l71Box.tab15 spec_l71Box.bits15 (fun HT_ HW_=>?_);generalize w69.drew=w70 at HO194 HI0 HK HB hx219_0 hx219_1 hx220_0 hx220_1 hx221_0 hx221_1 hx222_0 hx222_1 hHeld ⊢
            refine pu_ HT_ 0 135 (bm 30 1) ?_;refine pu_ HT_ 1 136 (bm 30 3) ?_;refine pu_ HT_ 3 138 (bm 30 11) ?_;refine pu_ HT_ 4 139 (bm 30 27) ?_;refine pu_ HT_ 5 140 (bm 30 59) ?_;refine pu_ HT_ 6 141 (bm 30 123) ?_;refine pu_ HT_ 7 142 (bm 30 251) ?_;refine pu_ HT_ 8 143 (bm 30 507) ?_;refine pu_ HT_ 9 144 (bm 30 1019) ?_;refine pu_ HT_ 10 145 (bm 30 2043) ?_;refine pu_ HT_ 11 146 (bm 30 4091) ?_;refine pu_ HT_ 13 148 (bm 30 12283) ?_;refine pu_ HT_ 14 149 (bm 30 28667) ?_;refine pu_ HT_ 16 151 (bm 30 94203) ?_;refine pu_ HT_ 17 152 (bm 30 225275) ?_;refine pu_ HT_ 18 153 (bm 30 487419) ?_;refine pu_ HT_ 19 154 (bm 30 1011707) ?_;refine pu_ HT_ 20 155 (bm 30 2060283) ?_;refine pu_ HT_ 21 156 (bm 30 4157435) ?_;refine pu_ HT_ 22 157 (bm 30 8351739) ?_;refine pu_ HT_ 23 158 (bm 30 16740347) ?_;refine pu_ HT_ 24 159 (bm 30 33517563) ?_;refine pu_ HT_ 25 160 (bm 30 67071995) ?_;refine pu_ HT_ 26 161 (bm 30 134180859) ?_;refine ta8_ HT_ HW_ 2 137 (bm 30 134180863) hHeld ?_;refine ta8_ HT_ HW_ 12 147 (bm 30 134184959) hHeld ?_;refine ta8_ HT_ HW_ 15 150 (bm 30 134217727) hHeld ?_;refine ta8_ HT_ HW_ 27 162 (bm 30 268435455) hHeld ?_;refine one_ (i:=28) (N:=some 163) (bm 30 536870911) rfl rfl (one_of HT_.out (by kernel_rfl)) (by decide) (fun K hK=>?_)
            refine Kd.R_lit_step k70 _ 70 ?hg (N:=163) ?hd (xs:=([(⟨(rd_T70 y192 0).f0,(rd_T70 y192 0).f1⟩:S70),(⟨wrap64 (a1+(wrap64 (Int.tdiv a3 2))),wrap64 (a2+1)⟩:S70),(⟨(rd_T70 y192 1).f0,(rd_T70 y192 1).f1⟩:S70),(⟨(rd_T70 y192 2).f0,(rd_T70 y192 2).f1⟩:S70),(⟨wrap64 (a1+(wrap64 (Int.tdiv a3 2))),wrap64 ((wrap64 (a2+a4))-1)⟩:S70),(⟨(rd_T70 y192 3).f0,(rd_T70 y192 3).f1⟩:S70)]:List (S70))) (inner:=[.int .i64 ((rd_T70 y192 0).f0),.int .i64 ((rd_T70 y192 0).f1),.int .i64 (wrap64 (a1+(wrap64 (Int.tdiv a3 2)))),.int .i64 (wrap64 (a2+1)),.int .i64 ((rd_T70 y192 1).f0),.int .i64 ((rd_T70 y192 1).f1),.int .i64 ((rd_T70 y192 2).f0),.int .i64 ((rd_T70 y192 2).f1),.int .i64 (wrap64 (a1+(wrap64 (Int.tdiv a3 2)))),.int .i64 (wrap64 ((wrap64 (a2+a4))-1)),.int .i64 ((rd_T70 y192 3).f0),.int .i64 ((rd_T70 y192 3).f1)]) (ok:=fun _=>True) (okp:=fun _=>True) ?hr ?hp (fun _ hk=>hk) trivial (Below.refl _ _) (Nat.le_refl _) (by simp) ?_;(case hd=>rfl);(case hg=>rfl);(case hr=>first | (go_simp;done) | (go_simp;rfl));(case hp=>exact (Reps.c2 (show Kd.M k70 _ _ _ (⟨(rd_T70 y192 0).f0,(rd_T70 y192 0).f1⟩:S70) [.int .i64 ((rd_T70 y192 0).f0),.int .i64 ((rd_T70 y192 0).f1)] from (k70_mkM _ _ _ (⟨(rd_T70 y192 0).f0,(rd_T70 y192 0).f1⟩:S70) )) (Reps.c2 (show Kd.M k70 _ _ _ (⟨wrap64 (a1+(wrap64 (Int.tdiv a3 2))),wrap64 (a2+1)⟩:S70) [.int .i64 (wrap64 (a1+(wrap64 (Int.tdiv a3 2)))),.int .i64 (wrap64 (a2+1))] from (k70_mkM _ _ _ (⟨wrap64 (a1+(wrap64 (Int.tdiv a3 2))),wrap64 (a2+1)⟩:S70) )) (Reps.c2 (show Kd.M k70 _ _ _ (⟨(rd_T70 y192 1).f0,(rd_T70 y192 1).f1⟩:S70) [.int .i64 ((rd_T70 y192 1).f0),.int .i64 ((rd_T70 y192 1).f1)] from (k70_mkM _ _ _ (⟨(rd_T70 y192 1).f0,(rd_T70 y192 1).f1⟩:S70) )) (Reps.c2 (show Kd.M k70 _ _ _ (⟨(rd_T70 y192 2).f0,(rd_T70 y192 2).f1⟩:S70) [.int .i64 ((rd_T70 y192 2).f0),.int .i64 ((rd_T70 y192 2).f1)] from (k70_mkM _ _ _ (⟨(rd_T70 y192 2).f0,(rd_T70 y192 2).f1⟩:S70) )) (Reps.c2 (show Kd.M k70 _ _ _ (⟨wrap64 (a1+(wrap64 (Int.tdiv a3 2))),wrap64 ((wrap64 (a2+a4))-1)⟩:S70) [.int .i64 (wrap64 (a1+(wrap64 (Int.tdiv a3 2)))),.int .i64 (wrap64 ((wrap64 (a2+a4))-1))] from (k70_mkM _ _ _ (⟨wrap64 (a1+(wrap64 (Int.tdiv a3 2))),wrap64 ((wrap64 (a2+a4))-1)⟩:S70) )) (Reps.c2 (show Kd.M k70 _ _ _ (⟨(rd_T70 y192 3).f0,(rd_T70 y192 3).f1⟩:S70) [.int .i64 ((rd_T70 y192 3).f0),.int .i64 ((rd_T70 y192 3).f1)] from (k70_mkM _ _ _ (⟨(rd_T70 y192 3).f0,(rd_T70 y192 3).f1⟩:S70) )) (Reps.none _ _))))))))
            intro v224 w72 ho73 hb hg_ hnew_;have HS0_:=pw_cell_below hb hHeld.1;have HS1_:=pw_cell_below hb hHeld.2.1;have HS2_:=pw_cell_below hb hHeld.2.2.1;have HS3_:=pw_cell_below hb hHeld.2.2.2.1;have HS4_:=pw_cell_below hb hHeld.2.2.2.2.1;have HS5_:=pw_cell_below hb hHeld.2.2.2.2.2.1;have HS6_:=pw_cell_below hb hHeld.2.2.2.2.2.2.1;have HS7_:=pw_cell_below hb hHeld.2.2.2.2.2.2.2;clear hg_ hnew_
            (first | rw [← Ny223.out] at ho73 | (simp only [Int.reduceToNat] at ho73;rw [← Ny223.out] at ho73))
            have HO225:=a0_ (Kd.R_lower (Kd.R_new' ho73 (Kd.R_lt (uR_ HO194))) (keep_size (w:=w) (g:=g) (row:=none) (hK_ HK)));replace HO194:=a0_ (Kd.R_elder' (uR_ HO194) (Kd.R_base ho73) hb);replace HK:=kb_ HK hb;replace HB:=a0_ (below_step hBs_ hb);replace HI0:=a0_ (IsS67.below hI_ hb);clear hb ho73;refine hK.out _ _ ⟨HS0_,HS1_,HS2_,HS3_,HS4_,HS5_,HS6_,HS7_⟩ (fun hHeld=>?_);clear hK K;refine no_ (h:=?_);refine pu_ HT_ 29 10 (bm 30 1073741823) ?_;refine done_ (done_of HT_.out (by kernel_rfl)) ?_
            try go_wp2
            go_ret;exact⟨_,rr_,by (with_reducible repeat (first | apply Kd.R_alloc | apply Kd.R_drewN | apply Kd.R_drew));exact Kd.R_mono HO225.out (fun _ hk=>trivial),by repeat (first | (with_reducible first | exact HI0.out | apply IsS67.alloc | apply IsS67.drewN | apply IsS67.drew | apply IsS67.set_1) | exact HI0.out),by repeat (first | (with_reducible first | exact HB.out | apply below_alloc | apply pw_below_drewN | apply below_drew1 | refine below_set ?_ (IsS67.ge HI0.out)) | exact HB.out),by repeat (first | (with_reducible first | exact HK.out | apply KeepBut.set_ | apply keep_drewN | apply keep_drew | apply keep_alloc) | exact HK.out)⟩
           ·
            rw [if_neg c66] at H;exact absurd H (by simp)
          ·
           rw [if_neg c65] at H;exact absurd H (by simp)
         ·
          rw [if_neg c64] at H;exact absurd H (by simp)
        ·
         rw [if_neg c63] at H;exact absurd H (by simp)
       ·
        rw [if_neg c62] at H;have c62b0:decide (2<a4)=false:=decide_eq_false c62;clear c62;simp only [Option.some.injEq,Prod.mk.injEq] at H;obtain⟨rfl,rfl⟩:=H;go_enter Tryz.func48,Tryz.ntmps48
        go_wp2_with (first | ((with_reducible refine gate_dst (N:=32) rfl ?_);refine Kd.R_lit k70 _ 70 ?hg (N:=32) ?hd (xs:=([(⟨a1,a2⟩:S70),(⟨wrap64 (a1+a3),a2⟩:S70),(⟨wrap64 (a1+a3),wrap64 (a2+a4)⟩:S70),(⟨a1,wrap64 (a2+a4)⟩:S70)]:List (S70))) (inner:=[.int .i64 a1,.int .i64 a2,.int .i64 (wrap64 (a1+a3)),.int .i64 a2,.int .i64 (wrap64 (a1+a3)),.int .i64 (wrap64 (a2+a4)),.int .i64 a1,.int .i64 (wrap64 (a2+a4))]) (ok:=fun _=>True) (okp:=fun _=>True) ?hr ?hp (fun _ hk=>hk) trivial (Below.refl _ _) (Nat.le_refl _) (by simp) ?_;(case hd=>rfl);(case hg=>rfl);(case hr=>first | (go_simp;done) | (go_simp;rfl));(case hp=>exact (Reps.c2 (show Kd.M k70 _ _ _ (⟨a1,a2⟩:S70) [.int .i64 a1,.int .i64 a2] from (k70_mkM _ _ _ (⟨a1,a2⟩:S70) )) (Reps.c2 (show Kd.M k70 _ _ _ (⟨wrap64 (a1+a3),a2⟩:S70) [.int .i64 (wrap64 (a1+a3)),.int .i64 a2] from (k70_mkM _ _ _ (⟨wrap64 (a1+a3),a2⟩:S70) )) (Reps.c2 (show Kd.M k70 _ _ _ (⟨wrap64 (a1+a3),wrap64 (a2+a4)⟩:S70) [.int .i64 (wrap64 (a1+a3)),.int .i64 (wrap64 (a2+a4))] from (k70_mkM _ _ _ (⟨wrap64 (a1+a3),wrap64 (a2+a4)⟩:S70) )) (Reps.c2 (show Kd.M k70 _ _ _ (⟨a1,wrap64 (a2+a4)⟩:S70) [.int .i64 a1,.int .i64 (wrap64 (a2+a4))] from (k70_mkM _ _ _ (⟨a1,wrap64 (a2+a4)⟩:S70) )) (Reps.none _ _))))));intro v193 w74 ho75 hb hg_ hnew_;clear hg_ hnew_;(first | rw [← Ny192.out] at ho75 | (simp only [Int.reduceToNat] at ho75;rw [← Ny192.out] at ho75));have HO194:=a0_ (Kd.R_lower ho75 (keep_size (w:=w) (g:=g) (row:=none) (hK_ HK)));replace HK:=kb_ HK hb;replace HB:=a0_ (below_step hBs_ hb);replace HI0:=a0_ (IsS67.below hI_ hb);clear hb ho75) | ((with_reducible refine gate_callee (f:=13) rfl ?_);refine gL_ (some 34) Tryz.func13 #[.pointer (some ⟨g,0,none⟩),.int .i64 7] (h:=?_);(with_reducible refine (spec_l6Rd_pick.calls k g s0_0 s0_1 7 t195 t196 w0 _ hI_ hBs_ A6.out).mono ?_);rintro e w76 ⟨rfl,hi,hb,hk⟩;refine⟨_,rfl,?_⟩;replace HO194:=a0_ (Kd.R_mono (Kd.R_keep (IsS67.apart (show IsS67 w0 _ g s0_0 s0_1 from hI_) (uR_ HO194) (by decide)) hk (fun _ h=>h.2)) (fun _ h=>h.1));replace HK:=kk_ HK hk;replace HB:=a0_ (hb);replace HI0:=a0_ (hi);(try clear hi hb hk)))
        go_ret;exact⟨_,rr_,by (with_reducible repeat (first | apply Kd.R_alloc | apply Kd.R_drewN | apply Kd.R_drew));exact HO194.out,by repeat (first | (with_reducible first | exact HI0.out | apply IsS67.alloc | apply IsS67.drewN | apply IsS67.drew | apply IsS67.set_1) | exact HI0.out),by repeat (first | (with_reducible first | exact HB.out | apply below_alloc | apply pw_below_drewN | apply below_drew1 | refine below_set ?_ (IsS67.ge HI0.out)) | exact HB.out),by repeat (first | (with_reducible first | exact HK.out | apply KeepBut.set_ | apply keep_drewN | apply keep_drew | apply keep_alloc) | exact HK.out)⟩
      ·
       rw [if_neg c61] at H;have c61b0:decide (2<a3)=false:=decide_eq_false c61;clear c61;simp only [Option.some.injEq,Prod.mk.injEq] at H;obtain⟨rfl,rfl⟩:=H;go_enter Tryz.func48,Tryz.ntmps48
       go_wp2_with (first | ((with_reducible refine gate_dst (N:=32) rfl ?_);refine Kd.R_lit k70 _ 70 ?hg (N:=32) ?hd (xs:=([(⟨a1,a2⟩:S70),(⟨wrap64 (a1+a3),a2⟩:S70),(⟨wrap64 (a1+a3),wrap64 (a2+a4)⟩:S70),(⟨a1,wrap64 (a2+a4)⟩:S70)]:List (S70))) (inner:=[.int .i64 a1,.int .i64 a2,.int .i64 (wrap64 (a1+a3)),.int .i64 a2,.int .i64 (wrap64 (a1+a3)),.int .i64 (wrap64 (a2+a4)),.int .i64 a1,.int .i64 (wrap64 (a2+a4))]) (ok:=fun _=>True) (okp:=fun _=>True) ?hr ?hp (fun _ hk=>hk) trivial (Below.refl _ _) (Nat.le_refl _) (by simp) ?_;(case hd=>rfl);(case hg=>rfl);(case hr=>first | (go_simp;done) | (go_simp;rfl));(case hp=>exact (Reps.c2 (show Kd.M k70 _ _ _ (⟨a1,a2⟩:S70) [.int .i64 a1,.int .i64 a2] from (k70_mkM _ _ _ (⟨a1,a2⟩:S70) )) (Reps.c2 (show Kd.M k70 _ _ _ (⟨wrap64 (a1+a3),a2⟩:S70) [.int .i64 (wrap64 (a1+a3)),.int .i64 a2] from (k70_mkM _ _ _ (⟨wrap64 (a1+a3),a2⟩:S70) )) (Reps.c2 (show Kd.M k70 _ _ _ (⟨wrap64 (a1+a3),wrap64 (a2+a4)⟩:S70) [.int .i64 (wrap64 (a1+a3)),.int .i64 (wrap64 (a2+a4))] from (k70_mkM _ _ _ (⟨wrap64 (a1+a3),wrap64 (a2+a4)⟩:S70) )) (Reps.c2 (show Kd.M k70 _ _ _ (⟨a1,wrap64 (a2+a4)⟩:S70) [.int .i64 a1,.int .i64 (wrap64 (a2+a4))] from (k70_mkM _ _ _ (⟨a1,wrap64 (a2+a4)⟩:S70) )) (Reps.none _ _))))));intro v193 w77 ho78 hb hg_ hnew_;clear hg_ hnew_;(first | rw [← Ny192.out] at ho78 | (simp only [Int.reduceToNat] at ho78;rw [← Ny192.out] at ho78));have HO194:=a0_ (Kd.R_lower ho78 (keep_size (w:=w) (g:=g) (row:=none) (hK_ HK)));replace HK:=kb_ HK hb;replace HB:=a0_ (below_step hBs_ hb);replace HI0:=a0_ (IsS67.below hI_ hb);clear hb ho78) | ((with_reducible refine gate_callee (f:=13) rfl ?_);refine gL_ (some 34) Tryz.func13 #[.pointer (some ⟨g,0,none⟩),.int .i64 7] (h:=?_);(with_reducible refine (spec_l6Rd_pick.calls k g s0_0 s0_1 7 t195 t196 w0 _ hI_ hBs_ A6.out).mono ?_);rintro e w79 ⟨rfl,hi,hb,hk⟩;refine⟨_,rfl,?_⟩;replace HO194:=a0_ (Kd.R_mono (Kd.R_keep (IsS67.apart (show IsS67 w0 _ g s0_0 s0_1 from hI_) (uR_ HO194) (by decide)) hk (fun _ h=>h.2)) (fun _ h=>h.1));replace HK:=kk_ HK hk;replace HB:=a0_ (hb);replace HI0:=a0_ (hi);(try clear hi hb hk)))
       go_ret;exact⟨_,rr_,by (with_reducible repeat (first | apply Kd.R_alloc | apply Kd.R_drewN | apply Kd.R_drew));exact HO194.out,by repeat (first | (with_reducible first | exact HI0.out | apply IsS67.alloc | apply IsS67.drewN | apply IsS67.drew | apply IsS67.set_1) | exact HI0.out),by repeat (first | (with_reducible first | exact HB.out | apply below_alloc | apply pw_below_drewN | apply below_drew1 | refine below_set ?_ (IsS67.ge HI0.out)) | exact HB.out),by repeat (first | (with_reducible first | exact HK.out | apply KeepBut.set_ | apply keep_drewN | apply keep_drew | apply keep_alloc) | exact HK.out)⟩
     ·
      rw [if_neg c60] at H;have c60b0:(t195==4)=false:=beq_eq_false_iff_ne.mpr c60;have c60b1:(t195 != 4)=true:=bne_iff_ne.mpr c60;simp only [Option.some.injEq,Prod.mk.injEq] at H;obtain⟨rfl,rfl⟩:=H;go_enter Tryz.func48,Tryz.ntmps48
      go_wp2_with (first | ((with_reducible refine gate_dst (N:=32) rfl ?_);refine Kd.R_lit k70 _ 70 ?hg (N:=32) ?hd (xs:=([(⟨a1,a2⟩:S70),(⟨wrap64 (a1+a3),a2⟩:S70),(⟨wrap64 (a1+a3),wrap64 (a2+a4)⟩:S70),(⟨a1,wrap64 (a2+a4)⟩:S70)]:List (S70))) (inner:=[.int .i64 a1,.int .i64 a2,.int .i64 (wrap64 (a1+a3)),.int .i64 a2,.int .i64 (wrap64 (a1+a3)),.int .i64 (wrap64 (a2+a4)),.int .i64 a1,.int .i64 (wrap64 (a2+a4))]) (ok:=fun _=>True) (okp:=fun _=>True) ?hr ?hp (fun _ hk=>hk) trivial (Below.refl _ _) (Nat.le_refl _) (by simp) ?_;(case hd=>rfl);(case hg=>rfl);(case hr=>first | (go_simp;done) | (go_simp;rfl));(case hp=>exact (Reps.c2 (show Kd.M k70 _ _ _ (⟨a1,a2⟩:S70) [.int .i64 a1,.int .i64 a2] from (k70_mkM _ _ _ (⟨a1,a2⟩:S70) )) (Reps.c2 (show Kd.M k70 _ _ _ (⟨wrap64 (a1+a3),a2⟩:S70) [.int .i64 (wrap64 (a1+a3)),.int .i64 a2] from (k70_mkM _ _ _ (⟨wrap64 (a1+a3),a2⟩:S70) )) (Reps.c2 (show Kd.M k70 _ _ _ (⟨wrap64 (a1+a3),wrap64 (a2+a4)⟩:S70) [.int .i64 (wrap64 (a1+a3)),.int .i64 (wrap64 (a2+a4))] from (k70_mkM _ _ _ (⟨wrap64 (a1+a3),wrap64 (a2+a4)⟩:S70) )) (Reps.c2 (show Kd.M k70 _ _ _ (⟨a1,wrap64 (a2+a4)⟩:S70) [.int .i64 a1,.int .i64 (wrap64 (a2+a4))] from (k70_mkM _ _ _ (⟨a1,wrap64 (a2+a4)⟩:S70) )) (Reps.none _ _))))));intro v193 w80 ho81 hb hg_ hnew_;clear hg_ hnew_;(first | rw [← Ny192.out] at ho81 | (simp only [Int.reduceToNat] at ho81;rw [← Ny192.out] at ho81));have HO194:=a0_ (Kd.R_lower ho81 (keep_size (w:=w) (g:=g) (row:=none) (hK_ HK)));replace HK:=kb_ HK hb;replace HB:=a0_ (below_step hBs_ hb);replace HI0:=a0_ (IsS67.below hI_ hb);clear hb ho81) | ((with_reducible refine gate_callee (f:=13) rfl ?_);refine gL_ (some 34) Tryz.func13 #[.pointer (some ⟨g,0,none⟩),.int .i64 7] (h:=?_);(with_reducible refine (spec_l6Rd_pick.calls k g s0_0 s0_1 7 t195 t196 w0 _ hI_ hBs_ A6.out).mono ?_);rintro e w82 ⟨rfl,hi,hb,hk⟩;refine⟨_,rfl,?_⟩;replace HO194:=a0_ (Kd.R_mono (Kd.R_keep (IsS67.apart (show IsS67 w0 _ g s0_0 s0_1 from hI_) (uR_ HO194) (by decide)) hk (fun _ h=>h.2)) (fun _ h=>h.1));replace HK:=kk_ HK hk;replace HB:=a0_ (hb);replace HI0:=a0_ (hi);(try clear hi hb hk)))
      go_ret;exact⟨_,rr_,by (with_reducible repeat (first | apply Kd.R_alloc | apply Kd.R_drewN | apply Kd.R_drew));exact HO194.out,by repeat (first | (with_reducible first | exact HI0.out | apply IsS67.alloc | apply IsS67.drewN | apply IsS67.drew | apply IsS67.set_1) | exact HI0.out),by repeat (first | (with_reducible first | exact HB.out | apply below_alloc | apply pw_below_drewN | apply below_drew1 | refine below_set ?_ (IsS67.ge HI0.out)) | exact HB.out),by repeat (first | (with_reducible first | exact HK.out | apply KeepBut.set_ | apply keep_drewN | apply keep_drew | apply keep_alloc) | exact HK.out)⟩
def spec_l3Edges.l0:Nat→List (S70)→List (S83)→Int→Option ((List (S83)))
 | 0,_,_,_=>none
 | k+1,x0,x3,x4=>if x4<(x0.length:Int) then (if 0≤x4 then (if (x0.length:Int)=0 then (none) else (if 0≤(Int.tmod (wrap64 (x4+1)) (x0.length:Int)) then (if (Int.tmod (wrap64 (x4+1)) (x0.length:Int))<(x0.length:Int) then (if x3.length<4398046511104 then (spec_l3Edges.l0 k x0 (x3++[(⟨(⟨(rd_T70 x0 x4).f0,(rd_T70 x0 x4).f1⟩:S70),(⟨(rd_T70 x0 (Int.tmod (wrap64 (x4+1)) (x0.length:Int))).f0,(rd_T70 x0 (Int.tmod (wrap64 (x4+1)) (x0.length:Int))).f1⟩:S70)⟩:S83)]) (wrap64 (x4+1))) else (none)) else (none)) else (none))) else (none)) else (some x3)
def spec_l3Edges.f (k:Nat)(l0:List (S70)):Option ((List (S83))):=spec_l3Edges.l0 k l0 (([]:List (S83))) 0
def spec_l3Edges.T5:Bool × List (List Nat × List Nat):=(true,[([],[]),([],[]),([],[]),([1,2],[1,2]),([3],[3]),([],[]),([],[]),([6],[6]),([],[]),([8],[8]),([7,9],[7,9]),([5,10],[5,10]),([11],[11]),([4,12],[4,12]),([13],[13]),([0,14],[0,14]),([15,15,0,1,2,3,4,5,6,7,8,9,10,11,12,13,14,15],[0,15])])
def spec_l3Edges.B5:List Nat:=[0,0,0,6,14,0,0,64,0,256,960,2016,4064,8190,16382,32767,65535]
theorem spec_l3Edges.tab5:rtab .any (opsOf Tryz.f49 5)=spec_l3Edges.T5:=by kernel_rfl
theorem spec_l3Edges.bits5:waitsOk spec_l3Edges.T5.2 spec_l3Edges.B5=true:=by kernel_rfl
set_option maxHeartbeats 8000000 in
set_option maxRecDepth 100000 in
theorem spec_l3Edges.calls (k:Nat)(A0:Option Addr)(c0:Nat)(l0:List (S70))(r:List (S83))(w:World)(hr0:Kd.C k70 w A0 l0.length l0)(hc0:l0.length≤c0)(h:spec_l3Edges.f k l0=some r):
  Calls Tryz.prog 49 #[.slice A0 l0.length c0] w fun e w'=>∃ v0_:Value,e=.returned (v0_)∧Kd.R k83 83 w' w.heap.size (fun _=>True) v0_ r∧Below w.heap.size w w':=by
 have hu70:=Tryz.underlying70;have hu83:=Tryz.underlying83;have HR0:=Aside0.mk hr0;have HC0:=Aside0.mk hc0;clear hr0 hc0;have HB:=a0_ (Below.refl w.heap.size w);have H:(spec_l3Edges.l0 k l0 (([]:List (S83))) 0)=some r:=h;clear h;obtain⟨y104,hy104⟩:∃ y_:List (S83),y_=(([]:List (S83))):=⟨_,rfl⟩;replace H:(spec_l3Edges.l0 k l0 y104 0)=some r:=by first | (rw [hy104];with_reducible exact H) | (have H2_:=(Option.bind_some _ _).symm.trans H;rw [hy104];with_reducible exact H2_) | (have H2_:=(Option.bind_some _ _).symm.trans H;with_reducible exact H2_) | with_reducible exact H | (rw [hy104];exact H) | exact H
 have Ny104:=Aside0.mk hy104;clear hy104;have H':=Aside0.mk H;clear H;go_enter Tryz.func49,Tryz.ntmps49;go_wp2_with (first | ((with_reducible refine gate_dst (N:=5) rfl ?_);refine Kd.R_lit k83 _ 83 ?hg (N:=5) ?hd (xs:=([]:List (S83))) (inner:=[]) (ok:=fun _=>True) (okp:=fun _=>True) ?hr ?hp (fun _ hk=>hk) trivial (Below.refl _ _) (Nat.le_refl _) (by simp) ?_;(case hd=>rfl);(case hg=>rfl);(case hr=>first | (go_simp;done) | (go_simp;rfl));(case hp=>exact (Reps.none _ _));intro v105 w2 ho3 hb hg_ hnew_;clear hg_ hnew_;(first | rw [← Ny104.out] at ho3 | (simp only [Int.reduceToNat] at ho3;rw [← Ny104.out] at ho3));have HO106:=a0_ (Kd.R_lower ho3 (below_size hB_));replace HB:=sb_ HB hb;clear hb ho3));go_loopg [3,4] k (fun kq v3 v4 w'=>∃ (x3_1:List (S83)) (x4_1:Int),v4=.int .i64 x4_1∧Aside0 (spec_l3Edges.l0 kq l0 x3_1 x4_1=some r)∧Aside0 (kq≤k)∧Aside0 (Kd.R k83 83 w' w.heap.size (fun _=>True) v3 x3_1)∧Aside0 (Below w.heap.size w w'))
 case atStart=>exact⟨(y104),(0),(by first | rfl | (simp;done) | (simp [*];done)),H',⟨Nat.le_refl _⟩,⟨by (with_reducible repeat (first | apply Kd.R_alloc | apply Kd.R_drewN | apply Kd.R_drew));exact HO106.out⟩,⟨hB_⟩⟩
 case round =>
  clear H';obtain⟨x3_1,x4_1,rfl,HA,HK1,HO_3,HB⟩:=hrel
  cases gk with
  | zero=>exact absurd HA.out (by simp [spec_l3Edges.l0])
  | succ k1 =>
   have H:=HA.out;clear HA;simp only [spec_l3Edges.l0] at H;by_cases c4:x4_1<(l0.length:Int)
   ·
    rw [if_pos c4] at H;have c4b0:decide (x4_1<(l0.length:Int))=true:=decide_eq_true c4;clear c4;by_cases c5:0≤x4_1
    ·
     rw [if_pos c5] at H;have c5b0:decide (0≤x4_1)=true:=decide_eq_true c5;clear c5;by_cases c6:(l0.length:Int)=0
     ·
      rw [if_pos c6] at H;exact absurd H (by simp)
     ·
      rw [if_neg c6] at H;have c6b0:((l0.length:Int)==0)=false:=beq_eq_false_iff_ne.mpr c6;have c6b1:((l0.length:Int) != 0)=true:=bne_iff_ne.mpr c6;have c6b2:¬ (l0=[]):=fun h_=>c6 (by rw [h_];rfl)
      obtain⟨ji7,hji7⟩:∃ j_:Int,(Int.tmod (wrap64 (x4_1+1)) (l0.length:Int))=j_:=⟨_,rfl⟩;replace H:(if 0≤(ji7) then (if (ji7)<(l0.length:Int) then (if x3_1.length<4398046511104 then (spec_l3Edges.l0 k1 l0 (x3_1++[(⟨(⟨(rd_T70 l0 x4_1).f0,(rd_T70 l0 x4_1).f1⟩:S70),(⟨(rd_T70 l0 (ji7)).f0,(rd_T70 l0 (ji7)).f1⟩:S70)⟩:S83)]) (wrap64 (x4_1+1))) else (none)) else (none)) else (none))=some r:=by first | (rw [hji7] at H;exact H) | (simp only [hji7] at H ⊢;exact H)
      by_cases c8:0≤(ji7)
      ·
       rw [if_pos c8] at H;have c8b0:decide (0≤(ji7))=true:=decide_eq_true c8;clear c8;by_cases c9:(ji7)<(l0.length:Int)
       ·
        rw [if_pos c9] at H;have c9b0:decide ((ji7)<(l0.length:Int))=true:=decide_eq_true c9;clear c9;by_cases c10:x3_1.length<4398046511104
        ·
         rw [if_pos c10] at H;have LMc10:=Aside0.mk c10;clear c10;obtain⟨y109,hy109⟩:∃ y_:List (S83),y_=(x3_1++[(⟨(⟨(rd_T70 l0 x4_1).f0,(rd_T70 l0 x4_1).f1⟩:S70),(⟨(rd_T70 l0 (ji7)).f0,(rd_T70 l0 (ji7)).f1⟩:S70)⟩:S83)]):=⟨_,rfl⟩;replace H:(spec_l3Edges.l0 k1 l0 y109 (wrap64 (x4_1+1)))=some r:=by first | (rw [hy109];with_reducible exact H) | (have H2_:=(Option.bind_some _ _).symm.trans H;rw [hy109];with_reducible exact H2_) | (have H2_:=(Option.bind_some _ _).symm.trans H;with_reducible exact H2_) | with_reducible exact H | (rw [hy109];exact H) | exact H
         have Ny109:=Aside0.mk hy109;clear hy109;have H':=Aside0.mk H;clear H
         try go_wp2
         replace HO_3:=a0_ (Kd.R_drew HO_3.out);replace HB:=a0_ (below_drew1 HB.out);have p107:0≤(x4_1:Int):=od_;have q107:x4_1<(l0.length:Int):=od_;obtain⟨ad107,e107,hx107_0,hx107_1⟩:=at_T70 HR0.out x4_1 p107 q107;have hw107_1:=hx107_1;have hw107_0:=hx107_0;cases e107;replace hx107_0:=ce_ HB hx107_0;replace hx107_1:=ce_ HB hx107_1;replace p107:=eq_true p107;replace q107:=eq_true q107;have p108:0≤((ji7):Int):=od_;have q108:(ji7)<(l0.length:Int):=od_;obtain⟨ad108,e108,hx108_0,hx108_1⟩:=at_T70 HR0.out (ji7) p108 q108;have hw108_1:=hx108_1;have hw108_0:=hx108_0;obtain rfl:ad107=ad108:=(by injection e108);replace hx108_0:=ce_ HB hx108_0;replace hx108_1:=ce_ HB hx108_1;replace p108:=eq_true p108;replace q108:=eq_true q108;refine start_ (n:=17) (S:=fun w'=>w'.cell? (ad107.add ((x4_1).toNat*2))=some (.int .i64 ((rd_T70 l0 x4_1).f0))∧w'.cell? ⟨(ad107.add ((x4_1).toNat*2)).block,(ad107.add ((x4_1).toNat*2)).off+1,none⟩=some (.int .i64 ((rd_T70 l0 x4_1).f1))∧w'.cell? (ad107.add (((ji7)).toNat*2))=some (.int .i64 ((rd_T70 l0 (ji7)).f0))∧w'.cell? ⟨(ad107.add (((ji7)).toNat*2)).block,(ad107.add (((ji7)).toNat*2)).off+1,none⟩=some (.int .i64 ((rd_T70 l0 (ji7)).f1))) (ds:=[]) (Array.replicate 17 false) (by kernel_rfl) rfl rfl ⟨(ce_ HB hw107_0),(ce_ HB hw107_1),(ce_ HB hw108_0),(ce_ HB hw108_1)⟩ (fun hHeld=>?_);refine with_tabW spec_l3Edges.tab5 spec_l3Edges.bits5 (fun HT_ HW_=>?_);generalize wr.drew=w11 at HO_3 HB hx107_0 hx107_1 hx108_0 hx108_1 hHeld ⊢
         refine pu_ HT_ 0 12 (bm 17 1) ?_;refine pu_ HT_ 1 13 (bm 17 3) ?_;refine pu_ HT_ 2 14 (bm 17 7) ?_;refine pu_ HT_ 3 15 (bm 17 15) ?_;refine pu_ HT_ 5 17 (bm 17 47) ?_;refine pu_ HT_ 6 18 (bm 17 111) ?_;refine pu_ HT_ 7 19 (bm 17 239) ?_;refine pu_ HT_ 8 20 (bm 17 495) ?_;refine pu_ HT_ 9 21 (bm 17 1007) ?_;refine pu_ HT_ 10 22 (bm 17 2031) ?_;refine pu_ HT_ 11 23 (bm 17 4079) ?_;refine ta4_ HT_ HW_ 4 16 (bm 17 4095) hHeld ?_;refine ta4_ HT_ HW_ 12 24 (bm 17 8191) hHeld ?_;refine pu_ HT_ 13 25 (bm 17 16383) ?_;refine one_ (i:=14) (N:=some 26) (bm 17 32767) rfl rfl (one_of HT_.out (by kernel_rfl)) (by decide) (fun K hK=>?_);refine value_ (w1:=?_) (v:=?_) (by rfl) rfl ?_ ?_;rotate_left 2
         ·
          go_simp;constructor
          ·
           rfl
          ·
           rfl
         refine hK.out _ _ ⟨(World.cell?_alloc_lt _ _ _ (World.block_lt_of_cell? _ _ ((ce_ HB hw107_0)))).trans ((ce_ HB hw107_0)),(World.cell?_alloc_lt _ _ _ (World.block_lt_of_cell? _ _ ((ce_ HB hw107_1)))).trans ((ce_ HB hw107_1)),(World.cell?_alloc_lt _ _ _ (World.block_lt_of_cell? _ _ ((ce_ HB hw108_0)))).trans ((ce_ HB hw108_0)),(World.cell?_alloc_lt _ _ _ (World.block_lt_of_cell? _ _ ((ce_ HB hw108_1)))).trans ((ce_ HB hw108_1))⟩ (fun hHeld=>?_);clear hK K;refine no_ (h:=?_);refine one_ (i:=15) (N:=some 27) (bm 17 65535) rfl rfl (one_of HT_.out (by kernel_rfl)) (by decide) (fun K hK=>?_);refine Kd.R_append_step k83 (w0:=w) w.heap.size (by rfl) (.tmp 12) (.tmp 26) 56 83 (.agg #[(.int .i64 0),(.int .i64 0),(.int .i64 0),(.int .i64 0)]) 32 rfl Tryz.underlying56 info83 rfl (by decide) (by omega) u3 x3_1 (⟨(⟨(rd_T70 l0 x4_1).f0,(rd_T70 l0 x4_1).f1⟩:S70),(⟨(rd_T70 l0 (ji7)).f0,(rd_T70 l0 (ji7)).f1⟩:S70)⟩:S83) [.int .i64 ((rd_T70 l0 x4_1).f0),.int .i64 ((rd_T70 l0 x4_1).f1),.int .i64 ((rd_T70 l0 (ji7)).f0),.int .i64 ((rd_T70 l0 (ji7)).f1)] (fun _=>True) (fun _=>False) rfl rfl ?aP (fun _ hk=>hk.elim) ?aF ?aO ?aB ?aS ?aL ?_
         (case aP=>exact k83_mkM _ _ _ (⟨(⟨(rd_T70 l0 x4_1).f0,(rd_T70 l0 x4_1).f1⟩:S70),(⟨(rd_T70 l0 (ji7)).f0,(rd_T70 l0 (ji7)).f1⟩:S70)⟩:S83))
         (case aB=>exact hB_)
         (case aF=>exact (fun _ _=>trivial))
         (case aO=>exact (uR_ HO_3))
         (case aS=>exact (below_size hB_))
         (case aL=>have:=LMc10.out;omega)
         intro v110 w12 ho hb hg hat;rw [← Ny109.out] at ho;have HO111:=a0_ (ho);replace HB:=a0_ (hb);clear HO_3;clear ho hb hg hat;refine hK.out _ _ ⟨(ce_ HB hw107_0),(ce_ HB hw107_1),(ce_ HB hw108_0),(ce_ HB hw108_1)⟩ (fun hHeld=>?_);clear hK K;refine no_ (h:=?_);refine pu_ HT_ 16 3 (bm 17 131071) ?_;refine done_ (done_of HT_.out (by kernel_rfl)) ?_
         try go_wp2
         go_roundg k1
         case measure=>have:=HK1.out;omega
         case rel=>exact⟨(y109),(wrap64 (x4_1+1)),(by first | rfl | (simp;done) | (simp [*];done)),H',⟨by have:=HK1.out;omega⟩,⟨by (with_reducible repeat (first | apply Kd.R_alloc | apply Kd.R_drewN | apply Kd.R_drew));exact HO111.out⟩,⟨hB_⟩⟩
        ·
         rw [if_neg c10] at H;exact absurd H (by simp)
       ·
        rw [if_neg c9] at H;exact absurd H (by simp)
      ·
       rw [if_neg c8] at H;exact absurd H (by simp)
    ·
     rw [if_neg c5] at H;exact absurd H (by simp)
   ·
    rw [if_neg c4] at H;have c4b0:decide (x4_1<(l0.length:Int))=false:=decide_eq_false c4;clear c4;obtain rfl:=Option.some.inj H;go_wp2;go_ret;exact⟨_,rr_,by (with_reducible repeat (first | apply Kd.R_alloc | apply Kd.R_drewN | apply Kd.R_drew));exact HO_3.out,hB_⟩
def spec_l2Meet.f (a0_0:Int)(a0_1:Int)(a0_2:Int)(a0_3:Int)(a1_0:Int)(a1_1:Int)(a1_2:Int)(a1_3:Int):Option (Bool):=(spec_l2Cross.f a0_0 a0_1 a0_2 a0_3 a1_0 a1_1).bind fun t132=>((spec_l2Sign.f t132).bind fun t133=>((spec_l2Cross.f a0_0 a0_1 a0_2 a0_3 a1_2 a1_3).bind fun t134=>((spec_l2Sign.f t134).bind fun t135=>((spec_l2Cross.f a1_0 a1_1 a1_2 a1_3 a0_0 a0_1).bind fun t136=>((spec_l2Sign.f t136).bind fun t137=>((spec_l2Cross.f a1_0 a1_1 a1_2 a1_3 a0_2 a0_3).bind fun t138=>((spec_l2Sign.f t138).bind fun t139=>(if (wrap64 (t133*t135))<0 then (if (wrap64 (t137*t139))<0 then (some true) else ((spec_l2Has.f a0_0 a0_1 a0_2 a0_3 a1_0 a1_1).bind fun t140=>(if t140=true then (some true) else ((spec_l2Has.f a0_0 a0_1 a0_2 a0_3 a1_2 a1_3).bind fun t141=>(if t141=true then (some true) else ((spec_l2Has.f a1_0 a1_1 a1_2 a1_3 a0_0 a0_1).bind fun t142=>(if t142=true then (some true) else ((spec_l2Has.f a1_0 a1_1 a1_2 a1_3 a0_2 a0_3).bind fun t143=>(some t143))))))))) else ((spec_l2Has.f a0_0 a0_1 a0_2 a0_3 a1_0 a1_1).bind fun t144=>(if t144=true then (some true) else ((spec_l2Has.f a0_0 a0_1 a0_2 a0_3 a1_2 a1_3).bind fun t145=>(if t145=true then (some true) else ((spec_l2Has.f a1_0 a1_1 a1_2 a1_3 a0_0 a0_1).bind fun t146=>(if t146=true then (some true) else ((spec_l2Has.f a1_0 a1_1 a1_2 a1_3 a0_2 a0_3).bind fun t147=>(some t147))))))))))))))))
def spec_l2Meet.T1:Bool × List (List Nat × List Nat):=(true,[([],[]),([0],[0]),([],[]),([2],[2]),([],[]),([4],[4]),([1,3,5],[1,3,5]),([6,6],[6]),([],[]),([8],[8]),([],[]),([10],[10]),([],[]),([12],[12]),([9,11,13,7],[9,11,13]),([14,14],[14]),([7,15],[7,15]),([16,15,0,1,2,3,4,5,6,7,8,9,10,11,12,13,14,15,16],[16])])
def spec_l2Meet.B1:List Nat:=[0,1,0,4,0,16,63,127,0,256,0,1024,0,4096,16383,32767,65535,131071]
theorem spec_l2Meet.tab1:rtab .any (opsOf Tryz.f52 1)=spec_l2Meet.T1:=by kernel_rfl
theorem spec_l2Meet.bits1:waitsOk spec_l2Meet.T1.2 spec_l2Meet.B1=true:=by kernel_rfl
def spec_l2Meet.T2:Bool × List (List Nat × List Nat):=(true,[([],[]),([0],[0]),([],[]),([2],[2]),([],[]),([4],[4]),([1,3,5],[1,3,5]),([6,6],[6]),([],[]),([8],[8]),([],[]),([10],[10]),([],[]),([12],[12]),([9,11,13,7],[9,11,13]),([14,14],[14]),([7,15],[7,15]),([16,15,0,1,2,3,4,5,6,7,8,9,10,11,12,13,14,15,16],[16])])
def spec_l2Meet.B2:List Nat:=[0,1,0,4,0,16,63,127,0,256,0,1024,0,4096,16383,32767,65535,131071]
theorem spec_l2Meet.tab2:rtab .any (opsOf Tryz.f52 2)=spec_l2Meet.T2:=by kernel_rfl
theorem spec_l2Meet.bits2:waitsOk spec_l2Meet.T2.2 spec_l2Meet.B2=true:=by kernel_rfl
set_option maxHeartbeats 8000000 in
set_option maxRecDepth 100000 in
theorem spec_l2Meet.calls (a0_0:Int)(a0_1:Int)(a0_2:Int)(a0_3:Int)(a1_0:Int)(a1_1:Int)(a1_2:Int)(a1_3:Int)(r:Bool)(w:World)(h:spec_l2Meet.f a0_0 a0_1 a0_2 a0_3 a1_0 a1_1 a1_2 a1_3=some r):
  Calls Tryz.prog 52 #[.agg #[.int .i64 a0_0,.int .i64 a0_1,.int .i64 a0_2,.int .i64 a0_3],.agg #[.int .i64 a1_0,.int .i64 a1_1,.int .i64 a1_2,.int .i64 a1_3]] w fun e w'=>e=.returned (.bool r)∧Below w.heap.size w w':=by
 have hu83:=Tryz.underlying83;have hu70:=Tryz.underlying70;have HB:=a0_ (Below.refl w.heap.size w);have H:((spec_l2Cross.f a0_0 a0_1 a0_2 a0_3 a1_0 a1_1).bind fun t132=>((spec_l2Sign.f t132).bind fun t133=>((spec_l2Cross.f a0_0 a0_1 a0_2 a0_3 a1_2 a1_3).bind fun t134=>((spec_l2Sign.f t134).bind fun t135=>((spec_l2Cross.f a1_0 a1_1 a1_2 a1_3 a0_0 a0_1).bind fun t136=>((spec_l2Sign.f t136).bind fun t137=>((spec_l2Cross.f a1_0 a1_1 a1_2 a1_3 a0_2 a0_3).bind fun t138=>((spec_l2Sign.f t138).bind fun t139=>(if (wrap64 (t133*t135))<0 then (if (wrap64 (t137*t139))<0 then (some true) else ((spec_l2Has.f a0_0 a0_1 a0_2 a0_3 a1_0 a1_1).bind fun t140=>(if t140=true then (some true) else ((spec_l2Has.f a0_0 a0_1 a0_2 a0_3 a1_2 a1_3).bind fun t141=>(if t141=true then (some true) else ((spec_l2Has.f a1_0 a1_1 a1_2 a1_3 a0_0 a0_1).bind fun t142=>(if t142=true then (some true) else ((spec_l2Has.f a1_0 a1_1 a1_2 a1_3 a0_2 a0_3).bind fun t143=>(some t143))))))))) else ((spec_l2Has.f a0_0 a0_1 a0_2 a0_3 a1_0 a1_1).bind fun t144=>(if t144=true then (some true) else ((spec_l2Has.f a0_0 a0_1 a0_2 a0_3 a1_2 a1_3).bind fun t145=>(if t145=true then (some true) else ((spec_l2Has.f a1_0 a1_1 a1_2 a1_3 a0_0 a0_1).bind fun t146=>(if t146=true then (some true) else ((spec_l2Has.f a1_0 a1_1 a1_2 a1_3 a0_2 a0_3).bind fun t147=>(some t147)))))))))))))))))=some r:=h;clear h;replace H:=Option.bind_eq_some_iff.mp H;obtain⟨t132,A30,H⟩:=H
 (try dsimp only at H)
 have A3:=Aside0.mk A30;clear A30;replace H:=Option.bind_eq_some_iff.mp H;obtain⟨t133,A40,H⟩:=H
 (try dsimp only at H)
 have A4:=Aside0.mk A40;clear A40;replace H:=Option.bind_eq_some_iff.mp H;obtain⟨t134,A50,H⟩:=H
 (try dsimp only at H)
 have A5:=Aside0.mk A50;clear A50;replace H:=Option.bind_eq_some_iff.mp H;obtain⟨t135,A60,H⟩:=H
 (try dsimp only at H)
 have A6:=Aside0.mk A60;clear A60;replace H:=Option.bind_eq_some_iff.mp H;obtain⟨t136,A70,H⟩:=H
 (try dsimp only at H)
 have A7:=Aside0.mk A70;clear A70;replace H:=Option.bind_eq_some_iff.mp H;obtain⟨t137,A80,H⟩:=H
 (try dsimp only at H)
 have A8:=Aside0.mk A80;clear A80;replace H:=Option.bind_eq_some_iff.mp H;obtain⟨t138,A90,H⟩:=H
 (try dsimp only at H)
 have A9:=Aside0.mk A90;clear A90;replace H:=Option.bind_eq_some_iff.mp H;obtain⟨t139,A100,H⟩:=H
 (try dsimp only at H)
 have A10:=Aside0.mk A100;clear A100;go_enter Tryz.func52,Tryz.ntmps52
 try go_wp2_with (first | ((with_reducible refine gate_dst (N:=2) rfl ?_);refine bx_ (N:=2) (cs:=#[.int .i64 a0_0,.int .i64 a0_1,.int .i64 a0_2,.int .i64 a0_3]) (t:=83) (h:=?_);intro gb130 hg w13 hbox hb;have BK130:=a0_ (hbox);have GW130:=gh_ HB hg;have GE130:=gh_ HB hg;replace HB:=sb_ HB hb;clear hb hbox hg) | ((with_reducible refine gate_dst (N:=3) rfl ?_);refine bx_ (N:=3) (cs:=#[.int .i64 a1_0,.int .i64 a1_1,.int .i64 a1_2,.int .i64 a1_3]) (t:=83) (h:=?_);intro gb131 hg w14 hbox hb;have BK131:=a0_ (hbox);have GW131:=gh_ HB hg;have GE131:=gh_ HB hg;have NB130_131:=nl_ BK130 hg;have NB131_130:=nr_ BK130 hg;replace BK130:=vb_ BK130 hb;replace HB:=sb_ HB hb;clear hb hbox hg))
 replace BK130:=a0_ (blk_drew BK130.out);replace BK131:=a0_ (blk_drew BK131.out);replace HB:=a0_ (below_drew1 HB.out);refine start_ (n:=18) (S:=fun w'=>w'.cell? ⟨gb130,0,none⟩=some (.int .i64 a0_0)∧w'.cell? ⟨gb130,1,none⟩=some (.int .i64 a0_1)∧w'.cell? ⟨gb130,2,none⟩=some (.int .i64 a0_2)∧w'.cell? ⟨gb130,3,none⟩=some (.int .i64 a0_3)∧w'.cell? ⟨gb131,0,none⟩=some (.int .i64 a1_0)∧w'.cell? ⟨gb131,1,none⟩=some (.int .i64 a1_1)∧w'.cell? ⟨gb131,2,none⟩=some (.int .i64 a1_2)∧w'.cell? ⟨gb131,3,none⟩=some (.int .i64 a1_3)) (ds:=[]) (Array.replicate 18 false) (by kernel_rfl) rfl rfl ⟨bc_,bc_,bc_,bc_,bc_,bc_,bc_,bc_⟩ (fun hHeld=>?_);refine with_tabW spec_l2Meet.tab1 spec_l2Meet.bits1 (fun HT_ HW_=>?_);generalize w14.drew=w15 at BK130 BK131 HB hHeld ⊢
 refine pu_ HT_ 0 7 (bm 18 1) ?_;refine pu_ HT_ 2 9 (bm 18 5) ?_;refine pu_ HT_ 4 11 (bm 18 21) ?_;refine pu_ HT_ 8 15 (bm 18 277) ?_;refine pu_ HT_ 10 17 (bm 18 1301) ?_;refine pu_ HT_ 12 19 (bm 18 5397) ?_;refine ta8_ HT_ HW_ 1 8 (bm 18 5399) hHeld ?_;refine ta8_ HT_ HW_ 3 10 (bm 18 5407) hHeld ?_;refine ta8_ HT_ HW_ 5 12 (bm 18 5439) hHeld ?_;refine ta8_ HT_ HW_ 9 16 (bm 18 5951) hHeld ?_;refine ta8_ HT_ HW_ 11 18 (bm 18 7999) hHeld ?_;refine ta8_ HT_ HW_ 13 20 (bm 18 16191) hHeld ?_;refine one_ (i:=6) (N:=some 13) (bm 18 16255) rfl rfl (one_of HT_.out (by kernel_rfl)) (by decide) (fun K hK=>?_);refine goes_ Tryz.func53 (by kernel_rfl) rfl #[.agg #[.int .i64 a0_0,.int .i64 a0_1],.agg #[.int .i64 a0_2,.int .i64 a0_3],.agg #[.int .i64 a1_0,.int .i64 a1_1]] (by rfl) rfl rfl ma_ ?_
 with_reducible refine (spec_l2Cross.calls a0_0 a0_1 a0_2 a0_3 a1_0 a1_1 t132 _ A3.out).mono ?_
 rintro e w16 ⟨rfl,hb⟩;refine⟨_,rfl,?_⟩;replace BK130:=vb_ BK130 hb;replace BK131:=vb_ BK131 hb;replace HB:=sb_ HB hb
 (try clear hb)
 (try clear hb2)
 (try clear hk)
 (try clear hi)
 refine hK.out _ _ ⟨bc_,bc_,bc_,bc_,bc_,bc_,bc_,bc_⟩ (fun hHeld=>?_);clear hK K;refine no_ (h:=?_);refine one_ (i:=7) (N:=some 14) (bm 18 16383) rfl rfl (one_of HT_.out (by kernel_rfl)) (by decide) (fun K hK=>?_);refine goes_ Tryz.func70 (by kernel_rfl) rfl #[.int .i64 t132] (by rfl) rfl rfl ma_ ?_
 with_reducible refine (spec_l2Sign.calls t132 t133 _ A4.out).mono ?_
 rintro e w' ⟨rfl,⟨nd,rfl⟩⟩;refine⟨_,rfl,?_⟩;refine hK.out _ _ ⟨bc_,bc_,bc_,bc_,bc_,bc_,bc_,bc_⟩ (fun hHeld=>?_);clear hK K;refine no_ (h:=?_);refine one_ (i:=14) (N:=some 21) (bm 18 32767) rfl rfl (one_of HT_.out (by kernel_rfl)) (by decide) (fun K hK=>?_);refine goes_ Tryz.func53 (by kernel_rfl) rfl #[.agg #[.int .i64 a0_0,.int .i64 a0_1],.agg #[.int .i64 a0_2,.int .i64 a0_3],.agg #[.int .i64 a1_2,.int .i64 a1_3]] (by rfl) rfl rfl ma_ ?_
 with_reducible refine (spec_l2Cross.calls a0_0 a0_1 a0_2 a0_3 a1_2 a1_3 t134 _ A5.out).mono ?_
 rintro e w17 ⟨rfl,hb⟩;refine⟨_,rfl,?_⟩;replace BK130:=vb_ BK130 hb;replace BK131:=vb_ BK131 hb;replace HB:=sb_ HB hb
 (try clear hb)
 (try clear hb2)
 (try clear hk)
 (try clear hi)
 refine hK.out _ _ ⟨bc_,bc_,bc_,bc_,bc_,bc_,bc_,bc_⟩ (fun hHeld=>?_);clear hK K;refine no_ (h:=?_);refine one_ (i:=15) (N:=some 22) (bm 18 65535) rfl rfl (one_of HT_.out (by kernel_rfl)) (by decide) (fun K hK=>?_);refine goes_ Tryz.func70 (by kernel_rfl) rfl #[.int .i64 t134] (by rfl) rfl rfl ma_ ?_
 with_reducible refine (spec_l2Sign.calls t134 t135 _ A6.out).mono ?_
 rintro e w' ⟨rfl,⟨nd,rfl⟩⟩;refine⟨_,rfl,?_⟩;refine hK.out _ _ ⟨bc_,bc_,bc_,bc_,bc_,bc_,bc_,bc_⟩ (fun hHeld=>?_);clear hK K;refine no_ (h:=?_);refine pu_ HT_ 16 23 (bm 18 131071) ?_;refine pu_ HT_ 17 5 (bm 18 262143) ?_;refine done_ (done_of HT_.out (by kernel_rfl)) ?_
 try go_wp2
 (try (rw [drewN_self w17];generalize hq_:World.drewN w17 _=w17;have n0_:Aside0 (w17.heap[gb130]?=some (.cells #[.int .i64 a0_0,.int .i64 a0_1,.int .i64 a0_2,.int .i64 a0_3] 83 (0,0))):=⟨by rw [← hq_];exact uq_⟩;have n1_:Aside0 (w17.heap[gb131]?=some (.cells #[.int .i64 a1_0,.int .i64 a1_1,.int .i64 a1_2,.int .i64 a1_3] 83 (0,0))):=⟨by rw [← hq_];exact uq_⟩;have n2_:Aside0 (Below w.heap.size w w17):=⟨by rw [← hq_];exact hB_⟩;clear BK130 BK131 HB hq_;have BK130:=n0_;have BK131:=n1_;have HB:=n2_;clear n0_ n1_ n2_))
 replace BK130:=a0_ (blk_drew BK130.out);replace BK131:=a0_ (blk_drew BK131.out);replace HB:=a0_ (below_drew1 HB.out);refine start_ (n:=18) (S:=fun w'=>w'.cell? ⟨gb131,0,none⟩=some (.int .i64 a1_0)∧w'.cell? ⟨gb131,1,none⟩=some (.int .i64 a1_1)∧w'.cell? ⟨gb131,2,none⟩=some (.int .i64 a1_2)∧w'.cell? ⟨gb131,3,none⟩=some (.int .i64 a1_3)∧w'.cell? ⟨gb130,0,none⟩=some (.int .i64 a0_0)∧w'.cell? ⟨gb130,1,none⟩=some (.int .i64 a0_1)∧w'.cell? ⟨gb130,2,none⟩=some (.int .i64 a0_2)∧w'.cell? ⟨gb130,3,none⟩=some (.int .i64 a0_3)) (ds:=[]) (Array.replicate 18 false) (by kernel_rfl) rfl rfl ⟨bc_,bc_,bc_,bc_,bc_,bc_,bc_,bc_⟩ (fun hHeld=>?_);refine with_tabW spec_l2Meet.tab2 spec_l2Meet.bits2 (fun HT_ HW_=>?_);generalize w17.drew=w18 at BK130 BK131 HB hHeld ⊢
 refine pu_ HT_ 0 24 (bm 18 1) ?_;refine pu_ HT_ 2 26 (bm 18 5) ?_;refine pu_ HT_ 4 28 (bm 18 21) ?_;refine pu_ HT_ 8 32 (bm 18 277) ?_;refine pu_ HT_ 10 34 (bm 18 1301) ?_;refine pu_ HT_ 12 36 (bm 18 5397) ?_;refine ta8_ HT_ HW_ 1 25 (bm 18 5399) hHeld ?_;refine ta8_ HT_ HW_ 3 27 (bm 18 5407) hHeld ?_;refine ta8_ HT_ HW_ 5 29 (bm 18 5439) hHeld ?_;refine ta8_ HT_ HW_ 9 33 (bm 18 5951) hHeld ?_;refine ta8_ HT_ HW_ 11 35 (bm 18 7999) hHeld ?_;refine ta8_ HT_ HW_ 13 37 (bm 18 16191) hHeld ?_;refine one_ (i:=6) (N:=some 30) (bm 18 16255) rfl rfl (one_of HT_.out (by kernel_rfl)) (by decide) (fun K hK=>?_);refine goes_ Tryz.func53 (by kernel_rfl) rfl #[.agg #[.int .i64 a1_0,.int .i64 a1_1],.agg #[.int .i64 a1_2,.int .i64 a1_3],.agg #[.int .i64 a0_0,.int .i64 a0_1]] (by rfl) rfl rfl ma_ ?_
 with_reducible refine (spec_l2Cross.calls a1_0 a1_1 a1_2 a1_3 a0_0 a0_1 t136 _ A7.out).mono ?_
 rintro e w19 ⟨rfl,hb⟩;refine⟨_,rfl,?_⟩;replace BK130:=vb_ BK130 hb;replace BK131:=vb_ BK131 hb;replace HB:=sb_ HB hb
 (try clear hb)
 (try clear hb2)
 (try clear hk)
 (try clear hi)
 refine hK.out _ _ ⟨bc_,bc_,bc_,bc_,bc_,bc_,bc_,bc_⟩ (fun hHeld=>?_);clear hK K;refine no_ (h:=?_);refine one_ (i:=7) (N:=some 31) (bm 18 16383) rfl rfl (one_of HT_.out (by kernel_rfl)) (by decide) (fun K hK=>?_);refine goes_ Tryz.func70 (by kernel_rfl) rfl #[.int .i64 t136] (by rfl) rfl rfl ma_ ?_
 with_reducible refine (spec_l2Sign.calls t136 t137 _ A8.out).mono ?_
 rintro e w' ⟨rfl,⟨nd,rfl⟩⟩;refine⟨_,rfl,?_⟩;refine hK.out _ _ ⟨bc_,bc_,bc_,bc_,bc_,bc_,bc_,bc_⟩ (fun hHeld=>?_);clear hK K;refine no_ (h:=?_);refine one_ (i:=14) (N:=some 38) (bm 18 32767) rfl rfl (one_of HT_.out (by kernel_rfl)) (by decide) (fun K hK=>?_);refine goes_ Tryz.func53 (by kernel_rfl) rfl #[.agg #[.int .i64 a1_0,.int .i64 a1_1],.agg #[.int .i64 a1_2,.int .i64 a1_3],.agg #[.int .i64 a0_2,.int .i64 a0_3]] (by rfl) rfl rfl ma_ ?_
 with_reducible refine (spec_l2Cross.calls a1_0 a1_1 a1_2 a1_3 a0_2 a0_3 t138 _ A9.out).mono ?_
 rintro e w20 ⟨rfl,hb⟩;refine⟨_,rfl,?_⟩;replace BK130:=vb_ BK130 hb;replace BK131:=vb_ BK131 hb;replace HB:=sb_ HB hb
 (try clear hb)
 (try clear hb2)
 (try clear hk)
 (try clear hi)
 refine hK.out _ _ ⟨bc_,bc_,bc_,bc_,bc_,bc_,bc_,bc_⟩ (fun hHeld=>?_);clear hK K;refine no_ (h:=?_);refine one_ (i:=15) (N:=some 39) (bm 18 65535) rfl rfl (one_of HT_.out (by kernel_rfl)) (by decide) (fun K hK=>?_);refine goes_ Tryz.func70 (by kernel_rfl) rfl #[.int .i64 t138] (by rfl) rfl rfl ma_ ?_
 with_reducible refine (spec_l2Sign.calls t138 t139 _ A10.out).mono ?_
 rintro e w' ⟨rfl,⟨nd,rfl⟩⟩;refine⟨_,rfl,?_⟩;refine hK.out _ _ ⟨bc_,bc_,bc_,bc_,bc_,bc_,bc_,bc_⟩ (fun hHeld=>?_);clear hK K;refine no_ (h:=?_);refine pu_ HT_ 16 40 (bm 18 131071) ?_;refine pu_ HT_ 17 6 (bm 18 262143) ?_;refine done_ (done_of HT_.out (by kernel_rfl)) ?_;by_cases c11:(wrap64 (t133*t135))<0
 ·
  rw [if_pos c11] at H;have c11b0:decide ((wrap64 (t133*t135))<0)=true:=decide_eq_true c11;clear c11;by_cases c12:(wrap64 (t137*t139))<0
  ·
   rw [if_pos c12] at H;have c12b0:decide ((wrap64 (t137*t139))<0)=true:=decide_eq_true c12;clear c12;obtain rfl:=Option.some.inj H
   try go_wp2
   go_ret;exact⟨rr_,hB_⟩
  ·
   rw [if_neg c12] at H;have c12b0:decide ((wrap64 (t137*t139))<0)=false:=decide_eq_false c12;clear c12;replace H:=Option.bind_eq_some_iff.mp H;obtain⟨t140,A210,H⟩:=H
   (try dsimp only at H)
   have A21:=Aside0.mk A210;clear A210;by_cases c22:t140=true
   ·
    subst c22;rw [if_pos rfl] at H
    (try dsimp only at H)
    obtain rfl:=Option.some.inj H;have hnb31:=NB130_131.out;have hnc31:=NB131_130.out;have hcz32_0:=c40_ BK130;have hcz32_1:=c41_ BK130;have hcz32_2:=c42_ BK130;have hcz32_3:=c43_ BK130;have hfz32_0:=fz_ BK130 0;have hfz32_1:=fz_ BK130 1;have hfz32_2:=fz_ BK130 2;have hfz32_3:=fz_ BK130 3;have hcz33_0:=c40_ BK131;have hcz33_1:=c41_ BK131;have hcz33_2:=c42_ BK131;have hcz33_3:=c43_ BK131;have hfz33_0:=fz_ BK131 0;have hfz33_1:=fz_ BK131 1;have hfz33_2:=fz_ BK131 2;have hfz33_3:=fz_ BK131 3
    try go_wp2_with (first | (go_at_call 51;(with_reducible refine (spec_l2Has.calls a0_0 a0_1 a0_2 a0_3 a1_0 a1_1 true _ A21.out).mono ?_);rintro e w34 ⟨rfl,hb⟩;replace BK130:=vb_ BK130 hb;replace BK131:=vb_ BK131 hb;replace HB:=sb_ HB hb;(try clear hb)))
    go_ret;exact⟨rr_,hB_⟩
   ·
    replace c22:=Bool.eq_false_iff.mpr c22;subst c22;rw [if_neg (show ¬ (false=true) by decide)] at H
    (try dsimp only at H)
    replace H:=Option.bind_eq_some_iff.mp H;obtain⟨t141,A350,H⟩:=H
    (try dsimp only at H)
    have A35:=Aside0.mk A350;clear A350;by_cases c36:t141=true
    ·
     subst c36;rw [if_pos rfl] at H
     (try dsimp only at H)
     obtain rfl:=Option.some.inj H;have hnb45:=NB130_131.out;have hnc45:=NB131_130.out;have hcz46_0:=c40_ BK130;have hcz46_1:=c41_ BK130;have hcz46_2:=c42_ BK130;have hcz46_3:=c43_ BK130;have hfz46_0:=fz_ BK130 0;have hfz46_1:=fz_ BK130 1;have hfz46_2:=fz_ BK130 2;have hfz46_3:=fz_ BK130 3;have hcz47_0:=c40_ BK131;have hcz47_1:=c41_ BK131;have hcz47_2:=c42_ BK131;have hcz47_3:=c43_ BK131;have hfz47_0:=fz_ BK131 0;have hfz47_1:=fz_ BK131 1;have hfz47_2:=fz_ BK131 2;have hfz47_3:=fz_ BK131 3
     try go_wp2_with (first | (go_at_call 51;(with_reducible refine (spec_l2Has.calls a0_0 a0_1 a0_2 a0_3 a1_0 a1_1 false _ A21.out).mono ?_);rintro e w48 ⟨rfl,hb⟩;replace BK130:=vb_ BK130 hb;replace BK131:=vb_ BK131 hb;replace HB:=sb_ HB hb;(try clear hb);have hcz49_0:=c40_ BK130;have hcz49_1:=c41_ BK130;have hcz49_2:=c42_ BK130;have hcz49_3:=c43_ BK130;have hfz49_0:=fz_ BK130 0;have hfz49_1:=fz_ BK130 1;have hfz49_2:=fz_ BK130 2;have hfz49_3:=fz_ BK130 3;have hcz50_0:=c40_ BK131;have hcz50_1:=c41_ BK131;have hcz50_2:=c42_ BK131;have hcz50_3:=c43_ BK131;have hfz50_0:=fz_ BK131 0;have hfz50_1:=fz_ BK131 1;have hfz50_2:=fz_ BK131 2;have hfz50_3:=fz_ BK131 3) | (go_at_call 51;(with_reducible refine (spec_l2Has.calls a0_0 a0_1 a0_2 a0_3 a1_2 a1_3 true _ A35.out).mono ?_);rintro e w51 ⟨rfl,hb⟩;replace BK130:=vb_ BK130 hb;replace BK131:=vb_ BK131 hb;replace HB:=sb_ HB hb;(try clear hb)))
     go_ret;exact⟨rr_,hB_⟩
    ·
     replace c36:=Bool.eq_false_iff.mpr c36;subst c36;rw [if_neg (show ¬ (false=true) by decide)] at H
     (try dsimp only at H)
     replace H:=Option.bind_eq_some_iff.mp H;obtain⟨t142,A520,H⟩:=H
     (try dsimp only at H)
     have A52:=Aside0.mk A520;clear A520;by_cases c53:t142=true
     ·
      subst c53;rw [if_pos rfl] at H
      (try dsimp only at H)
      obtain rfl:=Option.some.inj H;have hnb62:=NB130_131.out;have hnc62:=NB131_130.out;have hcz63_0:=c40_ BK130;have hcz63_1:=c41_ BK130;have hcz63_2:=c42_ BK130;have hcz63_3:=c43_ BK130;have hfz63_0:=fz_ BK130 0;have hfz63_1:=fz_ BK130 1;have hfz63_2:=fz_ BK130 2;have hfz63_3:=fz_ BK130 3;have hcz64_0:=c40_ BK131;have hcz64_1:=c41_ BK131;have hcz64_2:=c42_ BK131;have hcz64_3:=c43_ BK131;have hfz64_0:=fz_ BK131 0;have hfz64_1:=fz_ BK131 1;have hfz64_2:=fz_ BK131 2;have hfz64_3:=fz_ BK131 3
      try go_wp2_with (first | (go_at_call 51;(with_reducible refine (spec_l2Has.calls a0_0 a0_1 a0_2 a0_3 a1_0 a1_1 false _ A21.out).mono ?_);rintro e w65 ⟨rfl,hb⟩;replace BK130:=vb_ BK130 hb;replace BK131:=vb_ BK131 hb;replace HB:=sb_ HB hb;(try clear hb);have hcz66_0:=c40_ BK130;have hcz66_1:=c41_ BK130;have hcz66_2:=c42_ BK130;have hcz66_3:=c43_ BK130;have hfz66_0:=fz_ BK130 0;have hfz66_1:=fz_ BK130 1;have hfz66_2:=fz_ BK130 2;have hfz66_3:=fz_ BK130 3;have hcz67_0:=c40_ BK131;have hcz67_1:=c41_ BK131;have hcz67_2:=c42_ BK131;have hcz67_3:=c43_ BK131;have hfz67_0:=fz_ BK131 0;have hfz67_1:=fz_ BK131 1;have hfz67_2:=fz_ BK131 2;have hfz67_3:=fz_ BK131 3) | (go_at_call 51;(with_reducible refine (spec_l2Has.calls a0_0 a0_1 a0_2 a0_3 a1_2 a1_3 false _ A35.out).mono ?_);rintro e w68 ⟨rfl,hb⟩;replace BK130:=vb_ BK130 hb;replace BK131:=vb_ BK131 hb;replace HB:=sb_ HB hb;(try clear hb);have hcz69_0:=c40_ BK131;have hcz69_1:=c41_ BK131;have hcz69_2:=c42_ BK131;have hcz69_3:=c43_ BK131;have hfz69_0:=fz_ BK131 0;have hfz69_1:=fz_ BK131 1;have hfz69_2:=fz_ BK131 2;have hfz69_3:=fz_ BK131 3;have hcz70_0:=c40_ BK130;have hcz70_1:=c41_ BK130;have hcz70_2:=c42_ BK130;have hcz70_3:=c43_ BK130;have hfz70_0:=fz_ BK130 0;have hfz70_1:=fz_ BK130 1;have hfz70_2:=fz_ BK130 2;have hfz70_3:=fz_ BK130 3) | (go_at_call 51;(with_reducible refine (spec_l2Has.calls a1_0 a1_1 a1_2 a1_3 a0_0 a0_1 true _ A52.out).mono ?_);rintro e w71 ⟨rfl,hb⟩;replace BK130:=vb_ BK130 hb;replace BK131:=vb_ BK131 hb;replace HB:=sb_ HB hb;(try clear hb)))
      go_ret;exact⟨rr_,hB_⟩
     ·
      replace c53:=Bool.eq_false_iff.mpr c53;subst c53;rw [if_neg (show ¬ (false=true) by decide)] at H
      (try dsimp only at H)
      replace H:=Option.bind_eq_some_iff.mp H;obtain⟨t143,A720,H⟩:=H
      (try dsimp only at H)
      have A72:=Aside0.mk A720;clear A720;obtain rfl:=Option.some.inj H;have hnb81:=NB130_131.out;have hnc81:=NB131_130.out;have hcz82_0:=c40_ BK130;have hcz82_1:=c41_ BK130;have hcz82_2:=c42_ BK130;have hcz82_3:=c43_ BK130;have hfz82_0:=fz_ BK130 0;have hfz82_1:=fz_ BK130 1;have hfz82_2:=fz_ BK130 2;have hfz82_3:=fz_ BK130 3;have hcz83_0:=c40_ BK131;have hcz83_1:=c41_ BK131;have hcz83_2:=c42_ BK131;have hcz83_3:=c43_ BK131;have hfz83_0:=fz_ BK131 0;have hfz83_1:=fz_ BK131 1;have hfz83_2:=fz_ BK131 2;have hfz83_3:=fz_ BK131 3
      try go_wp2_with (first | (go_at_call 51;(with_reducible refine (spec_l2Has.calls a0_0 a0_1 a0_2 a0_3 a1_0 a1_1 false _ A21.out).mono ?_);rintro e w84 ⟨rfl,hb⟩;replace BK130:=vb_ BK130 hb;replace BK131:=vb_ BK131 hb;replace HB:=sb_ HB hb;(try clear hb);have hcz85_0:=c40_ BK130;have hcz85_1:=c41_ BK130;have hcz85_2:=c42_ BK130;have hcz85_3:=c43_ BK130;have hfz85_0:=fz_ BK130 0;have hfz85_1:=fz_ BK130 1;have hfz85_2:=fz_ BK130 2;have hfz85_3:=fz_ BK130 3;have hcz86_0:=c40_ BK131;have hcz86_1:=c41_ BK131;have hcz86_2:=c42_ BK131;have hcz86_3:=c43_ BK131;have hfz86_0:=fz_ BK131 0;have hfz86_1:=fz_ BK131 1;have hfz86_2:=fz_ BK131 2;have hfz86_3:=fz_ BK131 3) | (go_at_call 51;(with_reducible refine (spec_l2Has.calls a0_0 a0_1 a0_2 a0_3 a1_2 a1_3 false _ A35.out).mono ?_);rintro e w87 ⟨rfl,hb⟩;replace BK130:=vb_ BK130 hb;replace BK131:=vb_ BK131 hb;replace HB:=sb_ HB hb;(try clear hb);have hcz88_0:=c40_ BK131;have hcz88_1:=c41_ BK131;have hcz88_2:=c42_ BK131;have hcz88_3:=c43_ BK131;have hfz88_0:=fz_ BK131 0;have hfz88_1:=fz_ BK131 1;have hfz88_2:=fz_ BK131 2;have hfz88_3:=fz_ BK131 3;have hcz89_0:=c40_ BK130;have hcz89_1:=c41_ BK130;have hcz89_2:=c42_ BK130;have hcz89_3:=c43_ BK130;have hfz89_0:=fz_ BK130 0;have hfz89_1:=fz_ BK130 1;have hfz89_2:=fz_ BK130 2;have hfz89_3:=fz_ BK130 3) | (go_at_call 51;(with_reducible refine (spec_l2Has.calls a1_0 a1_1 a1_2 a1_3 a0_0 a0_1 false _ A52.out).mono ?_);rintro e w90 ⟨rfl,hb⟩;replace BK130:=vb_ BK130 hb;replace BK131:=vb_ BK131 hb;replace HB:=sb_ HB hb;(try clear hb);have hcz91_0:=c40_ BK131;have hcz91_1:=c41_ BK131;have hcz91_2:=c42_ BK131;have hcz91_3:=c43_ BK131;have hfz91_0:=fz_ BK131 0;have hfz91_1:=fz_ BK131 1;have hfz91_2:=fz_ BK131 2;have hfz91_3:=fz_ BK131 3;have hcz92_0:=c40_ BK130;have hcz92_1:=c41_ BK130;have hcz92_2:=c42_ BK130;have hcz92_3:=c43_ BK130;have hfz92_0:=fz_ BK130 0;have hfz92_1:=fz_ BK130 1;have hfz92_2:=fz_ BK130 2;have hfz92_3:=fz_ BK130 3) | (go_at_call 51;(with_reducible refine (spec_l2Has.calls a1_0 a1_1 a1_2 a1_3 a0_2 a0_3 t143 _ A72.out).mono ?_);rintro e w93 ⟨rfl,hb⟩;replace BK130:=vb_ BK130 hb;replace BK131:=vb_ BK131 hb;replace HB:=sb_ HB hb;(try clear hb)))
      go_ret;exact⟨rr_,hB_⟩
 ·
  rw [if_neg c11] at H;have c11b0:decide ((wrap64 (t133*t135))<0)=false:=decide_eq_false c11;clear c11;replace H:=Option.bind_eq_some_iff.mp H;obtain⟨t144,A940,H⟩:=H
  (try dsimp only at H)
  have A94:=Aside0.mk A940;clear A940;by_cases c95:t144=true
  ·
   subst c95;rw [if_pos rfl] at H
   (try dsimp only at H)
   obtain rfl:=Option.some.inj H;have hnb104:=NB130_131.out;have hnc104:=NB131_130.out;have hcz105_0:=c40_ BK130;have hcz105_1:=c41_ BK130;have hcz105_2:=c42_ BK130;have hcz105_3:=c43_ BK130;have hfz105_0:=fz_ BK130 0;have hfz105_1:=fz_ BK130 1;have hfz105_2:=fz_ BK130 2;have hfz105_3:=fz_ BK130 3;have hcz106_0:=c40_ BK131;have hcz106_1:=c41_ BK131;have hcz106_2:=c42_ BK131;have hcz106_3:=c43_ BK131;have hfz106_0:=fz_ BK131 0;have hfz106_1:=fz_ BK131 1;have hfz106_2:=fz_ BK131 2;have hfz106_3:=fz_ BK131 3
   try go_wp2_with (first | (go_at_call 51;(with_reducible refine (spec_l2Has.calls a0_0 a0_1 a0_2 a0_3 a1_0 a1_1 true _ A94.out).mono ?_);rintro e w107 ⟨rfl,hb⟩;replace BK130:=vb_ BK130 hb;replace BK131:=vb_ BK131 hb;replace HB:=sb_ HB hb;(try clear hb)))
   go_ret;exact⟨rr_,hB_⟩
  ·
   replace c95:=Bool.eq_false_iff.mpr c95;subst c95;rw [if_neg (show ¬ (false=true) by decide)] at H
   (try dsimp only at H)
   replace H:=Option.bind_eq_some_iff.mp H;obtain⟨t145,A1080,H⟩:=H
   (try dsimp only at H)
   have A108:=Aside0.mk A1080;clear A1080;by_cases c109:t145=true
   ·
    subst c109;rw [if_pos rfl] at H
    (try dsimp only at H)
    obtain rfl:=Option.some.inj H;have hnb118:=NB130_131.out;have hnc118:=NB131_130.out;have hcz119_0:=c40_ BK130;have hcz119_1:=c41_ BK130;have hcz119_2:=c42_ BK130;have hcz119_3:=c43_ BK130;have hfz119_0:=fz_ BK130 0;have hfz119_1:=fz_ BK130 1;have hfz119_2:=fz_ BK130 2;have hfz119_3:=fz_ BK130 3;have hcz120_0:=c40_ BK131;have hcz120_1:=c41_ BK131;have hcz120_2:=c42_ BK131;have hcz120_3:=c43_ BK131;have hfz120_0:=fz_ BK131 0;have hfz120_1:=fz_ BK131 1;have hfz120_2:=fz_ BK131 2;have hfz120_3:=fz_ BK131 3
    try go_wp2_with (first | (go_at_call 51;(with_reducible refine (spec_l2Has.calls a0_0 a0_1 a0_2 a0_3 a1_0 a1_1 false _ A94.out).mono ?_);rintro e w121 ⟨rfl,hb⟩;replace BK130:=vb_ BK130 hb;replace BK131:=vb_ BK131 hb;replace HB:=sb_ HB hb;(try clear hb);have hcz122_0:=c40_ BK130;have hcz122_1:=c41_ BK130;have hcz122_2:=c42_ BK130;have hcz122_3:=c43_ BK130;have hfz122_0:=fz_ BK130 0;have hfz122_1:=fz_ BK130 1;have hfz122_2:=fz_ BK130 2;have hfz122_3:=fz_ BK130 3;have hcz123_0:=c40_ BK131;have hcz123_1:=c41_ BK131;have hcz123_2:=c42_ BK131;have hcz123_3:=c43_ BK131;have hfz123_0:=fz_ BK131 0;have hfz123_1:=fz_ BK131 1;have hfz123_2:=fz_ BK131 2;have hfz123_3:=fz_ BK131 3) | (go_at_call 51;(with_reducible refine (spec_l2Has.calls a0_0 a0_1 a0_2 a0_3 a1_2 a1_3 true _ A108.out).mono ?_);rintro e w124 ⟨rfl,hb⟩;replace BK130:=vb_ BK130 hb;replace BK131:=vb_ BK131 hb;replace HB:=sb_ HB hb;(try clear hb)))
    go_ret;exact⟨rr_,hB_⟩
   ·
    replace c109:=Bool.eq_false_iff.mpr c109;subst c109;rw [if_neg (show ¬ (false=true) by decide)] at H
    (try dsimp only at H)
    replace H:=Option.bind_eq_some_iff.mp H;obtain⟨t146,A1250,H⟩:=H
    (try dsimp only at H)
    have A125:=Aside0.mk A1250;clear A1250;by_cases c126:t146=true
    ·
     subst c126;rw [if_pos rfl] at H
     (try dsimp only at H)
     obtain rfl:=Option.some.inj H;have hnb135:=NB130_131.out;have hnc135:=NB131_130.out;have hcz136_0:=c40_ BK130;have hcz136_1:=c41_ BK130;have hcz136_2:=c42_ BK130;have hcz136_3:=c43_ BK130;have hfz136_0:=fz_ BK130 0;have hfz136_1:=fz_ BK130 1;have hfz136_2:=fz_ BK130 2;have hfz136_3:=fz_ BK130 3;have hcz137_0:=c40_ BK131;have hcz137_1:=c41_ BK131;have hcz137_2:=c42_ BK131;have hcz137_3:=c43_ BK131;have hfz137_0:=fz_ BK131 0;have hfz137_1:=fz_ BK131 1;have hfz137_2:=fz_ BK131 2;have hfz137_3:=fz_ BK131 3
     try go_wp2_with (first | (go_at_call 51;(with_reducible refine (spec_l2Has.calls a0_0 a0_1 a0_2 a0_3 a1_0 a1_1 false _ A94.out).mono ?_);rintro e w138 ⟨rfl,hb⟩;replace BK130:=vb_ BK130 hb;replace BK131:=vb_ BK131 hb;replace HB:=sb_ HB hb;(try clear hb);have hcz139_0:=c40_ BK130;have hcz139_1:=c41_ BK130;have hcz139_2:=c42_ BK130;have hcz139_3:=c43_ BK130;have hfz139_0:=fz_ BK130 0;have hfz139_1:=fz_ BK130 1;have hfz139_2:=fz_ BK130 2;have hfz139_3:=fz_ BK130 3;have hcz140_0:=c40_ BK131;have hcz140_1:=c41_ BK131;have hcz140_2:=c42_ BK131;have hcz140_3:=c43_ BK131;have hfz140_0:=fz_ BK131 0;have hfz140_1:=fz_ BK131 1;have hfz140_2:=fz_ BK131 2;have hfz140_3:=fz_ BK131 3) | (go_at_call 51;(with_reducible refine (spec_l2Has.calls a0_0 a0_1 a0_2 a0_3 a1_2 a1_3 false _ A108.out).mono ?_);rintro e w141 ⟨rfl,hb⟩;replace BK130:=vb_ BK130 hb;replace BK131:=vb_ BK131 hb;replace HB:=sb_ HB hb;(try clear hb);have hcz142_0:=c40_ BK131;have hcz142_1:=c41_ BK131;have hcz142_2:=c42_ BK131;have hcz142_3:=c43_ BK131;have hfz142_0:=fz_ BK131 0;have hfz142_1:=fz_ BK131 1;have hfz142_2:=fz_ BK131 2;have hfz142_3:=fz_ BK131 3;have hcz143_0:=c40_ BK130;have hcz143_1:=c41_ BK130;have hcz143_2:=c42_ BK130;have hcz143_3:=c43_ BK130;have hfz143_0:=fz_ BK130 0;have hfz143_1:=fz_ BK130 1;have hfz143_2:=fz_ BK130 2;have hfz143_3:=fz_ BK130 3) | (go_at_call 51;(with_reducible refine (spec_l2Has.calls a1_0 a1_1 a1_2 a1_3 a0_0 a0_1 true _ A125.out).mono ?_);rintro e w144 ⟨rfl,hb⟩;replace BK130:=vb_ BK130 hb;replace BK131:=vb_ BK131 hb;replace HB:=sb_ HB hb;(try clear hb)))
     go_ret;exact⟨rr_,hB_⟩
    ·
     replace c126:=Bool.eq_false_iff.mpr c126;subst c126;rw [if_neg (show ¬ (false=true) by decide)] at H
     (try dsimp only at H)
     replace H:=Option.bind_eq_some_iff.mp H;obtain⟨t147,A1450,H⟩:=H
     (try dsimp only at H)
     have A145:=Aside0.mk A1450;clear A1450;obtain rfl:=Option.some.inj H;have hnb154:=NB130_131.out;have hnc154:=NB131_130.out;have hcz155_0:=c40_ BK130;have hcz155_1:=c41_ BK130;have hcz155_2:=c42_ BK130;have hcz155_3:=c43_ BK130;have hfz155_0:=fz_ BK130 0;have hfz155_1:=fz_ BK130 1;have hfz155_2:=fz_ BK130 2;have hfz155_3:=fz_ BK130 3;have hcz156_0:=c40_ BK131;have hcz156_1:=c41_ BK131;have hcz156_2:=c42_ BK131;have hcz156_3:=c43_ BK131;have hfz156_0:=fz_ BK131 0;have hfz156_1:=fz_ BK131 1;have hfz156_2:=fz_ BK131 2;have hfz156_3:=fz_ BK131 3
     try go_wp2_with (first | (go_at_call 51;(with_reducible refine (spec_l2Has.calls a0_0 a0_1 a0_2 a0_3 a1_0 a1_1 false _ A94.out).mono ?_);rintro e w157 ⟨rfl,hb⟩;replace BK130:=vb_ BK130 hb;replace BK131:=vb_ BK131 hb;replace HB:=sb_ HB hb;(try clear hb);have hcz158_0:=c40_ BK130;have hcz158_1:=c41_ BK130;have hcz158_2:=c42_ BK130;have hcz158_3:=c43_ BK130;have hfz158_0:=fz_ BK130 0;have hfz158_1:=fz_ BK130 1;have hfz158_2:=fz_ BK130 2;have hfz158_3:=fz_ BK130 3;have hcz159_0:=c40_ BK131;have hcz159_1:=c41_ BK131;have hcz159_2:=c42_ BK131;have hcz159_3:=c43_ BK131;have hfz159_0:=fz_ BK131 0;have hfz159_1:=fz_ BK131 1;have hfz159_2:=fz_ BK131 2;have hfz159_3:=fz_ BK131 3) | (go_at_call 51;(with_reducible refine (spec_l2Has.calls a0_0 a0_1 a0_2 a0_3 a1_2 a1_3 false _ A108.out).mono ?_);rintro e w160 ⟨rfl,hb⟩;replace BK130:=vb_ BK130 hb;replace BK131:=vb_ BK131 hb;replace HB:=sb_ HB hb;(try clear hb);have hcz161_0:=c40_ BK131;have hcz161_1:=c41_ BK131;have hcz161_2:=c42_ BK131;have hcz161_3:=c43_ BK131;have hfz161_0:=fz_ BK131 0;have hfz161_1:=fz_ BK131 1;have hfz161_2:=fz_ BK131 2;have hfz161_3:=fz_ BK131 3;have hcz162_0:=c40_ BK130;have hcz162_1:=c41_ BK130;have hcz162_2:=c42_ BK130;have hcz162_3:=c43_ BK130;have hfz162_0:=fz_ BK130 0;have hfz162_1:=fz_ BK130 1;have hfz162_2:=fz_ BK130 2;have hfz162_3:=fz_ BK130 3) | (go_at_call 51;(with_reducible refine (spec_l2Has.calls a1_0 a1_1 a1_2 a1_3 a0_0 a0_1 false _ A125.out).mono ?_);rintro e w163 ⟨rfl,hb⟩;replace BK130:=vb_ BK130 hb;replace BK131:=vb_ BK131 hb;replace HB:=sb_ HB hb;(try clear hb);have hcz164_0:=c40_ BK131;have hcz164_1:=c41_ BK131;have hcz164_2:=c42_ BK131;have hcz164_3:=c43_ BK131;have hfz164_0:=fz_ BK131 0;have hfz164_1:=fz_ BK131 1;have hfz164_2:=fz_ BK131 2;have hfz164_3:=fz_ BK131 3;have hcz165_0:=c40_ BK130;have hcz165_1:=c41_ BK130;have hcz165_2:=c42_ BK130;have hcz165_3:=c43_ BK130;have hfz165_0:=fz_ BK130 0;have hfz165_1:=fz_ BK130 1;have hfz165_2:=fz_ BK130 2;have hfz165_3:=fz_ BK130 3) | (go_at_call 51;(with_reducible refine (spec_l2Has.calls a1_0 a1_1 a1_2 a1_3 a0_2 a0_3 t147 _ A145.out).mono ?_);rintro e w166 ⟨rfl,hb⟩;replace BK130:=vb_ BK130 hb;replace BK131:=vb_ BK131 hb;replace HB:=sb_ HB hb;(try clear hb)))
     go_ret;exact⟨rr_,hB_⟩
end Go.Proofs.YtailkppkjhkjpaaGreatDoor.X
end
section
set_option linter.unusedVariables false
set_option linter.unusedSimpArgs false
namespace Go.Proofs.YtailkppkjhkjpaaGreatDoor.X
open Go.RowKit Go.Proofs.YtailkppkjhkjpaaGreatDoorW.PrintWords Go.Proofs.YtailkppkjhkjpaaGreatDoorW.PrintLast Go.Proofs.YtailkppkjhkjpaaGreatDoorW.PrintMore
open Mort
theorem sMeet {a b c d e f g h:Int}(o1:ptOk (a,b)=true)(o2:ptOk (c,d)=true)(o3:ptOk (e,f)=true)(o4:ptOk (g,h)=true):
  spec_l2Meet.f a b c d e f g h=some (meet ((a,b),(c,d)) ((e,f),(g,h))):=by
 unfold spec_l2Meet.f meet;simp only [sCross o1 o2 o3,sCross o1 o2 o4,sCross o3 o4 o1,sCross o3 o4 o2,sSign,sHas o1 o2 o3,sHas o1 o2 o4,sHas o3 o4 o1,sHas o3 o4 o2,Option.bind_some,turn_mul];by_cases z1:sgn (cross (a,b) (c,d) (e,f))*sgn (cross (a,b) (c,d) (g,h))<0 <;>
 by_cases z2:sgn (cross (e,f) (g,h) (a,b))*sgn (cross (e,f) (g,h) (c,d))<0 <;>
 cases has ((a,b),(c,d)) (e,f) <;> cases has ((a,b),(c,d)) (g,h) <;> cases has ((e,f),(g,h)) (a,b) <;> cases has ((e,f),(g,h)) (c,d) <;> simp [z1,z2]
end Go.Proofs.YtailkppkjhkjpaaGreatDoor.X
end
section
namespace Go.Proofs.YtailkppkjhkjpaaGreatDoor.X
open Go.RowKit Go.Proofs.YtailkppkjhkjpaaGreatDoorW.PrintWords Go.Proofs.YtailkppkjhkjpaaGreatDoorW.PrintLast Go.Proofs.YtailkppkjhkjpaaGreatDoorW.PrintMore
attribute [local go_sem] max2_int min2_int max_two min_two max_three min_three max_four min_four
set_option linter.unusedVariables false
set_option linter.unusedSimpArgs false
mutual
def spec_l11Apart.l0:Nat→List (S83)→List (S83)→Int→Option (Bool)
 | 0,_,_,_=>none
 | k+1,x5,x6,x7=>if x7<(x5.length:Int) then (spec_l11Apart.l1 k x5 x6 x7 0) else (some true)
def spec_l11Apart.l1:Nat→List (S83)→List (S83)→Int→Int→Option (Bool)
 | 0,_,_,_,_=>none
 | k+1,x5,x6,x7,x8=>if x8<(x6.length:Int) then (if 0≤x7 then (if x7<(x5.length:Int) then (if 0≤x8 then ((spec_l2Meet.f ((rd_T83 x5 x7).f0.f0) ((rd_T83 x5 x7).f0.f1) ((rd_T83 x5 x7).f1.f0) ((rd_T83 x5 x7).f1.f1) ((rd_T83 x6 x8).f0.f0) ((rd_T83 x6 x8).f0.f1) ((rd_T83 x6 x8).f1.f0) ((rd_T83 x6 x8).f1.f1)).bind fun t153=>(if t153=true then (some false) else (spec_l11Apart.l1 k x5 x6 x7 (wrap64 (x8+1))))) else (none)) else (none)) else (none)) else (spec_l11Apart.l0 k x5 x6 (wrap64 (x7+1)))
end
def spec_l11Apart.f (k:Nat)(l0:List (S70))(l1:List (S70)):Option (Bool):=(spec_l3Edges.f k l0).bind fun t145=>((spec_l3Edges.f k l1).bind fun t148=>(spec_l11Apart.l0 k t145 t148 0))
def spec_l11Apart.T9:Bool × List (List Nat × List Nat):=(true,[([],[]),([],[]),([0,1],[0,1]),([2],[2]),([],[]),([],[]),([4,5],[4,5]),([6],[6]),([3,7],[3,7])])
def spec_l11Apart.B9:List Nat:=[0,0,3,7,0,0,48,112,255]
theorem spec_l11Apart.tab9:rtab .any (opsOf Tryz.f35 9)=spec_l11Apart.T9:=by kernel_rfl
theorem spec_l11Apart.bits9:waitsOk spec_l11Apart.T9.2 spec_l11Apart.B9=true:=by kernel_rfl
set_option maxHeartbeats 8000000 in
set_option maxRecDepth 100000 in
theorem spec_l11Apart.calls (k:Nat)(A0:Option Addr)(c0:Nat)(l0:List (S70))(A1:Option Addr)(c1:Nat)(l1:List (S70))(r:Bool)(w:World)(hr0:Kd.C k70 w A0 l0.length l0)(hc0:l0.length≤c0)(hr1:Kd.C k70 w A1 l1.length l1)(hc1:l1.length≤c1)(h:spec_l11Apart.f k l0 l1=some r):
  Calls Tryz.prog 35 #[.slice A0 l0.length c0,.slice A1 l1.length c1] w fun e w'=>e=.returned (.bool r)∧Below w.heap.size w w':=by
 have hu83:=Tryz.underlying83;have HR0:=Aside0.mk hr0;have HC0:=Aside0.mk hc0;clear hr0 hc0;have HR1:=Aside0.mk hr1;have HC1:=Aside0.mk hc1;clear hr1 hc1;have HB:=a0_ (Below.refl w.heap.size w);have H:((spec_l3Edges.f k l0).bind fun t145=>((spec_l3Edges.f k l1).bind fun t148=>(spec_l11Apart.l0 k t145 t148 0)))=some r:=h;clear h;replace H:=Option.bind_eq_some_iff.mp H;obtain⟨t145,A30,H⟩:=H
 (try dsimp only at H)
 have A3:=Aside0.mk A30;clear A30;replace H:=Option.bind_eq_some_iff.mp H;obtain⟨t148,A40,H⟩:=H
 (try dsimp only at H)
 have A4:=Aside0.mk A40;clear A40;have H':=Aside0.mk H;clear H;go_enter Tryz.func35,Tryz.ntmps35;go_wp2_with (first | ((with_reducible refine gate_callee (f:=49) rfl ?_);refine gL_ (some 10) Tryz.func49 #[.slice A0 l0.length c0] (h:=?_);(with_reducible refine (spec_l3Edges.calls k _ _ l0 t145 _ ?side1 ?side2 A3.out).mono ?_);(case side1=>repeat (first | exact HR0.out | (with_reducible refine Kd.C_alloc ?_ _) | (with_reducible refine Kd.C_drewN ?_ _) | (with_reducible refine Kd.C_drew ?_)));(case side2=>exact HC0.out);rintro e w5 ⟨v146,rfl,ho0,hb⟩;refine⟨_,rfl,?_⟩;have HO147:=a0_ (Kd.R_lower ho0 (below_size hB_));replace HB:=sb_ HB hb;(try clear ho0 hb)) | ((with_reducible refine gate_callee (f:=49) rfl ?_);refine gL_ (some 12) Tryz.func49 #[.slice A1 l1.length c1] (h:=?_);(with_reducible refine (spec_l3Edges.calls k _ _ l1 t148 _ ?side1 ?side2 A4.out).mono ?_);(case side1=>repeat (first | exact (Kd.C_below HR1.out HB.out) | (with_reducible refine Kd.C_alloc ?_ _) | (with_reducible refine Kd.C_drewN ?_ _) | (with_reducible refine Kd.C_drew ?_)));(case side2=>exact HC1.out);rintro e w6 ⟨v149,rfl,ho0,hb⟩;refine⟨_,rfl,?_⟩;have HO150:=a0_ (Kd.R_lower (Kd.R_new' ho0 (Kd.R_lt (uR_ HO147))) (below_size hB_));replace HO147:=a0_ (Kd.R_elder' (uR_ HO147) (Kd.R_base ho0) hb);replace HB:=sb_ HB hb;(try clear ho0 hb)));go_loopg [7] k (fun kq v7 w'=>∃ (x7_1:Int),v7=.int .i64 x7_1∧Aside0 (spec_l11Apart.l0 kq t145 t148 x7_1=some r)∧Aside0 (kq≤k)∧Aside0 (Kd.R k83 83 w' w.heap.size (fun k_=>some k_≠(v149:Value).ownBlock) v146 t145)∧Aside0 (Kd.R k83 83 w' w.heap.size (fun k_=>some k_≠(v146:Value).ownBlock) v149 t148)∧Aside0 (Below w.heap.size w w'))
 case atStart=>exact⟨(0),(by first | rfl | (simp;done) | (simp [*];done)),H',⟨Nat.le_refl _⟩,⟨by (with_reducible repeat (first | apply Kd.R_alloc | apply Kd.R_drewN | apply Kd.R_drew));exact Kd.R_mono HO147.out (fun _ hk=>hk.2)⟩,⟨by (with_reducible repeat (first | apply Kd.R_alloc | apply Kd.R_drewN | apply Kd.R_drew));exact Kd.R_mono HO150.out (fun _ hk=>hk.2)⟩,⟨hB_⟩⟩
 case round =>
  clear H';obtain⟨x7_1,rfl,HA,HK1,HO_5,HO_6,HB⟩:=hrel
  cases gk with
  | zero=>exact absurd HA.out (by simp [spec_l11Apart.l0])
  | succ k1 =>
   have H:=HA.out;clear HA;simp only [spec_l11Apart.l0] at H;by_cases c7:x7_1<(t145.length:Int)
   ·
    rw [if_pos c7] at H;have c7b0:decide (x7_1<(t145.length:Int))=true:=decide_eq_true c7;clear c7;have H':=Aside0.mk H;clear H;obtain⟨Ao8,co8,eo8⟩:=Kd.R_slice HO_5.out;subst eo8;go_wp2;go_loopg [8] k1 (fun kq v8 w'=>∃ (x8_2:Int),v8=.int .i64 x8_2∧Aside0 (spec_l11Apart.l1 kq t145 t148 x7_1 x8_2=some r)∧Aside0 (kq≤k1)∧Aside0 (Kd.R k83 83 w' w.heap.size (fun k_=>some k_≠(v149:Value).ownBlock) (.slice Ao8 t145.length co8) t145)∧Aside0 (Kd.R k83 83 w' w.heap.size (fun k_=>some k_≠((.slice Ao8 t145.length co8):Value).ownBlock) v149 t148)∧Aside0 (Below w.heap.size w w'))
    case atStart=>exact⟨(0),(by first | rfl | (simp;done) | (simp [*];done)),H',⟨Nat.le_refl _⟩,⟨by (with_reducible repeat (first | apply Kd.R_alloc | apply Kd.R_drewN | apply Kd.R_drew));exact HO_5.out⟩,⟨by (with_reducible repeat (first | apply Kd.R_alloc | apply Kd.R_drewN | apply Kd.R_drew));exact HO_6.out⟩,⟨hB_⟩⟩
    case round =>
     clear H';obtain⟨x8_2,rfl,HA,HK2,HO_5,HO_6,HB⟩:=hrel
     cases gk with
     | zero=>exact absurd HA.out (by simp [spec_l11Apart.l1])
     | succ k2 =>
      have H:=HA.out;clear HA;simp only [spec_l11Apart.l1] at H;by_cases c9:x8_2<(t148.length:Int)
      ·
       rw [if_pos c9] at H;have c9b0:decide (x8_2<(t148.length:Int))=true:=decide_eq_true c9;clear c9;by_cases c10:0≤x7_1
       ·
        rw [if_pos c10] at H;have c10b0:decide (0≤x7_1)=true:=decide_eq_true c10;clear c10;by_cases c11:x7_1<(t145.length:Int)
        ·
         rw [if_pos c11] at H;have c11b0:decide (x7_1<(t145.length:Int))=true:=decide_eq_true c11;clear c11;by_cases c12:0≤x8_2
         ·
          rw [if_pos c12] at H;have c12b0:decide (0≤x8_2)=true:=decide_eq_true c12;clear c12;replace H:=Option.bind_eq_some_iff.mp H;obtain⟨t153,A130,H⟩:=H
          (try dsimp only at H)
          have A13:=Aside0.mk A130;clear A130;by_cases c14:t153=true
          ·
           subst c14;rw [if_pos rfl] at H
           (try dsimp only at H)
           obtain rfl:=Option.some.inj H;obtain⟨Ao15,co15,eo15⟩:=Kd.R_slice HO_6.out;subst eo15
           try go_wp2
           replace HO_5:=a0_ (Kd.R_drew HO_5.out);replace HO_6:=a0_ (Kd.R_drew HO_6.out);replace HB:=a0_ (below_drew1 HB.out);have p151:0≤(x7_1:Int):=od_;have q151:x7_1<(t145.length:Int):=od_;obtain⟨ad151,e151,hx151_0,hx151_1,hx151_2,hx151_3⟩:=at_T83 (Kd.R_reads' HO_5.out).2.2 x7_1 p151 q151;cases e151;replace p151:=eq_true p151;replace q151:=eq_true q151;have p152:0≤(x8_2:Int):=od_;have q152:x8_2<(t148.length:Int):=od_;obtain⟨ad152,e152,hx152_0,hx152_1,hx152_2,hx152_3⟩:=at_T83 (Kd.R_reads' HO_6.out).2.2 x8_2 p152 q152;cases e152;replace p152:=eq_true p152;replace q152:=eq_true q152;refine start_ (n:=9) (S:=fun w'=>w'.cell? (ad151.add ((x7_1).toNat*4))=some (.int .i64 ((rd_T83 t145 x7_1).f0.f0))∧w'.cell? ⟨(ad151.add ((x7_1).toNat*4)).block,(ad151.add ((x7_1).toNat*4)).off+1,none⟩=some (.int .i64 ((rd_T83 t145 x7_1).f0.f1))∧w'.cell? ⟨(ad151.add ((x7_1).toNat*4)).block,(ad151.add ((x7_1).toNat*4)).off+2,none⟩=some (.int .i64 ((rd_T83 t145 x7_1).f1.f0))∧w'.cell? ⟨(ad151.add ((x7_1).toNat*4)).block,(ad151.add ((x7_1).toNat*4)).off+3,none⟩=some (.int .i64 ((rd_T83 t145 x7_1).f1.f1))∧w'.cell? (ad152.add ((x8_2).toNat*4))=some (.int .i64 ((rd_T83 t148 x8_2).f0.f0))∧w'.cell? ⟨(ad152.add ((x8_2).toNat*4)).block,(ad152.add ((x8_2).toNat*4)).off+1,none⟩=some (.int .i64 ((rd_T83 t148 x8_2).f0.f1))∧w'.cell? ⟨(ad152.add ((x8_2).toNat*4)).block,(ad152.add ((x8_2).toNat*4)).off+2,none⟩=some (.int .i64 ((rd_T83 t148 x8_2).f1.f0))∧w'.cell? ⟨(ad152.add ((x8_2).toNat*4)).block,(ad152.add ((x8_2).toNat*4)).off+3,none⟩=some (.int .i64 ((rd_T83 t148 x8_2).f1.f1))) (ds:=[]) (Array.replicate 9 false) (by kernel_rfl) rfl rfl ⟨hx151_0,hx151_1,hx151_2,hx151_3,hx152_0,hx152_1,hx152_2,hx152_3⟩ (fun hHeld=>?_);refine with_tabW spec_l11Apart.tab9 spec_l11Apart.bits9 (fun HT_ HW_=>?_)
           generalize wr.drew=w16 at HO_5 HO_6 HB hx151_0 hx151_1 hx151_2 hx151_3 hx152_0 hx152_1 hx152_2 hx152_3 hHeld ⊢
           refine pu_ HT_ 0 25 (bm 9 1) ?_;refine pu_ HT_ 1 26 (bm 9 3) ?_;refine pu_ HT_ 2 27 (bm 9 7) ?_;refine pu_ HT_ 4 29 (bm 9 23) ?_;refine pu_ HT_ 5 30 (bm 9 55) ?_;refine pu_ HT_ 6 31 (bm 9 119) ?_;refine ta8_ HT_ HW_ 3 28 (bm 9 127) hHeld ?_;refine ta8_ HT_ HW_ 7 32 (bm 9 255) hHeld ?_;refine one_ (i:=8) (N:=some 33) (bm 9 511) rfl rfl (one_of HT_.out (by kernel_rfl)) (by decide) (fun K hK=>?_);refine goes_ Tryz.func52 (by kernel_rfl) rfl #[.agg #[.int .i64 ((rd_T83 t145 x7_1).f0.f0),.int .i64 ((rd_T83 t145 x7_1).f0.f1),.int .i64 ((rd_T83 t145 x7_1).f1.f0),.int .i64 ((rd_T83 t145 x7_1).f1.f1)],.agg #[.int .i64 ((rd_T83 t148 x8_2).f0.f0),.int .i64 ((rd_T83 t148 x8_2).f0.f1),.int .i64 ((rd_T83 t148 x8_2).f1.f0),.int .i64 ((rd_T83 t148 x8_2).f1.f1)]] (by rfl) rfl rfl ma_ ?_
           with_reducible refine (spec_l2Meet.calls ((rd_T83 t145 x7_1).f0.f0) ((rd_T83 t145 x7_1).f0.f1) ((rd_T83 t145 x7_1).f1.f0) ((rd_T83 t145 x7_1).f1.f1) ((rd_T83 t148 x8_2).f0.f0) ((rd_T83 t148 x8_2).f0.f1) ((rd_T83 t148 x8_2).f1.f0) ((rd_T83 t148 x8_2).f1.f1) true _ A13.out).mono ?_
           rintro e w17 ⟨rfl,hb⟩;have HS0_:=pw_cell_below hb hHeld.1;have HS1_:=pw_cell_below hb hHeld.2.1;have HS2_:=pw_cell_below hb hHeld.2.2.1;have HS3_:=pw_cell_below hb hHeld.2.2.2.1;have HS4_:=pw_cell_below hb hHeld.2.2.2.2.1;have HS5_:=pw_cell_below hb hHeld.2.2.2.2.2.1;have HS6_:=pw_cell_below hb hHeld.2.2.2.2.2.2.1;have HS7_:=pw_cell_below hb hHeld.2.2.2.2.2.2.2;refine⟨_,rfl,?_⟩;replace HO_5:=rb_ HO_5 hb;replace HO_6:=rb_ HO_6 hb;replace HB:=sb_ HB hb
           (try clear hb)
           (try clear hb2)
           (try clear hk)
           (try clear hi)
           refine hK.out _ _ ⟨HS0_,HS1_,HS2_,HS3_,HS4_,HS5_,HS6_,HS7_⟩ (fun hHeld=>?_);clear hK K;refine no_ (h:=?_);refine done_ (done_of HT_.out (by kernel_rfl)) ?_
           try go_wp2
           go_ret;exact⟨rr_,hB_⟩
          ·
           replace c14:=Bool.eq_false_iff.mpr c14;subst c14;rw [if_neg (show ¬ (false=true) by decide)] at H
           (try dsimp only at H)
           have H':=Aside0.mk H;clear H;obtain⟨Ao18,co18,eo18⟩:=Kd.R_slice HO_6.out;subst eo18
           try go_wp2
           replace HO_5:=a0_ (Kd.R_drew HO_5.out);replace HO_6:=a0_ (Kd.R_drew HO_6.out);replace HB:=a0_ (below_drew1 HB.out);have p151:0≤(x7_1:Int):=od_;have q151:x7_1<(t145.length:Int):=od_;obtain⟨ad151,e151,hx151_0,hx151_1,hx151_2,hx151_3⟩:=at_T83 (Kd.R_reads' HO_5.out).2.2 x7_1 p151 q151;cases e151;replace p151:=eq_true p151;replace q151:=eq_true q151;have p152:0≤(x8_2:Int):=od_;have q152:x8_2<(t148.length:Int):=od_;obtain⟨ad152,e152,hx152_0,hx152_1,hx152_2,hx152_3⟩:=at_T83 (Kd.R_reads' HO_6.out).2.2 x8_2 p152 q152;cases e152;replace p152:=eq_true p152;replace q152:=eq_true q152;refine start_ (n:=9) (S:=fun w'=>w'.cell? (ad151.add ((x7_1).toNat*4))=some (.int .i64 ((rd_T83 t145 x7_1).f0.f0))∧w'.cell? ⟨(ad151.add ((x7_1).toNat*4)).block,(ad151.add ((x7_1).toNat*4)).off+1,none⟩=some (.int .i64 ((rd_T83 t145 x7_1).f0.f1))∧w'.cell? ⟨(ad151.add ((x7_1).toNat*4)).block,(ad151.add ((x7_1).toNat*4)).off+2,none⟩=some (.int .i64 ((rd_T83 t145 x7_1).f1.f0))∧w'.cell? ⟨(ad151.add ((x7_1).toNat*4)).block,(ad151.add ((x7_1).toNat*4)).off+3,none⟩=some (.int .i64 ((rd_T83 t145 x7_1).f1.f1))∧w'.cell? (ad152.add ((x8_2).toNat*4))=some (.int .i64 ((rd_T83 t148 x8_2).f0.f0))∧w'.cell? ⟨(ad152.add ((x8_2).toNat*4)).block,(ad152.add ((x8_2).toNat*4)).off+1,none⟩=some (.int .i64 ((rd_T83 t148 x8_2).f0.f1))∧w'.cell? ⟨(ad152.add ((x8_2).toNat*4)).block,(ad152.add ((x8_2).toNat*4)).off+2,none⟩=some (.int .i64 ((rd_T83 t148 x8_2).f1.f0))∧w'.cell? ⟨(ad152.add ((x8_2).toNat*4)).block,(ad152.add ((x8_2).toNat*4)).off+3,none⟩=some (.int .i64 ((rd_T83 t148 x8_2).f1.f1))) (ds:=[]) (Array.replicate 9 false) (by kernel_rfl) rfl rfl ⟨hx151_0,hx151_1,hx151_2,hx151_3,hx152_0,hx152_1,hx152_2,hx152_3⟩ (fun hHeld=>?_);refine with_tabW spec_l11Apart.tab9 spec_l11Apart.bits9 (fun HT_ HW_=>?_)
           generalize wr.drew=w19 at HO_5 HO_6 HB hx151_0 hx151_1 hx151_2 hx151_3 hx152_0 hx152_1 hx152_2 hx152_3 hHeld ⊢
           refine pu_ HT_ 0 25 (bm 9 1) ?_;refine pu_ HT_ 1 26 (bm 9 3) ?_;refine pu_ HT_ 2 27 (bm 9 7) ?_;refine pu_ HT_ 4 29 (bm 9 23) ?_;refine pu_ HT_ 5 30 (bm 9 55) ?_;refine pu_ HT_ 6 31 (bm 9 119) ?_;refine ta8_ HT_ HW_ 3 28 (bm 9 127) hHeld ?_;refine ta8_ HT_ HW_ 7 32 (bm 9 255) hHeld ?_;refine one_ (i:=8) (N:=some 33) (bm 9 511) rfl rfl (one_of HT_.out (by kernel_rfl)) (by decide) (fun K hK=>?_);refine goes_ Tryz.func52 (by kernel_rfl) rfl #[.agg #[.int .i64 ((rd_T83 t145 x7_1).f0.f0),.int .i64 ((rd_T83 t145 x7_1).f0.f1),.int .i64 ((rd_T83 t145 x7_1).f1.f0),.int .i64 ((rd_T83 t145 x7_1).f1.f1)],.agg #[.int .i64 ((rd_T83 t148 x8_2).f0.f0),.int .i64 ((rd_T83 t148 x8_2).f0.f1),.int .i64 ((rd_T83 t148 x8_2).f1.f0),.int .i64 ((rd_T83 t148 x8_2).f1.f1)]] (by rfl) rfl rfl ma_ ?_
           with_reducible refine (spec_l2Meet.calls ((rd_T83 t145 x7_1).f0.f0) ((rd_T83 t145 x7_1).f0.f1) ((rd_T83 t145 x7_1).f1.f0) ((rd_T83 t145 x7_1).f1.f1) ((rd_T83 t148 x8_2).f0.f0) ((rd_T83 t148 x8_2).f0.f1) ((rd_T83 t148 x8_2).f1.f0) ((rd_T83 t148 x8_2).f1.f1) false _ A13.out).mono ?_
           rintro e w20 ⟨rfl,hb⟩;have HS0_:=pw_cell_below hb hHeld.1;have HS1_:=pw_cell_below hb hHeld.2.1;have HS2_:=pw_cell_below hb hHeld.2.2.1;have HS3_:=pw_cell_below hb hHeld.2.2.2.1;have HS4_:=pw_cell_below hb hHeld.2.2.2.2.1;have HS5_:=pw_cell_below hb hHeld.2.2.2.2.2.1;have HS6_:=pw_cell_below hb hHeld.2.2.2.2.2.2.1;have HS7_:=pw_cell_below hb hHeld.2.2.2.2.2.2.2;refine⟨_,rfl,?_⟩;replace HO_5:=rb_ HO_5 hb;replace HO_6:=rb_ HO_6 hb;replace HB:=sb_ HB hb
           (try clear hb)
           (try clear hb2)
           (try clear hk)
           (try clear hi)
           refine hK.out _ _ ⟨HS0_,HS1_,HS2_,HS3_,HS4_,HS5_,HS6_,HS7_⟩ (fun hHeld=>?_);clear hK K;refine no_ (h:=?_);refine done_ (done_of HT_.out (by kernel_rfl)) ?_
           try go_wp2
           go_roundg k2
           case measure=>have:=HK1.out;have:=HK2.out;omega
           case rel=>exact⟨(wrap64 (x8_2+1)),(by first | rfl | (simp;done) | (simp [*];done)),H',⟨by have:=HK1.out;have:=HK2.out;omega⟩,⟨by (with_reducible repeat (first | apply Kd.R_alloc | apply Kd.R_drewN | apply Kd.R_drew));exact HO_5.out⟩,⟨by (with_reducible repeat (first | apply Kd.R_alloc | apply Kd.R_drewN | apply Kd.R_drew));exact HO_6.out⟩,⟨hB_⟩⟩
         ·
          rw [if_neg c12] at H;exact absurd H (by simp)
        ·
         rw [if_neg c11] at H;exact absurd H (by simp)
       ·
        rw [if_neg c10] at H;exact absurd H (by simp)
      ·
       rw [if_neg c9] at H;have c9b0:decide (x8_2<(t148.length:Int))=false:=decide_eq_false c9;clear c9;have H':=Aside0.mk H;clear H;obtain⟨Ao21,co21,eo21⟩:=Kd.R_slice HO_6.out;subst eo21;go_wp2;go_roundg k2
       case measure=>have:=HK1.out;have:=HK2.out;omega
       case rel=>exact⟨(wrap64 (x7_1+1)),(by first | rfl | (simp;done) | (simp [*];done)),H',⟨by have:=HK1.out;have:=HK2.out;omega⟩,⟨by (with_reducible repeat (first | apply Kd.R_alloc | apply Kd.R_drewN | apply Kd.R_drew));exact HO_5.out⟩,⟨by (with_reducible repeat (first | apply Kd.R_alloc | apply Kd.R_drewN | apply Kd.R_drew));exact HO_6.out⟩,⟨hB_⟩⟩
   ·
    rw [if_neg c7] at H;have c7b0:decide (x7_1<(t145.length:Int))=false:=decide_eq_false c7;clear c7;obtain rfl:=Option.some.inj H;obtain⟨Ao22,co22,eo22⟩:=Kd.R_slice HO_5.out;subst eo22;go_wp2;go_ret;exact⟨rr_,hB_⟩
mutual
def spec_LoopOk.l0:Nat→Int→List (S83)→Int→Option (Bool)
 | 0,_,_,_=>none
 | k+1,x3,x4,x5=>if x5<x3 then (if 0≤x5 then (if x5<(x4.length:Int) then ((spec_SegOk.f ((rd_T83 x4 x5).f0.f0) ((rd_T83 x4 x5).f0.f1) ((rd_T83 x4 x5).f1.f0) ((rd_T83 x4 x5).f1.f1)).bind fun t135=>(if t135=true then (spec_LoopOk.l0 k x3 x4 (wrap64 (x5+1))) else (some false))) else (none)) else (none)) else (spec_LoopOk.l1 k x3 x4 0)
def spec_LoopOk.l1:Nat→Int→List (S83)→Int→Option (Bool)
 | 0,_,_,_=>none
 | k+1,x3,x4,x6=>if x6<x3 then (if 0≤x6 then (if x6<(x4.length:Int) then (if x3=0 then (none) else (if 0≤(Int.tmod (wrap64 (x6+1)) x3) then (if (Int.tmod (wrap64 (x6+1)) x3)<(x4.length:Int) then ((spec_l2Has.f ((rd_T83 x4 x6).f0.f0) ((rd_T83 x4 x6).f0.f1) ((rd_T83 x4 x6).f1.f0) ((rd_T83 x4 x6).f1.f1) ((rd_T83 x4 (Int.tmod (wrap64 (x6+1)) x3)).f1.f0) ((rd_T83 x4 (Int.tmod (wrap64 (x6+1)) x3)).f1.f1)).bind fun t138=>(if t138=true then (spec_LoopOk.j2 k x3 x4 x6 true) else ((spec_l2Has.f ((rd_T83 x4 (Int.tmod (wrap64 (x6+1)) x3)).f0.f0) ((rd_T83 x4 (Int.tmod (wrap64 (x6+1)) x3)).f0.f1) ((rd_T83 x4 (Int.tmod (wrap64 (x6+1)) x3)).f1.f0) ((rd_T83 x4 (Int.tmod (wrap64 (x6+1)) x3)).f1.f1) ((rd_T83 x4 x6).f0.f0) ((rd_T83 x4 x6).f0.f1)).bind fun t141=>(spec_LoopOk.j2 k x3 x4 x6 t141)))) else (none)) else (none))) else (none)) else (none)) else (some true)
def spec_LoopOk.j2:Nat→Int→List (S83)→Int→Bool→Option (Bool)
 | 0,_,_,_,_=>none
 | k+1,x3,x4,x6,x58=>if x58=true then (some false) else (spec_LoopOk.l2 k x3 x4 x6 (wrap64 (x6+2)))
def spec_LoopOk.l2:Nat→Int→List (S83)→Int→Int→Option (Bool)
 | 0,_,_,_,_=>none
 | k+1,x3,x4,x6,x7=>if x7<x3 then (if x3=0 then (none) else (if (Int.tmod (wrap64 (x7+1)) x3)=x6 then (spec_LoopOk.l2 k x3 x4 x6 (wrap64 (x7+1))) else (if 0≤x6 then (if x6<(x4.length:Int) then (if 0≤x7 then (if x7<(x4.length:Int) then ((spec_l2Meet.f ((rd_T83 x4 x6).f0.f0) ((rd_T83 x4 x6).f0.f1) ((rd_T83 x4 x6).f1.f0) ((rd_T83 x4 x6).f1.f1) ((rd_T83 x4 x7).f0.f0) ((rd_T83 x4 x7).f0.f1) ((rd_T83 x4 x7).f1.f0) ((rd_T83 x4 x7).f1.f1)).bind fun t144=>(if t144=true then (some false) else (spec_LoopOk.l2 k x3 x4 x6 (wrap64 (x7+1))))) else (none)) else (none)) else (none)) else (none)))) else (spec_LoopOk.l1 k x3 x4 (wrap64 (x6+1)))
end
def spec_LoopOk.f (k:Nat)(l0:List (S70)):Option (Bool):=(spec_l6In.f (l0.length:Int) 3 8).bind fun t130=>(if t130=true then ((spec_l3Edges.f k l0).bind fun t131=>(spec_LoopOk.l0 k (l0.length:Int) t131 0)) else (some false))
def spec_LoopOk.T13:Bool × List (List Nat × List Nat):=(true,[([],[]),([],[]),([0,1],[0,1]),([2],[2]),([],[]),([],[]),([5],[5]),([],[]),([6,7],[6,7]),([4,8],[4,8]),([9],[9]),([10],[10]),([3,11],[3,11]),([12,12],[12]),([13],[13]),([13],[13]),([15,13],[13,15]),([13],[13]),([16,17,13],[13,16,17]),([14,18,13],[13,14,18]),([19,13],[13,19]),([13],[13]),([13],[13]),([21,22,13],[13,21,22]),([23,13],[13,23]),([24,13],[13,24]),([20,25,13,13],[13,20,25]),([13,26],[13,26])])
def spec_LoopOk.B13:List Nat:=[0,0,3,7,0,0,32,0,224,496,1008,2032,4095,8191,16383,16383,49151,16383,245759,524287,1048575,16383,16383,6307839,14696447,31473663,67108863,134217727]
theorem spec_LoopOk.tab13:rtab .any (opsOf Tryz.f33 13)=spec_LoopOk.T13:=by kernel_rfl
theorem spec_LoopOk.bits13:waitsOk spec_LoopOk.T13.2 spec_LoopOk.B13=true:=by kernel_rfl
def spec_LoopOk.T18:Bool × List (List Nat × List Nat):=(true,[([],[]),([0],[0]),([],[]),([1,2],[1,2]),([],[]),([3,4],[3,4]),([5],[5]),([6],[6]),([6],[6]),([7,8,6],[6,7,8]),([9,6],[6,9]),([6],[6]),([6],[6]),([11,12,6],[6,11,12]),([13,6],[6,13]),([10,14,6,6],[6,10,14]),([6,15],[6,15])])
def spec_LoopOk.B18:List Nat:=[0,1,0,7,0,31,63,127,127,511,1023,127,127,6271,14463,32767,65535]
theorem spec_LoopOk.tab18:rtab .any (opsOf Tryz.f33 18)=spec_LoopOk.T18:=by kernel_rfl
theorem spec_LoopOk.bits18:waitsOk spec_LoopOk.T18.2 spec_LoopOk.B18=true:=by kernel_rfl
set_option maxHeartbeats 8000000 in
set_option maxRecDepth 100000 in
theorem spec_LoopOk.calls (k:Nat)(A0:Option Addr)(c0:Nat)(l0:List (S70))(r:Bool)(w:World)(hr0:Kd.C k70 w A0 l0.length l0)(hc0:l0.length≤c0)(h:spec_LoopOk.f k l0=some r):
  Calls Tryz.prog 33 #[.slice A0 l0.length c0] w fun e w'=>e=.returned (.bool r)∧Below w.heap.size w w':=by
 have hu83:=Tryz.underlying83;have hu70:=Tryz.underlying70;have HR0:=Aside0.mk hr0;have HC0:=Aside0.mk hc0;clear hr0 hc0;have HB:=a0_ (Below.refl w.heap.size w);have H:((spec_l6In.f (l0.length:Int) 3 8).bind fun t130=>(if t130=true then ((spec_l3Edges.f k l0).bind fun t131=>(spec_LoopOk.l0 k (l0.length:Int) t131 0)) else (some false)))=some r:=h;clear h;replace H:=Option.bind_eq_some_iff.mp H;obtain⟨t130,A20,H⟩:=H
 (try dsimp only at H)
 have A2:=Aside0.mk A20;clear A20;by_cases c3:t130=true
 ·
  subst c3;rw [if_pos rfl] at H
  (try dsimp only at H)
  replace H:=Option.bind_eq_some_iff.mp H;obtain⟨t131,A40,H⟩:=H
  (try dsimp only at H)
  have A4:=Aside0.mk A40;clear A40;have H':=Aside0.mk H;clear H;go_enter Tryz.func33,Tryz.ntmps33;go_wp2_with (first | ((with_reducible refine gate_callee (f:=32) rfl ?_);refine gL_ (some 11) Tryz.func32 #[.int .i64 (l0.length:Int),.int .i64 3,.int .i64 8] (h:=?_);(with_reducible refine (spec_l6In.calls (l0.length:Int) 3 8 true _ A2.out).mono ?_);rintro e w' ⟨rfl,⟨nd,rfl⟩⟩;refine⟨_,rfl,?_⟩) | ((with_reducible refine gate_callee (f:=49) rfl ?_);refine gL_ (some 14) Tryz.func49 #[.slice A0 l0.length c0] (h:=?_);(with_reducible refine (spec_l3Edges.calls k _ _ l0 t131 _ ?side1 ?side2 A4.out).mono ?_);(case side1=>repeat (first | exact HR0.out | (with_reducible refine Kd.C_alloc ?_ _) | (with_reducible refine Kd.C_drewN ?_ _) | (with_reducible refine Kd.C_drew ?_)));(case side2=>exact HC0.out);rintro e w5 ⟨v132,rfl,ho0,hb⟩;refine⟨_,rfl,?_⟩;have HO133:=a0_ (Kd.R_lower ho0 (below_size hB_));replace HB:=sb_ HB hb;(try clear ho0 hb)));go_loopg [5] k (fun kq v5 w'=>∃ (x5_1:Int),v5=.int .i64 x5_1∧Aside0 (spec_LoopOk.l0 kq (l0.length:Int) t131 x5_1=some r)∧Aside0 (kq≤k)∧Aside0 (Kd.R k83 83 w' w.heap.size (fun _=>True) v132 t131)∧Aside0 (Below w.heap.size w w'))
  case atStart=>exact⟨(0),(by first | rfl | (simp;done) | (simp [*];done)),H',⟨Nat.le_refl _⟩,⟨by (with_reducible repeat (first | apply Kd.R_alloc | apply Kd.R_drewN | apply Kd.R_drew));exact HO133.out⟩,⟨hB_⟩⟩
  case round =>
   clear H';obtain⟨x5_1,rfl,HA,HK1,HO_4,HB⟩:=hrel
   cases gk with
   | zero=>exact absurd HA.out (by simp [spec_LoopOk.l0])
   | succ k1 =>
    have H:=HA.out;clear HA;simp only [spec_LoopOk.l0] at H;by_cases c6:x5_1<(l0.length:Int)
    ·
     rw [if_pos c6] at H;have c6b0:decide (x5_1<(l0.length:Int))=true:=decide_eq_true c6;clear c6;by_cases c7:0≤x5_1
     ·
      rw [if_pos c7] at H;have c7b0:decide (0≤x5_1)=true:=decide_eq_true c7;clear c7;by_cases c8:x5_1<(t131.length:Int)
      ·
       rw [if_pos c8] at H;have c8b0:decide (x5_1<(t131.length:Int))=true:=decide_eq_true c8;clear c8;replace H:=Option.bind_eq_some_iff.mp H;obtain⟨t135,A90,H⟩:=H
       (try dsimp only at H)
       have A9:=Aside0.mk A90;clear A90;by_cases c10:t135=true
       ·
        subst c10;rw [if_pos rfl] at H
        (try dsimp only at H)
        have H':=Aside0.mk H;clear H;obtain⟨Ao11,co11,eo11⟩:=Kd.R_slice HO_4.out;subst eo11;have p134:0≤(x5_1:Int):=od_;have q134:x5_1<(t131.length:Int):=od_;obtain⟨ad134,e134,hx134_0,hx134_1,hx134_2,hx134_3⟩:=at_T83 (Kd.R_reads' HO_4.out).2.2 x5_1 p134 q134;cases e134;replace p134:=eq_true p134;replace q134:=eq_true q134;go_wp2_with (first | ((with_reducible refine gate_callee (f:=50) rfl ?_);refine gL_ (some 24) Tryz.func50 #[.agg #[.int .i64 ((rd_T83 t131 x5_1).f0.f0),.int .i64 ((rd_T83 t131 x5_1).f0.f1),.int .i64 ((rd_T83 t131 x5_1).f1.f0),.int .i64 ((rd_T83 t131 x5_1).f1.f1)]] (h:=?_);(with_reducible refine (spec_SegOk.calls ((rd_T83 t131 x5_1).f0.f0) ((rd_T83 t131 x5_1).f0.f1) ((rd_T83 t131 x5_1).f1.f0) ((rd_T83 t131 x5_1).f1.f1) true _ A9.out).mono ?_);rintro e w12 ⟨rfl,hb⟩;refine⟨_,rfl,?_⟩;replace HO_4:=rb_ HO_4 hb;replace HB:=sb_ HB hb;(try clear hb)));go_roundg k1
        case measure=>have:=HK1.out;omega
        case rel=>exact⟨(wrap64 (x5_1+1)),(by first | rfl | (simp;done) | (simp [*];done)),H',⟨by have:=HK1.out;omega⟩,⟨by (with_reducible repeat (first | apply Kd.R_alloc | apply Kd.R_drewN | apply Kd.R_drew));exact HO_4.out⟩,⟨hB_⟩⟩
       ·
        replace c10:=Bool.eq_false_iff.mpr c10;subst c10;rw [if_neg (show ¬ (false=true) by decide)] at H
        (try dsimp only at H)
        obtain rfl:=Option.some.inj H;obtain⟨Ao13,co13,eo13⟩:=Kd.R_slice HO_4.out;subst eo13;have p134:0≤(x5_1:Int):=od_;have q134:x5_1<(t131.length:Int):=od_;obtain⟨ad134,e134,hx134_0,hx134_1,hx134_2,hx134_3⟩:=at_T83 (Kd.R_reads' HO_4.out).2.2 x5_1 p134 q134;cases e134;replace p134:=eq_true p134;replace q134:=eq_true q134;go_wp2_with (first | ((with_reducible refine gate_callee (f:=50) rfl ?_);refine gL_ (some 24) Tryz.func50 #[.agg #[.int .i64 ((rd_T83 t131 x5_1).f0.f0),.int .i64 ((rd_T83 t131 x5_1).f0.f1),.int .i64 ((rd_T83 t131 x5_1).f1.f0),.int .i64 ((rd_T83 t131 x5_1).f1.f1)]] (h:=?_);(with_reducible refine (spec_SegOk.calls ((rd_T83 t131 x5_1).f0.f0) ((rd_T83 t131 x5_1).f0.f1) ((rd_T83 t131 x5_1).f1.f0) ((rd_T83 t131 x5_1).f1.f1) false _ A9.out).mono ?_);rintro e w14 ⟨rfl,hb⟩;refine⟨_,rfl,?_⟩;replace HO_4:=rb_ HO_4 hb;replace HB:=sb_ HB hb;(try clear hb)));go_ret;exact⟨rr_,hB_⟩
      ·
       rw [if_neg c8] at H;exact absurd H (by simp)
     ·
      rw [if_neg c7] at H;exact absurd H (by simp)
    ·
     rw [if_neg c6] at H;have c6b0:decide (x5_1<(l0.length:Int))=false:=decide_eq_false c6;clear c6;have H':=Aside0.mk H;clear H;go_wp2;go_loopg [6] k1 (fun kq v6 w'=>∃ (x6_2:Int),v6=.int .i64 x6_2∧Aside0 (spec_LoopOk.l1 kq (l0.length:Int) t131 x6_2=some r)∧Aside0 (kq≤k1)∧Aside0 (Kd.R k83 83 w' w.heap.size (fun _=>True) v132 t131)∧Aside0 (Below w.heap.size w w'))
     case atStart=>exact⟨(0),(by first | rfl | (simp;done) | (simp [*];done)),H',⟨Nat.le_refl _⟩,⟨by (with_reducible repeat (first | apply Kd.R_alloc | apply Kd.R_drewN | apply Kd.R_drew));exact HO_4.out⟩,⟨hB_⟩⟩
     case round =>
      clear H';obtain⟨x6_2,rfl,HA,HK2,HO_4,HB⟩:=hrel
      cases gk with
      | zero=>exact absurd HA.out (by simp [spec_LoopOk.l1])
      | succ k2 =>
       have H:=HA.out;clear HA;simp only [spec_LoopOk.l1] at H;by_cases c15:x6_2<(l0.length:Int)
       ·
        rw [if_pos c15] at H;have c15b0:decide (x6_2<(l0.length:Int))=true:=decide_eq_true c15;clear c15;have HC16:=Aside0.mk H;clear H;go_upto_region 13 with (fail)
        go_cut [58] (fun v58 wc=>∃ (kq:Nat) (x58_15:Bool),v58=.bool x58_15∧Aside0 (spec_LoopOk.j2 kq (l0.length:Int) t131 x6_2 x58_15=some r)∧Aside0 (kq≤k2)∧Aside0 (Kd.R k83 83 wc w.heap.size (fun _=>True) v132 t131)∧Aside0 (Below w.heap.size w wc))
        case first =>
         have H:=HC16.out;clear HC16;by_cases c17:0≤x6_2
         ·
          rw [if_pos c17] at H;have c17b0:decide (0≤x6_2)=true:=decide_eq_true c17;clear c17
          (first | rw [c17b0] | (simp only [i64_w,i32_w];rw [c17b0]) | skip)
          by_cases c18:x6_2<(t131.length:Int)
          ·
           rw [if_pos c18] at H;have c18b0:decide (x6_2<(t131.length:Int))=true:=decide_eq_true c18;clear c18;by_cases c19:(l0.length:Int)=0
           ·
            rw [if_pos c19] at H;exact absurd H (by simp)
           ·
            rw [if_neg c19] at H;have c19b0:((l0.length:Int)==0)=false:=beq_eq_false_iff_ne.mpr c19;have c19b1:((l0.length:Int) != 0)=true:=bne_iff_ne.mpr c19;have c19b2:¬ (l0=[]):=fun h_=>c19 (by rw [h_];rfl)
            obtain⟨ji20,hji20⟩:∃ j_:Int,(Int.tmod (wrap64 (x6_2+1)) (l0.length:Int))=j_:=⟨_,rfl⟩;replace H:(if 0≤(ji20) then (if (ji20)<(t131.length:Int) then ((spec_l2Has.f ((rd_T83 t131 x6_2).f0.f0) ((rd_T83 t131 x6_2).f0.f1) ((rd_T83 t131 x6_2).f1.f0) ((rd_T83 t131 x6_2).f1.f1) ((rd_T83 t131 (ji20)).f1.f0) ((rd_T83 t131 (ji20)).f1.f1)).bind fun t138=>(if t138=true then (spec_LoopOk.j2 k2 (l0.length:Int) t131 x6_2 true) else ((spec_l2Has.f ((rd_T83 t131 (ji20)).f0.f0) ((rd_T83 t131 (ji20)).f0.f1) ((rd_T83 t131 (ji20)).f1.f0) ((rd_T83 t131 (ji20)).f1.f1) ((rd_T83 t131 x6_2).f0.f0) ((rd_T83 t131 x6_2).f0.f1)).bind fun t141=>(spec_LoopOk.j2 k2 (l0.length:Int) t131 x6_2 t141)))) else (none)) else (none))=some r:=by first | (rw [hji20] at H;exact H) | (simp only [hji20] at H ⊢;exact H)
            by_cases c21:0≤(ji20)
            ·
             rw [if_pos c21] at H;have c21b0:decide (0≤(ji20))=true:=decide_eq_true c21;clear c21;by_cases c22:(ji20)<(t131.length:Int)
             ·
              rw [if_pos c22] at H;have c22b0:decide ((ji20)<(t131.length:Int))=true:=decide_eq_true c22;clear c22;replace H:=Option.bind_eq_some_iff.mp H;obtain⟨t138,A230,H⟩:=H
              (try dsimp only at H)
              have A23:=Aside0.mk A230;clear A230;by_cases c24:t138=true
              ·
               subst c24;rw [if_pos rfl] at H
               (try dsimp only at H)
               have H':=Aside0.mk H;clear H
               try go_wp2
               replace HO_4:=a0_ (Kd.R_drew HO_4.out);replace HB:=a0_ (below_drew1 HB.out);obtain⟨Ao26,co26,eo26⟩:=Kd.R_slice HO_4.out
               (first | subst eo26 | (injection eo26 with f1_ f2_ f3_;have f4_:=f1_.symm;have f5_:=f3_.symm;clear f1_ f2_ f3_;subst f4_;subst f5_))
               have p136:0≤(x6_2:Int):=od_;have q136:x6_2<(t131.length:Int):=od_;obtain⟨ad136,e136,hx136_0,hx136_1,hx136_2,hx136_3⟩:=at_T83 (Kd.R_reads' HO_4.out).2.2 x6_2 p136 q136;cases e136;replace p136:=eq_true p136;replace q136:=eq_true q136;have p137:0≤((ji20):Int):=od_;have q137:(ji20)<(t131.length:Int):=od_;obtain⟨ad137,e137,hx137_0,hx137_1,hx137_2,hx137_3⟩:=at_T83 (Kd.R_reads' HO_4.out).2.2 (ji20) p137 q137;obtain rfl:ad136=ad137:=(by injection e137);replace p137:=eq_true p137;replace q137:=eq_true q137;refine start_ (n:=28) (S:=fun w'=>w'.cell? (ad136.add ((x6_2).toNat*4))=some (.int .i64 ((rd_T83 t131 x6_2).f0.f0))∧w'.cell? ⟨(ad136.add ((x6_2).toNat*4)).block,(ad136.add ((x6_2).toNat*4)).off+1,none⟩=some (.int .i64 ((rd_T83 t131 x6_2).f0.f1))∧w'.cell? ⟨(ad136.add ((x6_2).toNat*4)).block,(ad136.add ((x6_2).toNat*4)).off+2,none⟩=some (.int .i64 ((rd_T83 t131 x6_2).f1.f0))∧w'.cell? ⟨(ad136.add ((x6_2).toNat*4)).block,(ad136.add ((x6_2).toNat*4)).off+3,none⟩=some (.int .i64 ((rd_T83 t131 x6_2).f1.f1))∧w'.cell? (ad136.add (((ji20)).toNat*4))=some (.int .i64 ((rd_T83 t131 (ji20)).f0.f0))∧w'.cell? ⟨(ad136.add (((ji20)).toNat*4)).block,(ad136.add (((ji20)).toNat*4)).off+1,none⟩=some (.int .i64 ((rd_T83 t131 (ji20)).f0.f1))∧w'.cell? ⟨(ad136.add (((ji20)).toNat*4)).block,(ad136.add (((ji20)).toNat*4)).off+2,none⟩=some (.int .i64 ((rd_T83 t131 (ji20)).f1.f0))∧w'.cell? ⟨(ad136.add (((ji20)).toNat*4)).block,(ad136.add (((ji20)).toNat*4)).off+3,none⟩=some (.int .i64 ((rd_T83 t131 (ji20)).f1.f1))) (ds:=[]) (Array.replicate 28 false) (by kernel_rfl) rfl rfl ⟨hx136_0,hx136_1,hx136_2,hx136_3,hx137_0,hx137_1,hx137_2,hx137_3⟩ (fun hHeld=>?_);refine with_tabW spec_LoopOk.tab13 spec_LoopOk.bits13 (fun HT_ HW_=>?_)
               generalize wr.drew=w25 at HO_4 HB hx136_0 hx136_1 hx136_2 hx136_3 hx137_0 hx137_1 hx137_2 hx137_3 hHeld ⊢
               refine pu_ HT_ 0 31 (bm 28 1) ?_;refine pu_ HT_ 1 32 (bm 28 3) ?_;refine pu_ HT_ 2 33 (bm 28 7) ?_;refine pu_ HT_ 4 35 (bm 28 23) ?_;refine pu_ HT_ 5 36 (bm 28 55) ?_;refine pu_ HT_ 6 37 (bm 28 119) ?_;refine pu_ HT_ 7 38 (bm 28 247) ?_;refine pu_ HT_ 8 39 (bm 28 503) ?_;refine pu_ HT_ 9 40 (bm 28 1015) ?_;refine pu_ HT_ 10 41 (bm 28 2039) ?_;refine ta8_ HT_ HW_ 3 34 (bm 28 2047) hHeld ?_;refine ta8_ HT_ HW_ 11 42 (bm 28 4095) hHeld ?_;refine one_ (i:=12) (N:=some 43) (bm 28 8191) rfl rfl (one_of HT_.out (by kernel_rfl)) (by decide) (fun K hK=>?_);refine goes_ Tryz.func51 (by kernel_rfl) rfl #[.agg #[.int .i64 ((rd_T83 t131 x6_2).f0.f0),.int .i64 ((rd_T83 t131 x6_2).f0.f1),.int .i64 ((rd_T83 t131 x6_2).f1.f0),.int .i64 ((rd_T83 t131 x6_2).f1.f1)],.agg #[.int .i64 ((rd_T83 t131 (ji20)).f1.f0),.int .i64 ((rd_T83 t131 (ji20)).f1.f1)]] (by rfl) rfl rfl (by (try simp only [List.map_toArray,List.map_cons,List.map_nil]);first | done | (simp only [hji20];rfl) | rfl | (simp only [List.length_drop,List.length_take];rfl)) ?_
               with_reducible refine (spec_l2Has.calls ((rd_T83 t131 x6_2).f0.f0) ((rd_T83 t131 x6_2).f0.f1) ((rd_T83 t131 x6_2).f1.f0) ((rd_T83 t131 x6_2).f1.f1) ((rd_T83 t131 (ji20)).f1.f0) ((rd_T83 t131 (ji20)).f1.f1) true _ A23.out).mono ?_
               rintro e w27 ⟨rfl,hb⟩;have HS0_:=pw_cell_below hb hHeld.1;have HS1_:=pw_cell_below hb hHeld.2.1;have HS2_:=pw_cell_below hb hHeld.2.2.1;have HS3_:=pw_cell_below hb hHeld.2.2.2.1;have HS4_:=pw_cell_below hb hHeld.2.2.2.2.1;have HS5_:=pw_cell_below hb hHeld.2.2.2.2.2.1;have HS6_:=pw_cell_below hb hHeld.2.2.2.2.2.2.1;have HS7_:=pw_cell_below hb hHeld.2.2.2.2.2.2.2;refine⟨_,rfl,?_⟩;replace HO_4:=rb_ HO_4 hb;replace HB:=sb_ HB hb
               (try clear hb)
               (try clear hb2)
               (try clear hk)
               (try clear hi)
               refine hK.out _ _ ⟨HS0_,HS1_,HS2_,HS3_,HS4_,HS5_,HS6_,HS7_⟩ (fun hHeld=>?_);clear hK K;refine no_ (h:=?_);refine pu_ HT_ 13 44 (bm 28 16383) ?_;refine pz_ HT_ 14 45 (bm 28 32767) ?_;refine pz_ HT_ 15 46 (bm 28 65535) ?_;refine pz_ HT_ 16 47 (bm 28 131071) ?_;refine pz_ HT_ 17 48 (bm 28 262143) ?_;refine pz_ HT_ 18 49 (bm 28 524287) ?_;refine pz_ HT_ 19 50 (bm 28 1048575) ?_;refine pz_ HT_ 20 51 (bm 28 2097151) ?_;refine pz_ HT_ 21 52 (bm 28 4194303) ?_;refine pz_ HT_ 22 53 (bm 28 8388607) ?_;refine pz_ HT_ 23 54 (bm 28 16777215) ?_;refine pz_ HT_ 24 55 (bm 28 33554431) ?_;refine pz_ HT_ 25 56 (bm 28 67108863) ?_;refine pz_ HT_ 26 57 (bm 28 134217727) ?_;refine pu_ HT_ 27 58 (bm 28 268435455) ?_;refine done_ (done_of HT_.out (by kernel_rfl)) ?_
               try go_wp2
               go_meet
               case rel=>exact⟨_,(true),(by first | rfl | (simp;done) | (simp [*];done)),H',⟨by have:=HK1.out;have:=HK2.out;first | omega | exact Nat.le_refl _⟩,⟨by (with_reducible repeat (first | apply Kd.R_alloc | apply Kd.R_drewN | apply Kd.R_drew));exact HO_4.out⟩,⟨hB_⟩⟩
              ·
               replace c24:=Bool.eq_false_iff.mpr c24;subst c24;rw [if_neg (show ¬ (false=true) by decide)] at H
               (try dsimp only at H)
               replace H:=Option.bind_eq_some_iff.mp H;obtain⟨t141,A280,H⟩:=H
               (try dsimp only at H)
               have A28:=Aside0.mk A280;clear A280;have H':=Aside0.mk H;clear H
               try go_wp2
               replace HO_4:=a0_ (Kd.R_drew HO_4.out);replace HB:=a0_ (below_drew1 HB.out);obtain⟨Ao30,co30,eo30⟩:=Kd.R_slice HO_4.out
               (first | subst eo30 | (injection eo30 with f1_ f2_ f3_;have f4_:=f1_.symm;have f5_:=f3_.symm;clear f1_ f2_ f3_;subst f4_;subst f5_))
               have p136:0≤(x6_2:Int):=od_;have q136:x6_2<(t131.length:Int):=od_;obtain⟨ad136,e136,hx136_0,hx136_1,hx136_2,hx136_3⟩:=at_T83 (Kd.R_reads' HO_4.out).2.2 x6_2 p136 q136;cases e136;replace p136:=eq_true p136;replace q136:=eq_true q136;have p137:0≤((ji20):Int):=od_;have q137:(ji20)<(t131.length:Int):=od_;obtain⟨ad137,e137,hx137_0,hx137_1,hx137_2,hx137_3⟩:=at_T83 (Kd.R_reads' HO_4.out).2.2 (ji20) p137 q137;obtain rfl:ad136=ad137:=(by injection e137);replace p137:=eq_true p137;replace q137:=eq_true q137;have p139:0≤((ji20):Int):=od_;have q139:(ji20)<(t131.length:Int):=od_;obtain⟨ad139,e139,hx139_0,hx139_1,hx139_2,hx139_3⟩:=at_T83 (Kd.R_reads' HO_4.out).2.2 (ji20) p139 q139;obtain rfl:ad136=ad139:=(by injection e139);replace p139:=eq_true p139;replace q139:=eq_true q139;have p140:0≤(x6_2:Int):=od_;have q140:x6_2<(t131.length:Int):=od_;obtain⟨ad140,e140,hx140_0,hx140_1,hx140_2,hx140_3⟩:=at_T83 (Kd.R_reads' HO_4.out).2.2 x6_2 p140 q140;obtain rfl:ad136=ad140:=(by injection e140);replace p140:=eq_true p140;replace q140:=eq_true q140
               refine start_ (n:=28) (S:=fun w'=>w'.cell? (ad136.add ((x6_2).toNat*4))=some (.int .i64 ((rd_T83 t131 x6_2).f0.f0))∧w'.cell? ⟨(ad136.add ((x6_2).toNat*4)).block,(ad136.add ((x6_2).toNat*4)).off+1,none⟩=some (.int .i64 ((rd_T83 t131 x6_2).f0.f1))∧w'.cell? ⟨(ad136.add ((x6_2).toNat*4)).block,(ad136.add ((x6_2).toNat*4)).off+2,none⟩=some (.int .i64 ((rd_T83 t131 x6_2).f1.f0))∧w'.cell? ⟨(ad136.add ((x6_2).toNat*4)).block,(ad136.add ((x6_2).toNat*4)).off+3,none⟩=some (.int .i64 ((rd_T83 t131 x6_2).f1.f1))∧w'.cell? (ad136.add (((ji20)).toNat*4))=some (.int .i64 ((rd_T83 t131 (ji20)).f0.f0))∧w'.cell? ⟨(ad136.add (((ji20)).toNat*4)).block,(ad136.add (((ji20)).toNat*4)).off+1,none⟩=some (.int .i64 ((rd_T83 t131 (ji20)).f0.f1))∧w'.cell? ⟨(ad136.add (((ji20)).toNat*4)).block,(ad136.add (((ji20)).toNat*4)).off+2,none⟩=some (.int .i64 ((rd_T83 t131 (ji20)).f1.f0))∧w'.cell? ⟨(ad136.add (((ji20)).toNat*4)).block,(ad136.add (((ji20)).toNat*4)).off+3,none⟩=some (.int .i64 ((rd_T83 t131 (ji20)).f1.f1))∧w'.cell? (ad136.add (((ji20)).toNat*4))=some (.int .i64 ((rd_T83 t131 (ji20)).f0.f0))∧w'.cell? ⟨(ad136.add (((ji20)).toNat*4)).block,(ad136.add (((ji20)).toNat*4)).off+1,none⟩=some (.int .i64 ((rd_T83 t131 (ji20)).f0.f1))∧w'.cell? ⟨(ad136.add (((ji20)).toNat*4)).block,(ad136.add (((ji20)).toNat*4)).off+2,none⟩=some (.int .i64 ((rd_T83 t131 (ji20)).f1.f0))∧w'.cell? ⟨(ad136.add (((ji20)).toNat*4)).block,(ad136.add (((ji20)).toNat*4)).off+3,none⟩=some (.int .i64 ((rd_T83 t131 (ji20)).f1.f1))∧w'.cell? (ad136.add ((x6_2).toNat*4))=some (.int .i64 ((rd_T83 t131 x6_2).f0.f0))∧w'.cell? ⟨(ad136.add ((x6_2).toNat*4)).block,(ad136.add ((x6_2).toNat*4)).off+1,none⟩=some (.int .i64 ((rd_T83 t131 x6_2).f0.f1))∧w'.cell? ⟨(ad136.add ((x6_2).toNat*4)).block,(ad136.add ((x6_2).toNat*4)).off+2,none⟩=some (.int .i64 ((rd_T83 t131 x6_2).f1.f0))∧w'.cell? ⟨(ad136.add ((x6_2).toNat*4)).block,(ad136.add ((x6_2).toNat*4)).off+3,none⟩=some (.int .i64 ((rd_T83 t131 x6_2).f1.f1))) (ds:=[]) (Array.replicate 28 false) (by kernel_rfl) rfl rfl ⟨hx136_0,hx136_1,hx136_2,hx136_3,hx137_0,hx137_1,hx137_2,hx137_3,hx139_0,hx139_1,hx139_2,hx139_3,hx140_0,hx140_1,hx140_2,hx140_3⟩ (fun hHeld=>?_);refine with_tabW spec_LoopOk.tab13 spec_LoopOk.bits13 (fun HT_ HW_=>?_)
               generalize wr.drew=w29 at HO_4 HB hx136_0 hx136_1 hx136_2 hx136_3 hx137_0 hx137_1 hx137_2 hx137_3 hx139_0 hx139_1 hx139_2 hx139_3 hx140_0 hx140_1 hx140_2 hx140_3 hHeld ⊢
               refine pu_ HT_ 0 31 (bm 28 1) ?_;refine pu_ HT_ 1 32 (bm 28 3) ?_;refine pu_ HT_ 2 33 (bm 28 7) ?_;refine pu_ HT_ 4 35 (bm 28 23) ?_;refine pu_ HT_ 5 36 (bm 28 55) ?_;refine pu_ HT_ 6 37 (bm 28 119) ?_;refine pu_ HT_ 7 38 (bm 28 247) ?_;refine pu_ HT_ 8 39 (bm 28 503) ?_;refine pu_ HT_ 9 40 (bm 28 1015) ?_;refine pu_ HT_ 10 41 (bm 28 2039) ?_;refine ta16_ HT_ HW_ 3 34 (bm 28 2047) hHeld ?_;refine ta16_ HT_ HW_ 11 42 (bm 28 4095) hHeld ?_;refine one_ (i:=12) (N:=some 43) (bm 28 8191) rfl rfl (one_of HT_.out (by kernel_rfl)) (by decide) (fun K hK=>?_);refine goes_ Tryz.func51 (by kernel_rfl) rfl #[.agg #[.int .i64 ((rd_T83 t131 x6_2).f0.f0),.int .i64 ((rd_T83 t131 x6_2).f0.f1),.int .i64 ((rd_T83 t131 x6_2).f1.f0),.int .i64 ((rd_T83 t131 x6_2).f1.f1)],.agg #[.int .i64 ((rd_T83 t131 (ji20)).f1.f0),.int .i64 ((rd_T83 t131 (ji20)).f1.f1)]] (by rfl) rfl rfl (by (try simp only [List.map_toArray,List.map_cons,List.map_nil]);first | done | (simp only [hji20];rfl) | rfl | (simp only [List.length_drop,List.length_take];rfl)) ?_
               with_reducible refine (spec_l2Has.calls ((rd_T83 t131 x6_2).f0.f0) ((rd_T83 t131 x6_2).f0.f1) ((rd_T83 t131 x6_2).f1.f0) ((rd_T83 t131 x6_2).f1.f1) ((rd_T83 t131 (ji20)).f1.f0) ((rd_T83 t131 (ji20)).f1.f1) false _ A23.out).mono ?_
               rintro e w31 ⟨rfl,hb⟩;have HS0_:=pw_cell_below hb hHeld.1;have HS1_:=pw_cell_below hb hHeld.2.1;have HS2_:=pw_cell_below hb hHeld.2.2.1;have HS3_:=pw_cell_below hb hHeld.2.2.2.1;have HS4_:=pw_cell_below hb hHeld.2.2.2.2.1;have HS5_:=pw_cell_below hb hHeld.2.2.2.2.2.1;have HS6_:=pw_cell_below hb hHeld.2.2.2.2.2.2.1;have HS7_:=pw_cell_below hb hHeld.2.2.2.2.2.2.2.1;have HS8_:=pw_cell_below hb hHeld.2.2.2.2.2.2.2.2.1;have HS9_:=pw_cell_below hb hHeld.2.2.2.2.2.2.2.2.2.1;have HS10_:=pw_cell_below hb hHeld.2.2.2.2.2.2.2.2.2.2.1;have HS11_:=pw_cell_below hb hHeld.2.2.2.2.2.2.2.2.2.2.2.1;have HS12_:=pw_cell_below hb hHeld.2.2.2.2.2.2.2.2.2.2.2.2.1;have HS13_:=pw_cell_below hb hHeld.2.2.2.2.2.2.2.2.2.2.2.2.2.1;have HS14_:=pw_cell_below hb hHeld.2.2.2.2.2.2.2.2.2.2.2.2.2.2.1;have HS15_:=pw_cell_below hb hHeld.2.2.2.2.2.2.2.2.2.2.2.2.2.2.2;refine⟨_,rfl,?_⟩;replace HO_4:=rb_ HO_4 hb;replace HB:=sb_ HB hb
               (try clear hb)
               (try clear hb2)
               (try clear hk)
               (try clear hi)
               refine hK.out _ _ ⟨HS0_,HS1_,HS2_,HS3_,HS4_,HS5_,HS6_,HS7_,HS8_,HS9_,HS10_,HS11_,HS12_,HS13_,HS14_,HS15_⟩ (fun hHeld=>?_);clear hK K;refine no_ (h:=?_);refine pu_ HT_ 13 44 (bm 28 16383) ?_;refine pu_ HT_ 14 45 (bm 28 32767) ?_;refine pu_ HT_ 15 46 (bm 28 65535) ?_;refine pu_ HT_ 16 47 (bm 28 131071) ?_;refine pu_ HT_ 17 48 (bm 28 262143) ?_;refine pu_ HT_ 18 49 (bm 28 524287) ?_;refine pu_ HT_ 19 50 (bm 28 1048575) ?_;refine pu_ HT_ 21 52 (bm 28 3145727) ?_;refine pu_ HT_ 22 53 (bm 28 7340031) ?_;refine pu_ HT_ 23 54 (bm 28 15728639) ?_;refine pu_ HT_ 24 55 (bm 28 32505855) ?_;refine ta16_ HT_ HW_ 20 51 (bm 28 33554431) hHeld ?_;refine ta16_ HT_ HW_ 25 56 (bm 28 67108863) hHeld ?_;refine one_ (i:=26) (N:=some 57) (bm 28 134217727) rfl rfl (one_of HT_.out (by kernel_rfl)) (by decide) (fun K hK=>?_);refine goes_ Tryz.func51 (by kernel_rfl) rfl #[.agg #[.int .i64 ((rd_T83 t131 (ji20)).f0.f0),.int .i64 ((rd_T83 t131 (ji20)).f0.f1),.int .i64 ((rd_T83 t131 (ji20)).f1.f0),.int .i64 ((rd_T83 t131 (ji20)).f1.f1)],.agg #[.int .i64 ((rd_T83 t131 x6_2).f0.f0),.int .i64 ((rd_T83 t131 x6_2).f0.f1)]] (by rfl) rfl rfl (by (try simp only [List.map_toArray,List.map_cons,List.map_nil]);first | done | (simp only [hji20];rfl) | rfl | (simp only [List.length_drop,List.length_take];rfl)) ?_
               with_reducible refine (spec_l2Has.calls ((rd_T83 t131 (ji20)).f0.f0) ((rd_T83 t131 (ji20)).f0.f1) ((rd_T83 t131 (ji20)).f1.f0) ((rd_T83 t131 (ji20)).f1.f1) ((rd_T83 t131 x6_2).f0.f0) ((rd_T83 t131 x6_2).f0.f1) t141 _ A28.out).mono ?_
               rintro e w32 ⟨rfl,hb⟩;have HS0_:=pw_cell_below hb hHeld.1;have HS1_:=pw_cell_below hb hHeld.2.1;have HS2_:=pw_cell_below hb hHeld.2.2.1;have HS3_:=pw_cell_below hb hHeld.2.2.2.1;have HS4_:=pw_cell_below hb hHeld.2.2.2.2.1;have HS5_:=pw_cell_below hb hHeld.2.2.2.2.2.1;have HS6_:=pw_cell_below hb hHeld.2.2.2.2.2.2.1;have HS7_:=pw_cell_below hb hHeld.2.2.2.2.2.2.2.1;have HS8_:=pw_cell_below hb hHeld.2.2.2.2.2.2.2.2.1;have HS9_:=pw_cell_below hb hHeld.2.2.2.2.2.2.2.2.2.1;have HS10_:=pw_cell_below hb hHeld.2.2.2.2.2.2.2.2.2.2.1;have HS11_:=pw_cell_below hb hHeld.2.2.2.2.2.2.2.2.2.2.2.1;have HS12_:=pw_cell_below hb hHeld.2.2.2.2.2.2.2.2.2.2.2.2.1;have HS13_:=pw_cell_below hb hHeld.2.2.2.2.2.2.2.2.2.2.2.2.2.1;have HS14_:=pw_cell_below hb hHeld.2.2.2.2.2.2.2.2.2.2.2.2.2.2.1;have HS15_:=pw_cell_below hb hHeld.2.2.2.2.2.2.2.2.2.2.2.2.2.2.2;refine⟨_,rfl,?_⟩;replace HO_4:=rb_ HO_4 hb;replace HB:=sb_ HB hb
               (try clear hb)
               (try clear hb2)
               (try clear hk)
               (try clear hi)
               refine hK.out _ _ ⟨HS0_,HS1_,HS2_,HS3_,HS4_,HS5_,HS6_,HS7_,HS8_,HS9_,HS10_,HS11_,HS12_,HS13_,HS14_,HS15_⟩ (fun hHeld=>?_);clear hK K;refine no_ (h:=?_);refine pu_ HT_ 27 58 (bm 28 268435455) ?_;refine done_ (done_of HT_.out (by kernel_rfl)) ?_
               try go_wp2
               go_meet
               case rel=>exact⟨_,(t141),(by first | rfl | (simp;done) | (simp [*];done)),H',⟨by have:=HK1.out;have:=HK2.out;first | omega | exact Nat.le_refl _⟩,⟨by (with_reducible repeat (first | apply Kd.R_alloc | apply Kd.R_drewN | apply Kd.R_drew));exact HO_4.out⟩,⟨hB_⟩⟩
             ·
              rw [if_neg c22] at H;exact absurd H (by simp)
            ·
             rw [if_neg c21] at H;exact absurd H (by simp)
          ·
           rw [if_neg c18] at H;exact absurd H (by simp)
         ·
          rw [if_neg c17] at H;exact absurd H (by simp)
        case rest =>
         clear HC16;obtain⟨kq,x58_15,rfl,HA,HJ15,HO_4,HB⟩:=hcut
         cases kq with
         | zero=>exact absurd HA.out (by simp [spec_LoopOk.j2])
         | succ kj15 =>
          have H:=HA.out;clear HA;simp only [spec_LoopOk.j2] at H;by_cases c33:x58_15=true
          ·
           subst c33;rw [if_pos rfl] at H
           (try dsimp only at H)
           obtain rfl:=Option.some.inj H;go_wp2;go_ret;exact⟨rr_,hB_⟩
          ·
           replace c33:=Bool.eq_false_iff.mpr c33;subst c33;rw [if_neg (show ¬ (false=true) by decide)] at H
           (try dsimp only at H)
           have H':=Aside0.mk H;clear H;go_wp2;go_loopg [7] kj15 (fun kq v7 w'=>∃ (x7_4:Int),v7=.int .i64 x7_4∧Aside0 (spec_LoopOk.l2 kq (l0.length:Int) t131 x6_2 x7_4=some r)∧Aside0 (kq≤kj15)∧Aside0 (Kd.R k83 83 w' w.heap.size (fun _=>True) v132 t131)∧Aside0 (Below w.heap.size w w'))
           case atStart=>exact⟨(wrap64 (x6_2+2)),(by first | rfl | (simp;done) | (simp [*];done)),H',⟨Nat.le_refl _⟩,⟨by (with_reducible repeat (first | apply Kd.R_alloc | apply Kd.R_drewN | apply Kd.R_drew));exact HO_4.out⟩,⟨hB_⟩⟩
           case round =>
            clear H';obtain⟨x7_4,rfl,HA,HK4,HO_4,HB⟩:=hrel
            cases gk with
            | zero=>exact absurd HA.out (by simp [spec_LoopOk.l2])
            | succ k4 =>
             have H:=HA.out;clear HA;simp only [spec_LoopOk.l2] at H;by_cases c34:x7_4<(l0.length:Int)
             ·
              rw [if_pos c34] at H;have c34b0:decide (x7_4<(l0.length:Int))=true:=decide_eq_true c34;clear c34;by_cases c35:(l0.length:Int)=0
              ·
               rw [if_pos c35] at H;exact absurd H (by simp)
              ·
               rw [if_neg c35] at H;have c35b0:((l0.length:Int)==0)=false:=beq_eq_false_iff_ne.mpr c35;have c35b1:((l0.length:Int) != 0)=true:=bne_iff_ne.mpr c35;have c35b2:¬ (l0=[]):=fun h_=>c35 (by rw [h_];rfl)
               by_cases c36:(Int.tmod (wrap64 (x7_4+1)) (l0.length:Int))=x6_2
               ·
                rw [if_pos c36] at H;have c36b0:((Int.tmod (wrap64 (x7_4+1)) (l0.length:Int))==x6_2)=true:=beq_iff_eq.mpr c36;have c36b1:((Int.tmod (wrap64 (x7_4+1)) (l0.length:Int)) != x6_2)=false:=bne_eq_false_iff_eq.mpr c36;clear c36;have H':=Aside0.mk H;clear H
                try go_wp2
                replace HO_4:=a0_ (Kd.R_drew HO_4.out);replace HB:=a0_ (below_drew1 HB.out);refine start_ (n:=17) (S:=fun w'=>True) (ds:=[]) (Array.replicate 17 false) (by kernel_rfl) rfl rfl trivial (fun hHeld=>?_);refine with_tabW spec_LoopOk.tab18 spec_LoopOk.bits18 (fun HT_ HW_=>?_);generalize wr.drew=w37 at HO_4 HB hHeld ⊢
                refine pu_ HT_ 0 66 (bm 17 1) ?_;refine pu_ HT_ 1 67 (bm 17 3) ?_;refine pu_ HT_ 2 68 (bm 17 7) ?_;refine pu_ HT_ 3 69 (bm 17 15) ?_;refine pu_ HT_ 4 70 (bm 17 31) ?_;refine pu_ HT_ 5 71 (bm 17 63) ?_;refine pu_ HT_ 6 72 (bm 17 127) ?_;refine pz_ HT_ 7 73 (bm 17 255) ?_;refine pz_ HT_ 8 74 (bm 17 511) ?_;refine pz_ HT_ 9 75 (bm 17 1023) ?_;refine pz_ HT_ 10 76 (bm 17 2047) ?_;refine pz_ HT_ 11 77 (bm 17 4095) ?_;refine pz_ HT_ 12 78 (bm 17 8191) ?_;refine pz_ HT_ 13 79 (bm 17 16383) ?_;refine pz_ HT_ 14 80 (bm 17 32767) ?_;refine pz_ HT_ 15 81 (bm 17 65535) ?_;refine pu_ HT_ 16 82 (bm 17 131071) ?_;refine done_ (done_of HT_.out (by kernel_rfl)) ?_
                try go_wp2
                go_roundg k4
                case measure=>have:=HK1.out;have:=HK2.out;have:=HJ15.out;have:=HK4.out;omega
                case rel=>exact⟨(wrap64 (x7_4+1)),(by first | rfl | (simp;done) | (simp [*];done)),H',⟨by have:=HK1.out;have:=HK2.out;have:=HJ15.out;have:=HK4.out;omega⟩,⟨by (with_reducible repeat (first | apply Kd.R_alloc | apply Kd.R_drewN | apply Kd.R_drew));exact HO_4.out⟩,⟨hB_⟩⟩
               ·
                rw [if_neg c36] at H;have c36b0:((Int.tmod (wrap64 (x7_4+1)) (l0.length:Int))==x6_2)=false:=beq_eq_false_iff_ne.mpr c36;have c36b1:((Int.tmod (wrap64 (x7_4+1)) (l0.length:Int)) != x6_2)=true:=bne_iff_ne.mpr c36;by_cases c38:0≤x6_2
                ·
                 rw [if_pos c38] at H;have c38b0:decide (0≤x6_2)=true:=decide_eq_true c38;clear c38;by_cases c39:x6_2<(t131.length:Int)
                 ·
                  rw [if_pos c39] at H;have c39b0:decide (x6_2<(t131.length:Int))=true:=decide_eq_true c39;clear c39;by_cases c40:0≤x7_4
                  ·
                   rw [if_pos c40] at H;have c40b0:decide (0≤x7_4)=true:=decide_eq_true c40;clear c40;by_cases c41:x7_4<(t131.length:Int)
                   ·
                    rw [if_pos c41] at H;have c41b0:decide (x7_4<(t131.length:Int))=true:=decide_eq_true c41;clear c41;replace H:=Option.bind_eq_some_iff.mp H;obtain⟨t144,A420,H⟩:=H
                    (try dsimp only at H)
                    have A42:=Aside0.mk A420;clear A420;by_cases c43:t144=true
                    ·
                     subst c43;rw [if_pos rfl] at H
                     (try dsimp only at H)
                     obtain rfl:=Option.some.inj H
                     try go_wp2
                     replace HO_4:=a0_ (Kd.R_drew HO_4.out);replace HB:=a0_ (below_drew1 HB.out);obtain⟨Ao45,co45,eo45⟩:=Kd.R_slice HO_4.out
                     (first | subst eo45 | (injection eo45 with f1_ f2_ f3_;have f4_:=f1_.symm;have f5_:=f3_.symm;clear f1_ f2_ f3_;subst f4_;subst f5_))
                     have p142:0≤(x6_2:Int):=od_;have q142:x6_2<(t131.length:Int):=od_;obtain⟨ad142,e142,hx142_0,hx142_1,hx142_2,hx142_3⟩:=at_T83 (Kd.R_reads' HO_4.out).2.2 x6_2 p142 q142;cases e142;replace p142:=eq_true p142;replace q142:=eq_true q142;have p143:0≤(x7_4:Int):=od_;have q143:x7_4<(t131.length:Int):=od_;obtain⟨ad143,e143,hx143_0,hx143_1,hx143_2,hx143_3⟩:=at_T83 (Kd.R_reads' HO_4.out).2.2 x7_4 p143 q143;obtain rfl:ad142=ad143:=(by injection e143);replace p143:=eq_true p143;replace q143:=eq_true q143;refine start_ (n:=17) (S:=fun w'=>w'.cell? (ad142.add ((x6_2).toNat*4))=some (.int .i64 ((rd_T83 t131 x6_2).f0.f0))∧w'.cell? ⟨(ad142.add ((x6_2).toNat*4)).block,(ad142.add ((x6_2).toNat*4)).off+1,none⟩=some (.int .i64 ((rd_T83 t131 x6_2).f0.f1))∧w'.cell? ⟨(ad142.add ((x6_2).toNat*4)).block,(ad142.add ((x6_2).toNat*4)).off+2,none⟩=some (.int .i64 ((rd_T83 t131 x6_2).f1.f0))∧w'.cell? ⟨(ad142.add ((x6_2).toNat*4)).block,(ad142.add ((x6_2).toNat*4)).off+3,none⟩=some (.int .i64 ((rd_T83 t131 x6_2).f1.f1))∧w'.cell? (ad142.add ((x7_4).toNat*4))=some (.int .i64 ((rd_T83 t131 x7_4).f0.f0))∧w'.cell? ⟨(ad142.add ((x7_4).toNat*4)).block,(ad142.add ((x7_4).toNat*4)).off+1,none⟩=some (.int .i64 ((rd_T83 t131 x7_4).f0.f1))∧w'.cell? ⟨(ad142.add ((x7_4).toNat*4)).block,(ad142.add ((x7_4).toNat*4)).off+2,none⟩=some (.int .i64 ((rd_T83 t131 x7_4).f1.f0))∧w'.cell? ⟨(ad142.add ((x7_4).toNat*4)).block,(ad142.add ((x7_4).toNat*4)).off+3,none⟩=some (.int .i64 ((rd_T83 t131 x7_4).f1.f1))) (ds:=[]) (Array.replicate 17 false) (by kernel_rfl) rfl rfl ⟨hx142_0,hx142_1,hx142_2,hx142_3,hx143_0,hx143_1,hx143_2,hx143_3⟩ (fun hHeld=>?_);refine with_tabW spec_LoopOk.tab18 spec_LoopOk.bits18 (fun HT_ HW_=>?_)
                     generalize wr.drew=w44 at HO_4 HB hx142_0 hx142_1 hx142_2 hx142_3 hx143_0 hx143_1 hx143_2 hx143_3 hHeld ⊢
                     refine pu_ HT_ 0 66 (bm 17 1) ?_;refine pu_ HT_ 1 67 (bm 17 3) ?_;refine pu_ HT_ 2 68 (bm 17 7) ?_;refine pu_ HT_ 3 69 (bm 17 15) ?_;refine pu_ HT_ 4 70 (bm 17 31) ?_;refine pu_ HT_ 5 71 (bm 17 63) ?_;refine pu_ HT_ 6 72 (bm 17 127) ?_;refine pu_ HT_ 7 73 (bm 17 255) ?_;refine pu_ HT_ 8 74 (bm 17 511) ?_;refine pu_ HT_ 9 75 (bm 17 1023) ?_;refine pu_ HT_ 11 77 (bm 17 3071) ?_;refine pu_ HT_ 12 78 (bm 17 7167) ?_;refine pu_ HT_ 13 79 (bm 17 15359) ?_;refine ta8_ HT_ HW_ 10 76 (bm 17 16383) hHeld ?_;refine ta8_ HT_ HW_ 14 80 (bm 17 32767) hHeld ?_;refine one_ (i:=15) (N:=some 81) (bm 17 65535) rfl rfl (one_of HT_.out (by kernel_rfl)) (by decide) (fun K hK=>?_);refine goes_ Tryz.func52 (by kernel_rfl) rfl #[.agg #[.int .i64 ((rd_T83 t131 x6_2).f0.f0),.int .i64 ((rd_T83 t131 x6_2).f0.f1),.int .i64 ((rd_T83 t131 x6_2).f1.f0),.int .i64 ((rd_T83 t131 x6_2).f1.f1)],.agg #[.int .i64 ((rd_T83 t131 x7_4).f0.f0),.int .i64 ((rd_T83 t131 x7_4).f0.f1),.int .i64 ((rd_T83 t131 x7_4).f1.f0),.int .i64 ((rd_T83 t131 x7_4).f1.f1)]] (by rfl) rfl rfl ma_ ?_
                     with_reducible refine (spec_l2Meet.calls ((rd_T83 t131 x6_2).f0.f0) ((rd_T83 t131 x6_2).f0.f1) ((rd_T83 t131 x6_2).f1.f0) ((rd_T83 t131 x6_2).f1.f1) ((rd_T83 t131 x7_4).f0.f0) ((rd_T83 t131 x7_4).f0.f1) ((rd_T83 t131 x7_4).f1.f0) ((rd_T83 t131 x7_4).f1.f1) true _ A42.out).mono ?_
                     rintro e w46 ⟨rfl,hb⟩;have HS0_:=pw_cell_below hb hHeld.1;have HS1_:=pw_cell_below hb hHeld.2.1;have HS2_:=pw_cell_below hb hHeld.2.2.1;have HS3_:=pw_cell_below hb hHeld.2.2.2.1;have HS4_:=pw_cell_below hb hHeld.2.2.2.2.1;have HS5_:=pw_cell_below hb hHeld.2.2.2.2.2.1;have HS6_:=pw_cell_below hb hHeld.2.2.2.2.2.2.1;have HS7_:=pw_cell_below hb hHeld.2.2.2.2.2.2.2;refine⟨_,rfl,?_⟩;replace HO_4:=rb_ HO_4 hb;replace HB:=sb_ HB hb
                     (try clear hb)
                     (try clear hb2)
                     (try clear hk)
                     (try clear hi)
                     refine hK.out _ _ ⟨HS0_,HS1_,HS2_,HS3_,HS4_,HS5_,HS6_,HS7_⟩ (fun hHeld=>?_);clear hK K;refine no_ (h:=?_);refine pu_ HT_ 16 82 (bm 17 131071) ?_;refine done_ (done_of HT_.out (by kernel_rfl)) ?_
                     try go_wp2
                     go_ret;exact⟨rr_,hB_⟩
                    ·
                     replace c43:=Bool.eq_false_iff.mpr c43;subst c43;rw [if_neg (show ¬ (false=true) by decide)] at H
                     (try dsimp only at H)
                     have H':=Aside0.mk H;clear H
                     try go_wp2
                     replace HO_4:=a0_ (Kd.R_drew HO_4.out);replace HB:=a0_ (below_drew1 HB.out);obtain⟨Ao48,co48,eo48⟩:=Kd.R_slice HO_4.out
                     (first | subst eo48 | (injection eo48 with f1_ f2_ f3_;have f4_:=f1_.symm;have f5_:=f3_.symm;clear f1_ f2_ f3_;subst f4_;subst f5_))
                     have p142:0≤(x6_2:Int):=od_;have q142:x6_2<(t131.length:Int):=od_;obtain⟨ad142,e142,hx142_0,hx142_1,hx142_2,hx142_3⟩:=at_T83 (Kd.R_reads' HO_4.out).2.2 x6_2 p142 q142;cases e142;replace p142:=eq_true p142;replace q142:=eq_true q142;have p143:0≤(x7_4:Int):=od_;have q143:x7_4<(t131.length:Int):=od_;obtain⟨ad143,e143,hx143_0,hx143_1,hx143_2,hx143_3⟩:=at_T83 (Kd.R_reads' HO_4.out).2.2 x7_4 p143 q143;obtain rfl:ad142=ad143:=(by injection e143);replace p143:=eq_true p143;replace q143:=eq_true q143;refine start_ (n:=17) (S:=fun w'=>w'.cell? (ad142.add ((x6_2).toNat*4))=some (.int .i64 ((rd_T83 t131 x6_2).f0.f0))∧w'.cell? ⟨(ad142.add ((x6_2).toNat*4)).block,(ad142.add ((x6_2).toNat*4)).off+1,none⟩=some (.int .i64 ((rd_T83 t131 x6_2).f0.f1))∧w'.cell? ⟨(ad142.add ((x6_2).toNat*4)).block,(ad142.add ((x6_2).toNat*4)).off+2,none⟩=some (.int .i64 ((rd_T83 t131 x6_2).f1.f0))∧w'.cell? ⟨(ad142.add ((x6_2).toNat*4)).block,(ad142.add ((x6_2).toNat*4)).off+3,none⟩=some (.int .i64 ((rd_T83 t131 x6_2).f1.f1))∧w'.cell? (ad142.add ((x7_4).toNat*4))=some (.int .i64 ((rd_T83 t131 x7_4).f0.f0))∧w'.cell? ⟨(ad142.add ((x7_4).toNat*4)).block,(ad142.add ((x7_4).toNat*4)).off+1,none⟩=some (.int .i64 ((rd_T83 t131 x7_4).f0.f1))∧w'.cell? ⟨(ad142.add ((x7_4).toNat*4)).block,(ad142.add ((x7_4).toNat*4)).off+2,none⟩=some (.int .i64 ((rd_T83 t131 x7_4).f1.f0))∧w'.cell? ⟨(ad142.add ((x7_4).toNat*4)).block,(ad142.add ((x7_4).toNat*4)).off+3,none⟩=some (.int .i64 ((rd_T83 t131 x7_4).f1.f1))) (ds:=[]) (Array.replicate 17 false) (by kernel_rfl) rfl rfl ⟨hx142_0,hx142_1,hx142_2,hx142_3,hx143_0,hx143_1,hx143_2,hx143_3⟩ (fun hHeld=>?_);refine with_tabW spec_LoopOk.tab18 spec_LoopOk.bits18 (fun HT_ HW_=>?_)
                     generalize wr.drew=w47 at HO_4 HB hx142_0 hx142_1 hx142_2 hx142_3 hx143_0 hx143_1 hx143_2 hx143_3 hHeld ⊢
                     refine pu_ HT_ 0 66 (bm 17 1) ?_;refine pu_ HT_ 1 67 (bm 17 3) ?_;refine pu_ HT_ 2 68 (bm 17 7) ?_;refine pu_ HT_ 3 69 (bm 17 15) ?_;refine pu_ HT_ 4 70 (bm 17 31) ?_;refine pu_ HT_ 5 71 (bm 17 63) ?_;refine pu_ HT_ 6 72 (bm 17 127) ?_;refine pu_ HT_ 7 73 (bm 17 255) ?_;refine pu_ HT_ 8 74 (bm 17 511) ?_;refine pu_ HT_ 9 75 (bm 17 1023) ?_;refine pu_ HT_ 11 77 (bm 17 3071) ?_;refine pu_ HT_ 12 78 (bm 17 7167) ?_;refine pu_ HT_ 13 79 (bm 17 15359) ?_;refine ta8_ HT_ HW_ 10 76 (bm 17 16383) hHeld ?_;refine ta8_ HT_ HW_ 14 80 (bm 17 32767) hHeld ?_;refine one_ (i:=15) (N:=some 81) (bm 17 65535) rfl rfl (one_of HT_.out (by kernel_rfl)) (by decide) (fun K hK=>?_);refine goes_ Tryz.func52 (by kernel_rfl) rfl #[.agg #[.int .i64 ((rd_T83 t131 x6_2).f0.f0),.int .i64 ((rd_T83 t131 x6_2).f0.f1),.int .i64 ((rd_T83 t131 x6_2).f1.f0),.int .i64 ((rd_T83 t131 x6_2).f1.f1)],.agg #[.int .i64 ((rd_T83 t131 x7_4).f0.f0),.int .i64 ((rd_T83 t131 x7_4).f0.f1),.int .i64 ((rd_T83 t131 x7_4).f1.f0),.int .i64 ((rd_T83 t131 x7_4).f1.f1)]] (by rfl) rfl rfl ma_ ?_
                     with_reducible refine (spec_l2Meet.calls ((rd_T83 t131 x6_2).f0.f0) ((rd_T83 t131 x6_2).f0.f1) ((rd_T83 t131 x6_2).f1.f0) ((rd_T83 t131 x6_2).f1.f1) ((rd_T83 t131 x7_4).f0.f0) ((rd_T83 t131 x7_4).f0.f1) ((rd_T83 t131 x7_4).f1.f0) ((rd_T83 t131 x7_4).f1.f1) false _ A42.out).mono ?_
                     rintro e w49 ⟨rfl,hb⟩;have HS0_:=pw_cell_below hb hHeld.1;have HS1_:=pw_cell_below hb hHeld.2.1;have HS2_:=pw_cell_below hb hHeld.2.2.1;have HS3_:=pw_cell_below hb hHeld.2.2.2.1;have HS4_:=pw_cell_below hb hHeld.2.2.2.2.1;have HS5_:=pw_cell_below hb hHeld.2.2.2.2.2.1;have HS6_:=pw_cell_below hb hHeld.2.2.2.2.2.2.1;have HS7_:=pw_cell_below hb hHeld.2.2.2.2.2.2.2;refine⟨_,rfl,?_⟩;replace HO_4:=rb_ HO_4 hb;replace HB:=sb_ HB hb
                     (try clear hb)
                     (try clear hb2)
                     (try clear hk)
                     (try clear hi)
                     refine hK.out _ _ ⟨HS0_,HS1_,HS2_,HS3_,HS4_,HS5_,HS6_,HS7_⟩ (fun hHeld=>?_);clear hK K;refine no_ (h:=?_);refine pu_ HT_ 16 82 (bm 17 131071) ?_;refine done_ (done_of HT_.out (by kernel_rfl)) ?_
                     try go_wp2
                     go_roundg k4
                     case measure=>have:=HK1.out;have:=HK2.out;have:=HJ15.out;have:=HK4.out;omega
                     case rel=>exact⟨(wrap64 (x7_4+1)),(by first | rfl | (simp;done) | (simp [*];done)),H',⟨by have:=HK1.out;have:=HK2.out;have:=HJ15.out;have:=HK4.out;omega⟩,⟨by (with_reducible repeat (first | apply Kd.R_alloc | apply Kd.R_drewN | apply Kd.R_drew));exact HO_4.out⟩,⟨hB_⟩⟩
                   ·
                    rw [if_neg c41] at H;exact absurd H (by simp)
                  ·
                   rw [if_neg c40] at H;exact absurd H (by simp)
                 ·
                  rw [if_neg c39] at H;exact absurd H (by simp)
                ·
                 rw [if_neg c38] at H;exact absurd H (by simp)
             ·
              rw [if_neg c34] at H;have c34b0:decide (x7_4<(l0.length:Int))=false:=decide_eq_false c34;clear c34;have H':=Aside0.mk H;clear H;go_wp2;go_roundg k4
              case measure=>have:=HK1.out;have:=HK2.out;have:=HJ15.out;have:=HK4.out;omega
              case rel=>exact⟨(wrap64 (x6_2+1)),(by first | rfl | (simp;done) | (simp [*];done)),H',⟨by have:=HK1.out;have:=HK2.out;have:=HJ15.out;have:=HK4.out;omega⟩,⟨by (with_reducible repeat (first | apply Kd.R_alloc | apply Kd.R_drewN | apply Kd.R_drew));exact HO_4.out⟩,⟨hB_⟩⟩
       ·
        rw [if_neg c15] at H;have c15b0:decide (x6_2<(l0.length:Int))=false:=decide_eq_false c15;clear c15;obtain rfl:=Option.some.inj H;go_wp2;go_ret;exact⟨rr_,hB_⟩
 ·
  replace c3:=Bool.eq_false_iff.mpr c3;subst c3;rw [if_neg (show ¬ (false=true) by decide)] at H
  (try dsimp only at H)
  obtain rfl:=Option.some.inj H;go_enter Tryz.func33,Tryz.ntmps33;go_wp2_with (first | ((with_reducible refine gate_callee (f:=32) rfl ?_);refine gL_ (some 11) Tryz.func32 #[.int .i64 (l0.length:Int),.int .i64 3,.int .i64 8] (h:=?_);(with_reducible refine (spec_l6In.calls (l0.length:Int) 3 8 false _ A2.out).mono ?_);rintro e w' ⟨rfl,⟨nd,rfl⟩⟩;refine⟨_,rfl,?_⟩));go_ret;exact⟨rr_,hB_⟩
end Go.Proofs.YtailkppkjhkjpaaGreatDoor.X
end
section
set_option linter.unusedVariables false
set_option linter.unusedSimpArgs false
namespace Go.Proofs.YtailkppkjhkjpaaGreatDoor.X
open Go.RowKit Go.Proofs.YtailkppkjhkjpaaGreatDoorW.PrintWords Go.Proofs.YtailkppkjhkjpaaGreatDoorW.PrintLast Go.Proofs.YtailkppkjhkjpaaGreatDoorW.PrintMore
def esOf (z:List S70):List S83:=(List.range z.length).map (edS z)
theorem w64i {x:Int}(h : -9223372036854775808≤x)(h':x≤9223372036854775807):wrap64 x=x:=by unfold wrap64;omega
theorem sEdges_l0 (z:List S70)(hz:z.length≤1000000):∀ (m i k:Nat) (acc:List S83),z.length-i=m→i≤z.length→m<k→acc.length≤i→spec_l3Edges.l0 k z acc (i:Int)=some (acc++(List.range' i m).map (edS z)):=by
 intro m
 induction m with
 | zero =>
  intro i k acc hm hi hk ha;obtain⟨k,rfl⟩:∃ j,k=j+1:=⟨k-1,by omega⟩;simp only [spec_l3Edges.l0];rw [if_neg (by omega)];simp
 | succ m ih =>
  intro i k acc hm hi hk ha;obtain⟨k,rfl⟩:∃ j,k=j+1:=⟨k-1,by omega⟩;simp only [spec_l3Edges.l0];have hw:wrap64 ((i:Int)+1)=((i+1:Nat):Int):=by rw [w64i (by omega) (by omega)];rfl
  have ht:Int.tmod ((i+1:Nat):Int) (z.length:Int)=(((i+1) % z.length:Nat):Int):=rfl;have hlt:=Nat.mod_lt (i+1) (show 0<z.length by omega);rw [if_pos (by omega),if_pos (by omega),if_neg (by omega),hw,ht,if_pos (by omega),if_pos (by omega),if_pos (by omega)];rw [ih (i+1) k _ (by omega) (by omega) (by omega) (by simp;omega),List.range'_succ,List.map_cons,List.append_assoc];rfl
theorem sEdges {z:List S70}(hz:z.length≤1000000){k:Nat}(hk:z.length<k):spec_l3Edges.f k z=some (esOf z):=by
 unfold spec_l3Edges.f esOf;rw [show (0:Int)=((0:Nat):Int) from rfl,sEdges_l0 z hz z.length 0 k [] (by omega) (by omega) hk (by simp),List.range_eq_range'];simp
theorem esOf_len (z:List S70):(esOf z).length=z.length:=by simp [esOf]
theorem esOf_getD (z:List S70){i:Nat}(h:i<z.length):(esOf z).getD i z83=edS z i:=by
 rw [List.getD_eq_getElem?_getD,List.getElem?_eq_getElem (by rw [esOf_len];exact h)];simp [esOf]
theorem esOf_edges (z:List S70):(esOf z).map sgP=Mort.edges (z.map ptP):=by
 rw [Mort.edges_eq,List.length_map];unfold esOf;rw [List.map_map];refine List.map_congr_left fun i _=>?_
 rw [ed_edS];rfl
end Go.Proofs.YtailkppkjhkjpaaGreatDoor.X
end
section
set_option linter.unusedVariables false
set_option linter.unusedSimpArgs false
namespace Go.Proofs.YtailkppkjhkjpaaGreatDoor.X
open Go.RowKit Go.Shelf Go.Proofs.YtailkppkjhkjpaaGreatDoorW.PrintWords Go.Proofs.YtailkppkjhkjpaaGreatDoorW.PrintLast Go.Proofs.YtailkppkjhkjpaaGreatDoorW.PrintMore
open Mort (edges loopOk ptOk inOf inRun crsI cross has)
def spec_l3In.f (l0:List S70)(a1_0 a1_1:Int):Option Int:=if loopOk (l0.map ptP)=true∧ptOk (a1_0,a1_1)=true then some (inOf (l0.map ptP) (a1_0,a1_1)) else none
theorem at_sg3 {W:World}{A:Option Addr}{n:Nat}{zs:List S83}(hC:Kd.C k83 W A n zs)(k:Nat)(h:k<n):
  ∃ ad,A=some ad∧W.cell? (ad.add (k*4))=some (.int .i64 (zs.getD k z83).f0.f0)∧W.cell? ⟨(ad.add (k*4)).block,(ad.add (k*4)).off+1,none⟩=some (.int .i64 (zs.getD k z83).f0.f1) ∧
   W.cell? ⟨(ad.add (k*4)).block,(ad.add (k*4)).off+2,none⟩=some (.int .i64 (zs.getD k z83).f1.f0)∧W.cell? ⟨(ad.add (k*4)).block,(ad.add (k*4)).off+3,none⟩=some (.int .i64 (zs.getD k z83).f1.f1):=
 at_T83 hC (k:Int) (by omega) (by omega)
def upC (lo hi p:Mort.Pt):Bool:=decide (lo.2≤p.2) && (decide (p.2<hi.2) && decide (0<cross lo hi p))
theorem crs_up (a b p:Mort.Pt):crsI (a,b) p=if b.2<a.2 then upC b a p else upC a b p:=by
 unfold crsI upC;simp only;have hr:=Mort.cross_rev a b p;by_cases h:b.2<a.2
 ·
  rw [if_pos h];have e1:(decide (a.2≤p.2) && (decide (p.2<b.2) && decide (0<cross a b p)))=false:=by
   by_cases h1:a.2≤p.2
   ·
    rw [decide_eq_false (show ¬ p.2<b.2 by omega)];simp
   ·
    rw [decide_eq_false h1];rfl
  rw [e1,Bool.false_or,hr]
  congr 2
  rw [decide_eq_decide];omega
 ·
  rw [if_neg h];have e1:(decide (b.2≤p.2) && (decide (p.2<a.2) && decide (cross a b p<0)))=false:=by
   by_cases h1:b.2≤p.2
   ·
    rw [decide_eq_false (show ¬ p.2<a.2 by omega)];simp
   ·
    rw [decide_eq_false h1];rfl
  rw [e1,Bool.or_false]
set_option maxHeartbeats 4000000 in
set_option maxRecDepth 100000 in
theorem spec_l3In.calls (A0:Option Addr)(c0:Nat)(l0:List S70)(a1_0 a1_1:Int)(r:Int)(w:World)(hr0:Kd.C k70 w A0 l0.length l0)(hc0:l0.length≤c0)(h:spec_l3In.f l0 a1_0 a1_1=some r):
  Calls Tryz.prog 34 #[.slice A0 l0.length c0,.agg #[.int .i64 a1_0,.int .i64 a1_1]] w fun e w'=>e=.returned (.int .i64 r)∧Below w.heap.size w w':=by
 have hu28:=Tryz.underlying70;have hu61:=Tryz.underlying83;unfold spec_l3In.f at h
 split at h
 case isFalse=>cases h
 rename_i hh
 obtain⟨hok,hp⟩:=hh;have h:=Option.some.inj h;have hlen:l0.length≤8:=by have:=((Mort.loopOk_iff _).1 hok).2.1;simpa using this
 have hal:=below_alloc (Below.refl w.heap.size w) (.cells #[.int .i64 a1_0,.int .i64 a1_1] 70);have np:=blk_new w (.cells #[.int .i64 a1_0,.int .i64 a1_1] 70 (0,0));have hes:spec_l3Edges.f 10 l0=some (esOf l0):=sEdges (by omega) (by omega);have hsg:∀ i,i<l0.length→Mort.segOk (sgP (edS l0 i))=true:=fun i hi=>by
  have:=((Mort.loopOk_iff _).1 hok).2.2.1 _ (Mort.mem_edges.2 ⟨i,by simpa using hi,rfl⟩)
  rwa [ed_edS] at this
 have hmem:∀ i,i<l0.length→sgP (edS l0 i)∈edges (l0.map ptP):=fun i hi=>by
  rw [← ed_edS];exact Mort.mem_edges.2 ⟨i,by simpa using hi,rfl⟩
 have HK:=a0_ (And.intro (Kd.C_below hr0 hal) (And.intro hc0 (And.intro hes (And.intro hsg (And.intro hmem (And.intro hp (And.intro h (And.intro hlen (And.intro hal np)))))))));clear hr0 hc0 hes hsg hmem hp h hlen hal np hok;go_enter Tryz.func34,Tryz.ntmps34;go_wp2_with (go_at_call 49;refine (spec_l3Edges.calls 10 A0 c0 l0 (esOf l0) _ HK.out.1 HK.out.2.1 HK.out.2.2.1).mono ?_;rintro e w1 ⟨v,rfl,hR,hb1⟩;obtain⟨Ae,ce,hv,hce,hCe⟩:=Kd.R_reads hR;subst hv;have HE:=a0_ (And.intro hCe (And.intro hce hb1));clear hR hCe hce hb1);generalize hg:w.heap.size=g at *;have hG:=Aside0.mk hg;clear hg;have hL:(esOf l0).length=l0.length:=esOf_len l0;rw [hL];have HLn:=Aside0.mk hL;clear hL
 go_loopg [5,7] l0.length (fun kq v5 v7 wr=>∃ (i:Nat),v5=.int .i64 (inRun (((esOf l0).take i).map sgP) (a1_0,a1_1))∧v7=.int .i64 (i:Int)∧Aside0 (kq=l0.length-i∧i≤l0.length∧wr.heap[g]?=some (.cells #[.int .i64 a1_0,.int .i64 a1_1] 70 (0,0)) ∧
   (∀ e∈((esOf l0).take i).map sgP,has e (a1_0,a1_1)=false)∧Below g w wr∧Below w1.heap.size w1 wr))
 case atStart =>
  have hG':=hG.out;subst hG';refine⟨0,rfl,rfl,⟨rfl,Nat.zero_le _,blk_later HK.out.2.2.2.2.2.2.2.2.2 HE.out.2.2,?_,below_step HK.out.2.2.2.2.2.2.2.2.1 HE.out.2.2,Below.refl _ _⟩⟩;intro e he;simp at he
 case round =>
  obtain⟨i,rfl,rfl,H1⟩:=hrel;obtain⟨hk,hi,hpb,hno,hBw,hB1⟩:=H1.out;clear H1;by_cases hlt:i<l0.length
  ·
   have hd:decide ((i:Int)<(l0.length:Int))=true:=decide_eq_true (by omega);obtain⟨adr,hadr,z0,z1,z2,z3⟩:=at_sg3 HE.out.1 i (by rw [HLn.out];exact hlt);subst hadr;have t0:=pw_cell_below (below_drew1 hB1) z0;have t1:=pw_cell_below (below_drew1 hB1) z1;have t2:=pw_cell_below (below_drew1 hB1) z2;have t3:=pw_cell_below (below_drew1 hB1) z3;have p0:wr.drew.cell? ⟨g,0,none⟩=some (.int .i64 a1_0):=(blk_cell hpb 0).trans rfl;have p1:wr.drew.cell? ⟨g,1,none⟩=some (.int .i64 a1_1):=(blk_cell hpb 1).trans rfl;have hes:(esOf l0).getD i z83=edS l0 i:=esOf_getD l0 hlt;have htk:((esOf l0).take (i+1)).map sgP=((esOf l0).take i).map sgP++[sgP (edS l0 i)]:=by
    rw [List.take_succ_eq_append_getElem (by rw [HLn.out];exact hlt),List.map_append];rw [List.getD_eq_getElem?_getD,List.getElem?_eq_getElem (by rw [HLn.out];exact hlt)] at hes;rw [show (esOf l0)[i]'(by rw [HLn.out];exact hlt)=edS l0 i from hes];rfl
   rw [hes] at t0 t1 t2 t3;have hseg:=HK.out.2.2.2.1 i hlt;have hmem:=HK.out.2.2.2.2.1 i hlt;generalize edS l0 i=s0 at *;obtain⟨⟨ax,ay⟩,⟨bx,by'⟩⟩:=s0;obtain⟨⟨hpa,hpb'⟩,_⟩:(ptOk (ax,ay)=true∧ptOk (bx,by')=true)∧True:=⟨⟨((Mort.segOk_iff _).1 hseg).1,((Mort.segOk_iff _).1 hseg).2.1⟩,trivial⟩;have hhas:=sHas hpa hpb' HK.out.2.2.2.2.2.1;have hc1:=sCross hpa hpb' HK.out.2.2.2.2.2.1;have hc2:=sCross hpb' hpa HK.out.2.2.2.2.2.1;have HL:=a0_ (And.intro hk (And.intro hpb (And.intro hno (And.intro hBw (And.intro hB1 (And.intro hhas (And.intro hc1 (And.intro hc2 (And.intro htk hmem)))))))));clear hk hi hpb hno hBw hB1 hhas hc1 hc2 htk hmem hes z0 z1 z2 z3 hseg hpa hpb'
   cases hh:has ((ax,ay),(bx,by')) (a1_0,a1_1) with
   | true =>
    obtain⟨k1,k2,k3,k4,k5,k6,k7,k8,k9,k10⟩:=HL.out;have hr:0=r:=by rw [← HK.out.2.2.2.2.2.2.1,Mort.inOf_on k10 hh]
    subst hr;have HV:=a0_ (k6.trans (congrArg some hh));clear k1 k2 k3 k4 k5 k6 k7 k8 k9 k10 hh;go_wp2;go_region_held3 (fun W=>W.cell? (adr.add (i*4))=some (.int .i64 ax)∧W.cell? ⟨(adr.add (i*4)).block,(adr.add (i*4)).off+1,none⟩=some (.int .i64 ay)∧W.cell? ⟨(adr.add (i*4)).block,(adr.add (i*4)).off+2,none⟩=some (.int .i64 bx)∧W.cell? ⟨(adr.add (i*4)).block,(adr.add (i*4)).off+3,none⟩=some (.int .i64 by')∧W.cell? ⟨g,0,none⟩=some (.int .i64 a1_0)∧W.cell? ⟨g,1,none⟩=some (.int .i64 a1_1))
     (first | exact⟨pw_cell_below hb t0,pw_cell_below hb t1,pw_cell_below hb t2,pw_cell_below hb t3,pw_cell_below hb p0,pw_cell_below hb p1⟩ | go_keep)
     (first | (go_at_call 51;refine (spec_l2Has.calls ax ay bx by' a1_0 a1_1 true _ HV.out).mono ?_;rintro e w2 ⟨rfl,hb⟩))
    go_wp2;go_ret;have hG':=hG.out;subst hG';exact⟨rfl,below_row (below_drew1 HL.out.2.2.2.1) (Nat.le_refl _) hb⟩
   | false =>
    obtain⟨k1,k2,k3,k4,k5,k6,k7,k8,k9,k10⟩:=HL.out;have hin:inRun (((esOf l0).take (i+1)).map sgP) (a1_0,a1_1)=if crsI ((ax,ay),(bx,by')) (a1_0,a1_1) then-inRun (((esOf l0).take i).map sgP) (a1_0,a1_1) else inRun (((esOf l0).take i).map sgP) (a1_0,a1_1):=by rw [k9,Mort.inRun_snoc];rfl
    have hno2:∀ e∈((esOf l0).take (i+1)).map sgP,has e (a1_0,a1_1)=false:=by
     rw [k9];intro e he
     rcases List.mem_append.1 he with he | he
     ·
      exact k3 e he
     ·
      rw [List.mem_singleton] at he;subst he;exact hh
    rw [crs_up] at hin;have hvals:inRun (((esOf l0).take i).map sgP) (a1_0,a1_1)=1∨inRun (((esOf l0).take i).map sgP) (a1_0,a1_1) = -1:=by
     unfold inRun Mort.sideOf;cases Mort.xorAll _ <;> simp
    generalize inRun (((esOf l0).take i).map sgP) (a1_0,a1_1)=u at *;have HV:=a0_ (k6.trans (congrArg some hh));have HN:=a0_ (And.intro hin (And.intro hno2 hvals));clear k1 k2 k3 k4 k5 k6 k7 k8 k9 k10 hh hin hno2 hvals;go_wp2;go_region_held3 (fun W=>W.cell? (adr.add (i*4))=some (.int .i64 ax)∧W.cell? ⟨(adr.add (i*4)).block,(adr.add (i*4)).off+1,none⟩=some (.int .i64 ay)∧W.cell? ⟨(adr.add (i*4)).block,(adr.add (i*4)).off+2,none⟩=some (.int .i64 bx)∧W.cell? ⟨(adr.add (i*4)).block,(adr.add (i*4)).off+3,none⟩=some (.int .i64 by')∧W.cell? ⟨g,0,none⟩=some (.int .i64 a1_0)∧W.cell? ⟨g,1,none⟩=some (.int .i64 a1_1))
     (first | exact⟨pw_cell_below hb t0,pw_cell_below hb t1,pw_cell_below hb t2,pw_cell_below hb t3,pw_cell_below hb p0,pw_cell_below hb p1⟩ | go_keep)
     (first | (go_at_call 51;refine (spec_l2Has.calls ax ay bx by' a1_0 a1_1 false _ HV.out).mono ?_;rintro e w2 ⟨rfl,hb⟩))
    have t0':=pw_cell_below hb t0;have t1':=pw_cell_below hb t1;have t2':=pw_cell_below hb t2;have t3':=pw_cell_below hb t3;have hxa:=below_alloc (Below.refl w2.heap.size w2) (.cells #[.int .i64 ax,.int .i64 ay] 70);have x0:=pw_cell_below hxa t2';have x1:=pw_cell_below hxa t3';have hu28:=Tryz.underlying70;have hu61:=Tryz.underlying83;obtain⟨_,_,_,_,_,_,k7_,k8_,_,_⟩:=HL.out;by_cases hsw:by'<ay
    ·
     have b1:decide (by'<ay)=true:=decide_eq_true hsw;have HSW:=Aside0.mk hsw;clear hsw k7_;have hW3:=below_alloc (below_alloc (Below.refl w2.heap.size w2) (.cells #[.int .i64 bx,.int .i64 by'] 70)) (.cells #[.int .i64 ax,.int .i64 ay] 70);have q0:=pw_cell_below hW3 (pw_cell_below hb p0);have q1:=pw_cell_below hW3 (pw_cell_below hb p1);have HB3:=a0_ (And.intro hb hW3);clear hb hW3 p0 p1 t0 t1 t2 t3 hxa;have HCR:=Aside0.mk k8_;clear k8_;by_cases g1:by'≤a1_1
     ·
      have b2:decide (by'≤a1_1)=true:=decide_eq_true g1;have G1:=Aside0.mk g1;clear g1;by_cases g2:a1_1<ay
      ·
       have b3:decide (a1_1<ay)=true:=decide_eq_true g2;have G2:=Aside0.mk g2;clear g2;by_cases g3:0<cross (bx,by') (ax,ay) (a1_0,a1_1)
       ·
        have G3:=Aside0.mk g3;generalize cross (bx,by') (ax,ay) (a1_0,a1_1)=cv at g3 HCR;have b4:decide (0<cv)=true:=decide_eq_true g3;have hvals2:=HN.out.2.2;clear g3
        rcases hvals2 with rfl | rfl
        all_goals
         go_wp2_with (go_at_call 53;refine (spec_l2Cross.calls bx by' ax ay a1_0 a1_1 cv _ HCR.out).mono ?_;rintro e w4 ⟨rfl,hb4⟩);obtain⟨k1,k2,k3,k4,k5,k6,k7,k8,k9,k10⟩:=HL.out;have hbb:Below wr.heap.size wr _:=below_step (below_step (below_step (below_drew1 (Below.refl wr.heap.size wr)) HB3.out.1) HB3.out.2) hb4;go_roundg (l0.length-(i+1))
         case measure=>omega
         case rel =>
          refine⟨i+1,?_,?_,⟨rfl,by omega,blk_later k2 hbb,HN.out.2.1,?_,k5.trans (hbb.mono k5.size)⟩⟩
          ·
           have hin:=HN.out.1;have hvals:=HN.out.2.2;rw [hin];have hu:upC (bx,by') (ax,ay) (a1_0,a1_1)=true:=by unfold upC;simp only [G1.out,G2.out,G3.out,decide_true,Bool.and_true]
           rw [if_pos HSW.out,hu]
           first | rfl | decide
          ·
           have hw:wrap64 ((i:Int)+1)=(i:Int)+1:=by have:=HK.out.2.2.2.2.2.2.2.1;unfold wrap64;omega
           first | rfl | (rw [hw];rfl)
          ·
           have hG':=hG.out;subst hG';exact below_row k4 (Nat.le_refl _) hbb
       ·
        have G3:=Aside0.mk g3;generalize cross (bx,by') (ax,ay) (a1_0,a1_1)=cv at g3 HCR;have b4:decide (0<cv)=false:=decide_eq_false g3;clear g3;go_wp2_with (go_at_call 53;refine (spec_l2Cross.calls bx by' ax ay a1_0 a1_1 cv _ HCR.out).mono ?_;rintro e w4 ⟨rfl,hb4⟩);obtain⟨k1,k2,k3,k4,k5,k6,k7,k8,k9,k10⟩:=HL.out;have hbb:Below wr.heap.size wr _:=below_step (below_step (below_step (below_drew1 (Below.refl wr.heap.size wr)) HB3.out.1) HB3.out.2) hb4;go_roundg (l0.length-(i+1))
        case measure=>omega
        case rel =>
         refine⟨i+1,?_,?_,⟨rfl,by omega,blk_later k2 hbb,HN.out.2.1,?_,k5.trans (hbb.mono k5.size)⟩⟩
         ·
          have hin:=HN.out.1;have hvals:=HN.out.2.2;rw [hin];have hu:upC (bx,by') (ax,ay) (a1_0,a1_1)=false:=by unfold upC;simp only [decide_eq_false (show ¬ 0<cross (bx,by') (ax,ay) (a1_0,a1_1) by have:=G3.out;omega),Bool.and_false]
          rw [if_pos HSW.out,hu];rfl
         ·
          have hw:wrap64 ((i:Int)+1)=(i:Int)+1:=by have:=HK.out.2.2.2.2.2.2.2.1;unfold wrap64;omega
          first | rfl | (rw [hw];rfl)
         ·
          have hG':=hG.out;subst hG';exact below_row k4 (Nat.le_refl _) hbb
      ·
       have b3:decide (a1_1<ay)=false:=decide_eq_false g2;have G2:=Aside0.mk g2;clear g2;go_wp2;obtain⟨k1,k2,k3,k4,k5,k6,k7,k8,k9,k10⟩:=HL.out;have hbb:Below wr.heap.size wr _:=below_step (below_step (below_drew1 (Below.refl wr.heap.size wr)) HB3.out.1) HB3.out.2;go_roundg (l0.length-(i+1))
       case measure=>omega
       case rel =>
        refine⟨i+1,?_,?_,⟨rfl,by omega,blk_later k2 hbb,HN.out.2.1,?_,k5.trans (hbb.mono k5.size)⟩⟩
        ·
         have hin:=HN.out.1;have hvals:=HN.out.2.2;rw [hin];have hu:upC (bx,by') (ax,ay) (a1_0,a1_1)=false:=by unfold upC;simp only [decide_eq_false (show ¬ a1_1<ay from by have:=G2.out;omega),Bool.false_and,Bool.and_false]
         rw [if_pos HSW.out,hu];rfl
        ·
         have hw:wrap64 ((i:Int)+1)=(i:Int)+1:=by have:=HK.out.2.2.2.2.2.2.2.1;unfold wrap64;omega
         first | rfl | (rw [hw];rfl)
        ·
         have hG':=hG.out;subst hG';exact below_row k4 (Nat.le_refl _) hbb
     ·
      have b2:decide (by'≤a1_1)=false:=decide_eq_false g1;have G1:=Aside0.mk g1;clear g1;go_wp2;obtain⟨k1,k2,k3,k4,k5,k6,k7,k8,k9,k10⟩:=HL.out;have hbb:Below wr.heap.size wr _:=below_step (below_step (below_drew1 (Below.refl wr.heap.size wr)) HB3.out.1) HB3.out.2;go_roundg (l0.length-(i+1))
      case measure=>omega
      case rel =>
       refine⟨i+1,?_,?_,⟨rfl,by omega,blk_later k2 hbb,HN.out.2.1,?_,k5.trans (hbb.mono k5.size)⟩⟩
       ·
        have hin:=HN.out.1;have hvals:=HN.out.2.2;rw [hin];have hu:upC (bx,by') (ax,ay) (a1_0,a1_1)=false:=by unfold upC;simp only [decide_eq_false (show ¬ by'≤a1_1 from by have:=G1.out;omega),Bool.false_and]
        rw [if_pos HSW.out,hu];rfl
       ·
        have hw:wrap64 ((i:Int)+1)=(i:Int)+1:=by have:=HK.out.2.2.2.2.2.2.2.1;unfold wrap64;omega
        first | rfl | (rw [hw];rfl)
       ·
        have hG':=hG.out;subst hG';exact below_row k4 (Nat.le_refl _) hbb
    ·
     have b1:decide (by'<ay)=false:=decide_eq_false hsw;have HSW:=Aside0.mk hsw;clear hsw k8_;have hW3:=below_alloc (below_alloc (Below.refl w2.heap.size w2) (.cells #[.int .i64 ax,.int .i64 ay] 70)) (.cells #[.int .i64 bx,.int .i64 by'] 70);have q0:=pw_cell_below hW3 (pw_cell_below hb p0);have q1:=pw_cell_below hW3 (pw_cell_below hb p1);have HB3:=a0_ (And.intro hb hW3);clear hb hW3 p0 p1 t0 t1 t2 t3 hxa;have HCR:=Aside0.mk k7_;clear k7_;by_cases g1:ay≤a1_1
     ·
      have b2:decide (ay≤a1_1)=true:=decide_eq_true g1;have G1:=Aside0.mk g1;clear g1;by_cases g2:a1_1<by'
      ·
       have b3:decide (a1_1<by')=true:=decide_eq_true g2;have G2:=Aside0.mk g2;clear g2;by_cases g3:0<cross (ax,ay) (bx,by') (a1_0,a1_1)
       ·
        have G3:=Aside0.mk g3;generalize cross (ax,ay) (bx,by') (a1_0,a1_1)=cv at g3 HCR;have b4:decide (0<cv)=true:=decide_eq_true g3;have hvals2:=HN.out.2.2;clear g3
        rcases hvals2 with rfl | rfl
        all_goals
         go_wp2_with (go_at_call 53;refine (spec_l2Cross.calls ax ay bx by' a1_0 a1_1 cv _ HCR.out).mono ?_;rintro e w4 ⟨rfl,hb4⟩);obtain⟨k1,k2,k3,k4,k5,k6,k7,k8,k9,k10⟩:=HL.out;have hbb:Below wr.heap.size wr _:=below_step (below_step (below_step (below_drew1 (Below.refl wr.heap.size wr)) HB3.out.1) HB3.out.2) hb4;go_roundg (l0.length-(i+1))
         case measure=>omega
         case rel =>
          refine⟨i+1,?_,?_,⟨rfl,by omega,blk_later k2 hbb,HN.out.2.1,?_,k5.trans (hbb.mono k5.size)⟩⟩
          ·
           have hin:=HN.out.1;have hvals:=HN.out.2.2;rw [hin];have hu:upC (ax,ay) (bx,by') (a1_0,a1_1)=true:=by unfold upC;simp only [G1.out,G2.out,G3.out,decide_true,Bool.and_true]
           rw [if_neg (show ¬ by'<ay by have:=HSW.out;omega),hu]
           first | rfl | decide
          ·
           have hw:wrap64 ((i:Int)+1)=(i:Int)+1:=by have:=HK.out.2.2.2.2.2.2.2.1;unfold wrap64;omega
           first | rfl | (rw [hw];rfl)
          ·
           have hG':=hG.out;subst hG';exact below_row k4 (Nat.le_refl _) hbb
       ·
        have G3:=Aside0.mk g3;generalize cross (ax,ay) (bx,by') (a1_0,a1_1)=cv at g3 HCR;have b4:decide (0<cv)=false:=decide_eq_false g3;clear g3;go_wp2_with (go_at_call 53;refine (spec_l2Cross.calls ax ay bx by' a1_0 a1_1 cv _ HCR.out).mono ?_;rintro e w4 ⟨rfl,hb4⟩);obtain⟨k1,k2,k3,k4,k5,k6,k7,k8,k9,k10⟩:=HL.out;have hbb:Below wr.heap.size wr _:=below_step (below_step (below_step (below_drew1 (Below.refl wr.heap.size wr)) HB3.out.1) HB3.out.2) hb4;go_roundg (l0.length-(i+1))
        case measure=>omega
        case rel =>
         refine⟨i+1,?_,?_,⟨rfl,by omega,blk_later k2 hbb,HN.out.2.1,?_,k5.trans (hbb.mono k5.size)⟩⟩
         ·
          have hin:=HN.out.1;have hvals:=HN.out.2.2;rw [hin];have hu:upC (ax,ay) (bx,by') (a1_0,a1_1)=false:=by unfold upC;simp only [decide_eq_false (show ¬ 0<cross (ax,ay) (bx,by') (a1_0,a1_1) by have:=G3.out;omega),Bool.and_false]
          rw [if_neg (show ¬ by'<ay by have:=HSW.out;omega),hu];rfl
         ·
          have hw:wrap64 ((i:Int)+1)=(i:Int)+1:=by have:=HK.out.2.2.2.2.2.2.2.1;unfold wrap64;omega
          first | rfl | (rw [hw];rfl)
         ·
          have hG':=hG.out;subst hG';exact below_row k4 (Nat.le_refl _) hbb
      ·
       have b3:decide (a1_1<by')=false:=decide_eq_false g2;have G2:=Aside0.mk g2;clear g2;go_wp2;obtain⟨k1,k2,k3,k4,k5,k6,k7,k8,k9,k10⟩:=HL.out;have hbb:Below wr.heap.size wr _:=below_step (below_step (below_drew1 (Below.refl wr.heap.size wr)) HB3.out.1) HB3.out.2;go_roundg (l0.length-(i+1))
       case measure=>omega
       case rel =>
        refine⟨i+1,?_,?_,⟨rfl,by omega,blk_later k2 hbb,HN.out.2.1,?_,k5.trans (hbb.mono k5.size)⟩⟩
        ·
         have hin:=HN.out.1;have hvals:=HN.out.2.2;rw [hin];have hu:upC (ax,ay) (bx,by') (a1_0,a1_1)=false:=by unfold upC;simp only [decide_eq_false (show ¬ a1_1<by' from by have:=G2.out;omega),Bool.false_and,Bool.and_false]
         rw [if_neg (show ¬ by'<ay by have:=HSW.out;omega),hu];rfl
        ·
         have hw:wrap64 ((i:Int)+1)=(i:Int)+1:=by have:=HK.out.2.2.2.2.2.2.2.1;unfold wrap64;omega
         first | rfl | (rw [hw];rfl)
        ·
         have hG':=hG.out;subst hG';exact below_row k4 (Nat.le_refl _) hbb
     ·
      have b2:decide (ay≤a1_1)=false:=decide_eq_false g1;have G1:=Aside0.mk g1;clear g1;go_wp2;obtain⟨k1,k2,k3,k4,k5,k6,k7,k8,k9,k10⟩:=HL.out;have hbb:Below wr.heap.size wr _:=below_step (below_step (below_drew1 (Below.refl wr.heap.size wr)) HB3.out.1) HB3.out.2;go_roundg (l0.length-(i+1))
      case measure=>omega
      case rel =>
       refine⟨i+1,?_,?_,⟨rfl,by omega,blk_later k2 hbb,HN.out.2.1,?_,k5.trans (hbb.mono k5.size)⟩⟩
       ·
        have hin:=HN.out.1;have hvals:=HN.out.2.2;rw [hin];have hu:upC (ax,ay) (bx,by') (a1_0,a1_1)=false:=by unfold upC;simp only [decide_eq_false (show ¬ ay≤a1_1 from by have:=G1.out;omega),Bool.false_and]
        rw [if_neg (show ¬ by'<ay by have:=HSW.out;omega),hu];rfl
       ·
        have hw:wrap64 ((i:Int)+1)=(i:Int)+1:=by have:=HK.out.2.2.2.2.2.2.2.1;unfold wrap64;omega
        first | rfl | (rw [hw];rfl)
       ·
        have hG':=hG.out;subst hG';exact below_row k4 (Nat.le_refl _) hbb
  ·
   obtain rfl:i=l0.length:=by omega
   have hd:decide ((l0.length:Int)<(l0.length:Int))=false:=decide_eq_false (by omega);have hr:inRun (((esOf l0).take l0.length).map sgP) (a1_0,a1_1)=r:=by
    rw [← HK.out.2.2.2.2.2.2.1];have e1:((esOf l0).take l0.length).map sgP=edges (l0.map ptP):=by rw [List.take_of_length_le (by rw [HLn.out];exact Nat.le_refl _),esOf_edges]
    rw [e1] at hno ⊢
    exact Mort.inRun_end hno
   rw [hr];have HB:=Aside0.mk hBw;clear hk hi hpb hno hBw hB1 hr hlt;go_wp2;go_ret;have hG':=hG.out;subst hG';exact⟨rfl,HB.out⟩
end Go.Proofs.YtailkppkjhkjpaaGreatDoor.X
end
