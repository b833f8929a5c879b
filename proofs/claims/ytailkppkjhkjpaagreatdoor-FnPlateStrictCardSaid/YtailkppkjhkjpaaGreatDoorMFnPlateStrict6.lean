/- FnPlateStrict: the law returns true for every input, and each input reads behind the call as before; part 6 of 7. No condition. Merged by program out of: FSpecL6Dec, Step, HCut, FSpecL3Read, HText, HPText, FLawsFnPlateStrict, EvLoop, EvPlate, EvPlateS, EvDraws, EvText, EvDraws4, EvRead, EvReadS, PureFnPlateStrict, WSized. -/
import Derived.Test.YtailkppkjhkjpaaGreatDoorMFnPlateStrict5
import Derived.SizedLaws
import Derived.ChangeSlices
set_option linter.all false
section
namespace Go.Proofs.YtailkppkjhkjpaaGreatDoor.X
open Go.RowKit Go.Proofs.YtailkppkjhkjpaaGreatDoorW.PrintWords Go.Proofs.YtailkppkjhkjpaaGreatDoorW.PrintLast Go.Proofs.YtailkppkjhkjpaaGreatDoorW.PrintMore
attribute [local go_sem] max2_int min2_int max_two min_two max_three min_three max_four min_four
set_option linter.unusedVariables false
set_option linter.unusedSimpArgs false
def spec_l6Dec.f:Nat→Int→Option (ByteArray)
 | 0,_=>none
 | k+1,a0=>if a0<(-9223372036854775807) then (some (⟨#[45,57,50,50,51,51,55,50,48,51,54,56,53,52,55,55,53,56,48,56]⟩:ByteArray)) else (if a0<0 then ((spec_l6Dec.f k (wrap64 (-a0))).bind fun t169=>(if 1+t169.size≤9223372036854775807 then (some ((⟨#[45]⟩:ByteArray)++t169)) else (none))) else (if a0<10 then (some (strOfNums (([(wrap64 (48+a0)) % 256]:List Int)))) else ((spec_l6Dec.f k (wrap64 (Int.tdiv a0 10))).bind fun t173=>((some (([(wrap64 (48+(Int.tmod a0 10))) % 256]:List Int):List Int)).bind fun y174=>(if t173.size+(strOfNums y174).size≤9223372036854775807 then (some (t173++(strOfNums y174))) else (none))))))
def spec_l6Dec.T7:Bool × List (List Nat × List Nat):=(true,[([],[]),([0],[0]),([1],[1]),([],[]),([3],[3]),([4],[4]),([5],[5]),([6],[6]),([7],[7]),([2,8],[2,8]),([9,2,0,1,2,3,4,5,6,7,8,9],[9])])
def spec_l6Dec.B7:List Nat:=[0,1,3,0,8,24,56,120,248,511,1023]
theorem spec_l6Dec.tab7:rtab .any (opsOf Tryz.f67 7)=spec_l6Dec.T7:=by kernel_rfl
theorem spec_l6Dec.bits7:waitsOk spec_l6Dec.T7.2 spec_l6Dec.B7=true:=by kernel_rfl
set_option maxHeartbeats 8000000 in
set_option maxRecDepth 100000 in
theorem spec_l6Dec.calls (k:Nat):∀ (a0:Int) (r:ByteArray) (w:World) (h:spec_l6Dec.f k a0=some r),
  Calls Tryz.prog 67 #[.int .i64 a0] w fun e w'=>e=.returned (.string r)∧Below w.heap.size w w':=by
 induction k using Nat.strongRecOn with
 | _ k ih =>
 intro a0 r w h
 cases k with
 | zero=>exact absurd h (by simp [spec_l6Dec.f])
 | succ k =>
 simp only [spec_l6Dec.f] at h;have HB:=a0_ (Below.refl w.heap.size w);have H:(if a0<(-9223372036854775807) then (some (⟨#[45,57,50,50,51,51,55,50,48,51,54,56,53,52,55,55,53,56,48,56]⟩:ByteArray)) else (if a0<0 then ((spec_l6Dec.f k (wrap64 (-a0))).bind fun t169=>(if 1+t169.size≤9223372036854775807 then (some ((⟨#[45]⟩:ByteArray)++t169)) else (none))) else (if a0<10 then (some (strOfNums (([(wrap64 (48+a0)) % 256]:List Int)))) else ((spec_l6Dec.f k (wrap64 (Int.tdiv a0 10))).bind fun t173=>((some (([(wrap64 (48+(Int.tmod a0 10))) % 256]:List Int):List Int)).bind fun y174=>(if t173.size+(strOfNums y174).size≤9223372036854775807 then (some (t173++(strOfNums y174))) else (none)))))))=some r:=h;clear h;by_cases c2:a0<(-9223372036854775807)
 ·
  rw [if_pos c2] at H;have c2b0:decide (a0<(-9223372036854775807))=true:=decide_eq_true c2;clear c2;obtain rfl:=Option.some.inj H;go_enter Tryz.func67,Tryz.ntmps67;go_wp2;go_ret;exact⟨rr_,hB_⟩
 ·
  rw [if_neg c2] at H;have c2b0:decide (a0<(-9223372036854775807))=false:=decide_eq_false c2;clear c2;by_cases c3:a0<0
  ·
   rw [if_pos c3] at H;have c3b0:decide (a0<0)=true:=decide_eq_true c3;clear c3;replace H:=Option.bind_eq_some_iff.mp H;obtain⟨t169,A40,H⟩:=H
   (try dsimp only at H)
   have A4:=Aside0.mk A40;clear A40;by_cases c5:1+t169.size≤9223372036854775807
   ·
    rw [if_pos c5] at H;have c5b0:=eq_true c5;have c5b1:decide (1+t169.size≤9223372036854775807)=true:=decide_eq_true c5
    try have c5b2:(9223372036854775807<1+t169.size)=False:=eq_false (Nat.not_lt.2 c5)
    obtain rfl:=Option.some.inj H;go_enter Tryz.func67,Tryz.ntmps67;go_wp2_with (first | ((with_reducible refine gate_callee (f:=67) rfl ?_);refine gL_ (some 9) Tryz.func67 #[.int .i64 (wrap64 (-a0))] (h:=?_);(with_reducible refine (ih k (by omega) (wrap64 (-a0)) t169 _ A4.out).mono ?_);rintro e w6 ⟨rfl,hb⟩;refine⟨_,rfl,?_⟩;replace HB:=sb_ HB hb;(try clear hb)));go_ret;exact⟨rr_,hB_⟩
   ·
    rw [if_neg c5] at H;exact absurd H (by simp)
  ·
   rw [if_neg c3] at H;have c3b0:decide (a0<0)=false:=decide_eq_false c3;clear c3;by_cases c7:a0<10
   ·
    rw [if_pos c7] at H;have c7b0:decide (a0<10)=true:=decide_eq_true c7;clear c7;obtain⟨y170,hy170⟩:∃ y_:List Int,y_=(([(wrap64 (48+a0)) % 256]:List Int)):=⟨_,rfl⟩;replace H:(some (strOfNums y170))=some r:=by first | (rw [hy170];with_reducible exact H) | (have H2_:=(Option.bind_some _ _).symm.trans H;rw [hy170];with_reducible exact H2_) | (have H2_:=(Option.bind_some _ _).symm.trans H;with_reducible exact H2_) | with_reducible exact H | (rw [hy170];exact H) | exact H
    have Ny170:=Aside0.mk hy170;clear hy170;obtain rfl:=Option.some.inj H;go_enter Tryz.func67,Tryz.ntmps67;go_wp2_with (first | ((with_reducible refine gate_dst (N:=16) rfl ?_);refine Kd.R_lit (Kd.int .u8) _ 5 ?hg (N:=16) ?hd (xs:=([(wrap64 (48+a0)) % 256]:List Int)) (inner:=[.int .u8 ((wrap64 (48+a0)) % 256)]) (ok:=fun _=>True) (okp:=fun _=>True) ?hr ?hp (fun _ hk=>hk) trivial (Below.refl _ _) (Nat.le_refl _) (by simp) ?_;(case hd=>rfl);(case hg=>rfl);(case hr=>first | (go_simp;done) | (go_simp;rfl));(case hp=>exact (Reps.one (show Kd.M (Kd.int .u8) _ _ _ ((wrap64 (48+a0)) % 256) [.int .u8 ((wrap64 (48+a0)) % 256)] from rfl) (Reps.none _ _)));intro v171 w8 ho9 hb hg_ hnew_;clear hg_ hnew_;(first | rw [← Ny170.out] at ho9 | (simp only [Int.reduceToNat] at ho9;rw [← Ny170.out] at ho9));have HO172:=a0_ (Kd.R_lower ho9 (below_size hB_));replace HB:=sb_ HB hb;clear hb ho9;have hcv10:=own_string (P:=Tryz.prog) Tryz.underlying22 Tryz.underlying5 Tryz.underlying9 (Kd.own_of_R HO172.out)));go_ret;exact⟨rr_,hB_⟩
   ·
    rw [if_neg c7] at H;have c7b0:decide (a0<10)=false:=decide_eq_false c7;clear c7;replace H:=Option.bind_eq_some_iff.mp H;obtain⟨t173,A110,H⟩:=H
    (try dsimp only at H)
    have A11:=Aside0.mk A110;clear A110;obtain⟨y174,hy174⟩:∃ y_:List Int,y_=(([(wrap64 (48+(Int.tmod a0 10))) % 256]:List Int)):=⟨_,rfl⟩;replace H:(if t173.size+(strOfNums y174).size≤9223372036854775807 then (some (t173++(strOfNums y174))) else (none))=some r:=by first | (rw [hy174];with_reducible exact H) | (have H2_:=(Option.bind_some _ _).symm.trans H;rw [hy174];with_reducible exact H2_) | (have H2_:=(Option.bind_some _ _).symm.trans H;with_reducible exact H2_) | with_reducible exact H | (rw [hy174];exact H) | exact H
    have Ny174:=Aside0.mk hy174;clear hy174;by_cases c12:t173.size+(strOfNums y174).size≤9223372036854775807
    ·
     rw [if_pos c12] at H;have c12b0:=eq_true c12;have c12b1:decide (t173.size+(strOfNums y174).size≤9223372036854775807)=true:=decide_eq_true c12
     try have c12b2:(9223372036854775807<t173.size+(strOfNums y174).size)=False:=eq_false (Nat.not_lt.2 c12)
     obtain rfl:=Option.some.inj H;go_enter Tryz.func67,Tryz.ntmps67
     try go_wp2
     replace HB:=a0_ (below_drew1 HB.out);refine start_ (n:=11) (S:=fun w'=>True) (ds:=[]) (Array.replicate 11 false) (by kernel_rfl) rfl rfl trivial (fun hHeld=>?_);refine with_tabW spec_l6Dec.tab7 spec_l6Dec.bits7 (fun HT_ HW_=>?_);generalize w.drew=w13 at HB hHeld ⊢
     refine pu_ HT_ 0 18 (bm 11 1) ?_;refine pu_ HT_ 1 19 (bm 11 3) ?_;refine pu_ HT_ 3 21 (bm 11 11) ?_;refine pu_ HT_ 4 22 (bm 11 27) ?_;refine pu_ HT_ 5 23 (bm 11 59) ?_;refine pu_ HT_ 6 24 (bm 11 123) ?_;refine join_ (σ:=Value) 2 (bm 11 511) (fun s_=>[(20,.string t173),(25,s_),(26,.string (strOfNums y174))]) (fun s_ w'=>(Kd.R (Kd.int .u8) 5 w' w.heap.size (fun _=>True) s_ y174)∧(Below w.heap.size w w')) ?_ ?_;rotate_left
     ·
      intro hCont;refine two_ (i:=2) (j:=7) (Ni:=some 20) (Nj:=some 25) (bm 11 127) (bm 11 251) rfl rfl rfl rfl (two_of HT_.out (by kernel_rfl)) (by decide) (by decide) (fun K hK=>?_) (fun K hK=>?_)
      ·
       skip;refine goes_ Tryz.func67 (by kernel_rfl) rfl #[.int .i64 (wrap64 (Int.tdiv a0 10))] (by rfl) rfl rfl ma_ ?_
       with_reducible refine (ih k (by omega) (wrap64 (Int.tdiv a0 10)) t173 _ A11.out).mono ?_
       rintro e w14 ⟨rfl,hb⟩;refine⟨_,rfl,?_⟩;replace HB:=sb_ HB hb
       (try clear hb)
       (try clear hb2)
       (try clear hk)
       (try clear hi)
       refine hK.out _ _ trivial (fun hHeld=>?_);clear hK K;refine no_ (h:=?_);refine one_ (i:=7) (N:=some 25) (bm 11 255) rfl rfl (one_of HT_.out (by kernel_rfl)) (by decide) (fun K hK=>?_);refine Kd.R_lit_step (Kd.int .u8) _ 5 ?hg (N:=25) ?hd (xs:=([(wrap64 (48+(Int.tmod a0 10))) % 256]:List Int)) (inner:=[.int .u8 ((wrap64 (48+(Int.tmod a0 10))) % 256)]) (ok:=fun _=>True) (okp:=fun _=>True) ?hr ?hp (fun _ hk=>hk) trivial (Below.refl _ _) (Nat.le_refl _) (by simp) ?_;(case hd=>rfl);(case hg=>rfl);(case hr=>first | (go_simp;done) | (go_simp;rfl));(case hp=>exact (Reps.one (show Kd.M (Kd.int .u8) _ _ _ ((wrap64 (48+(Int.tmod a0 10))) % 256) [.int .u8 ((wrap64 (48+(Int.tmod a0 10))) % 256)] from rfl) (Reps.none _ _)));intro v175 w15 ho16 hb hg_ hnew_;clear hg_ hnew_
       (first | rw [← Ny174.out] at ho16 | (simp only [Int.reduceToNat] at ho16;rw [← Ny174.out] at ho16))
       have HO176:=a0_ (Kd.R_lower ho16 (below_size hB_));replace HB:=sb_ HB hb;clear hb ho16;refine hK.out _ _ trivial (fun hHeld=>?_);clear hK K;refine no_ (h:=?_);refine one_ (i:=8) (N:=some 26) (bm 11 511) rfl rfl (one_of HT_.out (by kernel_rfl)) (by decide) (fun K hK=>?_);have hcv17:=own_string (P:=Tryz.prog) Tryz.underlying22 Tryz.underlying5 Tryz.underlying9 (Kd.own_of_R HO176.out);refine value_ (w1:=?_) (v:=?_) (by rfl) rfl ?_ ?_;rotate_left 2
       ·
        go_simp;constructor
        ·
         rfl
        ·
         rfl
       clear hcv17;refine hK.out _ _ trivial (fun hHeld=>?_);clear hK K;refine no_ (h:=?_);exact norm_ (by simp only [putAll,Act.put,List.setIfInBounds_toArray,List.set_cons_zero,List.set_cons_succ]) (hCont (v175) _ ⟨(uR_ HO176),hB_⟩)
      ·
       skip;refine Kd.R_lit_step (Kd.int .u8) _ 5 ?hg (N:=25) ?hd (xs:=([(wrap64 (48+(Int.tmod a0 10))) % 256]:List Int)) (inner:=[.int .u8 ((wrap64 (48+(Int.tmod a0 10))) % 256)]) (ok:=fun _=>True) (okp:=fun _=>True) ?hr ?hp (fun _ hk=>hk) trivial (Below.refl _ _) (Nat.le_refl _) (by simp) ?_;(case hd=>rfl);(case hg=>rfl);(case hr=>first | (go_simp;done) | (go_simp;rfl));(case hp=>exact (Reps.one (show Kd.M (Kd.int .u8) _ _ _ ((wrap64 (48+(Int.tmod a0 10))) % 256) [.int .u8 ((wrap64 (48+(Int.tmod a0 10))) % 256)] from rfl) (Reps.none _ _)));intro v175 w14 ho15 hb hg_ hnew_;clear hg_ hnew_
       (first | rw [← Ny174.out] at ho15 | (simp only [Int.reduceToNat] at ho15;rw [← Ny174.out] at ho15))
       have HO176:=a0_ (Kd.R_lower ho15 (below_size hB_));replace HB:=sb_ HB hb;clear hb ho15;refine hK.out _ _ trivial (fun hHeld=>?_);clear hK K;refine no_ (h:=?_);refine two_ (i:=2) (j:=8) (Ni:=some 20) (Nj:=some 26) (bm 11 255) (bm 11 507) rfl rfl rfl rfl (two_of HT_.out (by kernel_rfl)) (by decide) (by decide) (fun K hK=>?_) (fun K hK=>?_)
       ·
        skip;refine goes_ Tryz.func67 (by kernel_rfl) rfl #[.int .i64 (wrap64 (Int.tdiv a0 10))] (by rfl) rfl rfl ma_ ?_
        with_reducible refine (ih k (by omega) (wrap64 (Int.tdiv a0 10)) t173 _ A11.out).mono ?_
        rintro e w16 ⟨rfl,hb⟩;refine⟨_,rfl,?_⟩;replace HO176:=rb_ HO176 hb;replace HB:=sb_ HB hb
        (try clear hb)
        (try clear hb2)
        (try clear hk)
        (try clear hi)
        refine hK.out _ _ trivial (fun hHeld=>?_);clear hK K;refine no_ (h:=?_);refine one_ (i:=8) (N:=some 26) (bm 11 511) rfl rfl (one_of HT_.out (by kernel_rfl)) (by decide) (fun K hK=>?_);have hcv17:=own_string (P:=Tryz.prog) Tryz.underlying22 Tryz.underlying5 Tryz.underlying9 (Kd.own_of_R HO176.out);refine value_ (w1:=?_) (v:=?_) (by rfl) rfl ?_ ?_;rotate_left 2
        ·
         go_simp;constructor
         ·
          rfl
         ·
          rfl
        clear hcv17;refine hK.out _ _ trivial (fun hHeld=>?_);clear hK K;refine no_ (h:=?_);exact norm_ (by simp only [putAll,Act.put,List.setIfInBounds_toArray,List.set_cons_zero,List.set_cons_succ]) (hCont (v175) _ ⟨(uR_ HO176),hB_⟩)
       ·
        skip;have hcv16:=own_string (P:=Tryz.prog) Tryz.underlying22 Tryz.underlying5 Tryz.underlying9 (Kd.own_of_R HO176.out);refine value_ (w1:=?_) (v:=?_) (by rfl) rfl ?_ ?_;rotate_left 2
        ·
         go_simp;constructor
         ·
          rfl
         ·
          rfl
        clear hcv16;refine hK.out _ _ trivial (fun hHeld=>?_);clear hK K;refine no_ (h:=?_);refine one_ (i:=2) (N:=some 20) (bm 11 511) rfl rfl (one_of HT_.out (by kernel_rfl)) (by decide) (fun K hK=>?_);refine goes_ Tryz.func67 (by kernel_rfl) rfl #[.int .i64 (wrap64 (Int.tdiv a0 10))] (by rfl) rfl rfl ma_ ?_
        with_reducible refine (ih k (by omega) (wrap64 (Int.tdiv a0 10)) t173 _ A11.out).mono ?_
        rintro e w17 ⟨rfl,hb⟩;refine⟨_,rfl,?_⟩;replace HO176:=rb_ HO176 hb;replace HB:=sb_ HB hb
        (try clear hb)
        (try clear hb2)
        (try clear hk)
        (try clear hi)
        refine hK.out _ _ trivial (fun hHeld=>?_);clear hK K;refine no_ (h:=?_);exact norm_ (by simp only [putAll,Act.put,List.setIfInBounds_toArray,List.set_cons_zero,List.set_cons_succ]) (hCont (v175) _ ⟨(uR_ HO176),hB_⟩)
     rintro v175 w18 ⟨h0_,h1_⟩;have n0_:Aside0 (Kd.R (Kd.int .u8) 5 w18 w.heap.size (fun _=>True) v175 y174):=⟨h0_⟩;have n1_:Aside0 (Below w.heap.size w w18):=⟨h1_⟩;clear HB;clear h0_ h1_;have HO176:=n0_;have HB:=n1_;clear n0_ n1_;have hHeld:=trivial;refine norm_ (a':=?_) ?_ ?_;rotate_left
     ·
      simp only [putAll,Act.put,List.setIfInBounds_toArray,List.set_cons_zero,List.set_cons_succ];rfl
     refine pu_ HT_ 9 27 (bm 11 1023) ?_;refine pu_ HT_ 10 2 (bm 11 2047) ?_;refine done_ (done_of HT_.out (by kernel_rfl)) ?_
     try go_wp2
     go_ret;exact⟨rr_,hB_⟩
    ·
     rw [if_neg c12] at H;exact absurd H (by simp)
def spec_l3Pt.f (k:Nat)(a0_0:Int)(a0_1:Int):Option (ByteArray):=(spec_l6Dec.f k a0_0).bind fun t178=>(if t178.size+1≤9223372036854775807 then ((spec_l6Dec.f k a0_1).bind fun t179=>(if (t178++(⟨#[44]⟩:ByteArray)).size+t179.size≤9223372036854775807 then (some ((t178++(⟨#[44]⟩:ByteArray))++t179)) else (none))) else (none))
def spec_l3Pt.T1:Bool × List (List Nat × List Nat):=(true,[([],[]),([0],[0]),([1],[1]),([2],[2]),([],[]),([4],[4]),([5,2],[5]),([3,6],[3,6]),([7,6,0,1,2,3,4,5,6,7],[7])])
def spec_l3Pt.B1:List Nat:=[0,1,3,7,0,16,55,127,255]
theorem spec_l3Pt.tab1:rtab .any (opsOf Tryz.f47 1)=spec_l3Pt.T1:=by kernel_rfl
theorem spec_l3Pt.bits1:waitsOk spec_l3Pt.T1.2 spec_l3Pt.B1=true:=by kernel_rfl
set_option maxHeartbeats 8000000 in
set_option maxRecDepth 100000 in
theorem spec_l3Pt.calls (k:Nat)(a0_0:Int)(a0_1:Int)(r:ByteArray)(w:World)(h:spec_l3Pt.f k a0_0 a0_1=some r):
  Calls Tryz.prog 47 #[.agg #[.int .i64 a0_0,.int .i64 a0_1]] w fun e w'=>e=.returned (.string r)∧Below w.heap.size w w':=by
 have hu70:=Tryz.underlying70;have HB:=a0_ (Below.refl w.heap.size w);have H:((spec_l6Dec.f k a0_0).bind fun t178=>(if t178.size+1≤9223372036854775807 then ((spec_l6Dec.f k a0_1).bind fun t179=>(if (t178++(⟨#[44]⟩:ByteArray)).size+t179.size≤9223372036854775807 then (some ((t178++(⟨#[44]⟩:ByteArray))++t179)) else (none))) else (none)))=some r:=h;clear h;replace H:=Option.bind_eq_some_iff.mp H;obtain⟨t178,A20,H⟩:=H
 (try dsimp only at H)
 have A2:=Aside0.mk A20;clear A20;by_cases c3:t178.size+1≤9223372036854775807
 ·
  rw [if_pos c3] at H;have c3b0:=eq_true c3;have c3b1:decide (t178.size+1≤9223372036854775807)=true:=decide_eq_true c3
  try have c3b2:(9223372036854775807<t178.size+1)=False:=eq_false (Nat.not_lt.2 c3)
  replace H:=Option.bind_eq_some_iff.mp H;obtain⟨t179,A40,H⟩:=H
  (try dsimp only at H)
  have A4:=Aside0.mk A40;clear A40;by_cases c5:(t178++(⟨#[44]⟩:ByteArray)).size+t179.size≤9223372036854775807
  ·
   rw [if_pos c5] at H;have c5b0:=eq_true c5;have c5b1:decide ((t178++(⟨#[44]⟩:ByteArray)).size+t179.size≤9223372036854775807)=true:=decide_eq_true c5
   try have c5b2:(9223372036854775807<(t178++(⟨#[44]⟩:ByteArray)).size+t179.size)=False:=eq_false (Nat.not_lt.2 c5)
   have c5b3:(9223372036854775807<t178.size+1+t179.size)=False:=eq_false (Nat.not_lt.2 (by have:=c5;rw [ByteArray.size_append] at this;exact this));obtain rfl:=Option.some.inj H;go_enter Tryz.func47,Tryz.ntmps47
   try go_wp2_with (first | ((with_reducible refine gate_dst (N:=1) rfl ?_);refine bx_ (N:=1) (cs:=#[.int .i64 a0_0,.int .i64 a0_1]) (t:=70) (h:=?_);intro gb177 hg w6 hbox hb;have BK177:=a0_ (hbox);have GW177:=gh_ HB hg;have GE177:=gh_ HB hg;replace HB:=sb_ HB hb;clear hb hbox hg))
   replace BK177:=a0_ (blk_drew BK177.out);replace HB:=a0_ (below_drew1 HB.out);refine start_ (n:=9) (S:=fun w'=>w'.cell? ⟨gb177,0,none⟩=some (.int .i64 a0_0)∧w'.cell? ⟨gb177,1,none⟩=some (.int .i64 a0_1)) (ds:=[]) (Array.replicate 9 false) (by kernel_rfl) rfl rfl ⟨bc_,bc_⟩ (fun hHeld=>?_);refine with_tabW spec_l3Pt.tab1 spec_l3Pt.bits1 (fun HT_ HW_=>?_);generalize w6.drew=w7 at BK177 HB hHeld ⊢
   refine pu_ HT_ 0 3 (bm 9 1) ?_;refine pu_ HT_ 4 7 (bm 9 17) ?_;refine ta2_ HT_ HW_ 1 4 (bm 9 19) hHeld ?_;refine ta2_ HT_ HW_ 5 8 (bm 9 51) hHeld ?_;refine one_ (i:=2) (N:=some 5) (bm 9 55) rfl rfl (one_of HT_.out (by kernel_rfl)) (by decide) (fun K hK=>?_);refine goes_ Tryz.func67 (by kernel_rfl) rfl #[.int .i64 a0_0] (by rfl) rfl rfl ma_ ?_
   with_reducible refine (spec_l6Dec.calls k a0_0 t178 _ A2.out).mono ?_
   rintro e w8 ⟨rfl,hb⟩;refine⟨_,rfl,?_⟩;replace BK177:=vb_ BK177 hb;replace HB:=sb_ HB hb
   (try clear hb)
   (try clear hb2)
   (try clear hk)
   (try clear hi)
   refine hK.out _ _ ⟨bc_,bc_⟩ (fun hHeld=>?_);clear hK K;refine no_ (h:=?_);refine pu_ HT_ 3 6 (bm 9 63) ?_;refine one_ (i:=6) (N:=some 9) (bm 9 127) rfl rfl (one_of HT_.out (by kernel_rfl)) (by decide) (fun K hK=>?_);refine goes_ Tryz.func67 (by kernel_rfl) rfl #[.int .i64 a0_1] (by rfl) rfl rfl ma_ ?_
   with_reducible refine (spec_l6Dec.calls k a0_1 t179 _ A4.out).mono ?_
   rintro e w9 ⟨rfl,hb⟩;refine⟨_,rfl,?_⟩;replace BK177:=vb_ BK177 hb;replace HB:=sb_ HB hb
   (try clear hb)
   (try clear hb2)
   (try clear hk)
   (try clear hi)
   refine hK.out _ _ ⟨bc_,bc_⟩ (fun hHeld=>?_);clear hK K;refine no_ (h:=?_);refine pu_ HT_ 7 10 (bm 9 255) ?_;refine pu_ HT_ 8 2 (bm 9 511) ?_;refine done_ (done_of HT_.out (by kernel_rfl)) ?_
   try go_wp2
   go_ret;exact⟨rr_,hB_⟩
  ·
   rw [if_neg c5] at H;exact absurd H (by simp)
 ·
  rw [if_neg c3] at H;exact absurd H (by simp)
def spec_l3Text.l0:Nat→List (S70)→ByteArray→Int→Option (ByteArray)
 | 0,_,_,_=>none
 | k+1,x0,x3,x4=>if x4<(x0.length:Int) then (if x4>0 then (if x3.size+1≤9223372036854775807 then (if 0≤x4 then ((spec_l3Pt.f k ((rd_T70 x0 x4).f0) ((rd_T70 x0 x4).f1)).bind fun t181=>(if (x3++(⟨#[32]⟩:ByteArray)).size+t181.size≤9223372036854775807 then (spec_l3Text.l0 k x0 ((x3++(⟨#[32]⟩:ByteArray))++t181) (wrap64 (x4+1))) else (none))) else (none)) else (none)) else (if 0≤x4 then ((spec_l3Pt.f k ((rd_T70 x0 x4).f0) ((rd_T70 x0 x4).f1)).bind fun t183=>(if x3.size+t183.size≤9223372036854775807 then (spec_l3Text.l0 k x0 (x3++t183) (wrap64 (x4+1))) else (none))) else (none))) else (some x3)
def spec_l3Text.f (k:Nat)(l0:List (S70)):Option (ByteArray):=spec_l3Text.l0 k l0 (⟨#[]⟩:ByteArray) 0
set_option maxHeartbeats 8000000 in
set_option maxRecDepth 100000 in
theorem spec_l3Text.calls (k:Nat)(A0:Option Addr)(c0:Nat)(l0:List (S70))(r:ByteArray)(w:World)(hr0:Kd.C k70 w A0 l0.length l0)(hc0:l0.length≤c0)(h:spec_l3Text.f k l0=some r):
  Calls Tryz.prog 28 #[.slice A0 l0.length c0] w fun e w'=>e=.returned (.string r)∧Below w.heap.size w w':=by
 have hu70:=Tryz.underlying70;have HR0:=Aside0.mk hr0;have HC0:=Aside0.mk hc0;clear hr0 hc0;have HB:=a0_ (Below.refl w.heap.size w);have H:(spec_l3Text.l0 k l0 (⟨#[]⟩:ByteArray) 0)=some r:=h;clear h;have H':=Aside0.mk H;clear H;go_enter Tryz.func28,Tryz.ntmps28;go_wp2;go_loopg [3,4] k (fun kq v3 v4 w'=>∃ (x3_1:ByteArray) (x4_1:Int),v3=.string x3_1∧v4=.int .i64 x4_1∧Aside0 (spec_l3Text.l0 kq l0 x3_1 x4_1=some r)∧Aside0 (kq≤k)∧Aside0 (Below w.heap.size w w'))
 case atStart=>exact⟨((⟨#[]⟩:ByteArray)),(0),(by first | rfl | (simp;done) | (simp [*];done)),(by first | rfl | (simp;done) | (simp [*];done)),H',⟨Nat.le_refl _⟩,⟨hB_⟩⟩
 case round =>
  clear H';obtain⟨x3_1,x4_1,rfl,rfl,HA,HK1,HB⟩:=hrel
  cases gk with
  | zero=>exact absurd HA.out (by simp [spec_l3Text.l0])
  | succ k1 =>
   have H:=HA.out;clear HA;simp only [spec_l3Text.l0] at H;by_cases c2:x4_1<(l0.length:Int)
   ·
    rw [if_pos c2] at H;have c2b0:decide (x4_1<(l0.length:Int))=true:=decide_eq_true c2;clear c2;by_cases c3:x4_1>0
    ·
     rw [if_pos c3] at H;have c3b0:decide (0<x4_1)=true:=decide_eq_true c3;clear c3;by_cases c4:x3_1.size+1≤9223372036854775807
     ·
      rw [if_pos c4] at H;have c4b0:=eq_true c4;have c4b1:decide (x3_1.size+1≤9223372036854775807)=true:=decide_eq_true c4
      try have c4b2:(9223372036854775807<x3_1.size+1)=False:=eq_false (Nat.not_lt.2 c4)
      by_cases c5:0≤x4_1
      ·
       rw [if_pos c5] at H;have c5b0:decide (0≤x4_1)=true:=decide_eq_true c5;clear c5;replace H:=Option.bind_eq_some_iff.mp H;obtain⟨t181,A60,H⟩:=H
       (try dsimp only at H)
       have A6:=Aside0.mk A60;clear A60;by_cases c7:(x3_1++(⟨#[32]⟩:ByteArray)).size+t181.size≤9223372036854775807
       ·
        rw [if_pos c7] at H;have c7b0:=eq_true c7;have c7b1:decide ((x3_1++(⟨#[32]⟩:ByteArray)).size+t181.size≤9223372036854775807)=true:=decide_eq_true c7
        try have c7b2:(9223372036854775807<(x3_1++(⟨#[32]⟩:ByteArray)).size+t181.size)=False:=eq_false (Nat.not_lt.2 c7)
        have c7b3:(9223372036854775807<x3_1.size+1+t181.size)=False:=eq_false (Nat.not_lt.2 (by have:=c7;rw [ByteArray.size_append] at this;exact this));have H':=Aside0.mk H;clear H;have p180:0≤(x4_1:Int):=od_;have q180:x4_1<(l0.length:Int):=od_;obtain⟨ad180,e180,hx180_0,hx180_1⟩:=at_T70 HR0.out x4_1 p180 q180;cases e180;replace hx180_0:=ce_ HB hx180_0;replace hx180_1:=ce_ HB hx180_1;replace p180:=eq_true p180;replace q180:=eq_true q180;go_wp2_with (first | ((with_reducible refine gate_callee (f:=47) rfl ?_);refine gL_ (some 20) Tryz.func47 #[.agg #[.int .i64 ((rd_T70 l0 x4_1).f0),.int .i64 ((rd_T70 l0 x4_1).f1)]] (h:=?_);(with_reducible refine (spec_l3Pt.calls k1 ((rd_T70 l0 x4_1).f0) ((rd_T70 l0 x4_1).f1) t181 _ A6.out).mono ?_);rintro e w8 ⟨rfl,hb⟩;refine⟨_,rfl,?_⟩;replace HB:=sb_ HB hb;(try clear hb)));go_roundg k1
        case measure=>have:=HK1.out;omega
        case rel=>exact⟨((x3_1++(⟨#[32]⟩:ByteArray))++t181),(wrap64 (x4_1+1)),(by first | rfl | (simp;done) | (simp [*];done)),(by first | rfl | (simp;done) | (simp [*];done)),H',⟨by have:=HK1.out;omega⟩,⟨hB_⟩⟩
       ·
        rw [if_neg c7] at H;exact absurd H (by simp)
      ·
       rw [if_neg c5] at H;exact absurd H (by simp)
     ·
      rw [if_neg c4] at H;exact absurd H (by simp)
    ·
     rw [if_neg c3] at H;have c3b0:decide (0<x4_1)=false:=decide_eq_false c3;clear c3;by_cases c9:0≤x4_1
     ·
      rw [if_pos c9] at H;have c9b0:decide (0≤x4_1)=true:=decide_eq_true c9;clear c9;replace H:=Option.bind_eq_some_iff.mp H;obtain⟨t183,A100,H⟩:=H
      (try dsimp only at H)
      have A10:=Aside0.mk A100;clear A100;by_cases c11:x3_1.size+t183.size≤9223372036854775807
      ·
       rw [if_pos c11] at H;have c11b0:=eq_true c11;have c11b1:decide (x3_1.size+t183.size≤9223372036854775807)=true:=decide_eq_true c11
       try have c11b2:(9223372036854775807<x3_1.size+t183.size)=False:=eq_false (Nat.not_lt.2 c11)
       have H':=Aside0.mk H;clear H;have p182:0≤(x4_1:Int):=od_;have q182:x4_1<(l0.length:Int):=od_;obtain⟨ad182,e182,hx182_0,hx182_1⟩:=at_T70 HR0.out x4_1 p182 q182;cases e182;replace hx182_0:=ce_ HB hx182_0;replace hx182_1:=ce_ HB hx182_1;replace p182:=eq_true p182;replace q182:=eq_true q182;go_wp2_with (first | ((with_reducible refine gate_callee (f:=47) rfl ?_);refine gL_ (some 20) Tryz.func47 #[.agg #[.int .i64 ((rd_T70 l0 x4_1).f0),.int .i64 ((rd_T70 l0 x4_1).f1)]] (h:=?_);(with_reducible refine (spec_l3Pt.calls k1 ((rd_T70 l0 x4_1).f0) ((rd_T70 l0 x4_1).f1) t183 _ A10.out).mono ?_);rintro e w12 ⟨rfl,hb⟩;refine⟨_,rfl,?_⟩;replace HB:=sb_ HB hb;(try clear hb)));go_roundg k1
       case measure=>have:=HK1.out;omega
       case rel=>exact⟨(x3_1++t183),(wrap64 (x4_1+1)),(by first | rfl | (simp;done) | (simp [*];done)),(by first | rfl | (simp;done) | (simp [*];done)),H',⟨by have:=HK1.out;omega⟩,⟨hB_⟩⟩
      ·
       rw [if_neg c11] at H;exact absurd H (by simp)
     ·
      rw [if_neg c9] at H;exact absurd H (by simp)
   ·
    rw [if_neg c2] at H;have c2b0:decide (x4_1<(l0.length:Int))=false:=decide_eq_false c2;clear c2;obtain rfl:=Option.some.inj H;go_wp2;go_ret;exact⟨rr_,hB_⟩
def spec_PlateText.l0:Nat→ByteArray→Int→List (S70)→List (List (S70))→Option (ByteArray)
 | 0,_,_,_,_=>none
 | k+1,x3,x4,x185000,x185001=>if x4<(x185001.length:Int) then (if 0≤x4 then ((spec_l3Text.f k (rd_L5 x185001 x4)).bind fun t188=>(if x3.size+t188.size≤9223372036854775807 then (if (x3++t188).size+1≤9223372036854775807 then (spec_PlateText.l0 k ((x3++t188)++(⟨#[10]⟩:ByteArray)) (wrap64 (x4+1)) x185000 x185001) else (none)) else (none))) else (none)) else (some x3)
def spec_PlateText.f (k:Nat)(l0_0:List (S70))(l0_1:List (List (S70))):Option (ByteArray):=(spec_PlateOk.f k l0_0 l0_1).bind fun t185=>(if t185=true then ((spec_l3Text.f k l0_0).bind fun t186=>(if t186.size+1≤9223372036854775807 then (spec_PlateText.l0 k (t186++(⟨#[10]⟩:ByteArray)) 0 l0_0 l0_1) else (none))) else (some (⟨#[]⟩:ByteArray)))
set_option maxHeartbeats 8000000 in
set_option maxRecDepth 100000 in
theorem spec_PlateText.calls (k:Nat)(A0_0:Option Addr)(c0_0:Nat)(l0_0:List (S70))(A0_1:Option Addr)(c0_1:Nat)(l0_1:List (List (S70)))(r:ByteArray)(w:World)(hr0_0:Kd.C k70 w A0_0 l0_0.length l0_0)(hc0_0:l0_0.length≤c0_0)(hr0_1:Kd.C (Kd.slice 70 k70) w A0_1 l0_1.length l0_1)(hc0_1:l0_1.length≤c0_1)(h:spec_PlateText.f k l0_0 l0_1=some r):
  Calls Tryz.prog 11 #[.agg #[.slice A0_0 l0_0.length c0_0,.slice A0_1 l0_1.length c0_1]] w fun e w'=>e=.returned (.string r)∧Below w.heap.size w w':=by
 have hu27:=Tryz.underlying27;have HR0_0:=Aside0.mk hr0_0;have HC0_0:=Aside0.mk hc0_0;clear hr0_0 hc0_0;have HR0_1:=Aside0.mk hr0_1;have HC0_1:=Aside0.mk hc0_1;clear hr0_1 hc0_1;have HB:=a0_ (Below.refl w.heap.size w);have H:((spec_PlateOk.f k l0_0 l0_1).bind fun t185=>(if t185=true then ((spec_l3Text.f k l0_0).bind fun t186=>(if t186.size+1≤9223372036854775807 then (spec_PlateText.l0 k (t186++(⟨#[10]⟩:ByteArray)) 0 l0_0 l0_1) else (none))) else (some (⟨#[]⟩:ByteArray))))=some r:=h;clear h;replace H:=Option.bind_eq_some_iff.mp H;obtain⟨t185,A20,H⟩:=H
 (try dsimp only at H)
 have A2:=Aside0.mk A20;clear A20;by_cases c3:t185=true
 ·
  subst c3;rw [if_pos rfl] at H
  (try dsimp only at H)
  replace H:=Option.bind_eq_some_iff.mp H;obtain⟨t186,A40,H⟩:=H
  (try dsimp only at H)
  have A4:=Aside0.mk A40;clear A40;by_cases c5:t186.size+1≤9223372036854775807
  ·
   rw [if_pos c5] at H;have c5b0:=eq_true c5;have c5b1:decide (t186.size+1≤9223372036854775807)=true:=decide_eq_true c5
   try have c5b2:(9223372036854775807<t186.size+1)=False:=eq_false (Nat.not_lt.2 c5)
   have H':=Aside0.mk H;clear H;go_enter Tryz.func11,Tryz.ntmps11
   go_wp2_with (first | ((with_reducible refine gate_dst (N:=1) rfl ?_);refine bx_ (N:=1) (cs:=#[.slice A0_0 l0_0.length c0_0,.slice A0_1 l0_1.length c0_1]) (t:=27) (h:=?_);intro gb184 hg w6 hbox hb;have BK184:=a0_ (hbox);have GW184:=gh_ HB hg;have GE184:=gh_ HB hg;replace HB:=sb_ HB hb;clear hb hbox hg;have hcz7_0:=c20_ BK184;have hcz7_1:=c21_ BK184;have hfz7_0:=fz_ BK184 0;have hfz7_1:=fz_ BK184 1) | ((with_reducible refine gate_callee (f:=17) rfl ?_);refine gL_ (some 6) Tryz.func17 #[.agg #[.slice A0_0 l0_0.length c0_0,.slice A0_1 l0_1.length c0_1]] (h:=?_);(with_reducible refine (spec_PlateOk.calls k _ _ l0_0 _ _ l0_1 true _ ?side1 ?side2 ?side3 ?side4 A2.out).mono ?_);(case side1=>repeat (first | exact (Kd.C_below HR0_0.out HB.out) | (with_reducible refine Kd.C_alloc ?_ _) | (with_reducible refine Kd.C_drewN ?_ _) | (with_reducible refine Kd.C_drew ?_)));(case side2=>exact HC0_0.out);(case side3=>repeat (first | exact (Kd.C_below HR0_1.out HB.out) | (with_reducible refine Kd.C_alloc ?_ _) | (with_reducible refine Kd.C_drewN ?_ _) | (with_reducible refine Kd.C_drew ?_)));(case side4=>exact HC0_1.out);rintro e w8 ⟨rfl,hb⟩;refine⟨_,rfl,?_⟩;replace BK184:=vb_ BK184 hb;replace HB:=sb_ HB hb;(try clear hb);have hcz9_0:=c20_ BK184;have hcz9_1:=c21_ BK184;have hfz9_0:=fz_ BK184 0;have hfz9_1:=fz_ BK184 1) | ((with_reducible refine gate_callee (f:=28) rfl ?_);refine gL_ (some 10) Tryz.func28 #[.slice A0_0 l0_0.length c0_0] (h:=?_);(with_reducible refine (spec_l3Text.calls k _ _ l0_0 t186 _ ?side1 ?side2 A4.out).mono ?_);(case side1=>repeat (first | exact (Kd.C_below HR0_0.out HB.out) | (with_reducible refine Kd.C_alloc ?_ _) | (with_reducible refine Kd.C_drewN ?_ _) | (with_reducible refine Kd.C_drew ?_)));(case side2=>exact HC0_0.out);rintro e w10 ⟨rfl,hb⟩;refine⟨_,rfl,?_⟩;replace BK184:=vb_ BK184 hb;replace HB:=sb_ HB hb;(try clear hb)))
   go_loopg [3,4] k (fun kq v3 v4 w'=>∃ (x3_1:ByteArray) (x4_1:Int),v3=.string x3_1∧v4=.int .i64 x4_1∧Aside0 (spec_PlateText.l0 kq x3_1 x4_1 l0_0 l0_1=some r)∧Aside0 (kq≤k)∧Aside0 (w'.heap[gb184]?=some (.cells #[(.slice A0_0 l0_0.length c0_0),(.slice A0_1 l0_1.length c0_1)] 27 (0,0)))∧Aside0 (Below w.heap.size w w'))
   case atStart=>exact⟨(t186++(⟨#[10]⟩:ByteArray)),(0),(by first | rfl | (simp;done) | (simp [*];done)),(by first | rfl | (simp;done) | (simp [*];done)),H',⟨Nat.le_refl _⟩,⟨uq_⟩,⟨hB_⟩⟩
   case round =>
    clear H';obtain⟨x3_1,x4_1,rfl,rfl,HA,HK1,BK184,HB⟩:=hrel
    cases gk with
    | zero=>exact absurd HA.out (by simp [spec_PlateText.l0])
    | succ k1 =>
     have H:=HA.out;clear HA;simp only [spec_PlateText.l0] at H;by_cases c11:x4_1<(l0_1.length:Int)
     ·
      rw [if_pos c11] at H;have c11b0:decide (x4_1<(l0_1.length:Int))=true:=decide_eq_true c11;clear c11;by_cases c12:0≤x4_1
      ·
       rw [if_pos c12] at H;have c12b0:decide (0≤x4_1)=true:=decide_eq_true c12;clear c12;replace H:=Option.bind_eq_some_iff.mp H;obtain⟨t188,A130,H⟩:=H
       (try dsimp only at H)
       have A13:=Aside0.mk A130;clear A130;by_cases c14:x3_1.size+t188.size≤9223372036854775807
       ·
        rw [if_pos c14] at H;have c14b0:=eq_true c14;have c14b1:decide (x3_1.size+t188.size≤9223372036854775807)=true:=decide_eq_true c14
        try have c14b2:(9223372036854775807<x3_1.size+t188.size)=False:=eq_false (Nat.not_lt.2 c14)
        by_cases c15:(x3_1++t188).size+1≤9223372036854775807
        ·
         rw [if_pos c15] at H;have c15b0:=eq_true c15;have c15b1:decide ((x3_1++t188).size+1≤9223372036854775807)=true:=decide_eq_true c15
         try have c15b2:(9223372036854775807<(x3_1++t188).size+1)=False:=eq_false (Nat.not_lt.2 c15)
         have c15b3:(9223372036854775807<x3_1.size+t188.size+1)=False:=eq_false (Nat.not_lt.2 (by have:=c15;rw [ByteArray.size_append] at this;exact this));have H':=Aside0.mk H;clear H;have hcz16_0:=c20_ BK184;have hcz16_1:=c21_ BK184;have hfz16_0:=fz_ BK184 0;have hfz16_1:=fz_ BK184 1;have p187:0≤(x4_1:Int):=od_;have q187:x4_1<(l0_1.length:Int):=od_;obtain⟨ad187,A187_0,c187_0,e187,hx187_0,hl187_0,hi187_0⟩:=at_L5 HR0_1.out x4_1 p187 q187;cases e187;replace hx187_0:=ce_ HB hx187_0;have HR187_0:=Aside0.mk hi187_0;have HC187_0:=Aside0.mk hl187_0;clear hi187_0 hl187_0;replace p187:=eq_true p187;replace q187:=eq_true q187;go_wp2_with (first | ((with_reducible refine gate_callee (f:=28) rfl ?_);refine gL_ (some 25) Tryz.func28 #[.slice A187_0 (rd_L5 l0_1 x4_1).length c187_0] (h:=?_);(with_reducible refine (spec_l3Text.calls k1 _ _ (rd_L5 l0_1 x4_1) t188 _ ?side1 ?side2 A13.out).mono ?_);(case side1=>repeat (first | exact (Kd.C_below HR187_0.out HB.out) | (with_reducible refine Kd.C_alloc ?_ _) | (with_reducible refine Kd.C_drewN ?_ _) | (with_reducible refine Kd.C_drew ?_)));(case side2=>exact HC187_0.out);rintro e w17 ⟨rfl,hb⟩;refine⟨_,rfl,?_⟩;replace BK184:=vb_ BK184 hb;replace HB:=sb_ HB hb;(try clear hb)));go_roundg k1
         case measure=>have:=HK1.out;omega
         case rel=>exact⟨((x3_1++t188)++(⟨#[10]⟩:ByteArray)),(wrap64 (x4_1+1)),(by first | rfl | (simp;done) | (simp [*];done)),(by first | rfl | (simp;done) | (simp [*];done)),H',⟨by have:=HK1.out;omega⟩,⟨uq_⟩,⟨hB_⟩⟩
        ·
         rw [if_neg c15] at H;exact absurd H (by simp)
       ·
        rw [if_neg c14] at H;exact absurd H (by simp)
      ·
       rw [if_neg c12] at H;exact absurd H (by simp)
     ·
      rw [if_neg c11] at H;have c11b0:decide (x4_1<(l0_1.length:Int))=false:=decide_eq_false c11;clear c11;obtain rfl:=Option.some.inj H;have hcz18_0:=c20_ BK184;have hcz18_1:=c21_ BK184;have hfz18_0:=fz_ BK184 0;have hfz18_1:=fz_ BK184 1;go_wp2;go_ret;exact⟨rr_,hB_⟩
  ·
   rw [if_neg c5] at H;exact absurd H (by simp)
 ·
  replace c3:=Bool.eq_false_iff.mpr c3;subst c3;rw [if_neg (show ¬ (false=true) by decide)] at H
  (try dsimp only at H)
  obtain rfl:=Option.some.inj H;go_enter Tryz.func11,Tryz.ntmps11;go_wp2_with (first | ((with_reducible refine gate_dst (N:=1) rfl ?_);refine bx_ (N:=1) (cs:=#[.slice A0_0 l0_0.length c0_0,.slice A0_1 l0_1.length c0_1]) (t:=27) (h:=?_);intro gb184 hg w19 hbox hb;have BK184:=a0_ (hbox);have GW184:=gh_ HB hg;have GE184:=gh_ HB hg;replace HB:=sb_ HB hb;clear hb hbox hg;have hcz20_0:=c20_ BK184;have hcz20_1:=c21_ BK184;have hfz20_0:=fz_ BK184 0;have hfz20_1:=fz_ BK184 1) | ((with_reducible refine gate_callee (f:=17) rfl ?_);refine gL_ (some 6) Tryz.func17 #[.agg #[.slice A0_0 l0_0.length c0_0,.slice A0_1 l0_1.length c0_1]] (h:=?_);(with_reducible refine (spec_PlateOk.calls k _ _ l0_0 _ _ l0_1 false _ ?side1 ?side2 ?side3 ?side4 A2.out).mono ?_);(case side1=>repeat (first | exact (Kd.C_below HR0_0.out HB.out) | (with_reducible refine Kd.C_alloc ?_ _) | (with_reducible refine Kd.C_drewN ?_ _) | (with_reducible refine Kd.C_drew ?_)));(case side2=>exact HC0_0.out);(case side3=>repeat (first | exact (Kd.C_below HR0_1.out HB.out) | (with_reducible refine Kd.C_alloc ?_ _) | (with_reducible refine Kd.C_drewN ?_ _) | (with_reducible refine Kd.C_drew ?_)));(case side4=>exact HC0_1.out);rintro e w21 ⟨rfl,hb⟩;refine⟨_,rfl,?_⟩;replace BK184:=vb_ BK184 hb;replace HB:=sb_ HB hb;(try clear hb)));go_ret;exact⟨rr_,hB_⟩
def spec_DrawPlateRead.f (k:Nat)(l0:List Int):Option (ByteArray):=(spec_l6Open.f l0).bind fun bt357=>((spec_l71Plate.f k bt357.1 bt357.2).bind fun bt360=>((spec_PlateText.f k bt360.1 bt360.2.1).bind fun t367=>((spec_l6Rd_pick.f k bt357.1 bt360.2.2 (wrap64 ((t367.size:Int)+1))).bind fun bt368=>((spec_l6Rd_pick.f k bt357.1 bt368.2 8).bind fun bt370=>(if bt370.1=0 then (if 0≤bt368.1 then (if bt368.1≤(t367.size:Int) then (some (t367.extract 0 (bt368.1:Int).toNat)) else (none)) else (none)) else (if bt370.1=1 then (if 0≤bt368.1 then (if bt368.1≤(t367.size:Int) then ((spec_l6Rd_of.f k bt357.1 bt370.2 (([(⟨#[48]⟩:ByteArray),(⟨#[32]⟩:ByteArray),(⟨#[10]⟩:ByteArray),(⟨#[32,53,44,53]⟩:ByteArray),(⟨#[120]⟩:ByteArray)]:List ByteArray))).bind fun bt375=>(if (t367.extract 0 (bt368.1:Int).toNat).size+bt375.1.size≤9223372036854775807 then (if ((t367.extract 0 (bt368.1:Int).toNat)++bt375.1).size+(t367.extract (bt368.1:Int).toNat t367.size).size≤9223372036854775807 then (some (((t367.extract 0 (bt368.1:Int).toNat)++bt375.1)++(t367.extract (bt368.1:Int).toNat t367.size))) else (none)) else (none))) else (none)) else (none)) else (some t367)))))))
def spec_DrawPlateRead.T8:Bool × List (List Nat × List Nat):=(true,[([],[]),([],[]),([0,1],[0,1]),([],[]),([],[]),([3,4],[3,4]),([2,5],[2,5]),([],[]),([],[]),([7,8],[7,8]),([6,9],[6,9]),([10,5,0,1,2,3,4,5,6,7,8,9,10],[10])])
def spec_DrawPlateRead.B8:List Nat:=[0,0,3,0,0,24,63,0,0,384,1023,2047]
theorem spec_DrawPlateRead.tab8:rtab .any (opsOf Tryz.f4 8)=spec_DrawPlateRead.T8:=by kernel_rfl
theorem spec_DrawPlateRead.bits8:waitsOk spec_DrawPlateRead.T8.2 spec_DrawPlateRead.B8=true:=by kernel_rfl
set_option maxHeartbeats 8000000 in
set_option maxRecDepth 100000 in
theorem spec_DrawPlateRead.calls (k:Nat)(A0:Option Addr)(c0:Nat)(l0:List Int)(r:ByteArray)(w:World)(hr0:Kd.C (Kd.int .u8) w A0 l0.length l0)(hc0:l0.length≤c0)(h:spec_DrawPlateRead.f k l0=some r):
  Calls Tryz.prog 4 #[.slice A0 l0.length c0] w fun e w'=>e=.returned (.string r)∧Below w.heap.size w w':=by
 have HR0:=Aside0.mk hr0;have HC0:=Aside0.mk hc0;clear hr0 hc0;have HB:=a0_ (Below.refl w.heap.size w);have H:((spec_l6Open.f l0).bind fun bt357=>((spec_l71Plate.f k bt357.1 bt357.2).bind fun bt360=>((spec_PlateText.f k bt360.1 bt360.2.1).bind fun t367=>((spec_l6Rd_pick.f k bt357.1 bt360.2.2 (wrap64 ((t367.size:Int)+1))).bind fun bt368=>((spec_l6Rd_pick.f k bt357.1 bt368.2 8).bind fun bt370=>(if bt370.1=0 then (if 0≤bt368.1 then (if bt368.1≤(t367.size:Int) then (some (t367.extract 0 (bt368.1:Int).toNat)) else (none)) else (none)) else (if bt370.1=1 then (if 0≤bt368.1 then (if bt368.1≤(t367.size:Int) then ((spec_l6Rd_of.f k bt357.1 bt370.2 (([(⟨#[48]⟩:ByteArray),(⟨#[32]⟩:ByteArray),(⟨#[10]⟩:ByteArray),(⟨#[32,53,44,53]⟩:ByteArray),(⟨#[120]⟩:ByteArray)]:List ByteArray))).bind fun bt375=>(if (t367.extract 0 (bt368.1:Int).toNat).size+bt375.1.size≤9223372036854775807 then (if ((t367.extract 0 (bt368.1:Int).toNat)++bt375.1).size+(t367.extract (bt368.1:Int).toNat t367.size).size≤9223372036854775807 then (some (((t367.extract 0 (bt368.1:Int).toNat)++bt375.1)++(t367.extract (bt368.1:Int).toNat t367.size))) else (none)) else (none))) else (none)) else (none)) else (some t367))))))))=some r:=h;clear h;replace H:=Option.bind_eq_some_iff.mp H;obtain⟨⟨t357,t358⟩,A20,H⟩:=H
 (try dsimp only at H)
 have A2:=Aside0.mk A20;clear A20;replace H:=Option.bind_eq_some_iff.mp H;obtain⟨⟨t360,t363,t366⟩,A30,H⟩:=H
 (try dsimp only at H)
 have A3:=Aside0.mk A30;clear A30;replace H:=Option.bind_eq_some_iff.mp H;obtain⟨t367,A40,H⟩:=H
 (try dsimp only at H)
 have A4:=Aside0.mk A40;clear A40;replace H:=Option.bind_eq_some_iff.mp H;obtain⟨⟨t368,t369⟩,A50,H⟩:=H
 (try dsimp only at H)
 have A5:=Aside0.mk A50;clear A50;replace H:=Option.bind_eq_some_iff.mp H;obtain⟨⟨t370,t371⟩,A60,H⟩:=H
 (try dsimp only at H)
 have A6:=Aside0.mk A60;clear A60;by_cases c7:t370=0
 ·
  rw [if_pos c7] at H;have c7b0:(t370==0)=true:=beq_iff_eq.mpr c7;have c7b1:(t370 != 0)=false:=bne_eq_false_iff_eq.mpr c7;clear c7;by_cases c8:0≤t368
  ·
   rw [if_pos c8] at H;have c8b0:=eq_true c8;have c8b1:decide (0≤t368)=true:=decide_eq_true c8;clear c8;by_cases c9:t368≤(t367.size:Int)
   ·
    rw [if_pos c9] at H;have c9b0:=eq_true c9;have c9b1:decide (t368≤(t367.size:Int))=true:=decide_eq_true c9;clear c9;obtain rfl:=Option.some.inj H;go_enter Tryz.func4,Tryz.ntmps4
    go_wp2_with (first | ((with_reducible refine gate_callee (f:=10) rfl ?_);refine gL_ (some 7) Tryz.func10 #[.slice A0 l0.length c0] (h:=?_);(with_reducible refine (spec_l6Open.calls _ _ l0 t357 t358 w _ hBs_ HR0.out HC0.out A2.out).mono ?_);rintro e w10 ⟨g359,rfl,hi,hb,hb2⟩;refine⟨_,rfl,?_⟩;have HI359:=a0_ (hi);replace HB:=a0_ (hb);(try clear hi hb hb2)) | ((with_reducible refine gate_callee (f:=12) rfl ?_);refine gL_ (some 9) Tryz.func12 #[.pointer (some ⟨g359,0,none⟩)] (h:=?_);(with_reducible refine (spec_l71Plate.calls k g359 t357 t358 t360 t363 t366 w _ ?side1 ?side2 A3.out).mono ?_);(case side1=>repeat (first | (with_reducible first | exact HI359.out | apply IsS67.alloc | apply IsS67.drewN | apply IsS67.drew | apply IsS67.set_1) | exact HI359.out));(case side2=>exact hBs_);rintro e w11 ⟨v361,v364,rfl,ho0,ho1,hi,hb,hk⟩;refine⟨_,rfl,?_⟩;have HO362:=a0_ (Kd.R_lower (Kd.R_mono (ok':=fun k_=>True) ho0 (fun _ hk_=>trivial)) (below_size hBs_));have HO365:=a0_ (Kd.N_lower (Kd.N_mono (ok':=fun k_=>some k_≠(v361:Value).ownBlock∧k_≠g359) ho1 (fun k_ hk_=>⟨hk_.2,(IsS67.fresh (by repeat (first | (with_reducible first | exact HI359.out | apply IsS67.alloc | apply IsS67.drewN | apply IsS67.drew | apply IsS67.set_1) | exact HI359.out)) k_ hk_.1)⟩)) (below_size hBs_));replace HB:=a0_ (hb);replace HI359:=a0_ (hi);(try clear ho0 ho1 hi hb hk);obtain⟨Ao12,co12,eo12⟩:=Kd.R_slice HO362.out;subst eo12;obtain⟨Ao13,co13,eo13⟩:=Kd.N_slice HO365.out;subst eo13) | ((with_reducible refine gate_callee (f:=11) rfl ?_);refine gL_ (some 10) Tryz.func11 #[.agg #[.slice Ao12 t360.length co12,.slice Ao13 t363.length co13]] (h:=?_);(with_reducible refine (spec_PlateText.calls k _ _ t360 _ _ t363 t367 _ ?side1 ?side2 ?side3 ?side4 A4.out).mono ?_);(case side1=>repeat (first | exact (Kd.R_reads' HO362.out).2.2 | (with_reducible refine Kd.C_alloc ?_ _) | (with_reducible refine Kd.C_drewN ?_ _) | (with_reducible refine Kd.C_drew ?_)));(case side2=>exact (Kd.R_reads' HO362.out).2.1);(case side3=>repeat (first | exact (Kd.N_reads' HO365.out).2.2 | (with_reducible refine Kd.C_alloc ?_ _) | (with_reducible refine Kd.C_drewN ?_ _) | (with_reducible refine Kd.C_drew ?_)));(case side4=>exact (Kd.N_reads' HO365.out).2.1);rintro e w14 ⟨rfl,hb⟩;refine⟨_,rfl,?_⟩;replace HO362:=rb_ HO362 hb;replace HO365:=nb_ HO365 hb;replace HB:=a0_ (below_step hBs_ hb);replace HI359:=a0_ (IsS67.below (by repeat (first | (with_reducible first | exact HI359.out | apply IsS67.alloc | apply IsS67.drewN | apply IsS67.drew | apply IsS67.set_1) | exact HI359.out)) hb);(try clear hb)) | ((with_reducible refine gate_callee (f:=13) rfl ?_);refine gL_ (some 15) Tryz.func13 #[.pointer (some ⟨g359,0,none⟩),.int .i64 (wrap64 ((t367.size:Int)+1))] (h:=?_);(with_reducible refine (spec_l6Rd_pick.calls k g359 t357 t366 (wrap64 ((t367.size:Int)+1)) t368 t369 w _ ?side1 ?side2 A5.out).mono ?_);(case side1=>repeat (first | (with_reducible first | exact HI359.out | apply IsS67.alloc | apply IsS67.drewN | apply IsS67.drew | apply IsS67.set_1) | exact HI359.out));(case side2=>exact hBs_);rintro e w15 ⟨rfl,hi,hb,hk⟩;refine⟨_,rfl,?_⟩;replace HO362:=a0_ (Kd.R_mono (Kd.R_keep (IsS67.apart (show IsS67 w _ g359 t357 t366 from by repeat (first | (with_reducible first | exact HI359.out | apply IsS67.alloc | apply IsS67.drewN | apply IsS67.drew | apply IsS67.set_1) | exact HI359.out)) (uR_ HO362) (by decide)) hk (fun _ h=>h.2)) (fun _ h=>h.1));replace HO365:=a0_ (Kd.N_mono (Kd.N_keep (Kd.N_mono (ok:=fun k_=>(some k_≠(.slice Ao12 t360.length co12:Value).ownBlock∧k_≠g359)) (uN_ HO365) (fun k_ hk_=>(⟨hk_,hk_.2⟩:_∧k_≠g359))) hk (fun _ h=>h.2)) (fun _ h=>h.1));replace HB:=a0_ (hb);replace HI359:=a0_ (hi);(try clear hi hb hk)) | ((with_reducible refine gate_callee (f:=13) rfl ?_);refine gL_ (some 17) Tryz.func13 #[.pointer (some ⟨g359,0,none⟩),.int .i64 8] (h:=?_);(with_reducible refine (spec_l6Rd_pick.calls k g359 t357 t369 8 t370 t371 w _ ?side1 ?side2 A6.out).mono ?_);(case side1=>repeat (first | (with_reducible first | exact HI359.out | apply IsS67.alloc | apply IsS67.drewN | apply IsS67.drew | apply IsS67.set_1) | exact HI359.out));(case side2=>exact hBs_);rintro e w16 ⟨rfl,hi,hb,hk⟩;refine⟨_,rfl,?_⟩;replace HO362:=a0_ (Kd.R_mono (Kd.R_keep (IsS67.apart (show IsS67 w _ g359 t357 t369 from by repeat (first | (with_reducible first | exact HI359.out | apply IsS67.alloc | apply IsS67.drewN | apply IsS67.drew | apply IsS67.set_1) | exact HI359.out)) (uR_ HO362) (by decide)) hk (fun _ h=>h.2)) (fun _ h=>h.1));replace HO365:=a0_ (Kd.N_mono (Kd.N_keep (Kd.N_mono (ok:=fun k_=>(some k_≠(.slice Ao12 t360.length co12:Value).ownBlock∧k_≠g359)) (uN_ HO365) (fun k_ hk_=>(⟨hk_,hk_.2⟩:_∧k_≠g359))) hk (fun _ h=>h.2)) (fun _ h=>h.1));replace HB:=a0_ (hb);replace HI359:=a0_ (hi);(try clear hi hb hk)))
    go_ret;exact⟨rr_,by repeat (first | (with_reducible first | exact HB.out | apply below_alloc | apply pw_below_drewN | apply below_drew1 | refine below_set ?_ (IsS67.ge HI359.out)) | exact HB.out)⟩
   ·
    rw [if_neg c9] at H;exact absurd H (by simp)
  ·
   rw [if_neg c8] at H;exact absurd H (by simp)
 ·
  rw [if_neg c7] at H;have c7b0:(t370==0)=false:=beq_eq_false_iff_ne.mpr c7;have c7b1:(t370 != 0)=true:=bne_iff_ne.mpr c7;by_cases c17:t370=1
  ·
   rw [if_pos c17] at H;have c17b0:(t370==1)=true:=beq_iff_eq.mpr c17;have c17b1:(t370 != 1)=false:=bne_eq_false_iff_eq.mpr c17;clear c17;by_cases c18:0≤t368
   ·
    rw [if_pos c18] at H;have c18b0:=eq_true c18;have c18b1:decide (0≤t368)=true:=decide_eq_true c18;clear c18;by_cases c19:t368≤(t367.size:Int)
    ·
     rw [if_pos c19] at H;have c19b0:=eq_true c19;have c19b1:decide (t368≤(t367.size:Int))=true:=decide_eq_true c19;clear c19;obtain⟨y372,hy372⟩:∃ y_:List ByteArray,y_=(([(⟨#[48]⟩:ByteArray),(⟨#[32]⟩:ByteArray),(⟨#[10]⟩:ByteArray),(⟨#[32,53,44,53]⟩:ByteArray),(⟨#[120]⟩:ByteArray)]:List ByteArray)):=⟨_,rfl⟩;replace H:((spec_l6Rd_of.f k t357 t371 y372).bind fun bt375=>(if (t367.extract 0 (t368:Int).toNat).size+bt375.1.size≤9223372036854775807 then (if ((t367.extract 0 (t368:Int).toNat)++bt375.1).size+(t367.extract (t368:Int).toNat t367.size).size≤9223372036854775807 then (some (((t367.extract 0 (t368:Int).toNat)++bt375.1)++(t367.extract (t368:Int).toNat t367.size))) else (none)) else (none)))=some r:=by first | (rw [hy372];with_reducible exact H) | (have H2_:=(Option.bind_some _ _).symm.trans H;rw [hy372];with_reducible exact H2_) | (have H2_:=(Option.bind_some _ _).symm.trans H;with_reducible exact H2_) | with_reducible exact H | (rw [hy372];exact H) | exact H
     have Ny372:=Aside0.mk hy372;clear hy372;replace H:=Option.bind_eq_some_iff.mp H;obtain⟨⟨t375,t376⟩,A200,H⟩:=H
     (try dsimp only at H)
     have A20:=Aside0.mk A200;clear A200;by_cases c21:(t367.extract 0 (t368:Int).toNat).size+t375.size≤9223372036854775807
     ·
      rw [if_pos c21] at H;have c21b0:=eq_true c21;have c21b1:decide ((t367.extract 0 (t368:Int).toNat).size+t375.size≤9223372036854775807)=true:=decide_eq_true c21
      try have c21b2:(9223372036854775807<(t367.extract 0 (t368:Int).toNat).size+t375.size)=False:=eq_false (Nat.not_lt.2 c21)
      have c22b0:=eq_true (od_:0≤t368);have c23b0:=eq_true (od_:t368≤(t367.size:Int));have c21b3:(9223372036854775807<t368.toNat+t375.size)=False:=eq_false (by have h_:=c21;rw [ByteArray.size_extract] at h_;have h2_:t368≤(t367.size:Int):=of_eq_true c23b0;omega);by_cases c24:((t367.extract 0 (t368:Int).toNat)++t375).size+(t367.extract (t368:Int).toNat t367.size).size≤9223372036854775807
      ·
       rw [if_pos c24] at H;have c24b0:=eq_true c24;have c24b1:decide (((t367.extract 0 (t368:Int).toNat)++t375).size+(t367.extract (t368:Int).toNat t367.size).size≤9223372036854775807)=true:=decide_eq_true c24
       try have c24b2:(9223372036854775807<((t367.extract 0 (t368:Int).toNat)++t375).size+(t367.extract (t368:Int).toNat t367.size).size)=False:=eq_false (Nat.not_lt.2 c24)
       have c24b3:(9223372036854775807<t368.toNat+t375.size+(t367.size-t368.toNat))=False:=eq_false (by have h_:=c24;rw [ByteArray.size_append,ByteArray.size_extract,ByteArray.size_extract] at h_;have h2_:t368≤(t367.size:Int):=of_eq_true c23b0;omega);obtain rfl:=Option.some.inj H;go_enter Tryz.func4,Tryz.ntmps4
       try go_wp2_with (first | ((with_reducible refine gate_callee (f:=10) rfl ?_);refine gL_ (some 7) Tryz.func10 #[.slice A0 l0.length c0] (h:=?_);(with_reducible refine (spec_l6Open.calls _ _ l0 t357 t358 w _ hBs_ HR0.out HC0.out A2.out).mono ?_);rintro e w25 ⟨g359,rfl,hi,hb,hb2⟩;refine⟨_,rfl,?_⟩;have HI359:=a0_ (hi);replace HB:=a0_ (hb);(try clear hi hb hb2)) | ((with_reducible refine gate_callee (f:=12) rfl ?_);refine gL_ (some 9) Tryz.func12 #[.pointer (some ⟨g359,0,none⟩)] (h:=?_);(with_reducible refine (spec_l71Plate.calls k g359 t357 t358 t360 t363 t366 w _ ?side1 ?side2 A3.out).mono ?_);(case side1=>repeat (first | (with_reducible first | exact HI359.out | apply IsS67.alloc | apply IsS67.drewN | apply IsS67.drew | apply IsS67.set_1) | exact HI359.out));(case side2=>exact hBs_);rintro e w26 ⟨v361,v364,rfl,ho0,ho1,hi,hb,hk⟩;refine⟨_,rfl,?_⟩;have HO362:=a0_ (Kd.R_lower (Kd.R_mono (ok':=fun k_=>True) ho0 (fun _ hk_=>trivial)) (below_size hBs_));have HO365:=a0_ (Kd.N_lower (Kd.N_mono (ok':=fun k_=>some k_≠(v361:Value).ownBlock∧k_≠g359) ho1 (fun k_ hk_=>⟨hk_.2,(IsS67.fresh (by repeat (first | (with_reducible first | exact HI359.out | apply IsS67.alloc | apply IsS67.drewN | apply IsS67.drew | apply IsS67.set_1) | exact HI359.out)) k_ hk_.1)⟩)) (below_size hBs_));replace HB:=a0_ (hb);replace HI359:=a0_ (hi);(try clear ho0 ho1 hi hb hk);obtain⟨Ao27,co27,eo27⟩:=Kd.R_slice HO362.out;subst eo27;obtain⟨Ao28,co28,eo28⟩:=Kd.N_slice HO365.out;subst eo28) | ((with_reducible refine gate_callee (f:=11) rfl ?_);refine gL_ (some 10) Tryz.func11 #[.agg #[.slice Ao27 t360.length co27,.slice Ao28 t363.length co28]] (h:=?_);(with_reducible refine (spec_PlateText.calls k _ _ t360 _ _ t363 t367 _ ?side1 ?side2 ?side3 ?side4 A4.out).mono ?_);(case side1=>repeat (first | exact (Kd.R_reads' HO362.out).2.2 | (with_reducible refine Kd.C_alloc ?_ _) | (with_reducible refine Kd.C_drewN ?_ _) | (with_reducible refine Kd.C_drew ?_)));(case side2=>exact (Kd.R_reads' HO362.out).2.1);(case side3=>repeat (first | exact (Kd.N_reads' HO365.out).2.2 | (with_reducible refine Kd.C_alloc ?_ _) | (with_reducible refine Kd.C_drewN ?_ _) | (with_reducible refine Kd.C_drew ?_)));(case side4=>exact (Kd.N_reads' HO365.out).2.1);rintro e w29 ⟨rfl,hb⟩;refine⟨_,rfl,?_⟩;replace HO362:=rb_ HO362 hb;replace HO365:=nb_ HO365 hb;replace HB:=a0_ (below_step hBs_ hb);replace HI359:=a0_ (IsS67.below (by repeat (first | (with_reducible first | exact HI359.out | apply IsS67.alloc | apply IsS67.drewN | apply IsS67.drew | apply IsS67.set_1) | exact HI359.out)) hb);(try clear hb)) | ((with_reducible refine gate_callee (f:=13) rfl ?_);refine gL_ (some 15) Tryz.func13 #[.pointer (some ⟨g359,0,none⟩),.int .i64 (wrap64 ((t367.size:Int)+1))] (h:=?_);(with_reducible refine (spec_l6Rd_pick.calls k g359 t357 t366 (wrap64 ((t367.size:Int)+1)) t368 t369 w _ ?side1 ?side2 A5.out).mono ?_);(case side1=>repeat (first | (with_reducible first | exact HI359.out | apply IsS67.alloc | apply IsS67.drewN | apply IsS67.drew | apply IsS67.set_1) | exact HI359.out));(case side2=>exact hBs_);rintro e w30 ⟨rfl,hi,hb,hk⟩;refine⟨_,rfl,?_⟩;replace HO362:=a0_ (Kd.R_mono (Kd.R_keep (IsS67.apart (show IsS67 w _ g359 t357 t366 from by repeat (first | (with_reducible first | exact HI359.out | apply IsS67.alloc | apply IsS67.drewN | apply IsS67.drew | apply IsS67.set_1) | exact HI359.out)) (uR_ HO362) (by decide)) hk (fun _ h=>h.2)) (fun _ h=>h.1));replace HO365:=a0_ (Kd.N_mono (Kd.N_keep (Kd.N_mono (ok:=fun k_=>(some k_≠(.slice Ao27 t360.length co27:Value).ownBlock∧k_≠g359)) (uN_ HO365) (fun k_ hk_=>(⟨hk_,hk_.2⟩:_∧k_≠g359))) hk (fun _ h=>h.2)) (fun _ h=>h.1));replace HB:=a0_ (hb);replace HI359:=a0_ (hi);(try clear hi hb hk)) | ((with_reducible refine gate_callee (f:=13) rfl ?_);refine gL_ (some 17) Tryz.func13 #[.pointer (some ⟨g359,0,none⟩),.int .i64 8] (h:=?_);(with_reducible refine (spec_l6Rd_pick.calls k g359 t357 t369 8 t370 t371 w _ ?side1 ?side2 A6.out).mono ?_);(case side1=>repeat (first | (with_reducible first | exact HI359.out | apply IsS67.alloc | apply IsS67.drewN | apply IsS67.drew | apply IsS67.set_1) | exact HI359.out));(case side2=>exact hBs_);rintro e w31 ⟨rfl,hi,hb,hk⟩;refine⟨_,rfl,?_⟩;replace HO362:=a0_ (Kd.R_mono (Kd.R_keep (IsS67.apart (show IsS67 w _ g359 t357 t369 from by repeat (first | (with_reducible first | exact HI359.out | apply IsS67.alloc | apply IsS67.drewN | apply IsS67.drew | apply IsS67.set_1) | exact HI359.out)) (uR_ HO362) (by decide)) hk (fun _ h=>h.2)) (fun _ h=>h.1));replace HO365:=a0_ (Kd.N_mono (Kd.N_keep (Kd.N_mono (ok:=fun k_=>(some k_≠(.slice Ao27 t360.length co27:Value).ownBlock∧k_≠g359)) (uN_ HO365) (fun k_ hk_=>(⟨hk_,hk_.2⟩:_∧k_≠g359))) hk (fun _ h=>h.2)) (fun _ h=>h.1));replace HB:=a0_ (hb);replace HI359:=a0_ (hi);(try clear hi hb hk)))
       replace HO362:=a0_ (Kd.R_drew HO362.out);replace HO365:=a0_ (Kd.N_drew HO365.out);replace HI359:=a0_ (IsS67.drew HI359.out);replace HB:=a0_ (below_drew1 HB.out);refine start_ (n:=12) (S:=fun w'=>True) (ds:=[]) (Array.replicate 12 false) (by kernel_rfl) rfl rfl trivial (fun hHeld=>?_);refine with_tabW spec_DrawPlateRead.tab8 spec_DrawPlateRead.bits8 (fun HT_ HW_=>?_);generalize w31.drew=w32 at HO362 HO365 HI359 HB hHeld ⊢
       refine pu_ HT_ 0 25 (bm 12 1) ?_;refine pu_ HT_ 1 26 (bm 12 3) ?_;refine pu_ HT_ 2 27 (bm 12 7) ?_;refine pu_ HT_ 3 28 (bm 12 15) ?_;refine pu_ HT_ 7 32 (bm 12 143) ?_;refine pu_ HT_ 8 33 (bm 12 399) ?_;refine pu_ HT_ 9 34 (bm 12 911) ?_;refine one_ (i:=4) (N:=some 29) (bm 12 927) rfl rfl (one_of HT_.out (by kernel_rfl)) (by decide) (fun K hK=>?_);refine Kd.R_lit_step Kd.string _ 9 ?hg (N:=29) ?hd (xs:=([(⟨#[48]⟩:ByteArray),(⟨#[32]⟩:ByteArray),(⟨#[10]⟩:ByteArray),(⟨#[32,53,44,53]⟩:ByteArray),(⟨#[120]⟩:ByteArray)]:List ByteArray)) (inner:=[.string (⟨#[48]⟩:ByteArray),.string (⟨#[32]⟩:ByteArray),.string (⟨#[10]⟩:ByteArray),.string (⟨#[32,53,44,53]⟩:ByteArray),.string (⟨#[120]⟩:ByteArray)]) (ok:=fun _=>True) (okp:=fun _=>True) ?hr ?hp (fun _ hk=>hk) trivial (Below.refl _ _) (Nat.le_refl _) (by simp) ?_;(case hd=>rfl);(case hg=>rfl);(case hr=>first | (go_simp;done) | (go_simp;rfl));(case hp=>exact (Reps.one (show Kd.M Kd.string _ _ _ (⟨#[48]⟩:ByteArray) [.string (⟨#[48]⟩:ByteArray)] from rfl) (Reps.one (show Kd.M Kd.string _ _ _ (⟨#[32]⟩:ByteArray) [.string (⟨#[32]⟩:ByteArray)] from rfl) (Reps.one (show Kd.M Kd.string _ _ _ (⟨#[10]⟩:ByteArray) [.string (⟨#[10]⟩:ByteArray)] from rfl) (Reps.one (show Kd.M Kd.string _ _ _ (⟨#[32,53,44,53]⟩:ByteArray) [.string (⟨#[32,53,44,53]⟩:ByteArray)] from rfl) (Reps.one (show Kd.M Kd.string _ _ _ (⟨#[120]⟩:ByteArray) [.string (⟨#[120]⟩:ByteArray)] from rfl) (Reps.none _ _)))))));intro v373 w33 ho34 hb hg_ hnew_;clear hg_ hnew_
       (first | rw [← Ny372.out] at ho34 | (simp only [Int.reduceToNat] at ho34;rw [← Ny372.out] at ho34))
       have HO374:=a0_ (Kd.R_lower ho34 (below_size hBs_));replace HO362:=rb_ HO362 hb;replace HO365:=a0_ (Kd.N_elder' (uN_ HO365) (Kd.R_base ho34) hb);replace HB:=a0_ (below_step hBs_ hb);replace HI359:=a0_ (IsS67.below (by repeat (first | (with_reducible first | exact HI359.out | apply IsS67.alloc | apply IsS67.drewN | apply IsS67.drew | apply IsS67.set_1) | exact HI359.out)) hb);clear hb ho34;obtain⟨Ao35,co35,eo35⟩:=Kd.R_slice HO374.out
       (first | subst eo35 | (injection eo35 with f1_ f2_ f3_;have f4_:=f1_.symm;have f5_:=f3_.symm;clear f1_ f2_ f3_;subst f4_;subst f5_))
       refine hK.out _ _ trivial (fun hHeld=>?_);clear hK K;refine no_ (h:=?_);refine one_ (i:=5) (N:=some 30) (bm 12 959) rfl rfl (one_of HT_.out (by kernel_rfl)) (by decide) (fun K hK=>?_);refine goes_ Tryz.func14 (by kernel_rfl) rfl #[.pointer (some ⟨g359,0,none⟩),.slice Ao35 y372.length co35] (by rfl) rfl rfl ma_ ?_
       with_reducible refine (spec_l6Rd_of.calls k g359 t357 t371 _ _ y372 t375 t376 w _ ?side1 ?side2 ?side3 ?side4 ?side5 A20.out).mono ?_
       (case side1=>repeat (first | (with_reducible first | exact HI359.out | apply IsS67.alloc | apply IsS67.drewN | apply IsS67.drew | apply IsS67.set_1) | exact HI359.out))
       (case side2=>exact hBs_)
       (case side3=>repeat (first | exact (Kd.R_reads' HO374.out).2.2 | (with_reducible refine Kd.C_alloc ?_ _) | (with_reducible refine Kd.C_drewN ?_ _) | (with_reducible refine Kd.C_drew ?_)))
       (case side4=>exact (Kd.R_reads' HO374.out).2.1)
       (case side5=>exact far_slice (IsS67.own_ne HI359.out HO374.out (by decide)))
       rintro e w36 ⟨rfl,hi,hb,hk⟩;refine⟨_,rfl,?_⟩;replace HO362:=a0_ (Kd.R_mono (Kd.R_keep (IsS67.apart (show IsS67 w _ g359 t357 t371 from by repeat (first | (with_reducible first | exact HI359.out | apply IsS67.alloc | apply IsS67.drewN | apply IsS67.drew | apply IsS67.set_1) | exact HI359.out)) (uR_ HO362) (by decide)) hk (fun _ h=>h.2)) (fun _ h=>h.1));replace HO365:=a0_ (Kd.N_mono (Kd.N_keep (Kd.N_mono (ok:=fun k_=>((some k_≠(.slice Ao27 t360.length co27:Value).ownBlock∧k_≠g359)∧some k_≠(.slice Ao35 y372.length co35:Value).ownBlock)) (uN_ HO365) (fun k_ hk_=>(⟨hk_,hk_.1.2⟩:_∧k_≠g359))) hk (fun _ h=>h.2)) (fun _ h=>h.1));replace HO374:=a0_ (Kd.R_mono (Kd.R_keep (IsS67.apart (show IsS67 w _ g359 t357 t371 from by repeat (first | (with_reducible first | exact HI359.out | apply IsS67.alloc | apply IsS67.drewN | apply IsS67.drew | apply IsS67.set_1) | exact HI359.out)) (uR_ HO374) (by decide)) hk (fun _ h=>h.2)) (fun _ h=>h.1));replace HB:=a0_ (hb);replace HI359:=a0_ (hi)
       (try clear hb)
       (try clear hb2)
       (try clear hk)
       (try clear hi)
       refine hK.out _ _ trivial (fun hHeld=>?_);clear hK K;refine no_ (h:=?_);refine pu_ HT_ 6 31 (bm 12 1023) ?_;refine pu_ HT_ 10 35 (bm 12 2047) ?_;refine pu_ HT_ 11 2 (bm 12 4095) ?_;refine done_ (done_of HT_.out (by kernel_rfl)) ?_
       try go_wp2
       go_ret;exact⟨rr_,by repeat (first | (with_reducible first | exact HB.out | apply below_alloc | apply pw_below_drewN | apply below_drew1 | refine below_set ?_ (IsS67.ge HI359.out)) | exact HB.out)⟩
      ·
       rw [if_neg c24] at H;exact absurd H (by simp)
     ·
      rw [if_neg c21] at H;exact absurd H (by simp)
    ·
     rw [if_neg c19] at H;exact absurd H (by simp)
   ·
    rw [if_neg c18] at H;exact absurd H (by simp)
  ·
   rw [if_neg c17] at H;have c17b0:(t370==1)=false:=beq_eq_false_iff_ne.mpr c17;have c17b1:(t370 != 1)=true:=bne_iff_ne.mpr c17;obtain rfl:=Option.some.inj H;go_enter Tryz.func4,Tryz.ntmps4
   go_wp2_with (first | ((with_reducible refine gate_callee (f:=10) rfl ?_);refine gL_ (some 7) Tryz.func10 #[.slice A0 l0.length c0] (h:=?_);(with_reducible refine (spec_l6Open.calls _ _ l0 t357 t358 w _ hBs_ HR0.out HC0.out A2.out).mono ?_);rintro e w37 ⟨g359,rfl,hi,hb,hb2⟩;refine⟨_,rfl,?_⟩;have HI359:=a0_ (hi);replace HB:=a0_ (hb);(try clear hi hb hb2)) | ((with_reducible refine gate_callee (f:=12) rfl ?_);refine gL_ (some 9) Tryz.func12 #[.pointer (some ⟨g359,0,none⟩)] (h:=?_);(with_reducible refine (spec_l71Plate.calls k g359 t357 t358 t360 t363 t366 w _ ?side1 ?side2 A3.out).mono ?_);(case side1=>repeat (first | (with_reducible first | exact HI359.out | apply IsS67.alloc | apply IsS67.drewN | apply IsS67.drew | apply IsS67.set_1) | exact HI359.out));(case side2=>exact hBs_);rintro e w38 ⟨v361,v364,rfl,ho0,ho1,hi,hb,hk⟩;refine⟨_,rfl,?_⟩;have HO362:=a0_ (Kd.R_lower (Kd.R_mono (ok':=fun k_=>True) ho0 (fun _ hk_=>trivial)) (below_size hBs_));have HO365:=a0_ (Kd.N_lower (Kd.N_mono (ok':=fun k_=>some k_≠(v361:Value).ownBlock∧k_≠g359) ho1 (fun k_ hk_=>⟨hk_.2,(IsS67.fresh (by repeat (first | (with_reducible first | exact HI359.out | apply IsS67.alloc | apply IsS67.drewN | apply IsS67.drew | apply IsS67.set_1) | exact HI359.out)) k_ hk_.1)⟩)) (below_size hBs_));replace HB:=a0_ (hb);replace HI359:=a0_ (hi);(try clear ho0 ho1 hi hb hk);obtain⟨Ao39,co39,eo39⟩:=Kd.R_slice HO362.out;subst eo39;obtain⟨Ao40,co40,eo40⟩:=Kd.N_slice HO365.out;subst eo40) | ((with_reducible refine gate_callee (f:=11) rfl ?_);refine gL_ (some 10) Tryz.func11 #[.agg #[.slice Ao39 t360.length co39,.slice Ao40 t363.length co40]] (h:=?_);(with_reducible refine (spec_PlateText.calls k _ _ t360 _ _ t363 t367 _ ?side1 ?side2 ?side3 ?side4 A4.out).mono ?_);(case side1=>repeat (first | exact (Kd.R_reads' HO362.out).2.2 | (with_reducible refine Kd.C_alloc ?_ _) | (with_reducible refine Kd.C_drewN ?_ _) | (with_reducible refine Kd.C_drew ?_)));(case side2=>exact (Kd.R_reads' HO362.out).2.1);(case side3=>repeat (first | exact (Kd.N_reads' HO365.out).2.2 | (with_reducible refine Kd.C_alloc ?_ _) | (with_reducible refine Kd.C_drewN ?_ _) | (with_reducible refine Kd.C_drew ?_)));(case side4=>exact (Kd.N_reads' HO365.out).2.1);rintro e w41 ⟨rfl,hb⟩;refine⟨_,rfl,?_⟩;replace HO362:=rb_ HO362 hb;replace HO365:=nb_ HO365 hb;replace HB:=a0_ (below_step hBs_ hb);replace HI359:=a0_ (IsS67.below (by repeat (first | (with_reducible first | exact HI359.out | apply IsS67.alloc | apply IsS67.drewN | apply IsS67.drew | apply IsS67.set_1) | exact HI359.out)) hb);(try clear hb)) | ((with_reducible refine gate_callee (f:=13) rfl ?_);refine gL_ (some 15) Tryz.func13 #[.pointer (some ⟨g359,0,none⟩),.int .i64 (wrap64 ((t367.size:Int)+1))] (h:=?_);(with_reducible refine (spec_l6Rd_pick.calls k g359 t357 t366 (wrap64 ((t367.size:Int)+1)) t368 t369 w _ ?side1 ?side2 A5.out).mono ?_);(case side1=>repeat (first | (with_reducible first | exact HI359.out | apply IsS67.alloc | apply IsS67.drewN | apply IsS67.drew | apply IsS67.set_1) | exact HI359.out));(case side2=>exact hBs_);rintro e w42 ⟨rfl,hi,hb,hk⟩;refine⟨_,rfl,?_⟩;replace HO362:=a0_ (Kd.R_mono (Kd.R_keep (IsS67.apart (show IsS67 w _ g359 t357 t366 from by repeat (first | (with_reducible first | exact HI359.out | apply IsS67.alloc | apply IsS67.drewN | apply IsS67.drew | apply IsS67.set_1) | exact HI359.out)) (uR_ HO362) (by decide)) hk (fun _ h=>h.2)) (fun _ h=>h.1));replace HO365:=a0_ (Kd.N_mono (Kd.N_keep (Kd.N_mono (ok:=fun k_=>(some k_≠(.slice Ao39 t360.length co39:Value).ownBlock∧k_≠g359)) (uN_ HO365) (fun k_ hk_=>(⟨hk_,hk_.2⟩:_∧k_≠g359))) hk (fun _ h=>h.2)) (fun _ h=>h.1));replace HB:=a0_ (hb);replace HI359:=a0_ (hi);(try clear hi hb hk)) | ((with_reducible refine gate_callee (f:=13) rfl ?_);refine gL_ (some 17) Tryz.func13 #[.pointer (some ⟨g359,0,none⟩),.int .i64 8] (h:=?_);(with_reducible refine (spec_l6Rd_pick.calls k g359 t357 t369 8 t370 t371 w _ ?side1 ?side2 A6.out).mono ?_);(case side1=>repeat (first | (with_reducible first | exact HI359.out | apply IsS67.alloc | apply IsS67.drewN | apply IsS67.drew | apply IsS67.set_1) | exact HI359.out));(case side2=>exact hBs_);rintro e w43 ⟨rfl,hi,hb,hk⟩;refine⟨_,rfl,?_⟩;replace HO362:=a0_ (Kd.R_mono (Kd.R_keep (IsS67.apart (show IsS67 w _ g359 t357 t369 from by repeat (first | (with_reducible first | exact HI359.out | apply IsS67.alloc | apply IsS67.drewN | apply IsS67.drew | apply IsS67.set_1) | exact HI359.out)) (uR_ HO362) (by decide)) hk (fun _ h=>h.2)) (fun _ h=>h.1));replace HO365:=a0_ (Kd.N_mono (Kd.N_keep (Kd.N_mono (ok:=fun k_=>(some k_≠(.slice Ao39 t360.length co39:Value).ownBlock∧k_≠g359)) (uN_ HO365) (fun k_ hk_=>(⟨hk_,hk_.2⟩:_∧k_≠g359))) hk (fun _ h=>h.2)) (fun _ h=>h.1));replace HB:=a0_ (hb);replace HI359:=a0_ (hi);(try clear hi hb hk)))
   go_ret;exact⟨rr_,by repeat (first | (with_reducible first | exact HB.out | apply below_alloc | apply pw_below_drewN | apply below_drew1 | refine below_set ?_ (IsS67.ge HI359.out)) | exact HB.out)⟩
end Go.Proofs.YtailkppkjhkjpaaGreatDoor.X
end
section
set_option linter.unusedVariables false
set_option linter.unusedSimpArgs false
namespace Go.Proofs.YtailkppkjhkjpaaGreatDoor.X
open Go.RowKit Go.Proofs.YtailkppkjhkjpaaGreatDoorW.PrintWords Go.Proofs.YtailkppkjhkjpaaGreatDoorW.PrintLast Go.Proofs.YtailkppkjhkjpaaGreatDoorW.PrintMore
def qmL:Nat→Nat→List Bool
 | 0,_=>[]
 | n+1,m=>(m % 2==1)::qmL n (m / 2)
def qm (n m:Nat):Array Bool:=⟨qmL n m⟩
theorem qp {P:Program}{ops:Array Oper}{Q:Exit→Act→World→Prop}{md:Region.Mode}{S:World→Prop}{ds:List Nat}{oi:Oper}{v:Value}{fuel:Nat}{l:Array Bool}{a a':Act}{w:World}(i N:Nat)(l':Array Bool)(h:wpAnyLast P md ops Q S ds fuel l' a' w)(hi:ops[i]?=some oi:=by rfl)(hN:oi.dst=some N:=by rfl)(hc:anyB md ops l l' i=true:=by kernel_rfl)(hw:Region.wanted oi (yielded ops a.tmps)=true:=by rfl)(hr:∀ w',(execOp a.eval oi).run P w'=.ok (.value v) w':=by (intro w';go_simp;with_reducible rfl))(ha:a.put (some N) v=a':=by (simp only [Act.put,List.setIfInBounds_toArray,List.set_cons_zero,List.set_cons_succ,i64_w,i32_w];rfl))(hQ:∀ c a w,Q (.panic c) (a.put oi.dst v) w→Q (.panic c) a w:=by exact fun _ _ _ h=>h):wpAnyLast P md ops Q S ds (fuel+1) l a w:=pure_ l' hi hN hc hQ (Or.inl ⟨hw,hr⟩) ha h
theorem qt1 {P:Program}{ops:Array Oper}{Q:Exit→Act→World→Prop}{md:Region.Mode}{S:World→Prop}{ds:List Nat}{oi:Oper}{v:Value}{fuel:Nat}{l:Array Bool}{a a':Act}{w:World}(i N:Nat)(l':Array Bool)(hS:S w)(h:wpAnyLast P md ops Q S ds fuel l' a' w)(hi:ops[i]?=some oi:=by rfl)(hN:oi.dst=some N:=by rfl)(hc:takeB md ops ds l l' i=true:=by kernel_rfl)(hw:Region.wanted oi (yielded ops a.tmps)=true:=by rfl)(hr:∀ w',S w'→(execOp a.eval oi).run P w'=.ok (.value v) w':=by (rintro w' s0;go_simp;with_reducible rfl))(ha:a.put (some N) v=a':=by (simp only [Act.put,List.setIfInBounds_toArray,List.set_cons_zero,List.set_cons_succ,i64_w,i32_w];rfl))(hQ:∀ c a w,Q (.panic c) (a.put oi.dst v) w→Q (.panic c) a w:=by exact fun _ _ _ h=>h):wpAnyLast P md ops Q S ds (fuel+1) l a w:=take_ l' hi hN hc hQ (Or.inl ⟨hw,hr⟩) hS ha h
theorem qt2 {P:Program}{ops:Array Oper}{Q:Exit→Act→World→Prop}{md:Region.Mode}{S:World→Prop}{ds:List Nat}{oi:Oper}{v:Value}{fuel:Nat}{l:Array Bool}{a a':Act}{w:World}(i N:Nat)(l':Array Bool)(hS:S w)(h:wpAnyLast P md ops Q S ds fuel l' a' w)(hi:ops[i]?=some oi:=by rfl)(hN:oi.dst=some N:=by rfl)(hc:takeB md ops ds l l' i=true:=by kernel_rfl)(hw:Region.wanted oi (yielded ops a.tmps)=true:=by rfl)(hr:∀ w',S w'→(execOp a.eval oi).run P w'=.ok (.value v) w':=by (rintro w' ⟨s0,s1⟩;go_simp;with_reducible rfl))(ha:a.put (some N) v=a':=by (simp only [Act.put,List.setIfInBounds_toArray,List.set_cons_zero,List.set_cons_succ,i64_w,i32_w];rfl))(hQ:∀ c a w,Q (.panic c) (a.put oi.dst v) w→Q (.panic c) a w:=by exact fun _ _ _ h=>h):wpAnyLast P md ops Q S ds (fuel+1) l a w:=take_ l' hi hN hc hQ (Or.inl ⟨hw,hr⟩) hS ha h
theorem qc {P:Program}{ops:Array Oper}{Q:Exit→Act→World→Prop}{md:Region.Mode}{S:World→Prop}{fuel:Nat}{l:Array Bool}{a a':Act}{w:World}(i N:Nat)(l':Array Bool){oi:Oper}{f:FuncId}{fn:Func}{as0:Array Operand}{ts:Array TypeId}{args:Array Value}{v:Value}(hf:P.funcs[f]?=some fn)
  (hcall:Calls P f args w fun e W'=>e=.returned v∧Below w.heap.size w W') (hS:∀ w',Below w.heap.size w w'→S w')
  (h:∀ w',Below w.heap.size w w'→S w'→wpAnyLast P md ops Q S [] fuel l' a' w')
  (hi:ops[i]?=some oi:=by rfl) (hN:oi.dst=some N:=by rfl) (hc:readyB md ops l l' i=true:=by kernel_rfl)
  (hw:Region.wanted oi (yielded ops a.tmps)=true:=by rfl) (hname:(fn.name == "runtime.NumGoroutine")=false:=by kernel_rfl) (hb:fn.body.isSome=true:=by rfl)
  (hop:oi.op=.call { callee:=.value (.func f),args:=as0,argTypes:=ts }:=by rfl)
  (ha1:as0.map a.eval=args:=by (try simp only [List.map_toArray,List.map_cons,List.map_nil]);first | done | rfl)
  (ha:a.put (some N) v=a':=by (simp only [Act.put,List.setIfInBounds_toArray,List.set_cons_zero,List.set_cons_succ,i64_w,i32_w];rfl)):wpAnyLast P md ops Q S [] (fuel+1) l a w:=by
 refine one_ l' hi hN hc (by simp) (fun K hK=>?_);refine goes_ hf hname hb args hw hN hop ha1 ?_;refine hcall.mono ?_;rintro e w1 ⟨rfl,hb1⟩;refine⟨_,rfl,hK.out _ _ (hS _ hb1) (fun hs=>?_)⟩;rw [ha];exact h _ hb1 hs
end Go.Proofs.YtailkppkjhkjpaaGreatDoor.X
end
section
set_option linter.unusedVariables false
set_option linter.unusedSimpArgs false
namespace Go.Proofs.YtailkppkjhkjpaaGreatDoor.X
open Go.RowKit Go.Shelf Go.Proofs.YtailkppkjhkjpaaGreatDoorW.PrintWords Go.Proofs.YtailkppkjhkjpaaGreatDoorW.PrintLast Go.Proofs.YtailkppkjhkjpaaGreatDoorW.PrintMore
open Txt (cutAt cutAt_eq cutAt_cons cutAt_ne)
theorem cut_snoc_eq (c:UInt8):∀ l,cutAt c (l++[c])=cutAt c l++[[]]
 | []=>by rw [List.nil_append,cutAt_eq];rfl
 | a::l=>by
  have ih:=cut_snoc_eq c l;rw [List.cons_append];by_cases h:a=c
  ·
   subst h;rw [cutAt_eq,cutAt_eq,ih,List.cons_append]
  ·
   obtain⟨x,xs,e⟩:=cutAt_ne c l;rw [cutAt_cons h e];rw [e,List.cons_append] at ih;rw [cutAt_cons h ih,List.cons_append]
theorem cut_snoc_ne {c b:UInt8}(hb:b≠c):∀ l,∃ xs x,cutAt c l=xs++[x]∧cutAt c (l++[b])=xs++[x++[b]]
 | []=>⟨[],[],rfl,by rw [List.nil_append,cutAt_cons hb (show cutAt c []=[]::[] from rfl)];rfl⟩
 | a::l=>by
  obtain⟨xs,x,e1,e2⟩:=cut_snoc_ne hb l;rw [List.cons_append];by_cases h:a=c
  ·
   subst h;exact⟨[]::xs,x,by rw [cutAt_eq,e1,List.cons_append],by rw [cutAt_eq,e2,List.cons_append]⟩
  ·
   cases xs with
   | nil=>exact⟨[],a::x,cutAt_cons h e1,cutAt_cons h e2⟩
   | cons y ys =>
    rw [List.cons_append] at e1 e2;exact⟨(a::y)::ys,x,cutAt_cons h e1,cutAt_cons h e2⟩
def cutTo (c:UInt8)(s:ByteArray)(i:Nat):List ByteArray:=(cutAt c (s.data.toList.take i)).map fun l=>⟨l.toArray⟩
theorem byte_at {s:ByteArray}{i:Nat}(h:i<s.size):∃ b:UInt8,bt s (i:Int)=(b.toNat:Int)∧s.data.toList.take (i+1)=s.data.toList.take i++[b]:=by
 have hl:i<s.data.toList.length:=by rw [Array.length_toList];exact h
 refine⟨s.data.toList[i],?_,List.take_succ_eq_append_getElem hl⟩;unfold bt;have h2:(i:Int).toNat<s.size:=h;rw [dif_pos h2];rfl
theorem cutTo_eq {c:UInt8}{s:ByteArray}{i:Nat}(e:s.data.toList.take (i+1)=s.data.toList.take i++[c]):cutTo c s (i+1)=cutTo c s i++[⟨#[]⟩]:=by
 unfold cutTo;rw [e,cut_snoc_eq,List.map_append];rfl
theorem cutTo_ne {c b:UInt8}(hb:b≠c){s:ByteArray}{i:Nat}(e:s.data.toList.take (i+1)=s.data.toList.take i++[b]):∃ xs x,cutTo c s i=xs++[x]∧cutTo c s (i+1)=xs++[x++(⟨#[b]⟩:ByteArray)]∧x.size≤s.size:=by
 obtain⟨xs,x,e1,e2⟩:=cut_snoc_ne hb (s.data.toList.take i);refine⟨xs.map fun l=>⟨l.toArray⟩,⟨x.toArray⟩,?_,?_,?_⟩
 ·
  unfold cutTo;rw [e1,List.map_append];rfl
 ·
  unfold cutTo;rw [e,e2,List.map_append]
  congr 1
 ·
  have:=Txt.cut_piece c (s.data.toList.take i) x (by rw [e1];simp);have e2:s.data.toList.length=s.size:=by rw [Array.length_toList];rfl
  rw [List.length_take] at this
  show x.length≤_
  omega
theorem cutTo_len (c:UInt8)(s:ByteArray)(i:Nat):0<(cutTo c s i).length∧(cutTo c s i).length≤i+1:=by
 unfold cutTo;rw [List.length_map];have:=Txt.cut_len c (s.data.toList.take i);rw [List.length_take] at this;obtain⟨x,xs,h⟩:=cutAt_ne c (s.data.toList.take i);rw [h] at this ⊢
 simp only [List.length_cons] at this ⊢
 omega
theorem one_num (b:UInt8):strOfNums [(b.toNat:Int)]=⟨#[b]⟩:=by
 unfold strOfNums;simp
theorem R_one_string (w:World):Kd.R Kd.string 9 (w.alloc (.cells #[.string ⟨#[]⟩] 9)) w.heap.size (fun _=>True) (.slice (some ⟨w.heap.size,0,none⟩) 1 1) [(⟨#[]⟩:ByteArray)]:=by
 refine Kd.R_of_own ?_ (fun _ _=>trivial);have:=World.ownsRow_lit (base:=w.heap.size) (e:=9) (size:=1) w #[.string ⟨#[]⟩] 1 (Nat.le_refl _) (by decide) rfl
 simpa [encs] using this
def spec_l3Cut.f (s:ByteArray)(c:Int):Option (List ByteArray):=if s.size≤1000∧0≤c∧c≤255 then some (cutB (UInt8.ofNat c.toNat) s) else none
set_option maxHeartbeats 4000000 in
set_option maxRecDepth 100000 in
theorem spec_l3Cut.calls (s:ByteArray)(c:Int)(r:List ByteArray)(w:World)(h:spec_l3Cut.f s c=some r):
  Calls Tryz.prog 15 #[.string s,.int .u8 c] w fun e w'=>∃ v0_:Value,e=.returned v0_∧Kd.R Kd.string 9 w' w.heap.size (fun _=>True) v0_ r∧Below w.heap.size w w':=by
 unfold spec_l3Cut.f at h;by_cases h1:s.size≤1000∧0≤c∧c≤255
 ·
  rw [if_pos h1] at h;obtain⟨k,hk⟩:∃ k:UInt8,UInt8.ofNat c.toNat=k:=⟨_,rfl⟩;have hkc:(k.toNat:Int)=c:=by
   rw [← hk];have:(UInt8.ofNat c.toNat).toNat=c.toNat % 256:=UInt8.toNat_ofNat';omega
  rw [hk] at h;have hr:cutTo k s s.size=r:=by
   have e2:s.data.toList.length=s.size:=by rw [Array.length_toList];rfl
   unfold cutTo;rw [← e2,List.take_length];exact Option.some.inj h
  subst hkc;obtain⟨gb,hgb⟩:∃ gb,w.heap.size=gb:=⟨_,rfl⟩;have hR0:Kd.R Kd.string 9 (w.alloc (.cells #[.string ⟨#[]⟩] 9)) gb (fun _=>True) (.slice (some ⟨gb,0,none⟩) 1 1) (cutTo k s 0):=by subst hgb;exact R_one_string w
  have hB0:Below gb w (w.alloc (.cells #[.string ⟨#[]⟩] 9)):=hgb▸below_alloc (Below.refl _ w) _;have HK:=a0_ (And.intro hr (And.intro h1.1 (And.intro hgb (And.intro hR0 hB0))));clear h hk hr h1 hR0 hB0;go_enter Tryz.func15,Tryz.ntmps15;go_wp2;clear hgb;generalize w.alloc (.cells #[.string ⟨#[]⟩] 9)=W at *;go_loopg [5,6] s.size (fun kq v5 v6 wr=>∃ (i:Nat),v6=.int .i64 (i:Int)∧Aside0 (kq=s.size-i∧i≤s.size∧Below gb w wr∧Kd.R Kd.string 9 wr gb (fun _=>True) v5 (cutTo k s i)))
  case atStart=>exact⟨0,rfl,⟨rfl,Nat.zero_le _,HK.out.2.2.2.2,HK.out.2.2.2.1⟩⟩
  case round =>
   obtain⟨i,rfl,HR⟩:=hrel;have hi:=HR.out.2.1;have hsz:gb≤wr.heap.size:=by have:=HR.out.2.2.1.size;have:=HK.out.2.2.1;omega
   by_cases hlt:i<s.size
   ·
    have hd:decide ((i:Int)<(s.size:Int))=true:=decide_eq_true (by omega);have hd1:decide (i<s.size)=true:=decide_eq_true hlt;have hd2:(i:Int)<(s.size:Int):=by omega
    have hxb:∀ h:i<s.size,(((s[i]'h).toNat:Nat):Int)=bt s (i:Int):=bt_at s (i:Int);obtain⟨b,hb,he⟩:=byte_at hlt;rw [hb] at hxb;have hw:wrap64 ((i:Int)+1)=(i:Int)+1:=by have:=HK.out.2.1;unfold wrap64;omega
    by_cases hbk:b=k
    ·
     subst hbk;have hcut:=cutTo_eq he;have hl16:((cutTo b s i).length+1)*16≤140737488355328:=by have:=(cutTo_len b s i).2;have:=HK.out.2.1;omega
     have HP:=a0_ (And.intro HR.out.2.2.1 (And.intro HR.out.2.2.2 (And.intro hcut (And.intro hl16 (And.intro hsz (And.intro hlt HR.out.1))))));clear HR hcut hl16 hsz he hi hlt hb;go_wp2_with ((with_reducible refine gate_builtin (b:=.append) (xs:=#[.tmp 19,.tmp 20]) rfl ?_);go_loud (at_builtin;refine Kd.R_append Kd.string (w0:=w) gb rfl (.tmp 19) (.tmp 20) 39 9 (.string ⟨#[]⟩) 16 rfl Tryz.underlying39 (show (Tryz.prog.info? 9).map (fun i=>(i.zero,i.size,i.bytes))=some (some (.string ⟨#[]⟩),1,16) by kernel_rfl) rfl (by decide) (by omega) u5 (cutTo b s i) (⟨#[]⟩:ByteArray) [.string ⟨#[]⟩] (fun _=>True) (fun _=>False) rfl rfl rfl (fun _ hk=>hk.elim) (fun _ _=>trivial) HP.out.2.1 HP.out.1 HP.out.2.2.2.2.1 HP.out.2.2.2.1 ?_;intro v2 w3 ho3 hb3 _ _;have H3:=a0_ (And.intro ho3 hb3);clear ho3 hb3));obtain⟨_,_,g3,_,_,g4,g5⟩:=HP.out;obtain⟨o3,b3⟩:=H3.out;rw [← g3] at o3;go_roundg (s.size-(i+1))
     case measure=>omega
     case rel=>exact⟨i+1,by rw [hw];rfl,⟨rfl,g4,b3,o3⟩⟩
    ·
     obtain⟨xs,x,ex,ey,exl⟩:=cutTo_ne hbk he;have hne:((b.toNat:Int)==(k.toNat:Int))=false:=by
      rw [beq_eq_false_iff_ne];intro e;exact hbk (UInt8.toNat_inj.1 (by omega))
     have hR:=HR.out.2.2.2;have hlen:=cutTo_len k s i;obtain⟨g,cap,rfl,hgg,hglt,_⟩:=Kd.R_form hR hlen.1;have hn:(cutTo k s i).length=xs.length+1:=by rw [ex];simp
     have hcl:=Kd.R_cell (⟨#[]⟩:ByteArray) hR (xs.length:Int) (by omega) (by omega);have hx:rdOf (⟨#[]⟩:ByteArray) (cutTo k s i) (xs.length:Int)=x:=by rw [ex];unfold rdOf;rw [Int.toNat_natCast];simp
     rw [hx,Int.toNat_natCast] at hcl;rw [hn] at hR hlen ⊢
     have hw1:wrap64 (xs.length:Int)=(xs.length:Int):=by have:=HK.out.2.1;unfold wrap64;omega
     have hd3:(xs.length:Int)<(xs.length:Int)+1:=by omega
     have hs9:(9223372036854775807<x.size+1)=False:=eq_false (by have:=HK.out.2.1;omega);have HP:=a0_ (And.intro HR.out.2.2.1 (And.intro hR (And.intro ex (And.intro ey (And.intro hsz (And.intro hlt (And.intro HR.out.1 hglt)))))));have HC:=Aside0.mk hcl;clear HR hsz he hi hb hn hx hR hlen;go_wp2;obtain⟨hcl1,hcl2⟩:=HC.out;have hcd:wr.drew.cell? ⟨g,xs.length,none⟩=some (.string x):=hcl1;have hfd:wr.drew.frozen? ⟨g,xs.length,none⟩=false:=hcl2;have hRd:=Kd.R_drew HP.out.2.1;have hBd:Below gb w wr.drew:=pw_below_drewN HP.out.1 1;have hgd:g<wr.drew.heap.size:=HP.out.2.2.2.2.2.2.2;have hsd:gb≤wr.drew.heap.size:=HP.out.2.2.2.2.1;have hlt:i<s.size:=HP.out.2.2.2.2.2.1;have HD:=a0_ (And.intro hRd (And.intro hBd (And.intro hgd hsd)));clear hRd hBd hgd hsd hcl1 hcl2;refine start_ (n:=18) (S:=fun w'=>w'.cell? ⟨g,xs.length,none⟩=some (.string x)) (ds:=[17]) (qm 18 0) (by kernel_rfl) rfl rfl hcd (fun hH=>?_);generalize wr.drew=w0 at *;refine qp 0 22 (qm 18 1) ?_;refine qp 1 23 (qm 18 3) ?_;refine qp 2 24 (qm 18 7) ?_;refine qp 3 25 (qm 18 15) ?_;refine qp 4 26 (qm 18 31) ?_;refine qp 5 27 (qm 18 63) ?_;refine qp 6 28 (qm 18 127) ?_;refine qp 7 29 (qm 18 255) ?_;refine qp 8 30 (qm 18 511) ?_;refine qt1 9 31 (qm 18 1023) hH ?_;refine qp 10 32 (qm 18 2047) ?_;refine qp 11 33 (qm 18 4095) ?_;refine qp 12 34 (qm 18 8191) ?_;refine one_ (i:=13) (N:=some 35) (qm 18 16383) rfl rfl (by kernel_rfl) (by decide) (fun K hK=>?_);refine value_ (w1:=w0.alloc (.cells #[.int .u8 (b.toNat:Int)] 5)) (v:=.slice (some ⟨w0.heap.size,0,none⟩) 1 1) (by rfl) rfl (by first | (go_simp;done) | (go_simp;rfl)) ?_;have hB1:=below_alloc (Below.refl _ w0) (.cells #[.int .u8 (b.toNat:Int)] 5)
     have hO:(w0.alloc (.cells #[.int .u8 (b.toNat:Int)] 5)).ownsRow w0.heap.size 5 1 (.slice (some ⟨w0.heap.size,0,none⟩) 1 1) 1 (nums .u8 [(b.toNat:Int)]):=World.ownsRow_lit w0 #[.int .u8 (b.toNat:Int)] 1 (Nat.le_refl _) (by decide) rfl;have hc1:(w0.alloc (.cells #[.int .u8 (b.toNat:Int)] 5)).cell? ⟨g,xs.length,none⟩=some (.string x):=by rw [World.cell?_alloc_old _ _ _ (Nat.ne_of_lt HD.out.2.2.1)];exact hH
     have hR1:=Kd.R_alloc HD.out.1 (.cells #[.int .u8 (b.toNat:Int)] 5);have hB2:=HD.out.2.1.trans (hB1.mono HD.out.2.2.2);have HE:=a0_ (And.intro hR1 (And.intro hB2 hB1.size));clear hR1 hB2 hB1;obtain⟨w1,hw1e⟩:∃ w1,w0.alloc (.cells #[.int .u8 (b.toNat:Int)] 5)=w1:=⟨_,rfl⟩;rw [hw1e] at hc1 hO HE ⊢
     clear hw1e;refine hK.out _ _ hc1 (fun hH1=>?_);have hcv:=own_string (P:=Tryz.prog) Tryz.underlying22 Tryz.underlying5 Tryz.underlying9 hO;rw [one_num] at hcv;refine one_ (i:=14) (N:=some 36) (qm 18 32767) rfl rfl (by kernel_rfl) (by decide) (fun K hK=>?_);refine value_ (w1:=w1) (v:=.string ⟨#[b]⟩) (by rfl) rfl (by first | (go_simp;done) | (go_simp;rfl)) ?_;refine hK.out _ _ hc1 (fun hH1=>?_);clear hcv;refine qp 15 37 (qm 18 65535) ?_;refine qp 16 38 (qm 18 131071) ?_;have hc2:=Kd.R_celln (⟨#[]⟩:ByteArray) HE.out.1 (xs.length:Int) (by omega) (by omega);rw [Int.toNat_natCast] at hc2;obtain⟨hc3,hf3⟩:=hc2;have hR2:=Kd.R_putn HE.out.1 (xs.length:Int) (x++(⟨#[b]⟩:ByteArray));rw [Int.toNat_natCast,HP.out.2.2.1,List.set_append_right _ _ (Nat.le_refl _),Nat.sub_self,List.set_cons_zero,← HP.out.2.2.2.1] at hR2;have hB3:=HE.out.2.1.setCell (p:=⟨g,xs.length,none⟩) (show gb≤g from hgg) (.string (x++(⟨#[b]⟩:ByteArray)));have HF:=a0_ (And.intro hR2 hB3);clear hR2 hB3 hH1;refine last_ (i:=17) (N:=none) (qm 18 262143) rfl rfl (by kernel_rfl) (by decide) (fun K hK=>?_);refine skip_ (w1:=w1.setCell ⟨g,xs.length,none⟩ (.string (x++(⟨#[b]⟩:ByteArray)))) (by rfl) rfl (by first | (go_simp;done) | (go_simp;rfl)) ?_;refine hK.out _ _ ?_;refine done_ (by kernel_rfl) ?_;obtain⟨w2,hw2e⟩:∃ w2,w1.setCell ⟨g,xs.length,none⟩ (.string (x++(⟨#[b]⟩:ByteArray)))=w2:=⟨_,rfl⟩;rw [hw2e] at HF ⊢
     clear hw2e;clear hK hc3 hf3 hc1 hO hH hcd hfd;go_wp2;obtain⟨_,_,_,_,_,g4,g5,_⟩:=HP.out;go_roundg (s.size-(i+1))
     case measure=>omega
     case rel=>exact⟨i+1,by rw [hw];rfl,⟨rfl,g4,HF.out.2,HF.out.1⟩⟩
   ·
    obtain rfl:i=s.size:=by omega
    have hd:decide ((s.size:Int)<(s.size:Int))=false:=decide_eq_false (by omega);obtain⟨_,_,h3,h4⟩:=HR.out;rw [HK.out.1] at h4;have HJ:=a0_ (And.intro h3 h4);clear HR h3 h4 hlt hi;go_wp2;go_ret;exact⟨_,rfl,HK.out.2.2.1.symm▸HJ.out.2,HK.out.2.2.1.symm▸HJ.out.1⟩
 ·
  rw [if_neg h1] at h;cases h
end Go.Proofs.YtailkppkjhkjpaaGreatDoor.X
end
section
namespace Go.Proofs.YtailkppkjhkjpaaGreatDoor.X
open Go.RowKit Go.Proofs.YtailkppkjhkjpaaGreatDoorW.PrintWords Go.Proofs.YtailkppkjhkjpaaGreatDoorW.PrintLast Go.Proofs.YtailkppkjhkjpaaGreatDoorW.PrintMore
attribute [local go_sem] max2_int min2_int max_two min_two max_three min_three max_four min_four
set_option linter.unusedVariables false
set_option linter.unusedSimpArgs false
def spec_l3Read.l0:Nat→List (S70)→List ByteArray→Int→Option ((List (S70)) × Bool)
 | 0,_,_,_=>none
 | k+1,x4,x5,x6=>if x6<(x5.length:Int) then (if 0≤x6 then (if ((rdOf ByteArray.empty x5 x6).size:Int)=3 then (if 1<((rdOf ByteArray.empty x5 x6).size:Int) then (if (bt (rdOf ByteArray.empty x5 x6) 1)=44 then (if 0<((rdOf ByteArray.empty x5 x6).size:Int) then ((spec_l6In.f (wrap64 (bt (rdOf ByteArray.empty x5 x6) 0)) 48 57).bind fun t384=>(if t384=true then (if 2<((rdOf ByteArray.empty x5 x6).size:Int) then ((spec_l6In.f (wrap64 (bt (rdOf ByteArray.empty x5 x6) 2)) 48 57).bind fun t385=>(if t385=true then (if x4.length<8796093022208 then (spec_l3Read.l0 k (x4++[(⟨((bt (rdOf ByteArray.empty x5 x6) 0)-48) % 256,((bt (rdOf ByteArray.empty x5 x6) 2)-48) % 256⟩:S70)]) x5 (wrap64 (x6+1))) else (none)) else (some ((([]:List (S70))),false)))) else (none)) else (some ((([]:List (S70))),false)))) else (none)) else (some ((([]:List (S70))),false))) else (none)) else (some ((([]:List (S70))),false))) else (none)) else (some (x4,true))
def spec_l3Read.f (k:Nat)(a0:ByteArray):Option ((List (S70)) × Bool):=(spec_l3Cut.f a0 32).bind fun t380=>(spec_l3Read.l0 k (([]:List (S70))) t380 0)
def spec_l3Read.T9:Bool × List (List Nat × List Nat):=(true,[([],[]),([],[]),([1],[1]),([2],[2]),([3],[3]),([],[]),([5],[5]),([6],[6]),([7],[7]),([4,8],[4,8]),([9],[9]),([0,10],[0,10]),([11,11,0,1,2,3,4,5,6,7,8,9,10,11],[0,11])])
def spec_l3Read.B9:List Nat:=[0,0,2,6,14,0,32,96,224,510,1022,2047,4095]
theorem spec_l3Read.tab9:rtab .any (opsOf Tryz.f16 9)=spec_l3Read.T9:=by kernel_rfl
theorem spec_l3Read.bits9:waitsOk spec_l3Read.T9.2 spec_l3Read.B9=true:=by kernel_rfl
set_option maxHeartbeats 8000000 in
set_option maxRecDepth 100000 in
theorem spec_l3Read.calls (k:Nat)(a0:ByteArray)(r1:List (S70))(r2:Bool)(w:World)(h:spec_l3Read.f k a0=some (r1,r2)):
  Calls Tryz.prog 16 #[.string a0] w fun e w'=>∃ v0_:Value,e=.returned (.tuple #[v0_,.bool r2])∧Kd.R k70 70 w' w.heap.size (fun _=>True) v0_ r1∧Below w.heap.size w w':=by
 have hu70:=Tryz.underlying70;have HB:=a0_ (Below.refl w.heap.size w);have H:((spec_l3Cut.f a0 32).bind fun t380=>(spec_l3Read.l0 k (([]:List (S70))) t380 0))=some (r1,r2):=h;clear h;obtain⟨y377,hy377⟩:∃ y_:List (S70),y_=(([]:List (S70))):=⟨_,rfl⟩;replace H:((spec_l3Cut.f a0 32).bind fun t380=>(spec_l3Read.l0 k y377 t380 0))=some (r1,r2):=by first | (rw [hy377];with_reducible exact H) | (have H2_:=(Option.bind_some _ _).symm.trans H;rw [hy377];with_reducible exact H2_) | (have H2_:=(Option.bind_some _ _).symm.trans H;with_reducible exact H2_) | with_reducible exact H | (rw [hy377];exact H) | exact H
 have Ny377:=Aside0.mk hy377;clear hy377;replace H:=Option.bind_eq_some_iff.mp H;obtain⟨t380,A20,H⟩:=H
 (try dsimp only at H)
 have A2:=Aside0.mk A20;clear A20;have H':=Aside0.mk H;clear H;go_enter Tryz.func16,Tryz.ntmps16;go_wp2_with (first | ((with_reducible refine gate_dst (N:=8) rfl ?_);refine Kd.R_lit k70 _ 70 ?hg (N:=8) ?hd (xs:=([]:List (S70))) (inner:=[]) (ok:=fun _=>True) (okp:=fun _=>True) ?hr ?hp (fun _ hk=>hk) trivial (Below.refl _ _) (Nat.le_refl _) (by simp) ?_;(case hd=>rfl);(case hg=>rfl);(case hr=>first | (go_simp;done) | (go_simp;rfl));(case hp=>exact (Reps.none _ _));intro v378 w3 ho4 hb hg_ hnew_;clear hg_ hnew_;(first | rw [← Ny377.out] at ho4 | (simp only [Int.reduceToNat] at ho4;rw [← Ny377.out] at ho4));have HO379:=a0_ (Kd.R_lower ho4 (below_size hB_));replace HB:=sb_ HB hb;clear hb ho4) | ((with_reducible refine gate_callee (f:=15) rfl ?_);refine gL_ (some 10) Tryz.func15 #[.string a0,.int .u8 32] (h:=?_);(with_reducible refine (spec_l3Cut.calls a0 32 t380 _ A2.out).mono ?_);rintro e w5 ⟨v381,rfl,ho0,hb⟩;refine⟨_,rfl,?_⟩;have HO382:=a0_ (Kd.R_lower ho0 (below_size hB_));replace HO379:=rb_ HO379 hb;replace HB:=sb_ HB hb;(try clear ho0 hb)));go_loopg [4,6] k (fun kq v4 v6 w'=>∃ (x4_1:List (S70)) (x6_1:Int),v6=.int .i64 x6_1∧Aside0 (spec_l3Read.l0 kq x4_1 t380 x6_1=some (r1,r2))∧Aside0 (kq≤k)∧Aside0 (Kd.R k70 70 w' w.heap.size (fun _=>True) v4 x4_1)∧Aside0 (Kd.R Kd.string 9 w' w.heap.size (fun _=>True) v381 t380)∧Aside0 (Below w.heap.size w w'))
 case atStart=>exact⟨(y377),(0),(by first | rfl | (simp;done) | (simp [*];done)),H',⟨Nat.le_refl _⟩,⟨by (with_reducible repeat (first | apply Kd.R_alloc | apply Kd.R_drewN | apply Kd.R_drew));exact HO379.out⟩,⟨by (with_reducible repeat (first | apply Kd.R_alloc | apply Kd.R_drewN | apply Kd.R_drew));exact HO382.out⟩,⟨hB_⟩⟩
 case round =>
  clear H';obtain⟨x4_1,x6_1,rfl,HA,HK1,HO_4,HO_5,HB⟩:=hrel
  cases gk with
  | zero=>exact absurd HA.out (by simp [spec_l3Read.l0])
  | succ k1 =>
   have H:=HA.out;clear HA;simp only [spec_l3Read.l0] at H;by_cases c6:x6_1<(t380.length:Int)
   ·
    rw [if_pos c6] at H;have c6b0:decide (x6_1<(t380.length:Int))=true:=decide_eq_true c6;clear c6;by_cases c7:0≤x6_1
    ·
     rw [if_pos c7] at H;have c7b0:decide (0≤x6_1)=true:=decide_eq_true c7;clear c7;by_cases c8:((rdOf ByteArray.empty t380 x6_1).size:Int)=3
     ·
      rw [if_pos c8] at H;have c8b0:(((rdOf ByteArray.empty t380 x6_1).size:Int)==3)=true:=beq_iff_eq.mpr c8;have c8b1:(((rdOf ByteArray.empty t380 x6_1).size:Int) != 3)=false:=bne_eq_false_iff_eq.mpr c8;clear c8;by_cases c9:1<((rdOf ByteArray.empty t380 x6_1).size:Int)
      ·
       rw [if_pos c9] at H;have c9b0:decide (1<((rdOf ByteArray.empty t380 x6_1).size:Int))=true:=decide_eq_true c9;have c9b1:decide (1<(rdOf ByteArray.empty t380 x6_1).size)=true:=decide_eq_true (by omega);clear c9;by_cases c11:(bt (rdOf ByteArray.empty t380 x6_1) 1)=44
       ·
        rw [if_pos c11] at H;have c11b0:((bt (rdOf ByteArray.empty t380 x6_1) 1)==44)=true:=beq_iff_eq.mpr c11;have c11b1:((bt (rdOf ByteArray.empty t380 x6_1) 1) != 44)=false:=bne_eq_false_iff_eq.mpr c11;clear c11;by_cases c12:0<((rdOf ByteArray.empty t380 x6_1).size:Int)
        ·
         rw [if_pos c12] at H;have c12b0:decide (0<((rdOf ByteArray.empty t380 x6_1).size:Int))=true:=decide_eq_true c12;have c12b1:decide (0<(rdOf ByteArray.empty t380 x6_1).size)=true:=decide_eq_true (by omega);clear c12;replace H:=Option.bind_eq_some_iff.mp H;obtain⟨t384,A140,H⟩:=H
         (try dsimp only at H)
         have A14:=Aside0.mk A140;clear A140;by_cases c15:t384=true
         ·
          subst c15;rw [if_pos rfl] at H
          (try dsimp only at H)
          by_cases c16:2<((rdOf ByteArray.empty t380 x6_1).size:Int)
          ·
           rw [if_pos c16] at H;have c16b0:decide (2<((rdOf ByteArray.empty t380 x6_1).size:Int))=true:=decide_eq_true c16;have c16b1:decide (2<(rdOf ByteArray.empty t380 x6_1).size)=true:=decide_eq_true (by omega);clear c16;replace H:=Option.bind_eq_some_iff.mp H;obtain⟨t385,A180,H⟩:=H
           (try dsimp only at H)
           have A18:=Aside0.mk A180;clear A180;by_cases c19:t385=true
           ·
            subst c19;rw [if_pos rfl] at H
            (try dsimp only at H)
            by_cases c22:x4_1.length<8796093022208
            ·
             rw [if_pos c22] at H;have LMc22:=Aside0.mk c22;clear c22;obtain⟨y386,hy386⟩:∃ y_:List (S70),y_=(x4_1++[(⟨((bt (rdOf ByteArray.empty t380 x6_1) 0)-48) % 256,((bt (rdOf ByteArray.empty t380 x6_1) 2)-48) % 256⟩:S70)]):=⟨_,rfl⟩;replace H:(spec_l3Read.l0 k1 y386 t380 (wrap64 (x6_1+1)))=some (r1,r2):=by first | (rw [hy386];with_reducible exact H) | (have H2_:=(Option.bind_some _ _).symm.trans H;rw [hy386];with_reducible exact H2_) | (have H2_:=(Option.bind_some _ _).symm.trans H;with_reducible exact H2_) | with_reducible exact H | (rw [hy386];exact H) | exact H
             have Ny386:=Aside0.mk hy386;clear hy386;have H':=Aside0.mk H;clear H;obtain⟨Ao23,co23,eo23⟩:=Kd.R_slice HO_5.out;subst eo23;have p383:0≤(x6_1:Int):=od_;have q383:x6_1<(t380.length:Int):=od_;obtain⟨ad383,e383,hx383_0⟩:=Kd.at_string (Kd.R_reads' HO_5.out).2.2 x6_1 p383 q383;cases e383;replace p383:=eq_true p383;replace q383:=eq_true q383;have p10:0≤(1:Int):=(by omega);have q10:1<(rdOf ByteArray.empty t380 x6_1).size:=(by have:(1:Int)<((rdOf ByteArray.empty t380 x6_1).size:Int):=od_;omega);have hx10:∀ h:1<(rdOf ByteArray.empty t380 x6_1).size,(((rdOf ByteArray.empty t380 x6_1)[1]'h).toNat:Int)=bt (rdOf ByteArray.empty t380 x6_1) 1:=bt_at (rdOf ByteArray.empty t380 x6_1) 1;clear p10;have qi10:(1<((rdOf ByteArray.empty t380 x6_1).size:Int))=True:=eq_true (od_);replace q10:=eq_true q10;have p13:0≤(0:Int):=(by omega);have q13:0<(rdOf ByteArray.empty t380 x6_1).size:=(by have:(0:Int)<((rdOf ByteArray.empty t380 x6_1).size:Int):=od_;omega);have hx13:∀ h:0<(rdOf ByteArray.empty t380 x6_1).size,(((rdOf ByteArray.empty t380 x6_1)[0]'h).toNat:Int)=bt (rdOf ByteArray.empty t380 x6_1) 0:=bt_at (rdOf ByteArray.empty t380 x6_1) 0;clear p13;have qi13:(0<((rdOf ByteArray.empty t380 x6_1).size:Int))=True:=eq_true (od_);replace q13:=eq_true q13
             try go_wp2_with (first | (go_at_call 32;(with_reducible refine (spec_l6In.calls (wrap64 (bt (rdOf ByteArray.empty t380 x6_1) 0)) 48 57 true _ A14.out).mono ?_);rintro e w' ⟨rfl,⟨nd,rfl⟩⟩;have p17:0≤(2:Int):=(by omega);have q17:2<(rdOf ByteArray.empty t380 x6_1).size:=(by have:(2:Int)<((rdOf ByteArray.empty t380 x6_1).size:Int):=od_;omega);have hx17:∀ h:2<(rdOf ByteArray.empty t380 x6_1).size,(((rdOf ByteArray.empty t380 x6_1)[2]'h).toNat:Int)=bt (rdOf ByteArray.empty t380 x6_1) 2:=bt_at (rdOf ByteArray.empty t380 x6_1) 2;clear p17;have qi17:(2<((rdOf ByteArray.empty t380 x6_1).size:Int))=True:=eq_true (od_);replace q17:=eq_true q17) | (go_at_call 32;(with_reducible refine (spec_l6In.calls (wrap64 (bt (rdOf ByteArray.empty t380 x6_1) 2)) 48 57 true _ A18.out).mono ?_);rintro e w' ⟨rfl,⟨nd,rfl⟩⟩))
             (try (rw [drewN_self wr];generalize hq_:World.drewN wr _=wr;have n0_:Aside0 (Kd.R k70 70 wr w.heap.size (fun _=>True) u4 x4_1):=⟨by rw [← hq_];exact (uR_ HO_4)⟩;have n1_:Aside0 (Kd.R Kd.string 9 wr w.heap.size (fun _=>True) (.slice (some ad383) t380.length co23) t380):=⟨by rw [← hq_];exact (uR_ HO_5)⟩;have n2_:Aside0 (Below w.heap.size w wr):=⟨by rw [← hq_];exact hB_⟩;clear HO_4 HO_5 HB hq_;have HO_4:=n0_;have HO_5:=n1_;have HB:=n2_;clear n0_ n1_ n2_))
             replace HO_4:=a0_ (Kd.R_drew HO_4.out);replace HO_5:=a0_ (Kd.R_drew HO_5.out);replace HB:=a0_ (below_drew1 HB.out);have p20:0≤(0:Int):=(by omega);have q20:0<(rdOf ByteArray.empty t380 x6_1).size:=(by have:(0:Int)<((rdOf ByteArray.empty t380 x6_1).size:Int):=od_;omega);have hx20:∀ h:0<(rdOf ByteArray.empty t380 x6_1).size,(((rdOf ByteArray.empty t380 x6_1)[0]'h).toNat:Int)=bt (rdOf ByteArray.empty t380 x6_1) 0:=bt_at (rdOf ByteArray.empty t380 x6_1) 0;clear p20;have qi20:(0<((rdOf ByteArray.empty t380 x6_1).size:Int))=True:=eq_true (od_);replace q20:=eq_true q20;have p21:0≤(2:Int):=(by omega);have q21:2<(rdOf ByteArray.empty t380 x6_1).size:=(by have:(2:Int)<((rdOf ByteArray.empty t380 x6_1).size:Int):=od_;omega);have hx21:∀ h:2<(rdOf ByteArray.empty t380 x6_1).size,(((rdOf ByteArray.empty t380 x6_1)[2]'h).toNat:Int)=bt (rdOf ByteArray.empty t380 x6_1) 2:=bt_at (rdOf ByteArray.empty t380 x6_1) 2;clear p21;have qi21:(2<((rdOf ByteArray.empty t380 x6_1).size:Int))=True:=eq_true (od_);replace q21:=eq_true q21;refine start_ (n:=13) (S:=fun w'=>True) (ds:=[]) (Array.replicate 13 false) (by kernel_rfl) rfl rfl trivial (fun hHeld=>?_);refine with_tabW spec_l3Read.tab9 spec_l3Read.bits9 (fun HT_ HW_=>?_);generalize wr.drew=w24 at HO_4 HO_5 HB hHeld ⊢
             refine pure_ (i:=0) (N:=some 44) (v:=?_) (a':=?_) (bm 13 1) rfl rfl (any_of HT_.out (by kernel_rfl)) (fun _ _ _ h=>h) (Or.inl ⟨by rfl,?_⟩) ?_ ?_;rotate_left
             ·
              intro w';go_simp
              try simp only [show ∀ z:Int,wrap64 (IntKind.u8.wrap z)=z % 256 from fun z=>by rw [IntKind.wrap_u8];unfold wrap64;omega]
              with_reducible rfl
             rotate_left
             ·
              simp only [Act.put,List.setIfInBounds_toArray,List.set_cons_zero,List.set_cons_succ,i64_w,i32_w];rfl
             refine pure_ (i:=1) (N:=some 45) (v:=?_) (a':=?_) (bm 13 3) rfl rfl (any_of HT_.out (by kernel_rfl)) (fun _ _ _ h=>h) (Or.inl ⟨by rfl,?_⟩) ?_ ?_;rotate_left
             ·
              intro w';go_simp
              try simp only [show ∀ z:Int,wrap64 (IntKind.u8.wrap z)=z % 256 from fun z=>by rw [IntKind.wrap_u8];unfold wrap64;omega]
              with_reducible rfl
             rotate_left
             ·
              simp only [Act.put,List.setIfInBounds_toArray,List.set_cons_zero,List.set_cons_succ,i64_w,i32_w];rfl
             refine pure_ (i:=5) (N:=some 49) (v:=?_) (a':=?_) (bm 13 35) rfl rfl (any_of HT_.out (by kernel_rfl)) (fun _ _ _ h=>h) (Or.inl ⟨by rfl,?_⟩) ?_ ?_;rotate_left
             ·
              intro w';go_simp
              try simp only [show ∀ z:Int,wrap64 (IntKind.u8.wrap z)=z % 256 from fun z=>by rw [IntKind.wrap_u8];unfold wrap64;omega]
              with_reducible rfl
             rotate_left
             ·
              simp only [Act.put,List.setIfInBounds_toArray,List.set_cons_zero,List.set_cons_succ,i64_w,i32_w];rfl
             refine take_ (i:=2) (N:=some 46) (v:=?_) (a':=?_) (bm 13 39) rfl rfl (take_ofW HT_.out HW_.out (by kernel_rfl)) (fun _ _ _ h=>h) (Or.inl ⟨by rfl,?_⟩) hHeld ?_ ?_;rotate_left
             ·
              intro w' _;go_simp
              with_reducible rfl
             rotate_left
             ·
              simp only [Act.put,List.setIfInBounds_toArray,List.set_cons_zero,List.set_cons_succ,i64_w,i32_w];rfl
             refine pure_ (i:=3) (N:=some 47) (v:=?_) (a':=?_) (bm 13 47) rfl rfl (any_of HT_.out (by kernel_rfl)) (fun _ _ _ h=>h) (Or.inl ⟨by rfl,?_⟩) ?_ ?_;rotate_left
             ·
              intro w';go_simp
              try simp only [show ∀ z:Int,wrap64 (IntKind.u8.wrap z)=z % 256 from fun z=>by rw [IntKind.wrap_u8];unfold wrap64;omega]
              with_reducible rfl
             rotate_left
             ·
              simp only [Act.put,List.setIfInBounds_toArray,List.set_cons_zero,List.set_cons_succ,i64_w,i32_w];rfl
             refine pure_ (i:=4) (N:=some 48) (v:=?_) (a':=?_) (bm 13 63) rfl rfl (any_of HT_.out (by kernel_rfl)) (fun _ _ _ h=>h) (Or.inl ⟨by rfl,?_⟩) ?_ ?_;rotate_left
             ·
              intro w';go_simp
              try simp only [show ∀ z:Int,wrap64 (IntKind.u8.wrap z)=z % 256 from fun z=>by rw [IntKind.wrap_u8];unfold wrap64;omega]
              with_reducible rfl
             rotate_left
             ·
              simp only [Act.put,List.setIfInBounds_toArray,List.set_cons_zero,List.set_cons_succ,i64_w,i32_w];rfl
             refine take_ (i:=6) (N:=some 50) (v:=?_) (a':=?_) (bm 13 127) rfl rfl (take_ofW HT_.out HW_.out (by kernel_rfl)) (fun _ _ _ h=>h) (Or.inl ⟨by rfl,?_⟩) hHeld ?_ ?_;rotate_left
             ·
              intro w' _;go_simp
              with_reducible rfl
             rotate_left
             ·
              simp only [Act.put,List.setIfInBounds_toArray,List.set_cons_zero,List.set_cons_succ,i64_w,i32_w];rfl
             refine pure_ (i:=7) (N:=some 51) (v:=?_) (a':=?_) (bm 13 255) rfl rfl (any_of HT_.out (by kernel_rfl)) (fun _ _ _ h=>h) (Or.inl ⟨by rfl,?_⟩) ?_ ?_;rotate_left
             ·
              intro w';go_simp
              try simp only [show ∀ z:Int,wrap64 (IntKind.u8.wrap z)=z % 256 from fun z=>by rw [IntKind.wrap_u8];unfold wrap64;omega]
              with_reducible rfl
             rotate_left
             ·
              simp only [Act.put,List.setIfInBounds_toArray,List.set_cons_zero,List.set_cons_succ,i64_w,i32_w];rfl
             refine pure_ (i:=8) (N:=some 52) (v:=?_) (a':=?_) (bm 13 511) rfl rfl (any_of HT_.out (by kernel_rfl)) (fun _ _ _ h=>h) (Or.inl ⟨by rfl,?_⟩) ?_ ?_;rotate_left
             ·
              intro w';go_simp
              try simp only [show ∀ z:Int,wrap64 (IntKind.u8.wrap z)=z % 256 from fun z=>by rw [IntKind.wrap_u8];unfold wrap64;omega]
              with_reducible rfl
             rotate_left
             ·
              simp only [Act.put,List.setIfInBounds_toArray,List.set_cons_zero,List.set_cons_succ,i64_w,i32_w];rfl
             refine pure_ (i:=9) (N:=some 53) (v:=?_) (a':=?_) (bm 13 1023) rfl rfl (any_of HT_.out (by kernel_rfl)) (fun _ _ _ h=>h) (Or.inl ⟨by rfl,?_⟩) ?_ ?_;rotate_left
             ·
              intro w';go_simp
              try simp only [show ∀ z:Int,wrap64 (IntKind.u8.wrap z)=z % 256 from fun z=>by rw [IntKind.wrap_u8];unfold wrap64;omega]
              with_reducible rfl
             rotate_left
             ·
              simp only [Act.put,List.setIfInBounds_toArray,List.set_cons_zero,List.set_cons_succ,i64_w,i32_w];rfl
             refine one_ (i:=10) (N:=some 54) (bm 13 2047) rfl rfl (one_of HT_.out (by kernel_rfl)) (by decide) (fun K hK=>?_);refine value_ (w1:=?_) (v:=?_) (by rfl) rfl ?_ ?_;rotate_left 2
             ·
              go_simp;constructor
              ·
               rfl
              ·
               rfl
             refine hK.out _ _ trivial (fun hHeld=>?_);clear hK K;refine no_ (h:=?_);refine one_ (i:=11) (N:=some 55) (bm 13 4095) rfl rfl (one_of HT_.out (by kernel_rfl)) (by decide) (fun K hK=>?_);refine Kd.R_append_step k70 (w0:=w) w.heap.size (by rfl) (.tmp 44) (.tmp 54) 24 70 (.agg #[(.int .i64 0),(.int .i64 0)]) 16 rfl Tryz.underlying24 info70 rfl (by decide) (by omega) u4 x4_1 (⟨((bt (rdOf ByteArray.empty t380 x6_1) 0)-48) % 256,((bt (rdOf ByteArray.empty t380 x6_1) 2)-48) % 256⟩:S70) [.int .i64 (((bt (rdOf ByteArray.empty t380 x6_1) 0)-48) % 256),.int .i64 (((bt (rdOf ByteArray.empty t380 x6_1) 2)-48) % 256)] (fun _=>True) (fun _=>False) rfl rfl ?aP (fun _ hk=>hk.elim) ?aF ?aO ?aB ?aS ?aL ?_
             (case aP=>exact k70_mkM _ _ _ (⟨((bt (rdOf ByteArray.empty t380 x6_1) 0)-48) % 256,((bt (rdOf ByteArray.empty t380 x6_1) 2)-48) % 256⟩:S70))
             (case aB=>exact hB_)
             (case aF=>exact (fun _ _=>trivial))
             (case aO=>exact (uR_ HO_4))
             (case aS=>exact (below_size hB_))
             (case aL=>have:=LMc22.out;omega)
             intro v387 w25 ho hb hg hat;rw [← Ny386.out] at ho;have HO388:=a0_ (ho);replace HO_5:=a0_ (Kd.R_over' (uR_ HO_5) (Kd.R_typed (uR_ HO_4)) (by decide) hg);replace HB:=a0_ (hb);clear HO_4;clear ho hb hg hat;refine hK.out _ _ trivial (fun hHeld=>?_);clear hK K;refine no_ (h:=?_);refine pure_ (i:=12) (N:=some 4) (v:=?_) (a':=?_) (bm 13 8191) rfl rfl (any_of HT_.out (by kernel_rfl)) (fun _ _ _ h=>h) (Or.inl ⟨by rfl,?_⟩) ?_ ?_;rotate_left
             ·
              intro w';go_simp
              try simp only [show ∀ z:Int,wrap64 (IntKind.u8.wrap z)=z % 256 from fun z=>by rw [IntKind.wrap_u8];unfold wrap64;omega]
              with_reducible rfl
             rotate_left
             ·
              simp only [Act.put,List.setIfInBounds_toArray,List.set_cons_zero,List.set_cons_succ,i64_w,i32_w];rfl
             refine done_ (done_of HT_.out (by kernel_rfl)) ?_
             try go_wp2
             go_roundg k1
             case measure=>have:=HK1.out;omega
             case rel=>exact⟨(y386),(wrap64 (x6_1+1)),(by first | rfl | (simp;done) | (simp [*];done)),H',⟨by have:=HK1.out;omega⟩,⟨by (with_reducible repeat (first | apply Kd.R_alloc | apply Kd.R_drewN | apply Kd.R_drew));exact HO388.out⟩,⟨by (with_reducible repeat (first | apply Kd.R_alloc | apply Kd.R_drewN | apply Kd.R_drew));exact HO_5.out⟩,⟨hB_⟩⟩
            ·
             rw [if_neg c22] at H;exact absurd H (by simp)
           ·
            replace c19:=Bool.eq_false_iff.mpr c19;subst c19;rw [if_neg (show ¬ (false=true) by decide)] at H
            (try dsimp only at H)
            obtain⟨y389,hy389⟩:∃ y_:List (S70),y_=(([]:List (S70))):=⟨_,rfl⟩;replace H:(some (y389,false))=some (r1,r2):=by first | (rw [hy389];with_reducible exact H) | (have H2_:=(Option.bind_some _ _).symm.trans H;rw [hy389];with_reducible exact H2_) | (have H2_:=(Option.bind_some _ _).symm.trans H;with_reducible exact H2_) | with_reducible exact H | (rw [hy389];exact H) | exact H
            have Ny389:=Aside0.mk hy389;clear hy389;simp only [Option.some.injEq,Prod.mk.injEq] at H;obtain⟨rfl,rfl⟩:=H;obtain⟨Ao26,co26,eo26⟩:=Kd.R_slice HO_5.out;subst eo26;have p383:0≤(x6_1:Int):=od_;have q383:x6_1<(t380.length:Int):=od_;obtain⟨ad383,e383,hx383_0⟩:=Kd.at_string (Kd.R_reads' HO_5.out).2.2 x6_1 p383 q383;cases e383;replace p383:=eq_true p383;replace q383:=eq_true q383;have p10:0≤(1:Int):=(by omega);have q10:1<(rdOf ByteArray.empty t380 x6_1).size:=(by have:(1:Int)<((rdOf ByteArray.empty t380 x6_1).size:Int):=od_;omega);have hx10:∀ h:1<(rdOf ByteArray.empty t380 x6_1).size,(((rdOf ByteArray.empty t380 x6_1)[1]'h).toNat:Int)=bt (rdOf ByteArray.empty t380 x6_1) 1:=bt_at (rdOf ByteArray.empty t380 x6_1) 1;clear p10;have qi10:(1<((rdOf ByteArray.empty t380 x6_1).size:Int))=True:=eq_true (od_);replace q10:=eq_true q10;have p13:0≤(0:Int):=(by omega);have q13:0<(rdOf ByteArray.empty t380 x6_1).size:=(by have:(0:Int)<((rdOf ByteArray.empty t380 x6_1).size:Int):=od_;omega);have hx13:∀ h:0<(rdOf ByteArray.empty t380 x6_1).size,(((rdOf ByteArray.empty t380 x6_1)[0]'h).toNat:Int)=bt (rdOf ByteArray.empty t380 x6_1) 0:=bt_at (rdOf ByteArray.empty t380 x6_1) 0;clear p13;have qi13:(0<((rdOf ByteArray.empty t380 x6_1).size:Int))=True:=eq_true (od_);replace q13:=eq_true q13
            go_wp2_with (first | (go_at_call 32;(with_reducible refine (spec_l6In.calls (wrap64 (bt (rdOf ByteArray.empty t380 x6_1) 0)) 48 57 true _ A14.out).mono ?_);rintro e w' ⟨rfl,⟨nd,rfl⟩⟩;have p17:0≤(2:Int):=(by omega);have q17:2<(rdOf ByteArray.empty t380 x6_1).size:=(by have:(2:Int)<((rdOf ByteArray.empty t380 x6_1).size:Int):=od_;omega);have hx17:∀ h:2<(rdOf ByteArray.empty t380 x6_1).size,(((rdOf ByteArray.empty t380 x6_1)[2]'h).toNat:Int)=bt (rdOf ByteArray.empty t380 x6_1) 2:=bt_at (rdOf ByteArray.empty t380 x6_1) 2;clear p17;have qi17:(2<((rdOf ByteArray.empty t380 x6_1).size:Int))=True:=eq_true (od_);replace q17:=eq_true q17) | (go_at_call 32;(with_reducible refine (spec_l6In.calls (wrap64 (bt (rdOf ByteArray.empty t380 x6_1) 2)) 48 57 false _ A18.out).mono ?_);rintro e w' ⟨rfl,⟨nd,rfl⟩⟩) | ((with_reducible refine gate_dst (N:=43) rfl ?_);refine Kd.R_lit k70 _ 70 ?hg (N:=43) ?hd (xs:=([]:List (S70))) (inner:=[]) (ok:=fun _=>True) (okp:=fun _=>True) ?hr ?hp (fun _ hk=>hk) trivial (Below.refl _ _) (Nat.le_refl _) (by simp) ?_;(case hd=>rfl);(case hg=>rfl);(case hr=>first | (go_simp;done) | (go_simp;rfl));(case hp=>exact (Reps.none _ _));intro v390 w27 ho28 hb hg_ hnew_;clear hg_ hnew_;(first | rw [← Ny389.out] at ho28 | (simp only [Int.reduceToNat] at ho28;rw [← Ny389.out] at ho28));have HO391:=a0_ (Kd.R_lower (Kd.R_new' ho28 (Kd.R_lt (uR_ HO_4))) (below_size hB_));replace HO_4:=a0_ (Kd.R_elder' (uR_ HO_4) (Kd.R_base ho28) hb);replace HO_5:=rb_ HO_5 hb;replace HB:=sb_ HB hb;clear hb ho28));go_ret2;exact⟨_,rr_,by (with_reducible repeat (first | apply Kd.R_alloc | apply Kd.R_drewN | apply Kd.R_drew));exact Kd.R_mono HO391.out (fun _ hk=>trivial),hB_⟩
          ·
           rw [if_neg c16] at H;exact absurd H (by simp)
         ·
          replace c15:=Bool.eq_false_iff.mpr c15;subst c15;rw [if_neg (show ¬ (false=true) by decide)] at H
          (try dsimp only at H)
          obtain⟨y392,hy392⟩:∃ y_:List (S70),y_=(([]:List (S70))):=⟨_,rfl⟩;replace H:(some (y392,false))=some (r1,r2):=by first | (rw [hy392];with_reducible exact H) | (have H2_:=(Option.bind_some _ _).symm.trans H;rw [hy392];with_reducible exact H2_) | (have H2_:=(Option.bind_some _ _).symm.trans H;with_reducible exact H2_) | with_reducible exact H | (rw [hy392];exact H) | exact H
          have Ny392:=Aside0.mk hy392;clear hy392;simp only [Option.some.injEq,Prod.mk.injEq] at H;obtain⟨rfl,rfl⟩:=H;obtain⟨Ao29,co29,eo29⟩:=Kd.R_slice HO_5.out;subst eo29;have p383:0≤(x6_1:Int):=od_;have q383:x6_1<(t380.length:Int):=od_;obtain⟨ad383,e383,hx383_0⟩:=Kd.at_string (Kd.R_reads' HO_5.out).2.2 x6_1 p383 q383;cases e383;replace p383:=eq_true p383;replace q383:=eq_true q383;have p10:0≤(1:Int):=(by omega);have q10:1<(rdOf ByteArray.empty t380 x6_1).size:=(by have:(1:Int)<((rdOf ByteArray.empty t380 x6_1).size:Int):=od_;omega);have hx10:∀ h:1<(rdOf ByteArray.empty t380 x6_1).size,(((rdOf ByteArray.empty t380 x6_1)[1]'h).toNat:Int)=bt (rdOf ByteArray.empty t380 x6_1) 1:=bt_at (rdOf ByteArray.empty t380 x6_1) 1;clear p10;have qi10:(1<((rdOf ByteArray.empty t380 x6_1).size:Int))=True:=eq_true (od_);replace q10:=eq_true q10;have p13:0≤(0:Int):=(by omega);have q13:0<(rdOf ByteArray.empty t380 x6_1).size:=(by have:(0:Int)<((rdOf ByteArray.empty t380 x6_1).size:Int):=od_;omega);have hx13:∀ h:0<(rdOf ByteArray.empty t380 x6_1).size,(((rdOf ByteArray.empty t380 x6_1)[0]'h).toNat:Int)=bt (rdOf ByteArray.empty t380 x6_1) 0:=bt_at (rdOf ByteArray.empty t380 x6_1) 0;clear p13;have qi13:(0<((rdOf ByteArray.empty t380 x6_1).size:Int))=True:=eq_true (od_);replace q13:=eq_true q13
          go_wp2_with (first | (go_at_call 32;(with_reducible refine (spec_l6In.calls (wrap64 (bt (rdOf ByteArray.empty t380 x6_1) 0)) 48 57 false _ A14.out).mono ?_);rintro e w' ⟨rfl,⟨nd,rfl⟩⟩) | ((with_reducible refine gate_dst (N:=43) rfl ?_);refine Kd.R_lit k70 _ 70 ?hg (N:=43) ?hd (xs:=([]:List (S70))) (inner:=[]) (ok:=fun _=>True) (okp:=fun _=>True) ?hr ?hp (fun _ hk=>hk) trivial (Below.refl _ _) (Nat.le_refl _) (by simp) ?_;(case hd=>rfl);(case hg=>rfl);(case hr=>first | (go_simp;done) | (go_simp;rfl));(case hp=>exact (Reps.none _ _));intro v393 w30 ho31 hb hg_ hnew_;clear hg_ hnew_;(first | rw [← Ny392.out] at ho31 | (simp only [Int.reduceToNat] at ho31;rw [← Ny392.out] at ho31));have HO394:=a0_ (Kd.R_lower (Kd.R_new' ho31 (Kd.R_lt (uR_ HO_4))) (below_size hB_));replace HO_4:=a0_ (Kd.R_elder' (uR_ HO_4) (Kd.R_base ho31) hb);replace HO_5:=rb_ HO_5 hb;replace HB:=sb_ HB hb;clear hb ho31));go_ret2;exact⟨_,rr_,by (with_reducible repeat (first | apply Kd.R_alloc | apply Kd.R_drewN | apply Kd.R_drew));exact Kd.R_mono HO394.out (fun _ hk=>trivial),hB_⟩
        ·
         rw [if_neg c12] at H;exact absurd H (by simp)
       ·
        rw [if_neg c11] at H;have c11b0:((bt (rdOf ByteArray.empty t380 x6_1) 1)==44)=false:=beq_eq_false_iff_ne.mpr c11;have c11b1:((bt (rdOf ByteArray.empty t380 x6_1) 1) != 44)=true:=bne_iff_ne.mpr c11;obtain⟨y395,hy395⟩:∃ y_:List (S70),y_=(([]:List (S70))):=⟨_,rfl⟩;replace H:(some (y395,false))=some (r1,r2):=by first | (rw [hy395];with_reducible exact H) | (have H2_:=(Option.bind_some _ _).symm.trans H;rw [hy395];with_reducible exact H2_) | (have H2_:=(Option.bind_some _ _).symm.trans H;with_reducible exact H2_) | with_reducible exact H | (rw [hy395];exact H) | exact H
        have Ny395:=Aside0.mk hy395;clear hy395;simp only [Option.some.injEq,Prod.mk.injEq] at H;obtain⟨rfl,rfl⟩:=H;obtain⟨Ao32,co32,eo32⟩:=Kd.R_slice HO_5.out;subst eo32;have p383:0≤(x6_1:Int):=od_;have q383:x6_1<(t380.length:Int):=od_;obtain⟨ad383,e383,hx383_0⟩:=Kd.at_string (Kd.R_reads' HO_5.out).2.2 x6_1 p383 q383;cases e383;replace p383:=eq_true p383;replace q383:=eq_true q383;have p10:0≤(1:Int):=(by omega);have q10:1<(rdOf ByteArray.empty t380 x6_1).size:=(by have:(1:Int)<((rdOf ByteArray.empty t380 x6_1).size:Int):=od_;omega);have hx10:∀ h:1<(rdOf ByteArray.empty t380 x6_1).size,(((rdOf ByteArray.empty t380 x6_1)[1]'h).toNat:Int)=bt (rdOf ByteArray.empty t380 x6_1) 1:=bt_at (rdOf ByteArray.empty t380 x6_1) 1;clear p10;have qi10:(1<((rdOf ByteArray.empty t380 x6_1).size:Int))=True:=eq_true (od_);replace q10:=eq_true q10;go_wp2_with (first | ((with_reducible refine gate_dst (N:=43) rfl ?_);refine Kd.R_lit k70 _ 70 ?hg (N:=43) ?hd (xs:=([]:List (S70))) (inner:=[]) (ok:=fun _=>True) (okp:=fun _=>True) ?hr ?hp (fun _ hk=>hk) trivial (Below.refl _ _) (Nat.le_refl _) (by simp) ?_;(case hd=>rfl);(case hg=>rfl);(case hr=>first | (go_simp;done) | (go_simp;rfl));(case hp=>exact (Reps.none _ _));intro v396 w33 ho34 hb hg_ hnew_;clear hg_ hnew_;(first | rw [← Ny395.out] at ho34 | (simp only [Int.reduceToNat] at ho34;rw [← Ny395.out] at ho34));have HO397:=a0_ (Kd.R_lower (Kd.R_new' ho34 (Kd.R_lt (uR_ HO_4))) (below_size hB_));replace HO_4:=a0_ (Kd.R_elder' (uR_ HO_4) (Kd.R_base ho34) hb);replace HO_5:=rb_ HO_5 hb;replace HB:=sb_ HB hb;clear hb ho34));go_ret2;exact⟨_,rr_,by (with_reducible repeat (first | apply Kd.R_alloc | apply Kd.R_drewN | apply Kd.R_drew));exact Kd.R_mono HO397.out (fun _ hk=>trivial),hB_⟩
      ·
       rw [if_neg c9] at H;exact absurd H (by simp)
     ·
      rw [if_neg c8] at H;have c8b0:(((rdOf ByteArray.empty t380 x6_1).size:Int)==3)=false:=beq_eq_false_iff_ne.mpr c8;have c8b1:(((rdOf ByteArray.empty t380 x6_1).size:Int) != 3)=true:=bne_iff_ne.mpr c8;obtain⟨y398,hy398⟩:∃ y_:List (S70),y_=(([]:List (S70))):=⟨_,rfl⟩;replace H:(some (y398,false))=some (r1,r2):=by first | (rw [hy398];with_reducible exact H) | (have H2_:=(Option.bind_some _ _).symm.trans H;rw [hy398];with_reducible exact H2_) | (have H2_:=(Option.bind_some _ _).symm.trans H;with_reducible exact H2_) | with_reducible exact H | (rw [hy398];exact H) | exact H
      have Ny398:=Aside0.mk hy398;clear hy398;simp only [Option.some.injEq,Prod.mk.injEq] at H;obtain⟨rfl,rfl⟩:=H;obtain⟨Ao35,co35,eo35⟩:=Kd.R_slice HO_5.out;subst eo35;have p383:0≤(x6_1:Int):=od_;have q383:x6_1<(t380.length:Int):=od_;obtain⟨ad383,e383,hx383_0⟩:=Kd.at_string (Kd.R_reads' HO_5.out).2.2 x6_1 p383 q383;cases e383;replace p383:=eq_true p383;replace q383:=eq_true q383;go_wp2_with (first | ((with_reducible refine gate_dst (N:=43) rfl ?_);refine Kd.R_lit k70 _ 70 ?hg (N:=43) ?hd (xs:=([]:List (S70))) (inner:=[]) (ok:=fun _=>True) (okp:=fun _=>True) ?hr ?hp (fun _ hk=>hk) trivial (Below.refl _ _) (Nat.le_refl _) (by simp) ?_;(case hd=>rfl);(case hg=>rfl);(case hr=>first | (go_simp;done) | (go_simp;rfl));(case hp=>exact (Reps.none _ _));intro v399 w36 ho37 hb hg_ hnew_;clear hg_ hnew_;(first | rw [← Ny398.out] at ho37 | (simp only [Int.reduceToNat] at ho37;rw [← Ny398.out] at ho37));have HO400:=a0_ (Kd.R_lower (Kd.R_new' ho37 (Kd.R_lt (uR_ HO_4))) (below_size hB_));replace HO_4:=a0_ (Kd.R_elder' (uR_ HO_4) (Kd.R_base ho37) hb);replace HO_5:=rb_ HO_5 hb;replace HB:=sb_ HB hb;clear hb ho37));go_ret2;exact⟨_,rr_,by (with_reducible repeat (first | apply Kd.R_alloc | apply Kd.R_drewN | apply Kd.R_drew));exact Kd.R_mono HO400.out (fun _ hk=>trivial),hB_⟩
    ·
     rw [if_neg c7] at H;exact absurd H (by simp)
   ·
    rw [if_neg c6] at H;have c6b0:decide (x6_1<(t380.length:Int))=false:=decide_eq_false c6;clear c6;simp only [Option.some.injEq,Prod.mk.injEq] at H;obtain⟨rfl,rfl⟩:=H;obtain⟨Ao38,co38,eo38⟩:=Kd.R_slice HO_5.out;subst eo38;go_wp2;go_ret2;exact⟨_,rr_,by (with_reducible repeat (first | apply Kd.R_alloc | apply Kd.R_drewN | apply Kd.R_drew));exact HO_4.out,hB_⟩
mutual
def spec_PlateRead.j0:Nat→List ByteArray→Int→Bool→Option ((List (S70)) × (List (List (S70))) × Bool)
 | 0,_,_,_=>none
 | k+1,x4,x5,x27=>if x27=true then (some (([]:List (S70)),([]:List (List (S70))),false)) else (spec_PlateRead.l0 k x4 x5 0 ([]:List (S70)) (([]:List (List (S70)))))
def spec_PlateRead.l0:Nat→List ByteArray→Int→Int→List (S70)→List (List (S70))→Option ((List (S70)) × (List (List (S70))) × Bool)
 | 0,_,_,_,_,_=>none
 | k+1,x4,x5,x7,x410000,x410001=>if x7<x5 then (if 0≤x7 then (if x7<(x4.length:Int) then ((spec_l3Read.f k (rdOf ByteArray.empty x4 x7)).bind fun bt412=>(if bt412.2=true then (if x7=0 then (spec_PlateRead.l0 k x4 x5 (wrap64 (x7+1)) bt412.1 x410001) else (if x410001.length<5864062014805 then (spec_PlateRead.l0 k x4 x5 (wrap64 (x7+1)) x410000 (x410001++[bt412.1])) else (none))) else (some (([]:List (S70)),([]:List (List (S70))),false)))) else (none)) else (none)) else ((spec_PlateOk.f k x410000 x410001).bind fun t410=>(if t410=true then (some (x410000,x410001,true)) else (some (([]:List (S70)),([]:List (List (S70))),false))))
end
def spec_PlateRead.f (k:Nat)(a0:ByteArray):Option ((List (S70)) × (List (List (S70))) × Bool):=if (a0.size:Int)>120 then (some (([]:List (S70)),([]:List (List (S70))),false)) else ((spec_l3Cut.f a0 10).bind fun t402=>(if (wrap64 ((t402.length:Int)-1))<1 then (spec_PlateRead.j0 k t402 (wrap64 ((t402.length:Int)-1)) true) else (if 0≤(wrap64 ((t402.length:Int)-1)) then (if (wrap64 ((t402.length:Int)-1))<(t402.length:Int) then (spec_PlateRead.j0 k t402 (wrap64 ((t402.length:Int)-1)) ((rdOf ByteArray.empty t402 (wrap64 ((t402.length:Int)-1))).toList != ([]:List UInt8))) else (none)) else (none))))
set_option maxHeartbeats 8000000 in
set_option maxRecDepth 100000 in
theorem spec_PlateRead.calls (k:Nat)(a0:ByteArray)(r1:List (S70))(r2:List (List (S70)))(r3:Bool)(w:World)(h:spec_PlateRead.f k a0=some (r1,r2,r3)):
  Calls Tryz.prog 5 #[.string a0] w fun e w'=>∃ v0_ v1_:Value,e=.returned (.tuple #[.agg #[v0_,v1_],.bool r3])∧Kd.R k70 70 w' w.heap.size (fun _=>True) v0_ r1∧Kd.S (Kd.slice 70 k70) 24 w' w.heap.size (fun k_=>some k_≠(v0_:Value).ownBlock) v1_ r2∧Below w.heap.size w w':=by
 have hu27:=Tryz.underlying27;have HB:=a0_ (Below.refl w.heap.size w);have H:(if (a0.size:Int)>120 then (some (([]:List (S70)),([]:List (List (S70))),false)) else ((spec_l3Cut.f a0 10).bind fun t402=>(if (wrap64 ((t402.length:Int)-1))<1 then (spec_PlateRead.j0 k t402 (wrap64 ((t402.length:Int)-1)) true) else (if 0≤(wrap64 ((t402.length:Int)-1)) then (if (wrap64 ((t402.length:Int)-1))<(t402.length:Int) then (spec_PlateRead.j0 k t402 (wrap64 ((t402.length:Int)-1)) ((rdOf ByteArray.empty t402 (wrap64 ((t402.length:Int)-1))).toList != ([]:List UInt8))) else (none)) else (none)))))=some (r1,r2,r3):=h;clear h;by_cases c2:(a0.size:Int)>120
 ·
  rw [if_pos c2] at H;have c2b0:decide (120<(a0.size:Int))=true:=decide_eq_true c2;have c2b1:decide (120<a0.size)=true:=decide_eq_true (by omega);clear c2;simp only [Option.some.injEq,Prod.mk.injEq] at H;obtain⟨rfl,rfl,rfl⟩:=H;go_enter Tryz.func5,Tryz.ntmps5;go_wp2_with (first | ((with_reducible refine gate_dst (N:=2) rfl ?_);refine bx_ (N:=2) (cs:=#[.slice none 0 0,.slice none 0 0]) (t:=27) (h:=?_);intro gb401 hg w3 hbox hb;have BK401:=a0_ (hbox);have GW401:=gh_ HB hg;have GE401:=gh_ HB hg;replace HB:=sb_ HB hb;clear hb hbox hg;have hcz4_0:=c20_ BK401;have hcz4_1:=c21_ BK401;have hfz4_0:=fz_ BK401 0;have hfz4_1:=fz_ BK401 1));refine bodyPost_ret (results_ct rfl _ _ gb401 27 #[.slice none 0 0,.slice none 0 0] (0,0) _ rfl (by (with_reducible repeat (first | refine blk_drewN ?_ _ | refine blk_drew ?_ | refine blk_alloc ?_ _));refine blk_put (cs:=#[.slice none 0 0,.slice none 0 0]) ?_ 1 _ rfl;(with_reducible repeat (first | refine blk_drewN ?_ _ | refine blk_drew ?_ | refine blk_alloc ?_ _));refine blk_put (cs:=#[.slice none 0 0,.slice none 0 0]) ?_ 0 _ rfl;(with_reducible repeat (first | refine blk_drewN ?_ _ | refine blk_drew ?_ | refine blk_alloc ?_ _));exact BK401.out) Tryz.underlying27 rfl (by kernel_rfl)) rfl ?_;exact⟨_,_,rr_,by first | exact Kd.R_nil _ _ _ _ _ | exact Kd.N_nil _ _ _ _ _ | exact Kd.V_nil _ _ _ _ _ | exact Kd.Q_nil _ _ _ _ _ | exact Kd.S_nil _ _ _ _ _,by first | exact Kd.S_nil _ _ _ _ _ | exact Kd.N_nil _ _ _ _ _ | exact Kd.V_nil _ _ _ _ _ | exact Kd.Q_nil _ _ _ _ _ | exact Kd.R_nil _ _ _ _ _,hB_⟩
 ·
  rw [if_neg c2] at H;have c2b0:decide (120<(a0.size:Int))=false:=decide_eq_false c2;have c2b1:decide (120<a0.size)=false:=decide_eq_false (by omega);clear c2;replace H:=Option.bind_eq_some_iff.mp H;obtain⟨t402,A50,H⟩:=H
  (try dsimp only at H)
  have A5:=Aside0.mk A50;clear A50;have HC6:=Aside0.mk H;clear H;go_enter Tryz.func5,Tryz.ntmps5;go_upto_region 5 with (first | ((with_reducible refine gate_dst (N:=2) rfl ?_);refine bx_ (N:=2) (cs:=#[.slice none 0 0,.slice none 0 0]) (t:=27) (h:=?_);intro gb401 hg w7 hbox hb;have BK401:=a0_ (hbox);have GW401:=gh_ HB hg;have GE401:=gh_ HB hg;replace HB:=sb_ HB hb;clear hb hbox hg) | ((with_reducible refine gate_callee (f:=15) rfl ?_);refine gL_ (some 15) Tryz.func15 #[.string a0,.int .u8 10] (h:=?_);(with_reducible refine (spec_l3Cut.calls a0 10 t402 _ A5.out).mono ?_);rintro e w8 ⟨v403,rfl,ho0,hb⟩;refine⟨_,rfl,?_⟩;have HO404:=a0_ (Kd.R_lower ho0 (below_size hB_));replace BK401:=vb_ BK401 hb;replace HB:=sb_ HB hb;(try clear ho0 hb);obtain⟨Ao9,co9,eo9⟩:=Kd.R_slice HO404.out;subst eo9))
  (try simp only [Act.put,List.setIfInBounds_toArray,List.set_cons_zero,List.set_cons_succ])
  go_cut [27] (fun v27 wc=>∃ (kq:Nat) (x27_5:Bool),v27=.bool x27_5∧Aside0 (spec_PlateRead.j0 kq t402 (wrap64 ((t402.length:Int)-1)) x27_5=some (r1,r2,r3))∧Aside0 (kq≤k)∧Aside0 (Kd.R Kd.string 9 wc w.heap.size (fun _=>True) (.slice Ao9 t402.length co9) t402)∧Aside0 (wc.heap[gb401]?=some (.cells #[(.slice none 0 0),(.slice none 0 0)] 27 (0,0)))∧Aside0 (Below w.heap.size w wc))
  case first =>
   have H:=HC6.out;clear HC6;by_cases c10:(wrap64 ((t402.length:Int)-1))<1
   ·
    rw [if_pos c10] at H;have c10b0:decide ((wrap64 ((t402.length:Int)-1))<1)=true:=decide_eq_true c10;clear c10
    (first | rw [c10b0] | (simp only [i64_w,i32_w];rw [c10b0]) | skip)
    have H':=Aside0.mk H;clear H;go_wp2;go_meet
    case rel=>exact⟨_,(true),(by first | rfl | (simp;done) | (simp [*];done)),H',⟨by first | omega | exact Nat.le_refl _⟩,⟨by (with_reducible repeat (first | apply Kd.R_alloc | apply Kd.R_drewN | apply Kd.R_drew));exact HO404.out⟩,⟨uq_⟩,⟨hB_⟩⟩
   ·
    rw [if_neg c10] at H;have c10b0:decide ((wrap64 ((t402.length:Int)-1))<1)=false:=decide_eq_false c10;clear c10
    (first | rw [c10b0] | (simp only [i64_w,i32_w];rw [c10b0]) | skip)
    obtain⟨ji11,hji11⟩:∃ j_:Int,(wrap64 ((t402.length:Int)-1))=j_:=⟨_,rfl⟩;replace H:(if 0≤(ji11) then (if (ji11)<(t402.length:Int) then (spec_PlateRead.j0 k t402 ji11 ((rdOf ByteArray.empty t402 (ji11)).toList != ([]:List UInt8))) else (none)) else (none))=some (r1,r2,r3):=by first | (rw [hji11] at H;exact H) | (simp only [hji11] at H ⊢;exact H)
    (try rw [hji11] at c10b0)
    have hji11w:(IntKind.i64.wrap ((t402.length:Int)-1))=ji11:=(i64_w _).trans hji11;by_cases c12:0≤(ji11)
    ·
     rw [if_pos c12] at H;have c12b0:decide (0≤(ji11))=true:=decide_eq_true c12;clear c12;by_cases c13:(ji11)<(t402.length:Int)
     ·
      rw [if_pos c13] at H;have c13b0:decide ((ji11)<(t402.length:Int))=true:=decide_eq_true c13;clear c13;have H':=Aside0.mk H;clear H;have p405:0≤((ji11):Int):=od_;have q405:(ji11)<(t402.length:Int):=od_;obtain⟨ad405,e405,hx405_0⟩:=Kd.at_string (Kd.R_reads' HO404.out).2.2 (ji11) p405 q405;cases e405;replace p405:=eq_true p405;replace q405:=eq_true q405;go_wp2;go_meet
      case rel=>exact⟨_,(((rdOf ByteArray.empty t402 (ji11)).toList != ([]:List UInt8))),(congrArg Value.bool (show (!(rdOf ByteArray.empty t402 (ji11)).toList.isEmpty)=_ by cases (rdOf ByteArray.empty t402 (ji11)).toList <;> rfl)),⟨by rw [hji11];exact H'.out⟩,⟨by first | omega | exact Nat.le_refl _⟩,⟨by (with_reducible repeat (first | apply Kd.R_alloc | apply Kd.R_drewN | apply Kd.R_drew));exact HO404.out⟩,⟨uq_⟩,⟨hB_⟩⟩
     ·
      rw [if_neg c13] at H;exact absurd H (by simp)
    ·
     rw [if_neg c12] at H;exact absurd H (by simp)
  case rest =>
   clear HC6;obtain⟨kq,x27_5,rfl,HA,HJ5,HO_4,BK401,HB⟩:=hcut
   cases kq with
   | zero=>exact absurd HA.out (by simp [spec_PlateRead.j0])
   | succ kj5 =>
    have H:=HA.out;clear HA;simp only [spec_PlateRead.j0] at H;by_cases c14:x27_5=true
    ·
     subst c14;rw [if_pos rfl] at H
     (try dsimp only at H)
     simp only [Option.some.injEq,Prod.mk.injEq] at H;obtain⟨rfl,rfl,rfl⟩:=H;have hcz15_0:=c20_ BK401;have hcz15_1:=c21_ BK401;have hfz15_0:=fz_ BK401 0;have hfz15_1:=fz_ BK401 1;go_wp2;refine bodyPost_ret (results_ct rfl _ _ gb401 27 #[.slice none 0 0,.slice none 0 0] (0,0) _ rfl (by (with_reducible repeat (first | refine blk_drewN ?_ _ | refine blk_drew ?_ | refine blk_alloc ?_ _));refine blk_put (cs:=#[.slice none 0 0,.slice none 0 0]) ?_ 1 _ rfl;(with_reducible repeat (first | refine blk_drewN ?_ _ | refine blk_drew ?_ | refine blk_alloc ?_ _));refine blk_put (cs:=#[.slice none 0 0,.slice none 0 0]) ?_ 0 _ rfl;(with_reducible repeat (first | refine blk_drewN ?_ _ | refine blk_drew ?_ | refine blk_alloc ?_ _));exact BK401.out) Tryz.underlying27 rfl (by kernel_rfl)) rfl ?_;exact⟨_,_,rr_,by first | exact Kd.R_nil _ _ _ _ _ | exact Kd.N_nil _ _ _ _ _ | exact Kd.V_nil _ _ _ _ _ | exact Kd.Q_nil _ _ _ _ _ | exact Kd.S_nil _ _ _ _ _,by first | exact Kd.S_nil _ _ _ _ _ | exact Kd.N_nil _ _ _ _ _ | exact Kd.V_nil _ _ _ _ _ | exact Kd.Q_nil _ _ _ _ _ | exact Kd.R_nil _ _ _ _ _,hB_⟩
    ·
     replace c14:=Bool.eq_false_iff.mpr c14;subst c14;rw [if_neg (show ¬ (false=true) by decide)] at H
     (try dsimp only at H)
     obtain⟨y406,hy406⟩:∃ y_:List (List (S70)),y_=(([]:List (List (S70)))):=⟨_,rfl⟩;replace H:(spec_PlateRead.l0 kj5 t402 (wrap64 ((t402.length:Int)-1)) 0 ([]:List (S70)) y406)=some (r1,r2,r3):=by first | (rw [hy406];with_reducible exact H) | (have H2_:=(Option.bind_some _ _).symm.trans H;rw [hy406];with_reducible exact H2_) | (have H2_:=(Option.bind_some _ _).symm.trans H;with_reducible exact H2_) | with_reducible exact H | (rw [hy406];exact H) | exact H
     have Ny406:=Aside0.mk hy406;clear hy406;have H':=Aside0.mk H;clear H;go_wp2_with (first | ((with_reducible refine gate_dst (N:=29) rfl ?_);refine Kd.S_lit (Kd.slice 70 k70) _ 24 ?hg (N:=29) ?hd (xs:=([]:List (List (S70)))) (inner:=[]) (ok:=fun _=>True) (okp:=fun _=>True) ?hr ?hp (fun _ hk=>hk) trivial (Below.refl _ _) (Nat.le_refl _) (by simp) ?_;(case hd=>rfl);(case hg=>rfl);(case hr=>first | (go_simp;done) | (go_simp;rfl));(case hp=>exact (Reps.none _ _));intro v407 w16 ho17 hb hg_ hnew_;clear hg_ hnew_;(first | rw [← Ny406.out] at ho17 | (simp only [Int.reduceToNat] at ho17;rw [← Ny406.out] at ho17));have HO408:=a0_ (Kd.S_lower ho17 (below_size hB_));replace HO_4:=rb_ HO_4 hb;replace BK401:=vb_ BK401 hb;replace HB:=sb_ HB hb;clear hb ho17;obtain⟨Ao18,co18,eo18⟩:=Kd.S_slice HO408.out;subst eo18) | ((with_reducible refine gate_dst (N:=6) rfl ?_);refine bx_ (N:=6) (cs:=#[.slice none 0 0,.slice none 0 0]) (t:=27) (h:=?_);intro gb409 hg w19 hbox hb;have BK409:=a0_ (hbox);have GW409:=gh_ HB hg;have GE409:=gh_ HB hg;have NB401_409:=nl_ BK401 hg;have NB409_401:=nr_ BK401 hg;replace HO_4:=rb_ HO_4 hb;replace HO408:=a0_ (Kd.S_below (by (with_reducible repeat (first | apply Kd.S_alloc | apply Kd.S_drewN | apply Kd.S_drew));exact HO408.out) hb);replace BK401:=vb_ BK401 hb;replace HB:=sb_ HB hb;clear hb hbox hg;have hnb20:=NB409_401.out;have hnc20:=NB401_409.out;have hcz21_0:=c20_ BK409;have hcz21_1:=c21_ BK409;have hfz21_0:=fz_ BK409 0;have hfz21_1:=fz_ BK409 1))
     go_loopg [7] kj5 (fun kq v7 w'=>∃ (x7_2:Int) (x410000_2:List (S70)) (x410001_2:List (List (S70))) (u410000:Value) (u410001:Value),v7=.int .i64 x7_2∧Aside0 (spec_PlateRead.l0 kq t402 (wrap64 ((t402.length:Int)-1)) x7_2 x410000_2 x410001_2=some (r1,r2,r3))∧Aside0 (kq≤kj5)∧Aside0 (Kd.R Kd.string 9 w' w.heap.size (fun _=>True) (.slice Ao9 t402.length co9) t402)∧Aside0 (Kd.R k70 70 w' w.heap.size (fun _=>True) u410000 x410000_2)∧Aside0 (Kd.S (Kd.slice 70 k70) 24 w' w.heap.size (fun k_=>some k_≠(u410000:Value).ownBlock) u410001 x410001_2)∧Aside0 (w'.heap[gb401]?=some (.cells #[(.slice none 0 0),(.slice none 0 0)] 27 (0,0)))∧Aside0 (w'.heap[gb409]?=some (.cells #[u410000,u410001] 27 (0,0)))∧Aside0 (Below w.heap.size w w'))
     case atStart=>exact⟨(0),(([]:List (S70))),(y406),(.slice none 0 0),(.slice Ao18 y406.length co18),(by first | rfl | (simp;done) | (simp [*];done)),H',⟨Nat.le_refl _⟩,⟨by (with_reducible repeat (first | apply Kd.R_alloc | apply Kd.R_drewN | apply Kd.R_drew));exact Kd.R_mono (Kd.R_far (p:=⟨gb409,1,none⟩) (Kd.R_far (p:=⟨gb409,0,none⟩) (Kd.R_types HO_4.out BK409.out (by decide)) (fun _ hk=>hk.2) (.slice none 0 0)) (fun _ hk=>hk.2) (.slice Ao18 y406.length co18)) (fun _ hk=>trivial)⟩,⟨by first | exact Kd.R_nil _ _ _ _ _ | exact Kd.N_nil _ _ _ _ _ | exact Kd.V_nil _ _ _ _ _ | exact Kd.Q_nil _ _ _ _ _ | exact Kd.S_nil _ _ _ _ _⟩,⟨by (with_reducible repeat (first | apply Kd.S_alloc | apply Kd.S_drewN | apply Kd.S_drew));exact Kd.S_mono (Kd.S_far (p:=⟨gb409,1,none⟩) (Kd.S_far (p:=⟨gb409,0,none⟩) (Kd.S_types HO408.out BK409.out (by decide)) (fun _ hk=>hk.2) (.slice none 0 0)) (fun _ hk=>hk.2) (.slice Ao18 y406.length co18)) (fun _ hk=>(by simp [Value.ownBlock]))⟩,⟨by (with_reducible repeat (first | refine blk_drewN ?_ _ | refine blk_drew ?_ | refine blk_alloc ?_ _));refine blk_far ?_ NB401_409.out _;(with_reducible repeat (first | refine blk_drewN ?_ _ | refine blk_drew ?_ | refine blk_alloc ?_ _));refine blk_far ?_ NB401_409.out _;(with_reducible repeat (first | refine blk_drewN ?_ _ | refine blk_drew ?_ | refine blk_alloc ?_ _));exact BK401.out⟩,⟨by (with_reducible repeat (first | refine blk_drewN ?_ _ | refine blk_drew ?_ | refine blk_alloc ?_ _));refine blk_put (cs:=#[.slice none 0 0,.slice none 0 0]) ?_ 1 _ rfl;(with_reducible repeat (first | refine blk_drewN ?_ _ | refine blk_drew ?_ | refine blk_alloc ?_ _));refine blk_put (cs:=#[.slice none 0 0,.slice none 0 0]) ?_ 0 _ rfl;(with_reducible repeat (first | refine blk_drewN ?_ _ | refine blk_drew ?_ | refine blk_alloc ?_ _));exact BK409.out⟩,⟨hB_⟩⟩
     case round =>
      clear H';obtain⟨x7_2,x410000_2,x410001_2,u410000,u410001,rfl,HA,HK2,HO_4,HO_410000,HO_410001,BK401,BK409,HB⟩:=hrel
      cases gk with
      | zero=>exact absurd HA.out (by simp [spec_PlateRead.l0])
      | succ k2 =>
       have H:=HA.out;clear HA;simp only [spec_PlateRead.l0] at H;by_cases c22:x7_2<(wrap64 ((t402.length:Int)-1))
       ·
        rw [if_pos c22] at H;have c22b0:decide (x7_2<(wrap64 ((t402.length:Int)-1)))=true:=decide_eq_true c22;clear c22;by_cases c23:0≤x7_2
        ·
         rw [if_pos c23] at H;have c23b0:decide (0≤x7_2)=true:=decide_eq_true c23;clear c23;by_cases c24:x7_2<(t402.length:Int)
         ·
          rw [if_pos c24] at H;have c24b0:decide (x7_2<(t402.length:Int))=true:=decide_eq_true c24;clear c24;replace H:=Option.bind_eq_some_iff.mp H;obtain⟨⟨t412,t413⟩,A250,H⟩:=H
          (try dsimp only at H)
          have A25:=Aside0.mk A250;clear A250;by_cases c26:t413=true
          ·
           subst c26;rw [if_pos rfl] at H
           (try dsimp only at H)
           by_cases c27:x7_2=0
           ·
            rw [if_pos c27] at H;have c27b0:(x7_2==0)=true:=beq_iff_eq.mpr c27;have c27b1:(x7_2 != 0)=false:=bne_eq_false_iff_eq.mpr c27;clear c27;have H':=Aside0.mk H;clear H;have p411:0≤(x7_2:Int):=od_;have q411:x7_2<(t402.length:Int):=od_;obtain⟨ad411,e411,hx411_0⟩:=Kd.at_string (Kd.R_reads' HO_4.out).2.2 x7_2 p411 q411;cases e411;replace p411:=eq_true p411;replace q411:=eq_true q411;go_wp2_with (first | ((with_reducible refine gate_callee (f:=16) rfl ?_);refine gL_ (some 41) Tryz.func16 #[.string (rdOf ByteArray.empty t402 x7_2)] (h:=?_);(with_reducible refine (spec_l3Read.calls k2 (rdOf ByteArray.empty t402 x7_2) t412 true _ A25.out).mono ?_);rintro e w28 ⟨v414,rfl,ho0,hb⟩;refine⟨_,rfl,?_⟩;have HO415:=a0_ (Kd.R_lower (Kd.R_new' ho0 (Kd.R_lt (uR_ HO_410000))) (below_size hB_));replace HO_4:=rb_ HO_4 hb;replace HO_410000:=a0_ (Kd.R_elder' (uR_ HO_410000) (Kd.R_base ho0) hb);replace HO_410001:=a0_ (Kd.S_elder' (by (with_reducible repeat (first | apply Kd.S_alloc | apply Kd.S_drewN | apply Kd.S_drew));exact HO_410001.out) (Kd.R_base ho0) hb);replace BK401:=vb_ BK401 hb;replace BK409:=vb_ BK409 hb;replace HB:=sb_ HB hb;(try clear ho0 hb);obtain⟨Ao29,co29,eo29⟩:=Kd.R_slice HO415.out;subst eo29;have hnb30:=NB409_401.out;have hnc30:=NB401_409.out;have hcz31_0:=c20_ BK409;have hcz31_1:=c21_ BK409;have hfz31_0:=fz_ BK409 0;have hfz31_1:=fz_ BK409 1));go_roundg k2
            case measure=>have:=HJ5.out;have:=HK2.out;omega
            case rel=>exact⟨(wrap64 (x7_2+1)),(t412),(x410001_2),(.slice Ao29 t412.length co29),(u410001),(by first | rfl | (simp;done) | (simp [*];done)),H',⟨by have:=HJ5.out;have:=HK2.out;omega⟩,⟨by (with_reducible repeat (first | apply Kd.R_alloc | apply Kd.R_drewN | apply Kd.R_drew));exact Kd.R_mono (Kd.R_far (p:=⟨gb409,0,none⟩) (Kd.R_types HO_4.out BK409.out (by decide)) (fun _ hk=>hk.2) (.slice Ao29 t412.length co29)) (fun _ hk=>trivial)⟩,⟨by (with_reducible repeat (first | apply Kd.R_alloc | apply Kd.R_drewN | apply Kd.R_drew));exact Kd.R_mono (Kd.R_far (p:=⟨gb409,0,none⟩) (Kd.R_types HO415.out BK409.out (by decide)) (fun _ hk=>hk.2) (.slice Ao29 t412.length co29)) (fun _ hk=>trivial)⟩,⟨by (with_reducible repeat (first | apply Kd.S_alloc | apply Kd.S_drewN | apply Kd.S_drew));exact Kd.S_mono (Kd.S_far (p:=⟨gb409,0,none⟩) (Kd.S_types HO_410001.out BK409.out (by decide)) (fun _ hk=>hk.2) (.slice Ao29 t412.length co29)) (fun _ hk=>hk.1.2)⟩,⟨by (with_reducible repeat (first | refine blk_drewN ?_ _ | refine blk_drew ?_ | refine blk_alloc ?_ _));refine blk_far ?_ NB401_409.out _;(with_reducible repeat (first | refine blk_drewN ?_ _ | refine blk_drew ?_ | refine blk_alloc ?_ _));exact BK401.out⟩,⟨by (with_reducible repeat (first | refine blk_drewN ?_ _ | refine blk_drew ?_ | refine blk_alloc ?_ _));refine blk_put (cs:=#[u410000,u410001]) ?_ 0 _ rfl;(with_reducible repeat (first | refine blk_drewN ?_ _ | refine blk_drew ?_ | refine blk_alloc ?_ _));exact BK409.out⟩,⟨hB_⟩⟩
           ·
            rw [if_neg c27] at H;have c27b0:(x7_2==0)=false:=beq_eq_false_iff_ne.mpr c27;have c27b1:(x7_2 != 0)=true:=bne_iff_ne.mpr c27;by_cases c32:x410001_2.length<5864062014805
            ·
             rw [if_pos c32] at H;have LMc32:=Aside0.mk c32;clear c32;obtain⟨y416,hy416⟩:∃ y_:List (List (S70)),y_=(x410001_2++[t412]):=⟨_,rfl⟩;replace H:(spec_PlateRead.l0 k2 t402 (wrap64 ((t402.length:Int)-1)) (wrap64 (x7_2+1)) x410000_2 y416)=some (r1,r2,r3):=by first | (rw [hy416];with_reducible exact H) | (have H2_:=(Option.bind_some _ _).symm.trans H;rw [hy416];with_reducible exact H2_) | (have H2_:=(Option.bind_some _ _).symm.trans H;with_reducible exact H2_) | with_reducible exact H | (rw [hy416];exact H) | exact H
             have Ny416:=Aside0.mk hy416;clear hy416;have H':=Aside0.mk H;clear H;have p411:0≤(x7_2:Int):=od_;have q411:x7_2<(t402.length:Int):=od_;obtain⟨ad411,e411,hx411_0⟩:=Kd.at_string (Kd.R_reads' HO_4.out).2.2 x7_2 p411 q411;cases e411;replace p411:=eq_true p411;replace q411:=eq_true q411
             go_wp2_with (first | ((with_reducible refine gate_callee (f:=16) rfl ?_);refine gL_ (some 41) Tryz.func16 #[.string (rdOf ByteArray.empty t402 x7_2)] (h:=?_);(with_reducible refine (spec_l3Read.calls k2 (rdOf ByteArray.empty t402 x7_2) t412 true _ A25.out).mono ?_);rintro e w33 ⟨v414,rfl,ho0,hb⟩;refine⟨_,rfl,?_⟩;have HO415:=a0_ (Kd.R_lower (Kd.R_new' ho0 (Kd.R_lt (uR_ HO_410000))) (below_size hB_));replace HO_4:=rb_ HO_4 hb;replace HO_410000:=a0_ (Kd.R_elder' (uR_ HO_410000) (Kd.R_base ho0) hb);replace HO_410001:=a0_ (Kd.S_elder' (by (with_reducible repeat (first | apply Kd.S_alloc | apply Kd.S_drewN | apply Kd.S_drew));exact HO_410001.out) (Kd.R_base ho0) hb);replace BK401:=vb_ BK401 hb;replace BK409:=vb_ BK409 hb;replace HB:=sb_ HB hb;(try clear ho0 hb);have hnb34:=NB409_401.out;have hnc34:=NB401_409.out;have hcz35_0:=c20_ BK409;have hcz35_1:=c21_ BK409;have hfz35_0:=fz_ BK409 0;have hfz35_1:=fz_ BK409 1;obtain⟨Ao37,co37,eo37⟩:=Kd.R_slice HO415.out;subst eo37) | ((with_reducible refine gate_builtin (b:=.append) (xs:=#[.tmp 52,.tmp 54]) rfl ?_);at_builtin;refine Kd.S_append (Kd.slice 70 k70) (w0:=w) w.heap.size rfl (.tmp 52) (.tmp 54) 25 24 (.slice none 0 0) 24 rfl Tryz.underlying25 info24 rfl (by decide) (by omega) u410001 x410001_2 t412 [.slice Ao37 t412.length co37] (fun k_=>some k_≠(u410000:Value).ownBlock) (fun k_=>some k_=(.slice Ao37 t412.length co37:Value).ownBlock) rfl rfl ?aP (fun k_ hk_=>((Kd.R_mono (ok':=fun k_=>((fun k_=>some k_≠(u410000:Value).ownBlock)) k_∧some k_≠(u410001:Value).ownBlock) (Kd.R_apart' (HO415.out) (Kd.S_typed HO_410001.out) (by decide)) (fun k_ hk=>⟨hk.1.2,hk.2⟩))).1 k_ hk_.symm) ?aF ?aO ?aB ?aS ?aL ?_;(case aP=>exact Kd.M_row (Kd.R_mono (Kd.R_tight rfl (Kd.R_mono (ok':=fun k_=>((fun k_=>some k_≠(u410000:Value).ownBlock)) k_∧some k_≠(u410001:Value).ownBlock) (Kd.R_apart' (HO415.out) (Kd.S_typed HO_410001.out) (by decide)) (fun k_ hk=>⟨hk.1.2,hk.2⟩))) (fun _ h_=>h_)));(case aB=>exact hB_);(case aF=>exact (fun k_ hk=>Kd.fresh' (Kd.R_lt (uR_ HO_410000)) k_ hk));(case aO=>exact (by (with_reducible repeat (first | apply Kd.S_alloc | apply Kd.S_drewN | apply Kd.S_drew));exact Kd.S_mono HO_410001.out (fun k_ hk=>⟨hk.1,fun e_=>hk.2 e_⟩)));(case aS=>exact (below_size hB_));(case aL=>have:=LMc32.out;omega);intro v417 w36 ho hb hg hat;rw [← Ny416.out] at ho;have HO418:=a0_ (ho);replace HO_4:=a0_ (Kd.R_over' (uR_ HO_4) (Kd.S_typed (by (with_reducible repeat (first | apply Kd.S_alloc | apply Kd.S_drewN | apply Kd.S_drew));exact HO_410001.out)) (by decide) hg);replace HO_410000:=a0_ (Kd.R_over' (uR_ HO_410000) (Kd.S_typed (by (with_reducible repeat (first | apply Kd.S_alloc | apply Kd.S_drewN | apply Kd.S_drew));exact HO_410001.out)) (by decide) hg);replace BK401:=a0_ (blk_grown (g:=gb401) (o:=.cells #[.slice none 0 0,.slice none 0 0] 27 (0,0)) uq_ hg (Kd.S_ne HO_410001.out BK401.out (by decide)));replace BK409:=a0_ (blk_grown (g:=gb409) (o:=.cells #[u410000,u410001] 27 (0,0)) uq_ hg (Kd.S_ne HO_410001.out BK409.out (by decide)));replace HB:=a0_ (hb);clear HO415 HO_410001;clear ho hb hg hat;obtain⟨Ao38,co38,eo38⟩:=Kd.S_slice HO418.out;subst eo38;have hcz39_0:=c20_ BK409;have hcz39_1:=c21_ BK409;have hfz39_0:=fz_ BK409 0;have hfz39_1:=fz_ BK409 1))
             go_roundg k2
             case measure=>have:=HJ5.out;have:=HK2.out;omega
             case rel=>exact⟨(wrap64 (x7_2+1)),(x410000_2),(y416),(u410000),(.slice Ao38 y416.length co38),(by first | rfl | (simp;done) | (simp [*];done)),H',⟨by have:=HJ5.out;have:=HK2.out;omega⟩,⟨by (with_reducible repeat (first | apply Kd.R_alloc | apply Kd.R_drewN | apply Kd.R_drew));exact Kd.R_mono (Kd.R_far (p:=⟨gb409,1,none⟩) (Kd.R_types HO_4.out BK409.out (by decide)) (fun _ hk=>hk.2) (.slice Ao38 y416.length co38)) (fun _ hk=>trivial)⟩,⟨by (with_reducible repeat (first | apply Kd.R_alloc | apply Kd.R_drewN | apply Kd.R_drew));exact Kd.R_mono (Kd.R_far (p:=⟨gb409,1,none⟩) (Kd.R_types HO_410000.out BK409.out (by decide)) (fun _ hk=>hk.2) (.slice Ao38 y416.length co38)) (fun _ hk=>trivial)⟩,⟨by (with_reducible repeat (first | apply Kd.S_alloc | apply Kd.S_drewN | apply Kd.S_drew));exact Kd.S_mono (Kd.S_far (p:=⟨gb409,1,none⟩) (Kd.S_types HO418.out BK409.out (by decide)) (fun _ hk=>hk.2) (.slice Ao38 y416.length co38)) (fun _ hk=>hk.1)⟩,⟨by (with_reducible repeat (first | refine blk_drewN ?_ _ | refine blk_drew ?_ | refine blk_alloc ?_ _));refine blk_far ?_ NB401_409.out _;(with_reducible repeat (first | refine blk_drewN ?_ _ | refine blk_drew ?_ | refine blk_alloc ?_ _));exact BK401.out⟩,⟨by (with_reducible repeat (first | refine blk_drewN ?_ _ | refine blk_drew ?_ | refine blk_alloc ?_ _));refine blk_put (cs:=#[u410000,u410001]) ?_ 1 _ rfl;(with_reducible repeat (first | refine blk_drewN ?_ _ | refine blk_drew ?_ | refine blk_alloc ?_ _));exact BK409.out⟩,⟨hB_⟩⟩
            ·
             rw [if_neg c32] at H;exact absurd H (by simp)
          ·
           replace c26:=Bool.eq_false_iff.mpr c26;subst c26;rw [if_neg (show ¬ (false=true) by decide)] at H
           (try dsimp only at H)
           simp only [Option.some.injEq,Prod.mk.injEq] at H;obtain⟨rfl,rfl,rfl⟩:=H;have p411:0≤(x7_2:Int):=od_;have q411:x7_2<(t402.length:Int):=od_;obtain⟨ad411,e411,hx411_0⟩:=Kd.at_string (Kd.R_reads' HO_4.out).2.2 x7_2 p411 q411;cases e411;replace p411:=eq_true p411;replace q411:=eq_true q411;go_wp2_with (first | ((with_reducible refine gate_callee (f:=16) rfl ?_);refine gL_ (some 41) Tryz.func16 #[.string (rdOf ByteArray.empty t402 x7_2)] (h:=?_);(with_reducible refine (spec_l3Read.calls k2 (rdOf ByteArray.empty t402 x7_2) t412 false _ A25.out).mono ?_);rintro e w40 ⟨v414,rfl,ho0,hb⟩;refine⟨_,rfl,?_⟩;have HO415:=a0_ (Kd.R_lower (Kd.R_new' ho0 (Kd.R_lt (uR_ HO_410000))) (below_size hB_));replace HO_4:=rb_ HO_4 hb;replace HO_410000:=a0_ (Kd.R_elder' (uR_ HO_410000) (Kd.R_base ho0) hb);replace HO_410001:=a0_ (Kd.S_elder' (by (with_reducible repeat (first | apply Kd.S_alloc | apply Kd.S_drewN | apply Kd.S_drew));exact HO_410001.out) (Kd.R_base ho0) hb);replace BK401:=vb_ BK401 hb;replace BK409:=vb_ BK409 hb;replace HB:=sb_ HB hb;(try clear ho0 hb);have hnb41:=NB401_409.out;have hnc41:=NB409_401.out;have hcz42_0:=c20_ BK401;have hcz42_1:=c21_ BK401;have hfz42_0:=fz_ BK401 0;have hfz42_1:=fz_ BK401 1));refine bodyPost_ret (results_ct rfl _ _ gb401 27 #[.slice none 0 0,.slice none 0 0] (0,0) _ rfl (by (with_reducible repeat (first | refine blk_drewN ?_ _ | refine blk_drew ?_ | refine blk_alloc ?_ _));refine blk_put (cs:=#[.slice none 0 0,.slice none 0 0]) ?_ 1 _ rfl;(with_reducible repeat (first | refine blk_drewN ?_ _ | refine blk_drew ?_ | refine blk_alloc ?_ _));refine blk_put (cs:=#[.slice none 0 0,.slice none 0 0]) ?_ 0 _ rfl;(with_reducible repeat (first | refine blk_drewN ?_ _ | refine blk_drew ?_ | refine blk_alloc ?_ _));exact BK401.out) Tryz.underlying27 rfl (by kernel_rfl)) rfl ?_
           exact⟨_,_,rr_,by first | exact Kd.R_nil _ _ _ _ _ | exact Kd.N_nil _ _ _ _ _ | exact Kd.V_nil _ _ _ _ _ | exact Kd.Q_nil _ _ _ _ _ | exact Kd.S_nil _ _ _ _ _,by first | exact Kd.S_nil _ _ _ _ _ | exact Kd.N_nil _ _ _ _ _ | exact Kd.V_nil _ _ _ _ _ | exact Kd.Q_nil _ _ _ _ _ | exact Kd.R_nil _ _ _ _ _,hB_⟩
         ·
          rw [if_neg c24] at H;exact absurd H (by simp)
        ·
         rw [if_neg c23] at H;exact absurd H (by simp)
       ·
        rw [if_neg c22] at H;have c22b0:decide (x7_2<(wrap64 ((t402.length:Int)-1)))=false:=decide_eq_false c22;clear c22;replace H:=Option.bind_eq_some_iff.mp H;obtain⟨t410,A430,H⟩:=H
        (try dsimp only at H)
        have A43:=Aside0.mk A430;clear A430;by_cases c44:t410=true
        ·
         subst c44;rw [if_pos rfl] at H
         (try dsimp only at H)
         simp only [Option.some.injEq,Prod.mk.injEq] at H;obtain⟨rfl,rfl,rfl⟩:=H;have hnb45:=NB409_401.out;have hnc45:=NB401_409.out;have hcz46_0:=c20_ BK409;have hcz46_1:=c21_ BK409;have hfz46_0:=fz_ BK409 0;have hfz46_1:=fz_ BK409 1;obtain⟨Ao47,co47,eo47⟩:=Kd.R_slice HO_410000.out;subst eo47;obtain⟨Ao48,co48,eo48⟩:=Kd.S_slice HO_410001.out;subst eo48;go_wp2_with (first | ((with_reducible refine gate_callee (f:=17) rfl ?_);refine gL_ (some 58) Tryz.func17 #[.agg #[.slice Ao47 x410000_2.length co47,.slice Ao48 x410001_2.length co48]] (h:=?_);(with_reducible refine (spec_PlateOk.calls k2 _ _ x410000_2 _ _ x410001_2 true _ ?side1 ?side2 ?side3 ?side4 A43.out).mono ?_);(case side1=>repeat (first | exact (Kd.R_reads' HO_410000.out).2.2 | (with_reducible refine Kd.C_alloc ?_ _) | (with_reducible refine Kd.C_drewN ?_ _) | (with_reducible refine Kd.C_drew ?_)));(case side2=>exact (Kd.R_reads' HO_410000.out).2.1);(case side3=>repeat (first | exact (Kd.S_reads' HO_410001.out).2.2 | (with_reducible refine Kd.C_alloc ?_ _) | (with_reducible refine Kd.C_drewN ?_ _) | (with_reducible refine Kd.C_drew ?_)));(case side4=>exact (Kd.S_reads' HO_410001.out).2.1);rintro e w49 ⟨rfl,hb⟩;refine⟨_,rfl,?_⟩;replace HO_4:=rb_ HO_4 hb;replace HO_410000:=rb_ HO_410000 hb;replace HO_410001:=a0_ (Kd.S_below (by (with_reducible repeat (first | apply Kd.S_alloc | apply Kd.S_drewN | apply Kd.S_drew));exact HO_410001.out) hb);replace BK401:=vb_ BK401 hb;replace BK409:=vb_ BK409 hb;replace HB:=sb_ HB hb;(try clear hb);have hcz50_0:=c20_ BK409;have hcz50_1:=c21_ BK409;have hfz50_0:=fz_ BK409 0;have hfz50_1:=fz_ BK409 1;have hcz51_0:=c20_ BK401;have hcz51_1:=c21_ BK401;have hfz51_0:=fz_ BK401 0;have hfz51_1:=fz_ BK401 1))
         refine bodyPost_ret (results_ct rfl _ _ gb401 27 #[.slice Ao47 x410000_2.length co47,.slice Ao48 x410001_2.length co48] (0,0) _ rfl (by (with_reducible repeat (first | refine blk_drewN ?_ _ | refine blk_drew ?_ | refine blk_alloc ?_ _));refine blk_put (cs:=#[.slice Ao47 x410000_2.length co47,.slice none 0 0]) ?_ 1 _ rfl;(with_reducible repeat (first | refine blk_drewN ?_ _ | refine blk_drew ?_ | refine blk_alloc ?_ _));refine blk_put (cs:=#[.slice none 0 0,.slice none 0 0]) ?_ 0 _ rfl;(with_reducible repeat (first | refine blk_drewN ?_ _ | refine blk_drew ?_ | refine blk_alloc ?_ _));exact BK401.out) Tryz.underlying27 rfl (by kernel_rfl)) rfl ?_;exact⟨_,_,rr_,by (with_reducible repeat (first | apply Kd.R_alloc | apply Kd.R_drewN | apply Kd.R_drew));exact Kd.R_mono (Kd.R_far (p:=⟨gb401,1,none⟩) (Kd.R_far (p:=⟨gb401,0,none⟩) (Kd.R_types HO_410000.out BK401.out (by decide)) (fun _ hk=>hk.2) (.slice Ao47 x410000_2.length co47)) (fun _ hk=>hk.2) (.slice Ao48 x410001_2.length co48)) (fun _ hk=>trivial),by (with_reducible repeat (first | apply Kd.S_alloc | apply Kd.S_drewN | apply Kd.S_drew));exact Kd.S_mono (Kd.S_far (p:=⟨gb401,1,none⟩) (Kd.S_far (p:=⟨gb401,0,none⟩) (Kd.S_types HO_410001.out BK401.out (by decide)) (fun _ hk=>hk.2) (.slice Ao47 x410000_2.length co47)) (fun _ hk=>hk.2) (.slice Ao48 x410001_2.length co48)) (fun _ hk=>hk.1),hB_⟩
        ·
         replace c44:=Bool.eq_false_iff.mpr c44;subst c44;rw [if_neg (show ¬ (false=true) by decide)] at H
         (try dsimp only at H)
         simp only [Option.some.injEq,Prod.mk.injEq] at H;obtain⟨rfl,rfl,rfl⟩:=H;have hnb52:=NB409_401.out;have hnc52:=NB401_409.out;have hcz53_0:=c20_ BK409;have hcz53_1:=c21_ BK409;have hfz53_0:=fz_ BK409 0;have hfz53_1:=fz_ BK409 1;obtain⟨Ao54,co54,eo54⟩:=Kd.R_slice HO_410000.out;subst eo54;obtain⟨Ao55,co55,eo55⟩:=Kd.S_slice HO_410001.out;subst eo55;go_wp2_with (first | ((with_reducible refine gate_callee (f:=17) rfl ?_);refine gL_ (some 58) Tryz.func17 #[.agg #[.slice Ao54 x410000_2.length co54,.slice Ao55 x410001_2.length co55]] (h:=?_);(with_reducible refine (spec_PlateOk.calls k2 _ _ x410000_2 _ _ x410001_2 false _ ?side1 ?side2 ?side3 ?side4 A43.out).mono ?_);(case side1=>repeat (first | exact (Kd.R_reads' HO_410000.out).2.2 | (with_reducible refine Kd.C_alloc ?_ _) | (with_reducible refine Kd.C_drewN ?_ _) | (with_reducible refine Kd.C_drew ?_)));(case side2=>exact (Kd.R_reads' HO_410000.out).2.1);(case side3=>repeat (first | exact (Kd.S_reads' HO_410001.out).2.2 | (with_reducible refine Kd.C_alloc ?_ _) | (with_reducible refine Kd.C_drewN ?_ _) | (with_reducible refine Kd.C_drew ?_)));(case side4=>exact (Kd.S_reads' HO_410001.out).2.1);rintro e w56 ⟨rfl,hb⟩;refine⟨_,rfl,?_⟩;replace HO_4:=rb_ HO_4 hb;replace HO_410000:=rb_ HO_410000 hb;replace HO_410001:=a0_ (Kd.S_below (by (with_reducible repeat (first | apply Kd.S_alloc | apply Kd.S_drewN | apply Kd.S_drew));exact HO_410001.out) hb);replace BK401:=vb_ BK401 hb;replace BK409:=vb_ BK409 hb;replace HB:=sb_ HB hb;(try clear hb);have hcz57_0:=c20_ BK401;have hcz57_1:=c21_ BK401;have hfz57_0:=fz_ BK401 0;have hfz57_1:=fz_ BK401 1))
         refine bodyPost_ret (results_ct rfl _ _ gb401 27 #[.slice none 0 0,.slice none 0 0] (0,0) _ rfl (by (with_reducible repeat (first | refine blk_drewN ?_ _ | refine blk_drew ?_ | refine blk_alloc ?_ _));refine blk_put (cs:=#[.slice none 0 0,.slice none 0 0]) ?_ 1 _ rfl;(with_reducible repeat (first | refine blk_drewN ?_ _ | refine blk_drew ?_ | refine blk_alloc ?_ _));refine blk_put (cs:=#[.slice none 0 0,.slice none 0 0]) ?_ 0 _ rfl;(with_reducible repeat (first | refine blk_drewN ?_ _ | refine blk_drew ?_ | refine blk_alloc ?_ _));exact BK401.out) Tryz.underlying27 rfl (by kernel_rfl)) rfl ?_;exact⟨_,_,rr_,by first | exact Kd.R_nil _ _ _ _ _ | exact Kd.N_nil _ _ _ _ _ | exact Kd.V_nil _ _ _ _ _ | exact Kd.Q_nil _ _ _ _ _ | exact Kd.S_nil _ _ _ _ _,by first | exact Kd.S_nil _ _ _ _ _ | exact Kd.N_nil _ _ _ _ _ | exact Kd.V_nil _ _ _ _ _ | exact Kd.Q_nil _ _ _ _ _ | exact Kd.R_nil _ _ _ _ _,hB_⟩
end Go.Proofs.YtailkppkjhkjpaaGreatDoor.X
end
section
set_option linter.unusedVariables false
set_option linter.unusedSimpArgs false
namespace Go.Proofs.YtailkppkjhkjpaaGreatDoor.X
open Go.RowKit Go.Shelf Go.Proofs.YtailkppkjhkjpaaGreatDoorW.PrintWords Go.Proofs.YtailkppkjhkjpaaGreatDoorW.PrintLast Go.Proofs.YtailkppkjhkjpaaGreatDoorW.PrintMore
open Mort (ptOk)
open Txt (fig wrPt wrLoop)
def impl_pointText.f (x y:Int):Option ByteArray:=if ptOk (x,y) then some ⟨(wrPt (x,y)).toArray⟩ else none
def allPts (l:List S70):Bool:=l.all fun p=>ptOk (ptP p)
def textOf (l:List S70):ByteArray:=⟨(wrLoop (l.map ptP)).toArray⟩
def impl_pointsText.f (l:List S70):Option ByteArray:=if (decide (0<l.length) && decide (l.length≤1000)) && allPts l then some (textOf l) else none
theorem itoa_told {x:Int}(h0:0≤x)(h1:x≤9)(w:World):Calls Tryz.prog 65 #[.int .i64 x] w fun e w'=>e=.returned (.string ⟨#[fig x]⟩)∧Below w.heap.size w w':=by
 obtain⟨n,rfl⟩:∃ n:Nat,x=n:=⟨x.toNat,by omega⟩;refine (Tryz.strconv_Itoa_small n (by omega) w).mono ?_;rintro e w' ⟨rfl,rfl⟩;refine⟨?_,Below.refl _ _⟩;have:n<10:=by omega
 have e1:Go.Lib.decDigits n=[fig (n:Int)]:=Go.Lib.decDigits_one this;rw [e1]
set_option maxHeartbeats 4000000 in
set_option maxRecDepth 100000 in
theorem impl_pointText.calls (x y:Int)(r:ByteArray)(w:World)(h:impl_pointText.f x y=some r):
  Calls Tryz.prog 45 #[.agg #[.int .i64 x,.int .i64 y]] w fun e w'=>e=.returned (.string r)∧Below w.heap.size w w':=by
 have hu37:=Tryz.underlying70;unfold impl_pointText.f at h;by_cases hp:ptOk (x,y)=true
 ·
  rw [if_pos hp] at h;obtain rfl:=Option.some.inj h;have hq:=(Mort.ptOk_iff _).1 hp;simp only at hq;have HQ:=Aside0.mk hq;have n1:=blk_new w (.cells #[.int .i64 x,.int .i64 y] 70 (0,0));have hal:=below_alloc (Below.refl w.heap.size w) (.cells #[.int .i64 x,.int .i64 y] 70);have HN:=a0_ (And.intro n1 hal);clear h hp hq n1 hal;go_enter Tryz.func45,Tryz.ntmps45;go_wp2;have n1:=HN.out.1;have hbw:=HN.out.2;clear HN;generalize w.alloc (.cells #[.int .i64 x,.int .i64 y] 70)=W at *;obtain⟨g,hg⟩:∃ g,w.heap.size=g:=⟨_,rfl⟩;have HB:=Aside0.mk hbw;clear hbw;rw [hg] at n1 ⊢
  have KS:∀ w',Below W.heap.size W w'→(fun w'=>w'.cell? ⟨g,0,none⟩=some (.int .i64 x)∧w'.cell? ⟨g,1,none⟩=some (.int .i64 y)) w':=fun w' hb=>⟨(blk_cell (blk_later n1 hb) 0).trans rfl,(blk_cell (blk_later n1 hb) 1).trans rfl⟩
  have hb:Below W.heap.size W W.drew:=below_drew1 (Below.refl _ _);refine start_ (n:=9) (S:=fun w'=>w'.cell? ⟨g,0,none⟩=some (.int .i64 x)∧w'.cell? ⟨g,1,none⟩=some (.int .i64 y)) (ds:=[]) (qm 9 0) (by kernel_rfl) rfl rfl (KS _ hb) (fun hH=>?_);generalize W.drew=w0 at *;refine qp 0 3 (qm 9 1) ?_;refine qt2 1 4 (qm 9 3) hH ?_;refine qp 4 7 (qm 9 19) ?_;refine qt2 5 8 (qm 9 51) hH ?_;refine qc 2 5 (qm 9 55) Tryz.func65 (itoa_told HQ.out.1 HQ.out.2.1 _) (fun _ h=>KS _ (below_step hb h)) ?_;clear hH;intro wA h_ hH;replace hb:=below_step hb h_;clear h_;refine qp 3 6 (qm 9 63) ?_;refine qc 6 9 (qm 9 127) Tryz.func65 (itoa_told HQ.out.2.2.1 HQ.out.2.2.2 _) (fun _ h=>KS _ (below_step hb h)) ?_;clear hH;intro wB h_ hH;replace hb:=below_step hb h_;clear h_;refine qp 7 10 (qm 9 255) ?_;refine qp 8 2 (qm 9 511) ?_;refine done_ (by kernel_rfl) ?_;go_wp2;go_ret;exact⟨rfl,hg▸below_step HB.out hb⟩
 ·
  rw [if_neg hp] at h;cases h
def ptT (p:S70):ByteArray:=⟨(wrPt (ptP p)).toArray⟩
theorem pointText_f {p:S70}(h:ptOk (ptP p)=true):impl_pointText.f p.f0 p.f1=some (ptT p):=if_pos h
def ptTs (l:List S70):List ByteArray:=l.map ptT
theorem join_ptTs (l:List S70):Go.Lib.join ((ptTs l).map (·.data.toList)) [32]=wrLoop (l.map ptP):=by
 unfold ptTs wrLoop;rw [List.map_map,List.map_map];rfl
theorem info_string:(Tryz.prog.info? 9).map (fun i=>(i.zero,i.size,i.bytes))=some (some (.string ⟨#[]⟩),1,16):=by kernel_rfl
theorem made0 (n:Nat)(hn:n≤1000)(w:World):(Instr.makeSlice 39 (.int .i64 0) (.int .i64 (n:Int))).run Tryz.prog w=.ok (.slice (some ⟨w.heap.size,0,none⟩) 0 n) (w.alloc (.cells (madeCells #[.string ⟨#[]⟩] n) 9)):=by
 have h:=info_string
 cases hi:Tryz.prog.info? 9 with
 | none=>rw [hi] at h;cases h
 | some i =>
  rw [hi] at h;simp only [Option.map_some,Option.some.injEq,Prod.mk.injEq] at h;obtain⟨h1,h2,h3⟩:=h;have:=run_make (P:=Tryz.prog) w 39 9 i (.string ⟨#[]⟩) Tryz.underlying39 hi h1 .i64 .i64 0 (n:Int) (Int.le_refl _) (by omega) (by rw [h3];omega) (by omega);rw [h2,Nat.mul_one] at this;simp only [Int.toNat_zero,Int.toNat_natCast] at this;exact this
theorem R_made (n:Nat)(hn:n≤1000)(w:World):Kd.R Kd.string 9 (w.alloc (.cells (madeCells #[.string ⟨#[]⟩] n) 9)) w.heap.size (fun _=>True) (.slice (some ⟨w.heap.size,0,none⟩) 0 n) []:=
 ⟨fun _ _=>trivial,[],World.ownsRow_made w _ n (Nat.le_refl _) (by unfold maxLen;omega) (by rw [size_madeCells];exact (Nat.mul_one n).symm),Reps.none _ _⟩
theorem join_told {w:World}{g n c:Nat}(xs:List ByteArray)(hcells:∀ (j:Nat) x,xs[j]?=some x→w.cell? ⟨g,0+j,none⟩=some (.string x))(hg:g<w.heap.size)(hn:n≤1000)(hc:xs.length≤c)(hl:(Go.Lib.join (xs.map (·.data.toList)) [32]).length≤140737488355328)(e:xs.length=n):
  Calls Tryz.prog 46 #[.slice (some ⟨g,0,none⟩) n c,.string ⟨#[32]⟩] w fun e w'=>e=.returned (.string ⟨(Go.Lib.join (xs.map (·.data.toList)) [32]).toArray⟩)∧Below w.heap.size w w':=by
 subst e;exact Tryz.strings_Join g 0 c xs ⟨#[32]⟩ w hcells hg (by omega) hc hl
set_option maxHeartbeats 4000000 in
set_option maxRecDepth 100000 in
theorem impl_pointsText.calls (A0:Option Addr)(c0:Nat)(l:List S70)(r:ByteArray)(w:World)(hr0:Kd.C k70 w A0 l.length l)(hc0:l.length≤c0)(h:impl_pointsText.f l=some r):
  Calls Tryz.prog 25 #[.slice A0 l.length c0] w fun e w'=>e=.returned (.string r)∧Below w.heap.size w w':=by
 have hu37:=Tryz.underlying70;unfold impl_pointsText.f at h;by_cases hp:((decide (0<l.length) && decide (l.length≤1000)) && allPts l)=true
 ·
  rw [if_pos hp] at h;obtain rfl:=Option.some.inj h;simp only [Bool.and_eq_true,decide_eq_true_eq] at hp;obtain⟨⟨h0,h1⟩,h2⟩:=hp;have hmk:=made0 l.length h1;obtain⟨gb,hgb⟩:∃ gb,w.heap.size=gb:=⟨_,rfl⟩;have hR:Kd.R Kd.string 9 (w.alloc (.cells (madeCells #[.string ⟨#[]⟩] l.length) 9)) gb (fun _=>True) (.slice (some ⟨gb,0,none⟩) 0 l.length) (ptTs []):=hgb▸R_made l.length h1 w;have hB:Below gb w (w.alloc (.cells (madeCells #[.string ⟨#[]⟩] l.length) 9)):=hgb▸below_alloc (Below.refl _ w) _;have HK:=a0_ (And.intro hr0 (And.intro hc0 (And.intro h0 (And.intro h1 h2))));have HB:=a0_ (And.intro hgb (And.intro hR hB));clear h hr0 hc0 h0 h1 h2 hR hB;go_enter Tryz.func25,Tryz.ntmps25;go_wp2;clear hmk hgb;generalize w.alloc (.cells (madeCells #[.string ⟨#[]⟩] l.length) 9)=W at *;go_loopg [3,11] l.length (fun kq v3 v11 wr=>∃ (i:Nat),v11=.int .i64 (i:Int)∧Aside0 (kq=l.length-i∧i≤l.length∧Below gb w wr∧Kd.R Kd.string 9 wr gb (fun _=>True) v3 (ptTs (l.take i))))
  case atStart=>exact⟨0,rfl,⟨rfl,Nat.zero_le _,HB.out.2.2,HB.out.2.1⟩⟩
  case round =>
   obtain⟨i,rfl,HR⟩:=hrel;have hi:=HR.out.2.1;have hsz:gb≤wr.heap.size:=by have:=HR.out.2.2.1.size;have:=HB.out.1;omega
   by_cases hlt:i<l.length
   ·
    have hd:decide ((i:Int)<(l.length:Int))=true:=decide_eq_true (by omega);have hd2:(i:Int)<(l.length:Int):=by omega
    have hC:=Kd.C_below HK.out.1 (HB.out.1.symm▸HR.out.2.2.1:Below w.heap.size w wr);obtain⟨ad,hA,z0,z1⟩:=at_T70 hC (i:Int) (by omega) (by omega);rw [Int.toNat_natCast] at z0 z1;have hli:l.take (i+1)=l.take i++[rd_T70 l (i:Int)]:=by
     rw [List.take_succ_eq_append_getElem hlt]
     congr 2
     show _=l.getD (i:Int).toNat _
     rw [Int.toNat_natCast,List.getD_eq_getElem?_getD,List.getElem?_eq_getElem hlt];rfl
    have hpk:ptOk (ptP (rd_T70 l (i:Int)))=true:=by
     refine List.all_eq_true.1 HK.out.2.2.2.2 _ ?_;have:rd_T70 l (i:Int)∈l.take (i+1):=by rw [hli];simp
     exact List.mem_of_mem_take this
    obtain⟨p,hp⟩:∃ p,rd_T70 l (i:Int)=p:=⟨_,rfl⟩;rw [hp] at z0 z1 hli hpk;have HO:=a0_ (And.intro hli hpk);subst hA;obtain⟨h1,_,h3,h4⟩:=HR.out;have hal:=below_alloc (Below.refl wr.heap.size wr) (.cells #[.int .i64 p.f0,.int .i64 p.f1] 70);have n1:=blk_new wr (.cells #[.int .i64 p.f0,.int .i64 p.f1] 70 (0,0));have HL:=a0_ (And.intro (Kd.R_below h4 hal) (And.intro (h3.trans (hal.mono hsz)) (And.intro h1 (And.intro hlt (And.intro (Nat.le_trans hsz hal.size) (show ((ptTs (l.take i)).length+1)*16≤140737488355328 by unfold ptTs;rw [List.length_map,List.length_take];have:=HK.out.2.2.2.1;omega))))));clear h1 h3 h4 hli hpk hp hC HR hlt hal
    go_wp2_with (first
     | (go_at_call 45;(with_reducible refine (impl_pointText.calls p.f0 p.f1 (ptT p) _ (pointText_f HO.out.2)).mono ?_);rintro e w1 ⟨rfl,hb1⟩;have H1:=a0_ (And.intro (Kd.R_below HL.out.1 hb1) (And.intro (HL.out.2.1.trans (hb1.mono HL.out.2.2.2.2.1)) (Nat.le_trans HL.out.2.2.2.2.1 hb1.size)));clear hb1)
     | ((with_reducible refine gate_builtin (b:=.append) (xs:=#[.tmp 15,.tmp 18]) rfl ?_);at_builtin;refine Kd.R_append Kd.string (w0:=w) gb rfl (.tmp 15) (.tmp 18) 39 9 (.string ⟨#[]⟩) 16 rfl Tryz.underlying39 info_string rfl (by decide) (by omega) u3 (ptTs (l.take i)) (ptT p) [.string (ptT p)] (fun _=>True) (fun _=>False) rfl rfl rfl (fun _ hk=>hk.elim) (fun _ _=>trivial) H1.out.1 H1.out.2.1 H1.out.2.2 HL.out.2.2.2.2.2 ?_;intro v2 w2 ho2 hb2 _ _;have H2:=a0_ (And.intro ho2 hb2);clear ho2 hb2))
    obtain⟨_,_,g3,g4,_,_⟩:=HL.out;have hle:i+1≤l.length:=g4;have hw:wrap64 ((i:Int)+1)=(i:Int)+1:=by have:=HK.out.2.2.2.1;unfold wrap64;omega
    have e2:ptTs (l.take i)++[ptT p]=ptTs (l.take (i+1)):=by rw [HO.out.1];unfold ptTs;rw [List.map_append];rfl
    obtain⟨o2,b2⟩:=H2.out;rw [e2] at o2;go_roundg (l.length-(i+1))
    case measure=>omega
    case rel=>exact⟨i+1,by rw [hw];rfl,⟨rfl,hle,b2,o2⟩⟩
   ·
    obtain rfl:i=l.length:=by omega
    have hd:decide ((l.length:Int)<(l.length:Int))=false:=decide_eq_false (by omega);obtain⟨_,_,h3,h4⟩:=HR.out;rw [List.take_length] at h4;have hln:(ptTs l).length=l.length:=by unfold ptTs;rw [List.length_map]
    obtain⟨g,cap,hv,_,hlt2,_⟩:=Kd.R_form h4 (by rw [hln];exact HK.out.2.2.1);rw [hln] at hv;subst hv;obtain⟨_,hcap,hC⟩:=Kd.R_reads' h4;have hcells:∀ (j:Nat) x,(ptTs l)[j]?=some x→wr.cell? ⟨g,0+j,none⟩=some (.string x):=by
     obtain⟨ad,ha,hc⟩:=(Kd.reads_of_C (d:=(⟨#[]⟩:ByteArray)) hC).2.2 (by rw [hln];exact HK.out.2.2.1);injection ha with ha;subst ha;intro j x hj;have hj2:j<(ptTs l).length:=(List.getElem?_eq_some_iff.1 hj).1;have:=hc j hj2;rw [List.getD_eq_getElem?_getD,hj] at this;rw [add_at] at this;exact this
    have hjl:(Go.Lib.join ((ptTs l).map (·.data.toList)) [32]).length≤140737488355328:=by
     rw [join_ptTs]
     cases hl:l with
     | nil=>have:=HK.out.2.2.1;rw [hl] at this;simp at this
     | cons p ps =>
      rw [List.map_cons,Txt.loop_len,List.length_map];have:=HK.out.2.2.2.1;rw [hl,List.length_cons] at this;omega
    have HJ:=a0_ (And.intro hcells (And.intro hlt2 (And.intro hcap (And.intro hjl (And.intro h3 hln)))));clear hcells hlt2 hcap hjl h3 h4 hC hlt hi HR hln;go_wp2_with (go_at_call 46;(with_reducible refine (join_told (ptTs l) HJ.out.1 HJ.out.2.1 (by first | exact HK.out.2.2.2.1 | (rw [HJ.out.2.2.2.2.2];exact HK.out.2.2.2.1)) (by rw [HJ.out.2.2.2.2.2];exact HJ.out.2.2.1) HJ.out.2.2.2.1 (by first | exact HJ.out.2.2.2.2.2 | rfl)).mono ?_);rintro e w3 ⟨rfl,hb3⟩;have H3:=Aside0.mk hb3;clear hb3);go_ret;refine⟨?_,HB.out.1▸(HJ.out.2.2.2.2.1.trans (H3.out.mono (by have:=HJ.out.2.2.2.2.1.size;have:=HB.out.1;omega)))⟩;rw [join_ptTs];rfl
 ·
  rw [if_neg hp] at h;cases h
end Go.Proofs.YtailkppkjhkjpaaGreatDoor.X
end
section
set_option linter.unusedVariables false
set_option linter.unusedSimpArgs false
namespace Go.Proofs.YtailkppkjhkjpaaGreatDoor.X
open Go.RowKit Go.Shelf Go.Proofs.YtailkppkjhkjpaaGreatDoorW.PrintWords Go.Proofs.YtailkppkjhkjpaaGreatDoorW.PrintLast Go.Proofs.YtailkppkjhkjpaaGreatDoorW.PrintMore
open Mort (ptOk loopOk)
open Txt (wrLoop wrLines)
theorem builder_below {T e:TypeId}{B b:Nat}{p:Value}{bs:List Value}{w w':World}(h:Lib.BuilderAtF T e B b p bs w)(hb:Below w.heap.size w w'):Lib.BuilderAtF T e B b p bs w':=by
 obtain⟨h1,v,h2,⟨h3,h4⟩,h5⟩:=h;refine⟨h1,v,blk_below h2 hb,⟨h3,?_⟩,h5⟩
 rcases h4 with h4 | ⟨g,cap,cur,fz,e1,e2,e3,e4⟩
 ·
  exact .inl h4
 ·
  exact .inr ⟨g,cap,cur,fz,e1,e2,blk_below e3 hb,e4⟩
theorem isBuilder_below {T e:TypeId}{B b:Nat}{bs:List Value}{w w':World}(h:Lib.IsBuilderF T e B b bs w)(hb:Below w.heap.size w w'):Lib.IsBuilderF T e B b bs w':=
 h.elim (fun k=>.inl (builder_below k hb)) (fun k=>.inr (builder_below k hb))
theorem isBuilder_used {T e:TypeId}{B b:Nat}{bs:List Value}{w:World}(h:Lib.BuilderAtF T e B b (.pointer (some ⟨b,0,none⟩)) bs w):Lib.IsBuilderF T e B b bs w:=Or.inr h
def linesOf (ls:List (List S70)):List UInt8:=wrLines (ls.map (List.map ptP))
theorem linesOf_snoc (ls:List (List S70))(z:List S70):linesOf (ls++[z])=linesOf ls++(textOf z).data.toList++[10]:=by
 unfold linesOf wrLines textOf;simp
theorem textOf_len {z:List S70}(h0:0<z.length)(h8:z.length≤8):(textOf z).size≤31:=by
 unfold textOf
 show (wrLoop (z.map ptP)).toArray.size≤31
 cases z with
 | nil=>simp at h0
 | cons p ps =>
  rw [List.map_cons,List.size_toArray,Txt.loop_len,List.length_map];rw [List.length_cons] at h8;omega
def impl_PlateText.f (l0_0:List S70)(l0_1:List (List S70)):Option ByteArray:=some (if bodyOkB l0_0 l0_1 then ⟨(linesOf (l0_0::l0_1)).toArray⟩ else ⟨#[]⟩)
theorem loop_ptOk {l:List Mort.Pt}(h:loopOk l=true):∀ p∈l,ptOk p=true:=by
 intro p hp;rw [← Mort.edges_fst l] at hp;obtain⟨e,he,rfl⟩:=List.mem_map.1 hp;exact ((Mort.segOk_iff _).1 (((Mort.loopOk_iff _).1 h).2.2.1 e he)).1
theorem lines_len:∀ (ls:List (List S70)),(∀ z∈ls,0<z.length∧z.length≤8)→(linesOf ls).length≤32*ls.length
 | [],_=>by simp [linesOf,wrLines]
 | z::ls,h=>by
  have ih:=lines_len ls (fun y hy=>h y (List.mem_cons_of_mem _ hy));have hz:=textOf_len (h z (by simp)).1 (h z (by simp)).2;have e:linesOf (z::ls)=(textOf z).data.toList++[10]++linesOf ls:=by simp [linesOf,wrLines,textOf]
  rw [e];have e2:(textOf z).data.toList.length=(textOf z).size:=by rw [Array.length_toList];rfl
  simp only [List.length_append,List.length_cons,List.length_nil];omega
theorem loop_pts {z:List S70}(h:loopOk (z.map ptP)=true):impl_pointsText.f z=some (textOf z):=by
 have hl:=loop_len h;unfold impl_pointsText.f;rw [if_pos];rw [Bool.and_eq_true,Bool.and_eq_true,decide_eq_true_eq,decide_eq_true_eq];refine⟨⟨by omega,by omega⟩,?_⟩;unfold allPts;rw [List.all_eq_true];intro p hp;exact loop_ptOk h _ (List.mem_map_of_mem hp)
set_option maxHeartbeats 4000000 in
set_option maxRecDepth 100000 in
theorem impl_PlateText.calls (A0_0:Option Addr)(c0_0:Nat)(l0_0:List S70)(A0_1:Option Addr)(c0_1:Nat)(l0_1:List (List S70))(r:ByteArray)(w:World)(hr0_0:Kd.C k70 w A0_0 l0_0.length l0_0)(hc0_0:l0_0.length≤c0_0)(hr0_1:Kd.C (Kd.slice 70 k70) w A0_1 l0_1.length l0_1)(hc0_1:l0_1.length≤c0_1)(h:impl_PlateText.f l0_0 l0_1=some r):
  Calls Tryz.prog 9 #[.agg #[.slice A0_0 l0_0.length c0_0,.slice A0_1 l0_1.length c0_1]] w fun e w'=>e=.returned (.string r)∧Below w.heap.size w w':=by
 have hu26:=Tryz.underlying27;have hb:(if bodyOkB l0_0 l0_1 then (⟨(linesOf (l0_0::l0_1)).toArray⟩:ByteArray) else ⟨#[]⟩)=r:=Option.some.inj h;clear h;have hal:=below_alloc (Below.refl w.heap.size w) (.cells #[.slice A0_0 l0_0.length c0_0,.slice A0_1 l0_1.length c0_1] 27);have HK:=a0_ (And.intro (Kd.C_below hr0_0 hal) (And.intro hc0_0 (And.intro (Kd.C_below hr0_1 hal) (And.intro hc0_1 hal))));clear hr0_0 hc0_0 hr0_1 hc0_1 hal
 cases hk:bodyOkB l0_0 l0_1 with
 | false =>
  rw [hk,if_neg (by decide)] at hb;subst hb;have HB:=Aside0.mk hk;clear hk;go_enter Tryz.func9,Tryz.ntmps9;go_wp2_with (go_at_call 23;refine (bodyOf_calls A0_0 c0_0 l0_0 A0_1 c0_1 l0_1 false _ HK.out.1 HK.out.2.1 HK.out.2.2.1 HK.out.2.2.2.1 HB.out).mono ?_;rintro e w1 ⟨_,hN⟩;obtain⟨rfl,hb1⟩:=hN rfl);go_ret;exact⟨rfl,below_step HK.out.2.2.2.2 hb1⟩
 | true =>
  rw [hk,if_pos rfl] at hb;have HB:=a0_ (And.intro hk hb);clear hk hb;go_enter Tryz.func9,Tryz.ntmps9;go_wp2_with (go_at_call 23;refine (bodyOf_calls A0_0 c0_0 l0_0 A0_1 c0_1 l0_1 true _ HK.out.1 HK.out.2.1 HK.out.2.2.1 HK.out.2.2.2.1 HB.out.1).mono ?_;rintro e w1 ⟨hN,_⟩;obtain⟨b,bs,v,rfl,hBA,hcell,hR,hb1⟩:=hN rfl;have HBA:=a0_ (And.intro hBA hb1);clear hBA hR hcell hb1);clear hN;have hg0:=Lib.IsBuilderF.of (Lib.fresh_isBuilder 52 5 w1);have hRG:RingsAt w1 (some ⟨b,0,none⟩) (l0_0::l0_1):=by
   obtain⟨A1,c1,h1⟩:=HBA.out.1.outer;exact⟨b,A1,c1,_,rfl,h1,HBA.out.1.holes.at _ 0 rfl⟩
  have hB1:=below_alloc (Below.refl _ w1) (.cells #[.pointer none,.slice none 0 0] 52);have hlp:∀ z∈l0_0::l0_1,loopOk (z.map ptP)=true:=by
   obtain⟨_,h1,h2,_⟩:=(bodyOkB_iff _ _).1 HB.out.1;intro z hz
   rcases List.mem_cons.1 hz with rfl | hz
   ·
    exact h1
   ·
    exact h2 z hz
  have hln:l0_1.length≤2:=((bodyOkB_iff _ _).1 HB.out.1).1;obtain⟨g,hg⟩:∃ g,w1.heap.size=g:=⟨_,rfl⟩;rw [hg] at hg0;have HG:=a0_ (And.intro hg (And.intro hg0 (And.intro hRG (And.intro hB1 (And.intro hlp hln)))));rw [hg];clear hg hg0 hRG hB1 hlp hln;generalize w1.alloc (.cells #[.pointer none,.slice none 0 0] 52)=W1 at *;go_loopg [6] (l0_0::l0_1).length (fun kq v6 wr=>∃ (p:Option Addr) (rest done:List (List S70)),v6=.pointer p∧Aside0 (kq=rest.length∧RingsAt w1 p rest∧done++rest=l0_0::l0_1∧Lib.IsBuilderF 52 5 g g (Lib.byteCells (linesOf done)) wr∧Below w1.heap.size w1 wr))
  case atStart=>exact⟨_,l0_0::l0_1,[],rfl,⟨rfl,HG.out.2.2.1,rfl,HG.out.2.1,HG.out.2.2.2.1⟩⟩
  case round =>
   obtain⟨p,rest,done,rfl,HR⟩:=hrel;have hsz:g≤wr.heap.size:=by have:=HR.out.2.2.2.2.size;have:=HG.out.1;omega
   cases rest with
   | nil =>
    obtain rfl:p=none:=HR.out.2.1;have hd:done=l0_0::l0_1:=by have:=HR.out.2.2.1;rwa [List.append_nil] at this
    have HD:=a0_ (And.intro hd hsz);clear hd hsz;go_wp2_with (go_at_call 27;(with_reducible refine (Tryz.Builder_String_any_k g g (linesOf done) _ HR.out.2.2.2.1 HD.out.2).mono ?_);rintro e w3 ⟨rfl,_,hb3,_⟩;have H3:=Aside0.mk hb3;clear hb3);go_ret;refine⟨?_,below_step HK.out.2.2.2.2 (below_step HBA.out.2 (HR.out.2.2.2.2.trans (HG.out.1.symm▸H3.out)))⟩;rw [HD.out.1,HB.out.2];rfl
   | cons z rest =>
    obtain⟨b1,A1,c1,n1,rfl,hz,hrest⟩:=HR.out.2.1;have z1:=pw_cell_below HR.out.2.2.2.2 hz.pts;have z2:=pw_cell_below HR.out.2.2.2.2 hz.nxt;have hu55:=Tryz.underlying55;have hzo:=HG.out.2.2.2.2.1 z (by rw [← HR.out.2.2.1];simp);have hlz:=loop_len hzo;have hdl:done.length+rest.length+1≤3:=by
     have:=congrArg List.length HR.out.2.2.1;have h2:=HG.out.2.2.2.2.2;simp only [List.length_append,List.length_cons] at this;omega
    have hdn:(Lib.byteCells (linesOf done)).length≤96:=by
     rw [Lib.byteCells_length];refine Nat.le_trans (lines_len done (fun y hy=>?_)) (by omega);have:=loop_len (HG.out.2.2.2.2.1 y (by rw [← HR.out.2.2.1];simp [hy]));omega
    have htl:=textOf_len (z:=z) (by omega) hlz.2;have hl3:(Lib.byteCells (linesOf done)++Lib.strCells (textOf z)).length+1≤140737488355328:=by
     have e2:(textOf z).data.toList.length=(textOf z).size:=by rw [Array.length_toList];rfl
     rw [List.length_append,Lib.strCells_eq,Lib.byteCells_length (textOf z).data.toList,e2];omega
    have HL3:=Aside0.mk hl3;have HZ5:=Aside0.mk HR.out.2.2.2.2.size;have HZ:=a0_ (And.intro hz (And.intro hrest (And.intro hzo (And.intro hdn (And.intro htl hsz)))));clear hz hrest hzo hlz hdl hdn htl hsz hl3
    go_wp2_with (first
     | (go_at_call 25;(with_reducible refine (impl_pointsText.calls A1 c1 z (textOf z) _ (HZ.out.1.later HR.out.2.2.2.2).row (HZ.out.1.later HR.out.2.2.2.2).cap (loop_pts HZ.out.2.2.1)).mono ?_);rintro e w2 ⟨rfl,hb2⟩;have H2:=Aside0.mk hb2;clear hb2)
     | (go_at_call 24;(with_reducible refine (Tryz.Builder_WriteString_k g g _ (textOf z) _ (isBuilder_below HR.out.2.2.2.1 H2.out) (by have:=HZ.out.2.2.2.1;have:=HZ.out.2.2.2.2.1;omega) (Nat.le_trans HZ.out.2.2.2.2.2 H2.out.size)).mono ?_);rintro e w3 ⟨rfl,hB3,hb3,_⟩;have H3:=a0_ (And.intro hB3 hb3);clear hB3 hb3)
     | (go_at_call 26;(with_reducible refine (Tryz.Builder_WriteByte_k g g _ 10 _ (isBuilder_used H3.out.1) HL3.out (Nat.le_trans (Nat.le_trans HZ.out.2.2.2.2.2 H2.out.size) H3.out.2.size)).mono ?_);rintro e w4 ⟨rfl,hB4,hb4,_⟩;have q4:Below w1.heap.size w1 w4:=HR.out.2.2.2.2.trans ((H2.out.mono HZ5.out).trans (by rw [HG.out.1];exact H3.out.2.trans hb4));have z3:=pw_cell_below q4 HZ.out.1.nxt;have H4:=a0_ (And.intro hB4 q4);clear q4;clear hB4 hb4))
    obtain⟨r1,_,r3,_,_⟩:=HR.out;obtain⟨hB4,q4⟩:=H4.out;have e4:Lib.byteCells (linesOf done)++Lib.strCells (textOf z)++[.int .u8 10]=Lib.byteCells (linesOf (done++[z])):=by
     rw [linesOf_snoc,Lib.byteCells_append,Lib.byteCells_append,Lib.strCells_eq];rfl
    rw [e4] at hB4;go_roundg rest.length
    case measure=>rw [r1];simp
    case rel=>exact⟨n1,rest,done++[z],rfl,⟨rfl,HZ.out.2.1,by rw [List.append_assoc];exact r3,isBuilder_used hB4,q4⟩⟩
end Go.Proofs.YtailkppkjhkjpaaGreatDoor.X
end
section
namespace Go.Proofs.YtailkppkjhkjpaaGreatDoor.X
open Go.RowKit Go.Proofs.YtailkppkjhkjpaaGreatDoorW.PrintWords Go.Proofs.YtailkppkjhkjpaaGreatDoorW.PrintLast Go.Proofs.YtailkppkjhkjpaaGreatDoorW.PrintMore
attribute [local go_sem] max2_int min2_int max_two min_two max_three min_three max_four min_four
set_option linter.unusedVariables false
set_option linter.unusedSimpArgs false
def laws_FnPlateStrict.j0:Nat→ByteArray→Bool→Bool→Bool→List (S70)→List (List (S70))→List (S70)→List (List (S70))→Option (Bool)
 | 0,_,_,_,_,_,_,_,_=>none
 | k+1,x3,x5,x7,x35,x525000,x525001,x533000,x533001=>if x35=true then (if (x7==x5)=true then ((laws_luPlates.f k x533000 x533001 x525000 x525001).bind fun t534=>(some t534)) else (some false)) else ((impl_PlateOk.f x533000 x533001).bind fun t535=>(if t535=true then ((impl_PlateText.f x533000 x533001).bind fun t536=>(some (t536.toList==x3.toList))) else (some false)))
def laws_FnPlateStrict.f (k:Nat)(l0:List Int):Option (Bool):=if (l0.length:Int)>1048576 then (some true) else ((spec_DrawPlateRead.f k l0).bind fun t516=>((spec_PlateRead.f k t516).bind fun bt517=>((impl_PlateRead.f k t516).bind fun bt525=>(if (bt525.2.2 != bt517.2.2)=true then (laws_FnPlateStrict.j0 k t516 bt517.2.2 bt525.2.2 true bt517.1 bt517.2.1 bt525.1 bt525.2.1) else ((laws_luPlates.f k bt525.1 bt525.2.1 bt517.1 bt517.2.1).bind fun t533=>(if t533=true then (laws_FnPlateStrict.j0 k t516 bt517.2.2 bt525.2.2 (!bt525.2.2) bt517.1 bt517.2.1 bt525.1 bt525.2.1) else (laws_FnPlateStrict.j0 k t516 bt517.2.2 bt525.2.2 true bt517.1 bt517.2.1 bt525.1 bt525.2.1)))))))
set_option maxHeartbeats 8000000 in
set_option maxRecDepth 100000 in
theorem laws_FnPlateStrict.calls (k:Nat)(A0:Option Addr)(c0:Nat)(l0:List Int)(r:Bool)(w:World)(hr0:Kd.C (Kd.int .u8) w A0 l0.length l0)(hc0:l0.length≤c0)(h:laws_FnPlateStrict.f k l0=some r):
  Calls Tryz.prog 3 #[.slice A0 l0.length c0] w fun e w'=>e=.returned (.bool r)∧Below w.heap.size w w':=by
 have hu27:=Tryz.underlying27;have HR0:=Aside0.mk hr0;have HC0:=Aside0.mk hc0;clear hr0 hc0;have HB:=a0_ (Below.refl w.heap.size w);have H:(if (l0.length:Int)>1048576 then (some true) else ((spec_DrawPlateRead.f k l0).bind fun t516=>((spec_PlateRead.f k t516).bind fun bt517=>((impl_PlateRead.f k t516).bind fun bt525=>(if (bt525.2.2 != bt517.2.2)=true then (laws_FnPlateStrict.j0 k t516 bt517.2.2 bt525.2.2 true bt517.1 bt517.2.1 bt525.1 bt525.2.1) else ((laws_luPlates.f k bt525.1 bt525.2.1 bt517.1 bt517.2.1).bind fun t533=>(if t533=true then (laws_FnPlateStrict.j0 k t516 bt517.2.2 bt525.2.2 (!bt525.2.2) bt517.1 bt517.2.1 bt525.1 bt525.2.1) else (laws_FnPlateStrict.j0 k t516 bt517.2.2 bt525.2.2 true bt517.1 bt517.2.1 bt525.1 bt525.2.1))))))))=some r:=h;clear h;by_cases c2:(l0.length:Int)>1048576
 ·
  rw [if_pos c2] at H;have c2b0:decide (1048576<(l0.length:Int))=true:=decide_eq_true c2;have c2b1:decide (1048576<l0.length)=true:=decide_eq_true (by omega);clear c2;obtain rfl:=Option.some.inj H;go_enter Tryz.func3,Tryz.ntmps3;go_wp2;go_ret;exact⟨rr_,hB_⟩
 ·
  rw [if_neg c2] at H;have c2b0:decide (1048576<(l0.length:Int))=false:=decide_eq_false c2;have c2b1:decide (1048576<l0.length)=false:=decide_eq_false (by omega);clear c2;replace H:=Option.bind_eq_some_iff.mp H;obtain⟨t516,A30,H⟩:=H
  (try dsimp only at H)
  have A3:=Aside0.mk A30;clear A30;replace H:=Option.bind_eq_some_iff.mp H;obtain⟨⟨t517,t520,t523⟩,A40,H⟩:=H
  (try dsimp only at H)
  have A4:=Aside0.mk A40;clear A40;replace H:=Option.bind_eq_some_iff.mp H;obtain⟨⟨t525,t528,t531⟩,A50,H⟩:=H
  (try dsimp only at H)
  have A5:=Aside0.mk A50;clear A50;have HC6:=Aside0.mk H;clear H;go_enter Tryz.func3,Tryz.ntmps3
  go_upto_region 6 with (first | ((with_reducible refine gate_callee (f:=4) rfl ?_);refine gL_ (some 12) Tryz.func4 #[.slice A0 l0.length c0] (h:=?_);(with_reducible refine (spec_DrawPlateRead.calls k _ _ l0 t516 _ ?side1 ?side2 A3.out).mono ?_);(case side1=>repeat (first | exact HR0.out | (with_reducible refine Kd.C_alloc ?_ _) | (with_reducible refine Kd.C_drewN ?_ _) | (with_reducible refine Kd.C_drew ?_)));(case side2=>exact HC0.out);rintro e w7 ⟨rfl,hb⟩;refine⟨_,rfl,?_⟩;replace HB:=sb_ HB hb;(try clear hb)) | ((with_reducible refine gate_callee (f:=5) rfl ?_);refine gL_ (some 15) Tryz.func5 #[.string t516] (h:=?_);(with_reducible refine (spec_PlateRead.calls k t516 t517 t520 t523 _ A4.out).mono ?_);rintro e w8 ⟨v518,v521,rfl,ho0,ho1,hb⟩;refine⟨_,rfl,?_⟩;have HO519:=a0_ (Kd.R_lower ho0 (below_size hB_));have HO522:=a0_ (Kd.S_lower ho1 (below_size hB_));replace HB:=sb_ HB hb;(try clear ho0 ho1 hb)) | ((with_reducible refine gate_dst (N:=4) rfl ?_);refine bx_ (N:=4) (cs:=#[.slice none 0 0,.slice none 0 0]) (t:=27) (h:=?_);intro gb524 hg w9 hbox hb;have BK524:=a0_ (hbox);have GW524:=gh_ HB hg;have GE524:=gh_ HB hg;replace HO519:=rb_ HO519 hb;replace HO522:=a0_ (Kd.S_below (by (with_reducible repeat (first | apply Kd.S_alloc | apply Kd.S_drewN | apply Kd.S_drew));exact HO522.out) hb);replace HB:=sb_ HB hb;clear hb hbox hg;obtain⟨Ao10,co10,eo10⟩:=Kd.R_slice HO519.out;subst eo10;have hcz11_0:=c20_ BK524;have hcz11_1:=c21_ BK524;have hfz11_0:=fz_ BK524 0;have hfz11_1:=fz_ BK524 1;obtain⟨Ao12,co12,eo12⟩:=Kd.S_slice HO522.out;subst eo12) | ((with_reducible refine gate_callee (f:=6) rfl ?_);refine gL_ (some 20) Tryz.func6 #[.string t516] (h:=?_);(with_reducible refine (impl_PlateRead.calls k t516 t525 t528 t531 _ A5.out).mono ?_);rintro e w13 ⟨v526,v529,rfl,ho0,ho1,hb⟩;refine⟨_,rfl,?_⟩;have HO527:=a0_ (Kd.R_lower (Kd.R_new' ho0 (Kd.R_lt (by (with_reducible repeat (first | apply Kd.R_alloc | apply Kd.R_drewN | apply Kd.R_drew));exact (Kd.R_mono (Kd.R_far (p:=⟨gb524,1,none⟩) (Kd.R_far (p:=⟨gb524,0,none⟩) (Kd.R_types HO519.out BK524.out (by decide)) (fun _ hk=>hk.2) (.slice Ao10 t517.length co10)) (fun _ hk=>hk.2) (.slice Ao12 t520.length co12)) (fun _ h_=>h_.1))))) (below_size hB_));have HO530:=a0_ (Kd.S_lower (Kd.S_new' (Kd.S_new' ho1 (Kd.R_lt (by (with_reducible repeat (first | apply Kd.R_alloc | apply Kd.R_drewN | apply Kd.R_drew));exact (Kd.R_mono (Kd.R_far (p:=⟨gb524,1,none⟩) (Kd.R_far (p:=⟨gb524,0,none⟩) (Kd.R_types HO519.out BK524.out (by decide)) (fun _ hk=>hk.2) (.slice Ao10 t517.length co10)) (fun _ hk=>hk.2) (.slice Ao12 t520.length co12)) (fun _ h_=>h_.1))))) (Kd.S_lt (by (with_reducible repeat (first | apply Kd.S_alloc | apply Kd.S_drewN | apply Kd.S_drew));exact (Kd.S_mono (Kd.S_far (p:=⟨gb524,1,none⟩) (Kd.S_far (p:=⟨gb524,0,none⟩) (Kd.S_types HO522.out BK524.out (by decide)) (fun _ hk=>hk.2) (.slice Ao10 t517.length co10)) (fun _ hk=>hk.2) (.slice Ao12 t520.length co12)) (fun _ h_=>h_.1))))) (below_size hB_));replace HO519:=a0_ (Kd.R_elder' (by (with_reducible repeat (first | apply Kd.R_alloc | apply Kd.R_drewN | apply Kd.R_drew));exact (Kd.R_mono (Kd.R_far (p:=⟨gb524,1,none⟩) (Kd.R_far (p:=⟨gb524,0,none⟩) (Kd.R_types HO519.out BK524.out (by decide)) (fun _ hk=>hk.2) (.slice Ao10 t517.length co10)) (fun _ hk=>hk.2) (.slice Ao12 t520.length co12)) (fun _ h_=>h_.1))) (Kd.R_base ho0) hb);replace HO522:=a0_ (Kd.S_mono (Kd.S_told (Kd.S_told (Kd.S_old (by (with_reducible repeat (first | apply Kd.S_alloc | apply Kd.S_drewN | apply Kd.S_drew));exact (Kd.S_mono (Kd.S_far (p:=⟨gb524,1,none⟩) (Kd.S_far (p:=⟨gb524,0,none⟩) (Kd.S_types HO522.out BK524.out (by decide)) (fun _ hk=>hk.2) (.slice Ao10 t517.length co10)) (fun _ hk=>hk.2) (.slice Ao12 t520.length co12)) (fun _ h_=>h_.1))) hb) (Kd.R_base ho0)) (Kd.S_base ho1)) (fun _ h_=>h_.1));replace BK524:=a0_ (blk_below (g:=gb524) (o:=.cells #[.slice Ao10 t517.length co10,.slice Ao12 t520.length co12] 27 (0,0)) (by (with_reducible repeat (first | refine blk_drewN ?_ _ | refine blk_drew ?_ | refine blk_alloc ?_ _));refine blk_put (cs:=#[.slice Ao10 t517.length co10,.slice none 0 0]) ?_ 1 _ rfl;(with_reducible repeat (first | refine blk_drewN ?_ _ | refine blk_drew ?_ | refine blk_alloc ?_ _));refine blk_put (cs:=#[.slice none 0 0,.slice none 0 0]) ?_ 0 _ rfl;(with_reducible repeat (first | refine blk_drewN ?_ _ | refine blk_drew ?_ | refine blk_alloc ?_ _));exact BK524.out) hb);replace HB:=sb_ HB hb;(try clear ho0 ho1 hb)) | ((with_reducible refine gate_dst (N:=6) rfl ?_);refine bx_ (N:=6) (cs:=#[.slice none 0 0,.slice none 0 0]) (t:=27) (h:=?_);intro gb532 hg w14 hbox hb;have BK532:=a0_ (hbox);have GW532:=gh_ HB hg;have GE532:=gh_ HB hg;have NB524_532:=nl_ BK524 hg;have NB532_524:=nr_ BK524 hg;replace HO519:=rb_ HO519 hb;replace HO522:=a0_ (Kd.S_below (by (with_reducible repeat (first | apply Kd.S_alloc | apply Kd.S_drewN | apply Kd.S_drew));exact HO522.out) hb);replace HO527:=rb_ HO527 hb;replace HO530:=a0_ (Kd.S_below (by (with_reducible repeat (first | apply Kd.S_alloc | apply Kd.S_drewN | apply Kd.S_drew));exact HO530.out) hb);replace BK524:=vb_ BK524 hb;replace HB:=sb_ HB hb;clear hb hbox hg;obtain⟨Ao15,co15,eo15⟩:=Kd.R_slice HO527.out;subst eo15;have hnb16:=NB532_524.out;have hnc16:=NB524_532.out;have hcz17_0:=c20_ BK532;have hcz17_1:=c21_ BK532;have hfz17_0:=fz_ BK532 0;have hfz17_1:=fz_ BK532 1;obtain⟨Ao18,co18,eo18⟩:=Kd.S_slice HO530.out;subst eo18))
  (try simp only [Act.put,List.setIfInBounds_toArray,List.set_cons_zero,List.set_cons_succ])
  go_cut [35] (fun v35 wc=>∃ (kq:Nat) (x35_5:Bool),v35=.bool x35_5∧Aside0 (laws_FnPlateStrict.j0 kq t516 t523 t531 x35_5 t517 t520 t525 t528=some r)∧Aside0 (kq≤k)∧Aside0 (Kd.R k70 70 wc w.heap.size (fun k_=>some k_≠((.slice Ao15 t525.length co15):Value).ownBlock) (.slice Ao10 t517.length co10) t517)∧Aside0 (Kd.S (Kd.slice 70 k70) 24 wc w.heap.size (fun k_=>some k_≠((.slice Ao10 t517.length co10):Value).ownBlock∧some k_≠((.slice Ao15 t525.length co15):Value).ownBlock∧some k_≠((.slice Ao18 t528.length co18):Value).ownBlock) (.slice Ao12 t520.length co12) t520)∧Aside0 (Kd.R k70 70 wc w.heap.size (fun k_=>some k_≠((.slice Ao10 t517.length co10):Value).ownBlock) (.slice Ao15 t525.length co15) t525)∧Aside0 (Kd.S (Kd.slice 70 k70) 24 wc w.heap.size (fun k_=>some k_≠((.slice Ao10 t517.length co10):Value).ownBlock∧some k_≠((.slice Ao12 t520.length co12):Value).ownBlock∧some k_≠((.slice Ao15 t525.length co15):Value).ownBlock) (.slice Ao18 t528.length co18) t528)∧Aside0 (wc.heap[gb524]?=some (.cells #[(.slice Ao10 t517.length co10),(.slice Ao12 t520.length co12)] 27 (0,0)))∧Aside0 (wc.heap[gb532]?=some (.cells #[(.slice Ao15 t525.length co15),(.slice Ao18 t528.length co18)] 27 (0,0)))∧Aside0 (Below w.heap.size w wc))
  case first =>
   have H:=HC6.out;clear HC6;by_cases c19:(t531 != t523)=true
   ·
    rw [if_pos c19] at H;have c19b0:(t531 != t523)=true:=c19
    (try (have c19b1:decide (t531=t523)=false:=by simpa using c19))
    (try (have c19b2:(t531==t523)=false:=by simpa using c19))
    (try (have c19b3:¬ (t531=t523):=by simpa using c19))
    clear c19
    (first | rw [c19b0] | (simp only [i64_w,i32_w];rw [c19b0]) | skip)
    have H':=Aside0.mk H;clear H;go_wp2;go_meet
    case rel=>exact⟨_,(true),(by first | rfl | (simp;done) | (simp [*];done)),H',⟨by first | omega | exact Nat.le_refl _⟩,⟨by (with_reducible repeat (first | apply Kd.R_alloc | apply Kd.R_drewN | apply Kd.R_drew));exact Kd.R_mono (Kd.R_far (p:=⟨gb532,1,none⟩) (Kd.R_far (p:=⟨gb532,0,none⟩) (Kd.R_types HO519.out BK532.out (by decide)) (fun _ hk=>hk.2) (.slice Ao15 t525.length co15)) (fun _ hk=>hk.2) (.slice Ao18 t528.length co18)) (fun _ hk=>hk.1.2)⟩,⟨by (with_reducible repeat (first | apply Kd.S_alloc | apply Kd.S_drewN | apply Kd.S_drew));exact Kd.S_mono (Kd.S_far (p:=⟨gb532,1,none⟩) (Kd.S_far (p:=⟨gb532,0,none⟩) (Kd.S_types HO522.out BK532.out (by decide)) (fun _ hk=>hk.2) (.slice Ao15 t525.length co15)) (fun _ hk=>hk.2) (.slice Ao18 t528.length co18)) (fun _ hk=>⟨hk.1.1.1,⟨hk.1.1.2,hk.1.2⟩⟩)⟩,⟨by (with_reducible repeat (first | apply Kd.R_alloc | apply Kd.R_drewN | apply Kd.R_drew));exact Kd.R_mono (Kd.R_far (p:=⟨gb532,1,none⟩) (Kd.R_far (p:=⟨gb532,0,none⟩) (Kd.R_types HO527.out BK532.out (by decide)) (fun _ hk=>hk.2) (.slice Ao15 t525.length co15)) (fun _ hk=>hk.2) (.slice Ao18 t528.length co18)) (fun _ hk=>hk.1.2)⟩,⟨by (with_reducible repeat (first | apply Kd.S_alloc | apply Kd.S_drewN | apply Kd.S_drew));exact Kd.S_mono (Kd.S_far (p:=⟨gb532,1,none⟩) (Kd.S_far (p:=⟨gb532,0,none⟩) (Kd.S_types HO530.out BK532.out (by decide)) (fun _ hk=>hk.2) (.slice Ao15 t525.length co15)) (fun _ hk=>hk.2) (.slice Ao18 t528.length co18)) (fun _ hk=>⟨hk.1.1.2,⟨hk.1.2,hk.1.1.1⟩⟩)⟩,⟨by (with_reducible repeat (first | refine blk_drewN ?_ _ | refine blk_drew ?_ | refine blk_alloc ?_ _));refine blk_far ?_ NB524_532.out _;(with_reducible repeat (first | refine blk_drewN ?_ _ | refine blk_drew ?_ | refine blk_alloc ?_ _));refine blk_far ?_ NB524_532.out _;(with_reducible repeat (first | refine blk_drewN ?_ _ | refine blk_drew ?_ | refine blk_alloc ?_ _));exact BK524.out⟩,⟨by (with_reducible repeat (first | refine blk_drewN ?_ _ | refine blk_drew ?_ | refine blk_alloc ?_ _));refine blk_put (cs:=#[.slice Ao15 t525.length co15,.slice none 0 0]) ?_ 1 _ rfl;(with_reducible repeat (first | refine blk_drewN ?_ _ | refine blk_drew ?_ | refine blk_alloc ?_ _));refine blk_put (cs:=#[.slice none 0 0,.slice none 0 0]) ?_ 0 _ rfl;(with_reducible repeat (first | refine blk_drewN ?_ _ | refine blk_drew ?_ | refine blk_alloc ?_ _));exact BK532.out⟩,⟨hB_⟩⟩
   ·
    rw [if_neg c19] at H;have c19b0:(t531 != t523)=false:=by simpa using c19
    (try (have c19b1:decide (t531=t523)=true:=by simpa using c19))
    (try (have c19b2:(t531==t523)=true:=by simpa using c19))
    clear c19
    (first | rw [c19b0] | (simp only [i64_w,i32_w];rw [c19b0]) | skip)
    replace H:=Option.bind_eq_some_iff.mp H;obtain⟨t533,A200,H⟩:=H
    (try dsimp only at H)
    have A20:=Aside0.mk A200;clear A200;by_cases c21:t533=true
    ·
     subst c21;rw [if_pos rfl] at H
     (try dsimp only at H)
     have H':=Aside0.mk H;clear H;have hnb22:=NB532_524.out;have hnc22:=NB524_532.out;have hcz23_0:=c20_ BK532;have hcz23_1:=c21_ BK532;have hfz23_0:=fz_ BK532 0;have hfz23_1:=fz_ BK532 1;have hcz24_0:=c20_ BK524;have hcz24_1:=c21_ BK524;have hfz24_0:=fz_ BK524 0;have hfz24_1:=fz_ BK524 1
     go_wp2_with (first | (go_at_call 7;(with_reducible refine (laws_luPlates.calls k _ _ t525 _ _ t528 _ _ t517 _ _ t520 true _ ?side1 ?side2 ?side3 ?side4 ?side5 ?side6 ?side7 ?side8 A20.out).mono ?_);(case side1=>refine (Kd.R_reads' (e:=70) (base:=w.heap.size) (ok:=fun k_=>(True∧some k_≠(.slice Ao10 t517.length co10:Value).ownBlock)) (n:=t525.length) (c:=co15) ?_).2.2;exact (by (with_reducible repeat (first | apply Kd.R_alloc | apply Kd.R_drewN | apply Kd.R_drew));exact (Kd.R_mono (Kd.R_far (p:=⟨gb532,1,none⟩) (Kd.R_far (p:=⟨gb532,0,none⟩) (Kd.R_types HO527.out BK532.out (by decide)) (fun _ hk=>hk.2) (.slice Ao15 t525.length co15)) (fun _ hk=>hk.2) (.slice Ao18 t528.length co18)) (fun _ h_=>h_.1))));(case side2=>exact (Kd.R_reads' HO527.out).2.1);(case side3=>refine (Kd.S_reads' (e:=24) (base:=w.heap.size) (ok:=fun k_=>((some k_≠(.slice Ao15 t525.length co15:Value).ownBlock∧some k_≠(.slice Ao10 t517.length co10:Value).ownBlock)∧some k_≠(.slice Ao12 t520.length co12:Value).ownBlock)) (n:=t528.length) (c:=co18) ?_).2.2;exact (by (with_reducible repeat (first | apply Kd.S_alloc | apply Kd.S_drewN | apply Kd.S_drew));exact (Kd.S_mono (Kd.S_far (p:=⟨gb532,1,none⟩) (Kd.S_far (p:=⟨gb532,0,none⟩) (Kd.S_types HO530.out BK532.out (by decide)) (fun _ hk=>hk.2) (.slice Ao15 t525.length co15)) (fun _ hk=>hk.2) (.slice Ao18 t528.length co18)) (fun _ h_=>h_.1))));(case side4=>exact (Kd.S_reads' HO530.out).2.1);(case side5=>refine (Kd.R_reads' (e:=70) (base:=w.heap.size) (ok:=fun k_=>(True∧some k_≠(.slice Ao15 t525.length co15:Value).ownBlock)) (n:=t517.length) (c:=co10) ?_).2.2;exact (by (with_reducible repeat (first | apply Kd.R_alloc | apply Kd.R_drewN | apply Kd.R_drew));exact (Kd.R_mono (Kd.R_far (p:=⟨gb532,1,none⟩) (Kd.R_far (p:=⟨gb532,0,none⟩) (Kd.R_types HO519.out BK532.out (by decide)) (fun _ hk=>hk.2) (.slice Ao15 t525.length co15)) (fun _ hk=>hk.2) (.slice Ao18 t528.length co18)) (fun _ h_=>h_.1))));(case side6=>exact (Kd.R_reads' HO519.out).2.1);(case side7=>refine (Kd.S_reads' (e:=24) (base:=w.heap.size) (ok:=fun k_=>((some k_≠(.slice Ao10 t517.length co10:Value).ownBlock∧some k_≠(.slice Ao15 t525.length co15:Value).ownBlock)∧some k_≠(.slice Ao18 t528.length co18:Value).ownBlock)) (n:=t520.length) (c:=co12) ?_).2.2;exact (by (with_reducible repeat (first | apply Kd.S_alloc | apply Kd.S_drewN | apply Kd.S_drew));exact (Kd.S_mono (Kd.S_far (p:=⟨gb532,1,none⟩) (Kd.S_far (p:=⟨gb532,0,none⟩) (Kd.S_types HO522.out BK532.out (by decide)) (fun _ hk=>hk.2) (.slice Ao15 t525.length co15)) (fun _ hk=>hk.2) (.slice Ao18 t528.length co18)) (fun _ h_=>h_.1))));(case side8=>exact (Kd.S_reads' HO522.out).2.1);rintro e w25 ⟨rfl,hb⟩;replace HO519:=a0_ (Kd.R_below (by (with_reducible repeat (first | apply Kd.R_alloc | apply Kd.R_drewN | apply Kd.R_drew));exact (Kd.R_mono (Kd.R_far (p:=⟨gb532,1,none⟩) (Kd.R_far (p:=⟨gb532,0,none⟩) (Kd.R_types HO519.out BK532.out (by decide)) (fun _ hk=>hk.2) (.slice Ao15 t525.length co15)) (fun _ hk=>hk.2) (.slice Ao18 t528.length co18)) (fun _ h_=>h_.1))) hb);replace HO522:=a0_ (Kd.S_below (by (with_reducible repeat (first | apply Kd.S_alloc | apply Kd.S_drewN | apply Kd.S_drew));exact (Kd.S_mono (Kd.S_far (p:=⟨gb532,1,none⟩) (Kd.S_far (p:=⟨gb532,0,none⟩) (Kd.S_types HO522.out BK532.out (by decide)) (fun _ hk=>hk.2) (.slice Ao15 t525.length co15)) (fun _ hk=>hk.2) (.slice Ao18 t528.length co18)) (fun _ h_=>h_.1))) hb);replace HO527:=a0_ (Kd.R_below (by (with_reducible repeat (first | apply Kd.R_alloc | apply Kd.R_drewN | apply Kd.R_drew));exact (Kd.R_mono (Kd.R_far (p:=⟨gb532,1,none⟩) (Kd.R_far (p:=⟨gb532,0,none⟩) (Kd.R_types HO527.out BK532.out (by decide)) (fun _ hk=>hk.2) (.slice Ao15 t525.length co15)) (fun _ hk=>hk.2) (.slice Ao18 t528.length co18)) (fun _ h_=>h_.1))) hb);replace HO530:=a0_ (Kd.S_below (by (with_reducible repeat (first | apply Kd.S_alloc | apply Kd.S_drewN | apply Kd.S_drew));exact (Kd.S_mono (Kd.S_far (p:=⟨gb532,1,none⟩) (Kd.S_far (p:=⟨gb532,0,none⟩) (Kd.S_types HO530.out BK532.out (by decide)) (fun _ hk=>hk.2) (.slice Ao15 t525.length co15)) (fun _ hk=>hk.2) (.slice Ao18 t528.length co18)) (fun _ h_=>h_.1))) hb);replace BK524:=a0_ (blk_below (g:=gb524) (o:=.cells #[.slice Ao10 t517.length co10,.slice Ao12 t520.length co12] 27 (0,0)) uf_ hb);replace BK532:=a0_ (blk_below (g:=gb532) (o:=.cells #[.slice Ao15 t525.length co15,.slice Ao18 t528.length co18] 27 (0,0)) (by (with_reducible repeat (first | refine blk_drewN ?_ _ | refine blk_drew ?_ | refine blk_alloc ?_ _));refine blk_put (cs:=#[.slice Ao15 t525.length co15,.slice none 0 0]) ?_ 1 _ rfl;(with_reducible repeat (first | refine blk_drewN ?_ _ | refine blk_drew ?_ | refine blk_alloc ?_ _));refine blk_put (cs:=#[.slice none 0 0,.slice none 0 0]) ?_ 0 _ rfl;(with_reducible repeat (first | refine blk_drewN ?_ _ | refine blk_drew ?_ | refine blk_alloc ?_ _));exact BK532.out) hb);replace HB:=sb_ HB hb;(try clear hb)))
     go_meet
     case rel=>exact⟨_,(!t531),(by first | rfl | (simp;done) | (simp [*];done)),H',⟨by first | omega | exact Nat.le_refl _⟩,⟨by (with_reducible repeat (first | apply Kd.R_alloc | apply Kd.R_drewN | apply Kd.R_drew));exact Kd.R_mono HO519.out (fun _ hk=>hk.2)⟩,⟨by (with_reducible repeat (first | apply Kd.S_alloc | apply Kd.S_drewN | apply Kd.S_drew));exact Kd.S_mono HO522.out (fun _ hk=>⟨hk.1.1,⟨hk.1.2,hk.2⟩⟩)⟩,⟨by (with_reducible repeat (first | apply Kd.R_alloc | apply Kd.R_drewN | apply Kd.R_drew));exact Kd.R_mono HO527.out (fun _ hk=>hk.2)⟩,⟨by (with_reducible repeat (first | apply Kd.S_alloc | apply Kd.S_drewN | apply Kd.S_drew));exact Kd.S_mono HO530.out (fun _ hk=>⟨hk.1.2,⟨hk.2,hk.1.1⟩⟩)⟩,⟨uq_⟩,⟨uq_⟩,⟨hB_⟩⟩
    ·
     replace c21:=Bool.eq_false_iff.mpr c21;subst c21;rw [if_neg (show ¬ (false=true) by decide)] at H
     (try dsimp only at H)
     have H':=Aside0.mk H;clear H;have hnb26:=NB532_524.out;have hnc26:=NB524_532.out;have hcz27_0:=c20_ BK532;have hcz27_1:=c21_ BK532;have hfz27_0:=fz_ BK532 0;have hfz27_1:=fz_ BK532 1;have hcz28_0:=c20_ BK524;have hcz28_1:=c21_ BK524;have hfz28_0:=fz_ BK524 0;have hfz28_1:=fz_ BK524 1
     go_wp2_with (first | (go_at_call 7;(with_reducible refine (laws_luPlates.calls k _ _ t525 _ _ t528 _ _ t517 _ _ t520 false _ ?side1 ?side2 ?side3 ?side4 ?side5 ?side6 ?side7 ?side8 A20.out).mono ?_);(case side1=>refine (Kd.R_reads' (e:=70) (base:=w.heap.size) (ok:=fun k_=>(True∧some k_≠(.slice Ao10 t517.length co10:Value).ownBlock)) (n:=t525.length) (c:=co15) ?_).2.2;exact (by (with_reducible repeat (first | apply Kd.R_alloc | apply Kd.R_drewN | apply Kd.R_drew));exact (Kd.R_mono (Kd.R_far (p:=⟨gb532,1,none⟩) (Kd.R_far (p:=⟨gb532,0,none⟩) (Kd.R_types HO527.out BK532.out (by decide)) (fun _ hk=>hk.2) (.slice Ao15 t525.length co15)) (fun _ hk=>hk.2) (.slice Ao18 t528.length co18)) (fun _ h_=>h_.1))));(case side2=>exact (Kd.R_reads' HO527.out).2.1);(case side3=>refine (Kd.S_reads' (e:=24) (base:=w.heap.size) (ok:=fun k_=>((some k_≠(.slice Ao15 t525.length co15:Value).ownBlock∧some k_≠(.slice Ao10 t517.length co10:Value).ownBlock)∧some k_≠(.slice Ao12 t520.length co12:Value).ownBlock)) (n:=t528.length) (c:=co18) ?_).2.2;exact (by (with_reducible repeat (first | apply Kd.S_alloc | apply Kd.S_drewN | apply Kd.S_drew));exact (Kd.S_mono (Kd.S_far (p:=⟨gb532,1,none⟩) (Kd.S_far (p:=⟨gb532,0,none⟩) (Kd.S_types HO530.out BK532.out (by decide)) (fun _ hk=>hk.2) (.slice Ao15 t525.length co15)) (fun _ hk=>hk.2) (.slice Ao18 t528.length co18)) (fun _ h_=>h_.1))));(case side4=>exact (Kd.S_reads' HO530.out).2.1);(case side5=>refine (Kd.R_reads' (e:=70) (base:=w.heap.size) (ok:=fun k_=>(True∧some k_≠(.slice Ao15 t525.length co15:Value).ownBlock)) (n:=t517.length) (c:=co10) ?_).2.2;exact (by (with_reducible repeat (first | apply Kd.R_alloc | apply Kd.R_drewN | apply Kd.R_drew));exact (Kd.R_mono (Kd.R_far (p:=⟨gb532,1,none⟩) (Kd.R_far (p:=⟨gb532,0,none⟩) (Kd.R_types HO519.out BK532.out (by decide)) (fun _ hk=>hk.2) (.slice Ao15 t525.length co15)) (fun _ hk=>hk.2) (.slice Ao18 t528.length co18)) (fun _ h_=>h_.1))));(case side6=>exact (Kd.R_reads' HO519.out).2.1);(case side7=>refine (Kd.S_reads' (e:=24) (base:=w.heap.size) (ok:=fun k_=>((some k_≠(.slice Ao10 t517.length co10:Value).ownBlock∧some k_≠(.slice Ao15 t525.length co15:Value).ownBlock)∧some k_≠(.slice Ao18 t528.length co18:Value).ownBlock)) (n:=t520.length) (c:=co12) ?_).2.2;exact (by (with_reducible repeat (first | apply Kd.S_alloc | apply Kd.S_drewN | apply Kd.S_drew));exact (Kd.S_mono (Kd.S_far (p:=⟨gb532,1,none⟩) (Kd.S_far (p:=⟨gb532,0,none⟩) (Kd.S_types HO522.out BK532.out (by decide)) (fun _ hk=>hk.2) (.slice Ao15 t525.length co15)) (fun _ hk=>hk.2) (.slice Ao18 t528.length co18)) (fun _ h_=>h_.1))));(case side8=>exact (Kd.S_reads' HO522.out).2.1);rintro e w29 ⟨rfl,hb⟩;replace HO519:=a0_ (Kd.R_below (by (with_reducible repeat (first | apply Kd.R_alloc | apply Kd.R_drewN | apply Kd.R_drew));exact (Kd.R_mono (Kd.R_far (p:=⟨gb532,1,none⟩) (Kd.R_far (p:=⟨gb532,0,none⟩) (Kd.R_types HO519.out BK532.out (by decide)) (fun _ hk=>hk.2) (.slice Ao15 t525.length co15)) (fun _ hk=>hk.2) (.slice Ao18 t528.length co18)) (fun _ h_=>h_.1))) hb);replace HO522:=a0_ (Kd.S_below (by (with_reducible repeat (first | apply Kd.S_alloc | apply Kd.S_drewN | apply Kd.S_drew));exact (Kd.S_mono (Kd.S_far (p:=⟨gb532,1,none⟩) (Kd.S_far (p:=⟨gb532,0,none⟩) (Kd.S_types HO522.out BK532.out (by decide)) (fun _ hk=>hk.2) (.slice Ao15 t525.length co15)) (fun _ hk=>hk.2) (.slice Ao18 t528.length co18)) (fun _ h_=>h_.1))) hb);replace HO527:=a0_ (Kd.R_below (by (with_reducible repeat (first | apply Kd.R_alloc | apply Kd.R_drewN | apply Kd.R_drew));exact (Kd.R_mono (Kd.R_far (p:=⟨gb532,1,none⟩) (Kd.R_far (p:=⟨gb532,0,none⟩) (Kd.R_types HO527.out BK532.out (by decide)) (fun _ hk=>hk.2) (.slice Ao15 t525.length co15)) (fun _ hk=>hk.2) (.slice Ao18 t528.length co18)) (fun _ h_=>h_.1))) hb);replace HO530:=a0_ (Kd.S_below (by (with_reducible repeat (first | apply Kd.S_alloc | apply Kd.S_drewN | apply Kd.S_drew));exact (Kd.S_mono (Kd.S_far (p:=⟨gb532,1,none⟩) (Kd.S_far (p:=⟨gb532,0,none⟩) (Kd.S_types HO530.out BK532.out (by decide)) (fun _ hk=>hk.2) (.slice Ao15 t525.length co15)) (fun _ hk=>hk.2) (.slice Ao18 t528.length co18)) (fun _ h_=>h_.1))) hb);replace BK524:=a0_ (blk_below (g:=gb524) (o:=.cells #[.slice Ao10 t517.length co10,.slice Ao12 t520.length co12] 27 (0,0)) uf_ hb);replace BK532:=a0_ (blk_below (g:=gb532) (o:=.cells #[.slice Ao15 t525.length co15,.slice Ao18 t528.length co18] 27 (0,0)) (by (with_reducible repeat (first | refine blk_drewN ?_ _ | refine blk_drew ?_ | refine blk_alloc ?_ _));refine blk_put (cs:=#[.slice Ao15 t525.length co15,.slice none 0 0]) ?_ 1 _ rfl;(with_reducible repeat (first | refine blk_drewN ?_ _ | refine blk_drew ?_ | refine blk_alloc ?_ _));refine blk_put (cs:=#[.slice none 0 0,.slice none 0 0]) ?_ 0 _ rfl;(with_reducible repeat (first | refine blk_drewN ?_ _ | refine blk_drew ?_ | refine blk_alloc ?_ _));exact BK532.out) hb);replace HB:=sb_ HB hb;(try clear hb)))
     go_meet
     case rel=>exact⟨_,(true),(by first | rfl | (simp;done) | (simp [*];done)),H',⟨by first | omega | exact Nat.le_refl _⟩,⟨by (with_reducible repeat (first | apply Kd.R_alloc | apply Kd.R_drewN | apply Kd.R_drew));exact Kd.R_mono HO519.out (fun _ hk=>hk.2)⟩,⟨by (with_reducible repeat (first | apply Kd.S_alloc | apply Kd.S_drewN | apply Kd.S_drew));exact Kd.S_mono HO522.out (fun _ hk=>⟨hk.1.1,⟨hk.1.2,hk.2⟩⟩)⟩,⟨by (with_reducible repeat (first | apply Kd.R_alloc | apply Kd.R_drewN | apply Kd.R_drew));exact Kd.R_mono HO527.out (fun _ hk=>hk.2)⟩,⟨by (with_reducible repeat (first | apply Kd.S_alloc | apply Kd.S_drewN | apply Kd.S_drew));exact Kd.S_mono HO530.out (fun _ hk=>⟨hk.1.2,⟨hk.2,hk.1.1⟩⟩)⟩,⟨uq_⟩,⟨uq_⟩,⟨hB_⟩⟩
  case rest =>
   clear HC6;obtain⟨kq,x35_5,rfl,HA,HJ5,HO_525000,HO_525001,HO_533000,HO_533001,BK524,BK532,HB⟩:=hcut
   cases kq with
   | zero=>exact absurd HA.out (by simp [laws_FnPlateStrict.j0])
   | succ kj5 =>
    have H:=HA.out;clear HA;simp only [laws_FnPlateStrict.j0] at H;by_cases c30:x35_5=true
    ·
     subst c30;rw [if_pos rfl] at H
     (try dsimp only at H)
     by_cases c31:(t531==t523)=true
     ·
      rw [if_pos c31] at H;have c31b0:(t531==t523)=true:=c31
      (try (have c31b1:decide (t531=t523)=true:=by simpa using c31))
      (try (have c31b2:(t531==t523)=true:=by simpa using c31))
      clear c31;replace H:=Option.bind_eq_some_iff.mp H;obtain⟨t534,A320,H⟩:=H
      (try dsimp only at H)
      have A32:=Aside0.mk A320;clear A320;obtain rfl:=Option.some.inj H;have hnb33:=NB532_524.out;have hnc33:=NB524_532.out;have hcz34_0:=c20_ BK532;have hcz34_1:=c21_ BK532;have hfz34_0:=fz_ BK532 0;have hfz34_1:=fz_ BK532 1;have hcz35_0:=c20_ BK524;have hcz35_1:=c21_ BK524;have hfz35_0:=fz_ BK524 0;have hfz35_1:=fz_ BK524 1
      go_wp2_with (first | (go_at_call 7;(with_reducible refine (laws_luPlates.calls kj5 _ _ t525 _ _ t528 _ _ t517 _ _ t520 t534 _ ?side1 ?side2 ?side3 ?side4 ?side5 ?side6 ?side7 ?side8 A32.out).mono ?_);(case side1=>repeat (first | exact (Kd.R_reads' HO_533000.out).2.2 | (with_reducible refine Kd.C_alloc ?_ _) | (with_reducible refine Kd.C_drewN ?_ _) | (with_reducible refine Kd.C_drew ?_)));(case side2=>exact (Kd.R_reads' HO_533000.out).2.1);(case side3=>repeat (first | exact (Kd.S_reads' HO_533001.out).2.2 | (with_reducible refine Kd.C_alloc ?_ _) | (with_reducible refine Kd.C_drewN ?_ _) | (with_reducible refine Kd.C_drew ?_)));(case side4=>exact (Kd.S_reads' HO_533001.out).2.1);(case side5=>repeat (first | exact (Kd.R_reads' HO_525000.out).2.2 | (with_reducible refine Kd.C_alloc ?_ _) | (with_reducible refine Kd.C_drewN ?_ _) | (with_reducible refine Kd.C_drew ?_)));(case side6=>exact (Kd.R_reads' HO_525000.out).2.1);(case side7=>repeat (first | exact (Kd.S_reads' HO_525001.out).2.2 | (with_reducible refine Kd.C_alloc ?_ _) | (with_reducible refine Kd.C_drewN ?_ _) | (with_reducible refine Kd.C_drew ?_)));(case side8=>exact (Kd.S_reads' HO_525001.out).2.1);rintro e w36 ⟨rfl,hb⟩;replace HO_525000:=rb_ HO_525000 hb;replace HO_525001:=a0_ (Kd.S_below (by (with_reducible repeat (first | apply Kd.S_alloc | apply Kd.S_drewN | apply Kd.S_drew));exact HO_525001.out) hb);replace HO_533000:=rb_ HO_533000 hb;replace HO_533001:=a0_ (Kd.S_below (by (with_reducible repeat (first | apply Kd.S_alloc | apply Kd.S_drewN | apply Kd.S_drew));exact HO_533001.out) hb);replace BK524:=vb_ BK524 hb;replace BK532:=vb_ BK532 hb;replace HB:=sb_ HB hb;(try clear hb)));go_ret;exact⟨rr_,hB_⟩
     ·
      rw [if_neg c31] at H;have c31b0:(t531==t523)=false:=by simpa using c31
      (try (have c31b1:decide (t531=t523)=false:=by simpa using c31))
      (try (have c31b2:(t531==t523)=false:=by simpa using c31))
      (try (have c31b3:¬ (t531=t523):=by simpa using c31))
      clear c31;obtain rfl:=Option.some.inj H;go_wp2;go_ret;exact⟨rr_,hB_⟩
    ·
     replace c30:=Bool.eq_false_iff.mpr c30;subst c30;rw [if_neg (show ¬ (false=true) by decide)] at H
     (try dsimp only at H)
     replace H:=Option.bind_eq_some_iff.mp H;obtain⟨t535,A370,H⟩:=H
     (try dsimp only at H)
     have A37:=Aside0.mk A370;clear A370;by_cases c38:t535=true
     ·
      subst c38;rw [if_pos rfl] at H
      (try dsimp only at H)
      replace H:=Option.bind_eq_some_iff.mp H;obtain⟨t536,A390,H⟩:=H
      (try dsimp only at H)
      have A39:=Aside0.mk A390;clear A390;obtain rfl:=Option.some.inj H;have hnb40:=NB532_524.out;have hnc40:=NB524_532.out;have hcz41_0:=c20_ BK532;have hcz41_1:=c21_ BK532;have hfz41_0:=fz_ BK532 0;have hfz41_1:=fz_ BK532 1
      go_wp2_with (first | ((with_reducible refine gate_callee (f:=8) rfl ?_);refine gL_ (some 45) Tryz.func8 #[.agg #[.slice Ao15 t525.length co15,.slice Ao18 t528.length co18]] (h:=?_);(with_reducible refine (impl_PlateOk.calls _ _ t525 _ _ t528 true _ ?side1 ?side2 ?side3 ?side4 A37.out).mono ?_);(case side1=>repeat (first | exact (Kd.R_reads' HO_533000.out).2.2 | (with_reducible refine Kd.C_alloc ?_ _) | (with_reducible refine Kd.C_drewN ?_ _) | (with_reducible refine Kd.C_drew ?_)));(case side2=>exact (Kd.R_reads' HO_533000.out).2.1);(case side3=>repeat (first | exact (Kd.S_reads' HO_533001.out).2.2 | (with_reducible refine Kd.C_alloc ?_ _) | (with_reducible refine Kd.C_drewN ?_ _) | (with_reducible refine Kd.C_drew ?_)));(case side4=>exact (Kd.S_reads' HO_533001.out).2.1);rintro e w42 ⟨rfl,hb⟩;refine⟨_,rfl,?_⟩;replace HO_525000:=rb_ HO_525000 hb;replace HO_525001:=a0_ (Kd.S_below (by (with_reducible repeat (first | apply Kd.S_alloc | apply Kd.S_drewN | apply Kd.S_drew));exact HO_525001.out) hb);replace HO_533000:=rb_ HO_533000 hb;replace HO_533001:=a0_ (Kd.S_below (by (with_reducible repeat (first | apply Kd.S_alloc | apply Kd.S_drewN | apply Kd.S_drew));exact HO_533001.out) hb);replace BK524:=vb_ BK524 hb;replace BK532:=vb_ BK532 hb;replace HB:=sb_ HB hb;(try clear hb);have hcz43_0:=c20_ BK532;have hcz43_1:=c21_ BK532;have hfz43_0:=fz_ BK532 0;have hfz43_1:=fz_ BK532 1) | (go_at_call 9;(with_reducible refine (impl_PlateText.calls _ _ t525 _ _ t528 t536 _ ?side1 ?side2 ?side3 ?side4 A39.out).mono ?_);(case side1=>repeat (first | exact (Kd.R_reads' HO_533000.out).2.2 | (with_reducible refine Kd.C_alloc ?_ _) | (with_reducible refine Kd.C_drewN ?_ _) | (with_reducible refine Kd.C_drew ?_)));(case side2=>exact (Kd.R_reads' HO_533000.out).2.1);(case side3=>repeat (first | exact (Kd.S_reads' HO_533001.out).2.2 | (with_reducible refine Kd.C_alloc ?_ _) | (with_reducible refine Kd.C_drewN ?_ _) | (with_reducible refine Kd.C_drew ?_)));(case side4=>exact (Kd.S_reads' HO_533001.out).2.1);rintro e w44 ⟨rfl,hb⟩;replace HO_525000:=rb_ HO_525000 hb;replace HO_525001:=a0_ (Kd.S_below (by (with_reducible repeat (first | apply Kd.S_alloc | apply Kd.S_drewN | apply Kd.S_drew));exact HO_525001.out) hb);replace HO_533000:=rb_ HO_533000 hb;replace HO_533001:=a0_ (Kd.S_below (by (with_reducible repeat (first | apply Kd.S_alloc | apply Kd.S_drewN | apply Kd.S_drew));exact HO_533001.out) hb);replace BK524:=vb_ BK524 hb;replace BK532:=vb_ BK532 hb;replace HB:=sb_ HB hb;(try clear hb)))
      go_ret;exact⟨rr_,hB_⟩
     ·
      replace c38:=Bool.eq_false_iff.mpr c38;subst c38;rw [if_neg (show ¬ (false=true) by decide)] at H
      (try dsimp only at H)
      obtain rfl:=Option.some.inj H;have hnb45:=NB532_524.out;have hnc45:=NB524_532.out;have hcz46_0:=c20_ BK532;have hcz46_1:=c21_ BK532;have hfz46_0:=fz_ BK532 0;have hfz46_1:=fz_ BK532 1;go_wp2_with (first | ((with_reducible refine gate_callee (f:=8) rfl ?_);refine gL_ (some 45) Tryz.func8 #[.agg #[.slice Ao15 t525.length co15,.slice Ao18 t528.length co18]] (h:=?_);(with_reducible refine (impl_PlateOk.calls _ _ t525 _ _ t528 false _ ?side1 ?side2 ?side3 ?side4 A37.out).mono ?_);(case side1=>repeat (first | exact (Kd.R_reads' HO_533000.out).2.2 | (with_reducible refine Kd.C_alloc ?_ _) | (with_reducible refine Kd.C_drewN ?_ _) | (with_reducible refine Kd.C_drew ?_)));(case side2=>exact (Kd.R_reads' HO_533000.out).2.1);(case side3=>repeat (first | exact (Kd.S_reads' HO_533001.out).2.2 | (with_reducible refine Kd.C_alloc ?_ _) | (with_reducible refine Kd.C_drewN ?_ _) | (with_reducible refine Kd.C_drew ?_)));(case side4=>exact (Kd.S_reads' HO_533001.out).2.1);rintro e w47 ⟨rfl,hb⟩;refine⟨_,rfl,?_⟩;replace HO_525000:=rb_ HO_525000 hb;replace HO_525001:=a0_ (Kd.S_below (by (with_reducible repeat (first | apply Kd.S_alloc | apply Kd.S_drewN | apply Kd.S_drew));exact HO_525001.out) hb);replace HO_533000:=rb_ HO_533000 hb;replace HO_533001:=a0_ (Kd.S_below (by (with_reducible repeat (first | apply Kd.S_alloc | apply Kd.S_drewN | apply Kd.S_drew));exact HO_533001.out) hb);replace BK524:=vb_ BK524 hb;replace BK532:=vb_ BK532 hb;replace HB:=sb_ HB hb;(try clear hb)));go_ret;exact⟨rr_,hB_⟩
def laws_FnPlateStrict.Pure:Prop:=∀ (l0:List Int),l0.length≤maxLen→l0.length*1≤140737488351232→(∀ x∈l0,(Lit.int .u8 x).wf=true)→∃ k,laws_FnPlateStrict.f k l0=some true
theorem laws_FnPlateStrict.walk (P:laws_FnPlateStrict.Pure)(a0:Option Addr)(len0 cap0:Nat)(z0:List Int)(w:World)(w0:(a0=none∧len0=0∧cap0=0∧z0=[])∨∃ x,a0=some x∧len0≤cap0∧cap0≤maxLen∧z0.length=cap0∧(∀ i,i<z0.length→w.cell? (x.add i)=some (.int .u8 (z0.getD i 0)))∧∀ n∈z0,(Lit.int .u8 n).wf=true)(y0:len0*1≤140737488351232):
  Calls Tryz.prog 3 #[.slice a0 len0 cap0] w fun e w'=>e=.returned (.bool true)∧Below w.heap.size w w':=by
 obtain⟨l0,rfl,hr0,hm0,hw0,hc0⟩:=ReadsInt.ofRowC w0;obtain⟨k,h⟩:=P l0 hm0 y0 hw0;refine (laws_FnPlateStrict.calls k _ _ l0 true w (Kd.C_of_reads (d:=(0:Int)) (h1:=fun _=>rfl) hr0) hc0 h).mono ?_;rintro e w' ⟨rfl,hd⟩;exact⟨rfl,hd⟩
end Go.Proofs.YtailkppkjhkjpaaGreatDoor.X
end
section
set_option linter.unusedVariables false
set_option linter.unusedSimpArgs false
namespace Go.Proofs.YtailkppkjhkjpaaGreatDoor.X
open Go.RowKit Go.Proofs.YtailkppkjhkjpaaGreatDoorW.PrintWords Go.Proofs.YtailkppkjhkjpaaGreatDoorW.PrintLast Go.Proofs.YtailkppkjhkjpaaGreatDoorW.PrintMore
open Mort (edges loopOk ptOk segOk has meet ed pairOk joined apartB)
theorem rd_es (z:List S70){i:Nat}(h:i<z.length):rd_T83 (esOf z) (i:Int)=edS z i:=esOf_getD z h
theorem seg_ends {s:S83}(h:segOk (sgP s)=true):ptOk (s.f0.f0,s.f0.f1)=true∧ptOk (s.f1.f0,s.f1.f1)=true:=⟨((Mort.segOk_iff _).1 h).1,((Mort.segOk_iff _).1 h).2.1⟩
theorem sHasS {s:S83}{x y:Int}(h:segOk (sgP s)=true)(hp:ptOk (x,y)=true):spec_l2Has.f s.f0.f0 s.f0.f1 s.f1.f0 s.f1.f1 x y=some (has (sgP s) (x,y)):=sHas (seg_ends h).1 (seg_ends h).2 hp
theorem sMeetS {s t:S83}(h:segOk (sgP s)=true)(h':segOk (sgP t)=true):spec_l2Meet.f s.f0.f0 s.f0.f1 s.f1.f0 s.f1.f1 t.f0.f0 t.f0.f1 t.f1.f0 t.f1.f1=some (meet (sgP s) (sgP t)):=sMeet (seg_ends h).1 (seg_ends h).2 (seg_ends h').1 (seg_ends h').2
theorem succ64 {i:Nat}(h:i≤100000):wrap64 ((i:Int)+1)=((i+1:Nat):Int):=by rw [w64i (by omega) (by omega)];rfl
def rowJ (l:List Mort.Pt)(i j:Nat):Bool:=decide ((j+1) % l.length=i) || !meet (ed l i) (ed l j)
def rowI (l:List Mort.Pt)(i:Nat):Bool:=joined (ed l i) (ed l ((i+1) % l.length)) && (List.range' (i+2) (l.length-(i+2))).all (rowJ l i)
section
variable (z:List S70) (h8:z.length≤8) (hall:∀ i,i<z.length→segOk (sgP (edS z i))=true)
include h8 hall
theorem loop_l2 (i:Nat)(hi:i<z.length)(R:Bool)(K:Nat)(hR:∀ k,K≤k→spec_LoopOk.l1 k (z.length:Int) (esOf z) ((i+1:Nat):Int)=some R):
  ∀ (m j k:Nat),z.length-j=m→j≤10→K+m+1≤k→spec_LoopOk.l2 k (z.length:Int) (esOf z) (i:Int) (j:Int)=some ((List.range' j m).all (rowJ (z.map ptP) i) && R):=by
 intro m
 induction m with
 | zero =>
  intro j k hm hj hk;obtain⟨k,rfl⟩:∃ q,k=q+1:=⟨k-1,by omega⟩;simp only [spec_LoopOk.l2];rw [if_neg (by omega),succ64 (by omega),hR k (by omega)];simp
 | succ m ih =>
  intro j k hm hj hk;obtain⟨k,rfl⟩:∃ q,k=q+1:=⟨k-1,by omega⟩;simp only [spec_LoopOk.l2];rw [if_pos (by omega),if_neg (by omega),succ64 (by omega)];have ht:Int.tmod ((j+1:Nat):Int) (z.length:Int)=(((j+1) % z.length:Nat):Int):=rfl;rw [ht,List.range'_succ,List.all_cons];by_cases hq:(j+1) % z.length=i
  ·
   rw [if_pos (by omega),ih (j+1) k (by omega) (by omega) (by omega)];have:rowJ (z.map ptP) i j=true:=by unfold rowJ;rw [List.length_map,decide_eq_true hq];rfl
   rw [this,Bool.true_and]
  ·
   rw [if_neg (by omega),if_pos (by omega),if_pos (by rw [esOf_len];omega),if_pos (by omega),if_pos (by rw [esOf_len];omega)];rw [rd_es z hi,rd_es z (by omega),sMeetS (hall i hi) (hall j (by omega)),Option.bind_some];have hrow:rowJ (z.map ptP) i j = !meet (sgP (edS z i)) (sgP (edS z j)):=by unfold rowJ;rw [List.length_map,decide_eq_false hq,ed_edS,ed_edS];rfl
   rw [hrow]
   cases hm2:meet (sgP (edS z i)) (sgP (edS z j)) with
   | true=>rw [if_pos rfl];simp
   | false=>rw [if_neg (by decide),ih (j+1) k (by omega) (by omega) (by omega)];simp
theorem loop_l1:∀ (m i k:Nat),z.length-i=m→i≤z.length→m*20+1≤k→spec_LoopOk.l1 k (z.length:Int) (esOf z) (i:Int)=some ((List.range' i m).all (rowI (z.map ptP))):=by
 intro m
 induction m with
 | zero =>
  intro i k hm hi hk;obtain⟨k,rfl⟩:∃ q,k=q+1:=⟨k-1,by omega⟩;simp only [spec_LoopOk.l1];rw [if_neg (by omega)];simp
 | succ m ih =>
  intro i k hm hi hk;obtain⟨k,rfl⟩:∃ q,k=q+2:=⟨k-2,by omega⟩;simp only [spec_LoopOk.l1];have hlt:=Nat.mod_lt (i+1) (show 0<z.length by omega);have ht:Int.tmod ((i+1:Nat):Int) (z.length:Int)=(((i+1) % z.length:Nat):Int):=rfl;rw [if_pos (by omega),if_pos (by omega),if_pos (by rw [esOf_len];omega),if_neg (by omega),succ64 (by omega),ht,if_pos (by omega),if_pos (by rw [esOf_len];omega)];rw [rd_es z (by omega:i<z.length),rd_es z hlt];generalize hq:(i+1) % z.length=q at hlt;have o1:=hall i (by omega);have o2:=hall q hlt;rw [sHasS o1 (seg_ends o2).2,Option.bind_some,sHasS o2 (seg_ends o1).1,Option.bind_some];have hrow:rowI (z.map ptP) i=((!has (sgP (edS z i)) (sgP (edS z q)).2 && !has (sgP (edS z q)) (sgP (edS z i)).1) && (List.range' (i+2) (z.length-(i+2))).all (rowJ (z.map ptP) i)):=by
   unfold rowI joined;rw [List.length_map,hq,ed_edS,ed_edS]
  have e2:(ptP (edS z q).f1)=((edS z q).f1.f0,(edS z q).f1.f1):=rfl;rw [List.range'_succ,List.all_cons,hrow]
  show (if has (sgP (edS z i)) (sgP (edS z q)).2=true then _ else spec_LoopOk.j2 (k+1) _ _ _ (has (sgP (edS z q)) (sgP (edS z i)).1))=_
  cases has (sgP (edS z i)) (sgP (edS z q)).2 with
  | true=>rw [if_pos rfl];simp only [spec_LoopOk.j2];simp
  | false =>
   rw [if_neg (by decide)];simp only [spec_LoopOk.j2]
   cases has (sgP (edS z q)) (sgP (edS z i)).1 with
   | true=>rw [if_pos rfl];simp
   | false =>
    rw [if_neg (by decide)];have hw:wrap64 ((i:Int)+2)=((i+2:Nat):Int):=by rw [w64i (by omega) (by omega)];rfl
    rw [hw,loop_l2 z h8 hall i (by omega) _ (m*20+1) (fun k hk=>ih (i+1) k (by omega) (by omega) hk) (z.length-(i+2)) (i+2) k rfl (by omega) (by omega)];simp
end
theorem loop_l0 (z:List S70)(h8:z.length≤8):∀ (m i k:Nat),z.length-i=m→i≤z.length→m+200≤k→(∀ j,j<i→segOk (sgP (edS z j))=true) →
  spec_LoopOk.l0 k (z.length:Int) (esOf z) (i:Int)=some ((List.range' i m).all (fun j=>segOk (sgP (edS z j))) && (List.range' 0 z.length).all (rowI (z.map ptP))):=by
 intro m
 induction m with
 | zero =>
  intro i k hm hi hk hp;obtain⟨k,rfl⟩:∃ q,k=q+1:=⟨k-1,by omega⟩;simp only [spec_LoopOk.l0];rw [if_neg (by omega),show (0:Int)=((0:Nat):Int) from rfl,loop_l1 z h8 (fun j hj=>hp j (by omega)) z.length 0 k (by omega) (by omega) (by omega)];simp
 | succ m ih =>
  intro i k hm hi hk hp;obtain⟨k,rfl⟩:∃ q,k=q+1:=⟨k-1,by omega⟩;simp only [spec_LoopOk.l0];rw [if_pos (by omega),if_pos (by omega),if_pos (by rw [esOf_len];omega),rd_es z (by omega:i<z.length),sSegOk,Option.bind_some,List.range'_succ,List.all_cons]
  show (if segOk (sgP (edS z i))=true then _ else _)=_
  cases ho:segOk (sgP (edS z i)) with
  | true =>
   rw [if_pos rfl,succ64 (by omega),ih (i+1) k (by omega) (by omega) (by omega) (fun j hj=>by
    by_cases hji:j=i
    ·
     rw [hji];exact ho
    ·
     exact hp j (by omega))]
   simp
  | false=>rw [if_neg (by decide)];simp
theorem rows_pairs (l:List Mort.Pt)(h3:3≤l.length):(List.range' 0 l.length).all (rowI l)=(List.range l.length).all fun i=>(List.range l.length).all fun j=>pairOk l i j:=by
 rw [Bool.eq_iff_iff];simp only [List.all_eq_true,List.mem_range'_1,List.mem_range];constructor
 ·
  intro h i hi j hj;have row:∀ i,i<l.length→joined (ed l i) (ed l ((i+1) % l.length))=true∧∀ j,i+2≤j→j<l.length→rowJ l i j=true:=fun i hi=>by
   have:=h i ⟨by omega,by omega⟩;unfold rowI at this;simp only [Bool.and_eq_true,List.all_eq_true,List.mem_range'_1] at this;exact⟨this.1,fun j h1 h2=>this.2 j ⟨h1,by omega⟩⟩
  unfold pairOk;by_cases h1:j≤i
  ·
   rw [if_pos h1]
  ·
   rw [if_neg h1];by_cases h2:j=i+1
   ·
    rw [if_pos h2];have:=(row i hi).1
    rwa [Nat.mod_eq_of_lt (by omega),← h2] at this
   ·
    rw [if_neg h2];by_cases h4:i=0∧j+1=l.length
    ·
     rw [if_pos h4];have:=(row j hj).1
     rwa [h4.2,Nat.mod_self,← h4.1] at this
    ·
     rw [if_neg h4];have:=(row i hi).2 j (by omega) hj;unfold rowJ at this;have hne:(j+1) % l.length≠i:=by
      intro e;by_cases hj2:j+1<l.length
      ·
       rw [Nat.mod_eq_of_lt hj2] at e;omega
      ·
       have e2:j+1=l.length:=by omega
       rw [e2,Nat.mod_self] at e;exact h4 ⟨e.symm,e2⟩
     rwa [decide_eq_false hne,Bool.false_or] at this
 ·
  intro h i hi;have hi2:i<l.length:=by omega
  unfold rowI;simp only [Bool.and_eq_true,List.all_eq_true,List.mem_range'_1];refine⟨?_,fun j hj=>?_⟩
  ·
   by_cases h1:i+1<l.length
   ·
    have:=h i hi2 (i+1) h1;unfold pairOk at this;rw [if_neg (by omega),if_pos rfl] at this
    rwa [Nat.mod_eq_of_lt h1]
   ·
    have e2:i+1=l.length:=by omega
    have:=h 0 (by omega) i hi2;unfold pairOk at this;rw [if_neg (by omega),if_neg (by omega),if_pos ⟨rfl,e2⟩] at this
    rwa [e2,Nat.mod_self]
  ·
   unfold rowJ;by_cases hq:(j+1) % l.length=i
   ·
    rw [decide_eq_true hq];rfl
   ·
    rw [decide_eq_false hq,Bool.false_or];have:=h i hi2 j (by omega);unfold pairOk at this;rw [if_neg (by omega),if_neg (by omega),if_neg (fun e=>hq (by rw [e.2,Nat.mod_self];exact e.1.symm))] at this;exact this
theorem sLoopOk {k:Nat}(hk:300≤k)(z:List S70):spec_LoopOk.f k z=some (loopOk (z.map ptP)):=by
 unfold spec_LoopOk.f loopOk;rw [l6In_told,Option.bind_some,List.length_map];have e0:(decide (3≤(z.length:Int)) && decide ((z.length:Int)≤8))=(decide (3≤z.length) && decide (z.length≤8)):=by
  congr 1
  ·
   rw [decide_eq_decide];omega
  ·
   rw [decide_eq_decide];omega
 rw [e0];by_cases hn:3≤z.length∧z.length≤8
 ·
  rw [decide_eq_true hn.1,decide_eq_true hn.2,Bool.and_self,if_pos rfl,sEdges (by omega) (by omega),Option.bind_some,Bool.true_and,show (0:Int)=((0:Nat):Int) from rfl,loop_l0 z hn.2 z.length 0 k (by omega) (by omega) (by omega) (fun j hj=>by omega)];have h3:=rows_pairs (z.map ptP) (by rw [List.length_map];exact hn.1);rw [List.length_map] at h3;rw [h3,Mort.edges_eq,List.length_map,List.all_map,List.range_eq_range']
  congr 3
  funext i
  show _=segOk (ed (z.map ptP) i)
  rw [ed_edS]
 ·
  have:(decide (3≤z.length) && decide (z.length≤8))=false:=by
   by_cases h1:3≤z.length
   ·
    rw [decide_eq_false (show ¬ z.length≤8 from fun h2=>hn ⟨h1,h2⟩),Bool.and_false]
   ·
    rw [decide_eq_false h1,Bool.false_and]
  rw [this,if_neg (by decide),Bool.false_and]
theorem ok_facts {z:List S70}(h:loopOk (z.map ptP)=true):3≤z.length∧z.length≤8∧∀ i,i<z.length→segOk (sgP (edS z i))=true:=by
 obtain⟨h1,h2,h3,_⟩:=(Mort.loopOk_iff _).1 h;rw [List.length_map] at h1 h2;refine⟨h1,h2,fun i hi=>?_⟩;have:=h3 _ (Mort.mem_edges.2 ⟨i,by simpa using hi,rfl⟩)
 rwa [ed_edS] at this
theorem apart_l1 (a b:List S70)(ha:loopOk (a.map ptP)=true)(hb:loopOk (b.map ptP)=true)(i:Nat)(hi:i<a.length)(R:Bool)(K:Nat)(hR:∀ k,K≤k→spec_l11Apart.l0 k (esOf a) (esOf b) ((i+1:Nat):Int)=some R):
  ∀ (m j k:Nat),b.length-j=m→j≤b.length→K+m+1≤k→spec_l11Apart.l1 k (esOf a) (esOf b) (i:Int) (j:Int)=some ((List.range' j m).all (fun j => !meet (sgP (edS a i)) (sgP (edS b j))) && R):=by
 obtain⟨a3,a8,aok⟩:=ok_facts ha;obtain⟨b3,b8,bok⟩:=ok_facts hb;intro m
 induction m with
 | zero =>
  intro j k hm hj hk;obtain⟨k,rfl⟩:∃ q,k=q+1:=⟨k-1,by omega⟩;simp only [spec_l11Apart.l1];rw [if_neg (by rw [esOf_len];omega),succ64 (by omega),hR k (by omega)];simp
 | succ m ih =>
  intro j k hm hj hk;obtain⟨k,rfl⟩:∃ q,k=q+1:=⟨k-1,by omega⟩;simp only [spec_l11Apart.l1];rw [if_pos (by rw [esOf_len];omega),if_pos (by omega),if_pos (by rw [esOf_len];omega),if_pos (by omega),rd_es a hi,rd_es b (by omega),sMeetS (aok i hi) (bok j (by omega)),Option.bind_some,List.range'_succ,List.all_cons]
  cases meet (sgP (edS a i)) (sgP (edS b j)) with
  | true=>rw [if_pos rfl];simp
  | false=>rw [if_neg (by decide),succ64 (by omega),ih (j+1) k (by omega) (by omega) (by omega)];simp
theorem apart_l0 (a b:List S70)(ha:loopOk (a.map ptP)=true)(hb:loopOk (b.map ptP)=true):
  ∀ (m i k:Nat),a.length-i=m→i≤a.length→m*20+1≤k→spec_l11Apart.l0 k (esOf a) (esOf b) (i:Int)=some ((List.range' i m).all (fun i=>(List.range' 0 b.length).all (fun j => !meet (sgP (edS a i)) (sgP (edS b j))))):=by
 obtain⟨a3,a8,aok⟩:=ok_facts ha;obtain⟨b3,b8,bok⟩:=ok_facts hb;intro m
 induction m with
 | zero =>
  intro i k hm hi hk;obtain⟨k,rfl⟩:∃ q,k=q+1:=⟨k-1,by omega⟩;simp only [spec_l11Apart.l0];rw [if_neg (by rw [esOf_len];omega)];simp
 | succ m ih =>
  intro i k hm hi hk;obtain⟨k,rfl⟩:∃ q,k=q+1:=⟨k-1,by omega⟩;simp only [spec_l11Apart.l0]
  rw [if_pos (by rw [esOf_len];omega),List.range'_succ,List.all_cons,show (0:Int)=((0:Nat):Int) from rfl,
   apart_l1 a b ha hb i (by omega) _ (m*20+1) (fun k hk=>ih (i+1) k (by omega) (by omega) hk) b.length 0 k (by omega) (by omega) (by omega)]
theorem sApart {k:Nat}(hk:300≤k){a b:List S70}(ha:loopOk (a.map ptP)=true)(hb:loopOk (b.map ptP)=true):spec_l11Apart.f k a b=some (apartB (a.map ptP) (b.map ptP)):=by
 obtain⟨a3,a8,aok⟩:=ok_facts ha;obtain⟨b3,b8,bok⟩:=ok_facts hb;unfold spec_l11Apart.f apartB;rw [sEdges (by omega) (by omega),sEdges (by omega) (by omega),Option.bind_some,Option.bind_some,show (0:Int)=((0:Nat):Int) from rfl,apart_l0 a b ha hb a.length 0 k (by omega) (by omega) (by omega)];rw [Mort.edges_eq (a.map ptP),Mort.edges_eq (b.map ptP),List.length_map,List.length_map,List.all_map,List.range_eq_range']
 congr 2
 funext i
 show _=((List.range b.length).map (ed (b.map ptP))).all _
 rw [List.all_map,List.range_eq_range']
 congr 1
 funext j
 show _ = !meet (ed (a.map ptP) i) (ed (b.map ptP) j)
 rw [ed_edS,ed_edS]
end Go.Proofs.YtailkppkjhkjpaaGreatDoor.X
end
section
set_option linter.unusedVariables false
set_option linter.unusedSimpArgs false
namespace Mort
end Mort
namespace Go.Proofs.YtailkppkjhkjpaaGreatDoor.X
open Go.RowKit Go.Proofs.YtailkppkjhkjpaaGreatDoorW.PrintWords Go.Proofs.YtailkppkjhkjpaaGreatDoorW.PrintLast Go.Proofs.YtailkppkjhkjpaaGreatDoorW.PrintMore
open Mort (edges loopOk ptOk segOk has meet ed pairOk joined apartB plateOk inOf segMeet)
def pl (o:List S70)(H:List (List S70)):Mort.Plate:=(o.map ptP,H.map (List.map ptP))
theorem fst_pt (z:List S70):(z.map ptP).getD 0 (0,0)=fstP z:=ptP_getD z 0
theorem apart_ix (a b:List S70):apartB (a.map ptP) (b.map ptP)=true ↔ ∀ i,i<a.length→∀ j,j<b.length→meet (sgP (edS a i)) (sgP (edS b j))=false:=by
 rw [Mort.apartB_iff];constructor
 ·
  intro h i hi j hj;rw [← ed_edS,← ed_edS];exact h _ (Mort.mem_edges.2 ⟨i,by simpa using hi,rfl⟩) _ (Mort.mem_edges.2 ⟨j,by simpa using hj,rfl⟩)
 ·
  intro h e he f hf;obtain⟨i,hi,rfl⟩:=Mort.mem_edges.1 he;obtain⟨j,hj,rfl⟩:=Mort.mem_edges.1 hf;rw [ed_edS,ed_edS];exact h i (by simpa using hi) j (by simpa using hj)
theorem meetsB_eq {a b:List S70}(ha:loopOk (a.map ptP)=true)(hb:loopOk (b.map ptP)=true):(!meetsB a b)=apartB (a.map ptP) (b.map ptP):=by
 obtain⟨_,_,aok⟩:=ok_facts ha;obtain⟨_,_,bok⟩:=ok_facts hb;rw [Bool.eq_iff_iff,apart_ix];unfold meetsB;rw [Bool.not_eq_true',List.any_eq_false];constructor
 ·
  intro h i hi j hj;have h1:=h ⟨i,hi⟩ (List.mem_finRange _);rw [Bool.not_eq_true,List.any_eq_false] at h1;have h2:=h1 ⟨j,hj⟩ (List.mem_finRange _)
  cases hm:meet (sgP (edS a i)) (sgP (edS b j)) with
  | false=>rfl
  | true=>exact absurd ((Mort.segMeet_iff _ _).2 ⟨aok i hi,bok j hj,hm⟩) h2
 ·
  intro h i _ h1;rw [List.any_eq_true] at h1;obtain⟨j,_,h2⟩:=h1;have:=h i i.2 j j.2;rw [((Mort.segMeet_iff _ _).1 h2).2.2] at this;cases this
theorem iBodyOk (o:List S70)(H:List (List S70)):bodyOkB o H=plateOk (pl o H):=by
 unfold bodyOkB plateOk pl Mort.nested;simp only [List.length_map]
 match H with
 | [] =>
  simp only [List.length_nil,List.all_nil,List.map_nil,apartAll,nestedAll,List.range'_zero,Bool.and_true,Bool.true_and]
 | [a] =>
  simp only [List.length_cons,List.length_nil,List.all_cons,List.all_nil,List.map_cons,List.map_nil,apartAll,nestedAll,List.range'_succ,List.range'_zero,rowN,okN,Bool.and_true,Bool.true_and,fst_pt,inS,List.getD_cons_zero,beq_self_eq_true,Bool.true_or];cases ho:loopOk (o.map ptP) <;> cases ha:loopOk (a.map ptP) <;> try rfl
  rw [meetsB_eq ho ha];simp [Nat.zero_le]
 | [a,b] =>
  simp only [List.length_cons,List.length_nil,List.all_cons,List.all_nil,List.map_cons,List.map_nil,apartAll,nestedAll,List.range'_succ,List.range'_zero,rowN,okN,Bool.and_true,Bool.true_and,fst_pt,inS,List.getD_cons_zero,List.getD_cons_succ,beq_self_eq_true,Bool.true_or];cases ho:loopOk (o.map ptP) <;> cases ha:loopOk (a.map ptP) <;> cases hb:loopOk (b.map ptP) <;> try rfl
  rw [meetsB_eq ho ha,meetsB_eq ho hb,meetsB_eq ha hb];generalize apartB (o.map ptP) (a.map ptP)=t1;generalize apartB (o.map ptP) (b.map ptP)=t2;generalize apartB (a.map ptP) (b.map ptP)=t3;generalize (inOf (o.map ptP) (fstP a)==1)=t4;generalize (inOf (o.map ptP) (fstP b)==1)=t5;generalize (inOf (b.map ptP) (fstP a) == -1)=t6;generalize (inOf (a.map ptP) (fstP b) == -1)=t7;cases t1 <;> cases t2 <;> cases t3 <;> cases t4 <;> cases t5 <;> cases t6 <;> cases t7 <;> rfl
 | a::b::c::r =>
  rw [decide_eq_false (by simp only [List.length_cons];omega)];rfl
end Go.Proofs.YtailkppkjhkjpaaGreatDoor.X
end
section
set_option linter.unusedVariables false
set_option linter.unusedSimpArgs false
namespace Go.Proofs.YtailkppkjhkjpaaGreatDoor.X
open Go.RowKit Go.Proofs.YtailkppkjhkjpaaGreatDoorW.PrintWords Go.Proofs.YtailkppkjhkjpaaGreatDoorW.PrintLast Go.Proofs.YtailkppkjhkjpaaGreatDoorW.PrintMore
open Mort (edges loopOk ptOk segOk has meet ed pairOk joined apartB plateOk inOf segMeet)
theorem fst_ok {z:List S70}(h:loopOk (z.map ptP)=true):ptOk ((rd_T70 z 0).f0,(rd_T70 z 0).f1)=true:=by
 obtain⟨h3,_,hok⟩:=ok_facts h;exact (seg_ends (hok 0 (by omega))).1
theorem sL3In {z:List S70}{x y:Int}(h:loopOk (z.map ptP)=true)(hp:ptOk (x,y)=true):spec_l3In.f z x y=some (inOf (z.map ptP) (x,y)):=by
 unfold spec_l3In.f;rw [if_pos ⟨h,hp⟩]
theorem sL3Fst {z a:List S70}(h:loopOk (z.map ptP)=true)(ha:loopOk (a.map ptP)=true):spec_l3In.f z (rd_T70 a 0).f0 (rd_T70 a 0).f1=some (inOf (z.map ptP) (fstP a)):=sL3In h (fst_ok ha)
def holeOk (o a:List S70):Bool:=loopOk (a.map ptP) && (inOf (o.map ptP) (fstP a)==1 && apartB (o.map ptP) (a.map ptP))
def pairH (a b:List S70):Bool:=apartB (a.map ptP) (b.map ptP) && (inOf (b.map ptP) (fstP a) == -1 && inOf (a.map ptP) (fstP b) == -1)
theorem plate_hole {o:List S70}{H:List (List S70)}(ho:loopOk (o.map ptP)=true)(i:Nat)(hi:i<H.length){k:Nat}(hk:300≤k):
  spec_PlateOk.l0 (k+2) (i:Int) o H=if holeOk o (rd_L5 H (i:Int)) then spec_PlateOk.l1 k (i:Int) (rd_L5 H (i:Int)) 0 o H else some false:=by
 simp only [spec_PlateOk.l0];rw [if_pos (by omega),if_pos (by omega),sLoopOk (by omega),Option.bind_some];generalize rd_L5 H (i:Int)=a;unfold holeOk
 cases ha:loopOk (a.map ptP) with
 | false=>rw [if_neg (by decide)];simp only [spec_PlateOk.j2];simp
 | true =>
  obtain⟨h3,_,_⟩:=ok_facts ha;rw [if_pos rfl,if_pos (by omega),sL3Fst ho ha,Option.bind_some];by_cases h1:inOf (o.map ptP) (fstP a)=1
  ·
   rw [if_pos h1,sApart (by omega) ho ha,Option.bind_some];simp only [spec_PlateOk.j2];rw [h1];cases apartB (o.map ptP) (a.map ptP) <;> simp
  ·
   rw [if_neg h1,beq_eq_false_iff_ne.2 h1];simp only [spec_PlateOk.j2];simp
theorem sPlateOk {k:Nat}(hk:1000≤k)(o:List S70)(H:List (List S70)):spec_PlateOk.f k o H=some (plateOk (pl o H)):=by
 unfold spec_PlateOk.f;rw [sLoopOk (by omega),Option.bind_some];obtain⟨k,rfl⟩:∃ q,k=q+10:=⟨k-10,by omega⟩
 cases ho:loopOk (o.map ptP) with
 | false =>
  rw [if_neg (by decide)];simp only [spec_PlateOk.j0];unfold plateOk pl;simp only;rw [ho];simp
 | true =>
  rw [if_pos rfl];by_cases h2:H.length≤2
  ·
   rw [decide_eq_false (by omega)];simp only [spec_PlateOk.j0];rw [if_neg (by decide)];unfold plateOk pl Mort.nested;simp only [List.length_map];rw [ho,decide_eq_true h2]
   match H,h2 with
   | [],_=>simp only [spec_PlateOk.l0];simp
   | [a],_ =>
    refine Eq.trans (show spec_PlateOk.l0 (k+9) 0 o [a]=_ from plate_hole (k:=k+7) ho 0 (by simp) (by omega)) ?_;have e1:spec_PlateOk.l1 (k+7) ((0:Nat):Int) a 0 o [a]=some true:=by
     simp only [spec_PlateOk.l1];rw [if_neg (by omega),show wrap64 (((0:Nat):Int)+1)=1 by unfold wrap64;omega];simp only [spec_PlateOk.l0];rw [if_neg (by simp)]
    show (if holeOk o a then spec_PlateOk.l1 (k+7) ((0:Nat):Int) a 0 o [a] else _)=_
    rw [e1];unfold holeOk;simp only [List.map_cons,List.map_nil,List.all_cons,List.all_nil,Bool.and_true,Bool.true_and,fst_pt];generalize loopOk (a.map ptP)=t1;generalize (inOf (o.map ptP) (fstP a)==1)=t2;generalize apartB (o.map ptP) (a.map ptP)=t3;cases t1 <;> cases t2 <;> cases t3 <;> rfl
   | [a,b],_ =>
    refine Eq.trans (show spec_PlateOk.l0 (k+9) 0 o [a,b]=_ from plate_hole (k:=k+7) ho 0 (by simp) (by omega)) ?_;have e1:spec_PlateOk.l1 (k+7) ((0:Nat):Int) a 0 o [a,b]=if holeOk o b then spec_PlateOk.l1 (k+4) ((1:Nat):Int) b 0 o [a,b] else some false:=by
     simp only [spec_PlateOk.l1];rw [if_neg (by omega),show wrap64 (((0:Nat):Int)+1)=((1:Nat):Int) by unfold wrap64;omega,plate_hole (k:=k+4) ho 1 (by simp) (by omega)];rfl
    show (if holeOk o a then spec_PlateOk.l1 (k+7) ((0:Nat):Int) a 0 o [a,b] else _)=_
    rw [e1];have hp:holeOk o a=true→holeOk o b=true→spec_PlateOk.l1 (k+4) ((1:Nat):Int) b 0 o [a,b]=some (pairH b a):=by
     intro h1 h2;have ha:loopOk (a.map ptP)=true:=by unfold holeOk at h1;cases h:loopOk (a.map ptP) with | true=>rfl | false=>rw [h] at h1;cases h1
     have hb:loopOk (b.map ptP)=true:=by unfold holeOk at h2;cases h:loopOk (b.map ptP) with | true=>rfl | false=>rw [h] at h2;cases h2
     obtain⟨a3,_,_⟩:=ok_facts ha;obtain⟨b3,_,_⟩:=ok_facts hb;simp only [spec_PlateOk.l1];rw [if_pos (by omega),if_pos (by omega),if_pos (by simp)];rw [show rd_L5 [a,b] 0=a from rfl,sApart (by omega) hb ha,Option.bind_some];unfold pairH
     cases apartB (b.map ptP) (a.map ptP) with
     | false=>rw [if_neg (by decide)];rfl
     | true =>
      rw [if_pos rfl,if_pos (by omega),sL3Fst ha hb,Option.bind_some];by_cases e1:inOf (a.map ptP) (fstP b) = -1
      ·
       rw [if_pos e1,if_pos (by omega),sL3Fst hb ha,Option.bind_some,e1];by_cases e2:inOf (b.map ptP) (fstP a) = -1
       ·
        rw [if_pos e2,e2];have hw0:wrap64 (0+1)=1:=by unfold wrap64;omega
        rw [hw0,if_neg (by omega)];have hw2:wrap64 (((1:Nat):Int)+1)=2:=by unfold wrap64;omega
        rw [hw2];simp only [spec_PlateOk.l0];rw [if_neg (by simp)];rfl
       ·
        rw [if_neg e2,beq_eq_false_iff_ne.2 e2];rfl
      ·
       rw [if_neg e1,beq_eq_false_iff_ne.2 e1];rfl
    have hc:=Mort.apartB_comm (a.map ptP) (b.map ptP);simp only [List.map_cons,List.map_nil,List.all_cons,List.all_nil,Bool.and_true,Bool.true_and,fst_pt]
    cases h1:holeOk o a with
    | false =>
     rw [if_neg (by decide)];unfold holeOk at h1;revert h1;generalize loopOk (a.map ptP)=t1;generalize (inOf (o.map ptP) (fstP a)==1)=t2;generalize apartB (o.map ptP) (a.map ptP)=t3;intro h1;cases t1 <;> cases t2 <;> cases t3 <;> simp at h1 ⊢
    | true =>
     rw [if_pos rfl]
     cases h2:holeOk o b with
     | false =>
      rw [if_neg (by decide)];unfold holeOk at h2;revert h2;generalize loopOk (b.map ptP)=t1;generalize (inOf (o.map ptP) (fstP b)==1)=t2;generalize apartB (o.map ptP) (b.map ptP)=t3;intro h2;cases t1 <;> cases t2 <;> cases t3 <;> simp at h2 ⊢
     | true =>
      rw [if_pos rfl,hp h1 h2];unfold holeOk at h1 h2;unfold pairH;rw [hc];simp only [Bool.and_eq_true] at h1 h2;rw [h1.1,h1.2.1,h1.2.2,h2.1,h2.2.1,h2.2.2];generalize apartB (b.map ptP) (a.map ptP)=t1;generalize (inOf (b.map ptP) (fstP a) == -1)=t2;generalize (inOf (a.map ptP) (fstP b) == -1)=t3;cases t1 <;> cases t2 <;> cases t3 <;> rfl
  ·
   rw [decide_eq_true (by omega)];simp only [spec_PlateOk.j0];unfold plateOk pl;simp only [List.length_map];rw [decide_eq_false h2];simp
end Go.Proofs.YtailkppkjhkjpaaGreatDoor.X
end
section
set_option linter.unusedVariables false
set_option linter.unusedSimpArgs false
namespace Go.Proofs.YtailkppkjhkjpaaGreatDoor.X
open Go.RowKit Go.Proofs.YtailkppkjhkjpaaGreatDoorW.PrintWords Go.Proofs.YtailkppkjhkjpaaGreatDoorW.PrintLast Go.Proofs.YtailkppkjhkjpaaGreatDoorW.PrintMore
def Tells {α:Type}(K:Nat)(f:Nat→Option α)(P:α→Prop):Prop:=∃ a,(∀ k,K≤k→f k=some a)∧P a
namespace Tells
variable {α β:Type} {K:Nat} {P:α→Prop} {Q:β→Prop}
theorem bind {f:Nat→Option α}{g:α→Nat→Option β}(h:Tells K f P)(hg:∀ a,P a→Tells K (g a) Q):Tells K (fun k=>(f k).bind fun a=>g a k) Q:=by
 obtain⟨a,h1,h2⟩:=h;obtain⟨b,h3,h4⟩:=hg a h2;exact⟨b,fun k hk=>by show (f k).bind _=_;rw [h1 k hk,Option.bind_some,h3 k hk],h4⟩
theorem ret (a:α)(h:P a):Tells K (fun _=>some a) P:=⟨a,fun _ _=>rfl,h⟩
theorem ite {c:Prop}[Decidable c]{f g:Nat→Option α}(h1:c→Tells K f P)(h2:¬ c→Tells K g P):Tells K (fun k=>if c then f k else g k) P:=by
 by_cases h:c
 ·
  obtain⟨a,e,p⟩:=h1 h;exact⟨a,fun k hk=>by show (if c then _ else _)=_;rw [if_pos h,e k hk],p⟩
 ·
  obtain⟨a,e,p⟩:=h2 h;exact⟨a,fun k hk=>by show (if c then _ else _)=_;rw [if_neg h,e k hk],p⟩
theorem guard {c:Prop}[Decidable c]{f:Nat→Option α}(h:c)(h1:Tells K f P):Tells K (fun k=>if c then f k else none) P:=ite (fun _=>h1) (fun n=>absurd h n)
theorem nay {c:Prop}[Decidable c]{f:Nat→Option α}(h:¬ c)(h1:Tells K f P):Tells K (fun k=>if c then none else f k) P:=ite (fun n=>absurd n h) (fun _=>h1)
theorem up {K':Nat}{f:Nat→Option α}(hk:K≤K')(h:Tells K f P):Tells K' f P:=by
 obtain⟨a,e,p⟩:=h;exact⟨a,fun k hk'=>e k (by omega),p⟩
theorem mono {P':α→Prop}{f:Nat→Option α}(h:Tells K f P)(hp:∀ a,P a→P' a):Tells K f P':=by
 obtain⟨a,e,p⟩:=h;exact⟨a,e,hp a p⟩
theorem succ {f g:Nat→Option α}(hf:∀ k,f (k+1)=g k)(h:Tells K g P):Tells (K+1) f P:=by
 obtain⟨a,e,p⟩:=h;refine⟨a,fun k hk=>?_,p⟩;obtain⟨k,rfl⟩:∃ q,k=q+1:=⟨k-1,by omega⟩;rw [hf,e k (by omega)]
theorem same {f g:Nat→Option α}(hf:∀ k,f k=g k)(h:Tells K g P):Tells K f P:=by
 obtain⟨a,e,p⟩:=h;exact⟨a,fun k hk=>by rw [hf,e k hk],p⟩
end Tells
section
variable {l:List Int} (hl:Bytes l)
include hl
theorem tPick {K:Nat}(hK:1≤K){p n:Int}(hp:0≤p)(hp':p≤1000000)(hn:1≤n)(hn':n≤1000000):Tells K (fun k=>spec_l6Rd_pick.f k l p n) fun a=>0≤a.1∧a.1<n∧a.2=p+1:=by
 obtain⟨r,h1,h2,h3⟩:=pick_told hl hp hp' hn hn';exact⟨(r,p+1),fun k hk=>h1 k (by omega),h2,h3,rfl⟩
theorem tPt {K:Nat}(hK:1≤K){p:Int}(hp:0≤p)(hp':p≤900000):Tells K (fun k=>spec_l71Pt.f k l p) fun a=>p≤a.2.2∧a.2.2≤p+10:=by
 unfold spec_l71Pt.f;refine Tells.bind (tPick hl hK hp (by omega) (by omega) (by omega)) ?_;rintro⟨r1,q1⟩ ⟨a1,b1,c1⟩;simp only at a1 b1 c1 ⊢
 refine Tells.bind (tPick hl hK (by omega) (by omega) (by omega) (by omega)) ?_;rintro⟨r2,q2⟩ ⟨a2,b2,c2⟩;simp only at a2 b2 c2 ⊢
 refine Tells.bind (tPick hl hK (by omega) (by omega) (by omega) (by omega)) ?_;rintro⟨r3,q3⟩ ⟨a3,b3,c3⟩;simp only at a3 b3 c3 ⊢
 refine Tells.ite (fun h=>?_) (fun h=>Tells.ite (fun h'=>?_) (fun h'=>?_))
 ·
  refine Tells.bind (Tells.ret (P:=fun a=>a=[(-1),10]) _ rfl) ?_;rintro y rfl;refine Tells.bind (tPick hl hK (by omega) (by omega) (by omega) (by omega)) ?_;rintro⟨r4,q4⟩ ⟨a4,b4,c4⟩;simp only at a4 b4 c4 ⊢
  exact Tells.guard (by omega) (Tells.guard (by simpa using b4) (Tells.ret _ (by simp only;omega)))
 ·
  refine Tells.bind (Tells.ret (P:=fun a=>a=[(-1),10]) _ rfl) ?_;rintro y rfl;refine Tells.bind (tPick hl hK (by omega) (by omega) (by omega) (by omega)) ?_;rintro⟨r4,q4⟩ ⟨a4,b4,c4⟩;simp only at a4 b4 c4 ⊢
  exact Tells.guard (by omega) (Tells.guard (by simpa using b4) (Tells.ret _ (by simp only;omega)))
 ·
  exact Tells.ret _ (by simp only;omega)
theorem tBox {K:Nat}(hK:1≤K){p a1 a2 a3 a4:Int}(hp:0≤p)(hp':p≤900000):Tells K (fun k=>spec_l71Box.f k l p a1 a2 a3 a4) fun a=>(3≤a.1.length∧a.1.length≤6)∧p≤a.2∧a.2≤p+10:=by
 unfold spec_l71Box.f;refine Tells.bind (Tells.ret (P:=fun a=>a.length=4) _ rfl) ?_;intro y hy;have hy':(y.length:Int)=4:=by omega
 refine Tells.bind (tPick hl hK hp (by omega) (by omega) (by omega)) ?_;rintro⟨r1,q1⟩ ⟨a1,b1,c1⟩;simp only at a1 b1 c1 ⊢
 rw [hy']
 repeat' first
  | (refine Tells.ret _ ⟨⟨?_,?_⟩,?_,?_⟩ <;> first | omega | (simp;done) | (simp [hy];done) | (simp only [List.length_take];omega))
  | (refine Tells.guard (by omega) ?_)
  | (refine Tells.ite (fun _=>?_) (fun _=>?_))
theorem tLoopL {K:Nat}(hK:1≤K):∀ (m:Nat) (z:List S70) (i p:Int),i<m → -1≤i→i≤100→3≤z.length→z.length≤1000→0≤p→p+10*m≤900000→Tells (K+m+1) (fun k=>spec_l71Loop.l0 k z i l p) fun a=>a.1.length=z.length∧p≤a.2∧a.2≤p+10*m:=by
 intro m
 induction m with
 | zero =>
  intro z i p hm hi hi' hz hz' hp hp';refine Tells.succ (fun k=>by simp only [spec_l71Loop.l0];exact rfl) ?_;exact Tells.ite (fun h=>by omega) (fun _=>Tells.ret _ ⟨rfl,Int.le_refl _,by show p≤p+10*_;omega⟩)
 | succ m ih =>
  intro z i p hm hi hi' hz hz' hp hp';refine Tells.succ (K:=K+(m+1)) (fun k=>by simp only [spec_l71Loop.l0];exact rfl) ?_;refine Tells.ite (fun h=>?_) (fun _=>Tells.ret _ ⟨rfl,Int.le_refl _,by show p≤p+10*_;omega⟩);refine Tells.nay (by omega) ?_;refine Tells.bind (tPt hl (by omega) hp (by omega)) ?_;rintro⟨x,y,q⟩ ⟨h1,h2⟩;simp only at h1 h2 ⊢
  have t1:0≤Int.tmod i z.length:=Int.tmod_nonneg _ (by omega);have t2:Int.tmod i z.length<z.length:=Int.tmod_lt_of_pos _ (by omega);refine Tells.guard t1 (Tells.guard t2 ?_);refine Tells.mono (ih _ (wrap64 (i-1)) q (by unfold wrap64;omega) (by unfold wrap64;omega) (by unfold wrap64;omega) (by rw [List.length_set];omega) (by rw [List.length_set];omega) (by omega) (by omega)) ?_;rintro⟨b,u⟩ ⟨g1,g2,g3⟩;rw [List.length_set] at g1;simp only at g1 g2 g3 ⊢
  omega
theorem tLoop {K:Nat}(hK:20≤K){p:Int}(hp:0≤p)(hp':p≤800000):Tells K (fun k=>spec_l71Loop.f k l p) fun a=>a.1.length≤100∧p≤a.2∧a.2≤p+200:=by
 unfold spec_l71Loop.f;refine Tells.bind (tPick hl (by omega) hp (by omega) (by omega) (by omega)) ?_;rintro⟨r1,q1⟩ ⟨a1,b1,c1⟩;simp only at a1 b1 c1 ⊢
 refine Tells.bind (tPick hl (by omega) (by omega) (by omega) (by omega) (by omega)) ?_;rintro⟨r2,q2⟩ ⟨a2,b2,c2⟩;simp only at a2 b2 c2 ⊢
 refine Tells.bind (tPick hl (by omega) (by omega) (by omega) (by unfold wrap64;omega) (by unfold wrap64;omega)) ?_;rintro⟨r3,q3⟩ ⟨a3,b3,c3⟩;simp only at a3 b3 c3 ⊢
 refine Tells.bind (tPick hl (by omega) (by omega) (by omega) (by unfold wrap64;omega) (by unfold wrap64;omega)) ?_;rintro⟨r4,q4⟩ ⟨a4,b4,c4⟩;simp only at a4 b4 c4 ⊢
 refine Tells.bind (tBox hl (by omega) (by omega) (by omega)) ?_;rintro⟨z,q5⟩ ⟨⟨a5,b5⟩,c5,d5⟩;simp only at a5 b5 c5 d5 ⊢
 refine Tells.bind (tPick hl (by omega) (by omega) (by omega) (by omega) (by omega)) ?_;rintro⟨r6,q6⟩ ⟨a6,b6,c6⟩;simp only at a6 b6 c6 ⊢
 refine Tells.ite (fun _=>?_) (fun _=>Tells.ite (fun _=>?_) (fun _=>Tells.ite (fun _=>?_) (fun _=>?_)))
 ·
  refine Tells.bind (tPt hl (by omega) (by omega) (by omega)) ?_;rintro⟨x,y,q⟩ ⟨h1,h2⟩;simp only at h1 h2 ⊢
  exact Tells.guard (by omega) (Tells.ret _ (by simp only [List.length_append,List.length_cons,List.length_nil];omega))
 ·
  refine Tells.bind (tPick hl (by omega) (by omega) (by omega) (by omega) (by omega)) ?_;rintro⟨r7,q7⟩ ⟨a7,b7,c7⟩;simp only at a7 b7 c7 ⊢
  refine Tells.bind (tPt hl (by omega) (by omega) (by omega)) ?_;rintro⟨x,y,q⟩ ⟨h1,h2⟩;simp only at h1 h2 ⊢
  exact Tells.guard (by omega) (Tells.guard (by omega) (Tells.ret _ (by simp only [List.length_set];omega)))
 ·
  refine Tells.bind (tPick hl (by omega) (by omega) (by omega) (by omega) (by omega)) ?_;rintro⟨r7,q7⟩ ⟨a7,b7,c7⟩;simp only at a7 b7 c7 ⊢
  refine Tells.up (K:=1+7+1) (by omega) (Tells.mono (tLoopL hl (K:=1) (by omega) 7 z r7 q7 (by omega) (by omega) (by omega) (by omega) (by omega) (by omega) (by omega)) ?_);rintro⟨b,u⟩ ⟨g1,g2,g3⟩;simp only at g1 g2 g3 ⊢
  omega
 ·
  exact Tells.ret _ (by simp only;omega)
end
section
variable {l:List Int} (hl:Bytes l)
include hl
theorem tGoodL {K:Nat}(hK:1000≤K):∀ (m:Nat) (x3 x4 x5 x6 i p:Int) (o:List S70) (H:List (List S70)),i≤m→i≤100→(0≤x3∧x3≤20)→(0≤x4∧x4≤20)→(3≤x5∧x5≤20)→(3≤x6∧x6≤20)→H.length+m≤100→o.length≤100→0≤p→p+20*m≤900000 →
  Tells (K+m+1) (fun k=>spec_l71Good.l0 k x3 x4 x5 x6 i l p o H) fun a=>a.1.length≤100∧a.2.1.length≤100∧p≤a.2.2∧a.2.2≤p+20*m:=by
 intro m
 induction m with
 | zero =>
  intro x3 x4 x5 x6 i p o H hm hi h3 h4 h5 h6 hH ho hp hp';refine Tells.succ (fun k=>by simp only [spec_l71Good.l0];exact rfl) ?_;exact Tells.ite (fun h=>by omega) (fun _=>Tells.ret _ ⟨ho,by show H.length≤100;omega,Int.le_refl _,by show p≤p+20*_;omega⟩)
 | succ m ih =>
  intro x3 x4 x5 x6 i p o H hm hi h3 h4 h5 h6 hH ho hp hp';refine Tells.succ (K:=K+(m+1)) (fun k=>by simp only [spec_l71Good.l0];exact rfl) ?_;refine Tells.ite (fun h=>?_) (fun _=>Tells.ret _ ⟨ho,by show H.length≤100;omega,Int.le_refl _,by show p≤p+20*_;omega⟩);refine Tells.bind (tPick hl (by omega) hp (by omega) (by unfold wrap64;omega) (by unfold wrap64;omega)) ?_;rintro⟨r1,q1⟩ ⟨a1,b1,c1⟩;simp only at a1 b1 c1 ⊢
  refine Tells.bind (tPick hl (by omega) (by omega) (by omega) (by unfold wrap64;omega) (by unfold wrap64;omega)) ?_;rintro⟨r2,q2⟩ ⟨a2,b2,c2⟩;simp only at a2 b2 c2 ⊢
  refine Tells.bind (tPick hl (by omega) (by omega) (by omega) (by omega) (by omega)) ?_;rintro⟨r3,q3⟩ ⟨a3,b3,c3⟩;simp only at a3 b3 c3 ⊢
  refine Tells.bind (tPick hl (by omega) (by omega) (by omega) (by omega) (by omega)) ?_;rintro⟨r4,q4⟩ ⟨a4,b4,c4⟩;simp only at a4 b4 c4 ⊢
  refine Tells.bind (tBox hl (by omega) (by omega) (by omega)) ?_;rintro⟨z,q5⟩ ⟨_,c5,d5⟩;simp only at c5 d5 ⊢
  refine Tells.bind (Tells.ret (P:=fun a=>a=[]) _ rfl) ?_;rintro y rfl;refine Tells.guard (by simp;omega) ?_;refine Tells.bind (Tells.ret (P:=fun a=>a=H) _ rfl) ?_;rintro y rfl;refine Tells.guard (by omega) ?_;refine Tells.bind (Tells.ret (P:=fun a=>a.length=y.length+1) _ (by simp)) ?_;intro y2 hy2;refine Tells.bind (P:=fun _=>True) ⟨_,fun k hk=>sPlateOk (by omega) o y2,trivial⟩ ?_;intro t _;have hw:wrap64 (i-1)=i-1:=w64i (by omega) (by omega);by_cases hneg:0≤i
  ·
   rw [hw];refine Tells.ite (fun _=>?_) (fun _=>?_)
   ·
    refine Tells.mono (ih x3 x4 x5 x6 (i-1) q5 o y2 (by omega) (by omega) h3 h4 h5 h6 (by omega) ho (by omega) (by omega)) ?_;rintro⟨u1,u2,u3⟩ ⟨g1,g2,g3,g4⟩;simp only at g1 g2 g3 g4 ⊢
    omega
   ·
    refine Tells.mono (ih x3 x4 x5 x6 (i-1) q5 o y (by omega) (by omega) h3 h4 h5 h6 (by omega) ho (by omega) (by omega)) ?_;rintro⟨u1,u2,u3⟩ ⟨g1,g2,g3,g4⟩;simp only at g1 g2 g3 g4 ⊢
    omega
  ·
   omega
theorem tGood {K:Nat}(hK:1010≤K){p:Int}(hp:0≤p)(hp':p≤800000):Tells K (fun k=>spec_l71Good.f k l p) fun a=>a.1.length≤100∧a.2.1.length≤100∧p≤a.2.2∧a.2.2≤p+100:=by
 unfold spec_l71Good.f;refine Tells.bind (tPick hl (by omega) hp (by omega) (by omega) (by omega)) ?_;rintro⟨r1,q1⟩ ⟨a1,b1,c1⟩;simp only at a1 b1 c1 ⊢
 refine Tells.bind (tPick hl (by omega) (by omega) (by omega) (by omega) (by omega)) ?_;rintro⟨r2,q2⟩ ⟨a2,b2,c2⟩;simp only at a2 b2 c2 ⊢
 refine Tells.bind (tPick hl (by omega) (by omega) (by omega) (by unfold wrap64;omega) (by unfold wrap64;omega)) ?_;rintro⟨r3,q3⟩ ⟨a3,b3,c3⟩;have b3':r3<9-r1-3:=by
  have e:wrap64 (wrap64 (9-r1)-3)=9-r1-3:=by unfold wrap64;omega
  simp only at b3;omega
 simp only at a3 c3 ⊢
 refine Tells.bind (tPick hl (by omega) (by omega) (by omega) (by unfold wrap64;omega) (by unfold wrap64;omega)) ?_;rintro⟨r4,q4⟩ ⟨a4,b4,c4⟩;have b4':r4<9-r2-3:=by
  have e:wrap64 (wrap64 (9-r2)-3)=9-r2-3:=by unfold wrap64;omega
  simp only at b4;omega
 simp only at a4 c4 ⊢
 have e1:wrap64 (4+r3)=4+r3:=w64i (by omega) (by omega);have e2:wrap64 (4+r4)=4+r4:=w64i (by omega) (by omega);rw [e1,e2];refine Tells.bind (tBox hl (by omega) (by omega) (by omega)) ?_;rintro⟨z,q5⟩ ⟨⟨_,z5⟩,c5,d5⟩;simp only at z5 c5 d5 ⊢
 refine Tells.bind (tPick hl (by omega) (by omega) (by omega) (by omega) (by omega)) ?_;rintro⟨r6,q6⟩ ⟨a6,b6,c6⟩;simp only at a6 b6 c6 ⊢
 refine Tells.up (K:=1000+2+1) (by omega) (Tells.mono (tGoodL hl (K:=1000) (by omega) 2 r1 r2 (4+r3) (4+r4) r6 q6 z [] (by omega) (by omega) (by omega) (by omega) (by omega) (by omega) (by simp) (by omega) (by omega) (by omega)) ?_);rintro⟨u1,u2,u3⟩ ⟨g1,g2,g3,g4⟩;simp only at g1 g2 g3 g4 ⊢
 omega
theorem tPlate {K:Nat}(hK:1010≤K){p:Int}(hp:0≤p)(hp':p≤700000):Tells K (fun k=>spec_l71Plate.f k l p) fun a=>p≤a.2.2∧a.2.2≤p+1000:=by
 unfold spec_l71Plate.f;refine Tells.bind (tGood hl hK hp (by omega)) ?_;rintro⟨o,H,q⟩ ⟨g1,g2,g3,g4⟩;simp only at g1 g2 g3 g4 ⊢
 refine Tells.bind (tPick hl (by omega) (by omega) (by omega) (by omega) (by omega)) ?_;rintro⟨r1,q1⟩ ⟨a1,b1,c1⟩;simp only at a1 b1 c1 ⊢
 refine Tells.ite (fun _=>?_) (fun _=>Tells.ite (fun _=>?_) (fun _=>Tells.ite (fun _=>?_) (fun _=>?_)))
 ·
  refine Tells.bind (tLoop hl (by omega) (by omega) (by omega)) ?_;rintro⟨z,q2⟩ ⟨h1,h2,h3⟩;simp only at h1 h2 h3 ⊢
  exact Tells.ret _ (by simp only;omega)
 ·
  refine Tells.bind (tLoop hl (by omega) (by omega) (by omega)) ?_;rintro⟨z,q2⟩ ⟨h1,h2,h3⟩;simp only at h1 h2 h3 ⊢
  exact Tells.guard (by omega) (Tells.ret _ (by simp only;omega))
 ·
  refine Tells.bind (Tells.ret (P:=fun a=>a=[]) _ rfl) ?_;rintro y rfl;refine Tells.guard (by simp;omega) ?_;refine Tells.bind (Tells.ret (P:=fun a=>a=o) _ rfl) ?_;rintro y rfl;refine Tells.bind (tPt hl (by omega) (by omega) (by omega)) ?_;rintro⟨x,y',q2⟩ ⟨h1,h2⟩;simp only at h1 h2 ⊢
  exact Tells.guard (by omega) (Tells.ret _ (by simp only;omega))
 ·
  exact Tells.ret _ (by simp only;omega)
end
end Go.Proofs.YtailkppkjhkjpaaGreatDoor.X
end
section
set_option linter.unusedVariables false
set_option linter.unusedSimpArgs false
namespace Go.Proofs.YtailkppkjhkjpaaGreatDoor.X
open Go.RowKit Go.Shelf Go.Proofs.YtailkppkjhkjpaaGreatDoorW.PrintWords Go.Proofs.YtailkppkjhkjpaaGreatDoorW.PrintLast Go.Proofs.YtailkppkjhkjpaaGreatDoorW.PrintMore
open Mort (ptOk loopOk plateOk)
open Txt (fig wrPt wrLoop wrLines)
theorem sDec {k:Nat}(hk:1≤k){n:Int}(h0:0≤n)(h9:n≤9):spec_l6Dec.f k n=some ⟨#[fig n]⟩:=by
 obtain⟨k,rfl⟩:∃ q,k=q+1:=⟨k-1,by omega⟩;rw [spec_l6Dec.f,if_neg (by omega),if_neg (by omega),if_pos (by omega)];have:n=0∨n=1∨n=2∨n=3∨n=4∨n=5∨n=6∨n=7∨n=8∨n=9:=by omega
 rcases this with rfl | rfl | rfl | rfl | rfl | rfl | rfl | rfl | rfl | rfl <;> decide +kernel
theorem sPt {k:Nat}(hk:1≤k){p:S70}(h:ptOk (ptP p)=true):spec_l3Pt.f k p.f0 p.f1=some (ptT p):=by
 have hq:=(Mort.ptOk_iff _).1 h;have q0:0≤p.f0:=hq.1;have q1:p.f0≤9:=hq.2.1;have q2:0≤p.f1:=hq.2.2.1;have q3:p.f1≤9:=hq.2.2.2;unfold spec_l3Pt.f;have z:∀ a:UInt8,(⟨#[a]⟩:ByteArray).size=1:=fun _=>rfl
 rw [sDec hk q0 q1,Option.bind_some,if_pos (by rw [z];omega),sDec hk q2 q3,Option.bind_some,if_pos (by rw [ByteArray.size_append,z,z,z];omega)];rfl
def tailT (l:List S70):List UInt8:=Go.Lib.joinTail [32] (l.map fun p=>wrPt (ptP p))
theorem textOf_cons (p:S70)(ps:List S70):(textOf (p::ps)).data.toList=wrPt (ptP p)++tailT ps:=by
 unfold textOf wrLoop tailT
 show Go.Lib.join _ _=_
 rw [List.map_cons,List.map_cons,Go.Lib.join_cons,List.map_map];rfl
theorem rdT_drop {l:List S70}{i:Nat}(hi:i<l.length):l.drop i=rd_T70 l (i:Int)::l.drop (i+1):=by
 rw [List.drop_eq_getElem_cons hi]
 congr 1
 show _=l.getD (i:Int).toNat _
 rw [Int.toNat_natCast,List.getD_eq_getElem?_getD,List.getElem?_eq_getElem hi];rfl
theorem ba_app (a:List UInt8)(b:ByteArray):(⟨a.toArray⟩:ByteArray)++b=⟨(a++b.data.toList).toArray⟩:=by
 apply ByteArray.ext;rw [ByteArray.data_append];simp
theorem ba_size (a:List UInt8):(⟨a.toArray⟩:ByteArray).size=a.length:=rfl
theorem sText_l (l:List S70)(hl:l.length≤8)(hp:∀ p∈l,ptOk (ptP p)=true):∀ (m i k:Nat) (acc:List UInt8),l.length-i=m→1≤i→m+2≤k→acc.length≤4*i→spec_l3Text.l0 k l ⟨acc.toArray⟩ (i:Int)=some ⟨(acc++tailT (l.drop i)).toArray⟩:=by
 intro m
 induction m with
 | zero =>
  intro i k acc hm hi hk ha;obtain⟨k,rfl⟩:∃ q,k=q+1:=⟨k-1,by omega⟩;rw [spec_l3Text.l0,if_neg (by omega),List.drop_eq_nil_of_le (by omega)];simp [tailT,Go.Lib.joinTail]
 | succ m ih =>
  intro i k acc hm hi hk ha;obtain⟨k,rfl⟩:∃ q,k=q+1:=⟨k-1,by omega⟩;have hlt:i<l.length:=by omega
  have hd:=rdT_drop hlt;obtain⟨p,hpe⟩:∃ p,rd_T70 l (i:Int)=p:=⟨_,rfl⟩;rw [hpe] at hd;have hpk:ptOk (ptP p)=true:=hp p (List.mem_of_mem_drop (by rw [hd];simp));rw [spec_l3Text.l0,if_pos (by omega),if_pos (by omega),hpe];rw [if_pos (by rw [ba_size];omega),if_pos (by omega),sPt (by omega) hpk,Option.bind_some,ba_app,ba_app];have e32:(⟨#[32]⟩:ByteArray).data.toList=[32]:=rfl;have ept:(ptT p).data.toList=wrPt (ptP p):=rfl;have epl:(wrPt (ptP p)).length=3:=rfl;rw [if_pos (by rw [ba_size,e32];have:(ptT p).size=3:=rfl;simp only [List.length_append,List.length_cons,List.length_nil];omega),succ64 (by omega),e32,ept,ih (i+1) k _ (by omega) (by omega) (by omega) (by simp only [List.length_append,List.length_cons,List.length_nil,epl];omega),hd]
  congr 2
  have:tailT (p::l.drop (i+1))=[32]++wrPt (ptP p)++tailT (l.drop (i+1)):=by simp [tailT,Go.Lib.joinTail]
  rw [this];simp
theorem sText {k:Nat}(hk:20≤k){l:List S70}(h0:0<l.length)(hl:l.length≤8)(hp:∀ p∈l,ptOk (ptP p)=true):spec_l3Text.f k l=some (textOf l):=by
 obtain⟨k,rfl⟩:∃ q,k=q+1:=⟨k-1,by omega⟩
 cases l with
 | nil=>simp at h0
 | cons p ps =>
  unfold spec_l3Text.f;rw [spec_l3Text.l0,if_pos (by simp only [List.length_cons];omega),if_neg (by omega),if_pos (by omega)];have e0:rd_T70 (p::ps) 0=p:=rfl;rw [e0,sPt (by omega) (hp p (by simp)),Option.bind_some];have e1:(⟨#[]⟩:ByteArray)++ptT p=⟨(wrPt (ptP p)).toArray⟩:=by
   rw [ba_app []];rfl
  rw [if_pos (by show 0+(ptT p).size≤_;have:(ptT p).size=3:=rfl;omega),e1];have ew:wrap64 (0+1)=((1:Nat):Int):=succ64 (i:=0) (by omega);rw [ew];refine (sText_l (p::ps) hl hp ps.length 1 k (wrPt (ptP p)) (by simp) (Nat.le_refl _) (by simp only [List.length_cons] at hl;omega) (by have:(wrPt (ptP p)).length=3:=rfl;omega)).trans ?_;rw [List.drop_one,List.tail_cons,← textOf_cons]
theorem lines_cons_len {o:List S70}{H:List (List S70)}(ho:0<o.length∧o.length≤8)(hH:∀ z∈H,0<z.length∧z.length≤8)(h2:H.length≤2)(i:Nat):(linesOf (o::H.take i)).length≤96:=by
 refine Nat.le_trans (lines_len _ (fun z hz=>?_)) ?_
 ·
  rcases List.mem_cons.1 hz with rfl | hz
  ·
   exact ho
  ·
   exact hH z (List.mem_of_mem_take hz)
 ·
  rw [List.length_cons,List.length_take];omega
theorem rdL_take {H:List (List S70)}{i:Nat}(hi:i<H.length):H.take (i+1)=H.take i++[rd_L5 H (i:Int)]:=by
 rw [List.take_succ_eq_append_getElem hi]
 congr 2
 show _=H.getD (i:Int).toNat _
 rw [Int.toNat_natCast,List.getD_eq_getElem?_getD,List.getElem?_eq_getElem hi];rfl
theorem sPlateText {k:Nat}(hk:1100≤k)(o:List S70)(H:List (List S70)):spec_PlateText.f k o H=impl_PlateText.f o H:=by
 unfold spec_PlateText.f impl_PlateText.f;rw [sPlateOk (by omega),Option.bind_some,iBodyOk]
 cases hb:plateOk (pl o H) with
 | false=>rfl
 | true =>
  rw [if_pos rfl,if_pos rfl];have hB:bodyOkB o H=true:=by rw [iBodyOk];exact hb
  obtain⟨h2,h1,hH,_,_⟩:=(bodyOkB_iff o H).1 hB;have lo:=loop_len h1;rw [sText (by omega) (by omega) lo.2 (fun p hp=>loop_ptOk h1 _ (List.mem_map_of_mem hp)),Option.bind_some];have hts:=textOf_len (z:=o) (by omega) lo.2;rw [if_pos (by omega)];have hlH:∀ z∈H,0<z.length∧z.length≤8:=fun z hz=>by have:=loop_len (hH z hz);omega
  have key:∀ (m i k:Nat),H.length-i=m→i≤H.length→m+30≤k→spec_PlateText.l0 k ⟨(linesOf (o::H.take i)).toArray⟩ (i:Int) o H=some ⟨(linesOf (o::H)).toArray⟩:=by
   intro m
   induction m with
   | zero =>
    intro i k hm hi hk;obtain⟨k,rfl⟩:∃ q,k=q+1:=⟨k-1,by omega⟩;rw [spec_PlateText.l0,if_neg (by omega),List.take_of_length_le (by omega)]
   | succ m ih =>
    intro i k hm hi hk;obtain⟨k,rfl⟩:∃ q,k=q+1:=⟨k-1,by omega⟩;have hlt:i<H.length:=by omega
    have ht:=rdL_take hlt;obtain⟨z,hz⟩:∃ z,rd_L5 H (i:Int)=z:=⟨_,rfl⟩;rw [hz] at ht;have hzm:z∈H:=List.mem_of_mem_take (i:=i+1) (by rw [ht];simp);have lz:=hlH z hzm;have hl1:=lines_cons_len ⟨by omega,lo.2⟩ hlH h2 i;have hts:=textOf_len lz.1 lz.2;have ets:(textOf z).data.toList.length=(textOf z).size:=by rw [Array.length_toList];rfl
    rw [spec_PlateText.l0,if_pos (by omega),if_pos (by omega),hz,sText (by omega) lz.1 lz.2 (fun p hp=>loop_ptOk (hH z hzm) _ (List.mem_map_of_mem hp)),Option.bind_some,if_pos (by rw [ba_size];omega),ba_app,if_pos (by rw [ba_size,List.length_append];omega),ba_app,succ64 (by omega)];have e10:(⟨#[10]⟩:ByteArray).data.toList=[10]:=rfl;rw [e10,← linesOf_snoc,List.cons_append,← ht];exact ih (i+1) k (by omega) (by omega) (by omega)
  have e0:textOf o++(⟨#[10]⟩:ByteArray)=⟨(linesOf (o::H.take 0)).toArray⟩:=by
   apply ByteArray.ext;rw [ByteArray.data_append,List.take_zero];unfold linesOf wrLines textOf;simp
  rw [e0];exact key H.length 0 k (by omega) (by omega) (by omega)
end Go.Proofs.YtailkppkjhkjpaaGreatDoor.X
end
section
set_option linter.unusedVariables false
set_option linter.unusedSimpArgs false
namespace Go.Proofs.YtailkppkjhkjpaaGreatDoor.X
open Go.RowKit Go.Proofs.YtailkppkjhkjpaaGreatDoorW.PrintWords Go.Proofs.YtailkppkjhkjpaaGreatDoorW.PrintLast Go.Proofs.YtailkppkjhkjpaaGreatDoorW.PrintMore
theorem plateText_told (o:List S70)(H:List (List S70)):∃ t,impl_PlateText.f o H=some t∧t.size≤96:=by
 unfold impl_PlateText.f
 cases hb:bodyOkB o H with
 | false=>exact⟨_,rfl,Nat.zero_le _⟩
 | true =>
  refine⟨_,rfl,?_⟩;obtain⟨h2,h1,hH,_,_⟩:=(bodyOkB_iff o H).1 hb;have lo:=loop_len h1;have hlen:=lines_cons_len (o:=o) (H:=H) ⟨by omega,lo.2⟩ (fun z hz=>by have:=loop_len (hH z hz);omega) h2 2;rw [List.take_of_length_le h2] at hlen;exact hlen
section
variable {l:List Int} (h:Bytes l)
include h
theorem tOf5 {K:Nat}(hK:1≤K){p:Int}(hp:0≤p)(hp':p≤900000):Tells K (fun k=>spec_l6Rd_of.f k l p [(⟨#[48]⟩:ByteArray),(⟨#[32]⟩:ByteArray),(⟨#[10]⟩:ByteArray),(⟨#[32,53,44,53]⟩:ByteArray),(⟨#[120]⟩:ByteArray)]) fun a=>a.1.size≤4:=by
 unfold spec_l6Rd_of.f;refine Tells.bind (tPick h hK hp (by omega) (n:=(5:Int)) (by omega) (by omega)) ?_;rintro⟨i,q⟩ ⟨a1,a2,a3⟩;simp only at a1 a2 a3 ⊢
 refine Tells.guard a1 (Tells.guard a2 (Tells.ret _ ?_));have:i=0∨i=1∨i=2∨i=3∨i=4:=by omega
 rcases this with rfl | rfl | rfl | rfl | rfl <;> exact of_decide_eq_true rfl
end
theorem cut_size (t:ByteArray)(a b:Nat):(t.extract a b).size≤t.size:=by
 rw [ByteArray.size_extract];omega
theorem drawPlateRead (l:List Int)(h:∀ x∈l,(Lit.int .u8 x).wf=true):∃ s,∀ k,400000≤k→spec_DrawPlateRead.f k l=some s:=by
 obtain⟨m,hm,hb⟩:=open_told l h;have ht:Tells 400000 (fun k=>spec_DrawPlateRead.f k l) fun _=>True:=by
  refine Tells.same (fun k=>by unfold spec_DrawPlateRead.f;rw [hm,Option.bind_some]) ?_;refine Tells.bind (tPlate hb (by omega) (by omega) (by omega)) ?_;rintro⟨o,H,q⟩ ⟨g3,g4⟩;simp only at g3 g4 ⊢
  obtain⟨t,hte,hts⟩:=plateText_told o H;refine Tells.bind (P:=fun x=>x=t) ⟨t,fun k hk=>(sPlateText (by omega) o H).trans hte,rfl⟩ ?_;rintro x rfl;have hw:wrap64 ((x.size:Int)+1)=(x.size:Int)+1:=by unfold wrap64;omega
  rw [hw];refine Tells.bind (tPick hb (by omega) (by omega) (by omega) (by omega) (by omega)) ?_;rintro⟨a,q1⟩ ⟨a1,a2,a3⟩;simp only at a1 a2 a3 ⊢
  refine Tells.bind (tPick hb (by omega) (by omega) (by omega) (by omega) (by omega)) ?_;rintro⟨c,q2⟩ ⟨c1,c2,c3⟩;simp only at c1 c2 c3 ⊢
  refine Tells.ite (fun _=>?_) (fun _=>Tells.ite (fun _=>?_) (fun _=>?_))
  ·
   exact Tells.guard a1 (Tells.guard (by omega) (Tells.ret _ trivial))
  ·
   refine Tells.guard a1 (Tells.guard (by omega) ?_);refine Tells.bind (tOf5 hb (by omega) (by omega) (by omega)) ?_;rintro⟨w,q3⟩ d1;simp only at d1 ⊢
   have e1:=cut_size x 0 (a:Int).toNat;have e2:=cut_size x (a:Int).toNat x.size;refine Tells.guard (by omega) (Tells.guard (by rw [ByteArray.size_append];omega) (Tells.ret _ trivial))
  ·
   exact Tells.ret _ trivial
 obtain⟨s,hs,_⟩:=ht;exact⟨s,hs⟩
end Go.Proofs.YtailkppkjhkjpaaGreatDoor.X
end
section
set_option linter.unusedVariables false
set_option linter.unusedSimpArgs false
namespace Go.Proofs.YtailkppkjhkjpaaGreatDoor.X
open Go.RowKit Go.Shelf Go.Proofs.YtailkppkjhkjpaaGreatDoorW.PrintWords Go.Proofs.YtailkppkjhkjpaaGreatDoorW.PrintLast Go.Proofs.YtailkppkjhkjpaaGreatDoorW.PrintMore
open Mort (ptOk loopOk plateOk)
open Txt (fig wrPt wrLoop wrLines allOf cutAt small)
abbrev PlR:=List S70 × List (List S70) × Bool
def badR:PlR:=([],[],false)
def finR (o:List S70)(H:List (List S70)):PlR:=if bodyOkB o H then (o,H,true) else badR
def readLL (t:ByteArray):Option (List S70):=if (readL t).2 then some (readL t).1 else none
def unl (l:List UInt8):Option (List UInt8):=if l.getLast?=some 10 then some l.dropLast else none
def linesR (ls:List ByteArray):PlR:=match allOf readLL ls with | some (o::H)=>finR o H | _=>badR
def readPl (t:ByteArray):PlR:=if t.size≤120 then (match unl t.data.toList with | some u=>linesR (cutB 10 ⟨u.toArray⟩) | none=>badR) else badR
theorem last_app (u:List UInt8)(a:UInt8):(u++[a]).getLast?=some a:=by simp
theorem unl_some {l u:List UInt8}(h:unl l=some u):l=u++[10]:=by
 unfold unl at h
 split at h
 ·
  rename_i hl
  obtain rfl:=Option.some.inj h;rw [List.getLast?_eq_some_iff] at hl;obtain⟨ys,rfl⟩:=hl;rw [List.dropLast_concat]
 ·
  cases h
theorem hasSuffix_nl (t:ByteArray)(hs:t.size≤1000):strings_HasSuffix.f t (⟨#[10]⟩:ByteArray)=some (decide (t.data.toList.getLast?=some 10)):=by
 unfold strings_HasSuffix.f stringslite_HasSuffix.f;have z:(⟨#[10]⟩:ByteArray).size=1:=rfl;have e2:t.data.toList.length=t.size:=by rw [Array.length_toList];rfl
 rw [z];by_cases h0:(t.size:Int)≥((1:Nat):Int)
 ·
  have hw:wrap64 ((t.size:Int)-((1:Nat):Int))=((t.size-1:Nat):Int):=by unfold wrap64;omega
  rw [if_pos h0,hw,if_pos (by omega),if_pos (by omega),Option.bind_some,Int.toNat_natCast]
  congr 1
  rw [Lib.toList_data,Lib.extract_data,Lib.toList_data];obtain⟨ys,y,hy⟩:∃ ys y,t.data.toList=ys++[y]:=by
   have hne:t.data.toList≠[]:=fun e=>by rw [e] at e2;simp at e2;omega
   exact⟨_,_,(List.dropLast_concat_getLast hne).symm⟩
  have hyl:ys.length=t.size-1:=by rw [hy] at e2;simp at e2;omega
  rw [hy,← hyl,List.drop_left,last_app];have e3:t.size-ys.length=1:=by omega
  rw [e3]
  show ([y]==[10])=decide (some y=some 10)
  by_cases hyy:y=10
  ·
   subst hyy;rfl
  ·
   simp [hyy]
 ·
  rw [if_neg h0,Option.bind_some];have:t.data.toList=[]:=List.eq_nil_of_length_eq_zero (by omega);rw [this];rfl
theorem trimSuffix_nl (t:ByteArray)(hs:t.size≤1000){u:List UInt8}(h:unl t.data.toList=some u):strings_TrimSuffix.f t (⟨#[10]⟩:ByteArray)=some ⟨u.toArray⟩:=by
 have hl:=unl_some h;have h2:=hasSuffix_nl t hs;unfold strings_HasSuffix.f at h2;have h3:stringslite_HasSuffix.f t (⟨#[10]⟩:ByteArray)=some true:=by
  cases hh:stringslite_HasSuffix.f t (⟨#[10]⟩:ByteArray) with
  | none=>rw [hh] at h2;cases h2
  | some b =>
   rw [hh,Option.bind_some] at h2;rw [Option.some.inj h2,hl,last_app];rfl
 unfold strings_TrimSuffix.f stringslite_TrimSuffix.f;have z:(⟨#[10]⟩:ByteArray).size=1:=rfl;have e2:t.data.toList.length=t.size:=by rw [Array.length_toList];rfl
 have e3:u.length+1=t.size:=by rw [← e2,hl];simp
 have hw:wrap64 ((t.size:Int)-((1:Nat):Int))=((u.length:Nat):Int):=by unfold wrap64;omega
 rw [h3,Option.bind_some,if_pos rfl,z,hw,if_pos (by omega),if_pos (by omega),Option.bind_some,Int.toNat_natCast]
 congr 1
 apply ByteArray.ext;apply Array.toList_inj.1
 show (t.extract 0 u.length).data.toList=u
 rw [Lib.extract_data,hl];simp
theorem lines_l (ls:List ByteArray)(hl:ls.length≤1000):∀ (m i k:Nat) (o:List S70) (Z:List (List S70)),ls.length-i=m→1≤i→m+1≤k→Z.length≤i→impl_PlateRead.l0 k ls (ls.length:Int) (i:Int) o Z=some (match allOf readLL (ls.drop i) with | some Hs=>finR o (Z++Hs) | none=>badR):=by
 intro m
 induction m with
 | zero =>
  intro i k o Z hm hi hk hz;obtain⟨k,rfl⟩:∃ q,k=q+1:=⟨k-1,by omega⟩;rw [impl_PlateRead.l0,if_neg (by omega),List.drop_eq_nil_of_le (by omega)];unfold impl_PlateOk.f;rw [Option.bind_some];simp only [allOf,List.append_nil];unfold finR;cases bodyOkB o Z <;> rfl
 | succ m ih =>
  intro i k o Z hm hi hk hz;obtain⟨k,rfl⟩:∃ q,k=q+1:=⟨k-1,by omega⟩;have hlt:i<ls.length:=by omega
  obtain⟨x,hx⟩:∃ x,rdOf ByteArray.empty ls (i:Int)=x:=⟨_,rfl⟩;have hd:=allOf_at hlt hx;rw [impl_PlateRead.l0,if_pos (by omega),if_pos (by omega),if_pos (by omega),hx,hd,allOf];unfold impl_LoopRead.f;rw [Option.bind_some];unfold readLL;by_cases hr:(readL x).2=true
  ·
   rw [if_pos hr,if_pos hr,if_neg (by omega),if_pos (by omega),succ64 (by omega),ih (i+1) k _ _ (by omega) (by omega) (by omega) (by simp only [List.length_append,List.length_cons,List.length_nil];omega),Option.bind_some];unfold readLL
   cases allOf (fun t=>if (readL t).2=true then some (readL t).1 else none) (ls.drop (i+1)) with
   | none=>rfl
   | some Hs=>simp
  ·
   rw [if_neg hr,if_neg hr];rfl
theorem lines_f (ls:List ByteArray)(h0:0<ls.length)(hl:ls.length≤1000){k:Nat}(hk:ls.length+1≤k):impl_PlateRead.l0 k ls (ls.length:Int) 0 [] []=some (linesR ls):=by
 obtain⟨k,rfl⟩:∃ q,k=q+1:=⟨k-1,by omega⟩;obtain⟨x,hx⟩:∃ x,rdOf ByteArray.empty ls ((0:Nat):Int)=x:=⟨_,rfl⟩;have hd:=allOf_at h0 hx;rw [List.drop_zero] at hd;have hx0:rdOf ByteArray.empty ls 0=x:=hx;rw [impl_PlateRead.l0,if_pos (by omega),if_pos (by omega),if_pos (by omega),hx0];unfold impl_LoopRead.f linesR;rw [Option.bind_some,hd,allOf];unfold readLL;have ew:wrap64 (0+1)=((1:Nat):Int):=succ64 (i:=0) (by omega);by_cases hr:(readL x).2=true
 ·
  rw [if_pos hr,if_pos rfl,if_pos hr,ew,← hd,lines_l ls hl (ls.length-1) 1 k _ _ rfl (Nat.le_refl _) (by omega) (by simp),Option.bind_some];unfold readLL
  cases allOf (fun t=>if (readL t).2=true then some (readL t).1 else none) (ls.drop (0+1)) with
  | none=>rfl
  | some Hs=>rfl
 ·
  rw [if_neg hr,if_neg hr];rfl
theorem iPlateRead {k:Nat}(hk:200≤k)(t:ByteArray):impl_PlateRead.f k t=some (readPl t):=by
 obtain⟨k,rfl⟩:∃ q,k=q+1:=⟨k-1,by omega⟩;unfold impl_PlateRead.f readPl;by_cases h120:t.size≤120
 ·
  rw [if_neg (by omega),if_pos h120,hasSuffix_nl t (by omega),Option.bind_some,impl_PlateRead.j0]
  cases hu:unl t.data.toList with
  | none =>
   have:¬ t.data.toList.getLast?=some 10:=fun e=>by unfold unl at hu;rw [if_pos e] at hu;cases hu
   rw [decide_eq_false this,if_pos (show (!false)=true from rfl)];rfl
  | some u =>
   have hl:=unl_some hu;have:t.data.toList.getLast?=some 10:=by rw [hl,last_app]
   rw [decide_eq_true this,if_neg (by decide),trimSuffix_nl t (by omega) hu,Option.bind_some];have e2:t.data.toList.length=t.size:=by rw [Array.length_toList];rfl
   have e3:u.length+1=t.size:=by rw [← e2,hl];simp
   have hsp:strings_Split.f ⟨u.toArray⟩ ⟨#[10]⟩=some (cutB 10 ⟨u.toArray⟩):=by unfold strings_Split.f;rw [if_pos (by rw [ba_size];omega)]
   have hcl:=cutB_len 10 ⟨u.toArray⟩;rw [ba_size] at hcl;rw [hsp,Option.bind_some,lines_f _ hcl.1 (by omega) (by omega)]
 ·
  rw [if_pos (by omega),if_neg h120,impl_PlateRead.j0,if_pos rfl];rfl
theorem luSame_l (z:List S70)(hl:z.length≤1000):∀ (m i k:Nat),z.length-i=m→m+1≤k→laws_luSame.l0 k z z (i:Int)=some true:=by
 intro m
 induction m with
 | zero =>
  intro i k hm hk;obtain⟨k,rfl⟩:∃ q,k=q+1:=⟨k-1,by omega⟩;rw [laws_luSame.l0,if_neg (by omega)]
 | succ m ih =>
  intro i k hm hk;obtain⟨k,rfl⟩:∃ q,k=q+1:=⟨k-1,by omega⟩;rw [laws_luSame.l0,if_pos (by omega),if_pos (by omega),if_pos (by omega),if_neg (by simp),succ64 (by omega)];exact ih (i+1) k (by omega) (by omega)
theorem luSame_f {k:Nat}(z:List S70)(hl:z.length≤1000)(hk:z.length+1≤k):laws_luSame.f k z z=some true:=by
 unfold laws_luSame.f;rw [if_pos rfl];exact luSame_l z hl z.length 0 k (by omega) hk
theorem luPlates_l (o:List S70)(H:List (List S70))(hl:H.length≤1000)(hz:∀ z∈H,z.length≤1000):∀ (m i k:Nat),H.length-i=m→m+1100≤k→laws_luPlates.l0 k (i:Int) o H o H=some true:=by
 intro m
 induction m with
 | zero =>
  intro i k hm hk;obtain⟨k,rfl⟩:∃ q,k=q+1:=⟨k-1,by omega⟩;rw [laws_luPlates.l0,if_neg (by omega)]
 | succ m ih =>
  intro i k hm hk;obtain⟨k,rfl⟩:∃ q,k=q+1:=⟨k-1,by omega⟩;have hlt:i<H.length:=by omega
  have ht:=rdL_take hlt;obtain⟨z,hze⟩:∃ z,rd_L5 H (i:Int)=z:=⟨_,rfl⟩;rw [hze] at ht;have hzm:z∈H:=List.mem_of_mem_take (i:=i+1) (by rw [ht];simp);have:=hz z hzm;rw [laws_luPlates.l0,if_pos (by omega),if_pos (by omega),if_pos (by omega),hze,luSame_f z (by omega) (by omega),Option.bind_some,if_pos rfl,succ64 (by omega)];exact ih (i+1) k (by omega) (by omega)
theorem luPlates_f {k:Nat}{o:List S70}{H:List (List S70)}(ho:o.length≤1000)(hl:H.length≤1000)(hz:∀ z∈H,z.length≤1000)(hk:2200≤k):laws_luPlates.f k o H o H=some true:=by
 obtain⟨k,rfl⟩:∃ q,k=q+1:=⟨k-1,by omega⟩;unfold laws_luPlates.f;rw [luSame_f o ho (by omega),Option.bind_some,if_pos rfl];have e:((H.length:Int) != (H.length:Int))=false:=by simp
 rw [e,laws_luPlates.j0,if_neg (by decide)];exact luPlates_l o H hl hz H.length 0 k (by omega) (by omega)
end Go.Proofs.YtailkppkjhkjpaaGreatDoor.X
end
section
set_option linter.unusedVariables false
set_option linter.unusedSimpArgs false
namespace Go.Proofs.YtailkppkjhkjpaaGreatDoor.X
open Go.RowKit Go.Shelf Go.Proofs.YtailkppkjhkjpaaGreatDoorW.PrintWords Go.Proofs.YtailkppkjhkjpaaGreatDoorW.PrintLast Go.Proofs.YtailkppkjhkjpaaGreatDoorW.PrintMore
open Mort (ptOk loopOk plateOk)
open Txt (fig wrPt wrLoop wrLines allOf cutAt small isFig rdPt)
theorem l6In_fig (a:UInt8):spec_l6In.f (wrap64 (a.toNat:Int)) 48 57=some (isFig a):=by
 have hx:a.toNat<256:=a.toNat_lt;have hw:wrap64 (a.toNat:Int)=(a.toNat:Int):=by unfold wrap64;omega
 unfold spec_l6In.f isFig;rw [hw];by_cases h1:48≤a.toNat
 ·
  have:(48:Int)≤(a.toNat:Int):=by omega
  by_cases h2:a.toNat≤57
  ·
   have:(a.toNat:Int)≤57:=by omega
   simp [*]
  ·
   have:¬ (a.toNat:Int)≤57:=by omega
   simp [*]
 ·
  have:¬ (48:Int)≤(a.toNat:Int):=by omega
  simp [*]
theorem l3_word {R:Type}(x:ByteArray)(A:S70→Option R)(Z:Option R):
  (if (x.size:Int)=3 then (if 1<(x.size:Int) then (if bt x 1=44 then (if 0<(x.size:Int) then ((spec_l6In.f (wrap64 (bt x 0)) 48 57).bind fun t=>(if t=true then (if 2<(x.size:Int) then ((spec_l6In.f (wrap64 (bt x 2)) 48 57).bind fun t=>(if t=true then A ⟨(bt x 0-48) % 256,(bt x 2-48) % 256⟩ else Z)) else none) else Z)) else none) else Z) else none) else Z)=match rdS x with | some p=>A p | none=>Z:=by
 obtain⟨⟨l⟩⟩:=x;have hsz:((⟨⟨l⟩⟩:ByteArray).size:Int)=(l.length:Int):=rfl;rw [hsz];by_cases h3:(l.length:Int)=3
 ·
  rw [if_pos h3,if_pos (by omega),if_pos (show 0<(l.length:Int) by omega),if_pos (show 2<(l.length:Int) by omega)];obtain⟨a,k,b,rfl⟩:∃ a k b,l=[a,k,b]:=by
   match l,h3 with
   | [a,k,b],_=>exact⟨a,k,b,rfl⟩
   | [],h=>simp at h
   | [_],h=>simp at h
   | [_,_],h=>simp at h
   | _::_::_::_::_,h=>simp at h;omega
  have e0:bt (⟨⟨[a,k,b]⟩⟩:ByteArray) 0=(a.toNat:Int):=rfl;have e1:bt (⟨⟨[a,k,b]⟩⟩:ByteArray) 1=(k.toNat:Int):=rfl;have e2:bt (⟨⟨[a,k,b]⟩⟩:ByteArray) 2=(b.toNat:Int):=rfl;have er:rdS ⟨⟨[a,k,b]⟩⟩=if k=44 && (isFig a && isFig b) then some ⟨(a.toNat:Int)-48,(b.toNat:Int)-48⟩ else none:=by
   unfold rdS
   show (rdPt [a,k,b]).map _=_
   rw [Txt.rdPt3]
   split <;> rfl
  rw [er,e0,e1,e2,l6In_fig,l6In_fig];simp only [Option.bind_some];by_cases hk:k=44
  ·
   subst hk;rw [if_pos (by decide)]
   cases ha:isFig a with
   | false=>rfl
   | true =>
    cases hb:isFig b with
    | false=>rfl
    | true =>
     have ha2:48≤a.toNat∧a.toNat≤57:=by unfold isFig at ha;simpa using ha
     have hb2:48≤b.toNat∧b.toNat≤57:=by unfold isFig at hb;simpa using hb
     have z1:((a.toNat:Int)-48) % 256=(a.toNat:Int)-48:=by omega
     have z2:((b.toNat:Int)-48) % 256=(b.toNat:Int)-48:=by omega
     rw [z1,z2];rfl
  ·
   have hk2:¬ ((k.toNat:Int)=44):=by
    intro e;exact hk (UInt8.toNat_inj.1 (by show k.toNat=44;omega))
   rw [if_neg hk2];simp [hk]
 ·
  rw [if_neg h3];have er:rdS ⟨⟨l⟩⟩=none:=by
   unfold rdS
   show (rdPt l).map _=_
   match l,h3 with
   | [a,k,b],h=>simp at h
   | [],_=>rfl
   | [_],_=>rfl
   | [_,_],_=>rfl
   | _::_::_::_::_,_=>rfl
  rw [er]
def wordsR (ws:List ByteArray)(acc:List S70):List S70 × Bool:=match allOf rdS ws with | some l=>(acc++l,true) | none=>([],false)
theorem l3Read_l (ws:List ByteArray)(hl:ws.length≤2000):∀ (m i k:Nat) (acc:List S70),ws.length-i=m→m+1≤k→acc.length≤i→spec_l3Read.l0 k acc ws (i:Int)=some (wordsR (ws.drop i) acc):=by
 intro m
 induction m with
 | zero =>
  intro i k acc hm hk ha;obtain⟨k,rfl⟩:∃ q,k=q+1:=⟨k-1,by omega⟩;rw [spec_l3Read.l0,if_neg (by omega),List.drop_eq_nil_of_le (by omega)];unfold wordsR;simp [allOf]
 | succ m ih =>
  intro i k acc hm hk ha;obtain⟨k,rfl⟩:∃ q,k=q+1:=⟨k-1,by omega⟩;have hlt:i<ws.length:=by omega
  obtain⟨x,hx⟩:∃ x,rdOf ByteArray.empty ws (i:Int)=x:=⟨_,rfl⟩;have hd:=allOf_at hlt hx;rw [spec_l3Read.l0,if_pos (by omega),if_pos (by omega),hx];refine (l3_word x (fun p=>if acc.length<8796093022208 then (spec_l3Read.l0 k (acc++[p]) ws (wrap64 ((i:Int)+1))) else none) (some ([],false))).trans ?_;rw [hd];unfold wordsR;rw [allOf]
  cases hr:rdS x with
  | none=>rfl
  | some p =>
   simp only;rw [if_pos (by omega),succ64 (by omega),ih (i+1) k _ (by omega) (by omega) (by simp only [List.length_append,List.length_cons,List.length_nil];omega),Option.bind_some];unfold wordsR
   cases allOf rdS (ws.drop (i+1)) with
   | none=>rfl
   | some l=>simp
def readS (t:ByteArray):Option (List S70):=allOf rdS (cutB 32 t)
theorem sL3Read {k:Nat}{t:ByteArray}(ht:t.size≤1000)(hk:1100≤k):spec_l3Read.f k t=some (match readS t with | some l=>(l,true) | none=>([],false)):=by
 unfold spec_l3Read.f;have hc:spec_l3Cut.f t 32=some (cutB 32 t):=by
  unfold spec_l3Cut.f;rw [if_pos ⟨ht,by decide,by decide⟩];rfl
 have hcl:=cutB_len 32 t;rw [hc,Option.bind_some];refine (l3Read_l (cutB 32 t) (by omega) _ 0 k [] rfl (by omega) (Nat.zero_le _)).trans ?_;rw [List.drop_zero];unfold wordsR readS
 cases allOf rdS (cutB 32 t) with
 | none=>rfl
 | some l=>simp
theorem rdS_text {x:ByteArray}{p:S70}(h:rdS x=some p):x=ptT p∧True:=by
 refine⟨?_,trivial⟩;unfold rdS at h
 cases hr:rdPt x.data.toList with
 | none=>rw [hr] at h;cases h
 | some q =>
  rw [hr] at h;obtain rfl:=Option.some.inj h;have:=(Txt.wr_rd hr).1;apply ByteArray.ext;apply Array.toList_inj.1;exact this
theorem readS_len {t:ByteArray}{l:List S70}(h:readS t=some l):t.size+1=4*l.length:=by
 unfold readS at h;have hm:=(Txt.map_allOf (g:=ptT) (P:=fun _=>True) (fun x y hxy=>rdS_text hxy) h).1;have hj:=Txt.join_cut 32 t.data.toList;have hcm:cutAt 32 t.data.toList=l.map fun p=>wrPt (ptP p):=by
  have:(cutB 32 t).map (fun x=>x.data.toList)=cutAt 32 t.data.toList:=by
   unfold cutB;rw [List.map_map];exact List.map_id _
  rw [← this,← hm,List.map_map];rfl
 rw [hcm] at hj;obtain⟨z,zs,hz⟩:=Txt.cutAt_ne 32 t.data.toList;have e2:t.data.toList.length=t.size:=by rw [Array.length_toList];rfl
 cases l with
 | nil=>rw [hcm] at hz;cases hz
 | cons p ps =>
  have:=Txt.loop_len (ptP p) (ps.map ptP);unfold wrLoop at this;rw [← List.map_cons,List.map_map] at this;have hj2:=congrArg List.length hj;rw [show (fun p=>wrPt (ptP p))=wrPt ∘ ptP from rfl,this,e2,List.length_map] at hj2;rw [List.length_cons];omega
theorem readLL_S (t:ByteArray):readLL t=(readS t).bind fun l=>if loopOk (l.map ptP) then some l else none:=by
 unfold readLL readL;by_cases h40:t.size≤40
 ·
  rw [if_pos h40]
  show _=(allOf rdS (cutB 32 t)).bind _
  cases allOf rdS (cutB 32 t) with
  | none=>rfl
  | some l =>
   simp only [Option.bind_some];cases loopOk (l.map ptP) <;> rfl
 ·
  rw [if_neg h40]
  cases hr:readS t with
  | none=>rfl
  | some l =>
   have hlen:=readS_len hr;have hn:¬ loopOk (l.map ptP)=true:=fun hl=>by have:=loop_len hl;omega
   rw [Option.bind_some,if_neg hn];rfl
theorem allOf_LL:∀ (ls:List ByteArray),allOf readLL ls=(allOf readS ls).bind fun L=>if L.all (fun l=>loopOk (l.map ptP)) then some L else none
 | []=>rfl
 | t::ls=>by
  rw [allOf,allOf,readLL_S,allOf_LL ls]
  cases readS t with
  | none=>rfl
  | some l =>
   simp only [Option.bind_some]
   cases allOf readS ls with
   | none =>
    simp only [Option.bind_none];cases loopOk (l.map ptP) <;> rfl
   | some L =>
    have h3:((l::L).all fun l=>loopOk (l.map ptP))=(loopOk (l.map ptP) && L.all fun l=>loopOk (l.map ptP)):=rfl;simp only [Option.bind_some];by_cases h1:loopOk (l.map ptP)=true
    ·
     by_cases h2:(L.all fun l=>loopOk (l.map ptP))=true
     ·
      rw [if_pos h1,if_pos h2,if_pos (h3.trans (by rw [h1,h2];rfl))];rfl
     ·
      rw [if_pos h1,if_neg h2,if_neg (fun h=>h2 (by rw [h3,h1,Bool.true_and] at h;exact h))];rfl
    ·
     rw [if_neg h1,Option.bind_none,if_neg (fun h=>h1 (by rw [h3,Bool.and_eq_true] at h;exact h.1))]
def linesS (ls:List ByteArray):PlR:=match allOf readS ls with | some (o::H)=>finR o H | _=>badR
theorem linesS_eq (ls:List ByteArray):linesS ls=linesR ls:=by
 unfold linesS linesR;rw [allOf_LL]
 cases allOf readS ls with
 | none=>rfl
 | some L =>
  simp only [Option.bind_some];by_cases ha:L.all (fun l=>loopOk (l.map ptP))=true
  ·
   rw [if_pos ha]
   all_goals rfl
  ·
   rw [if_neg ha]
   cases L with
   | nil=>rfl
   | cons o H =>
    simp only;unfold finR;rw [if_neg];intro hb;obtain⟨_,h1,hH,_,_⟩:=(bodyOkB_iff o H).1 hb;refine ha (List.all_eq_true.2 fun z hz=>?_)
    rcases List.mem_cons.1 hz with rfl | hz
    ·
     exact h1
    ·
     exact hH z hz
theorem finS {k:Nat}(hk:1000≤k)(o:List S70)(H:List (List S70)):((spec_PlateOk.f k o H).bind fun t=>(if t=true then (some (o,H,true)) else (some (([]:List S70),([]:List (List S70)),false))))=some (finR o H):=by
 rw [sPlateOk hk,Option.bind_some,← iBodyOk];unfold finR;cases bodyOkB o H <;> rfl
theorem linesS_l (ls:List ByteArray)(n:Nat)(hn:n+1=ls.length)(hl:ls.length≤1000)(hs:∀ x∈ls,x.size≤1000):∀ (m i k:Nat) (o:List S70) (Z:List (List S70)),n-i=m→1≤i→m+1300≤k→Z.length≤i→spec_PlateRead.l0 k ls (n:Int) (i:Int) o Z=some (match allOf readS ((ls.take n).drop i) with | some Hs=>finR o (Z++Hs) | none=>badR):=by
 intro m
 induction m with
 | zero =>
  intro i k o Z hm hi hk hz;obtain⟨k,rfl⟩:∃ q,k=q+1:=⟨k-1,by omega⟩;rw [spec_PlateRead.l0,if_neg (by omega),List.drop_eq_nil_of_le (by rw [List.length_take];omega),finS (by omega)];simp [allOf]
 | succ m ih =>
  intro i k o Z hm hi hk hz;obtain⟨k,rfl⟩:∃ q,k=q+1:=⟨k-1,by omega⟩;obtain⟨x,hx⟩:∃ x,rdOf ByteArray.empty ls (i:Int)=x:=⟨_,rfl⟩;have hx2:rdOf ByteArray.empty (ls.take n) (i:Int)=x:=by
   rw [← hx];unfold rdOf;rw [Int.toNat_natCast,List.getD_eq_getElem?_getD,List.getD_eq_getElem?_getD,List.getElem?_take_of_lt (by omega)]
  have hd:=allOf_at (xs:=ls.take n) (i:=i) (by rw [List.length_take];omega) hx2
  have hxs:x.size≤1000:=hs x (by
   have:x∈(ls.take n).drop i:=by rw [hd];simp
   exact List.mem_of_mem_take (List.mem_of_mem_drop this))
  rw [spec_PlateRead.l0,if_pos (by omega),if_pos (by omega),if_pos (by omega),hx,sL3Read hxs (by omega),Option.bind_some,hd,allOf]
  cases readS x with
  | none=>rfl
  | some l =>
   simp only [Option.bind_some];rw [if_pos trivial,if_neg (by omega),if_pos (by omega),succ64 (by omega),ih (i+1) k _ _ (by omega) (by omega) (by omega) (by simp only [List.length_append,List.length_cons,List.length_nil];omega)]
   cases allOf readS ((ls.take n).drop (i+1)) with
   | none=>rfl
   | some Hs=>simp
theorem linesS_f (ls:List ByteArray)(n:Nat)(hn:n+1=ls.length)(h0:0<n)(hl:ls.length≤1000)(hs:∀ x∈ls,x.size≤1000){k:Nat}(hk:2500≤k):spec_PlateRead.l0 k ls (n:Int) 0 [] []=some (linesS (ls.take n)):=by
 obtain⟨k,rfl⟩:∃ q,k=q+1:=⟨k-1,by omega⟩;obtain⟨x,hx⟩:∃ x,rdOf ByteArray.empty ls ((0:Nat):Int)=x:=⟨_,rfl⟩;have hx2:rdOf ByteArray.empty (ls.take n) ((0:Nat):Int)=x:=by
  rw [← hx];unfold rdOf;rw [Int.toNat_natCast,List.getD_eq_getElem?_getD,List.getD_eq_getElem?_getD,List.getElem?_take_of_lt (by omega)]
 have hd:=allOf_at (xs:=ls.take n) (i:=0) (by rw [List.length_take];omega) hx2;rw [List.drop_zero] at hd;have hxs:x.size≤1000:=hs x (List.mem_of_mem_take (i:=n) (by rw [hd];simp));have hx0:rdOf ByteArray.empty ls 0=x:=hx;have ew:wrap64 (0+1)=((1:Nat):Int):=succ64 (i:=0) (by omega);rw [spec_PlateRead.l0,if_pos (by omega),if_pos (by omega),if_pos (by omega),hx0,sL3Read hxs (by omega),Option.bind_some];unfold linesS;have hal:allOf readS (ls.take n)=allOf readS (x::(ls.take n).drop (0+1)):=congrArg _ hd;rw [hal,allOf]
 cases readS x with
 | none=>rfl
 | some l =>
  simp only [Option.bind_some];rw [if_pos trivial,if_pos trivial,ew,linesS_l ls n hn hl hs (n-1) 1 k _ _ rfl (Nat.le_refl _) (by omega) (by simp)]
  cases allOf readS ((ls.take n).drop (0+1)) with
  | none=>rfl
  | some Hs=>rfl
theorem cutB_snoc (u:List UInt8):cutB 10 ⟨(u++[10]).toArray⟩=cutB 10 ⟨u.toArray⟩++[⟨#[]⟩]:=by
 unfold cutB
 show (cutAt 10 (u++[10])).map _=(cutAt 10 u).map _++_
 rw [cut_snoc_eq,List.map_append];rfl
theorem cutB_size (c:UInt8)(t:ByteArray):∀ x∈cutB c t,x.size≤t.size:=by
 intro x hx;obtain⟨l,hl,rfl⟩:=List.mem_map.1 hx;have:=Txt.cut_piece c t.data.toList l hl;have e2:t.data.toList.length=t.size:=by rw [Array.length_toList];rfl
 show l.length≤_
 omega
theorem sPlateRead {k:Nat}(hk:3000≤k)(t:ByteArray):spec_PlateRead.f k t=some (readPl t):=by
 obtain⟨k,rfl⟩:∃ q,k=q+1:=⟨k-1,by omega⟩;unfold spec_PlateRead.f readPl;by_cases h120:t.size≤120
 ·
  have hc:spec_l3Cut.f t 10=some (cutB 10 t):=by
   unfold spec_l3Cut.f;rw [if_pos ⟨by omega,by decide,by decide⟩];rfl
  have hcl:=cutB_len 10 t;rw [if_neg (by omega),if_pos h120,hc,Option.bind_some];have hw:wrap64 (((cutB 10 t).length:Int)-1)=(((cutB 10 t).length-1:Nat):Int):=by unfold wrap64;omega
  rw [hw];have hsz:=cutB_size 10 t
  cases hu:unl t.data.toList with
  | none =>
   have hnl:¬ t.data.toList.getLast?=some 10:=fun e=>by unfold unl at hu;rw [if_pos e] at hu;cases hu
   by_cases h1:(((cutB 10 t).length-1:Nat):Int)<1
   ·
    rw [if_pos h1,spec_PlateRead.j0,if_pos rfl];rfl
   ·
    rw [if_neg h1,if_pos (by omega),if_pos (by omega)];have hlast:((rdOf ByteArray.empty (cutB 10 t) (((cutB 10 t).length-1:Nat):Int)).toList != ([]:List UInt8))=true:=by
     rcases List.eq_nil_or_concat t.data.toList with e | ⟨u,b,e⟩
     ·
      exfalso
      have:cutB 10 t=[⟨#[]⟩]:=by unfold cutB;rw [e];rfl
      rw [this] at h1;exact h1 (by decide)
     ·
      have hb:b≠10:=fun h=>hnl (by rw [e,h,List.concat_eq_append,last_app])
      obtain⟨xs,x,e1,e2⟩:=cut_snoc_ne hb u;rw [List.concat_eq_append] at e;have ec:cutB 10 t=(xs.map fun l=>(⟨l.toArray⟩:ByteArray))++[⟨(x++[b]).toArray⟩]:=by unfold cutB;rw [e,e2,List.map_append];rfl
      have er:rdOf ByteArray.empty (cutB 10 t) (((cutB 10 t).length-1:Nat):Int)=⟨(x++[b]).toArray⟩:=by
       rw [ec];unfold rdOf;rw [Int.toNat_natCast];simp
      rw [er,Lib.toList_data];simp
    rw [hlast,spec_PlateRead.j0,if_pos rfl];rfl
  | some u =>
   have hl:=unl_some hu;have et:t=⟨(u++[10]).toArray⟩:=by
    apply ByteArray.ext;apply Array.toList_inj.1;exact hl
   have ec:cutB 10 t=cutB 10 ⟨u.toArray⟩++[⟨#[]⟩]:=by rw [et];exact cutB_snoc u
   have hcu:=cutB_len 10 ⟨u.toArray⟩;obtain⟨us,hus⟩:∃ us,cutB 10 ⟨u.toArray⟩=us:=⟨_,rfl⟩;rw [hus] at ec hcu;rw [ec] at hcl hsz ⊢
   have hlen:(us++[(⟨#[]⟩:ByteArray)]).length=us.length+1:=by simp
   rw [hlen,Nat.add_sub_cancel,if_neg (by omega),if_pos (by omega),if_pos (by omega)];have er:rdOf ByteArray.empty (us++[(⟨#[]⟩:ByteArray)]) (us.length:Int)=⟨#[]⟩:=by
    unfold rdOf;rw [Int.toNat_natCast];simp
   have ez:((⟨#[]⟩:ByteArray).toList != ([]:List UInt8))=false:=by rw [Lib.toList_data];rfl
   rw [er,ez,spec_PlateRead.j0,if_neg (by decide),linesS_f _ us.length (by rw [hlen]) (by omega) (by rw [hlen] at hcl ⊢;omega) (fun x hx=>by have:=hsz x hx;omega) (by omega),List.take_left,linesS_eq,← hus]
 ·
  rw [if_pos (by omega),if_neg h120];rfl
end Go.Proofs.YtailkppkjhkjpaaGreatDoor.X
end
section
set_option linter.unusedVariables false
set_option linter.unusedSimpArgs false
namespace Go.Proofs.YtailkppkjhkjpaaGreatDoor.Pure
open Go.RowKit Go.Proofs.YtailkppkjhkjpaaGreatDoor.X Go.Proofs.YtailkppkjhkjpaaGreatDoorW.PrintWords Go.Proofs.YtailkppkjhkjpaaGreatDoorW.PrintLast
open Mort (ptOk plateOk loopOk)
open Txt (allOf cutAt wrLoop wrPt)
theorem readS_text {t:ByteArray}{l:List S70}(h:readS t=some l):t=textOf l:=by
 unfold readS at h;have hm:=(Txt.map_allOf (g:=ptT) (P:=fun _=>True) (fun x y hxy=>rdS_text hxy) h).1;have hj:=Txt.join_cut 32 t.data.toList;have hcm:cutAt 32 t.data.toList=(l.map ptP).map wrPt:=by
  have:(cutB 32 t).map (fun x=>x.data.toList)=cutAt 32 t.data.toList:=by
   unfold cutB;rw [List.map_map];exact List.map_id _
  rw [← this,← hm,List.map_map,List.map_map];rfl
 rw [hcm] at hj;apply ByteArray.ext;apply Array.toList_inj.1;exact hj.symm
theorem readPl_strict {t:ByteArray}{o:List S70}{H:List (List S70)}(h:readPl t=(o,H,true)):bodyOkB o H=true∧t=⟨(linesOf (o::H)).toArray⟩:=by
 unfold readPl at h
 split at h
 ·
  cases hu:unl t.data.toList with
  | none=>rw [hu] at h;cases h
  | some u =>
   rw [hu] at h;simp only at h;rw [← linesS_eq] at h;unfold linesS at h
   cases ha:allOf readS (cutB 10 ⟨u.toArray⟩) with
   | none=>rw [ha] at h;cases h
   | some L =>
    rw [ha] at h
    cases L with
    | nil=>cases h
    | cons o' H' =>
     simp only at h;unfold finR at h
     cases hb:bodyOkB o' H' with
     | false=>rw [hb] at h;cases h
     | true =>
      rw [hb,if_pos rfl] at h;injection h with h3 h4;injection h4 with h4 _;subst h3 h4;refine⟨hb,?_⟩;have hm:=(Txt.map_allOf (g:=textOf) (P:=fun _=>True) (fun x y hxy=>⟨readS_text hxy,trivial⟩) ha).1;have hj:=Txt.join_cut 10 u;have hcm:cutAt 10 u=((o'::H').map (List.map ptP)).map wrLoop:=by
       have:(cutB 10 ⟨u.toArray⟩).map (fun x=>x.data.toList)=cutAt 10 u:=by
        unfold cutB;rw [List.map_map];exact List.map_id _
       rw [← this,← hm,List.map_map,List.map_map];rfl
      rw [hcm] at hj;have hl:=unl_some hu;have e1:linesOf (o'::H')=Go.Lib.join (((o'::H').map (List.map ptP)).map wrLoop) [10]++[10]:=by
       unfold linesOf;rw [List.map_cons];exact Txt.wrLines_join _ _
      apply ByteArray.ext;apply Array.toList_inj.1
      show t.data.toList=linesOf (o'::H')
      rw [hl,e1,hj]
 ·
  cases h
theorem FnPlateStrict:laws_FnPlateStrict.Pure:=by
 intro l _ _ hw;obtain⟨s,hd⟩:=drawPlateRead l hw;refine⟨400000+1,?_⟩;unfold laws_FnPlateStrict.f
 split
 ·
  rfl
 rw [hd _ (by omega),Option.bind_some,sPlateRead (by omega),Option.bind_some,iPlateRead (by omega),Option.bind_some]
 rcases hr:readPl s with ⟨o,H,b⟩
 simp only;have hbb:(b != b)=false:=by cases b <;> rfl
 rw [hbb,if_neg (by decide)]
 cases b with
 | false =>
  have hoH:o=[]∧H=[]:=by
   have key:∀ ls,(linesR ls).2.2=false→linesR ls=badR:=by
    intro ls;unfold linesR
    split
    ·
     unfold finR
     split
     ·
      intro h;cases h
     ·
      intro _;rfl
    ·
     intro _;rfl
   have:readPl s=badR:=by
    have hb:(readPl s).2.2=false:=by rw [hr]
    unfold readPl at hb ⊢
    split
    ·
     rename_i h120
     rw [if_pos h120] at hb
     cases hu:unl s.data.toList with
     | none=>rfl
     | some u =>
      rw [hu] at hb;exact key _ hb
    ·
     rfl
   rw [hr] at this;cases this;exact⟨rfl,rfl⟩
  obtain⟨rfl,rfl⟩:=hoH;have hlu:∀ k,2200≤k→laws_luPlates.f k ([]:List S70) ([]:List (List S70)) [] []=some true:=fun k hk=>luPlates_f (by simp) (by simp) (by simp) hk
  rw [hlu _ (by omega),Option.bind_some,if_pos rfl,laws_FnPlateStrict.j0,if_pos (by rfl),if_pos (by rfl),hlu _ (by omega),Option.bind_some]
 | true =>
  obtain⟨hb,hs⟩:=readPl_strict hr;obtain⟨h2,h1,hH,_,_⟩:=(bodyOkB_iff o H).1 hb;have lo:=loop_len h1;rw [luPlates_f (o:=o) (H:=H) (by omega) (by omega) (fun z hz=>by have:=loop_len (hH z hz);omega) (by omega),Option.bind_some,if_pos rfl,laws_FnPlateStrict.j0,if_neg (by decide)];unfold impl_PlateOk.f impl_PlateText.f;rw [hb,Option.bind_some,if_pos rfl,if_pos rfl,Option.bind_some,← hs];simp
end Go.Proofs.YtailkppkjhkjpaaGreatDoor.Pure
end
section
namespace Go.Proofs.YtailkppkjhkjpaaGreatDoorW.PrintWords
open Go.ChangeShapes Go.WideShapes
theorem sized_ints {H:Type}{enc:TypeId × Value→H}{P:Program}{W:World}{base:Nat}{spare:Nat→Bool}{held:Bool}{t e:TypeId}{k:IntKind}{a:Option Addr}{len cap:Nat}{d:DataW H}{ps:List MemPlace}{ts:List TypeId}{ds:List (DataW H)}{j:Nat}
  (hsz:(DataW.weightsEach P ts ds).all (· ≤ reachBytes)=true) (ht:ts[j]?=some t) (hd:ds[j]?=some d) (hu:P.underlying t=some (.slice e)) (he:P.underlying e=some (.int k)) (hc:P.cellsOf e=1) {B:Nat} (hB:P.bytesOf e=B)
  (h:DataW.Trod enc P W base spare held t (.slice a len cap) d ps):len*B≤140737488351232:=by
 obtain⟨fuel,hf⟩:=h
 rcases open_ints hu he hc hf with ⟨hcs,_⟩ | ⟨x,l,c,zs,hcs,_,hl,_,hz,hx,_,_⟩
 ·
  simp [Value.cells] at hcs;obtain⟨rfl,rfl,rfl⟩:=hcs;simp
 ·
  simp [Value.cells] at hcs;obtain⟨rfl,rfl,rfl⟩:=hcs;obtain⟨hx,_⟩:=Prod.mk.inj hx;subst hx;have z:=sized_slice hsz ht hd hu;rw [hB] at z;have hl2:len≤zs.length:=by
   rw [hz]
   split
   ·
    exact hl
   ·
    exact Nat.le_refl _
  have h1:(lits (H:=H) k (zs.take len)).length+(lits (H:=H) k (zs.drop len)).length=zs.length:=by
   simp [lits];omega
  rw [h1] at z;exact Nat.le_trans (Nat.mul_le_mul_right _ hl2) z
end Go.Proofs.YtailkppkjhkjpaaGreatDoorW.PrintWords
end
