/- FnExactToolFits: the law returns true for every input, and each input reads behind the call as before; part 4 of 5. No condition. Merged by program out of: HSeg, HBodyFar, HL3In, FSpecPlateOk, EvPlate, EvPlateS, HPlateFar, FImplToolOk, HFits, FSpecL11Edges, EvPlateF, EvDraws, Told. -/
import Derived.Test.YtkefmnmoaomlhaaDoorMFnExactToolFits3
import Derived.RegionTactic
import Derived.ChangeAlike
import Derived.OwnWalk
import Derived.Outline
import Derived.Deep.RegionHeld3
import Derived.WalkLawsBesides
import Derived.Deep.LoopGhost
import Derived.Deep.RegionWith
import Derived.Deep.Cut
set_option linter.all false
section
set_option linter.unusedVariables false
set_option linter.unusedSimpArgs false
namespace Go.Proofs.YtkefmnmoaomlhaaDoor.X
open Go.RowKit Go.Proofs.YtkefmnmoaomlhaaDoorW.PrintWords Go.Proofs.YtkefmnmoaomlhaaDoorW.PrintLast Go.Proofs.YtkefmnmoaomlhaaDoorW.PrintMore
open Mort
theorem blk_on {w w1:World}{g:Nat}{o:Obj}(hb:Below w.heap.size w w1)(h:w.heap[g]?=some o):w1.heap[g]?=some o:=blk_below h hb
section
variable (bs bp:Nat) (a b c d e f:Int) (w:World) (k:Nat)
 (hs:w.heap[bs]?=some (.cells #[.int .i64 a,.int .i64 b,.int .i64 c,.int .i64 d] 61 (0,0)))
 (hp:w.heap[bp]?=some (.cells #[.int .i64 e,.int .i64 f] 28 (0,0)))
include hs hp
set_option maxHeartbeats 1000000 in
set_option maxRecDepth 100000 in
theorem far1 {m n1 n2:Int}(h1:impl_between.f a b e f=some m)(h2:impl_FracOf.f k m 1=some (n1,n2,true)):
  Calls Tryd.prog 78 #[.pointer (some ⟨bs,0,none⟩),.pointer (some ⟨bp,0,none⟩)] w fun x w'=>x=.returned (.tuple #[.agg #[.int .i64 n1,.int .i64 n2],.bool true])∧Below w.heap.size w w':=by
 have hB0:=below_alloc (Below.refl w.heap.size w) (.cells #[.int .i64 0,.int .i64 0] 35);have hs1:=blk_on hB0 hs;have hp1:=blk_on hB0 hp;have hn1:=heap_alloc_new w (.cells #[.int .i64 0,.int .i64 0] 35);have HB0:=Aside0.mk hB0;have HN1:=Aside0.mk hn1;have H1:=Aside0.mk h1;have H2:=Aside0.mk h2;have q0:(w.alloc (.cells #[.int .i64 0,.int .i64 0] 35)).cell? ⟨bs,0,none⟩=some (.int .i64 a):=(blk_cell hs1 0).trans rfl;have q1:(w.alloc (.cells #[.int .i64 0,.int .i64 0] 35)).cell? ⟨bs,1,none⟩=some (.int .i64 b):=(blk_cell hs1 1).trans rfl;have q2:(w.alloc (.cells #[.int .i64 0,.int .i64 0] 35)).cell? ⟨bp,0,none⟩=some (.int .i64 e):=(blk_cell hp1 0).trans rfl;have q3:(w.alloc (.cells #[.int .i64 0,.int .i64 0] 35)).cell? ⟨bp,1,none⟩=some (.int .i64 f):=(blk_cell hp1 1).trans rfl;have hu1:=Tryd.underlying61;have hu2:=Tryd.underlying28;have hu3:=Tryd.underlying35;clear h1 h2 hs hp hs1 hp1 hn1 hB0;go_enter Tryd.func78,Tryd.ntmps78;go_wp2_with fail;refine (impl_between.calls a b e f m _ H1.out).mono ?_;rintro x w1 ⟨rfl,hb⟩;have HB1:=a0_ (below_step HB0.out hb);have HN2:=a0_ (blk_on hb HN1.out);clear hb q0 q1 q2 q3 HN1;go_wp2_with fail;refine (impl_FracOf.calls k m 1 n1 n2 true _ H2.out).mono ?_;rintro x w2 ⟨rfl,hb⟩;have HB2:=a0_ (below_step HB1.out hb);have HN3:=a0_ (blk_on hb HN2.out);have q0:w2.cell? ⟨w.heap.size,0,none⟩=some (.int .i64 0):=(blk_cell HN3.out 0).trans rfl;have q1:w2.cell? ⟨w.heap.size,1,none⟩=some (.int .i64 0):=(blk_cell HN3.out 1).trans rfl;have q2:=blk_frozen HN3.out 0;have q3:=blk_frozen HN3.out 1;clear hb HN2;go_wp2_with fail;refine bodyPost_ret (results_ct rfl _ _ w.heap.size 35 #[.int .i64 n1,.int .i64 n2] (0,0) _ rfl (by refine blk_put (cs:=#[.int .i64 n1,.int .i64 0]) ?_ 1 _ rfl;refine blk_put (cs:=#[.int .i64 0,.int .i64 0]) ?_ 0 _ rfl;exact HN3.out) Tryd.underlying35 rfl (by kernel_rfl)) rfl ?_
 exact⟨rfl,by refine below_set ?_ (Nat.le_refl _);refine below_set ?_ (Nat.le_refl _);exact HB2.out⟩
set_option maxHeartbeats 1000000 in
set_option maxRecDepth 100000 in
theorem far2 {t m n1 n2:Int}(h0:impl_cross.f a b c d e f=some t)(h1:impl_between.f a b c d=some m)(h2:impl_FracOf.f k (wrap64 (t*t)) m=some (n1,n2,true)):
  Calls Tryd.prog 80 #[.pointer (some ⟨bs,0,none⟩),.pointer (some ⟨bp,0,none⟩)] w fun x w'=>x=.returned (.tuple #[.agg #[.int .i64 n1,.int .i64 n2],.bool true])∧Below w.heap.size w w':=by
 have hB0:=below_alloc (Below.refl w.heap.size w) (.cells #[.int .i64 0,.int .i64 0] 35);have hs1:=blk_on hB0 hs;have hp1:=blk_on hB0 hp;have hn1:=heap_alloc_new w (.cells #[.int .i64 0,.int .i64 0] 35);have HB0:=Aside0.mk hB0;have HN1:=Aside0.mk hn1;have HS:=Aside0.mk hs;have HP:=Aside0.mk hp;have H0:=Aside0.mk h0;have H1:=Aside0.mk h1;have H2:=Aside0.mk h2;have q0:(w.alloc (.cells #[.int .i64 0,.int .i64 0] 35)).cell? ⟨bs,0,none⟩=some (.int .i64 a):=(blk_cell hs1 0).trans rfl;have q1:(w.alloc (.cells #[.int .i64 0,.int .i64 0] 35)).cell? ⟨bs,1,none⟩=some (.int .i64 b):=(blk_cell hs1 1).trans rfl;have q2:(w.alloc (.cells #[.int .i64 0,.int .i64 0] 35)).cell? ⟨bs,2,none⟩=some (.int .i64 c):=(blk_cell hs1 2).trans rfl;have q3:(w.alloc (.cells #[.int .i64 0,.int .i64 0] 35)).cell? ⟨bs,3,none⟩=some (.int .i64 d):=(blk_cell hs1 3).trans rfl;have q4:(w.alloc (.cells #[.int .i64 0,.int .i64 0] 35)).cell? ⟨bp,0,none⟩=some (.int .i64 e):=(blk_cell hp1 0).trans rfl;have q5:(w.alloc (.cells #[.int .i64 0,.int .i64 0] 35)).cell? ⟨bp,1,none⟩=some (.int .i64 f):=(blk_cell hp1 1).trans rfl;have hu1:=Tryd.underlying61;have hu2:=Tryd.underlying28;have hu3:=Tryd.underlying35;clear h0 h1 h2 hs hp hs1 hp1 hn1 hB0;go_enter Tryd.func80,Tryd.ntmps80;go_wp2_with fail;refine (impl_cross.calls a b c d e f t _ H0.out).mono ?_;rintro x w1 ⟨rfl,hb⟩;have HB1:=a0_ (below_step HB0.out hb);have HN2:=a0_ (blk_on hb HN1.out);have hs2:=blk_on HB1.out HS.out;have hp2:=blk_on HB1.out HP.out;clear hb q0 q1 q2 q3 q4 q5 HN1;have q0:w1.cell? ⟨bs,0,none⟩=some (.int .i64 a):=(blk_cell hs2 0).trans rfl;have q1:w1.cell? ⟨bs,1,none⟩=some (.int .i64 b):=(blk_cell hs2 1).trans rfl;have q2:w1.cell? ⟨bs,2,none⟩=some (.int .i64 c):=(blk_cell hs2 2).trans rfl;have q3:w1.cell? ⟨bs,3,none⟩=some (.int .i64 d):=(blk_cell hs2 3).trans rfl
 have q4:w1.cell? ⟨bp,0,none⟩=some (.int .i64 e):=(blk_cell hp2 0).trans rfl;have q5:w1.cell? ⟨bp,1,none⟩=some (.int .i64 f):=(blk_cell hp2 1).trans rfl;clear hs2 hp2;go_wp2_with fail;refine (impl_between.calls a b c d m _ H1.out).mono ?_;rintro x w2 ⟨rfl,hb⟩;have HB2:=a0_ (below_step HB1.out hb);have HN3:=a0_ (blk_on hb HN2.out);clear hb q0 q1 q2 q3 q4 q5 HN2;go_wp2_with fail;refine (impl_FracOf.calls k (wrap64 (t*t)) m n1 n2 true _ H2.out).mono ?_;rintro x w3 ⟨rfl,hb⟩;have HB3:=a0_ (below_step HB2.out hb);have HN4:=a0_ (blk_on hb HN3.out);have q0:w3.cell? ⟨w.heap.size,0,none⟩=some (.int .i64 0):=(blk_cell HN4.out 0).trans rfl;have q1:w3.cell? ⟨w.heap.size,1,none⟩=some (.int .i64 0):=(blk_cell HN4.out 1).trans rfl;have q2:=blk_frozen HN4.out 0;have q3:=blk_frozen HN4.out 1;clear hb HN3;go_wp2_with fail;refine bodyPost_ret (results_ct rfl _ _ w.heap.size 35 #[.int .i64 n1,.int .i64 n2] (0,0) _ rfl (by refine blk_put (cs:=#[.int .i64 n1,.int .i64 0]) ?_ 1 _ rfl;refine blk_put (cs:=#[.int .i64 0,.int .i64 0]) ?_ 0 _ rfl;exact HN4.out) Tryd.underlying35 rfl (by kernel_rfl)) rfl ?_;exact⟨rfl,by refine below_set ?_ (Nat.le_refl _);refine below_set ?_ (Nat.le_refl _);exact HB3.out⟩
set_option maxHeartbeats 1000000 in
set_option maxRecDepth 100000 in
theorem far3 {m n1 n2:Int}(h1:impl_between.f c d e f=some m)(h2:impl_FracOf.f k m 1=some (n1,n2,true)):
  Calls Tryd.prog 82 #[.pointer (some ⟨bs,0,none⟩),.pointer (some ⟨bp,0,none⟩)] w fun x w'=>x=.returned (.tuple #[.agg #[.int .i64 n1,.int .i64 n2],.bool true])∧Below w.heap.size w w':=by
 have hB0:=below_alloc (Below.refl w.heap.size w) (.cells #[.int .i64 0,.int .i64 0] 35);have hs1:=blk_on hB0 hs;have hp1:=blk_on hB0 hp;have hn1:=heap_alloc_new w (.cells #[.int .i64 0,.int .i64 0] 35);have HB0:=Aside0.mk hB0;have HN1:=Aside0.mk hn1;have H1:=Aside0.mk h1;have H2:=Aside0.mk h2;have q0:(w.alloc (.cells #[.int .i64 0,.int .i64 0] 35)).cell? ⟨bs,2,none⟩=some (.int .i64 c):=(blk_cell hs1 2).trans rfl;have q1:(w.alloc (.cells #[.int .i64 0,.int .i64 0] 35)).cell? ⟨bs,3,none⟩=some (.int .i64 d):=(blk_cell hs1 3).trans rfl;have q2:(w.alloc (.cells #[.int .i64 0,.int .i64 0] 35)).cell? ⟨bp,0,none⟩=some (.int .i64 e):=(blk_cell hp1 0).trans rfl;have q3:(w.alloc (.cells #[.int .i64 0,.int .i64 0] 35)).cell? ⟨bp,1,none⟩=some (.int .i64 f):=(blk_cell hp1 1).trans rfl;have hu1:=Tryd.underlying61;have hu2:=Tryd.underlying28;have hu3:=Tryd.underlying35;clear h1 h2 hs hp hs1 hp1 hn1 hB0;go_enter Tryd.func82,Tryd.ntmps82;go_wp2_with fail;refine (impl_between.calls c d e f m _ H1.out).mono ?_;rintro x w1 ⟨rfl,hb⟩;have HB1:=a0_ (below_step HB0.out hb);have HN2:=a0_ (blk_on hb HN1.out);clear hb q0 q1 q2 q3 HN1;go_wp2_with fail;refine (impl_FracOf.calls k m 1 n1 n2 true _ H2.out).mono ?_;rintro x w2 ⟨rfl,hb⟩;have HB2:=a0_ (below_step HB1.out hb);have HN3:=a0_ (blk_on hb HN2.out);have q0:w2.cell? ⟨w.heap.size,0,none⟩=some (.int .i64 0):=(blk_cell HN3.out 0).trans rfl;have q1:w2.cell? ⟨w.heap.size,1,none⟩=some (.int .i64 0):=(blk_cell HN3.out 1).trans rfl;have q2:=blk_frozen HN3.out 0;have q3:=blk_frozen HN3.out 1;clear hb HN2;go_wp2_with fail;refine bodyPost_ret (results_ct rfl _ _ w.heap.size 35 #[.int .i64 n1,.int .i64 n2] (0,0) _ rfl (by refine blk_put (cs:=#[.int .i64 n1,.int .i64 0]) ?_ 1 _ rfl;refine blk_put (cs:=#[.int .i64 0,.int .i64 0]) ?_ 0 _ rfl;exact HN3.out) Tryd.underlying35 rfl (by kernel_rfl)) rfl ?_
 exact⟨rfl,by refine below_set ?_ (Nat.le_refl _);refine below_set ?_ (Nat.le_refl _);exact HB2.out⟩
end
theorem boxes3 (w:World)(o1 o2 o3:Obj):Below w.heap.size w (((w.alloc o1).alloc o2).alloc o3)∧(((w.alloc o1).alloc o2).alloc o3).heap[w.heap.size]?=some o1 ∧
  (((w.alloc o1).alloc o2).alloc o3).heap[w.heap.size+1]?=some o2∧(((w.alloc o1).alloc o2).alloc o3).heap[w.heap.size+1+1]?=some o3:=by
 have e1:(w.alloc o1).heap.size=w.heap.size+1:=Array.size_push _;have e2:((w.alloc o1).alloc o2).heap.size=w.heap.size+1+1:=(Array.size_push (xs:=(w.alloc o1).heap) _).trans (congrArg (· + 1) e1);refine⟨below_alloc (below_alloc (below_alloc (Below.refl _ _) _) _) _,?_,?_,?_⟩
 ·
  exact blk_alloc (blk_alloc (heap_alloc_new w o1) _) _
 ·
  rw [← e1];exact blk_alloc (heap_alloc_new _ o2) _
 ·
  rw [← e2];exact heap_alloc_new _ o3
@[local go_sem] theorem run_store_fn (P:Program) (w:World) (a:Addr) (m:Mode) (fn:Fn) (first captured:Array Value):(store a (.func fn first captured) m).run P w=stored P w a (.func fn first captured) m:=run_store P w a _ m rfl
@[local go_sem] theorem run_store_nofn (P:Program) (w:World) (a:Addr) (m:Mode):(store a .nilFunc m).run P w=stored P w a .nilFunc m:=run_store P w a _ m rfl
section
variable (a b c d e f:Int) (w:World)
set_option maxHeartbeats 1000000 in
set_option maxRecDepth 100000 in
theorem segFar_bad1 (h:impl_SegOk.f a b c d=some false):
  Calls Tryd.prog 37 #[.agg #[.int .i64 a,.int .i64 b,.int .i64 c,.int .i64 d],.agg #[.int .i64 e,.int .i64 f]] w fun x w'=>x=.returned (.agg #[.int .i64 0,.int .i64 0])∧Below w.heap.size w w':=by
 have hu1:=Tryd.underlying61;have hu2:=Tryd.underlying28;have hu3:=Tryd.underlying35;have HB:=a0_ (boxes3 w (.cells #[.int .i64 a,.int .i64 b,.int .i64 c,.int .i64 d] 61) (.cells #[.int .i64 e,.int .i64 f] 28) (.cells #[.int .i64 0,.int .i64 0] 35));have H:=Aside0.mk h;clear h;go_enter Tryd.func37,Tryd.ntmps37;go_wp2_with fail;refine (impl_SegOk.calls a b c d false _ H.out).mono ?_;rintro x w1 ⟨rfl,hb⟩;have HS:=a0_ (blk_on hb HB.out.2.1);have HP:=a0_ (blk_on hb HB.out.2.2.1);have HR:=a0_ (blk_on hb HB.out.2.2.2);have HB1:=a0_ (below_step HB.out.1 hb);clear hb;have q0:w1.cell? ⟨w.heap.size+1+1,0,none⟩=some (.int .i64 0):=(blk_cell HR.out 0).trans rfl;have q1:w1.cell? ⟨w.heap.size+1+1,1,none⟩=some (.int .i64 0):=(blk_cell HR.out 1).trans rfl;have q2:=blk_frozen HR.out 0;have q3:=blk_frozen HR.out 1;go_wp2_with fail;refine bodyPost_ret (results_cell_row rfl _ _ (w.heap.size+1+1) 35 #[.int .i64 0,.int .i64 0] (0,0) _ rfl (by refine blk_put (cs:=#[.int .i64 0,.int .i64 0]) ?_ 1 _ rfl;refine blk_put (cs:=#[.int .i64 0,.int .i64 0]) ?_ 0 _ rfl;exact HR.out) Tryd.underlying35 rfl (by kernel_rfl)) rfl ?_;exact⟨rfl,by refine below_set ?_ (by omega);refine below_set ?_ (by omega);exact HB1.out⟩
set_option maxHeartbeats 1000000 in
set_option maxRecDepth 100000 in
theorem segFar_bad2 (h:impl_SegOk.f a b c d=some true)(h':impl_PtOk.f e f=some false):
  Calls Tryd.prog 37 #[.agg #[.int .i64 a,.int .i64 b,.int .i64 c,.int .i64 d],.agg #[.int .i64 e,.int .i64 f]] w fun x w'=>x=.returned (.agg #[.int .i64 0,.int .i64 0])∧Below w.heap.size w w':=by
 have hu1:=Tryd.underlying61;have hu2:=Tryd.underlying28;have hu3:=Tryd.underlying35;have HB:=a0_ (boxes3 w (.cells #[.int .i64 a,.int .i64 b,.int .i64 c,.int .i64 d] 61) (.cells #[.int .i64 e,.int .i64 f] 28) (.cells #[.int .i64 0,.int .i64 0] 35));have H:=Aside0.mk h;have H':=Aside0.mk h';clear h h';go_enter Tryd.func37,Tryd.ntmps37;go_wp2_with fail;refine (impl_SegOk.calls a b c d true _ H.out).mono ?_;rintro x w1 ⟨rfl,hb⟩;have HS:=a0_ (blk_on hb HB.out.2.1);have HP:=a0_ (blk_on hb HB.out.2.2.1);have HR:=a0_ (blk_on hb HB.out.2.2.2);have HB1:=a0_ (below_step HB.out.1 hb);clear hb;have q0:w1.cell? ⟨w.heap.size+1,0,none⟩=some (.int .i64 e):=(blk_cell HP.out 0).trans rfl;have q1:w1.cell? ⟨w.heap.size+1,1,none⟩=some (.int .i64 f):=(blk_cell HP.out 1).trans rfl;go_wp2_with fail;refine (impl_PtOk.calls e f false _ H'.out).mono ?_;rintro x w2 ⟨rfl,hb⟩;have HS2:=a0_ (blk_on hb HS.out);have HP2:=a0_ (blk_on hb HP.out);have HR2:=a0_ (blk_on hb HR.out);have HB2:=a0_ (below_step HB1.out hb);clear hb q0 q1;have q0:w2.cell? ⟨w.heap.size+1+1,0,none⟩=some (.int .i64 0):=(blk_cell HR2.out 0).trans rfl;have q1:w2.cell? ⟨w.heap.size+1+1,1,none⟩=some (.int .i64 0):=(blk_cell HR2.out 1).trans rfl;have q2:=blk_frozen HR2.out 0;have q3:=blk_frozen HR2.out 1;go_wp2_with fail;refine bodyPost_ret (results_cell_row rfl _ _ (w.heap.size+1+1) 35 #[.int .i64 0,.int .i64 0] (0,0) _ rfl (by refine blk_put (cs:=#[.int .i64 0,.int .i64 0]) ?_ 1 _ rfl;refine blk_put (cs:=#[.int .i64 0,.int .i64 0]) ?_ 0 _ rfl;exact HR2.out) Tryd.underlying35 rfl (by kernel_rfl)) rfl ?_;exact⟨rfl,by refine below_set ?_ (by omega);refine below_set ?_ (by omega);exact HB2.out⟩
set_option maxHeartbeats 1000000 in
set_option maxRecDepth 100000 in
theorem segFar_way1 (k:Nat){m t n1 n2:Int}(h:impl_SegOk.f a b c d=some true)(h':impl_PtOk.f e f=some true)(h2:impl_standOf.f a b c d e f=some 0)(hw:impl_between.f a b e f=some m)(hf:impl_FracOf.f k m 1=some (n1,n2,true)):
  Calls Tryd.prog 37 #[.agg #[.int .i64 a,.int .i64 b,.int .i64 c,.int .i64 d],.agg #[.int .i64 e,.int .i64 f]] w fun x w'=>x=.returned (.agg #[.int .i64 n1,.int .i64 n2])∧Below w.heap.size w w':=by
 have hu1:=Tryd.underlying61;have hu2:=Tryd.underlying28;have hu3:=Tryd.underlying35;have HB:=a0_ (boxes3 w (.cells #[.int .i64 a,.int .i64 b,.int .i64 c,.int .i64 d] 61) (.cells #[.int .i64 e,.int .i64 f] 28) (.cells #[.int .i64 0,.int .i64 0] 35));have H:=Aside0.mk h;have H':=Aside0.mk h';have H2:=Aside0.mk h2;have HW:=Aside0.mk hw;have HF:=Aside0.mk hf;clear h h' h2 hw hf;go_enter Tryd.func37,Tryd.ntmps37;go_wp2_with fail;refine (impl_SegOk.calls a b c d true _ H.out).mono ?_;rintro x w1 ⟨rfl,hb⟩;have HS:=a0_ (blk_on hb HB.out.2.1);have HP:=a0_ (blk_on hb HB.out.2.2.1);have HR:=a0_ (blk_on hb HB.out.2.2.2);have HB1:=a0_ (below_step HB.out.1 hb);clear hb;have q0:w1.cell? ⟨w.heap.size+1,0,none⟩=some (.int .i64 e):=(blk_cell HP.out 0).trans rfl;have q1:w1.cell? ⟨w.heap.size+1,1,none⟩=some (.int .i64 f):=(blk_cell HP.out 1).trans rfl;go_wp2_with fail;refine (impl_PtOk.calls e f true _ H'.out).mono ?_;rintro x w2 ⟨rfl,hb⟩;have HS2:=a0_ (blk_on hb HS.out);have HP2:=a0_ (blk_on hb HP.out);have HR2:=a0_ (blk_on hb HR.out);have HB2:=a0_ (below_step HB1.out hb);clear hb q0 q1;have q0:∀ o,(w2.alloc o).cell? ⟨w.heap.size,0,none⟩=some (.int .i64 a):=fun o=>(blk_cell (blk_alloc HS2.out o) 0).trans rfl
 have q1:∀ o,(w2.alloc o).cell? ⟨w.heap.size,1,none⟩=some (.int .i64 b):=fun o=>(blk_cell (blk_alloc HS2.out o) 1).trans rfl
 have q2:∀ o,(w2.alloc o).cell? ⟨w.heap.size,2,none⟩=some (.int .i64 c):=fun o=>(blk_cell (blk_alloc HS2.out o) 2).trans rfl
 have q3:∀ o,(w2.alloc o).cell? ⟨w.heap.size,3,none⟩=some (.int .i64 d):=fun o=>(blk_cell (blk_alloc HS2.out o) 3).trans rfl
 have q4:∀ o,(w2.alloc o).cell? ⟨w.heap.size+1,0,none⟩=some (.int .i64 e):=fun o=>(blk_cell (blk_alloc HP2.out o) 0).trans rfl
 have q5:∀ o,(w2.alloc o).cell? ⟨w.heap.size+1,1,none⟩=some (.int .i64 f):=fun o=>(blk_cell (blk_alloc HP2.out o) 1).trans rfl
 have HQ:=a0_ (heap_alloc_new w2 (.cells #[.nilFunc,.nilFunc,.nilFunc] 114));have r0:(w2.alloc (.cells #[.nilFunc,.nilFunc,.nilFunc] 114)).cell? ⟨w2.heap.size,0,none⟩=some .nilFunc:=(blk_cell HQ.out 0).trans rfl;have s0:=blk_frozen HQ.out 0;have r1:(w2.alloc (.cells #[.nilFunc,.nilFunc,.nilFunc] 114)).cell? ⟨w2.heap.size,1,none⟩=some .nilFunc:=(blk_cell HQ.out 1).trans rfl;have s1:=blk_frozen HQ.out 1;have r2:(w2.alloc (.cells #[.nilFunc,.nilFunc,.nilFunc] 114)).cell? ⟨w2.heap.size,2,none⟩=some .nilFunc:=(blk_cell HQ.out 2).trans rfl;have s2:=blk_frozen HQ.out 2;go_wp2_with fail;refine (impl_standOf.calls a b c d e f 0 _ H2.out).mono ?_;rintro x w3 ⟨rfl,hb⟩;have HK:=a0_ (blk_on hb (heap_alloc_new w2 (.cells #[.func (.func 78) #[] #[.pointer (some ⟨w.heap.size,0,none⟩),.pointer (some ⟨w.heap.size+1,0,none⟩)],.func (.func 80) #[] #[.pointer (some ⟨w.heap.size,0,none⟩),.pointer (some ⟨w.heap.size+1,0,none⟩)],.func (.func 82) #[] #[.pointer (some ⟨w.heap.size,0,none⟩),.pointer (some ⟨w.heap.size+1,0,none⟩)]] 114)));have HS3:=a0_ (blk_on hb (blk_alloc HS2.out (.cells #[.func (.func 78) #[] #[.pointer (some ⟨w.heap.size,0,none⟩),.pointer (some ⟨w.heap.size+1,0,none⟩)],.func (.func 80) #[] #[.pointer (some ⟨w.heap.size,0,none⟩),.pointer (some ⟨w.heap.size+1,0,none⟩)],.func (.func 82) #[] #[.pointer (some ⟨w.heap.size,0,none⟩),.pointer (some ⟨w.heap.size+1,0,none⟩)]] 114)));have HP3:=a0_ (blk_on hb (blk_alloc HP2.out (.cells #[.func (.func 78) #[] #[.pointer (some ⟨w.heap.size,0,none⟩),.pointer (some ⟨w.heap.size+1,0,none⟩)],.func (.func 80) #[] #[.pointer (some ⟨w.heap.size,0,none⟩),.pointer (some ⟨w.heap.size+1,0,none⟩)],.func (.func 82) #[] #[.pointer (some ⟨w.heap.size,0,none⟩),.pointer (some ⟨w.heap.size+1,0,none⟩)]] 114)))
 have HR3:=a0_ (blk_on hb (blk_alloc HR2.out (.cells #[.func (.func 78) #[] #[.pointer (some ⟨w.heap.size,0,none⟩),.pointer (some ⟨w.heap.size+1,0,none⟩)],.func (.func 80) #[] #[.pointer (some ⟨w.heap.size,0,none⟩),.pointer (some ⟨w.heap.size+1,0,none⟩)],.func (.func 82) #[] #[.pointer (some ⟨w.heap.size,0,none⟩),.pointer (some ⟨w.heap.size+1,0,none⟩)]] 114)));have HB3:=a0_ (below_step (below_alloc HB2.out (.cells #[.func (.func 78) #[] #[.pointer (some ⟨w.heap.size,0,none⟩),.pointer (some ⟨w.heap.size+1,0,none⟩)],.func (.func 80) #[] #[.pointer (some ⟨w.heap.size,0,none⟩),.pointer (some ⟨w.heap.size+1,0,none⟩)],.func (.func 82) #[] #[.pointer (some ⟨w.heap.size,0,none⟩),.pointer (some ⟨w.heap.size+1,0,none⟩)]] 114)) hb);clear hb q0 q1 q2 q3 q4 q5 r0 r1 r2 s0 s1 s2 HQ;have q0:w3.cell? ⟨w2.heap.size,0,none⟩=some (.func (.func 78) #[] #[.pointer (some ⟨w.heap.size,0,none⟩),.pointer (some ⟨w.heap.size+1,0,none⟩)]):=(blk_cell HK.out 0).trans rfl;go_wp2_with fail;refine (far1 w.heap.size (w.heap.size+1) a b c d e f w3 k HS3.out HP3.out HW.out HF.out).mono ?_;rintro x w4 ⟨rfl,hb⟩;have HR4:=a0_ (blk_on hb HR3.out);have HB4:=a0_ (below_step HB3.out hb);clear hb q0;have HN:=a0_ (heap_alloc_new w4 (.cells #[.int .i64 0,.int .i64 0] 35));have u0:(w4.alloc (.cells #[.int .i64 0,.int .i64 0] 35)).cell? ⟨w4.heap.size,0,none⟩=some (.int .i64 0):=(blk_cell HN.out 0).trans rfl;have u1:(w4.alloc (.cells #[.int .i64 0,.int .i64 0] 35)).cell? ⟨w4.heap.size,1,none⟩=some (.int .i64 0):=(blk_cell HN.out 1).trans rfl;have u2:=blk_frozen HN.out 0;have u3:=blk_frozen HN.out 1;have q0:∀ o,(w4.alloc o).cell? ⟨w.heap.size+1+1,0,none⟩=some (.int .i64 0):=fun o=>(blk_cell (blk_alloc HR4.out o) 0).trans rfl
 have q1:∀ o,(w4.alloc o).cell? ⟨w.heap.size+1+1,1,none⟩=some (.int .i64 0):=fun o=>(blk_cell (blk_alloc HR4.out o) 1).trans rfl
 have q2:=fun o=>blk_frozen (blk_alloc HR4.out o) 0
 have q3:=fun o=>blk_frozen (blk_alloc HR4.out o) 1
 go_wp2_with fail;refine bodyPost_ret (results_cell_row rfl _ _ (w.heap.size+1+1) 35 #[.int .i64 n1,.int .i64 n2] (0,0) _ rfl (by refine blk_put (cs:=#[.int .i64 n1,.int .i64 0]) ?_ 1 _ rfl;refine blk_put (cs:=#[.int .i64 0,.int .i64 0]) ?_ 0 _ rfl;exact blk_alloc HR4.out _) Tryd.underlying35 rfl (by kernel_rfl)) rfl ?_;exact⟨rfl,by refine below_set ?_ (by omega);refine below_set ?_ (by omega);exact below_alloc HB4.out _⟩
set_option maxHeartbeats 1000000 in
set_option maxRecDepth 100000 in
theorem segFar_way2 (k:Nat){m t n1 n2:Int}(h:impl_SegOk.f a b c d=some true)(h':impl_PtOk.f e f=some true)(h2:impl_standOf.f a b c d e f=some 1)(hv:impl_cross.f a b c d e f=some t)(hw:impl_between.f a b c d=some m)(hf:impl_FracOf.f k (wrap64 (t*t)) m=some (n1,n2,true)):
  Calls Tryd.prog 37 #[.agg #[.int .i64 a,.int .i64 b,.int .i64 c,.int .i64 d],.agg #[.int .i64 e,.int .i64 f]] w fun x w'=>x=.returned (.agg #[.int .i64 n1,.int .i64 n2])∧Below w.heap.size w w':=by
 have hu1:=Tryd.underlying61;have hu2:=Tryd.underlying28;have hu3:=Tryd.underlying35;have HB:=a0_ (boxes3 w (.cells #[.int .i64 a,.int .i64 b,.int .i64 c,.int .i64 d] 61) (.cells #[.int .i64 e,.int .i64 f] 28) (.cells #[.int .i64 0,.int .i64 0] 35));have H:=Aside0.mk h;have H':=Aside0.mk h';have H2:=Aside0.mk h2;have HW:=Aside0.mk hw;have HF:=Aside0.mk hf;clear h h' h2 hw hf;have HV:=Aside0.mk hv;clear hv;go_enter Tryd.func37,Tryd.ntmps37;go_wp2_with fail;refine (impl_SegOk.calls a b c d true _ H.out).mono ?_;rintro x w1 ⟨rfl,hb⟩;have HS:=a0_ (blk_on hb HB.out.2.1);have HP:=a0_ (blk_on hb HB.out.2.2.1);have HR:=a0_ (blk_on hb HB.out.2.2.2);have HB1:=a0_ (below_step HB.out.1 hb);clear hb;have q0:w1.cell? ⟨w.heap.size+1,0,none⟩=some (.int .i64 e):=(blk_cell HP.out 0).trans rfl;have q1:w1.cell? ⟨w.heap.size+1,1,none⟩=some (.int .i64 f):=(blk_cell HP.out 1).trans rfl;go_wp2_with fail;refine (impl_PtOk.calls e f true _ H'.out).mono ?_;rintro x w2 ⟨rfl,hb⟩;have HS2:=a0_ (blk_on hb HS.out);have HP2:=a0_ (blk_on hb HP.out);have HR2:=a0_ (blk_on hb HR.out);have HB2:=a0_ (below_step HB1.out hb);clear hb q0 q1;have q0:∀ o,(w2.alloc o).cell? ⟨w.heap.size,0,none⟩=some (.int .i64 a):=fun o=>(blk_cell (blk_alloc HS2.out o) 0).trans rfl
 have q1:∀ o,(w2.alloc o).cell? ⟨w.heap.size,1,none⟩=some (.int .i64 b):=fun o=>(blk_cell (blk_alloc HS2.out o) 1).trans rfl
 have q2:∀ o,(w2.alloc o).cell? ⟨w.heap.size,2,none⟩=some (.int .i64 c):=fun o=>(blk_cell (blk_alloc HS2.out o) 2).trans rfl
 have q3:∀ o,(w2.alloc o).cell? ⟨w.heap.size,3,none⟩=some (.int .i64 d):=fun o=>(blk_cell (blk_alloc HS2.out o) 3).trans rfl
 have q4:∀ o,(w2.alloc o).cell? ⟨w.heap.size+1,0,none⟩=some (.int .i64 e):=fun o=>(blk_cell (blk_alloc HP2.out o) 0).trans rfl
 have q5:∀ o,(w2.alloc o).cell? ⟨w.heap.size+1,1,none⟩=some (.int .i64 f):=fun o=>(blk_cell (blk_alloc HP2.out o) 1).trans rfl
 have HQ:=a0_ (heap_alloc_new w2 (.cells #[.nilFunc,.nilFunc,.nilFunc] 114));have r0:(w2.alloc (.cells #[.nilFunc,.nilFunc,.nilFunc] 114)).cell? ⟨w2.heap.size,0,none⟩=some .nilFunc:=(blk_cell HQ.out 0).trans rfl;have s0:=blk_frozen HQ.out 0;have r1:(w2.alloc (.cells #[.nilFunc,.nilFunc,.nilFunc] 114)).cell? ⟨w2.heap.size,1,none⟩=some .nilFunc:=(blk_cell HQ.out 1).trans rfl;have s1:=blk_frozen HQ.out 1;have r2:(w2.alloc (.cells #[.nilFunc,.nilFunc,.nilFunc] 114)).cell? ⟨w2.heap.size,2,none⟩=some .nilFunc:=(blk_cell HQ.out 2).trans rfl;have s2:=blk_frozen HQ.out 2;go_wp2_with fail;refine (impl_standOf.calls a b c d e f 1 _ H2.out).mono ?_;rintro x w3 ⟨rfl,hb⟩;have HK:=a0_ (blk_on hb (heap_alloc_new w2 (.cells #[.func (.func 78) #[] #[.pointer (some ⟨w.heap.size,0,none⟩),.pointer (some ⟨w.heap.size+1,0,none⟩)],.func (.func 80) #[] #[.pointer (some ⟨w.heap.size,0,none⟩),.pointer (some ⟨w.heap.size+1,0,none⟩)],.func (.func 82) #[] #[.pointer (some ⟨w.heap.size,0,none⟩),.pointer (some ⟨w.heap.size+1,0,none⟩)]] 114)));have HS3:=a0_ (blk_on hb (blk_alloc HS2.out (.cells #[.func (.func 78) #[] #[.pointer (some ⟨w.heap.size,0,none⟩),.pointer (some ⟨w.heap.size+1,0,none⟩)],.func (.func 80) #[] #[.pointer (some ⟨w.heap.size,0,none⟩),.pointer (some ⟨w.heap.size+1,0,none⟩)],.func (.func 82) #[] #[.pointer (some ⟨w.heap.size,0,none⟩),.pointer (some ⟨w.heap.size+1,0,none⟩)]] 114)));have HP3:=a0_ (blk_on hb (blk_alloc HP2.out (.cells #[.func (.func 78) #[] #[.pointer (some ⟨w.heap.size,0,none⟩),.pointer (some ⟨w.heap.size+1,0,none⟩)],.func (.func 80) #[] #[.pointer (some ⟨w.heap.size,0,none⟩),.pointer (some ⟨w.heap.size+1,0,none⟩)],.func (.func 82) #[] #[.pointer (some ⟨w.heap.size,0,none⟩),.pointer (some ⟨w.heap.size+1,0,none⟩)]] 114)))
 have HR3:=a0_ (blk_on hb (blk_alloc HR2.out (.cells #[.func (.func 78) #[] #[.pointer (some ⟨w.heap.size,0,none⟩),.pointer (some ⟨w.heap.size+1,0,none⟩)],.func (.func 80) #[] #[.pointer (some ⟨w.heap.size,0,none⟩),.pointer (some ⟨w.heap.size+1,0,none⟩)],.func (.func 82) #[] #[.pointer (some ⟨w.heap.size,0,none⟩),.pointer (some ⟨w.heap.size+1,0,none⟩)]] 114)));have HB3:=a0_ (below_step (below_alloc HB2.out (.cells #[.func (.func 78) #[] #[.pointer (some ⟨w.heap.size,0,none⟩),.pointer (some ⟨w.heap.size+1,0,none⟩)],.func (.func 80) #[] #[.pointer (some ⟨w.heap.size,0,none⟩),.pointer (some ⟨w.heap.size+1,0,none⟩)],.func (.func 82) #[] #[.pointer (some ⟨w.heap.size,0,none⟩),.pointer (some ⟨w.heap.size+1,0,none⟩)]] 114)) hb);clear hb q0 q1 q2 q3 q4 q5 r0 r1 r2 s0 s1 s2 HQ;have q0:w3.cell? ⟨w2.heap.size,1,none⟩=some (.func (.func 80) #[] #[.pointer (some ⟨w.heap.size,0,none⟩),.pointer (some ⟨w.heap.size+1,0,none⟩)]):=(blk_cell HK.out 1).trans rfl;go_wp2_with fail;refine (far2 w.heap.size (w.heap.size+1) a b c d e f w3 k HS3.out HP3.out HV.out HW.out HF.out).mono ?_;rintro x w4 ⟨rfl,hb⟩;have HR4:=a0_ (blk_on hb HR3.out);have HB4:=a0_ (below_step HB3.out hb);clear hb q0;have HN:=a0_ (heap_alloc_new w4 (.cells #[.int .i64 0,.int .i64 0] 35));have u0:(w4.alloc (.cells #[.int .i64 0,.int .i64 0] 35)).cell? ⟨w4.heap.size,0,none⟩=some (.int .i64 0):=(blk_cell HN.out 0).trans rfl;have u1:(w4.alloc (.cells #[.int .i64 0,.int .i64 0] 35)).cell? ⟨w4.heap.size,1,none⟩=some (.int .i64 0):=(blk_cell HN.out 1).trans rfl;have u2:=blk_frozen HN.out 0;have u3:=blk_frozen HN.out 1;have q0:∀ o,(w4.alloc o).cell? ⟨w.heap.size+1+1,0,none⟩=some (.int .i64 0):=fun o=>(blk_cell (blk_alloc HR4.out o) 0).trans rfl
 have q1:∀ o,(w4.alloc o).cell? ⟨w.heap.size+1+1,1,none⟩=some (.int .i64 0):=fun o=>(blk_cell (blk_alloc HR4.out o) 1).trans rfl
 have q2:=fun o=>blk_frozen (blk_alloc HR4.out o) 0
 have q3:=fun o=>blk_frozen (blk_alloc HR4.out o) 1
 go_wp2_with fail;refine bodyPost_ret (results_cell_row rfl _ _ (w.heap.size+1+1) 35 #[.int .i64 n1,.int .i64 n2] (0,0) _ rfl (by refine blk_put (cs:=#[.int .i64 n1,.int .i64 0]) ?_ 1 _ rfl;refine blk_put (cs:=#[.int .i64 0,.int .i64 0]) ?_ 0 _ rfl;exact blk_alloc HR4.out _) Tryd.underlying35 rfl (by kernel_rfl)) rfl ?_;exact⟨rfl,by refine below_set ?_ (by omega);refine below_set ?_ (by omega);exact below_alloc HB4.out _⟩
set_option maxHeartbeats 1000000 in
set_option maxRecDepth 100000 in
theorem segFar_way3 (k:Nat){m t n1 n2:Int}(h:impl_SegOk.f a b c d=some true)(h':impl_PtOk.f e f=some true)(h2:impl_standOf.f a b c d e f=some 2)(hw:impl_between.f c d e f=some m)(hf:impl_FracOf.f k m 1=some (n1,n2,true)):
  Calls Tryd.prog 37 #[.agg #[.int .i64 a,.int .i64 b,.int .i64 c,.int .i64 d],.agg #[.int .i64 e,.int .i64 f]] w fun x w'=>x=.returned (.agg #[.int .i64 n1,.int .i64 n2])∧Below w.heap.size w w':=by
 have hu1:=Tryd.underlying61;have hu2:=Tryd.underlying28;have hu3:=Tryd.underlying35;have HB:=a0_ (boxes3 w (.cells #[.int .i64 a,.int .i64 b,.int .i64 c,.int .i64 d] 61) (.cells #[.int .i64 e,.int .i64 f] 28) (.cells #[.int .i64 0,.int .i64 0] 35));have H:=Aside0.mk h;have H':=Aside0.mk h';have H2:=Aside0.mk h2;have HW:=Aside0.mk hw;have HF:=Aside0.mk hf;clear h h' h2 hw hf;go_enter Tryd.func37,Tryd.ntmps37;go_wp2_with fail;refine (impl_SegOk.calls a b c d true _ H.out).mono ?_;rintro x w1 ⟨rfl,hb⟩;have HS:=a0_ (blk_on hb HB.out.2.1);have HP:=a0_ (blk_on hb HB.out.2.2.1);have HR:=a0_ (blk_on hb HB.out.2.2.2);have HB1:=a0_ (below_step HB.out.1 hb);clear hb;have q0:w1.cell? ⟨w.heap.size+1,0,none⟩=some (.int .i64 e):=(blk_cell HP.out 0).trans rfl;have q1:w1.cell? ⟨w.heap.size+1,1,none⟩=some (.int .i64 f):=(blk_cell HP.out 1).trans rfl;go_wp2_with fail;refine (impl_PtOk.calls e f true _ H'.out).mono ?_;rintro x w2 ⟨rfl,hb⟩;have HS2:=a0_ (blk_on hb HS.out);have HP2:=a0_ (blk_on hb HP.out);have HR2:=a0_ (blk_on hb HR.out);have HB2:=a0_ (below_step HB1.out hb);clear hb q0 q1;have q0:∀ o,(w2.alloc o).cell? ⟨w.heap.size,0,none⟩=some (.int .i64 a):=fun o=>(blk_cell (blk_alloc HS2.out o) 0).trans rfl
 have q1:∀ o,(w2.alloc o).cell? ⟨w.heap.size,1,none⟩=some (.int .i64 b):=fun o=>(blk_cell (blk_alloc HS2.out o) 1).trans rfl
 have q2:∀ o,(w2.alloc o).cell? ⟨w.heap.size,2,none⟩=some (.int .i64 c):=fun o=>(blk_cell (blk_alloc HS2.out o) 2).trans rfl
 have q3:∀ o,(w2.alloc o).cell? ⟨w.heap.size,3,none⟩=some (.int .i64 d):=fun o=>(blk_cell (blk_alloc HS2.out o) 3).trans rfl
 have q4:∀ o,(w2.alloc o).cell? ⟨w.heap.size+1,0,none⟩=some (.int .i64 e):=fun o=>(blk_cell (blk_alloc HP2.out o) 0).trans rfl
 have q5:∀ o,(w2.alloc o).cell? ⟨w.heap.size+1,1,none⟩=some (.int .i64 f):=fun o=>(blk_cell (blk_alloc HP2.out o) 1).trans rfl
 have HQ:=a0_ (heap_alloc_new w2 (.cells #[.nilFunc,.nilFunc,.nilFunc] 114));have r0:(w2.alloc (.cells #[.nilFunc,.nilFunc,.nilFunc] 114)).cell? ⟨w2.heap.size,0,none⟩=some .nilFunc:=(blk_cell HQ.out 0).trans rfl;have s0:=blk_frozen HQ.out 0;have r1:(w2.alloc (.cells #[.nilFunc,.nilFunc,.nilFunc] 114)).cell? ⟨w2.heap.size,1,none⟩=some .nilFunc:=(blk_cell HQ.out 1).trans rfl;have s1:=blk_frozen HQ.out 1;have r2:(w2.alloc (.cells #[.nilFunc,.nilFunc,.nilFunc] 114)).cell? ⟨w2.heap.size,2,none⟩=some .nilFunc:=(blk_cell HQ.out 2).trans rfl;have s2:=blk_frozen HQ.out 2;go_wp2_with fail;refine (impl_standOf.calls a b c d e f 2 _ H2.out).mono ?_;rintro x w3 ⟨rfl,hb⟩;have HK:=a0_ (blk_on hb (heap_alloc_new w2 (.cells #[.func (.func 78) #[] #[.pointer (some ⟨w.heap.size,0,none⟩),.pointer (some ⟨w.heap.size+1,0,none⟩)],.func (.func 80) #[] #[.pointer (some ⟨w.heap.size,0,none⟩),.pointer (some ⟨w.heap.size+1,0,none⟩)],.func (.func 82) #[] #[.pointer (some ⟨w.heap.size,0,none⟩),.pointer (some ⟨w.heap.size+1,0,none⟩)]] 114)));have HS3:=a0_ (blk_on hb (blk_alloc HS2.out (.cells #[.func (.func 78) #[] #[.pointer (some ⟨w.heap.size,0,none⟩),.pointer (some ⟨w.heap.size+1,0,none⟩)],.func (.func 80) #[] #[.pointer (some ⟨w.heap.size,0,none⟩),.pointer (some ⟨w.heap.size+1,0,none⟩)],.func (.func 82) #[] #[.pointer (some ⟨w.heap.size,0,none⟩),.pointer (some ⟨w.heap.size+1,0,none⟩)]] 114)));have HP3:=a0_ (blk_on hb (blk_alloc HP2.out (.cells #[.func (.func 78) #[] #[.pointer (some ⟨w.heap.size,0,none⟩),.pointer (some ⟨w.heap.size+1,0,none⟩)],.func (.func 80) #[] #[.pointer (some ⟨w.heap.size,0,none⟩),.pointer (some ⟨w.heap.size+1,0,none⟩)],.func (.func 82) #[] #[.pointer (some ⟨w.heap.size,0,none⟩),.pointer (some ⟨w.heap.size+1,0,none⟩)]] 114)))
 have HR3:=a0_ (blk_on hb (blk_alloc HR2.out (.cells #[.func (.func 78) #[] #[.pointer (some ⟨w.heap.size,0,none⟩),.pointer (some ⟨w.heap.size+1,0,none⟩)],.func (.func 80) #[] #[.pointer (some ⟨w.heap.size,0,none⟩),.pointer (some ⟨w.heap.size+1,0,none⟩)],.func (.func 82) #[] #[.pointer (some ⟨w.heap.size,0,none⟩),.pointer (some ⟨w.heap.size+1,0,none⟩)]] 114)));have HB3:=a0_ (below_step (below_alloc HB2.out (.cells #[.func (.func 78) #[] #[.pointer (some ⟨w.heap.size,0,none⟩),.pointer (some ⟨w.heap.size+1,0,none⟩)],.func (.func 80) #[] #[.pointer (some ⟨w.heap.size,0,none⟩),.pointer (some ⟨w.heap.size+1,0,none⟩)],.func (.func 82) #[] #[.pointer (some ⟨w.heap.size,0,none⟩),.pointer (some ⟨w.heap.size+1,0,none⟩)]] 114)) hb);clear hb q0 q1 q2 q3 q4 q5 r0 r1 r2 s0 s1 s2 HQ;have q0:w3.cell? ⟨w2.heap.size,2,none⟩=some (.func (.func 82) #[] #[.pointer (some ⟨w.heap.size,0,none⟩),.pointer (some ⟨w.heap.size+1,0,none⟩)]):=(blk_cell HK.out 2).trans rfl;go_wp2_with fail;refine (far3 w.heap.size (w.heap.size+1) a b c d e f w3 k HS3.out HP3.out HW.out HF.out).mono ?_;rintro x w4 ⟨rfl,hb⟩;have HR4:=a0_ (blk_on hb HR3.out);have HB4:=a0_ (below_step HB3.out hb);clear hb q0;have HN:=a0_ (heap_alloc_new w4 (.cells #[.int .i64 0,.int .i64 0] 35));have u0:(w4.alloc (.cells #[.int .i64 0,.int .i64 0] 35)).cell? ⟨w4.heap.size,0,none⟩=some (.int .i64 0):=(blk_cell HN.out 0).trans rfl;have u1:(w4.alloc (.cells #[.int .i64 0,.int .i64 0] 35)).cell? ⟨w4.heap.size,1,none⟩=some (.int .i64 0):=(blk_cell HN.out 1).trans rfl;have u2:=blk_frozen HN.out 0;have u3:=blk_frozen HN.out 1;have q0:∀ o,(w4.alloc o).cell? ⟨w.heap.size+1+1,0,none⟩=some (.int .i64 0):=fun o=>(blk_cell (blk_alloc HR4.out o) 0).trans rfl
 have q1:∀ o,(w4.alloc o).cell? ⟨w.heap.size+1+1,1,none⟩=some (.int .i64 0):=fun o=>(blk_cell (blk_alloc HR4.out o) 1).trans rfl
 have q2:=fun o=>blk_frozen (blk_alloc HR4.out o) 0
 have q3:=fun o=>blk_frozen (blk_alloc HR4.out o) 1
 go_wp2_with fail;refine bodyPost_ret (results_cell_row rfl _ _ (w.heap.size+1+1) 35 #[.int .i64 n1,.int .i64 n2] (0,0) _ rfl (by refine blk_put (cs:=#[.int .i64 n1,.int .i64 0]) ?_ 1 _ rfl;refine blk_put (cs:=#[.int .i64 0,.int .i64 0]) ?_ 0 _ rfl;exact blk_alloc HR4.out _) Tryd.underlying35 rfl (by kernel_rfl)) rfl ?_;exact⟨rfl,by refine below_set ?_ (by omega);refine below_set ?_ (by omega);exact below_alloc HB4.out _⟩
end
def impl_SegFar.f (a b c d e f:Int):Option (Int × Int):=some ((segFar ((a,b),(c,d)) (e,f)).1,(segFar ((a,b),(c,d)) (e,f)).2)
theorem impl_SegFar.calls (a b c d e f r1 r2:Int)(w:World)(h:impl_SegFar.f a b c d e f=some (r1,r2)):
  Calls Tryd.prog 37 #[.agg #[.int .i64 a,.int .i64 b,.int .i64 c,.int .i64 d],.agg #[.int .i64 e,.int .i64 f]] w fun x w'=>x=.returned (.agg #[.int .i64 r1,.int .i64 r2])∧Below w.heap.size w w':=by
 unfold impl_SegFar.f at h;simp only [Option.some.injEq,Prod.mk.injEq] at h;obtain⟨rfl,rfl⟩:=h;unfold segFar
 cases hs:segOk ((a,b),(c,d)) with
 | false=>exact segFar_bad1 a b c d e f w ((iSegOk a b c d).trans (congrArg some hs))
 | true =>
  have h1:=(iSegOk a b c d).trans (congrArg some hs)
  cases hp:ptOk (e,f) with
  | false=>exact segFar_bad2 a b c d e f w h1 ((iPtOk e f).trans (congrArg some hp))
  | true =>
   have h2:=(iPtOk e f).trans (congrArg some hp);obtain⟨o1,o2⟩:=segOk_ends hs;have h3:=iStandOf hs hp;have hin:=far_inR hs hp;simp only [Bool.and_self,if_true];unfold far at hin ⊢
   by_cases z:dot (a,b) (c,d) (e,f)≤0
   ·
    rw [if_pos z] at h3 hin ⊢
    rw [red_whole (dot_self_nn _ _) (Int.le_trans (dot_bound o1 hp hp).2 (by decide))];exact segFar_way1 (t:=0) a b c d e f w 100000 h1 h2 h3 (iBetween o1 hp) (iFracOf1 (Nat.le_refl _) (dot_self_nn _ _) (Int.le_trans (dot_bound o1 hp hp).2 (by decide)))
   ·
    rw [if_neg z] at h3 hin ⊢
    by_cases z':dot (a,b) (c,d) (c,d)≤dot (a,b) (c,d) (e,f)
    ·
     rw [if_pos z'] at h3 hin ⊢
     rw [red_whole (dot_self_nn _ _) (Int.le_trans (dot_bound o2 hp hp).2 (by decide))];exact segFar_way3 (t:=0) a b c d e f w 100000 h1 h2 h3 (iBetween o2 hp) (iFracOf1 (Nat.le_refl _) (dot_self_nn _ _) (Int.le_trans (dot_bound o2 hp hp).2 (by decide)))
    ·
     rw [if_neg z'] at h3 hin ⊢
     have hc:=cross_bound o1 o2 hp;have hq:=sq_bound hc.1 hc.2;have hq':=isq_nn (cross (a,b) (c,d) (e,f));exact segFar_way2 a b c d e f w 100000 h1 h2 h3 (iCross o1 o2 hp) (iBetween o1 o2) (by rw [w64 (x:=cross (a,b) (c,d) (e,f)*cross (a,b) (c,d) (e,f)) (by omega) (by omega)];exact iFracOf (Nat.le_refl _) hin)
end Go.Proofs.YtkefmnmoaomlhaaDoor.X
end
section
set_option linter.unusedVariables false
set_option linter.unusedSimpArgs false
namespace Go.Proofs.YtkefmnmoaomlhaaDoor.X
open Go.RowKit Go.Shelf Go.Proofs.YtkefmnmoaomlhaaDoorW.PrintWords Go.Proofs.YtkefmnmoaomlhaaDoorW.PrintLast Go.Proofs.YtkefmnmoaomlhaaDoorW.PrintMore
open Mort (edges segMeet loopOk ptOk inOf segFar segOk least fracOk fracCmp)
def runFar (p:Mort.Pt)(a:Mort.Frac)(es:List S61):Mort.Frac:=es.foldl (fun a s=>least a (segFar (sgP s) p)) a
theorem at_sg {W:World}{A:Option Addr}{n:Nat}{zs:List S61}(hC:Kd.C k61 W A n zs)(k:Nat)(h:k<n):
  ∃ ad,A=some ad∧W.cell? (ad.add (k*4))=some (.int .i64 (zs.getD k z61).f0.f0)∧W.cell? ⟨(ad.add (k*4)).block,(ad.add (k*4)).off+1,none⟩=some (.int .i64 (zs.getD k z61).f0.f1) ∧
   W.cell? ⟨(ad.add (k*4)).block,(ad.add (k*4)).off+2,none⟩=some (.int .i64 (zs.getD k z61).f1.f0)∧W.cell? ⟨(ad.add (k*4)).block,(ad.add (k*4)).off+3,none⟩=some (.int .i64 (zs.getD k z61).f1.f1):=
 at_T61 hC (k:Int) (by omega) (by omega)
theorem cut_from {P:Program}(t e:TypeId){i:TypeInfo}(ht:P.underlying t=some (.slice e))(hi:P.info? e=some i)(size:Nat)(hsz:i.size=size)(A:Option Addr)(n c m:Nat)(hm:m≤n):
  ∀ W:World,(Instr.slice t (.slice A n c) (some (.int .i64 (m:Int))) none none).run P W=.ok (.slice (if c=m then A else A.map (·.add (m*size))) (n-m) (c-m)) W:=by
 intro W;have hel:P.elem t=e:=by simp [Program.elem,ht]
 have hu:P.underlying t=some (.slice (P.elem t)):=by rw [hel];exact ht
 rw [run_slice_l W t A n c hu .i64 (m:Int) (Int.natCast_nonneg _) (by omega),hel];simp [sizeOf,typeInfo,hi,hsz,sliced,Result.andThen]
theorem cut_one (A:Option Addr)(n c:Nat)(h:1≤n)(W:World):(Instr.slice 57 (.slice A n c) (some (.int .i64 1)) none none).run Tryd.prog W=.ok (.slice (if c=1 then A else A.map (·.add (1*4))) (n-1) (c-1)) W:=by
 obtain⟨i0,hi,hz0,hz1,hz2⟩:=info_parts info61;exact cut_from 57 61 Tryd.underlying57 hi 4 hz1 A n c 1 h W
theorem segFar_f (a b c d e f:Int):impl_SegFar.f a b c d e f=some ((segFar ((a,b),(c,d)) (e,f)).1,(segFar ((a,b),(c,d)) (e,f)).2):=by unfold impl_SegFar.f;rfl
theorem segFar_told (s:S61)(x y:Int)(f:Mort.Frac)(w:World)(h:segFar (sgP s) (x,y)=f):
  Calls Tryd.prog 37 #[.agg #[.int .i64 s.f0.f0,.int .i64 s.f0.f1,.int .i64 s.f1.f0,.int .i64 s.f1.f1],.agg #[.int .i64 x,.int .i64 y]] w fun e w'=>e=.returned (.agg #[.int .i64 f.1,.int .i64 f.2])∧Below w.heap.size w w':=by
 have h1:segFar ((s.f0.f0,s.f0.f1),(s.f1.f0,s.f1.f1)) (x,y)=f:=h;have h2:=segFar_f s.f0.f0 s.f0.f1 s.f1.f0 s.f1.f1 x y;rw [h1] at h2;exact impl_SegFar.calls s.f0.f0 s.f0.f1 s.f1.f0 s.f1.f1 x y f.1 f.2 w h2
set_option maxHeartbeats 4000000 in
set_option maxRecDepth 100000 in
theorem far_calls (b c:Nat)(A:Option Addr)(e0:S61)(es:List S61)(x y:Int)(r:Mort.Frac)(w:World)(hcell:w.cell? ⟨b,2,none⟩=some (.slice A (e0::es).length c))(hcap:(e0::es).length≤c)
  (hC:Kd.C k61 w A (e0::es).length (e0::es)) (hok:∀ s∈e0::es,segOk (sgP s)=true) (hp:ptOk (x,y)=true) (hE:ErrW w) (hreach:es.length≤1000000) (h:runFar (x,y) (segFar (sgP e0) (x,y)) es=r) :
  Calls Tryd.prog 62 #[.pointer (some ⟨b,0,none⟩),.agg #[.int .i64 x,.int .i64 y]] w fun e w'=>e=.returned (.agg #[.int .i64 r.1,.int .i64 r.2])∧Below w.heap.size w w':=by
 have hu35:=Tryd.underlying35;have hu28:=Tryd.underlying28;have hu61:=Tryd.underlying61;have hcut:=cut_one A (e0::es).length c (by simp);have hC1:=Kd.C_drop (m:=1) hC (by simp) hcap;obtain⟨ad,hA,hx0,hx1,hx2,hx3⟩:=at_sg hC 0 (by simp);rw [Nat.zero_mul,show ad.add 0=ad from rfl] at hx0 hx1 hx2 hx3;generalize hA1:(if c=1 then A else A.map (·.add (1*4)))=A1 at hcut;have hC2:Kd.C k61 w A1 es.length es:=by rw [← hA1];exact hC1
 have HK:=a0_ (And.intro hC2 (And.intro hok (And.intro hp (And.intro hE (And.intro hreach h)))));clear hC1 hC2 hC hok hp hE hreach h;have hlen:(e0::es).length=es.length+1:=rfl;rw [hlen] at hcell hcap hcut;clear hlen hA1;subst hA;have ef0:((e0::es).getD 0 z61)=e0:=rfl;rw [ef0] at hx0 hx1 hx2 hx3;clear ef0;have hs0:=segFar_told e0 x y;generalize hf0:segFar (sgP e0) (x,y)=f0 at hs0;have HF:=Aside0.mk hf0;clear hf0;go_enter Tryd.func62,Tryd.ntmps62;go_wp2;have hb0:=below_drew1 (below_alloc (below_alloc (Below.refl w.heap.size w) (.cells #[.int .i64 x,.int .i64 y] 28)) (.cells #[.int .i64 0,.int .i64 0] 35));have lo2:=pw_cell_below hb0 hcell;have y0:=pw_cell_below hb0 hx0;have y1:=pw_cell_below hb0 hx1;have y2:=pw_cell_below hb0 hx2;have y3:=pw_cell_below hb0 hx3;have nb:=blk_alloc (blk_new w (.cells #[.int .i64 x,.int .i64 y] 28 (0,0))) (.cells #[.int .i64 0,.int .i64 0] 35);have nf:=blk_new (w.alloc (.cells #[.int .i64 x,.int .i64 y] 28)) (.cells #[.int .i64 0,.int .i64 0] 35 (0,0));generalize hW0:((w.alloc (.cells #[.int .i64 x,.int .i64 y] 28)).alloc (.cells #[.int .i64 0,.int .i64 0] 35)).drew=W0 at *;have n0:W0.heap[w.heap.size]?=some (.cells #[.int .i64 x,.int .i64 y] 28 (0,0)):=by rw [← hW0];exact nb
 have n1:W0.heap[w.heap.size+1]?=some (.cells #[.int .i64 0,.int .i64 0] 35 (0,0)):=by rw [← hW0];have:=nf;rwa [World.size_alloc] at this
 have hsz:W0.heap.size=w.heap.size+2:=by rw [← hW0];show (World.alloc _ _).heap.size=_;rw [World.size_alloc,World.size_alloc]
 have hal:=below_alloc (Below.refl W0.heap.size W0) (.cells #[.int .i64 0,.int .i64 0] 35);have nn:=blk_new W0 (.cells #[.int .i64 0,.int .i64 0] 35 (0,0));have a0:W0.cell? ⟨w.heap.size,0,none⟩=some (.int .i64 x):=(blk_cell n0 0).trans rfl;have a1:W0.cell? ⟨w.heap.size,1,none⟩=some (.int .i64 y):=(blk_cell n0 1).trans rfl;generalize hg:w.heap.size=g at *;have HW0:=Aside0.mk hW0;have hG:=Aside0.mk hg;have hcutA:=Aside0.mk hcut;clear hcut hW0;have KS:∀ w',Below W0.heap.size W0 w'→(fun w'=>w'.cell? ⟨b,2,none⟩=some (.slice (some ad) (es.length+1) c)∧w'.cell? ad=some (.int .i64 e0.f0.f0)∧w'.cell? ⟨ad.block,ad.off+1,none⟩=some (.int .i64 e0.f0.f1)∧w'.cell? ⟨ad.block,ad.off+2,none⟩=some (.int .i64 e0.f1.f0)∧w'.cell? ⟨ad.block,ad.off+3,none⟩=some (.int .i64 e0.f1.f1)∧w'.cell? ⟨g,0,none⟩=some (.int .i64 x)∧w'.cell? ⟨g,1,none⟩=some (.int .i64 y)) w':=fun w' hb=>⟨pw_cell_below hb lo2,pw_cell_below hb y0,pw_cell_below hb y1,pw_cell_below hb y2,pw_cell_below hb y3,pw_cell_below hb a0,pw_cell_below hb a1⟩
 refine start_ (n:=10) (S:=fun w'=>w'.cell? ⟨b,2,none⟩=some (.slice (some ad) (es.length+1) c)∧w'.cell? ad=some (.int .i64 e0.f0.f0)∧w'.cell? ⟨ad.block,ad.off+1,none⟩=some (.int .i64 e0.f0.f1)∧w'.cell? ⟨ad.block,ad.off+2,none⟩=some (.int .i64 e0.f1.f0)∧w'.cell? ⟨ad.block,ad.off+3,none⟩=some (.int .i64 e0.f1.f1)∧w'.cell? ⟨g,0,none⟩=some (.int .i64 x)∧w'.cell? ⟨g,1,none⟩=some (.int .i64 y)) (ds:=[]) (Array.replicate 10 false) (by kernel_rfl) rfl rfl (by have:=KS W0 (Below.refl _ _);rw [← HW0.out] at this;exact this) (fun hHeld=>?_);rw [HW0.out] at hHeld ⊢
 refine pv_ 0 9 (bm 10 1) ?_;refine pv_ 1 10 (bm 10 3) ?_;refine pv_ 2 11 (bm 10 7) ?_;refine tb7_ 3 12 (bm 10 15) hHeld ?_;refine pv_ 4 13 (bm 10 31) ?_;refine tb7_ 5 14 (bm 10 63) hHeld ?_;refine tb7_ 6 15 (bm 10 127) hHeld ?_;refine join_ (σ:=Nat) 1 (bm 10 511) (fun s_=>[(16,.agg #[.int .i64 f0.1,.int .i64 f0.2]),(5,.pointer (some ⟨s_,0,none⟩))]) (fun s_ w'=>(fun w'=>w'.cell? ⟨b,2,none⟩=some (.slice (some ad) (es.length+1) c)∧w'.cell? ad=some (.int .i64 e0.f0.f0)∧w'.cell? ⟨ad.block,ad.off+1,none⟩=some (.int .i64 e0.f0.f1)∧w'.cell? ⟨ad.block,ad.off+2,none⟩=some (.int .i64 e0.f1.f0)∧w'.cell? ⟨ad.block,ad.off+3,none⟩=some (.int .i64 e0.f1.f1)∧w'.cell? ⟨g,0,none⟩=some (.int .i64 x)∧w'.cell? ⟨g,1,none⟩=some (.int .i64 y)) w'∧w'.heap[s_]?=some (.cells #[.int .i64 0,.int .i64 0] 35 (0,0))∧W0.heap.size≤s_∧Below W0.heap.size W0 w') ?_ ?_;rotate_left
 ·
  intro hCont;refine two_ (i:=7) (j:=8) (Ni:=some 16) (Nj:=some 5) (bm 10 255) (bm 10 383) rfl rfl rfl rfl (by kernel_rfl) (by decide) (by decide) (fun K hK=>?_) (fun K hK=>?_)
  ·
   skip;refine goes_ Tryd.func37 (by kernel_rfl) rfl #[.agg #[.int .i64 e0.f0.f0,.int .i64 e0.f0.f1,.int .i64 e0.f1.f0,.int .i64 e0.f1.f1],.agg #[.int .i64 x,.int .i64 y]] (by rfl) rfl rfl (by (try simp only [List.map_toArray,List.map_cons,List.map_nil]);first | done | rfl) ?_;refine (segFar_told e0 x y f0 _ HF.out).mono ?_;rintro e w1 ⟨rfl,hb⟩;refine⟨_,rfl,?_⟩;refine hK.out _ _ (KS _ hb) (fun hHeld=>?_);clear hK K;refine no_ (h:=?_);refine one_ (i:=8) (N:=some 5) (bm 10 511) rfl rfl (by kernel_rfl) (by decide) (fun K hK=>?_);refine box_step ?hg (N:=5) ?hd (cs:=#[.int .i64 0,.int .i64 0]) (t:=35) ?hr ?_;(case hd=>rfl);(case hg=>rfl);(case hr=>first | (go_simp;done) | (go_simp;rfl));intro gb hgb w2 hbox hbb;refine hK.out _ _ (KS _ (below_step hb hbb)) (fun hHeld=>?_);clear hK K;refine no_ (h:=?_);exact norm_ (by simp only [putAll,Act.put,List.setIfInBounds_toArray,List.set_cons_zero,List.set_cons_succ]) (hCont gb _ ⟨hHeld,hbox,hgb▸hb.size,below_step hb hbb⟩)
  ·
   skip;refine box_step ?hg (N:=5) ?hd (cs:=#[.int .i64 0,.int .i64 0]) (t:=35) ?hr ?_;(case hd=>rfl);(case hg=>rfl);(case hr=>first | (go_simp;done) | (go_simp;rfl));intro gb hgb w1 hbox hbb;refine hK.out _ _ (KS _ hbb) (fun hHeld=>?_);clear hK K;refine no_ (h:=?_);refine one_ (i:=7) (N:=some 16) (bm 10 511) rfl rfl (by kernel_rfl) (by decide) (fun K hK=>?_);refine goes_ Tryd.func37 (by kernel_rfl) rfl #[.agg #[.int .i64 e0.f0.f0,.int .i64 e0.f0.f1,.int .i64 e0.f1.f0,.int .i64 e0.f1.f1],.agg #[.int .i64 x,.int .i64 y]] (by rfl) rfl rfl (by (try simp only [List.map_toArray,List.map_cons,List.map_nil]);first | done | rfl) ?_;refine (segFar_told e0 x y f0 _ HF.out).mono ?_;rintro e w2 ⟨rfl,hb⟩;refine⟨_,rfl,?_⟩;refine hK.out _ _ (KS _ (below_step hbb hb)) (fun hHeld=>?_);clear hK K;refine no_ (h:=?_);exact norm_ (by simp only [putAll,Act.put,List.setIfInBounds_toArray,List.set_cons_zero,List.set_cons_succ]) (hCont gb _ ⟨hHeld,blk_below hbox hb,Nat.le_of_eq hgb.symm,below_step hbb hb⟩)
 rintro n w4 ⟨hHeld,hbn,hnW,hb4⟩;refine norm_ (a':=?_) ?_ ?_;rotate_left
 ·
  simp only [putAll,Act.put,List.setIfInBounds_toArray,List.set_cons_zero,List.set_cons_succ];rfl
 refine one_ (i:=9) (N:=none) (bm 10 1023) rfl rfl (by kernel_rfl) (by decide) (fun K hK=>?_);have hs1:w4.cell? ⟨n,0,none⟩=some (.int .i64 0):=(blk_cell hbn 0).trans rfl;have hs2:w4.cell? ⟨n,1,none⟩=some (.int .i64 0):=(blk_cell hbn 1).trans rfl;have hf1:=blk_frozen hbn 0;have hf2:=blk_frozen hbn 1;refine skip_ (w1:=?_) (by rfl) rfl ?_ ?_;rotate_left
 ·
  go_simp;rfl
 have hb5:Below W0.heap.size W0 ((w4.setCell ⟨n,0,none⟩ (.int .i64 f0.1)).setCell ⟨n,1,none⟩ (.int .i64 f0.2)):=(hb4.setCell (p:=⟨n,0,none⟩) hnW _).setCell (p:=⟨n,1,none⟩) hnW _;have hbn5:((w4.setCell ⟨n,0,none⟩ (.int .i64 f0.1)).setCell ⟨n,1,none⟩ (.int .i64 f0.2)).heap[n]?=some (.cells #[.int .i64 f0.1,.int .i64 f0.2] 35 (0,0)):=blk_put (blk_put hbn 0 _ rfl) 1 _ rfl;refine hK.out _ _ (KS _ hb5) (fun hHeld2=>?_);clear hK K;refine done_ (by kernel_rfl) ?_;generalize (w4.setCell ⟨n,0,none⟩ (.int .i64 f0.1)).setCell ⟨n,1,none⟩ (.int .i64 f0.2)=w5 at *;clear hs1 hs2 hf1 hf2 hbn hb4 hHeld hHeld2;have hcut:=hcutA.out;have c5:=pw_cell_below hb5 lo2;have HS:=a0_ (And.intro n0 (And.intro n1 (And.intro hb0 (And.intro hbn5 (And.intro hb5 (And.intro hnW hsz))))));clear hs0 nb nf n0 n1 hsz a0 a1 hal nn y0 y1 y2 y3 hx0 hx1 hx2 hx3 hb0 KS hHeld hb5 hbn5 hnW;go_wp2;clear c5 lo2
 go_loopg [23] es.length (fun kq v23 wr=>∃ (i:Nat) (a1 a2:Int),v23=.int .i64 (i:Int)∧Aside0 (kq=es.length-i∧i≤es.length∧wr.heap[g]?=some (.cells #[.int .i64 x,.int .i64 y] 28 (0,0))∧wr.heap[g+1]?=some (.cells #[.int .i64 0,.int .i64 0] 35 (0,0)) ∧
   wr.heap[n]?=some (.cells #[.int .i64 a1,.int .i64 a2] 35 (0,0))∧fracOk (a1,a2)=true∧runFar (x,y) (a1,a2) (es.drop i)=r∧Below g w wr∧g+1<n))
 case atStart =>
  obtain⟨h1,h2,h3,h4,h5,h6,h7⟩:=HS.out;obtain⟨k1,k2,k3,k4,k5,k6⟩:=HK.out;have e1:=HF.out;refine⟨0,f0.1,f0.2,rfl,⟨rfl,Nat.zero_le _,blk_later h1 h5,blk_later h2 h5,h4,?_,?_,h3.trans (h5.mono (by omega)),by omega⟩⟩
  ·
   rw [show (f0.1,f0.2)=f0 from rfl,← e1];exact (Mort.segFar_ok (k2 e0 List.mem_cons_self) k3).1
  ·
   rw [show (f0.1,f0.2)=f0 from rfl,← e1];exact k6
 case round =>
  obtain⟨i,a1,a2,rfl,H1⟩:=hrel;obtain⟨hk,hi,hpb,hrb,hnb,hfo,hrun,hBw,hgn⟩:=H1.out;clear H1 HS;by_cases hlt:i<es.length
  ·
   have hd:decide ((i:Int)<(es.length:Int))=true:=decide_eq_true (by omega);obtain⟨adr,hadr,z0,z1,z2,z3⟩:=at_sg HK.out.1 i hlt;subst hadr;have hgi:g=w.heap.size:=hG.out.symm;have t0:=(hBw.cell (by have:=World.block_lt_of_cell? w _ z0;rw [hgi];exact this)).trans z0;have t1:=(hBw.cell (p:=⟨(adr.add (i*4)).block,(adr.add (i*4)).off+1,none⟩) (by have:=World.block_lt_of_cell? w _ z1;rw [hgi];exact this)).trans z1;have t2:=(hBw.cell (p:=⟨(adr.add (i*4)).block,(adr.add (i*4)).off+2,none⟩) (by have:=World.block_lt_of_cell? w _ z2;rw [hgi];exact this)).trans z2;have t3:=(hBw.cell (p:=⟨(adr.add (i*4)).block,(adr.add (i*4)).off+3,none⟩) (by have:=World.block_lt_of_cell? w _ z3;rw [hgi];exact this)).trans z3;have hes:es.drop i=es.getD i z61::es.drop (i+1):=by rw [List.drop_eq_getElem_cons hlt,List.getD_eq_getElem?_getD,List.getElem?_eq_getElem hlt];rfl
   have hmem:es.getD i z61∈e0::es:=by rw [List.getD_eq_getElem?_getD,List.getElem?_eq_getElem hlt];exact List.mem_cons_of_mem _ (List.getElem_mem hlt)
   rw [hes] at hrun;generalize es.getD i z61=s0 at *;have hfar:=segFar_told s0 x y;have hsg:fracOk (segFar (sgP s0) (x,y))=true:=(Mort.segFar_ok (HK.out.2.1 s0 hmem) HK.out.2.2.1).1;have hrun2:runFar (x,y) (least (a1,a2) (segFar (sgP s0) (x,y))) (es.drop (i+1))=r:=hrun;generalize segFar (sgP s0) (x,y)=f1 at *;have hF1:fracOk (f1.1,f1.2)=true:=hsg;have hcm:impl_FracCmp.f f1.1 f1.2 a1 a2=some (Mort.cmp0 f1 (a1,a2)):=by unfold impl_FracCmp.f;rw [Mort.fracCmp_ok hF1 hfo]
   have hE2:ErrW wr:=HK.out.2.2.2.1.below (hgi▸hBw);have hcl:least (a1,a2) f1=if Mort.cmp0 f1 (a1,a2)<0 then f1 else (a1,a2):=rfl;generalize Mort.cmp0 f1 (a1,a2)=cv at hcm hcl;have p0:wr.cell? ⟨g,0,none⟩=some (.int .i64 x):=(blk_cell hpb 0).trans rfl;have p1:wr.cell? ⟨g,1,none⟩=some (.int .i64 y):=(blk_cell hpb 1).trans rfl;have q0:wr.cell? ⟨n,0,none⟩=some (.int .i64 a1):=(blk_cell hnb 0).trans rfl;have q1:wr.cell? ⟨n,1,none⟩=some (.int .i64 a2):=(blk_cell hnb 1).trans rfl;have HL:=a0_ (And.intro hk (And.intro hpb (And.intro hrb (And.intro hnb (And.intro hfo (And.intro hrun2 (And.intro hBw (And.intro hgn (And.intro hE2 (And.intro hcm (And.intro hF1 hlt)))))))))));clear hk hi hpb hrb hnb hfo hrun hrun2 hBw hgn hE2 hcm hF1 hsg hes hmem z0 z1 z2 z3 hgi hcut;have hal:=below_alloc (Below.refl wr.heap.size wr) (.cells #[.int .i64 s0.f0.f0,.int .i64 s0.f0.f1,.int .i64 s0.f1.f0,.int .i64 s0.f1.f1] 61);have p0':=pw_cell_below hal p0;have p1':=pw_cell_below hal p1;have HAL:=Aside0.mk hal;have HQ:=a0_ (And.intro q0 q1);have HCL:=Aside0.mk hcl;clear hal q0 q1 p0 p1 hcl;by_cases hlt0:cv<0
   ·
    have hdc:decide (cv<0)=true:=decide_eq_true hlt0;have HLT:=Aside0.mk hlt0;clear hlt0;go_wp2_with (first | (go_at_call 37;refine (hfar f1 _ rfl).mono ?_;rintro e w6 ⟨rfl,hb6⟩;have q0':=pw_cell_below (below_alloc (Below.refl w6.heap.size w6) (.cells #[.int .i64 f1.1,.int .i64 f1.2] 35)) (pw_cell_below hb6 (pw_cell_below HAL.out HQ.out.1));have q1':=pw_cell_below (below_alloc (Below.refl w6.heap.size w6) (.cells #[.int .i64 f1.1,.int .i64 f1.2] 35)) (pw_cell_below hb6 (pw_cell_below HAL.out HQ.out.2));have HB6:=Aside0.mk hb6;clear hb6) | (go_at_call 21;refine (impl_FracCmp.calls f1.1 f1.2 a1 a2 cv _ ((HL.out.2.2.2.2.2.2.2.2.1.below (below_step HAL.out HB6.out)).below (below_alloc (Below.refl _ _) _)) HL.out.2.2.2.2.2.2.2.2.2.1).mono ?_;rintro e w7 ⟨rfl,hb7⟩;have q0'':=pw_cell_below hb7 q0';have q1'':=pw_cell_below hb7 q1';have m7:=blk_later (blk_new w6 (.cells #[.int .i64 f1.1,.int .i64 f1.2] 35 (0,0))) hb7;have m70:w7.cell? ⟨w6.heap.size,0,none⟩=some (.int .i64 f1.1):=(blk_cell m7 0).trans rfl;have m71:w7.cell? ⟨w6.heap.size,1,none⟩=some (.int .i64 f1.2):=(blk_cell m7 1).trans rfl;have n7:=blk_later (blk_alloc (blk_later (blk_later HL.out.2.2.2.1 HAL.out) HB6.out) (.cells #[.int .i64 f1.1,.int .i64 f1.2] 35)) hb7;have n70:=blk_frozen n7 0;have n71:=blk_frozen n7 1;have HB7:=a0_ (below_step (below_alloc (below_step HAL.out HB6.out) (.cells #[.int .i64 f1.1,.int .i64 f1.2] 35)) hb7);clear hb7));obtain⟨k1,k2,k3,k4,k5,k6,k7,k8,k9,k10,k11,k12⟩:=HL.out;have hB7:=HB7.out;go_roundg (es.length-(i+1))
    case measure=>omega
    case rel =>
     have hnlt:w.heap.size≤n:=by have:=hG.out;omega
     have e1:((w7.setCell ⟨n,0,none⟩ (.int .i64 f1.1)).setCell ⟨n,1,none⟩ (.int .i64 f1.2)).heap[g]?=w7.heap[g]?:=(Below.heap_setCell _ ⟨n,1,none⟩ _ g (by show g≠n;omega)).trans (Below.heap_setCell _ ⟨n,0,none⟩ _ g (by show g≠n;omega));have e2:((w7.setCell ⟨n,0,none⟩ (.int .i64 f1.1)).setCell ⟨n,1,none⟩ (.int .i64 f1.2)).heap[g+1]?=w7.heap[g+1]?:=(Below.heap_setCell _ ⟨n,1,none⟩ _ (g+1) (by show g+1≠n;omega)).trans (Below.heap_setCell _ ⟨n,0,none⟩ _ (g+1) (by show g+1≠n;omega));refine⟨i+1,f1.1,f1.2,?_,⟨rfl,by omega,e1.trans (blk_later k2 hB7),e2.trans (blk_later k3 hB7),blk_put (blk_put n7 0 _ rfl) 1 _ rfl,k11,?_,?_,k8⟩⟩
     ·
      have hw:wrap64 ((i:Int)+1)=(i:Int)+1:=by have:=HK.out.2.2.2.2.1;unfold wrap64;omega
      rw [hw];rfl
     ·
      have:=HCL.out;rw [if_pos HLT.out] at this;rw [this] at k6;exact k6
     ·
      exact ((k7.trans (hB7.mono (hG.out▸(hG.out▸k7).size))).setCell (p:=⟨n,0,none⟩) (by show g≤n;omega) _).setCell (p:=⟨n,1,none⟩) (by show g≤n;omega) _
   ·
    have hdc:decide (cv<0)=false:=decide_eq_false hlt0;have HLT:=Aside0.mk hlt0;clear hlt0;go_wp2_with (first | (go_at_call 37;refine (hfar f1 _ rfl).mono ?_;rintro e w6 ⟨rfl,hb6⟩;have q0':=pw_cell_below (below_alloc (Below.refl w6.heap.size w6) (.cells #[.int .i64 f1.1,.int .i64 f1.2] 35)) (pw_cell_below hb6 (pw_cell_below HAL.out HQ.out.1));have q1':=pw_cell_below (below_alloc (Below.refl w6.heap.size w6) (.cells #[.int .i64 f1.1,.int .i64 f1.2] 35)) (pw_cell_below hb6 (pw_cell_below HAL.out HQ.out.2));have HB6:=Aside0.mk hb6;clear hb6) | (go_at_call 21;refine (impl_FracCmp.calls f1.1 f1.2 a1 a2 cv _ ((HL.out.2.2.2.2.2.2.2.2.1.below (below_step HAL.out HB6.out)).below (below_alloc (Below.refl _ _) _)) HL.out.2.2.2.2.2.2.2.2.2.1).mono ?_;rintro e w7 ⟨rfl,hb7⟩;have q0'':=pw_cell_below hb7 q0';have q1'':=pw_cell_below hb7 q1';have m7:=blk_later (blk_new w6 (.cells #[.int .i64 f1.1,.int .i64 f1.2] 35 (0,0))) hb7;have m70:w7.cell? ⟨w6.heap.size,0,none⟩=some (.int .i64 f1.1):=(blk_cell m7 0).trans rfl;have m71:w7.cell? ⟨w6.heap.size,1,none⟩=some (.int .i64 f1.2):=(blk_cell m7 1).trans rfl;have n7:=blk_later (blk_alloc (blk_later (blk_later HL.out.2.2.2.1 HAL.out) HB6.out) (.cells #[.int .i64 f1.1,.int .i64 f1.2] 35)) hb7;have n70:=blk_frozen n7 0;have n71:=blk_frozen n7 1;have HB7:=a0_ (below_step (below_alloc (below_step HAL.out HB6.out) (.cells #[.int .i64 f1.1,.int .i64 f1.2] 35)) hb7);clear hb7));obtain⟨k1,k2,k3,k4,k5,k6,k7,k8,k9,k10,k11,k12⟩:=HL.out;have hB7:=HB7.out;go_roundg (es.length-(i+1))
    case measure=>omega
    case rel =>
     refine⟨i+1,a1,a2,?_,⟨rfl,by omega,blk_later k2 hB7,blk_later k3 hB7,n7,k5,?_,k7.trans (hB7.mono (hG.out▸(hG.out▸k7).size)),k8⟩⟩
     ·
      have hw:wrap64 ((i:Int)+1)=(i:Int)+1:=by have:=HK.out.2.2.2.2.1;unfold wrap64;omega
      rw [hw];rfl
     ·
      have:=HCL.out;rw [if_neg (by have:=HLT.out;omega)] at this;rw [this] at k6;exact k6
  ·
   obtain rfl:i=es.length:=by omega
   have hd:decide ((es.length:Int)<(es.length:Int))=false:=decide_eq_false (by omega);have q0:wr.cell? ⟨n,0,none⟩=some (.int .i64 a1):=(blk_cell hnb 0).trans rfl;have q1:wr.cell? ⟨n,1,none⟩=some (.int .i64 a2):=(blk_cell hnb 1).trans rfl;have q2:wr.cell? ⟨g+1,0,none⟩=some (.int .i64 0):=(blk_cell hrb 0).trans rfl;have q3:wr.cell? ⟨g+1,1,none⟩=some (.int .i64 0):=(blk_cell hrb 1).trans rfl;have q4:=blk_frozen hrb 0;have q5:=blk_frozen hrb 1;have hrr:(a1,a2)=r:=by rw [← hrun,List.drop_length];rfl
   obtain⟨r1,r2⟩:=r;cases hrr;have hrb':=blk_put (blk_put hrb 0 (.int .i64 a1) rfl) 1 (.int .i64 a2) rfl;have HR2:=Aside0.mk hrb';have q6:((wr.setCell ⟨g+1,0,none⟩ (.int .i64 a1)).setCell ⟨g+1,1,none⟩ (.int .i64 a2)).cell? ⟨g+1,0,none⟩=some (.int .i64 a1):=(blk_cell hrb' 0).trans rfl;have q7:((wr.setCell ⟨g+1,0,none⟩ (.int .i64 a1)).setCell ⟨g+1,1,none⟩ (.int .i64 a2)).cell? ⟨g+1,1,none⟩=some (.int .i64 a2):=(blk_cell hrb' 1).trans rfl;have HB:=Aside0.mk hBw;clear hrun hBw hnb hrb hpb hk hi hlt hfo hgn hcut hrb';go_wp2;refine bodyPost_ret (results_cell_row rfl _ _ (g+1) 35 #[.int .i64 a1,.int .i64 a2] (0,0) _ rfl HR2.out Tryd.underlying35 rfl (by kernel_rfl)) rfl ?_;refine⟨rfl,?_⟩;exact (HB.out.setCell (p:=⟨g+1,0,none⟩) (Nat.le_succ g) _).setCell (p:=⟨g+1,1,none⟩) (Nat.le_succ g) _
def farE (E:List S61)(p:Mort.Pt):Mort.Frac:=match E with
 | []=>(0,0)
 | e0::es=>runFar p (segFar (sgP e0) p) es
theorem bodyOkB_iff (o:List S28)(H:List (List S28)):bodyOkB o H=true ↔ H.length≤2∧loopOk (o.map ptP)=true∧(∀ z∈H,loopOk (z.map ptP)=true)∧apartAll (o::H)=true∧nestedAll o H=true:=by
 unfold bodyOkB;simp only [Bool.and_eq_true,decide_eq_true_eq,List.all_eq_true]
theorem edgesS_ok {z:List S28}(h:loopOk (z.map ptP)=true):∀ s∈edgesS z,segOk (sgP s)=true:=by
 intro s hs;unfold edgesS at hs;obtain⟨i,_,rfl⟩:=List.mem_map.1 hs;have h1:=((Mort.loopOk_iff _).1 h).2.2.1;have:=h1 _ (Mort.mem_edges.2 ⟨i,by simpa using i.2,rfl⟩)
 rwa [ed_edS] at this
theorem allEdges_ok {o:List S28}{H:List (List S28)}(h:bodyOkB o H=true):∀ s∈allEdges (o::H),segOk (sgP s)=true:=by
 intro s hs;obtain⟨_,h1,h2,_⟩:=(bodyOkB_iff o H).1 h;unfold allEdges at hs;obtain⟨z,hz,hs2⟩:=List.mem_flatMap.1 hs
 rcases List.mem_cons.1 hz with rfl | hz
 ·
  exact edgesS_ok h1 s hs2
 ·
  exact edgesS_ok (h2 z hz) s hs2
theorem loop_len {z:List S28}(h:loopOk (z.map ptP)=true):3≤z.length∧z.length≤8:=by
 obtain⟨h1,h2,_⟩:=(Mort.loopOk_iff _).1 h
 simpa using And.intro h1 h2
theorem small_of {o:List S28}{H:List (List S28)}(h:bodyOkB o H=true):Small (o::H):=by
 obtain⟨_,h1,h2,_⟩:=(bodyOkB_iff o H).1 h;intro z hz
 rcases List.mem_cons.1 hz with rfl | hz
 ·
  have:=loop_len h1;omega
 ·
  have:=loop_len (h2 z hz);omega
theorem allEdges_cons {o:List S28}{H:List (List S28)}(h:bodyOkB o H=true):∃ e0 es,allEdges (o::H)=e0::es∧es.length≤23:=by
 obtain⟨h0,h1,h2,_⟩:=(bodyOkB_iff o H).1 h;have hl:=allEdges_len (small_of h);have hp:0<(allEdges (o::H)).length:=by
  unfold allEdges;rw [List.flatMap_cons,List.length_append];have:(edgesS o).length=o.length:=by simp [edgesS]
  have:=loop_len h1;omega
 simp only [List.length_cons] at hl
 cases hE:allEdges (o::H) with
 | nil=>rw [hE] at hp;simp at hp
 | cons e0 es=>exact⟨e0,es,rfl,by rw [hE] at hl;simp only [List.length_cons] at hl;omega⟩
section
variable (A0_0:Option Addr) (c0_0:Nat) (l0_0:List S28) (A0_1:Option Addr) (c0_1:Nat) (l0_1:List (List S28))
end
end Go.Proofs.YtkefmnmoaomlhaaDoor.X
end
section
set_option linter.unusedVariables false
set_option linter.unusedSimpArgs false
namespace Go.Proofs.YtkefmnmoaomlhaaDoor.X
open Go.RowKit Go.Shelf Go.Proofs.YtkefmnmoaomlhaaDoorW.PrintWords Go.Proofs.YtkefmnmoaomlhaaDoorW.PrintLast Go.Proofs.YtkefmnmoaomlhaaDoorW.PrintMore
open Mort (edges loopOk ptOk inOf inRun crsI cross has)
def spec_l3In.f (l0:List S28)(a1_0 a1_1:Int):Option Int:=if loopOk (l0.map ptP)=true∧ptOk (a1_0,a1_1)=true then some (inOf (l0.map ptP) (a1_0,a1_1)) else none
theorem at_sg3 {W:World}{A:Option Addr}{n:Nat}{zs:List S61}(hC:Kd.C k61 W A n zs)(k:Nat)(h:k<n):
  ∃ ad,A=some ad∧W.cell? (ad.add (k*4))=some (.int .i64 (zs.getD k z61).f0.f0)∧W.cell? ⟨(ad.add (k*4)).block,(ad.add (k*4)).off+1,none⟩=some (.int .i64 (zs.getD k z61).f0.f1) ∧
   W.cell? ⟨(ad.add (k*4)).block,(ad.add (k*4)).off+2,none⟩=some (.int .i64 (zs.getD k z61).f1.f0)∧W.cell? ⟨(ad.add (k*4)).block,(ad.add (k*4)).off+3,none⟩=some (.int .i64 (zs.getD k z61).f1.f1):=
 at_T61 hC (k:Int) (by omega) (by omega)
def upC (lo hi p:Mort.Pt):Bool:=decide (lo.2≤p.2) && (decide (p.2<hi.2) && decide (0<cross lo hi p))
theorem crs_up (a b p:Mort.Pt):crsI (a,b) p=if b.2<a.2 then upC b a p else upC a b p:=by
 unfold crsI upC;simp only;have hr:=Mort.cross_rev a b p;by_cases h:b.2<a.2
 ·
  rw [if_pos h];have e1:(decide (a.2≤p.2) && (decide (p.2<b.2) && decide (0<cross a b p)))=false:=by
   by_cases h1:a.2≤p.2
   ·
    rw [decide_eq_false (show ¬ p.2<b.2 by omega)];simp
   ·
    rw [decide_eq_false h1];rfl
  rw [e1,Bool.false_or,hr]
  congr 2
  rw [decide_eq_decide];omega
 ·
  rw [if_neg h];have e1:(decide (b.2≤p.2) && (decide (p.2<a.2) && decide (cross a b p<0)))=false:=by
   by_cases h1:b.2≤p.2
   ·
    rw [decide_eq_false (show ¬ p.2<a.2 by omega)];simp
   ·
    rw [decide_eq_false h1];rfl
  rw [e1,Bool.or_false]
set_option maxHeartbeats 4000000 in
set_option maxRecDepth 100000 in
theorem spec_l3In.calls (A0:Option Addr)(c0:Nat)(l0:List S28)(a1_0 a1_1:Int)(r:Int)(w:World)(hr0:Kd.C k28 w A0 l0.length l0)(hc0:l0.length≤c0)(h:spec_l3In.f l0 a1_0 a1_1=some r):
  Calls Tryd.prog 56 #[.slice A0 l0.length c0,.agg #[.int .i64 a1_0,.int .i64 a1_1]] w fun e w'=>e=.returned (.int .i64 r)∧Below w.heap.size w w':=by
 have hu28:=Tryd.underlying28;have hu61:=Tryd.underlying61;unfold spec_l3In.f at h
 split at h
 case isFalse=>cases h
 rename_i hh
 obtain⟨hok,hp⟩:=hh;have h:=Option.some.inj h;have hlen:l0.length≤8:=by have:=((Mort.loopOk_iff _).1 hok).2.1;simpa using this
 have hal:=below_alloc (Below.refl w.heap.size w) (.cells #[.int .i64 a1_0,.int .i64 a1_1] 28);have np:=blk_new w (.cells #[.int .i64 a1_0,.int .i64 a1_1] 28 (0,0));have hes:spec_l3Edges.f 10 l0=some (esOf l0):=sEdges (by omega) (by omega);have hsg:∀ i,i<l0.length→Mort.segOk (sgP (edS l0 i))=true:=fun i hi=>by
  have:=((Mort.loopOk_iff _).1 hok).2.2.1 _ (Mort.mem_edges.2 ⟨i,by simpa using hi,rfl⟩)
  rwa [ed_edS] at this
 have hmem:∀ i,i<l0.length→sgP (edS l0 i)∈edges (l0.map ptP):=fun i hi=>by
  rw [← ed_edS];exact Mort.mem_edges.2 ⟨i,by simpa using hi,rfl⟩
 have HK:=a0_ (And.intro (Kd.C_below hr0 hal) (And.intro hc0 (And.intro hes (And.intro hsg (And.intro hmem (And.intro hp (And.intro h (And.intro hlen (And.intro hal np)))))))));clear hr0 hc0 hes hsg hmem hp h hlen hal np hok;go_enter Tryd.func56,Tryd.ntmps56;go_wp2_with (go_at_call 98;refine (spec_l3Edges.calls 10 A0 c0 l0 (esOf l0) _ HK.out.1 HK.out.2.1 HK.out.2.2.1).mono ?_;rintro e w1 ⟨v,rfl,hR,hb1⟩;obtain⟨Ae,ce,hv,hce,hCe⟩:=Kd.R_reads hR;subst hv;have HE:=a0_ (And.intro hCe (And.intro hce hb1));clear hR hCe hce hb1);generalize hg:w.heap.size=g at *;have hG:=Aside0.mk hg;clear hg;have hL:(esOf l0).length=l0.length:=esOf_len l0;rw [hL];have HLn:=Aside0.mk hL;clear hL
 go_loopg [5,7] l0.length (fun kq v5 v7 wr=>∃ (i:Nat),v5=.int .i64 (inRun (((esOf l0).take i).map sgP) (a1_0,a1_1))∧v7=.int .i64 (i:Int)∧Aside0 (kq=l0.length-i∧i≤l0.length∧wr.heap[g]?=some (.cells #[.int .i64 a1_0,.int .i64 a1_1] 28 (0,0)) ∧
   (∀ e∈((esOf l0).take i).map sgP,has e (a1_0,a1_1)=false)∧Below g w wr∧Below w1.heap.size w1 wr))
 case atStart =>
  have hG':=hG.out;subst hG';refine⟨0,rfl,rfl,⟨rfl,Nat.zero_le _,blk_later HK.out.2.2.2.2.2.2.2.2.2 HE.out.2.2,?_,below_step HK.out.2.2.2.2.2.2.2.2.1 HE.out.2.2,Below.refl _ _⟩⟩;intro e he;simp at he
 case round =>
  obtain⟨i,rfl,rfl,H1⟩:=hrel;obtain⟨hk,hi,hpb,hno,hBw,hB1⟩:=H1.out;clear H1;by_cases hlt:i<l0.length
  ·
   have hd:decide ((i:Int)<(l0.length:Int))=true:=decide_eq_true (by omega);obtain⟨adr,hadr,z0,z1,z2,z3⟩:=at_sg3 HE.out.1 i (by rw [HLn.out];exact hlt);subst hadr;have t0:=pw_cell_below (below_drew1 hB1) z0;have t1:=pw_cell_below (below_drew1 hB1) z1;have t2:=pw_cell_below (below_drew1 hB1) z2;have t3:=pw_cell_below (below_drew1 hB1) z3;have p0:wr.drew.cell? ⟨g,0,none⟩=some (.int .i64 a1_0):=(blk_cell hpb 0).trans rfl;have p1:wr.drew.cell? ⟨g,1,none⟩=some (.int .i64 a1_1):=(blk_cell hpb 1).trans rfl;have hes:(esOf l0).getD i z61=edS l0 i:=esOf_getD l0 hlt;have htk:((esOf l0).take (i+1)).map sgP=((esOf l0).take i).map sgP++[sgP (edS l0 i)]:=by
    rw [List.take_succ_eq_append_getElem (by rw [HLn.out];exact hlt),List.map_append];rw [List.getD_eq_getElem?_getD,List.getElem?_eq_getElem (by rw [HLn.out];exact hlt)] at hes;rw [show (esOf l0)[i]'(by rw [HLn.out];exact hlt)=edS l0 i from hes];rfl
   rw [hes] at t0 t1 t2 t3;have hseg:=HK.out.2.2.2.1 i hlt;have hmem:=HK.out.2.2.2.2.1 i hlt;generalize edS l0 i=s0 at *;obtain⟨⟨ax,ay⟩,⟨bx,by'⟩⟩:=s0;obtain⟨⟨hpa,hpb'⟩,_⟩:(ptOk (ax,ay)=true∧ptOk (bx,by')=true)∧True:=⟨⟨((Mort.segOk_iff _).1 hseg).1,((Mort.segOk_iff _).1 hseg).2.1⟩,trivial⟩;have hhas:=sHas hpa hpb' HK.out.2.2.2.2.2.1;have hc1:=sCross hpa hpb' HK.out.2.2.2.2.2.1;have hc2:=sCross hpb' hpa HK.out.2.2.2.2.2.1;have HL:=a0_ (And.intro hk (And.intro hpb (And.intro hno (And.intro hBw (And.intro hB1 (And.intro hhas (And.intro hc1 (And.intro hc2 (And.intro htk hmem)))))))));clear hk hi hpb hno hBw hB1 hhas hc1 hc2 htk hmem hes z0 z1 z2 z3 hseg hpa hpb'
   cases hh:has ((ax,ay),(bx,by')) (a1_0,a1_1) with
   | true =>
    obtain⟨k1,k2,k3,k4,k5,k6,k7,k8,k9,k10⟩:=HL.out;have hr:0=r:=by rw [← HK.out.2.2.2.2.2.2.1,Mort.inOf_on k10 hh]
    subst hr;have HV:=a0_ (k6.trans (congrArg some hh));clear k1 k2 k3 k4 k5 k6 k7 k8 k9 k10 hh;go_wp2;go_region_held3 (fun W=>W.cell? (adr.add (i*4))=some (.int .i64 ax)∧W.cell? ⟨(adr.add (i*4)).block,(adr.add (i*4)).off+1,none⟩=some (.int .i64 ay)∧W.cell? ⟨(adr.add (i*4)).block,(adr.add (i*4)).off+2,none⟩=some (.int .i64 bx)∧W.cell? ⟨(adr.add (i*4)).block,(adr.add (i*4)).off+3,none⟩=some (.int .i64 by')∧W.cell? ⟨g,0,none⟩=some (.int .i64 a1_0)∧W.cell? ⟨g,1,none⟩=some (.int .i64 a1_1))
     (first | exact⟨pw_cell_below hb t0,pw_cell_below hb t1,pw_cell_below hb t2,pw_cell_below hb t3,pw_cell_below hb p0,pw_cell_below hb p1⟩ | go_keep)
     (first | (go_at_call 100;refine (spec_l2Has.calls ax ay bx by' a1_0 a1_1 true _ HV.out).mono ?_;rintro e w2 ⟨rfl,hb⟩))
    go_wp2;go_ret;have hG':=hG.out;subst hG';exact⟨rfl,below_row (below_drew1 HL.out.2.2.2.1) (Nat.le_refl _) hb⟩
   | false =>
    obtain⟨k1,k2,k3,k4,k5,k6,k7,k8,k9,k10⟩:=HL.out;have hin:inRun (((esOf l0).take (i+1)).map sgP) (a1_0,a1_1)=if crsI ((ax,ay),(bx,by')) (a1_0,a1_1) then-inRun (((esOf l0).take i).map sgP) (a1_0,a1_1) else inRun (((esOf l0).take i).map sgP) (a1_0,a1_1):=by rw [k9,Mort.inRun_snoc];rfl
    have hno2:∀ e∈((esOf l0).take (i+1)).map sgP,has e (a1_0,a1_1)=false:=by
     rw [k9];intro e he
     rcases List.mem_append.1 he with he | he
     ·
      exact k3 e he
     ·
      rw [List.mem_singleton] at he;subst he;exact hh
    rw [crs_up] at hin;have hvals:inRun (((esOf l0).take i).map sgP) (a1_0,a1_1)=1∨inRun (((esOf l0).take i).map sgP) (a1_0,a1_1) = -1:=by
     unfold inRun Mort.sideOf;cases Mort.xorAll _ <;> simp
    generalize inRun (((esOf l0).take i).map sgP) (a1_0,a1_1)=u at *;have HV:=a0_ (k6.trans (congrArg some hh));have HN:=a0_ (And.intro hin (And.intro hno2 hvals));clear k1 k2 k3 k4 k5 k6 k7 k8 k9 k10 hh hin hno2 hvals;go_wp2;go_region_held3 (fun W=>W.cell? (adr.add (i*4))=some (.int .i64 ax)∧W.cell? ⟨(adr.add (i*4)).block,(adr.add (i*4)).off+1,none⟩=some (.int .i64 ay)∧W.cell? ⟨(adr.add (i*4)).block,(adr.add (i*4)).off+2,none⟩=some (.int .i64 bx)∧W.cell? ⟨(adr.add (i*4)).block,(adr.add (i*4)).off+3,none⟩=some (.int .i64 by')∧W.cell? ⟨g,0,none⟩=some (.int .i64 a1_0)∧W.cell? ⟨g,1,none⟩=some (.int .i64 a1_1))
     (first | exact⟨pw_cell_below hb t0,pw_cell_below hb t1,pw_cell_below hb t2,pw_cell_below hb t3,pw_cell_below hb p0,pw_cell_below hb p1⟩ | go_keep)
     (first | (go_at_call 100;refine (spec_l2Has.calls ax ay bx by' a1_0 a1_1 false _ HV.out).mono ?_;rintro e w2 ⟨rfl,hb⟩))
    have t0':=pw_cell_below hb t0;have t1':=pw_cell_below hb t1;have t2':=pw_cell_below hb t2;have t3':=pw_cell_below hb t3;have hxa:=below_alloc (Below.refl w2.heap.size w2) (.cells #[.int .i64 ax,.int .i64 ay] 28);have x0:=pw_cell_below hxa t2';have x1:=pw_cell_below hxa t3';have hu28:=Tryd.underlying28;have hu61:=Tryd.underlying61;obtain⟨_,_,_,_,_,_,k7_,k8_,_,_⟩:=HL.out;by_cases hsw:by'<ay
    ·
     have b1:decide (by'<ay)=true:=decide_eq_true hsw;have HSW:=Aside0.mk hsw;clear hsw k7_;have hW3:=below_alloc (below_alloc (Below.refl w2.heap.size w2) (.cells #[.int .i64 bx,.int .i64 by'] 28)) (.cells #[.int .i64 ax,.int .i64 ay] 28);have q0:=pw_cell_below hW3 (pw_cell_below hb p0);have q1:=pw_cell_below hW3 (pw_cell_below hb p1);have HB3:=a0_ (And.intro hb hW3);clear hb hW3 p0 p1 t0 t1 t2 t3 hxa;have HCR:=Aside0.mk k8_;clear k8_;by_cases g1:by'≤a1_1
     ·
      have b2:decide (by'≤a1_1)=true:=decide_eq_true g1;have G1:=Aside0.mk g1;clear g1;by_cases g2:a1_1<ay
      ·
       have b3:decide (a1_1<ay)=true:=decide_eq_true g2;have G2:=Aside0.mk g2;clear g2;by_cases g3:0<cross (bx,by') (ax,ay) (a1_0,a1_1)
       ·
        have G3:=Aside0.mk g3;generalize cross (bx,by') (ax,ay) (a1_0,a1_1)=cv at g3 HCR;have b4:decide (0<cv)=true:=decide_eq_true g3;have hvals2:=HN.out.2.2;clear g3
        rcases hvals2 with rfl | rfl
        all_goals
         go_wp2_with (go_at_call 102;refine (spec_l2Cross.calls bx by' ax ay a1_0 a1_1 cv _ HCR.out).mono ?_;rintro e w4 ⟨rfl,hb4⟩);obtain⟨k1,k2,k3,k4,k5,k6,k7,k8,k9,k10⟩:=HL.out;have hbb:Below wr.heap.size wr _:=below_step (below_step (below_step (below_drew1 (Below.refl wr.heap.size wr)) HB3.out.1) HB3.out.2) hb4;go_roundg (l0.length-(i+1))
         case measure=>omega
         case rel =>
          refine⟨i+1,?_,?_,⟨rfl,by omega,blk_later k2 hbb,HN.out.2.1,?_,k5.trans (hbb.mono k5.size)⟩⟩
          ·
           have hin:=HN.out.1;have hvals:=HN.out.2.2;rw [hin];have hu:upC (bx,by') (ax,ay) (a1_0,a1_1)=true:=by unfold upC;simp only [G1.out,G2.out,G3.out,decide_true,Bool.and_true]
           rw [if_pos HSW.out,hu]
           first | rfl | decide
          ·
           have hw:wrap64 ((i:Int)+1)=(i:Int)+1:=by have:=HK.out.2.2.2.2.2.2.2.1;unfold wrap64;omega
           first | rfl | (rw [hw];rfl)
          ·
           have hG':=hG.out;subst hG';exact below_row k4 (Nat.le_refl _) hbb
       ·
        have G3:=Aside0.mk g3;generalize cross (bx,by') (ax,ay) (a1_0,a1_1)=cv at g3 HCR;have b4:decide (0<cv)=false:=decide_eq_false g3;clear g3;go_wp2_with (go_at_call 102;refine (spec_l2Cross.calls bx by' ax ay a1_0 a1_1 cv _ HCR.out).mono ?_;rintro e w4 ⟨rfl,hb4⟩);obtain⟨k1,k2,k3,k4,k5,k6,k7,k8,k9,k10⟩:=HL.out;have hbb:Below wr.heap.size wr _:=below_step (below_step (below_step (below_drew1 (Below.refl wr.heap.size wr)) HB3.out.1) HB3.out.2) hb4;go_roundg (l0.length-(i+1))
        case measure=>omega
        case rel =>
         refine⟨i+1,?_,?_,⟨rfl,by omega,blk_later k2 hbb,HN.out.2.1,?_,k5.trans (hbb.mono k5.size)⟩⟩
         ·
          have hin:=HN.out.1;have hvals:=HN.out.2.2;rw [hin];have hu:upC (bx,by') (ax,ay) (a1_0,a1_1)=false:=by unfold upC;simp only [decide_eq_false (show ¬ 0<cross (bx,by') (ax,ay) (a1_0,a1_1) by have:=G3.out;omega),Bool.and_false]
          rw [if_pos HSW.out,hu];rfl
         ·
          have hw:wrap64 ((i:Int)+1)=(i:Int)+1:=by have:=HK.out.2.2.2.2.2.2.2.1;unfold wrap64;omega
          first | rfl | (rw [hw];rfl)
         ·
          have hG':=hG.out;subst hG';exact below_row k4 (Nat.le_refl _) hbb
      ·
       have b3:decide (a1_1<ay)=false:=decide_eq_false g2;have G2:=Aside0.mk g2;clear g2;go_wp2;obtain⟨k1,k2,k3,k4,k5,k6,k7,k8,k9,k10⟩:=HL.out;have hbb:Below wr.heap.size wr _:=below_step (below_step (below_drew1 (Below.refl wr.heap.size wr)) HB3.out.1) HB3.out.2;go_roundg (l0.length-(i+1))
       case measure=>omega
       case rel =>
        refine⟨i+1,?_,?_,⟨rfl,by omega,blk_later k2 hbb,HN.out.2.1,?_,k5.trans (hbb.mono k5.size)⟩⟩
        ·
         have hin:=HN.out.1;have hvals:=HN.out.2.2;rw [hin];have hu:upC (bx,by') (ax,ay) (a1_0,a1_1)=false:=by unfold upC;simp only [decide_eq_false (show ¬ a1_1<ay from by have:=G2.out;omega),Bool.false_and,Bool.and_false]
         rw [if_pos HSW.out,hu];rfl
        ·
         have hw:wrap64 ((i:Int)+1)=(i:Int)+1:=by have:=HK.out.2.2.2.2.2.2.2.1;unfold wrap64;omega
         first | rfl | (rw [hw];rfl)
        ·
         have hG':=hG.out;subst hG';exact below_row k4 (Nat.le_refl _) hbb
     ·
      have b2:decide (by'≤a1_1)=false:=decide_eq_false g1;have G1:=Aside0.mk g1;clear g1;go_wp2;obtain⟨k1,k2,k3,k4,k5,k6,k7,k8,k9,k10⟩:=HL.out;have hbb:Below wr.heap.size wr _:=below_step (below_step (below_drew1 (Below.refl wr.heap.size wr)) HB3.out.1) HB3.out.2;go_roundg (l0.length-(i+1))
      case measure=>omega
      case rel =>
       refine⟨i+1,?_,?_,⟨rfl,by omega,blk_later k2 hbb,HN.out.2.1,?_,k5.trans (hbb.mono k5.size)⟩⟩
       ·
        have hin:=HN.out.1;have hvals:=HN.out.2.2;rw [hin];have hu:upC (bx,by') (ax,ay) (a1_0,a1_1)=false:=by unfold upC;simp only [decide_eq_false (show ¬ by'≤a1_1 from by have:=G1.out;omega),Bool.false_and]
        rw [if_pos HSW.out,hu];rfl
       ·
        have hw:wrap64 ((i:Int)+1)=(i:Int)+1:=by have:=HK.out.2.2.2.2.2.2.2.1;unfold wrap64;omega
        first | rfl | (rw [hw];rfl)
       ·
        have hG':=hG.out;subst hG';exact below_row k4 (Nat.le_refl _) hbb
    ·
     have b1:decide (by'<ay)=false:=decide_eq_false hsw;have HSW:=Aside0.mk hsw;clear hsw k8_;have hW3:=below_alloc (below_alloc (Below.refl w2.heap.size w2) (.cells #[.int .i64 ax,.int .i64 ay] 28)) (.cells #[.int .i64 bx,.int .i64 by'] 28);have q0:=pw_cell_below hW3 (pw_cell_below hb p0);have q1:=pw_cell_below hW3 (pw_cell_below hb p1);have HB3:=a0_ (And.intro hb hW3);clear hb hW3 p0 p1 t0 t1 t2 t3 hxa;have HCR:=Aside0.mk k7_;clear k7_;by_cases g1:ay≤a1_1
     ·
      have b2:decide (ay≤a1_1)=true:=decide_eq_true g1;have G1:=Aside0.mk g1;clear g1;by_cases g2:a1_1<by'
      ·
       have b3:decide (a1_1<by')=true:=decide_eq_true g2;have G2:=Aside0.mk g2;clear g2;by_cases g3:0<cross (ax,ay) (bx,by') (a1_0,a1_1)
       ·
        have G3:=Aside0.mk g3;generalize cross (ax,ay) (bx,by') (a1_0,a1_1)=cv at g3 HCR;have b4:decide (0<cv)=true:=decide_eq_true g3;have hvals2:=HN.out.2.2;clear g3
        rcases hvals2 with rfl | rfl
        all_goals
         go_wp2_with (go_at_call 102;refine (spec_l2Cross.calls ax ay bx by' a1_0 a1_1 cv _ HCR.out).mono ?_;rintro e w4 ⟨rfl,hb4⟩);obtain⟨k1,k2,k3,k4,k5,k6,k7,k8,k9,k10⟩:=HL.out;have hbb:Below wr.heap.size wr _:=below_step (below_step (below_step (below_drew1 (Below.refl wr.heap.size wr)) HB3.out.1) HB3.out.2) hb4;go_roundg (l0.length-(i+1))
         case measure=>omega
         case rel =>
          refine⟨i+1,?_,?_,⟨rfl,by omega,blk_later k2 hbb,HN.out.2.1,?_,k5.trans (hbb.mono k5.size)⟩⟩
          ·
           have hin:=HN.out.1;have hvals:=HN.out.2.2;rw [hin];have hu:upC (ax,ay) (bx,by') (a1_0,a1_1)=true:=by unfold upC;simp only [G1.out,G2.out,G3.out,decide_true,Bool.and_true]
           rw [if_neg (show ¬ by'<ay by have:=HSW.out;omega),hu]
           first | rfl | decide
          ·
           have hw:wrap64 ((i:Int)+1)=(i:Int)+1:=by have:=HK.out.2.2.2.2.2.2.2.1;unfold wrap64;omega
           first | rfl | (rw [hw];rfl)
          ·
           have hG':=hG.out;subst hG';exact below_row k4 (Nat.le_refl _) hbb
       ·
        have G3:=Aside0.mk g3;generalize cross (ax,ay) (bx,by') (a1_0,a1_1)=cv at g3 HCR;have b4:decide (0<cv)=false:=decide_eq_false g3;clear g3;go_wp2_with (go_at_call 102;refine (spec_l2Cross.calls ax ay bx by' a1_0 a1_1 cv _ HCR.out).mono ?_;rintro e w4 ⟨rfl,hb4⟩);obtain⟨k1,k2,k3,k4,k5,k6,k7,k8,k9,k10⟩:=HL.out;have hbb:Below wr.heap.size wr _:=below_step (below_step (below_step (below_drew1 (Below.refl wr.heap.size wr)) HB3.out.1) HB3.out.2) hb4;go_roundg (l0.length-(i+1))
        case measure=>omega
        case rel =>
         refine⟨i+1,?_,?_,⟨rfl,by omega,blk_later k2 hbb,HN.out.2.1,?_,k5.trans (hbb.mono k5.size)⟩⟩
         ·
          have hin:=HN.out.1;have hvals:=HN.out.2.2;rw [hin];have hu:upC (ax,ay) (bx,by') (a1_0,a1_1)=false:=by unfold upC;simp only [decide_eq_false (show ¬ 0<cross (ax,ay) (bx,by') (a1_0,a1_1) by have:=G3.out;omega),Bool.and_false]
          rw [if_neg (show ¬ by'<ay by have:=HSW.out;omega),hu];rfl
         ·
          have hw:wrap64 ((i:Int)+1)=(i:Int)+1:=by have:=HK.out.2.2.2.2.2.2.2.1;unfold wrap64;omega
          first | rfl | (rw [hw];rfl)
         ·
          have hG':=hG.out;subst hG';exact below_row k4 (Nat.le_refl _) hbb
      ·
       have b3:decide (a1_1<by')=false:=decide_eq_false g2;have G2:=Aside0.mk g2;clear g2;go_wp2;obtain⟨k1,k2,k3,k4,k5,k6,k7,k8,k9,k10⟩:=HL.out;have hbb:Below wr.heap.size wr _:=below_step (below_step (below_drew1 (Below.refl wr.heap.size wr)) HB3.out.1) HB3.out.2;go_roundg (l0.length-(i+1))
       case measure=>omega
       case rel =>
        refine⟨i+1,?_,?_,⟨rfl,by omega,blk_later k2 hbb,HN.out.2.1,?_,k5.trans (hbb.mono k5.size)⟩⟩
        ·
         have hin:=HN.out.1;have hvals:=HN.out.2.2;rw [hin];have hu:upC (ax,ay) (bx,by') (a1_0,a1_1)=false:=by unfold upC;simp only [decide_eq_false (show ¬ a1_1<by' from by have:=G2.out;omega),Bool.false_and,Bool.and_false]
         rw [if_neg (show ¬ by'<ay by have:=HSW.out;omega),hu];rfl
        ·
         have hw:wrap64 ((i:Int)+1)=(i:Int)+1:=by have:=HK.out.2.2.2.2.2.2.2.1;unfold wrap64;omega
         first | rfl | (rw [hw];rfl)
        ·
         have hG':=hG.out;subst hG';exact below_row k4 (Nat.le_refl _) hbb
     ·
      have b2:decide (ay≤a1_1)=false:=decide_eq_false g1;have G1:=Aside0.mk g1;clear g1;go_wp2;obtain⟨k1,k2,k3,k4,k5,k6,k7,k8,k9,k10⟩:=HL.out;have hbb:Below wr.heap.size wr _:=below_step (below_step (below_drew1 (Below.refl wr.heap.size wr)) HB3.out.1) HB3.out.2;go_roundg (l0.length-(i+1))
      case measure=>omega
      case rel =>
       refine⟨i+1,?_,?_,⟨rfl,by omega,blk_later k2 hbb,HN.out.2.1,?_,k5.trans (hbb.mono k5.size)⟩⟩
       ·
        have hin:=HN.out.1;have hvals:=HN.out.2.2;rw [hin];have hu:upC (ax,ay) (bx,by') (a1_0,a1_1)=false:=by unfold upC;simp only [decide_eq_false (show ¬ ay≤a1_1 from by have:=G1.out;omega),Bool.false_and]
        rw [if_neg (show ¬ by'<ay by have:=HSW.out;omega),hu];rfl
       ·
        have hw:wrap64 ((i:Int)+1)=(i:Int)+1:=by have:=HK.out.2.2.2.2.2.2.2.1;unfold wrap64;omega
        first | rfl | (rw [hw];rfl)
       ·
        have hG':=hG.out;subst hG';exact below_row k4 (Nat.le_refl _) hbb
  ·
   obtain rfl:i=l0.length:=by omega
   have hd:decide ((l0.length:Int)<(l0.length:Int))=false:=decide_eq_false (by omega);have hr:inRun (((esOf l0).take l0.length).map sgP) (a1_0,a1_1)=r:=by
    rw [← HK.out.2.2.2.2.2.2.1];have e1:((esOf l0).take l0.length).map sgP=edges (l0.map ptP):=by rw [List.take_of_length_le (by rw [HLn.out];exact Nat.le_refl _),esOf_edges]
    rw [e1] at hno ⊢
    exact Mort.inRun_end hno
   rw [hr];have HB:=Aside0.mk hBw;clear hk hi hpb hno hBw hB1 hr hlt;go_wp2;go_ret;have hG':=hG.out;subst hG';exact⟨rfl,HB.out⟩
end Go.Proofs.YtkefmnmoaomlhaaDoor.X
end
section
namespace Go.Proofs.YtkefmnmoaomlhaaDoor.X
open Go.RowKit Go.Proofs.YtkefmnmoaomlhaaDoorW.PrintWords Go.Proofs.YtkefmnmoaomlhaaDoorW.PrintLast Go.Proofs.YtkefmnmoaomlhaaDoorW.PrintMore
attribute [local go_sem] max2_int min2_int max_two min_two max_three min_three max_four min_four
set_option linter.unusedVariables false
set_option linter.unusedSimpArgs false
mutual
def spec_PlateOk.j0:Nat→Bool→List (S28)→List (List (S28))→Option (Bool)
 | 0,_,_,_=>none
 | k+1,x15,x178000,x178001=>if x15=true then (some false) else (spec_PlateOk.l0 k 0 x178000 x178001)
def spec_PlateOk.l0:Nat→Int→List (S28)→List (List (S28))→Option (Bool)
 | 0,_,_,_=>none
 | k+1,x3,x178000,x178001=>if x3<(x178001.length:Int) then (if 0≤x3 then ((spec_LoopOk.f k (rd_L5 x178001 x3)).bind fun t180=>(if t180=true then (if 0<((rd_L5 x178001 x3).length:Int) then ((spec_l3In.f x178000 ((rd_T28 (rd_L5 x178001 x3) 0).f0) ((rd_T28 (rd_L5 x178001 x3) 0).f1)).bind fun t182=>(if t182=1 then ((spec_l11Apart.f k x178000 (rd_L5 x178001 x3)).bind fun t183=>(spec_PlateOk.j2 k x3 (rd_L5 x178001 x3) (!t183) x178000 x178001)) else (spec_PlateOk.j2 k x3 (rd_L5 x178001 x3) true x178000 x178001))) else (none)) else (spec_PlateOk.j2 k x3 (rd_L5 x178001 x3) true x178000 x178001))) else (none)) else (some true)
def spec_PlateOk.j2:Nat→Int→List (S28)→Bool→List (S28)→List (List (S28))→Option (Bool)
 | 0,_,_,_,_,_=>none
 | k+1,x3,x4,x46,x178000,x178001=>if x46=true then (some false) else (spec_PlateOk.l1 k x3 x4 0 x178000 x178001)
def spec_PlateOk.l1:Nat→Int→List (S28)→Int→List (S28)→List (List (S28))→Option (Bool)
 | 0,_,_,_,_,_=>none
 | k+1,x3,x4,x5,x178000,x178001=>if x5<x3 then (if 0≤x5 then (if x5<(x178001.length:Int) then ((spec_l11Apart.f k x4 (rd_L5 x178001 x5)).bind fun t185=>(if t185=true then (if 0<(x4.length:Int) then ((spec_l3In.f (rd_L5 x178001 x5) ((rd_T28 x4 0).f0) ((rd_T28 x4 0).f1)).bind fun t188=>(if t188=(-1) then (if 0<((rd_L5 x178001 x5).length:Int) then ((spec_l3In.f x4 ((rd_T28 (rd_L5 x178001 x5) 0).f0) ((rd_T28 (rd_L5 x178001 x5) 0).f1)).bind fun t191=>(if t191=(-1) then (spec_PlateOk.l1 k x3 x4 (wrap64 (x5+1)) x178000 x178001) else (some false))) else (none)) else (some false))) else (none)) else (some false))) else (none)) else (none)) else (spec_PlateOk.l0 k (wrap64 (x3+1)) x178000 x178001)
end
def spec_PlateOk.f (k:Nat)(l0_0:List (S28))(l0_1:List (List (S28))):Option (Bool):=(spec_LoopOk.f k l0_0).bind fun t178=>(if t178=true then (spec_PlateOk.j0 k (decide ((l0_1.length:Int)>2)) l0_0 l0_1) else (spec_PlateOk.j0 k true l0_0 l0_1))
def spec_PlateOk.T7:Bool × List (List Nat × List Nat):=(true,[([],[]),([0],[0]),([1],[1]),([2,1],[2]),([3],[3]),([4,3],[3,4]),([3],[3]),([6,3],[3,6]),([7,3],[3,7]),([5,8,3,3],[3,5,8]),([9,3],[3,9]),([3,10],[3,10]),([11,9],[11]),([12],[12]),([13,12],[12,13]),([12],[12]),([14,15,12,12],[12,14,15]),([16,12],[12,16]),([12,17],[12,17])])
def spec_PlateOk.B7:List Nat:=[0,1,3,7,15,31,15,79,207,511,1023,2047,4095,8191,16383,8191,65535,131071,262143]
theorem spec_PlateOk.tab7:rtab .any (opsOf Tryd.f18 7)=spec_PlateOk.T7:=by kernel_rfl
theorem spec_PlateOk.bits7:waitsOk spec_PlateOk.T7.2 spec_PlateOk.B7=true:=by kernel_rfl
def spec_PlateOk.T12:Bool × List (List Nat × List Nat):=(true,[([],[]),([],[]),([1],[1]),([],[]),([2,3],[2,3]),([4],[4]),([0,5],[0,5]),([6],[6]),([7,6],[7]),([8],[8]),([9,8],[8,9]),([8],[8]),([10,11,8],[8,10,11]),([12,8],[8,12]),([8],[8]),([14,8],[8,14]),([15,8],[8,15]),([13,16,8,8],[8,13,16]),([17,8],[8,17]),([8,18],[8,18]),([19,17],[19]),([20],[20]),([20],[20]),([22,20],[20,22]),([20],[20]),([23,24,20],[20,23,24]),([25,20],[20,25]),([26,20],[20,26]),([27,20],[20,27]),([21,28,20,20],[20,21,28]),([29,20],[20,29]),([20,30],[20,30])])
def spec_PlateOk.B12:List Nat:=[0,0,2,0,14,30,63,127,255,511,1023,511,4095,8191,511,16895,49663,131071,262143,524287,1048575,2097151,2097151,6291455,2097151,31457279,65011711,132120575,266338303,536870911,1073741823,2147483647]
theorem spec_PlateOk.tab12:rtab .any (opsOf Tryd.f18 12)=spec_PlateOk.T12:=by kernel_rfl
theorem spec_PlateOk.bits12:waitsOk spec_PlateOk.T12.2 spec_PlateOk.B12=true:=by kernel_rfl
set_option maxHeartbeats 8000000 in
set_option maxRecDepth 100000 in
theorem spec_PlateOk.calls (k:Nat)(A0_0:Option Addr)(c0_0:Nat)(l0_0:List (S28))(A0_1:Option Addr)(c0_1:Nat)(l0_1:List (List (S28)))(r:Bool)(w:World)(hr0_0:Kd.C k28 w A0_0 l0_0.length l0_0)(hc0_0:l0_0.length≤c0_0)(hr0_1:Kd.C (Kd.slice 28 k28) w A0_1 l0_1.length l0_1)(hc0_1:l0_1.length≤c0_1)(h:spec_PlateOk.f k l0_0 l0_1=some r):
  Calls Tryd.prog 18 #[.agg #[.slice A0_0 l0_0.length c0_0,.slice A0_1 l0_1.length c0_1]] w fun e w'=>e=.returned (.bool r)∧Below w.heap.size w w':=by
 have hu26:=Tryd.underlying26;have hu28:=Tryd.underlying28;have HR0_0:=Aside0.mk hr0_0;have HC0_0:=Aside0.mk hc0_0;clear hr0_0 hc0_0;have HR0_1:=Aside0.mk hr0_1;have HC0_1:=Aside0.mk hc0_1;clear hr0_1 hc0_1;have HB:=a0_ (Below.refl w.heap.size w);have H:((spec_LoopOk.f k l0_0).bind fun t178=>(if t178=true then (spec_PlateOk.j0 k (decide ((l0_1.length:Int)>2)) l0_0 l0_1) else (spec_PlateOk.j0 k true l0_0 l0_1)))=some r:=h;clear h;have HC2:=Aside0.mk H;clear H;go_enter Tryd.func18,Tryd.ntmps18;go_upto_region 1 with (first | ((with_reducible refine gate_dst (N:=1) rfl ?_);(try (refine gate_guard (by rfl) ?_;dsimp only));refine bx_ (N:=1) (cs:=#[.slice A0_0 l0_0.length c0_0,.slice A0_1 l0_1.length c0_1]) (t:=26) (h:=?_);intro gb177 hg w3 hbox hb;have BK177:=a0_ (hbox);have GW177:=gh_ HB hg;have GE177:=gh_ HB hg;replace HB:=sb_ HB hb;clear hb hbox hg))
 (try simp only [Act.put,List.setIfInBounds_toArray,List.set_cons_zero,List.set_cons_succ])
 go_cut [15] (fun v15 wc=>∃ (kq:Nat) (x15_1:Bool),v15=.bool x15_1∧Aside0 (spec_PlateOk.j0 kq x15_1 l0_0 l0_1=some r)∧Aside0 (kq≤k)∧Aside0 (wc.heap[gb177]?=some (.cells #[(.slice A0_0 l0_0.length c0_0),(.slice A0_1 l0_1.length c0_1)] 26 (0,0)))∧Aside0 (Below w.heap.size w wc))
 case first =>
  have H:=HC2.out;clear HC2;replace H:=Option.bind_eq_some_iff.mp H;obtain⟨t178,A40,H⟩:=H
  (try dsimp only at H)
  have A4:=Aside0.mk A40;clear A40;by_cases c5:t178=true
  ·
   subst c5;rw [if_pos rfl] at H
   (try dsimp only at H)
   have H':=Aside0.mk H;clear H;have hcz6_0:=c20_ BK177;have hcz6_1:=c21_ BK177;have hfz6_0:=fz_ BK177 0;have hfz6_1:=fz_ BK177 1;go_wp2_with (first | ((with_reducible refine gate_callee (f:=55) rfl ?_);refine gL_ (some 8) Tryd.func55 #[.slice A0_0 l0_0.length c0_0] (h:=?_);(with_reducible refine (spec_LoopOk.calls k _ _ l0_0 true _ ?side1 ?side2 A4.out).mono ?_);(case side1=>repeat (first | exact (Kd.C_below HR0_0.out HB.out) | (with_reducible refine Kd.C_alloc ?_ _) | (with_reducible refine Kd.C_drewN ?_ _) | (with_reducible refine Kd.C_drew ?_)));(case side2=>exact HC0_0.out);rintro e w7 ⟨rfl,hb⟩;refine⟨_,rfl,?_⟩;replace BK177:=vb_ BK177 hb;replace HB:=sb_ HB hb;(try clear hb);have hcz8_0:=c20_ BK177;have hcz8_1:=c21_ BK177;have hfz8_0:=fz_ BK177 0;have hfz8_1:=fz_ BK177 1));go_meet
   case rel=>exact⟨_,(decide ((l0_1.length:Int)>2)),(by first | rfl | (simp;done) | (simp [*];done)),H',⟨by first | omega | exact Nat.le_refl _⟩,⟨uq_⟩,⟨hB_⟩⟩
  ·
   replace c5:=Bool.eq_false_iff.mpr c5;subst c5;rw [if_neg (show ¬ (false=true) by decide)] at H
   (try dsimp only at H)
   have H':=Aside0.mk H;clear H;have hcz9_0:=c20_ BK177;have hcz9_1:=c21_ BK177;have hfz9_0:=fz_ BK177 0;have hfz9_1:=fz_ BK177 1;go_wp2_with (first | ((with_reducible refine gate_callee (f:=55) rfl ?_);refine gL_ (some 8) Tryd.func55 #[.slice A0_0 l0_0.length c0_0] (h:=?_);(with_reducible refine (spec_LoopOk.calls k _ _ l0_0 false _ ?side1 ?side2 A4.out).mono ?_);(case side1=>repeat (first | exact (Kd.C_below HR0_0.out HB.out) | (with_reducible refine Kd.C_alloc ?_ _) | (with_reducible refine Kd.C_drewN ?_ _) | (with_reducible refine Kd.C_drew ?_)));(case side2=>exact HC0_0.out);rintro e w10 ⟨rfl,hb⟩;refine⟨_,rfl,?_⟩;replace BK177:=vb_ BK177 hb;replace HB:=sb_ HB hb;(try clear hb)));go_meet
   case rel=>exact⟨_,(true),(by first | rfl | (simp;done) | (simp [*];done)),H',⟨by first | omega | exact Nat.le_refl _⟩,⟨uq_⟩,⟨hB_⟩⟩
 case rest =>
  clear HC2;obtain⟨kq,x15_1,rfl,HA,HJ1,BK177,HB⟩:=hcut
  cases kq with
  | zero=>exact absurd HA.out (by simp [spec_PlateOk.j0])
  | succ kj1 =>
   have H:=HA.out;clear HA;simp only [spec_PlateOk.j0] at H;by_cases c11:x15_1=true
   ·
    subst c11;rw [if_pos rfl] at H
    (try dsimp only at H)
    obtain rfl:=Option.some.inj H;go_wp2;go_ret;exact⟨rr_,hB_⟩
   ·
    replace c11:=Bool.eq_false_iff.mpr c11;subst c11;rw [if_neg (show ¬ (false=true) by decide)] at H
    (try dsimp only at H)
    have H':=Aside0.mk H;clear H;go_wp2;go_loopg [3] kj1 (fun kq v3 w'=>∃ (x3_2:Int),v3=.int .i64 x3_2∧Aside0 (spec_PlateOk.l0 kq x3_2 l0_0 l0_1=some r)∧Aside0 (kq≤kj1)∧Aside0 (w'.heap[gb177]?=some (.cells #[(.slice A0_0 l0_0.length c0_0),(.slice A0_1 l0_1.length c0_1)] 26 (0,0)))∧Aside0 (Below w.heap.size w w'))
    case atStart=>exact⟨(0),(by first | rfl | (simp;done) | (simp [*];done)),H',⟨Nat.le_refl _⟩,⟨uq_⟩,⟨hB_⟩⟩
    case round =>
     clear H';obtain⟨x3_2,rfl,HA,HK2,BK177,HB⟩:=hrel
     cases gk with
     | zero=>exact absurd HA.out (by simp [spec_PlateOk.l0])
     | succ k2 =>
      have H:=HA.out;clear HA;simp only [spec_PlateOk.l0] at H;by_cases c12:x3_2<(l0_1.length:Int)
      ·
       rw [if_pos c12] at H;have c12b0:decide (x3_2<(l0_1.length:Int))=true:=decide_eq_true c12;clear c12;by_cases c13:0≤x3_2
       ·
        rw [if_pos c13] at H;have c13b0:decide (0≤x3_2)=true:=decide_eq_true c13;clear c13;have HC14:=Aside0.mk H;clear H;have hcz15_0:=c20_ BK177;have hcz15_1:=c21_ BK177;have hfz15_0:=fz_ BK177 0;have hfz15_1:=fz_ BK177 1;have p179:0≤(x3_2:Int):=od_;have q179:x3_2<(l0_1.length:Int):=od_;obtain⟨ad179,A179_0,c179_0,e179,hx179_0,hl179_0,hi179_0⟩:=at_L5 HR0_1.out x3_2 p179 q179;cases e179;replace hx179_0:=ce_ HB hx179_0;have HR179_0:=Aside0.mk hi179_0;have HC179_0:=Aside0.mk hl179_0;clear hi179_0 hl179_0;replace p179:=eq_true p179;replace q179:=eq_true q179;go_upto_region 7 with (fail)
        go_cut [46] (fun v46 wc=>∃ (kq:Nat) (x46_13:Bool),v46=.bool x46_13∧Aside0 (spec_PlateOk.j2 kq x3_2 (rd_L5 l0_1 x3_2) x46_13 l0_0 l0_1=some r)∧Aside0 (kq≤k2)∧Aside0 (wc.heap[gb177]?=some (.cells #[(.slice A0_0 l0_0.length c0_0),(.slice (some ad179) l0_1.length c0_1)] 26 (0,0)))∧Aside0 (Below w.heap.size w wc))
        case first =>
         have H:=HC14.out;clear HC14;replace H:=Option.bind_eq_some_iff.mp H;obtain⟨t180,A160,H⟩:=H
         (try dsimp only at H)
         have A16:=Aside0.mk A160;clear A160;by_cases c17:t180=true
         ·
          subst c17;rw [if_pos rfl] at H
          (try dsimp only at H)
          by_cases c18:0<((rd_L5 l0_1 x3_2).length:Int)
          ·
           rw [if_pos c18] at H;have c18b0:decide (0<((rd_L5 l0_1 x3_2).length:Int))=true:=decide_eq_true c18;have c18b1:decide (0<(rd_L5 l0_1 x3_2).length)=true:=decide_eq_true (by omega);clear c18
           (first | rw [c18b0] | (simp only [i64_w,i32_w];rw [c18b0]) | skip)
           replace H:=Option.bind_eq_some_iff.mp H;obtain⟨t182,A190,H⟩:=H
           (try dsimp only at H)
           have A19:=Aside0.mk A190;clear A190;by_cases c20:t182=1
           ·
            rw [if_pos c20] at H;have c20b0:(t182==1)=true:=beq_iff_eq.mpr c20;have c20b1:(t182 != 1)=false:=bne_eq_false_iff_eq.mpr c20;clear c20;replace H:=Option.bind_eq_some_iff.mp H;obtain⟨t183,A210,H⟩:=H
            (try dsimp only at H)
            have A21:=Aside0.mk A210;clear A210;have H':=Aside0.mk H;clear H
            try go_wp2
            replace BK177:=a0_ (blk_drew BK177.out);replace HB:=a0_ (below_drew1 HB.out);have p181:0≤(0:Int):=(by omega);have q181:0<((rd_L5 l0_1 x3_2).length:Int):=od_;obtain⟨ad181,e181,hx181_0,hx181_1⟩:=at_T28 HR179_0.out 0 p181 q181;have hw181_1:=hx181_1
            (try simp only [Int.toNat_zero,Nat.zero_mul,Addr.add_zero'] at hw181_1)
            have hw181_0:=hx181_0
            (try simp only [Int.toNat_zero,Nat.zero_mul,Addr.add_zero'] at hw181_0)
            cases e181;have qi181:(0<(rd_L5 l0_1 x3_2).length)=True:=eq_true (by omega)
            (try simp only [Int.toNat_zero,Nat.zero_mul,Addr.add_zero'] at hx181_0)
            (try simp only [Int.toNat_zero,Nat.zero_mul,Addr.add_zero'] at hx181_1)
            replace hx181_0:=ce_ HB hx181_0;replace hx181_1:=ce_ HB hx181_1;replace p181:=eq_true p181;replace q181:=eq_true q181;refine start_ (n:=19) (S:=fun w'=>w'.cell? ⟨gb177,0,none⟩=some (.slice A0_0 l0_0.length c0_0)∧w'.cell? ⟨gb177,1,none⟩=some (.slice (some ad179) l0_1.length c0_1)∧w'.cell? ad181=some (.int .i64 ((rd_T28 (rd_L5 l0_1 x3_2) 0).f0))∧w'.cell? ⟨ad181.block,ad181.off+1,none⟩=some (.int .i64 ((rd_T28 (rd_L5 l0_1 x3_2) 0).f1))) (ds:=[]) (Array.replicate 19 false) (by kernel_rfl) rfl rfl ⟨bc_,bc_,(ce_ HB hw181_0),(ce_ HB hw181_1)⟩ (fun hHeld=>?_);refine with_tabW spec_PlateOk.tab7 spec_PlateOk.bits7 (fun HT_ HW_=>?_);generalize wr.drew=w22 at BK177 HB hx181_0 hx181_1 hHeld ⊢
            refine pu_ HT_ 0 28 (bm 19 1) ?_;refine one_ (i:=1) (N:=some 29) (bm 19 3) rfl rfl (one_of HT_.out (by kernel_rfl)) (by decide) (fun K hK=>?_);refine goes_ Tryd.func55 (by kernel_rfl) rfl #[.slice (some ad181) (rd_L5 l0_1 x3_2).length c179_0] (by rfl) rfl rfl ma_ ?_
            with_reducible refine (spec_LoopOk.calls k2 _ _ (rd_L5 l0_1 x3_2) true _ ?side1 ?side2 A16.out).mono ?_
            (case side1=>repeat (first | exact (Kd.C_below HR179_0.out HB.out) | (with_reducible refine Kd.C_alloc ?_ _) | (with_reducible refine Kd.C_drewN ?_ _) | (with_reducible refine Kd.C_drew ?_)))
            (case side2=>exact HC179_0.out)
            rintro e w23 ⟨rfl,hb⟩;refine⟨_,rfl,?_⟩;replace BK177:=vb_ BK177 hb;replace HB:=sb_ HB hb
            (try clear hb)
            (try clear hb2)
            (try clear hk)
            (try clear hi)
            refine hK.out _ _ ⟨bc_,bc_,(ce_ HB hw181_0),(ce_ HB hw181_1)⟩ (fun hHeld=>?_);clear hK K;refine no_ (h:=?_);refine pu_ HT_ 2 30 (bm 19 7) ?_;refine pu_ HT_ 3 31 (bm 19 15) ?_;refine pu_ HT_ 4 32 (bm 19 31) ?_;refine pu_ HT_ 6 34 (bm 19 95) ?_;refine pu_ HT_ 7 35 (bm 19 223) ?_;refine ta4_ HT_ HW_ 5 33 (bm 19 255) hHeld ?_;refine ta4_ HT_ HW_ 8 36 (bm 19 511) hHeld ?_;refine one_ (i:=9) (N:=some 37) (bm 19 1023) rfl rfl (one_of HT_.out (by kernel_rfl)) (by decide) (fun K hK=>?_);refine goes_ Tryd.func56 (by kernel_rfl) rfl #[.slice A0_0 l0_0.length c0_0,.agg #[.int .i64 ((rd_T28 (rd_L5 l0_1 x3_2) 0).f0),.int .i64 ((rd_T28 (rd_L5 l0_1 x3_2) 0).f1)]] (by rfl) rfl rfl ma_ ?_
            with_reducible refine (spec_l3In.calls _ _ l0_0 ((rd_T28 (rd_L5 l0_1 x3_2) 0).f0) ((rd_T28 (rd_L5 l0_1 x3_2) 0).f1) t182 _ ?side1 ?side2 A19.out).mono ?_
            (case side1=>repeat (first | exact (Kd.C_below HR0_0.out HB.out) | (with_reducible refine Kd.C_alloc ?_ _) | (with_reducible refine Kd.C_drewN ?_ _) | (with_reducible refine Kd.C_drew ?_)))
            (case side2=>exact HC0_0.out)
            rintro e w24 ⟨rfl,hb⟩;refine⟨_,rfl,?_⟩;replace BK177:=vb_ BK177 hb;replace HB:=sb_ HB hb
            (try clear hb)
            (try clear hb2)
            (try clear hk)
            (try clear hi)
            refine hK.out _ _ ⟨bc_,bc_,(ce_ HB hw181_0),(ce_ HB hw181_1)⟩ (fun hHeld=>?_);clear hK K;refine no_ (h:=?_);refine pu_ HT_ 10 38 (bm 19 2047) ?_;refine pu_ HT_ 11 39 (bm 19 4095) ?_;refine pu_ HT_ 12 40 (bm 19 8191) ?_;refine pu_ HT_ 13 41 (bm 19 16383) ?_;refine pu_ HT_ 15 43 (bm 19 49151) ?_;refine ta4_ HT_ HW_ 14 42 (bm 19 65535) hHeld ?_;refine one_ (i:=16) (N:=some 44) (bm 19 131071) rfl rfl (one_of HT_.out (by kernel_rfl)) (by decide) (fun K hK=>?_);refine goes_ Tryd.func57 (by kernel_rfl) rfl #[.slice A0_0 l0_0.length c0_0,.slice (some ad181) (rd_L5 l0_1 x3_2).length c179_0] (by rfl) rfl rfl ma_ ?_
            with_reducible refine (spec_l11Apart.calls k2 _ _ l0_0 _ _ (rd_L5 l0_1 x3_2) t183 _ ?side1 ?side2 ?side3 ?side4 A21.out).mono ?_
            (case side1=>repeat (first | exact (Kd.C_below HR0_0.out HB.out) | (with_reducible refine Kd.C_alloc ?_ _) | (with_reducible refine Kd.C_drewN ?_ _) | (with_reducible refine Kd.C_drew ?_)))
            (case side2=>exact HC0_0.out)
            (case side3=>repeat (first | exact (Kd.C_below HR179_0.out HB.out) | (with_reducible refine Kd.C_alloc ?_ _) | (with_reducible refine Kd.C_drewN ?_ _) | (with_reducible refine Kd.C_drew ?_)))
            (case side4=>exact HC179_0.out)
            rintro e w25 ⟨rfl,hb⟩;refine⟨_,rfl,?_⟩;replace BK177:=vb_ BK177 hb;replace HB:=sb_ HB hb
            (try clear hb)
            (try clear hb2)
            (try clear hk)
            (try clear hi)
            refine hK.out _ _ ⟨bc_,bc_,(ce_ HB hw181_0),(ce_ HB hw181_1)⟩ (fun hHeld=>?_);clear hK K;refine no_ (h:=?_);refine pu_ HT_ 17 45 (bm 19 262143) ?_;refine pu_ HT_ 18 46 (bm 19 524287) ?_;refine done_ (done_of HT_.out (by kernel_rfl)) ?_
            try go_wp2
            go_meet
            case rel=>exact⟨_,(!t183),(by first | rfl | (simp;done) | (simp [*];done)),H',⟨by have:=HJ1.out;have:=HK2.out;first | omega | exact Nat.le_refl _⟩,⟨uq_⟩,⟨hB_⟩⟩
           ·
            rw [if_neg c20] at H;have c20b0:(t182==1)=false:=beq_eq_false_iff_ne.mpr c20;have c20b1:(t182 != 1)=true:=bne_iff_ne.mpr c20;have H':=Aside0.mk H;clear H
            try go_wp2
            replace BK177:=a0_ (blk_drew BK177.out);replace HB:=a0_ (below_drew1 HB.out);have p181:0≤(0:Int):=(by omega);have q181:0<((rd_L5 l0_1 x3_2).length:Int):=od_;obtain⟨ad181,e181,hx181_0,hx181_1⟩:=at_T28 HR179_0.out 0 p181 q181;have hw181_1:=hx181_1
            (try simp only [Int.toNat_zero,Nat.zero_mul,Addr.add_zero'] at hw181_1)
            have hw181_0:=hx181_0
            (try simp only [Int.toNat_zero,Nat.zero_mul,Addr.add_zero'] at hw181_0)
            cases e181;have qi181:(0<(rd_L5 l0_1 x3_2).length)=True:=eq_true (by omega)
            (try simp only [Int.toNat_zero,Nat.zero_mul,Addr.add_zero'] at hx181_0)
            (try simp only [Int.toNat_zero,Nat.zero_mul,Addr.add_zero'] at hx181_1)
            replace hx181_0:=ce_ HB hx181_0;replace hx181_1:=ce_ HB hx181_1;replace p181:=eq_true p181;replace q181:=eq_true q181;refine start_ (n:=19) (S:=fun w'=>w'.cell? ⟨gb177,0,none⟩=some (.slice A0_0 l0_0.length c0_0)∧w'.cell? ⟨gb177,1,none⟩=some (.slice (some ad179) l0_1.length c0_1)∧w'.cell? ad181=some (.int .i64 ((rd_T28 (rd_L5 l0_1 x3_2) 0).f0))∧w'.cell? ⟨ad181.block,ad181.off+1,none⟩=some (.int .i64 ((rd_T28 (rd_L5 l0_1 x3_2) 0).f1))) (ds:=[]) (Array.replicate 19 false) (by kernel_rfl) rfl rfl ⟨bc_,bc_,(ce_ HB hw181_0),(ce_ HB hw181_1)⟩ (fun hHeld=>?_);refine with_tabW spec_PlateOk.tab7 spec_PlateOk.bits7 (fun HT_ HW_=>?_);generalize wr.drew=w26 at BK177 HB hx181_0 hx181_1 hHeld ⊢
            refine pu_ HT_ 0 28 (bm 19 1) ?_;refine one_ (i:=1) (N:=some 29) (bm 19 3) rfl rfl (one_of HT_.out (by kernel_rfl)) (by decide) (fun K hK=>?_);refine goes_ Tryd.func55 (by kernel_rfl) rfl #[.slice (some ad181) (rd_L5 l0_1 x3_2).length c179_0] (by rfl) rfl rfl ma_ ?_
            with_reducible refine (spec_LoopOk.calls k2 _ _ (rd_L5 l0_1 x3_2) true _ ?side1 ?side2 A16.out).mono ?_
            (case side1=>repeat (first | exact (Kd.C_below HR179_0.out HB.out) | (with_reducible refine Kd.C_alloc ?_ _) | (with_reducible refine Kd.C_drewN ?_ _) | (with_reducible refine Kd.C_drew ?_)))
            (case side2=>exact HC179_0.out)
            rintro e w27 ⟨rfl,hb⟩;refine⟨_,rfl,?_⟩;replace BK177:=vb_ BK177 hb;replace HB:=sb_ HB hb
            (try clear hb)
            (try clear hb2)
            (try clear hk)
            (try clear hi)
            refine hK.out _ _ ⟨bc_,bc_,(ce_ HB hw181_0),(ce_ HB hw181_1)⟩ (fun hHeld=>?_);clear hK K;refine no_ (h:=?_);refine pu_ HT_ 2 30 (bm 19 7) ?_;refine pu_ HT_ 3 31 (bm 19 15) ?_;refine pu_ HT_ 4 32 (bm 19 31) ?_;refine pu_ HT_ 6 34 (bm 19 95) ?_;refine pu_ HT_ 7 35 (bm 19 223) ?_;refine ta4_ HT_ HW_ 5 33 (bm 19 255) hHeld ?_;refine ta4_ HT_ HW_ 8 36 (bm 19 511) hHeld ?_;refine one_ (i:=9) (N:=some 37) (bm 19 1023) rfl rfl (one_of HT_.out (by kernel_rfl)) (by decide) (fun K hK=>?_);refine goes_ Tryd.func56 (by kernel_rfl) rfl #[.slice A0_0 l0_0.length c0_0,.agg #[.int .i64 ((rd_T28 (rd_L5 l0_1 x3_2) 0).f0),.int .i64 ((rd_T28 (rd_L5 l0_1 x3_2) 0).f1)]] (by rfl) rfl rfl ma_ ?_
            with_reducible refine (spec_l3In.calls _ _ l0_0 ((rd_T28 (rd_L5 l0_1 x3_2) 0).f0) ((rd_T28 (rd_L5 l0_1 x3_2) 0).f1) t182 _ ?side1 ?side2 A19.out).mono ?_
            (case side1=>repeat (first | exact (Kd.C_below HR0_0.out HB.out) | (with_reducible refine Kd.C_alloc ?_ _) | (with_reducible refine Kd.C_drewN ?_ _) | (with_reducible refine Kd.C_drew ?_)))
            (case side2=>exact HC0_0.out)
            rintro e w28 ⟨rfl,hb⟩;refine⟨_,rfl,?_⟩;replace BK177:=vb_ BK177 hb;replace HB:=sb_ HB hb
            (try clear hb)
            (try clear hb2)
            (try clear hk)
            (try clear hi)
            refine hK.out _ _ ⟨bc_,bc_,(ce_ HB hw181_0),(ce_ HB hw181_1)⟩ (fun hHeld=>?_);clear hK K;refine no_ (h:=?_);refine pu_ HT_ 10 38 (bm 19 2047) ?_;refine pu_ HT_ 11 39 (bm 19 4095) ?_;refine pu_ HT_ 12 40 (bm 19 8191) ?_;refine pz_ HT_ 13 41 (bm 19 16383) ?_;refine pz_ HT_ 14 42 (bm 19 32767) ?_;refine pz_ HT_ 15 43 (bm 19 65535) ?_;refine pz_ HT_ 16 44 (bm 19 131071) ?_;refine pz_ HT_ 17 45 (bm 19 262143) ?_;refine pu_ HT_ 18 46 (bm 19 524287) ?_;refine done_ (done_of HT_.out (by kernel_rfl)) ?_
            try go_wp2
            go_meet
            case rel=>exact⟨_,(true),(by first | rfl | (simp;done) | (simp [*];done)),H',⟨by have:=HJ1.out;have:=HK2.out;first | omega | exact Nat.le_refl _⟩,⟨uq_⟩,⟨hB_⟩⟩
          ·
           rw [if_neg c18] at H;exact absurd H (by simp)
         ·
          replace c17:=Bool.eq_false_iff.mpr c17;subst c17;rw [if_neg (show ¬ (false=true) by decide)] at H
          (try dsimp only at H)
          have H':=Aside0.mk H;clear H
          try go_wp2
          replace BK177:=a0_ (blk_drew BK177.out);replace HB:=a0_ (below_drew1 HB.out);refine start_ (n:=19) (S:=fun w'=>True) (ds:=[]) (Array.replicate 19 false) (by kernel_rfl) rfl rfl trivial (fun hHeld=>?_);refine with_tabW spec_PlateOk.tab7 spec_PlateOk.bits7 (fun HT_ HW_=>?_);generalize wr.drew=w29 at BK177 HB hHeld ⊢
          refine pu_ HT_ 0 28 (bm 19 1) ?_;refine one_ (i:=1) (N:=some 29) (bm 19 3) rfl rfl (one_of HT_.out (by kernel_rfl)) (by decide) (fun K hK=>?_);refine goes_ Tryd.func55 (by kernel_rfl) rfl #[.slice A179_0 (rd_L5 l0_1 x3_2).length c179_0] (by rfl) rfl rfl ma_ ?_
          with_reducible refine (spec_LoopOk.calls k2 _ _ (rd_L5 l0_1 x3_2) false _ ?side1 ?side2 A16.out).mono ?_
          (case side1=>repeat (first | exact (Kd.C_below HR179_0.out HB.out) | (with_reducible refine Kd.C_alloc ?_ _) | (with_reducible refine Kd.C_drewN ?_ _) | (with_reducible refine Kd.C_drew ?_)))
          (case side2=>exact HC179_0.out)
          rintro e w30 ⟨rfl,hb⟩;refine⟨_,rfl,?_⟩;replace BK177:=vb_ BK177 hb;replace HB:=sb_ HB hb
          (try clear hb)
          (try clear hb2)
          (try clear hk)
          (try clear hi)
          refine hK.out _ _ trivial (fun hHeld=>?_);clear hK K;refine no_ (h:=?_);refine pu_ HT_ 2 30 (bm 19 7) ?_;refine pu_ HT_ 3 31 (bm 19 15) ?_;refine pz_ HT_ 4 32 (bm 19 31) ?_;refine pz_ HT_ 5 33 (bm 19 63) ?_;refine pz_ HT_ 6 34 (bm 19 127) ?_;refine pz_ HT_ 7 35 (bm 19 255) ?_;refine pz_ HT_ 8 36 (bm 19 511) ?_;refine pz_ HT_ 9 37 (bm 19 1023) ?_;refine pz_ HT_ 10 38 (bm 19 2047) ?_;refine pu_ HT_ 11 39 (bm 19 4095) ?_;refine pu_ HT_ 12 40 (bm 19 8191) ?_;refine pz_ HT_ 13 41 (bm 19 16383) ?_;refine pz_ HT_ 14 42 (bm 19 32767) ?_;refine pz_ HT_ 15 43 (bm 19 65535) ?_;refine pz_ HT_ 16 44 (bm 19 131071) ?_;refine pz_ HT_ 17 45 (bm 19 262143) ?_;refine pu_ HT_ 18 46 (bm 19 524287) ?_;refine done_ (done_of HT_.out (by kernel_rfl)) ?_
          try go_wp2
          go_meet
          case rel=>exact⟨_,(true),(by first | rfl | (simp;done) | (simp [*];done)),H',⟨by have:=HJ1.out;have:=HK2.out;first | omega | exact Nat.le_refl _⟩,⟨uq_⟩,⟨hB_⟩⟩
        case rest =>
         clear HC14;obtain⟨kq,x46_13,rfl,HA,HJ13,BK177,HB⟩:=hcut
         cases kq with
         | zero=>exact absurd HA.out (by simp [spec_PlateOk.j2])
         | succ kj13 =>
          have H:=HA.out;clear HA;simp only [spec_PlateOk.j2] at H;by_cases c31:x46_13=true
          ·
           subst c31;rw [if_pos rfl] at H
           (try dsimp only at H)
           obtain rfl:=Option.some.inj H;go_wp2;go_ret;exact⟨rr_,hB_⟩
          ·
           replace c31:=Bool.eq_false_iff.mpr c31;subst c31;rw [if_neg (show ¬ (false=true) by decide)] at H
           (try dsimp only at H)
           have H':=Aside0.mk H;clear H;go_wp2;go_loopg [5] kj13 (fun kq v5 w'=>∃ (x5_4:Int),v5=.int .i64 x5_4∧Aside0 (spec_PlateOk.l1 kq x3_2 (rd_L5 l0_1 x3_2) x5_4 l0_0 l0_1=some r)∧Aside0 (kq≤kj13)∧Aside0 (w'.heap[gb177]?=some (.cells #[(.slice A0_0 l0_0.length c0_0),(.slice (some ad179) l0_1.length c0_1)] 26 (0,0)))∧Aside0 (Below w.heap.size w w'))
           case atStart=>exact⟨(0),(by first | rfl | (simp;done) | (simp [*];done)),H',⟨Nat.le_refl _⟩,⟨uq_⟩,⟨hB_⟩⟩
           case round =>
            clear H';obtain⟨x5_4,rfl,HA,HK4,BK177,HB⟩:=hrel
            cases gk with
            | zero=>exact absurd HA.out (by simp [spec_PlateOk.l1])
            | succ k4 =>
             have H:=HA.out;clear HA;simp only [spec_PlateOk.l1] at H;by_cases c32:x5_4<x3_2
             ·
              rw [if_pos c32] at H;have c32b0:decide (x5_4<x3_2)=true:=decide_eq_true c32;clear c32;by_cases c33:0≤x5_4
              ·
               rw [if_pos c33] at H;have c33b0:decide (0≤x5_4)=true:=decide_eq_true c33;clear c33;by_cases c34:x5_4<(l0_1.length:Int)
               ·
                rw [if_pos c34] at H;have c34b0:decide (x5_4<(l0_1.length:Int))=true:=decide_eq_true c34;clear c34;replace H:=Option.bind_eq_some_iff.mp H;obtain⟨t185,A350,H⟩:=H
                (try dsimp only at H)
                have A35:=Aside0.mk A350;clear A350;by_cases c36:t185=true
                ·
                 subst c36;rw [if_pos rfl] at H
                 (try dsimp only at H)
                 by_cases c37:0<((rd_L5 l0_1 x3_2).length:Int)
                 ·
                  rw [if_pos c37] at H;have c37b0:decide (0<((rd_L5 l0_1 x3_2).length:Int))=true:=decide_eq_true c37;have c37b1:decide (0<(rd_L5 l0_1 x3_2).length)=true:=decide_eq_true (by omega);clear c37;replace H:=Option.bind_eq_some_iff.mp H;obtain⟨t188,A380,H⟩:=H
                  (try dsimp only at H)
                  have A38:=Aside0.mk A380;clear A380;by_cases c39:t188=(-1)
                  ·
                   rw [if_pos c39] at H;have c39b0:(t188==(-1))=true:=beq_iff_eq.mpr c39;have c39b1:(t188 != (-1))=false:=bne_eq_false_iff_eq.mpr c39;clear c39;by_cases c40:0<((rd_L5 l0_1 x5_4).length:Int)
                   ·
                    rw [if_pos c40] at H;have c40b0:decide (0<((rd_L5 l0_1 x5_4).length:Int))=true:=decide_eq_true c40;have c40b1:decide (0<(rd_L5 l0_1 x5_4).length)=true:=decide_eq_true (by omega);clear c40;replace H:=Option.bind_eq_some_iff.mp H;obtain⟨t191,A410,H⟩:=H
                    (try dsimp only at H)
                    have A41:=Aside0.mk A410;clear A410;by_cases c42:t191=(-1)
                    ·
                     rw [if_pos c42] at H;have c42b0:(t191==(-1))=true:=beq_iff_eq.mpr c42;have c42b1:(t191 != (-1))=false:=bne_eq_false_iff_eq.mpr c42;clear c42;have H':=Aside0.mk H;clear H
                     try go_wp2
                     replace BK177:=a0_ (blk_drew BK177.out);replace HB:=a0_ (below_drew1 HB.out);have p184:0≤(x5_4:Int):=od_;have q184:x5_4<(l0_1.length:Int):=od_;obtain⟨ad184,A184_0,c184_0,e184,hx184_0,hl184_0,hi184_0⟩:=at_L5 HR0_1.out x5_4 p184 q184;have hw184_0:=hx184_0;obtain rfl:ad179=ad184:=(by injection e184);replace hx184_0:=ce_ HB hx184_0;have HR184_0:=Aside0.mk hi184_0;have HC184_0:=Aside0.mk hl184_0;clear hi184_0 hl184_0;replace p184:=eq_true p184;replace q184:=eq_true q184;have p187:0≤(0:Int):=(by omega);have q187:0<((rd_L5 l0_1 x3_2).length:Int):=od_;obtain⟨ad187,e187,hx187_0,hx187_1⟩:=at_T28 HR179_0.out 0 p187 q187;have hw187_1:=hx187_1
                     (try simp only [Int.toNat_zero,Nat.zero_mul,Addr.add_zero'] at hw187_1)
                     have hw187_0:=hx187_0
                     (try simp only [Int.toNat_zero,Nat.zero_mul,Addr.add_zero'] at hw187_0)
                     cases e187;have qi187:(0<(rd_L5 l0_1 x3_2).length)=True:=eq_true (by omega)
                     (try simp only [Int.toNat_zero,Nat.zero_mul,Addr.add_zero'] at hx187_0)
                     (try simp only [Int.toNat_zero,Nat.zero_mul,Addr.add_zero'] at hx187_1)
                     replace hx187_0:=ce_ HB hx187_0;replace hx187_1:=ce_ HB hx187_1;replace p187:=eq_true p187;replace q187:=eq_true q187;have p190:0≤(0:Int):=(by omega);have q190:0<((rd_L5 l0_1 x5_4).length:Int):=od_;obtain⟨ad190,e190,hx190_0,hx190_1⟩:=at_T28 HR184_0.out 0 p190 q190;have hw190_1:=hx190_1
                     (try simp only [Int.toNat_zero,Nat.zero_mul,Addr.add_zero'] at hw190_1)
                     have hw190_0:=hx190_0
                     (try simp only [Int.toNat_zero,Nat.zero_mul,Addr.add_zero'] at hw190_0)
                     cases e190;have qi190:(0<(rd_L5 l0_1 x5_4).length)=True:=eq_true (by omega)
                     (try simp only [Int.toNat_zero,Nat.zero_mul,Addr.add_zero'] at hx190_0)
                     (try simp only [Int.toNat_zero,Nat.zero_mul,Addr.add_zero'] at hx190_1)
                     replace hx190_0:=ce_ HB hx190_0;replace hx190_1:=ce_ HB hx190_1;replace p190:=eq_true p190;replace q190:=eq_true q190;refine start_ (n:=32) (S:=fun w'=>w'.cell? ⟨gb177,0,none⟩=some (.slice A0_0 l0_0.length c0_0)∧w'.cell? ⟨gb177,1,none⟩=some (.slice (some ad179) l0_1.length c0_1)∧w'.cell? (ad179.add (x5_4).toNat)=some (.slice (some ad190) (rd_L5 l0_1 x5_4).length c184_0)∧w'.cell? (ad179.add (x5_4).toNat)=some (.slice (some ad190) (rd_L5 l0_1 x5_4).length c184_0)∧w'.cell? ad187=some (.int .i64 ((rd_T28 (rd_L5 l0_1 x3_2) 0).f0))∧w'.cell? ⟨ad187.block,ad187.off+1,none⟩=some (.int .i64 ((rd_T28 (rd_L5 l0_1 x3_2) 0).f1))∧w'.cell? (ad179.add (x5_4).toNat)=some (.slice (some ad190) (rd_L5 l0_1 x5_4).length c184_0)∧w'.cell? ad190=some (.int .i64 ((rd_T28 (rd_L5 l0_1 x5_4) 0).f0))∧w'.cell? ⟨ad190.block,ad190.off+1,none⟩=some (.int .i64 ((rd_T28 (rd_L5 l0_1 x5_4) 0).f1))) (ds:=[]) (Array.replicate 32 false) (by kernel_rfl) rfl rfl ⟨bc_,bc_,(ce_ HB hw184_0),(ce_ HB hw184_0),(ce_ HB hw187_0),(ce_ HB hw187_1),(ce_ HB hw184_0),(ce_ HB hw190_0),(ce_ HB hw190_1)⟩ (fun hHeld=>?_);refine with_tabW spec_PlateOk.tab12 spec_PlateOk.bits12 (fun HT_ HW_=>?_);generalize wr.drew=w43 at BK177 HB HR184_0 hx184_0 hx187_0 hx187_1 hx190_0 hx190_1 hHeld ⊢
                     refine pu_ HT_ 0 52 (bm 32 1) ?_;refine pu_ HT_ 1 53 (bm 32 3) ?_;refine pu_ HT_ 3 55 (bm 32 11) ?_;refine ta9_ HT_ HW_ 2 54 (bm 32 15) hHeld ?_;refine pu_ HT_ 4 56 (bm 32 31) ?_;refine ta9_ HT_ HW_ 5 57 (bm 32 63) hHeld ?_;refine one_ (i:=6) (N:=some 58) (bm 32 127) rfl rfl (one_of HT_.out (by kernel_rfl)) (by decide) (fun K hK=>?_);refine goes_ Tryd.func57 (by kernel_rfl) rfl #[.slice (some ad187) (rd_L5 l0_1 x3_2).length c179_0,.slice (some ad190) (rd_L5 l0_1 x5_4).length c184_0] (by rfl) rfl rfl ma_ ?_
                     with_reducible refine (spec_l11Apart.calls k4 _ _ (rd_L5 l0_1 x3_2) _ _ (rd_L5 l0_1 x5_4) true _ ?side1 ?side2 ?side3 ?side4 A35.out).mono ?_
                     (case side1=>repeat (first | exact (Kd.C_below HR179_0.out HB.out) | (with_reducible refine Kd.C_alloc ?_ _) | (with_reducible refine Kd.C_drewN ?_ _) | (with_reducible refine Kd.C_drew ?_)))
                     (case side2=>exact HC179_0.out)
                     (case side3=>repeat (first | exact (Kd.C_below HR184_0.out HB.out) | (with_reducible refine Kd.C_alloc ?_ _) | (with_reducible refine Kd.C_drewN ?_ _) | (with_reducible refine Kd.C_drew ?_)))
                     (case side4=>exact HC184_0.out)
                     rintro e w44 ⟨rfl,hb⟩;refine⟨_,rfl,?_⟩;replace BK177:=vb_ BK177 hb;replace HB:=sb_ HB hb
                     (try clear hb)
                     (try clear hb2)
                     (try clear hk)
                     (try clear hi)
                     refine hK.out _ _ ⟨bc_,bc_,(ce_ HB hw184_0),(ce_ HB hw184_0),(ce_ HB hw187_0),(ce_ HB hw187_1),(ce_ HB hw184_0),(ce_ HB hw190_0),(ce_ HB hw190_1)⟩ (fun hHeld=>?_);clear hK K;refine no_ (h:=?_);refine pu_ HT_ 7 59 (bm 32 255) ?_;refine pu_ HT_ 8 60 (bm 32 511) ?_;refine pu_ HT_ 9 61 (bm 32 1023) ?_;refine pu_ HT_ 11 63 (bm 32 3071) ?_;refine pu_ HT_ 14 66 (bm 32 19455) ?_;refine pu_ HT_ 15 67 (bm 32 52223) ?_;refine ta9_ HT_ HW_ 10 62 (bm 32 53247) hHeld ?_;refine pu_ HT_ 12 64 (bm 32 57343) ?_;refine ta9_ HT_ HW_ 13 65 (bm 32 65535) hHeld ?_;refine ta9_ HT_ HW_ 16 68 (bm 32 131071) hHeld ?_;refine one_ (i:=17) (N:=some 69) (bm 32 262143) rfl rfl (one_of HT_.out (by kernel_rfl)) (by decide) (fun K hK=>?_);refine goes_ Tryd.func56 (by kernel_rfl) rfl #[.slice (some ad190) (rd_L5 l0_1 x5_4).length c184_0,.agg #[.int .i64 ((rd_T28 (rd_L5 l0_1 x3_2) 0).f0),.int .i64 ((rd_T28 (rd_L5 l0_1 x3_2) 0).f1)]] (by rfl) rfl rfl ma_ ?_
                     with_reducible refine (spec_l3In.calls _ _ (rd_L5 l0_1 x5_4) ((rd_T28 (rd_L5 l0_1 x3_2) 0).f0) ((rd_T28 (rd_L5 l0_1 x3_2) 0).f1) t188 _ ?side1 ?side2 A38.out).mono ?_
                     (case side1=>repeat (first | exact (Kd.C_below HR184_0.out HB.out) | (with_reducible refine Kd.C_alloc ?_ _) | (with_reducible refine Kd.C_drewN ?_ _) | (with_reducible refine Kd.C_drew ?_)))
                     (case side2=>exact HC184_0.out)
                     rintro e w45 ⟨rfl,hb⟩;refine⟨_,rfl,?_⟩;replace BK177:=vb_ BK177 hb;replace HB:=sb_ HB hb
                     (try clear hb)
                     (try clear hb2)
                     (try clear hk)
                     (try clear hi)
                     refine hK.out _ _ ⟨bc_,bc_,(ce_ HB hw184_0),(ce_ HB hw184_0),(ce_ HB hw187_0),(ce_ HB hw187_1),(ce_ HB hw184_0),(ce_ HB hw190_0),(ce_ HB hw190_1)⟩ (fun hHeld=>?_);clear hK K;refine no_ (h:=?_);refine pu_ HT_ 18 70 (bm 32 524287) ?_;refine pu_ HT_ 19 71 (bm 32 1048575) ?_;refine pu_ HT_ 20 72 (bm 32 2097151) ?_;refine pu_ HT_ 21 73 (bm 32 4194303) ?_;refine pu_ HT_ 22 74 (bm 32 8388607) ?_;refine pu_ HT_ 24 76 (bm 32 25165823) ?_;refine ta9_ HT_ HW_ 23 75 (bm 32 33554431) hHeld ?_;refine pu_ HT_ 25 77 (bm 32 67108863) ?_;refine ta9_ HT_ HW_ 26 78 (bm 32 134217727) hHeld ?_;refine pu_ HT_ 27 79 (bm 32 268435455) ?_;refine ta9_ HT_ HW_ 28 80 (bm 32 536870911) hHeld ?_;refine one_ (i:=29) (N:=some 81) (bm 32 1073741823) rfl rfl (one_of HT_.out (by kernel_rfl)) (by decide) (fun K hK=>?_);refine goes_ Tryd.func56 (by kernel_rfl) rfl #[.slice (some ad187) (rd_L5 l0_1 x3_2).length c179_0,.agg #[.int .i64 ((rd_T28 (rd_L5 l0_1 x5_4) 0).f0),.int .i64 ((rd_T28 (rd_L5 l0_1 x5_4) 0).f1)]] (by rfl) rfl rfl ma_ ?_
                     with_reducible refine (spec_l3In.calls _ _ (rd_L5 l0_1 x3_2) ((rd_T28 (rd_L5 l0_1 x5_4) 0).f0) ((rd_T28 (rd_L5 l0_1 x5_4) 0).f1) t191 _ ?side1 ?side2 A41.out).mono ?_
                     (case side1=>repeat (first | exact (Kd.C_below HR179_0.out HB.out) | (with_reducible refine Kd.C_alloc ?_ _) | (with_reducible refine Kd.C_drewN ?_ _) | (with_reducible refine Kd.C_drew ?_)))
                     (case side2=>exact HC179_0.out)
                     rintro e w46 ⟨rfl,hb⟩;refine⟨_,rfl,?_⟩;replace BK177:=vb_ BK177 hb;replace HB:=sb_ HB hb
                     (try clear hb)
                     (try clear hb2)
                     (try clear hk)
                     (try clear hi)
                     refine hK.out _ _ ⟨bc_,bc_,(ce_ HB hw184_0),(ce_ HB hw184_0),(ce_ HB hw187_0),(ce_ HB hw187_1),(ce_ HB hw184_0),(ce_ HB hw190_0),(ce_ HB hw190_1)⟩ (fun hHeld=>?_);clear hK K;refine no_ (h:=?_);refine pu_ HT_ 30 82 (bm 32 2147483647) ?_;refine pu_ HT_ 31 83 (bm 32 4294967295) ?_;refine done_ (done_of HT_.out (by kernel_rfl)) ?_
                     try go_wp2
                     go_roundg k4
                     case measure=>have:=HJ1.out;have:=HK2.out;have:=HJ13.out;have:=HK4.out;omega
                     case rel=>exact⟨(wrap64 (x5_4+1)),(by first | rfl | (simp;done) | (simp [*];done)),H',⟨by have:=HJ1.out;have:=HK2.out;have:=HJ13.out;have:=HK4.out;omega⟩,⟨uq_⟩,⟨hB_⟩⟩
                    ·
                     rw [if_neg c42] at H;have c42b0:(t191==(-1))=false:=beq_eq_false_iff_ne.mpr c42;have c42b1:(t191 != (-1))=true:=bne_iff_ne.mpr c42;obtain rfl:=Option.some.inj H
                     try go_wp2
                     replace BK177:=a0_ (blk_drew BK177.out);replace HB:=a0_ (below_drew1 HB.out);have p184:0≤(x5_4:Int):=od_;have q184:x5_4<(l0_1.length:Int):=od_;obtain⟨ad184,A184_0,c184_0,e184,hx184_0,hl184_0,hi184_0⟩:=at_L5 HR0_1.out x5_4 p184 q184;have hw184_0:=hx184_0;obtain rfl:ad179=ad184:=(by injection e184);replace hx184_0:=ce_ HB hx184_0;have HR184_0:=Aside0.mk hi184_0;have HC184_0:=Aside0.mk hl184_0;clear hi184_0 hl184_0;replace p184:=eq_true p184;replace q184:=eq_true q184;have p187:0≤(0:Int):=(by omega);have q187:0<((rd_L5 l0_1 x3_2).length:Int):=od_;obtain⟨ad187,e187,hx187_0,hx187_1⟩:=at_T28 HR179_0.out 0 p187 q187;have hw187_1:=hx187_1
                     (try simp only [Int.toNat_zero,Nat.zero_mul,Addr.add_zero'] at hw187_1)
                     have hw187_0:=hx187_0
                     (try simp only [Int.toNat_zero,Nat.zero_mul,Addr.add_zero'] at hw187_0)
                     cases e187;have qi187:(0<(rd_L5 l0_1 x3_2).length)=True:=eq_true (by omega)
                     (try simp only [Int.toNat_zero,Nat.zero_mul,Addr.add_zero'] at hx187_0)
                     (try simp only [Int.toNat_zero,Nat.zero_mul,Addr.add_zero'] at hx187_1)
                     replace hx187_0:=ce_ HB hx187_0;replace hx187_1:=ce_ HB hx187_1;replace p187:=eq_true p187;replace q187:=eq_true q187;have p190:0≤(0:Int):=(by omega);have q190:0<((rd_L5 l0_1 x5_4).length:Int):=od_;obtain⟨ad190,e190,hx190_0,hx190_1⟩:=at_T28 HR184_0.out 0 p190 q190;have hw190_1:=hx190_1
                     (try simp only [Int.toNat_zero,Nat.zero_mul,Addr.add_zero'] at hw190_1)
                     have hw190_0:=hx190_0
                     (try simp only [Int.toNat_zero,Nat.zero_mul,Addr.add_zero'] at hw190_0)
                     cases e190;have qi190:(0<(rd_L5 l0_1 x5_4).length)=True:=eq_true (by omega)
                     (try simp only [Int.toNat_zero,Nat.zero_mul,Addr.add_zero'] at hx190_0)
                     (try simp only [Int.toNat_zero,Nat.zero_mul,Addr.add_zero'] at hx190_1)
                     replace hx190_0:=ce_ HB hx190_0;replace hx190_1:=ce_ HB hx190_1;replace p190:=eq_true p190;replace q190:=eq_true q190;refine start_ (n:=32) (S:=fun w'=>w'.cell? ⟨gb177,0,none⟩=some (.slice A0_0 l0_0.length c0_0)∧w'.cell? ⟨gb177,1,none⟩=some (.slice (some ad179) l0_1.length c0_1)∧w'.cell? (ad179.add (x5_4).toNat)=some (.slice (some ad190) (rd_L5 l0_1 x5_4).length c184_0)∧w'.cell? (ad179.add (x5_4).toNat)=some (.slice (some ad190) (rd_L5 l0_1 x5_4).length c184_0)∧w'.cell? ad187=some (.int .i64 ((rd_T28 (rd_L5 l0_1 x3_2) 0).f0))∧w'.cell? ⟨ad187.block,ad187.off+1,none⟩=some (.int .i64 ((rd_T28 (rd_L5 l0_1 x3_2) 0).f1))∧w'.cell? (ad179.add (x5_4).toNat)=some (.slice (some ad190) (rd_L5 l0_1 x5_4).length c184_0)∧w'.cell? ad190=some (.int .i64 ((rd_T28 (rd_L5 l0_1 x5_4) 0).f0))∧w'.cell? ⟨ad190.block,ad190.off+1,none⟩=some (.int .i64 ((rd_T28 (rd_L5 l0_1 x5_4) 0).f1))) (ds:=[]) (Array.replicate 32 false) (by kernel_rfl) rfl rfl ⟨bc_,bc_,(ce_ HB hw184_0),(ce_ HB hw184_0),(ce_ HB hw187_0),(ce_ HB hw187_1),(ce_ HB hw184_0),(ce_ HB hw190_0),(ce_ HB hw190_1)⟩ (fun hHeld=>?_);refine with_tabW spec_PlateOk.tab12 spec_PlateOk.bits12 (fun HT_ HW_=>?_);generalize wr.drew=w47 at BK177 HB HR184_0 hx184_0 hx187_0 hx187_1 hx190_0 hx190_1 hHeld ⊢
                     refine pu_ HT_ 0 52 (bm 32 1) ?_;refine pu_ HT_ 1 53 (bm 32 3) ?_;refine pu_ HT_ 3 55 (bm 32 11) ?_;refine ta9_ HT_ HW_ 2 54 (bm 32 15) hHeld ?_;refine pu_ HT_ 4 56 (bm 32 31) ?_;refine ta9_ HT_ HW_ 5 57 (bm 32 63) hHeld ?_;refine one_ (i:=6) (N:=some 58) (bm 32 127) rfl rfl (one_of HT_.out (by kernel_rfl)) (by decide) (fun K hK=>?_);refine goes_ Tryd.func57 (by kernel_rfl) rfl #[.slice (some ad187) (rd_L5 l0_1 x3_2).length c179_0,.slice (some ad190) (rd_L5 l0_1 x5_4).length c184_0] (by rfl) rfl rfl ma_ ?_
                     with_reducible refine (spec_l11Apart.calls k4 _ _ (rd_L5 l0_1 x3_2) _ _ (rd_L5 l0_1 x5_4) true _ ?side1 ?side2 ?side3 ?side4 A35.out).mono ?_
                     (case side1=>repeat (first | exact (Kd.C_below HR179_0.out HB.out) | (with_reducible refine Kd.C_alloc ?_ _) | (with_reducible refine Kd.C_drewN ?_ _) | (with_reducible refine Kd.C_drew ?_)))
                     (case side2=>exact HC179_0.out)
                     (case side3=>repeat (first | exact (Kd.C_below HR184_0.out HB.out) | (with_reducible refine Kd.C_alloc ?_ _) | (with_reducible refine Kd.C_drewN ?_ _) | (with_reducible refine Kd.C_drew ?_)))
                     (case side4=>exact HC184_0.out)
                     rintro e w48 ⟨rfl,hb⟩;refine⟨_,rfl,?_⟩;replace BK177:=vb_ BK177 hb;replace HB:=sb_ HB hb
                     (try clear hb)
                     (try clear hb2)
                     (try clear hk)
                     (try clear hi)
                     refine hK.out _ _ ⟨bc_,bc_,(ce_ HB hw184_0),(ce_ HB hw184_0),(ce_ HB hw187_0),(ce_ HB hw187_1),(ce_ HB hw184_0),(ce_ HB hw190_0),(ce_ HB hw190_1)⟩ (fun hHeld=>?_);clear hK K;refine no_ (h:=?_);refine pu_ HT_ 7 59 (bm 32 255) ?_;refine pu_ HT_ 8 60 (bm 32 511) ?_;refine pu_ HT_ 9 61 (bm 32 1023) ?_;refine pu_ HT_ 11 63 (bm 32 3071) ?_;refine pu_ HT_ 14 66 (bm 32 19455) ?_;refine pu_ HT_ 15 67 (bm 32 52223) ?_;refine ta9_ HT_ HW_ 10 62 (bm 32 53247) hHeld ?_;refine pu_ HT_ 12 64 (bm 32 57343) ?_;refine ta9_ HT_ HW_ 13 65 (bm 32 65535) hHeld ?_;refine ta9_ HT_ HW_ 16 68 (bm 32 131071) hHeld ?_;refine one_ (i:=17) (N:=some 69) (bm 32 262143) rfl rfl (one_of HT_.out (by kernel_rfl)) (by decide) (fun K hK=>?_);refine goes_ Tryd.func56 (by kernel_rfl) rfl #[.slice (some ad190) (rd_L5 l0_1 x5_4).length c184_0,.agg #[.int .i64 ((rd_T28 (rd_L5 l0_1 x3_2) 0).f0),.int .i64 ((rd_T28 (rd_L5 l0_1 x3_2) 0).f1)]] (by rfl) rfl rfl ma_ ?_
                     with_reducible refine (spec_l3In.calls _ _ (rd_L5 l0_1 x5_4) ((rd_T28 (rd_L5 l0_1 x3_2) 0).f0) ((rd_T28 (rd_L5 l0_1 x3_2) 0).f1) t188 _ ?side1 ?side2 A38.out).mono ?_
                     (case side1=>repeat (first | exact (Kd.C_below HR184_0.out HB.out) | (with_reducible refine Kd.C_alloc ?_ _) | (with_reducible refine Kd.C_drewN ?_ _) | (with_reducible refine Kd.C_drew ?_)))
                     (case side2=>exact HC184_0.out)
                     rintro e w49 ⟨rfl,hb⟩;refine⟨_,rfl,?_⟩;replace BK177:=vb_ BK177 hb;replace HB:=sb_ HB hb
                     (try clear hb)
                     (try clear hb2)
                     (try clear hk)
                     (try clear hi)
                     refine hK.out _ _ ⟨bc_,bc_,(ce_ HB hw184_0),(ce_ HB hw184_0),(ce_ HB hw187_0),(ce_ HB hw187_1),(ce_ HB hw184_0),(ce_ HB hw190_0),(ce_ HB hw190_1)⟩ (fun hHeld=>?_);clear hK K;refine no_ (h:=?_);refine pu_ HT_ 18 70 (bm 32 524287) ?_;refine pu_ HT_ 19 71 (bm 32 1048575) ?_;refine pu_ HT_ 20 72 (bm 32 2097151) ?_;refine pu_ HT_ 21 73 (bm 32 4194303) ?_;refine pu_ HT_ 22 74 (bm 32 8388607) ?_;refine pu_ HT_ 24 76 (bm 32 25165823) ?_;refine ta9_ HT_ HW_ 23 75 (bm 32 33554431) hHeld ?_;refine pu_ HT_ 25 77 (bm 32 67108863) ?_;refine ta9_ HT_ HW_ 26 78 (bm 32 134217727) hHeld ?_;refine pu_ HT_ 27 79 (bm 32 268435455) ?_;refine ta9_ HT_ HW_ 28 80 (bm 32 536870911) hHeld ?_;refine one_ (i:=29) (N:=some 81) (bm 32 1073741823) rfl rfl (one_of HT_.out (by kernel_rfl)) (by decide) (fun K hK=>?_);refine goes_ Tryd.func56 (by kernel_rfl) rfl #[.slice (some ad187) (rd_L5 l0_1 x3_2).length c179_0,.agg #[.int .i64 ((rd_T28 (rd_L5 l0_1 x5_4) 0).f0),.int .i64 ((rd_T28 (rd_L5 l0_1 x5_4) 0).f1)]] (by rfl) rfl rfl ma_ ?_
                     with_reducible refine (spec_l3In.calls _ _ (rd_L5 l0_1 x3_2) ((rd_T28 (rd_L5 l0_1 x5_4) 0).f0) ((rd_T28 (rd_L5 l0_1 x5_4) 0).f1) t191 _ ?side1 ?side2 A41.out).mono ?_
                     (case side1=>repeat (first | exact (Kd.C_below HR179_0.out HB.out) | (with_reducible refine Kd.C_alloc ?_ _) | (with_reducible refine Kd.C_drewN ?_ _) | (with_reducible refine Kd.C_drew ?_)))
                     (case side2=>exact HC179_0.out)
                     rintro e w50 ⟨rfl,hb⟩;refine⟨_,rfl,?_⟩;replace BK177:=vb_ BK177 hb;replace HB:=sb_ HB hb
                     (try clear hb)
                     (try clear hb2)
                     (try clear hk)
                     (try clear hi)
                     refine hK.out _ _ ⟨bc_,bc_,(ce_ HB hw184_0),(ce_ HB hw184_0),(ce_ HB hw187_0),(ce_ HB hw187_1),(ce_ HB hw184_0),(ce_ HB hw190_0),(ce_ HB hw190_1)⟩ (fun hHeld=>?_);clear hK K;refine no_ (h:=?_);refine pu_ HT_ 30 82 (bm 32 2147483647) ?_;refine pu_ HT_ 31 83 (bm 32 4294967295) ?_;refine done_ (done_of HT_.out (by kernel_rfl)) ?_
                     try go_wp2
                     go_ret;exact⟨rr_,hB_⟩
                   ·
                    rw [if_neg c40] at H;exact absurd H (by simp)
                  ·
                   rw [if_neg c39] at H;have c39b0:(t188==(-1))=false:=beq_eq_false_iff_ne.mpr c39;have c39b1:(t188 != (-1))=true:=bne_iff_ne.mpr c39;obtain rfl:=Option.some.inj H
                   try go_wp2
                   replace BK177:=a0_ (blk_drew BK177.out);replace HB:=a0_ (below_drew1 HB.out);have p184:0≤(x5_4:Int):=od_;have q184:x5_4<(l0_1.length:Int):=od_;obtain⟨ad184,A184_0,c184_0,e184,hx184_0,hl184_0,hi184_0⟩:=at_L5 HR0_1.out x5_4 p184 q184;have hw184_0:=hx184_0;obtain rfl:ad179=ad184:=(by injection e184);replace hx184_0:=ce_ HB hx184_0;have HR184_0:=Aside0.mk hi184_0;have HC184_0:=Aside0.mk hl184_0;clear hi184_0 hl184_0;replace p184:=eq_true p184;replace q184:=eq_true q184;have p187:0≤(0:Int):=(by omega);have q187:0<((rd_L5 l0_1 x3_2).length:Int):=od_;obtain⟨ad187,e187,hx187_0,hx187_1⟩:=at_T28 HR179_0.out 0 p187 q187;have hw187_1:=hx187_1
                   (try simp only [Int.toNat_zero,Nat.zero_mul,Addr.add_zero'] at hw187_1)
                   have hw187_0:=hx187_0
                   (try simp only [Int.toNat_zero,Nat.zero_mul,Addr.add_zero'] at hw187_0)
                   cases e187;have qi187:(0<(rd_L5 l0_1 x3_2).length)=True:=eq_true (by omega)
                   (try simp only [Int.toNat_zero,Nat.zero_mul,Addr.add_zero'] at hx187_0)
                   (try simp only [Int.toNat_zero,Nat.zero_mul,Addr.add_zero'] at hx187_1)
                   replace hx187_0:=ce_ HB hx187_0;replace hx187_1:=ce_ HB hx187_1;replace p187:=eq_true p187;replace q187:=eq_true q187;refine start_ (n:=32) (S:=fun w'=>w'.cell? ⟨gb177,0,none⟩=some (.slice A0_0 l0_0.length c0_0)∧w'.cell? ⟨gb177,1,none⟩=some (.slice (some ad179) l0_1.length c0_1)∧w'.cell? (ad179.add (x5_4).toNat)=some (.slice A184_0 (rd_L5 l0_1 x5_4).length c184_0)∧w'.cell? (ad179.add (x5_4).toNat)=some (.slice A184_0 (rd_L5 l0_1 x5_4).length c184_0)∧w'.cell? ad187=some (.int .i64 ((rd_T28 (rd_L5 l0_1 x3_2) 0).f0))∧w'.cell? ⟨ad187.block,ad187.off+1,none⟩=some (.int .i64 ((rd_T28 (rd_L5 l0_1 x3_2) 0).f1))) (ds:=[]) (Array.replicate 32 false) (by kernel_rfl) rfl rfl ⟨bc_,bc_,(ce_ HB hw184_0),(ce_ HB hw184_0),(ce_ HB hw187_0),(ce_ HB hw187_1)⟩ (fun hHeld=>?_);refine with_tabW spec_PlateOk.tab12 spec_PlateOk.bits12 (fun HT_ HW_=>?_);generalize wr.drew=w51 at BK177 HB HR184_0 hx184_0 hx187_0 hx187_1 hHeld ⊢
                   refine pu_ HT_ 0 52 (bm 32 1) ?_;refine pu_ HT_ 1 53 (bm 32 3) ?_;refine pu_ HT_ 3 55 (bm 32 11) ?_;refine ta6_ HT_ HW_ 2 54 (bm 32 15) hHeld ?_;refine pu_ HT_ 4 56 (bm 32 31) ?_;refine ta6_ HT_ HW_ 5 57 (bm 32 63) hHeld ?_;refine one_ (i:=6) (N:=some 58) (bm 32 127) rfl rfl (one_of HT_.out (by kernel_rfl)) (by decide) (fun K hK=>?_);refine goes_ Tryd.func57 (by kernel_rfl) rfl #[.slice (some ad187) (rd_L5 l0_1 x3_2).length c179_0,.slice A184_0 (rd_L5 l0_1 x5_4).length c184_0] (by rfl) rfl rfl ma_ ?_
                   with_reducible refine (spec_l11Apart.calls k4 _ _ (rd_L5 l0_1 x3_2) _ _ (rd_L5 l0_1 x5_4) true _ ?side1 ?side2 ?side3 ?side4 A35.out).mono ?_
                   (case side1=>repeat (first | exact (Kd.C_below HR179_0.out HB.out) | (with_reducible refine Kd.C_alloc ?_ _) | (with_reducible refine Kd.C_drewN ?_ _) | (with_reducible refine Kd.C_drew ?_)))
                   (case side2=>exact HC179_0.out)
                   (case side3=>repeat (first | exact (Kd.C_below HR184_0.out HB.out) | (with_reducible refine Kd.C_alloc ?_ _) | (with_reducible refine Kd.C_drewN ?_ _) | (with_reducible refine Kd.C_drew ?_)))
                   (case side4=>exact HC184_0.out)
                   rintro e w52 ⟨rfl,hb⟩;refine⟨_,rfl,?_⟩;replace BK177:=vb_ BK177 hb;replace HB:=sb_ HB hb
                   (try clear hb)
                   (try clear hb2)
                   (try clear hk)
                   (try clear hi)
                   refine hK.out _ _ ⟨bc_,bc_,(ce_ HB hw184_0),(ce_ HB hw184_0),(ce_ HB hw187_0),(ce_ HB hw187_1)⟩ (fun hHeld=>?_);clear hK K;refine no_ (h:=?_);refine pu_ HT_ 7 59 (bm 32 255) ?_;refine pu_ HT_ 8 60 (bm 32 511) ?_;refine pu_ HT_ 9 61 (bm 32 1023) ?_;refine pu_ HT_ 11 63 (bm 32 3071) ?_;refine pu_ HT_ 14 66 (bm 32 19455) ?_;refine pu_ HT_ 15 67 (bm 32 52223) ?_;refine ta6_ HT_ HW_ 10 62 (bm 32 53247) hHeld ?_;refine pu_ HT_ 12 64 (bm 32 57343) ?_;refine ta6_ HT_ HW_ 13 65 (bm 32 65535) hHeld ?_;refine ta6_ HT_ HW_ 16 68 (bm 32 131071) hHeld ?_;refine one_ (i:=17) (N:=some 69) (bm 32 262143) rfl rfl (one_of HT_.out (by kernel_rfl)) (by decide) (fun K hK=>?_);refine goes_ Tryd.func56 (by kernel_rfl) rfl #[.slice A184_0 (rd_L5 l0_1 x5_4).length c184_0,.agg #[.int .i64 ((rd_T28 (rd_L5 l0_1 x3_2) 0).f0),.int .i64 ((rd_T28 (rd_L5 l0_1 x3_2) 0).f1)]] (by rfl) rfl rfl ma_ ?_
                   with_reducible refine (spec_l3In.calls _ _ (rd_L5 l0_1 x5_4) ((rd_T28 (rd_L5 l0_1 x3_2) 0).f0) ((rd_T28 (rd_L5 l0_1 x3_2) 0).f1) t188 _ ?side1 ?side2 A38.out).mono ?_
                   (case side1=>repeat (first | exact (Kd.C_below HR184_0.out HB.out) | (with_reducible refine Kd.C_alloc ?_ _) | (with_reducible refine Kd.C_drewN ?_ _) | (with_reducible refine Kd.C_drew ?_)))
                   (case side2=>exact HC184_0.out)
                   rintro e w53 ⟨rfl,hb⟩;refine⟨_,rfl,?_⟩;replace BK177:=vb_ BK177 hb;replace HB:=sb_ HB hb
                   (try clear hb)
                   (try clear hb2)
                   (try clear hk)
                   (try clear hi)
                   refine hK.out _ _ ⟨bc_,bc_,(ce_ HB hw184_0),(ce_ HB hw184_0),(ce_ HB hw187_0),(ce_ HB hw187_1)⟩ (fun hHeld=>?_);clear hK K;refine no_ (h:=?_);refine pu_ HT_ 18 70 (bm 32 524287) ?_;refine pu_ HT_ 19 71 (bm 32 1048575) ?_;refine pu_ HT_ 20 72 (bm 32 2097151) ?_;refine pz_ HT_ 21 73 (bm 32 4194303) ?_;refine pz_ HT_ 22 74 (bm 32 8388607) ?_;refine pz_ HT_ 23 75 (bm 32 16777215) ?_;refine pz_ HT_ 24 76 (bm 32 33554431) ?_;refine pz_ HT_ 25 77 (bm 32 67108863) ?_;refine pz_ HT_ 26 78 (bm 32 134217727) ?_;refine pz_ HT_ 27 79 (bm 32 268435455) ?_;refine pz_ HT_ 28 80 (bm 32 536870911) ?_;refine pz_ HT_ 29 81 (bm 32 1073741823) ?_;refine pz_ HT_ 30 82 (bm 32 2147483647) ?_;refine pu_ HT_ 31 83 (bm 32 4294967295) ?_;refine done_ (done_of HT_.out (by kernel_rfl)) ?_
                   try go_wp2
                   go_ret;exact⟨rr_,hB_⟩
                 ·
                  rw [if_neg c37] at H;exact absurd H (by simp)
                ·
                 replace c36:=Bool.eq_false_iff.mpr c36;subst c36;rw [if_neg (show ¬ (false=true) by decide)] at H
                 (try dsimp only at H)
                 obtain rfl:=Option.some.inj H
                 try go_wp2
                 replace BK177:=a0_ (blk_drew BK177.out);replace HB:=a0_ (below_drew1 HB.out);have p184:0≤(x5_4:Int):=od_;have q184:x5_4<(l0_1.length:Int):=od_;obtain⟨ad184,A184_0,c184_0,e184,hx184_0,hl184_0,hi184_0⟩:=at_L5 HR0_1.out x5_4 p184 q184;have hw184_0:=hx184_0;obtain rfl:ad179=ad184:=(by injection e184);replace hx184_0:=ce_ HB hx184_0;have HR184_0:=Aside0.mk hi184_0;have HC184_0:=Aside0.mk hl184_0;clear hi184_0 hl184_0;replace p184:=eq_true p184;replace q184:=eq_true q184;refine start_ (n:=32) (S:=fun w'=>w'.cell? ⟨gb177,0,none⟩=some (.slice A0_0 l0_0.length c0_0)∧w'.cell? ⟨gb177,1,none⟩=some (.slice (some ad179) l0_1.length c0_1)∧w'.cell? (ad179.add (x5_4).toNat)=some (.slice A184_0 (rd_L5 l0_1 x5_4).length c184_0)) (ds:=[]) (Array.replicate 32 false) (by kernel_rfl) rfl rfl ⟨bc_,bc_,(ce_ HB hw184_0)⟩ (fun hHeld=>?_);refine with_tabW spec_PlateOk.tab12 spec_PlateOk.bits12 (fun HT_ HW_=>?_);generalize wr.drew=w54 at BK177 HB HR184_0 hx184_0 hHeld ⊢
                 refine pu_ HT_ 0 52 (bm 32 1) ?_;refine pu_ HT_ 1 53 (bm 32 3) ?_;refine pu_ HT_ 3 55 (bm 32 11) ?_;refine ta3_ HT_ HW_ 2 54 (bm 32 15) hHeld ?_;refine pu_ HT_ 4 56 (bm 32 31) ?_;refine ta3_ HT_ HW_ 5 57 (bm 32 63) hHeld ?_;refine one_ (i:=6) (N:=some 58) (bm 32 127) rfl rfl (one_of HT_.out (by kernel_rfl)) (by decide) (fun K hK=>?_);refine goes_ Tryd.func57 (by kernel_rfl) rfl #[.slice A179_0 (rd_L5 l0_1 x3_2).length c179_0,.slice A184_0 (rd_L5 l0_1 x5_4).length c184_0] (by rfl) rfl rfl ma_ ?_
                 with_reducible refine (spec_l11Apart.calls k4 _ _ (rd_L5 l0_1 x3_2) _ _ (rd_L5 l0_1 x5_4) false _ ?side1 ?side2 ?side3 ?side4 A35.out).mono ?_
                 (case side1=>repeat (first | exact (Kd.C_below HR179_0.out HB.out) | (with_reducible refine Kd.C_alloc ?_ _) | (with_reducible refine Kd.C_drewN ?_ _) | (with_reducible refine Kd.C_drew ?_)))
                 (case side2=>exact HC179_0.out)
                 (case side3=>repeat (first | exact (Kd.C_below HR184_0.out HB.out) | (with_reducible refine Kd.C_alloc ?_ _) | (with_reducible refine Kd.C_drewN ?_ _) | (with_reducible refine Kd.C_drew ?_)))
                 (case side4=>exact HC184_0.out)
                 rintro e w55 ⟨rfl,hb⟩;refine⟨_,rfl,?_⟩;replace BK177:=vb_ BK177 hb;replace HB:=sb_ HB hb
                 (try clear hb)
                 (try clear hb2)
                 (try clear hk)
                 (try clear hi)
                 refine hK.out _ _ ⟨bc_,bc_,(ce_ HB hw184_0)⟩ (fun hHeld=>?_);clear hK K;refine no_ (h:=?_);refine pu_ HT_ 7 59 (bm 32 255) ?_;refine pu_ HT_ 8 60 (bm 32 511) ?_;refine pz_ HT_ 9 61 (bm 32 1023) ?_;refine pz_ HT_ 10 62 (bm 32 2047) ?_;refine pz_ HT_ 11 63 (bm 32 4095) ?_;refine pz_ HT_ 12 64 (bm 32 8191) ?_;refine pz_ HT_ 13 65 (bm 32 16383) ?_;refine pz_ HT_ 14 66 (bm 32 32767) ?_;refine pz_ HT_ 15 67 (bm 32 65535) ?_;refine pz_ HT_ 16 68 (bm 32 131071) ?_;refine pz_ HT_ 17 69 (bm 32 262143) ?_;refine pz_ HT_ 18 70 (bm 32 524287) ?_;refine pu_ HT_ 19 71 (bm 32 1048575) ?_;refine pu_ HT_ 20 72 (bm 32 2097151) ?_;refine pz_ HT_ 21 73 (bm 32 4194303) ?_;refine pz_ HT_ 22 74 (bm 32 8388607) ?_;refine pz_ HT_ 23 75 (bm 32 16777215) ?_;refine pz_ HT_ 24 76 (bm 32 33554431) ?_;refine pz_ HT_ 25 77 (bm 32 67108863) ?_;refine pz_ HT_ 26 78 (bm 32 134217727) ?_;refine pz_ HT_ 27 79 (bm 32 268435455) ?_;refine pz_ HT_ 28 80 (bm 32 536870911) ?_;refine pz_ HT_ 29 81 (bm 32 1073741823) ?_;refine pz_ HT_ 30 82 (bm 32 2147483647) ?_;refine pu_ HT_ 31 83 (bm 32 4294967295) ?_;refine done_ (done_of HT_.out (by kernel_rfl)) ?_
                 try go_wp2
                 go_ret;exact⟨rr_,hB_⟩
               ·
                rw [if_neg c34] at H;exact absurd H (by simp)
              ·
               rw [if_neg c33] at H;exact absurd H (by simp)
             ·
              rw [if_neg c32] at H;have c32b0:decide (x5_4<x3_2)=false:=decide_eq_false c32;clear c32;have H':=Aside0.mk H;clear H;go_wp2;go_roundg k4
              case measure=>have:=HJ1.out;have:=HK2.out;have:=HJ13.out;have:=HK4.out;omega
              case rel=>exact⟨(wrap64 (x3_2+1)),(by first | rfl | (simp;done) | (simp [*];done)),H',⟨by have:=HJ1.out;have:=HK2.out;have:=HJ13.out;have:=HK4.out;omega⟩,⟨uq_⟩,⟨hB_⟩⟩
       ·
        rw [if_neg c13] at H;exact absurd H (by simp)
      ·
       rw [if_neg c12] at H;have c12b0:decide (x3_2<(l0_1.length:Int))=false:=decide_eq_false c12;clear c12;obtain rfl:=Option.some.inj H;have hcz56_0:=c20_ BK177;have hcz56_1:=c21_ BK177;have hfz56_0:=fz_ BK177 0;have hfz56_1:=fz_ BK177 1;go_wp2;go_ret;exact⟨rr_,hB_⟩
def spec_l11In.l0:Nat→Int→Int→List (S28)→List (List (S28))→Int→Int→Option (Int)
 | 0,_,_,_,_,_,_=>none
 | k+1,x5,x6,x393000,x393001,x394000,x394001=>if x6<(x393001.length:Int) then (if 0≤x6 then ((spec_l3In.f (rd_L5 x393001 x6) x394000 x394001).bind fun t396=>(spec_l11In.l0 k (mn x5 (wrap64 (-t396))) (wrap64 (x6+1)) x393000 x393001 x394000 x394001)) else (none)) else (some x5)
def spec_l11In.f (k:Nat)(l0_0:List (S28))(l0_1:List (List (S28)))(a1_0:Int)(a1_1:Int):Option (Int):=(spec_l3In.f l0_0 a1_0 a1_1).bind fun t394=>(spec_l11In.l0 k t394 0 l0_0 l0_1 a1_0 a1_1)
def spec_l11In.T5:Bool × List (List Nat × List Nat):=(true,[([],[]),([],[]),([1],[1]),([],[]),([2,3],[2,3]),([4],[4]),([],[]),([5,6],[5,6]),([7],[7]),([0,8],[0,8]),([9,7,0,1,2,3,4,5,6,7,8,9],[0,9])])
def spec_l11In.B5:List Nat:=[0,0,2,0,14,30,0,126,254,511,1023]
theorem spec_l11In.tab5:rtab .any (opsOf Tryd.f54 5)=spec_l11In.T5:=by kernel_rfl
theorem spec_l11In.bits5:waitsOk spec_l11In.T5.2 spec_l11In.B5=true:=by kernel_rfl
set_option maxHeartbeats 8000000 in
set_option maxRecDepth 100000 in
theorem spec_l11In.calls (k:Nat)(A0_0:Option Addr)(c0_0:Nat)(l0_0:List (S28))(A0_1:Option Addr)(c0_1:Nat)(l0_1:List (List (S28)))(a1_0:Int)(a1_1:Int)(r:Int)(w:World)(hr0_0:Kd.C k28 w A0_0 l0_0.length l0_0)(hc0_0:l0_0.length≤c0_0)(hr0_1:Kd.C (Kd.slice 28 k28) w A0_1 l0_1.length l0_1)(hc0_1:l0_1.length≤c0_1)(h:spec_l11In.f k l0_0 l0_1 a1_0 a1_1=some r):
  Calls Tryd.prog 54 #[.agg #[.slice A0_0 l0_0.length c0_0,.slice A0_1 l0_1.length c0_1],.agg #[.int .i64 a1_0,.int .i64 a1_1]] w fun e w'=>e=.returned (.int .i64 r)∧Below w.heap.size w w':=by
 have hu26:=Tryd.underlying26;have hu28:=Tryd.underlying28;have HR0_0:=Aside0.mk hr0_0;have HC0_0:=Aside0.mk hc0_0;clear hr0_0 hc0_0;have HR0_1:=Aside0.mk hr0_1;have HC0_1:=Aside0.mk hc0_1;clear hr0_1 hc0_1;have HB:=a0_ (Below.refl w.heap.size w);have H:((spec_l3In.f l0_0 a1_0 a1_1).bind fun t394=>(spec_l11In.l0 k t394 0 l0_0 l0_1 a1_0 a1_1))=some r:=h;clear h;replace H:=Option.bind_eq_some_iff.mp H;obtain⟨t394,A30,H⟩:=H
 (try dsimp only at H)
 have A3:=Aside0.mk A30;clear A30;have H':=Aside0.mk H;clear H;go_enter Tryd.func54,Tryd.ntmps54;go_wp2_with (first | ((with_reducible refine gate_dst (N:=2) rfl ?_);refine bx_ (N:=2) (cs:=#[.slice A0_0 l0_0.length c0_0,.slice A0_1 l0_1.length c0_1]) (t:=26) (h:=?_);intro gb392 hg w4 hbox hb;have BK392:=a0_ (hbox);have GW392:=gh_ HB hg;have GE392:=gh_ HB hg;replace HB:=sb_ HB hb;clear hb hbox hg) | ((with_reducible refine gate_dst (N:=3) rfl ?_);refine bx_ (N:=3) (cs:=#[.int .i64 a1_0,.int .i64 a1_1]) (t:=28) (h:=?_);intro gb393 hg w5 hbox hb;have BK393:=a0_ (hbox);have GW393:=gh_ HB hg;have GE393:=gh_ HB hg;have NB392_393:=nl_ BK392 hg;have NB393_392:=nr_ BK392 hg;replace BK392:=vb_ BK392 hb;replace HB:=sb_ HB hb;clear hb hbox hg;have hnb6:=NB392_393.out;have hnc6:=NB393_392.out;have hcz7_0:=c20_ BK392;have hcz7_1:=c21_ BK392;have hfz7_0:=fz_ BK392 0;have hfz7_1:=fz_ BK392 1;have hcz8_0:=c20_ BK393;have hcz8_1:=c21_ BK393;have hfz8_0:=fz_ BK393 0;have hfz8_1:=fz_ BK393 1) | ((with_reducible refine gate_callee (f:=56) rfl ?_);refine gL_ (some 10) Tryd.func56 #[.slice A0_0 l0_0.length c0_0,.agg #[.int .i64 a1_0,.int .i64 a1_1]] (h:=?_);(with_reducible refine (spec_l3In.calls _ _ l0_0 a1_0 a1_1 t394 _ ?side1 ?side2 A3.out).mono ?_);(case side1=>repeat (first | exact (Kd.C_below HR0_0.out HB.out) | (with_reducible refine Kd.C_alloc ?_ _) | (with_reducible refine Kd.C_drewN ?_ _) | (with_reducible refine Kd.C_drew ?_)));(case side2=>exact HC0_0.out);rintro e w9 ⟨rfl,hb⟩;refine⟨_,rfl,?_⟩;replace BK392:=vb_ BK392 hb;replace BK393:=vb_ BK393 hb;replace HB:=sb_ HB hb;(try clear hb)))
 go_loopg [5,6] k (fun kq v5 v6 w'=>∃ (x5_1:Int) (x6_1:Int),v5=.int .i64 x5_1∧v6=.int .i64 x6_1∧Aside0 (spec_l11In.l0 kq x5_1 x6_1 l0_0 l0_1 a1_0 a1_1=some r)∧Aside0 (kq≤k)∧Aside0 (w'.heap[gb392]?=some (.cells #[(.slice A0_0 l0_0.length c0_0),(.slice A0_1 l0_1.length c0_1)] 26 (0,0)))∧Aside0 (w'.heap[gb393]?=some (.cells #[.int .i64 a1_0,.int .i64 a1_1] 28 (0,0)))∧Aside0 (Below w.heap.size w w'))
 case atStart=>exact⟨(t394),(0),(by first | rfl | (simp;done) | (simp [*];done)),(by first | rfl | (simp;done) | (simp [*];done)),H',⟨Nat.le_refl _⟩,⟨uq_⟩,⟨uq_⟩,⟨hB_⟩⟩
 case round =>
  clear H';obtain⟨x5_1,x6_1,rfl,rfl,HA,HK1,BK392,BK393,HB⟩:=hrel
  cases gk with
  | zero=>exact absurd HA.out (by simp [spec_l11In.l0])
  | succ k1 =>
   have H:=HA.out;clear HA;simp only [spec_l11In.l0] at H;by_cases c10:x6_1<(l0_1.length:Int)
   ·
    rw [if_pos c10] at H;have c10b0:decide (x6_1<(l0_1.length:Int))=true:=decide_eq_true c10;clear c10;by_cases c11:0≤x6_1
    ·
     rw [if_pos c11] at H;have c11b0:decide (0≤x6_1)=true:=decide_eq_true c11;clear c11;replace H:=Option.bind_eq_some_iff.mp H;obtain⟨t396,A120,H⟩:=H
     (try dsimp only at H)
     have A12:=Aside0.mk A120;clear A120;obtain⟨ji13,hji13⟩:∃ j_:Int,(mn x5_1 (wrap64 (-t396)))=j_:=⟨_,rfl⟩;replace H:(spec_l11In.l0 k1 ji13 (wrap64 (x6_1+1)) l0_0 l0_1 a1_0 a1_1)=some r:=by first | (rw [hji13] at H;exact H) | (simp only [hji13] at H ⊢;exact H)
     (try rw [hji13] at A12)
     have hji13_:(if (wrap64 (-t396))<x5_1 then (wrap64 (-t396)) else x5_1)=ji13:=hji13;have H':=Aside0.mk H;clear H;have hnb14:=NB392_393.out;have hnc14:=NB393_392.out;have hcz15_0:=c20_ BK392;have hcz15_1:=c21_ BK392;have hfz15_0:=fz_ BK392 0;have hfz15_1:=fz_ BK392 1
     try go_wp2
     replace BK392:=a0_ (blk_drew BK392.out);replace BK393:=a0_ (blk_drew BK393.out);replace HB:=a0_ (below_drew1 HB.out);have p395:0≤(x6_1:Int):=od_;have q395:x6_1<(l0_1.length:Int):=od_;obtain⟨ad395,A395_0,c395_0,e395,hx395_0,hl395_0,hi395_0⟩:=at_L5 HR0_1.out x6_1 p395 q395;have hw395_0:=hx395_0;cases e395;replace hx395_0:=ce_ HB hx395_0;have HR395_0:=Aside0.mk hi395_0;have HC395_0:=Aside0.mk hl395_0;clear hi395_0 hl395_0;replace p395:=eq_true p395;replace q395:=eq_true q395;refine start_ (n:=11) (S:=fun w'=>w'.cell? ⟨gb392,0,none⟩=some (.slice A0_0 l0_0.length c0_0)∧w'.cell? ⟨gb392,1,none⟩=some (.slice (some ad395) l0_1.length c0_1)∧w'.cell? ⟨gb393,0,none⟩=some (.int .i64 a1_0)∧w'.cell? ⟨gb393,1,none⟩=some (.int .i64 a1_1)∧w'.cell? (ad395.add (x6_1).toNat)=some (.slice A395_0 (rd_L5 l0_1 x6_1).length c395_0)) (ds:=[]) (Array.replicate 11 false) (by kernel_rfl) rfl rfl ⟨bc_,bc_,bc_,bc_,(ce_ HB hw395_0)⟩ (fun hHeld=>?_);refine with_tabW spec_l11In.tab5 spec_l11In.bits5 (fun HT_ HW_=>?_);generalize wr.drew=w16 at BK392 BK393 HB HR395_0 hx395_0 hHeld ⊢
     refine pu_ HT_ 0 18 (bm 11 1) ?_;refine pu_ HT_ 1 19 (bm 11 3) ?_;refine pu_ HT_ 3 21 (bm 11 11) ?_;refine ta5_ HT_ HW_ 2 20 (bm 11 15) hHeld ?_;refine pu_ HT_ 4 22 (bm 11 31) ?_;refine ta5_ HT_ HW_ 5 23 (bm 11 63) hHeld ?_;refine ta5_ HT_ HW_ 6 24 (bm 11 127) hHeld ?_;refine one_ (i:=7) (N:=some 25) (bm 11 255) rfl rfl (one_of HT_.out (by kernel_rfl)) (by decide) (fun K hK=>?_);refine goes_ Tryd.func56 (by kernel_rfl) rfl #[.slice A395_0 (rd_L5 l0_1 x6_1).length c395_0,.agg #[.int .i64 a1_0,.int .i64 a1_1]] (by rfl) rfl rfl ma_ ?_
     with_reducible refine (spec_l3In.calls _ _ (rd_L5 l0_1 x6_1) a1_0 a1_1 t396 _ ?side1 ?side2 A12.out).mono ?_
     (case side1=>repeat (first | exact (Kd.C_below HR395_0.out HB.out) | (with_reducible refine Kd.C_alloc ?_ _) | (with_reducible refine Kd.C_drewN ?_ _) | (with_reducible refine Kd.C_drew ?_)))
     (case side2=>exact HC395_0.out)
     rintro e w17 ⟨rfl,hb⟩;refine⟨_,rfl,?_⟩;replace BK392:=vb_ BK392 hb;replace BK393:=vb_ BK393 hb;replace HB:=sb_ HB hb
     (try clear hb)
     (try clear hb2)
     (try clear hk)
     (try clear hi)
     refine hK.out _ _ ⟨bc_,bc_,bc_,bc_,(ce_ HB hw395_0)⟩ (fun hHeld=>?_);clear hK K;refine no_ (h:=?_);refine pu_ HT_ 8 26 (bm 11 511) ?_;refine pu_ HT_ 9 27 (bm 11 1023) ?_;refine pu_ HT_ 10 5 (bm 11 2047) ?_;refine done_ (done_of HT_.out (by kernel_rfl)) ?_
     try go_wp2
     go_roundg k1
     case measure=>have:=HK1.out;omega
     case rel=>exact⟨(ji13),(wrap64 (x6_1+1)),(by first | rfl | (simp;done) | (simp only [← hji13] <;> (first | rfl | simp)) | (simp [*];done)),(by first | rfl | (simp;done) | (simp [*];done)),H',⟨by have:=HK1.out;omega⟩,⟨uq_⟩,⟨uq_⟩,⟨hB_⟩⟩
    ·
     rw [if_neg c11] at H;exact absurd H (by simp)
   ·
    rw [if_neg c10] at H;have c10b0:decide (x6_1<(l0_1.length:Int))=false:=decide_eq_false c10;clear c10;obtain rfl:=Option.some.inj H;have hnb18:=NB392_393.out;have hnc18:=NB393_392.out;have hcz19_0:=c20_ BK392;have hcz19_1:=c21_ BK392;have hfz19_0:=fz_ BK392 0;have hfz19_1:=fz_ BK392 1;go_wp2;go_ret;exact⟨rr_,hB_⟩
end Go.Proofs.YtkefmnmoaomlhaaDoor.X
end
section
set_option linter.unusedVariables false
set_option linter.unusedSimpArgs false
namespace Mort
theorem par_below {l:List Pt}{x y:Rat}(h:par l x y=true):∃ v∈l,y<(v.2:Rat):=by
 have h1:∃ e∈edges l,crsQ e.1.1 e.1.2 e.2.1 e.2.2 x y=true:=by
  refine Classical.byContradiction fun hn=>?_
  have:par l x y=xorAll ((edges l).map fun _=>false):=xorAll_congr fun e he=>by
   cases hc:crsQ e.1.1 e.1.2 e.2.1 e.2.2 x y with
   | true=>exact absurd ⟨e,he,hc⟩ hn
   | false=>rfl
  rw [this] at h;have:∀ (m:List Seg),xorAll (m.map fun _=>false)=false:=fun m=>by
   induction m with
   | nil=>rfl
   | cons a m ih=>rw [List.map_cons];unfold xorAll;rw [ih];rfl
  rw [this] at h;cases h
 obtain⟨e,he,hc⟩:=h1;obtain⟨i,hi,rfl⟩:=mem_edges.1 he;have m1:(ed l i).1∈l:=by
  unfold ed;simp only;rw [List.getD_eq_getElem?_getD,List.getElem?_eq_getElem hi];exact List.getElem_mem hi
 have hq:=Nat.mod_lt (i+1) (show 0<l.length by omega);have m2:(ed l i).2∈l:=by
  unfold ed;simp only;rw [List.getD_eq_getElem?_getD,List.getElem?_eq_getElem hq];exact List.getElem_mem hq
 unfold crsQ at hc;simp only [Bool.or_eq_true,Bool.and_eq_true,decide_eq_true_eq] at hc
 rcases hc with hc | hc
 ·
  exact⟨_,m2,hc.2.1⟩
 ·
  exact⟨_,m1,hc.2.1⟩
theorem inOf_below {l:List Pt}{p:Pt}(h:inOf l p=1):∃ v∈l,p.2<v.2:=by
 have hp:par l p.1 p.2=true:=by
  unfold inOf at h
  split at h
  ·
   omega
  ·
   split at h
   ·
    assumption
   ·
    omega
 obtain⟨v,hv,hlt⟩:=par_below hp;exact⟨v,hv,by exact_mod_cast hlt⟩
theorem vertex_on {l:List Pt}{v:Pt}(h:v∈l):onB l v=true:=by
 obtain⟨i,hi,rfl⟩:=List.getElem_of_mem h;refine (onB_iff l _).2 ⟨ed l i,mem_edges.2 ⟨i,hi,rfl⟩,?_⟩;have:(ed l i).1=l[i]:=by unfold ed;simp only;rw [List.getD_eq_getElem?_getD,List.getElem?_eq_getElem hi];rfl
 rw [← this];exact (has_ends _).1
theorem has_max {l:List Pt}(h:0<l.length):∃ v∈l,∀ u∈l,u.2≤v.2:=by
 induction l with
 | nil=>simp at h
 | cons a m ih =>
  by_cases hm:0<m.length
  ·
   obtain⟨v,hv,hx⟩:=ih hm;by_cases hc:v.2≤a.2
   ·
    refine⟨a,List.mem_cons_self,fun u hu=>?_⟩
    rcases List.mem_cons.1 hu with rfl | hu
    ·
     omega
    ·
     have:=hx u hu;omega
   ·
    refine⟨v,List.mem_cons_of_mem _ hv,fun u hu=>?_⟩
    rcases List.mem_cons.1 hu with rfl | hu
    ·
     omega
    ·
     exact hx u hu
  ·
   obtain rfl:m=[]:=List.eq_nil_of_length_eq_zero (by omega);exact⟨a,List.mem_cons_self,fun u hu=>by rw [List.mem_singleton] at hu;rw [hu];omega⟩
theorem PlateGood.on_outer {P:Plate}(g:PlateGood P){h:List Pt}(hh:h∈P.2){p:Pt}(hp:onB P.1 p=true):inOf h p = -1:=by
 have hl:=g.holes h hh;have same:∀ q,onB P.1 q=true→inOf h q=inOf h (P.1.getD 0 (0,0)):=fun q hq=>on_inOf (ndl_of_ok hl) (ndl_of_ok g.outer) (by rw [apartB_comm];exact g.away h hh) (loop_pos g.outer) hq
 rw [same p hp]
 rcases inOf_vals h (P.1.getD 0 (0,0)) with e | e | e
 ·
  exfalso
  have h1:=(inOf_zero h _).1 e;have h2:=g.on_hole hh h1;have h3:=(inOf_zero P.1 (P.1.getD 0 (0,0))).2 (first_on (loop_pos g.outer));omega
 ·
  exfalso
  obtain⟨v,hv,hmax⟩:=has_max (loop_pos g.outer);have h1:inOf h v=1:=(same v (vertex_on hv)).trans e;obtain⟨u,hu,hlt⟩:=inOf_below h1;have h2:=g.on_hole hh (vertex_on hu);obtain⟨t,ht,hlt2⟩:=inOf_below h2;have:=hmax t ht;omega
 ·
  exact e
theorem plateInOf_spec {P:Plate}(g:PlateGood P)(p:Pt):
  (inOf P.1 p=0→plateInOf P p=0∧∀ h∈P.2,inOf h p = -1)∧((∃ h∈P.2,inOf h p=0)→plateInOf P p=0∧inOf P.1 p=1) ∧
  (inOf P.1 p≠0→(∀ h∈P.2,inOf h p≠0)→plateInOf P p=if inOf P.1 p=1∧∀ h∈P.2,inOf h p = -1 then 1 else -1):=by
 refine⟨fun h0=>?_,fun⟨h,hh,h0⟩=>?_,fun h0 h1=>?_⟩
 ·
  have hon:=(inOf_zero _ _).1 h0;refine⟨?_,fun h hh=>g.on_outer hh hon⟩;unfold plateInOf plateOn;rw [hon,Bool.true_or,if_pos rfl]
 ·
  have hon:=(inOf_zero _ _).1 h0;refine⟨?_,g.on_hole hh hon⟩;have:plateOn P p=true:=by unfold plateOn;rw [Bool.or_eq_true,List.any_eq_true];exact .inr ⟨h,hh,hon⟩
  unfold plateInOf;rw [this,if_pos rfl]
 ·
  have:plateOn P p=false:=by
   unfold plateOn;rw [Bool.or_eq_false_iff];refine⟨?_,?_⟩
   ·
    cases hc:onB P.1 p with
    | true=>exact absurd ((inOf_zero _ _).2 hc) h0
    | false=>rfl
   ·
    rw [List.any_eq_false];intro h hh hc;exact h1 h hh ((inOf_zero _ _).2 hc)
  unfold plateInOf;rw [this,if_neg (by decide)];unfold plateInB;by_cases hq:inOf P.1 p=1∧∀ h∈P.2,inOf h p = -1
  ·
   rw [if_pos hq,if_pos];rw [Bool.and_eq_true,List.all_eq_true];exact⟨beq_iff_eq.2 hq.1,fun h hh=>beq_iff_eq.2 (hq.2 h hh)⟩
  ·
   rw [if_neg hq,if_neg];rw [Bool.and_eq_true,List.all_eq_true];exact fun e=>hq ⟨beq_iff_eq.1 e.1,fun h hh=>beq_iff_eq.1 (e.2 h hh)⟩
end Mort
namespace Go.Proofs.YtkefmnmoaomlhaaDoor.X
open Go.RowKit Go.Proofs.YtkefmnmoaomlhaaDoorW.PrintWords Go.Proofs.YtkefmnmoaomlhaaDoorW.PrintLast Go.Proofs.YtkefmnmoaomlhaaDoorW.PrintMore
open Mort (edges loopOk ptOk segOk has meet ed pairOk joined apartB plateOk plateInOf PlateGood inOf segMeet)
def pl (o:List S28)(H:List (List S28)):Mort.Plate:=(o.map ptP,H.map (List.map ptP))
theorem fst_pt (z:List S28):(z.map ptP).getD 0 (0,0)=fstP z:=ptP_getD z 0
theorem apart_ix (a b:List S28):apartB (a.map ptP) (b.map ptP)=true ↔ ∀ i,i<a.length→∀ j,j<b.length→meet (sgP (edS a i)) (sgP (edS b j))=false:=by
 rw [Mort.apartB_iff];constructor
 ·
  intro h i hi j hj;rw [← ed_edS,← ed_edS];exact h _ (Mort.mem_edges.2 ⟨i,by simpa using hi,rfl⟩) _ (Mort.mem_edges.2 ⟨j,by simpa using hj,rfl⟩)
 ·
  intro h e he f hf;obtain⟨i,hi,rfl⟩:=Mort.mem_edges.1 he;obtain⟨j,hj,rfl⟩:=Mort.mem_edges.1 hf;rw [ed_edS,ed_edS];exact h i (by simpa using hi) j (by simpa using hj)
theorem meetsB_eq {a b:List S28}(ha:loopOk (a.map ptP)=true)(hb:loopOk (b.map ptP)=true):(!meetsB a b)=apartB (a.map ptP) (b.map ptP):=by
 obtain⟨_,_,aok⟩:=ok_facts ha;obtain⟨_,_,bok⟩:=ok_facts hb;rw [Bool.eq_iff_iff,apart_ix];unfold meetsB;rw [Bool.not_eq_true',List.any_eq_false];constructor
 ·
  intro h i hi j hj;have h1:=h ⟨i,hi⟩ (List.mem_finRange _);rw [Bool.not_eq_true,List.any_eq_false] at h1;have h2:=h1 ⟨j,hj⟩ (List.mem_finRange _)
  cases hm:meet (sgP (edS a i)) (sgP (edS b j)) with
  | false=>rfl
  | true=>exact absurd ((Mort.segMeet_iff _ _).2 ⟨aok i hi,bok j hj,hm⟩) h2
 ·
  intro h i _ h1;rw [List.any_eq_true] at h1;obtain⟨j,_,h2⟩:=h1;have:=h i i.2 j j.2;rw [((Mort.segMeet_iff _ _).1 h2).2.2] at this;cases this
theorem iBodyOk (o:List S28)(H:List (List S28)):bodyOkB o H=plateOk (pl o H):=by
 unfold bodyOkB plateOk pl Mort.nested;simp only [List.length_map]
 match H with
 | [] =>
  simp only [List.length_nil,List.all_nil,List.map_nil,apartAll,nestedAll,List.range'_zero,Bool.and_true,Bool.true_and]
 | [a] =>
  simp only [List.length_cons,List.length_nil,List.all_cons,List.all_nil,List.map_cons,List.map_nil,apartAll,nestedAll,List.range'_succ,List.range'_zero,rowN,okN,Bool.and_true,Bool.true_and,fst_pt,inS,List.getD_cons_zero,beq_self_eq_true,Bool.true_or];cases ho:loopOk (o.map ptP) <;> cases ha:loopOk (a.map ptP) <;> try rfl
  rw [meetsB_eq ho ha];simp [Nat.zero_le]
 | [a,b] =>
  simp only [List.length_cons,List.length_nil,List.all_cons,List.all_nil,List.map_cons,List.map_nil,apartAll,nestedAll,List.range'_succ,List.range'_zero,rowN,okN,Bool.and_true,Bool.true_and,fst_pt,inS,List.getD_cons_zero,List.getD_cons_succ,beq_self_eq_true,Bool.true_or];cases ho:loopOk (o.map ptP) <;> cases ha:loopOk (a.map ptP) <;> cases hb:loopOk (b.map ptP) <;> try rfl
  rw [meetsB_eq ho ha,meetsB_eq ho hb,meetsB_eq ha hb];generalize apartB (o.map ptP) (a.map ptP)=t1;generalize apartB (o.map ptP) (b.map ptP)=t2;generalize apartB (a.map ptP) (b.map ptP)=t3;generalize (inOf (o.map ptP) (fstP a)==1)=t4;generalize (inOf (o.map ptP) (fstP b)==1)=t5;generalize (inOf (b.map ptP) (fstP a) == -1)=t6;generalize (inOf (a.map ptP) (fstP b) == -1)=t7;cases t1 <;> cases t2 <;> cases t3 <;> cases t4 <;> cases t5 <;> cases t6 <;> cases t7 <;> rfl
 | a::b::c::r =>
  rw [decide_eq_false (by simp only [List.length_cons];omega)];rfl
theorem good_of {o:List S28}{H:List (List S28)}(h:plateOk (pl o H)=true):PlateGood (pl o H):=(Mort.plateOk_iff _).1 h
theorem runIn_eq {o:List S28}{H:List (List S28)}(h:plateOk (pl o H)=true)(p:Mort.Pt):runIn p (inS o p) H=plateInOf (pl o H) p:=by
 obtain⟨s1,s2,s3⟩:=Mort.plateInOf_spec (good_of h) p;have gen:∀ (R:List (List S28)) (x:Int),runIn p x R=if (∃ z∈R,inS z p=0) then 0 else if (∃ z∈R,inS z p=1) then -1 else x:=by
  intro R
  induction R with
  | nil=>intro x;simp [runIn]
  | cons z R ih =>
   intro x;rw [runIn_cons,ih];by_cases h0:inS z p=0
   ·
    rw [if_pos h0,if_pos ⟨z,List.mem_cons_self,h0⟩]
   ·
    rw [if_neg h0];have e0:(∃ y∈z::R,inS y p=0) ↔ ∃ y∈R,inS y p=0:=by simp [h0]
    by_cases hR0:∃ y∈R,inS y p=0
    ·
     rw [if_pos hR0,if_pos (e0.2 hR0)]
    ·
     rw [if_neg hR0,if_neg (fun q=>hR0 (e0.1 q))];by_cases h1:inS z p=1
     ·
      rw [if_pos h1,if_pos (show ∃ y∈z::R,inS y p=1 from ⟨z,List.mem_cons_self,h1⟩)]
      split <;> rfl
     ·
      have e1:(∃ y∈z::R,inS y p=1) ↔ ∃ y∈R,inS y p=1:=by simp [h1]
      rw [if_neg h1];by_cases hR1:∃ y∈R,inS y p=1
      ·
       rw [if_pos hR1,if_pos (e1.2 hR1)]
      ·
       rw [if_neg hR1,if_neg (fun q=>hR1 (e1.1 q))]
 have mem:∀ z∈H,z.map ptP∈(pl o H).2:=fun z hz=>List.mem_map_of_mem hz
 rw [gen];by_cases h0:∃ z∈H,inS z p=0
 ·
  rw [if_pos h0];obtain⟨z,hz,e⟩:=h0;exact (s2 ⟨_,mem z hz,e⟩).1.symm
 ·
  rw [if_neg h0];have all0:∀ y∈(pl o H).2,inOf y p≠0:=by
   intro y hy e;obtain⟨z,hz,rfl⟩:=List.mem_map.1 hy;exact h0 ⟨z,hz,e⟩
  have ho:(pl o H).1=o.map ptP:=rfl;by_cases h1:∃ z∈H,inS z p=1
  ·
   rw [if_pos h1];obtain⟨z,hz,e⟩:=h1;have e':inOf (z.map ptP) p=1:=e;by_cases hq:inOf (pl o H).1 p=0
   ·
    have:=(s1 hq).2 _ (mem z hz);omega
   ·
    rw [s3 hq all0,if_neg];intro hh;have:=hh.2 _ (mem z hz);omega
  ·
   rw [if_neg h1];have allm:∀ y∈(pl o H).2,inOf y p = -1:=by
    intro y hy;have h2:=all0 y hy;obtain⟨z,hz,rfl⟩:=List.mem_map.1 hy
    rcases Mort.inOf_vals (z.map ptP) p with e | e | e
    ·
     exact absurd e h2
    ·
     exact absurd ⟨z,hz,e⟩ h1
    ·
     exact e
   show inOf (pl o H).1 p=_
   by_cases hq:inOf (pl o H).1 p=0
   ·
    rw [(s1 hq).1,hq]
   ·
    rw [s3 hq all0]
    rcases Mort.inOf_vals (pl o H).1 p with e | e | e
    ·
     exact absurd e hq
    ·
     rw [if_pos ⟨e,allm⟩,e]
    ·
     rw [if_neg (by omega),e]
end Go.Proofs.YtkefmnmoaomlhaaDoor.X
end
section
set_option linter.unusedVariables false
set_option linter.unusedSimpArgs false
namespace Go.Proofs.YtkefmnmoaomlhaaDoor.X
open Go.RowKit Go.Proofs.YtkefmnmoaomlhaaDoorW.PrintWords Go.Proofs.YtkefmnmoaomlhaaDoorW.PrintLast Go.Proofs.YtkefmnmoaomlhaaDoorW.PrintMore
open Mort (edges loopOk ptOk segOk has meet ed pairOk joined apartB plateOk plateInOf PlateGood inOf segMeet)
theorem fst_ok {z:List S28}(h:loopOk (z.map ptP)=true):ptOk ((rd_T28 z 0).f0,(rd_T28 z 0).f1)=true:=by
 obtain⟨h3,_,hok⟩:=ok_facts h;exact (seg_ends (hok 0 (by omega))).1
theorem sL3In {z:List S28}{x y:Int}(h:loopOk (z.map ptP)=true)(hp:ptOk (x,y)=true):spec_l3In.f z x y=some (inOf (z.map ptP) (x,y)):=by
 unfold spec_l3In.f;rw [if_pos ⟨h,hp⟩]
theorem sL3Fst {z a:List S28}(h:loopOk (z.map ptP)=true)(ha:loopOk (a.map ptP)=true):spec_l3In.f z (rd_T28 a 0).f0 (rd_T28 a 0).f1=some (inOf (z.map ptP) (fstP a)):=sL3In h (fst_ok ha)
def holeOk (o a:List S28):Bool:=loopOk (a.map ptP) && (inOf (o.map ptP) (fstP a)==1 && apartB (o.map ptP) (a.map ptP))
def pairH (a b:List S28):Bool:=apartB (a.map ptP) (b.map ptP) && (inOf (b.map ptP) (fstP a) == -1 && inOf (a.map ptP) (fstP b) == -1)
theorem plate_hole {o:List S28}{H:List (List S28)}(ho:loopOk (o.map ptP)=true)(i:Nat)(hi:i<H.length){k:Nat}(hk:300≤k):
  spec_PlateOk.l0 (k+2) (i:Int) o H=if holeOk o (rd_L5 H (i:Int)) then spec_PlateOk.l1 k (i:Int) (rd_L5 H (i:Int)) 0 o H else some false:=by
 simp only [spec_PlateOk.l0];rw [if_pos (by omega),if_pos (by omega),sLoopOk (by omega),Option.bind_some];generalize rd_L5 H (i:Int)=a;unfold holeOk
 cases ha:loopOk (a.map ptP) with
 | false=>rw [if_neg (by decide)];simp only [spec_PlateOk.j2];simp
 | true =>
  obtain⟨h3,_,_⟩:=ok_facts ha;rw [if_pos rfl,if_pos (by omega),sL3Fst ho ha,Option.bind_some];by_cases h1:inOf (o.map ptP) (fstP a)=1
  ·
   rw [if_pos h1,sApart (by omega) ho ha,Option.bind_some];simp only [spec_PlateOk.j2];rw [h1];cases apartB (o.map ptP) (a.map ptP) <;> simp
  ·
   rw [if_neg h1,beq_eq_false_iff_ne.2 h1];simp only [spec_PlateOk.j2];simp
theorem sPlateOk {k:Nat}(hk:1000≤k)(o:List S28)(H:List (List S28)):spec_PlateOk.f k o H=some (plateOk (pl o H)):=by
 unfold spec_PlateOk.f;rw [sLoopOk (by omega),Option.bind_some];obtain⟨k,rfl⟩:∃ q,k=q+10:=⟨k-10,by omega⟩
 cases ho:loopOk (o.map ptP) with
 | false =>
  rw [if_neg (by decide)];simp only [spec_PlateOk.j0];unfold plateOk pl;simp only;rw [ho];simp
 | true =>
  rw [if_pos rfl];by_cases h2:H.length≤2
  ·
   rw [decide_eq_false (by omega)];simp only [spec_PlateOk.j0];rw [if_neg (by decide)];unfold plateOk pl Mort.nested;simp only [List.length_map];rw [ho,decide_eq_true h2]
   match H,h2 with
   | [],_=>simp only [spec_PlateOk.l0];simp
   | [a],_ =>
    refine Eq.trans (show spec_PlateOk.l0 (k+9) 0 o [a]=_ from plate_hole (k:=k+7) ho 0 (by simp) (by omega)) ?_;have e1:spec_PlateOk.l1 (k+7) ((0:Nat):Int) a 0 o [a]=some true:=by
     simp only [spec_PlateOk.l1];rw [if_neg (by omega),show wrap64 (((0:Nat):Int)+1)=1 by unfold wrap64;omega];simp only [spec_PlateOk.l0];rw [if_neg (by simp)]
    show (if holeOk o a then spec_PlateOk.l1 (k+7) ((0:Nat):Int) a 0 o [a] else _)=_
    rw [e1];unfold holeOk;simp only [List.map_cons,List.map_nil,List.all_cons,List.all_nil,Bool.and_true,Bool.true_and,fst_pt];generalize loopOk (a.map ptP)=t1;generalize (inOf (o.map ptP) (fstP a)==1)=t2;generalize apartB (o.map ptP) (a.map ptP)=t3;cases t1 <;> cases t2 <;> cases t3 <;> rfl
   | [a,b],_ =>
    refine Eq.trans (show spec_PlateOk.l0 (k+9) 0 o [a,b]=_ from plate_hole (k:=k+7) ho 0 (by simp) (by omega)) ?_;have e1:spec_PlateOk.l1 (k+7) ((0:Nat):Int) a 0 o [a,b]=if holeOk o b then spec_PlateOk.l1 (k+4) ((1:Nat):Int) b 0 o [a,b] else some false:=by
     simp only [spec_PlateOk.l1];rw [if_neg (by omega),show wrap64 (((0:Nat):Int)+1)=((1:Nat):Int) by unfold wrap64;omega,plate_hole (k:=k+4) ho 1 (by simp) (by omega)];rfl
    show (if holeOk o a then spec_PlateOk.l1 (k+7) ((0:Nat):Int) a 0 o [a,b] else _)=_
    rw [e1];have hp:holeOk o a=true→holeOk o b=true→spec_PlateOk.l1 (k+4) ((1:Nat):Int) b 0 o [a,b]=some (pairH b a):=by
     intro h1 h2;have ha:loopOk (a.map ptP)=true:=by unfold holeOk at h1;cases h:loopOk (a.map ptP) with | true=>rfl | false=>rw [h] at h1;cases h1
     have hb:loopOk (b.map ptP)=true:=by unfold holeOk at h2;cases h:loopOk (b.map ptP) with | true=>rfl | false=>rw [h] at h2;cases h2
     obtain⟨a3,_,_⟩:=ok_facts ha;obtain⟨b3,_,_⟩:=ok_facts hb;simp only [spec_PlateOk.l1];rw [if_pos (by omega),if_pos (by omega),if_pos (by simp)];rw [show rd_L5 [a,b] 0=a from rfl,sApart (by omega) hb ha,Option.bind_some];unfold pairH
     cases apartB (b.map ptP) (a.map ptP) with
     | false=>rw [if_neg (by decide)];rfl
     | true =>
      rw [if_pos rfl,if_pos (by omega),sL3Fst ha hb,Option.bind_some];by_cases e1:inOf (a.map ptP) (fstP b) = -1
      ·
       rw [if_pos e1,if_pos (by omega),sL3Fst hb ha,Option.bind_some,e1];by_cases e2:inOf (b.map ptP) (fstP a) = -1
       ·
        rw [if_pos e2,e2];have hw0:wrap64 (0+1)=1:=by unfold wrap64;omega
        rw [hw0,if_neg (by omega)];have hw2:wrap64 (((1:Nat):Int)+1)=2:=by unfold wrap64;omega
        rw [hw2];simp only [spec_PlateOk.l0];rw [if_neg (by simp)];rfl
       ·
        rw [if_neg e2,beq_eq_false_iff_ne.2 e2];rfl
      ·
       rw [if_neg e1,beq_eq_false_iff_ne.2 e1];rfl
    have hc:=Mort.apartB_comm (a.map ptP) (b.map ptP);simp only [List.map_cons,List.map_nil,List.all_cons,List.all_nil,Bool.and_true,Bool.true_and,fst_pt]
    cases h1:holeOk o a with
    | false =>
     rw [if_neg (by decide)];unfold holeOk at h1;revert h1;generalize loopOk (a.map ptP)=t1;generalize (inOf (o.map ptP) (fstP a)==1)=t2;generalize apartB (o.map ptP) (a.map ptP)=t3;intro h1;cases t1 <;> cases t2 <;> cases t3 <;> simp at h1 ⊢
    | true =>
     rw [if_pos rfl]
     cases h2:holeOk o b with
     | false =>
      rw [if_neg (by decide)];unfold holeOk at h2;revert h2;generalize loopOk (b.map ptP)=t1;generalize (inOf (o.map ptP) (fstP b)==1)=t2;generalize apartB (o.map ptP) (b.map ptP)=t3;intro h2;cases t1 <;> cases t2 <;> cases t3 <;> simp at h2 ⊢
     | true =>
      rw [if_pos rfl,hp h1 h2];unfold holeOk at h1 h2;unfold pairH;rw [hc];simp only [Bool.and_eq_true] at h1 h2;rw [h1.1,h1.2.1,h1.2.2,h2.1,h2.2.1,h2.2.2];generalize apartB (b.map ptP) (a.map ptP)=t1;generalize (inOf (b.map ptP) (fstP a) == -1)=t2;generalize (inOf (a.map ptP) (fstP b) == -1)=t3;cases t1 <;> cases t2 <;> cases t3 <;> rfl
  ·
   rw [decide_eq_true (by omega)];simp only [spec_PlateOk.j0];unfold plateOk pl;simp only [List.length_map];rw [decide_eq_false h2];simp
theorem l11In_l0 {o:List S28}{H:List (List S28)}(hH:∀ z∈H,loopOk (z.map ptP)=true){x y:Int}(hp:ptOk (x,y)=true):
  ∀ (m i k:Nat) (u:Int),H.length-i=m→i≤H.length→m<k→H.length≤2→(-1≤u∧u≤1)→spec_l11In.l0 k u (i:Int) o H x y=some ((H.drop i).foldl (fun u z=>mn u (-inS z (x,y))) u):=by
 intro m
 induction m with
 | zero =>
  intro i k u hm hi hk h2 hu;obtain⟨k,rfl⟩:∃ q,k=q+1:=⟨k-1,by omega⟩;simp only [spec_l11In.l0];rw [if_neg (by omega),List.drop_of_length_le (by omega)];rfl
 | succ m ih =>
  intro i k u hm hi hk h2 hu;obtain⟨k,rfl⟩:∃ q,k=q+1:=⟨k-1,by omega⟩;simp only [spec_l11In.l0];have hlt:i<H.length:=by omega
  have hg:rd_L5 H (i:Int)=H[i]:=by show H.getD i []=_;rw [List.getD_eq_getElem?_getD,List.getElem?_eq_getElem hlt];rfl
  rw [if_pos (by omega),if_pos (by omega),hg,sL3In (hH _ (List.getElem_mem hlt)) hp,Option.bind_some,List.drop_eq_getElem_cons hlt,List.foldl_cons];have hv:=Mort.inOf_vals (H[i].map ptP) (x,y);have hw:wrap64 (-inOf (H[i].map ptP) (x,y)) = -inOf (H[i].map ptP) (x,y):=w64i (by omega) (by omega);rw [hw,succ64 (by omega),ih (i+1) k _ (by omega) (by omega) (by omega) h2 (by unfold mn;split <;> omega)];rfl
theorem sL11In {k:Nat}(hk:10≤k){o:List S28}{H:List (List S28)}(h:plateOk (pl o H)=true){x y:Int}(hp:ptOk (x,y)=true):spec_l11In.f k o H x y=some (plateInOf (pl o H) (x,y)):=by
 have g:=good_of h;have ho:loopOk (o.map ptP)=true:=g.outer;have hH:∀ z∈H,loopOk (z.map ptP)=true:=fun z hz=>g.holes _ (List.mem_map_of_mem hz)
 have h2:H.length≤2:=by have:=g.few;unfold pl at this;simpa using this
 unfold spec_l11In.f;rw [sL3In ho hp,Option.bind_some,show (0:Int)=((0:Nat):Int) from rfl,l11In_l0 hH hp H.length 0 k _ (by omega) (by omega) (by omega) h2 (by have:=Mort.inOf_vals (o.map ptP) (x,y);omega),List.drop_zero];obtain⟨s1,s2,s3⟩:=Mort.plateInOf_spec g (x,y);have gen:∀ (R:List (List S28)) (u:Int),(-1≤u∧u≤1)→R.foldl (fun u z=>mn u (-inS z (x,y))) u=if (∃ z∈R,inS z (x,y)=1) then -1 else if (∃ z∈R,inS z (x,y)=0) then (if u<0 then u else 0) else u:=by
  intro R
  induction R with
  | nil=>intro u _;simp
  | cons z R ih =>
   intro u hu;rw [List.foldl_cons];have hz:=Mort.inOf_vals (z.map ptP) (x,y);have hz':inS z (x,y)=0∨inS z (x,y)=1∨inS z (x,y) = -1:=hz;rw [ih _ (by unfold mn;split <;> omega)];have e1:(∃ w∈z::R,inS w (x,y)=1) ↔ inS z (x,y)=1∨∃ w∈R,inS w (x,y)=1:=by simp
   have e0:(∃ w∈z::R,inS w (x,y)=0) ↔ inS z (x,y)=0∨∃ w∈R,inS w (x,y)=0:=by simp
   have m1:inS z (x,y)=1→mn u (-inS z (x,y)) = -1:=fun e=>by rw [e];unfold mn;split <;> omega
   have m0:inS z (x,y)=0→mn u (-inS z (x,y))=if u<0 then u else 0:=fun e=>by rw [e];unfold mn;(repeat' split) <;> omega
   have mm:inS z (x,y) = -1→mn u (-inS z (x,y))=u:=fun e=>by rw [e];unfold mn;split <;> omega
   have mt:(if (if u<0 then u else 0)<0 then (if u<0 then u else 0) else 0)=if u<0 then u else 0:=by (repeat' split) <;> omega
   by_cases r1:∃ w∈R,inS w (x,y)=1
   ·
    rw [if_pos r1,if_pos (e1.2 (.inr r1))]
   ·
    rw [if_neg r1];by_cases r0:∃ w∈R,inS w (x,y)=0
    ·
     rw [if_pos r0]
     rcases hz' with z0 | z1 | zm
     ·
      rw [if_neg (fun q=>(e1.1 q).elim (by rw [z0];decide) r1),if_pos (e0.2 (.inr r0)),m0 z0,mt]
     ·
      rw [if_pos (e1.2 (.inl z1)),m1 z1];rfl
     ·
      rw [if_neg (fun q=>(e1.1 q).elim (by rw [zm];decide) r1),if_pos (e0.2 (.inr r0)),mm zm]
    ·
     rw [if_neg r0]
     rcases hz' with z0 | z1 | zm
     ·
      rw [if_neg (fun q=>(e1.1 q).elim (by rw [z0];decide) r1),if_pos (e0.2 (.inl z0)),m0 z0]
     ·
      rw [if_pos (e1.2 (.inl z1)),m1 z1]
     ·
      rw [if_neg (fun q=>(e1.1 q).elim (by rw [zm];decide) r1),if_neg (fun q=>(e0.1 q).elim (by rw [zm];decide) r0),mm zm]
 have hvo:=Mort.inOf_vals (o.map ptP) (x,y);have hoq:(pl o H).1=o.map ptP:=rfl;have mem:∀ z∈H,z.map ptP∈(pl o H).2:=fun z hz=>List.mem_map_of_mem hz
 rw [gen H _ (by omega)]
 congr 1
 by_cases q0:inOf (o.map ptP) (x,y)=0
 ·
  obtain⟨p1,p2⟩:=s1 q0;rw [if_neg (fun⟨z,hz,e⟩=>by have:=p2 _ (mem z hz);have e':inOf (z.map ptP) (x,y)=1:=e;omega),if_neg (fun⟨z,hz,e⟩=>by have:=p2 _ (mem z hz);have e':inOf (z.map ptP) (x,y)=0:=e;omega),p1,q0]
 ·
  by_cases r0:∃ z∈H,inS z (x,y)=0
  ·
   obtain⟨z,hz,e⟩:=r0;obtain⟨p1,p2⟩:=s2 ⟨_,mem z hz,e⟩;have hno:¬ ∃ w∈H,inS w (x,y)=1:=by
    rintro⟨w,hw,e1⟩;have hon:=(Mort.inOf_zero _ _).1 (show inOf (z.map ptP) (x,y)=0 from e);have e1':inOf (w.map ptP) (x,y)=1:=e1
    match H,h2,hz,hw,g with
    | [a],_,hz,hw,_=>simp only [List.mem_singleton] at hz hw;subst hz;subst hw;have e':inOf (w.map ptP) (x,y)=0:=e;omega
    | [a,b],_,hz,hw,g =>
     obtain⟨o1,o2⟩:=Mort.PlateGood.on_other g (a:=a.map ptP) (b:=b.map ptP) rfl (p:=(x,y));have e':inOf (z.map ptP) (x,y)=0:=e;simp only [List.mem_cons,List.not_mem_nil,or_false] at hz hw
     rcases hz with rfl | rfl <;> rcases hw with rfl | rfl
     ·
      omega
     ·
      have:=o1 hon;omega
     ·
      have:=o2 hon;omega
     ·
      omega
   have p2':inOf (o.map ptP) (x,y)=1:=p2;rw [if_neg hno,if_pos ⟨z,hz,e⟩,p1,p2',if_neg (by omega)]
  ·
   have all0:∀ y'∈(pl o H).2,inOf y' (x,y)≠0:=by
    intro y' hy e;obtain⟨z,hz,rfl⟩:=List.mem_map.1 hy;exact r0 ⟨z,hz,e⟩
   rw [s3 q0 all0];by_cases r1:∃ z∈H,inS z (x,y)=1
   ·
    rw [if_pos r1,if_neg];rintro⟨_,hh⟩;obtain⟨z,hz,e⟩:=r1;have:=hh _ (mem z hz);have e':inOf (z.map ptP) (x,y)=1:=e;omega
   ·
    rw [if_neg r1,if_neg r0];have allm:∀ y'∈(pl o H).2,inOf y' (x,y) = -1:=by
     intro y' hy;have h2:=all0 y' hy;obtain⟨z,hz,rfl⟩:=List.mem_map.1 hy
     rcases Mort.inOf_vals (z.map ptP) (x,y) with e | e | e
     ·
      exact absurd e h2
     ·
      exact absurd ⟨z,hz,e⟩ r1
     ·
      exact e
    rw [hoq]
    rcases hvo with e | e | e
    ·
     exact absurd e q0
    ·
     rw [if_pos ⟨e,allm⟩,e]
    ·
     rw [if_neg (by omega),e]
end Go.Proofs.YtkefmnmoaomlhaaDoor.X
end
section
set_option linter.unusedVariables false
set_option linter.unusedSimpArgs false
namespace Go.Proofs.YtkefmnmoaomlhaaDoor.X
open Go.RowKit Go.Shelf Go.Proofs.YtkefmnmoaomlhaaDoorW.PrintWords Go.Proofs.YtkefmnmoaomlhaaDoorW.PrintLast Go.Proofs.YtkefmnmoaomlhaaDoorW.PrintMore
open Mort (edges segMeet loopOk ptOk inOf segFar segOk least fracOk fracCmp)
theorem farE_told (b c:Nat)(A:Option Addr)(E:List S61)(x y:Int)(r:Mort.Frac)(w:World)(hcell:w.cell? ⟨b,2,none⟩=some (.slice A E.length c))(hcap:E.length≤c)
  (hC:Kd.C k61 w A E.length E) (hok:∀ s∈E,segOk (sgP s)=true) (hp:ptOk (x,y)=true) (hE:ErrW w) (hne:0<E.length) (hreach:E.length≤1000000) (h:farE E (x,y)=r) :
  Calls Tryd.prog 62 #[.pointer (some ⟨b,0,none⟩),.agg #[.int .i64 x,.int .i64 y]] w fun e w'=>e=.returned (.agg #[.int .i64 r.1,.int .i64 r.2])∧Below w.heap.size w w':=by
 cases E with
 | nil=>simp at hne
 | cons e0 es=>exact far_calls b c A e0 es x y r w hcell hcap hC hok hp hE (by simp only [List.length_cons] at hreach;omega) h
section
variable (A0_0:Option Addr) (c0_0:Nat) (l0_0:List S28) (A0_1:Option Addr) (c0_1:Nat) (l0_1:List (List S28))
end
end Go.Proofs.YtkefmnmoaomlhaaDoor.X
end
section
namespace Go.Proofs.YtkefmnmoaomlhaaDoor.X
open Go.RowKit Go.Proofs.YtkefmnmoaomlhaaDoorW.PrintWords Go.Proofs.YtkefmnmoaomlhaaDoorW.PrintLast Go.Proofs.YtkefmnmoaomlhaaDoorW.PrintMore
attribute [local go_sem] max2_int min2_int max_two min_two max_three min_three max_four min_four
set_option linter.unusedVariables false
set_option linter.unusedSimpArgs false
def impl_toolOk.f (a0:Int):Option (Bool):=if a0≥1 then (some (decide (a0≤9))) else (some false)
set_option maxHeartbeats 8000000 in
set_option maxRecDepth 100000 in
theorem impl_toolOk.calls (a0:Int)(r:Bool)(w:World)(h:impl_toolOk.f a0=some r):
  Calls Tryd.prog 69 #[.int .i64 a0] w fun e w'=>e=.returned (.bool r)∧Drawn0 w w':=by
 have H:(if a0≥1 then (some (decide (a0≤9))) else (some false))=some r:=h;clear h;by_cases c2:a0≥1
 ·
  rw [if_pos c2] at H;have c2b0:decide (1≤a0)=true:=decide_eq_true c2;clear c2;obtain rfl:=Option.some.inj H;go_enter Tryd.func69,Tryd.ntmps69;go_wp2;go_ret;exact⟨by first | rfl | (simp;done) | (simp [*];done),by repeat (first | exact Drawn0.refl _ | apply Drawn0.step)⟩
 ·
  rw [if_neg c2] at H;have c2b0:decide (1≤a0)=false:=decide_eq_false c2;clear c2;obtain rfl:=Option.some.inj H;go_enter Tryd.func69,Tryd.ntmps69;go_wp2;go_ret;exact⟨by first | rfl | (simp;done) | (simp [*];done),by repeat (first | exact Drawn0.refl _ | apply Drawn0.step)⟩
end Go.Proofs.YtkefmnmoaomlhaaDoor.X
end
section
set_option linter.unusedVariables false
set_option linter.unusedSimpArgs false
namespace Go.Proofs.YtkefmnmoaomlhaaDoor.X
open Go.RowKit Go.Shelf Go.Proofs.YtkefmnmoaomlhaaDoorW.PrintWords Go.Proofs.YtkefmnmoaomlhaaDoorW.PrintLast Go.Proofs.YtkefmnmoaomlhaaDoorW.PrintMore
open Mort (edges segMeet loopOk ptOk inOf segFar segOk least fracOk fracCmp)
def fitsB (o:List S28)(H:List (List S28))(q:Int)(p:Mort.Pt):Bool:=runIn p (inS o p) H==1 && decide (0≤fracCmp (farE (allEdges (o::H)) p) (q,1))
def toolB (q:Int):Bool:=decide (1≤q) && decide (q≤9)
theorem iToolOk (q:Int):impl_toolOk.f q=some (toolB q):=by
 unfold impl_toolOk.f toolB;by_cases h:1≤q
 ·
  rw [if_pos h,decide_eq_true h];rfl
 ·
  rw [if_neg h,decide_eq_false h];rfl
theorem drawn_below {w w':World}(h:Drawn0 w w'):Below w.heap.size w w':=by
 obtain⟨n,rfl⟩:=h;exact pw_below_drewN (Below.refl _ _) n
def impl_ToolFits.f (l0_0:List S28)(l0_1:List (List S28))(a1 a2_0 a2_1:Int):Option Bool:=
 some (bodyOkB l0_0 l0_1 && (toolB a1 && (ptOk (a2_0,a2_1) && fitsB l0_0 l0_1 a1 (a2_0,a2_1))))
set_option maxHeartbeats 4000000 in
set_option maxRecDepth 100000 in
theorem fits_calls (b c:Nat)(A:Option Addr)(o:List S28)(H:List (List S28))(q x y:Int)(r:Bool)(w:World)(hB:RingsAt w (some ⟨b,0,none⟩) (o::H))(hk:bodyOkB o H=true)(hp:ptOk (x,y)=true)
  (hcell:w.cell? ⟨b,2,none⟩=some (.slice A (allEdges (o::H)).length c)) (hcap:(allEdges (o::H)).length≤c) (hC:Kd.C k61 w A (allEdges (o::H)).length (allEdges (o::H))) (hE:ErrW w) (h:fitsB o H q (x,y)=r) :
  Calls Tryd.prog 70 #[.pointer (some ⟨b,0,none⟩),.int .i64 q,.agg #[.int .i64 x,.int .i64 y]] w fun e w'=>e=.returned (.bool r)∧Below w.heap.size w w':=by
 have hu28:=Tryd.underlying28;have hu35:=Tryd.underlying35;have hal:=below_alloc (Below.refl w.heap.size w) (.cells #[.int .i64 x,.int .i64 y] 28);have np:=blk_new w (.cells #[.int .i64 x,.int .i64 y] 28 (0,0));have hIn:∀ v:Int,runIn (x,y) (inS o (x,y)) H=v→Calls Tryd.prog 53 #[.pointer (some ⟨b,0,none⟩),.agg #[.int .i64 x,.int .i64 y]] (w.alloc (.cells #[.int .i64 x,.int .i64 y] 28)) fun e w'=>e=.returned (.int .i64 v)∧Below (w.alloc (.cells #[.int .i64 x,.int .i64 y] 28)).heap.size (w.alloc (.cells #[.int .i64 x,.int .i64 y] 28)) w':=
  fun v hv=>in_calls b o H x y v _ (hB.later hal) ((bodyOkB_iff _ _).1 hk).2.1 ((bodyOkB_iff _ _).1 hk).2.2.1 hp hv
 unfold fitsB at h;generalize hv:runIn (x,y) (inS o (x,y)) H=v at h;have HI:=a0_ (hIn v hv);obtain⟨e0,es,hEe,hle⟩:=allEdges_cons hk;have HK:=a0_ (And.intro (pw_cell_below hal hcell) (And.intro hcap (And.intro (Kd.C_below hC hal) (And.intro (allEdges_ok hk) (And.intro hp (And.intro (hE.below hal) (And.intro (show 0<(allEdges (o::H)).length by rw [hEe];simp) (And.intro (show (allEdges (o::H)).length≤1000000 by rw [hEe];simp only [List.length_cons];omega) hal))))))));have HP:=Aside0.mk np;clear hB hk hp hcell hcap hC hE np hIn hv hEe hle e0 es;by_cases h1:v=1
 ·
  subst h1;rw [show ((1:Int)==1)=true from rfl,Bool.true_and] at h;generalize hf:farE (allEdges (o::H)) (x,y)=f at h;have HF:=Aside0.mk hf;clear hf;generalize hcv:fracCmp f (q,1)=cv at h;have hcf:impl_FracCmp.f f.1 f.2 q 1=some cv:=by rw [← hcv];rfl
  have HC:=Aside0.mk hcf;clear hcv hcf;clear hal;go_enter Tryd.func70,Tryd.ntmps70;go_wp2_with (first | (go_at_call 53;refine HI.out.mono ?_;rintro e w1 ⟨rfl,hb1⟩;have p1:=blk_later HP.out hb1;have m0:w1.cell? ⟨w.heap.size,0,none⟩=some (.int .i64 x):=(blk_cell p1 0).trans rfl;have m1:w1.cell? ⟨w.heap.size,1,none⟩=some (.int .i64 y):=(blk_cell p1 1).trans rfl;clear p1) | (go_at_call 62;refine (farE_told b c A (allEdges (o::H)) x y f _ (pw_cell_below hb1 HK.out.1) HK.out.2.1 (Kd.C_below HK.out.2.2.1 hb1) HK.out.2.2.2.1 HK.out.2.2.2.2.1 (HK.out.2.2.2.2.2.1.below hb1) HK.out.2.2.2.2.2.2.1 HK.out.2.2.2.2.2.2.2.1 HF.out).mono ?_;rintro e w2 ⟨rfl,hb2⟩) | (go_at_call 21;refine (impl_FracCmp.calls f.1 f.2 q 1 cv _ ((HK.out.2.2.2.2.2.1.below hb1).below hb2) HC.out).mono ?_;rintro e w3 ⟨rfl,hb3⟩));go_ret;exact⟨by simp [h],below_step (below_step (below_step HK.out.2.2.2.2.2.2.2.2 hb1) hb2) hb3⟩
 ·
  have e1:(v==1)=false:=beq_eq_false_iff_ne.2 h1;rw [e1,Bool.false_and] at h;subst h;have HV:=Aside0.mk h1;clear h1 hal;go_enter Tryd.func70,Tryd.ntmps70;go_wp2_with (first | (go_at_call 53;refine HI.out.mono ?_;rintro e w1 ⟨rfl,hb1⟩));go_ret;exact⟨rfl,below_step HK.out.2.2.2.2.2.2.2.2 hb1⟩
section
variable (A0_0:Option Addr) (c0_0:Nat) (l0_0:List S28) (A0_1:Option Addr) (c0_1:Nat) (l0_1:List (List S28))
set_option maxHeartbeats 4000000 in
set_option maxRecDepth 100000 in
theorem impl_ToolFits.calls (a1 a2_0 a2_1:Int)(r:Bool)(w:World)(hr0_0:Kd.C k28 w A0_0 l0_0.length l0_0)(hc0_0:l0_0.length≤c0_0)(hr0_1:Kd.C (Kd.slice 28 k28) w A0_1 l0_1.length l0_1)(hc0_1:l0_1.length≤c0_1)(hE:ErrW w)(h:impl_ToolFits.f l0_0 l0_1 a1 a2_0 a2_1=some r):
  Calls Tryd.prog 28 #[.agg #[.slice A0_0 l0_0.length c0_0,.slice A0_1 l0_1.length c0_1],.int .i64 a1,.agg #[.int .i64 a2_0,.int .i64 a2_1]] w fun e w'=>e=.returned (.bool r)∧Below w.heap.size w w':=by
 have hu26:=Tryd.underlying26;have hu28:=Tryd.underlying28;have hb:(bodyOkB l0_0 l0_1 && (toolB a1 && (ptOk (a2_0,a2_1) && fitsB l0_0 l0_1 a1 (a2_0,a2_1))))=r:=Option.some.inj h;clear h;have hal:=below_alloc (below_alloc (Below.refl w.heap.size w) (.cells #[.slice A0_0 l0_0.length c0_0,.slice A0_1 l0_1.length c0_1] 26)) (.cells #[.int .i64 a2_0,.int .i64 a2_1] 28);have HK:=a0_ (And.intro (Kd.C_below hr0_0 hal) (And.intro hc0_0 (And.intro (Kd.C_below hr0_1 hal) (And.intro hc0_1 (And.intro hal (hE.below hal))))));clear hr0_0 hc0_0 hr0_1 hc0_1 hal hE;have np:=blk_new (w.alloc (.cells #[.slice A0_0 l0_0.length c0_0,.slice A0_1 l0_1.length c0_1] 26)) (.cells #[.int .i64 a2_0,.int .i64 a2_1] 28 (0,0));rw [World.size_alloc] at np;have NP:=Aside0.mk np;clear np
 cases hk:bodyOkB l0_0 l0_1 with
 | false =>
  rw [hk,Bool.false_and] at hb;subst hb;have HB:=Aside0.mk hk;clear hk;go_enter Tryd.func28,Tryd.ntmps28;go_wp2_with (go_at_call 52;refine (bodyOf_calls A0_0 c0_0 l0_0 A0_1 c0_1 l0_1 false _ HK.out.1 HK.out.2.1 HK.out.2.2.1 HK.out.2.2.2.1 HB.out).mono ?_;rintro e w1 ⟨_,hN⟩;obtain⟨rfl,hb1⟩:=hN rfl);go_ret;exact⟨rfl,below_step HK.out.2.2.2.2.1 hb1⟩
 | true =>
  rw [hk,Bool.true_and] at hb
  cases ht:toolB a1 with
  | false =>
   rw [ht,Bool.false_and] at hb;subst hb;have HB:=a0_ (And.intro hk (And.intro ((iToolOk a1).trans (congrArg some ht)) trivial));clear hk ht;go_enter Tryd.func28,Tryd.ntmps28;go_wp2_with (first | (go_at_call 52;refine (bodyOf_calls A0_0 c0_0 l0_0 A0_1 c0_1 l0_1 true _ HK.out.1 HK.out.2.1 HK.out.2.2.1 HK.out.2.2.2.1 HB.out.1).mono ?_;rintro e w1 ⟨hN,_⟩;obtain⟨b,bs,v,rfl,hBA,hcell,hR,hb1⟩:=hN rfl;have p1:=blk_later NP.out hb1;have m10:w1.cell? ⟨w.heap.size+1,0,none⟩=some (.int .i64 a2_0):=(blk_cell p1 0).trans rfl;have m11:w1.cell? ⟨w.heap.size+1,1,none⟩=some (.int .i64 a2_1):=(blk_cell p1 1).trans rfl;have M1:=Aside0.mk p1;clear p1;have HBY:=a0_ (And.intro hcell (And.intro hR hBA));clear hBA hR hcell) | (go_at_call 69;refine (impl_toolOk.calls a1 false _ HB.out.2.1).mono ?_;rintro e w2 ⟨rfl,hd2⟩;have hb2:=drawn_below hd2;clear hd2;have p2:=blk_later M1.out hb2;have m20:w2.cell? ⟨w.heap.size+1,0,none⟩=some (.int .i64 a2_0):=(blk_cell p2 0).trans rfl;have m21:w2.cell? ⟨w.heap.size+1,1,none⟩=some (.int .i64 a2_1):=(blk_cell p2 1).trans rfl;have M2:=Aside0.mk p2;clear p2));go_ret;exact⟨rfl,below_step (below_step HK.out.2.2.2.2.1 hb1) hb2⟩
  | true =>
   rw [ht,Bool.true_and] at hb
   cases hp:ptOk (a2_0,a2_1) with
   | false =>
    rw [hp,Bool.false_and] at hb;subst hb;have HB:=a0_ (And.intro hk (And.intro ((iToolOk a1).trans (congrArg some ht)) (And.intro ((iPtOk a2_0 a2_1).trans (congrArg some hp)) trivial)));clear hk ht hp;go_enter Tryd.func28,Tryd.ntmps28;go_wp2_with (first | (go_at_call 52;refine (bodyOf_calls A0_0 c0_0 l0_0 A0_1 c0_1 l0_1 true _ HK.out.1 HK.out.2.1 HK.out.2.2.1 HK.out.2.2.2.1 HB.out.1).mono ?_;rintro e w1 ⟨hN,_⟩;obtain⟨b,bs,v,rfl,hBA,hcell,hR,hb1⟩:=hN rfl;have p1:=blk_later NP.out hb1;have m10:w1.cell? ⟨w.heap.size+1,0,none⟩=some (.int .i64 a2_0):=(blk_cell p1 0).trans rfl;have m11:w1.cell? ⟨w.heap.size+1,1,none⟩=some (.int .i64 a2_1):=(blk_cell p1 1).trans rfl;have M1:=Aside0.mk p1;clear p1;have HBY:=a0_ (And.intro hcell (And.intro hR hBA));clear hBA hR hcell) | (go_at_call 69;refine (impl_toolOk.calls a1 true _ HB.out.2.1).mono ?_;rintro e w2 ⟨rfl,hd2⟩;have hb2:=drawn_below hd2;clear hd2;have p2:=blk_later M1.out hb2;have m20:w2.cell? ⟨w.heap.size+1,0,none⟩=some (.int .i64 a2_0):=(blk_cell p2 0).trans rfl;have m21:w2.cell? ⟨w.heap.size+1,1,none⟩=some (.int .i64 a2_1):=(blk_cell p2 1).trans rfl;have M2:=Aside0.mk p2;clear p2) | (go_at_call 23;refine (impl_PtOk.calls a2_0 a2_1 false _ HB.out.2.2.1).mono ?_;rintro e w3 ⟨rfl,hb3⟩;have p3:=blk_later M2.out hb3;have m30:w3.cell? ⟨w.heap.size+1,0,none⟩=some (.int .i64 a2_0):=(blk_cell p3 0).trans rfl;have m31:w3.cell? ⟨w.heap.size+1,1,none⟩=some (.int .i64 a2_1):=(blk_cell p3 1).trans rfl;have M3:=Aside0.mk p3;clear p3));go_ret;exact⟨rfl,below_step (below_step (below_step HK.out.2.2.2.2.1 hb1) hb2) hb3⟩
   | true =>
    rw [hp,Bool.true_and] at hb;have HB:=a0_ (And.intro hk (And.intro ((iToolOk a1).trans (congrArg some ht)) (And.intro ((iPtOk a2_0 a2_1).trans (congrArg some hp)) (And.intro hp hb))));clear hk ht hp hb;go_enter Tryd.func28,Tryd.ntmps28
    go_wp2_with (first | (go_at_call 52;refine (bodyOf_calls A0_0 c0_0 l0_0 A0_1 c0_1 l0_1 true _ HK.out.1 HK.out.2.1 HK.out.2.2.1 HK.out.2.2.2.1 HB.out.1).mono ?_;rintro e w1 ⟨hN,_⟩;obtain⟨b,bs,v,rfl,hBA,hcell,hR,hb1⟩:=hN rfl;have p1:=blk_later NP.out hb1;have m10:w1.cell? ⟨w.heap.size+1,0,none⟩=some (.int .i64 a2_0):=(blk_cell p1 0).trans rfl;have m11:w1.cell? ⟨w.heap.size+1,1,none⟩=some (.int .i64 a2_1):=(blk_cell p1 1).trans rfl;have M1:=Aside0.mk p1;clear p1;have HBY:=a0_ (And.intro hcell (And.intro hR hBA));clear hBA hR hcell) | (go_at_call 69;refine (impl_toolOk.calls a1 true _ HB.out.2.1).mono ?_;rintro e w2 ⟨rfl,hd2⟩;have hb2:=drawn_below hd2;clear hd2;have p2:=blk_later M1.out hb2;have m20:w2.cell? ⟨w.heap.size+1,0,none⟩=some (.int .i64 a2_0):=(blk_cell p2 0).trans rfl;have m21:w2.cell? ⟨w.heap.size+1,1,none⟩=some (.int .i64 a2_1):=(blk_cell p2 1).trans rfl;have M2:=Aside0.mk p2;clear p2) | (go_at_call 23;refine (impl_PtOk.calls a2_0 a2_1 true _ HB.out.2.2.1).mono ?_;rintro e w3 ⟨rfl,hb3⟩;have p3:=blk_later M2.out hb3;have m30:w3.cell? ⟨w.heap.size+1,0,none⟩=some (.int .i64 a2_0):=(blk_cell p3 0).trans rfl;have m31:w3.cell? ⟨w.heap.size+1,1,none⟩=some (.int .i64 a2_1):=(blk_cell p3 1).trans rfl;have M3:=Aside0.mk p3;clear p3) | (go_at_call 70;obtain⟨Ae,ce,hv,hce,hCe⟩:=Kd.R_reads HBY.out.2.1;refine (fits_calls b ce Ae l0_0 l0_1 a1 a2_0 a2_1 r _ ((HBY.out.2.2.later hb2).later hb3).rings HB.out.1 HB.out.2.2.2.1 (pw_cell_below hb3 (pw_cell_below hb2 (hv▸HBY.out.1))) hce (Kd.C_below (Kd.C_below hCe hb2) hb3) (((HK.out.2.2.2.2.2.below hb1).below hb2).below hb3) HB.out.2.2.2.2).mono ?_;clear hv hce hCe;rintro e w4 ⟨rfl,hb4⟩));go_ret;exact⟨rfl,below_step (below_step (below_step (below_step HK.out.2.2.2.2.1 hb1) hb2) hb3) hb4⟩
end
end Go.Proofs.YtkefmnmoaomlhaaDoor.X
end
section
namespace Go.Proofs.YtkefmnmoaomlhaaDoor.X
open Go.RowKit Go.Proofs.YtkefmnmoaomlhaaDoorW.PrintWords Go.Proofs.YtkefmnmoaomlhaaDoorW.PrintLast Go.Proofs.YtkefmnmoaomlhaaDoorW.PrintMore
attribute [local go_sem] max2_int min2_int max_two min_two max_three min_three max_four min_four
set_option linter.unusedVariables false
set_option linter.unusedSimpArgs false
def spec_l11Edges.l0:Nat→List (S61)→Int→List (S28)→List (List (S28))→Option ((List (S61)))
 | 0,_,_,_,_=>none
 | k+1,x3,x4,x457000,x457001=>if x4<(x457001.length:Int) then (if 0≤x4 then ((spec_l3Edges.f k (rd_L5 x457001 x4)).bind fun t461=>(if x3.length+t461.length<4398046511104 then (spec_l11Edges.l0 k (x3++t461) (wrap64 (x4+1)) x457000 x457001) else (none))) else (none)) else (some x3)
def spec_l11Edges.f (k:Nat)(l0_0:List (S28))(l0_1:List (List (S28))):Option ((List (S61))):=(spec_l3Edges.f k l0_0).bind fun t457=>(spec_l11Edges.l0 k t457 0 l0_0 l0_1)
set_option maxHeartbeats 8000000 in
set_option maxRecDepth 100000 in
theorem spec_l11Edges.calls (k:Nat)(A0_0:Option Addr)(c0_0:Nat)(l0_0:List (S28))(A0_1:Option Addr)(c0_1:Nat)(l0_1:List (List (S28)))(r:List (S61))(w:World)(hr0_0:Kd.C k28 w A0_0 l0_0.length l0_0)(hc0_0:l0_0.length≤c0_0)(hr0_1:Kd.C (Kd.slice 28 k28) w A0_1 l0_1.length l0_1)(hc0_1:l0_1.length≤c0_1)(h:spec_l11Edges.f k l0_0 l0_1=some r):
  Calls Tryd.prog 66 #[.agg #[.slice A0_0 l0_0.length c0_0,.slice A0_1 l0_1.length c0_1]] w fun e w'=>∃ v0_:Value,e=.returned (v0_)∧Kd.R k61 61 w' w.heap.size (fun _=>True) v0_ r∧Below w.heap.size w w':=by
 have hu26:=Tryd.underlying26;have HR0_0:=Aside0.mk hr0_0;have HC0_0:=Aside0.mk hc0_0;clear hr0_0 hc0_0;have HR0_1:=Aside0.mk hr0_1;have HC0_1:=Aside0.mk hc0_1;clear hr0_1 hc0_1;have HB:=a0_ (Below.refl w.heap.size w);have H:((spec_l3Edges.f k l0_0).bind fun t457=>(spec_l11Edges.l0 k t457 0 l0_0 l0_1))=some r:=h;clear h;replace H:=Option.bind_eq_some_iff.mp H;obtain⟨t457,A20,H⟩:=H
 (try dsimp only at H)
 have A2:=Aside0.mk A20;clear A20;have H':=Aside0.mk H;clear H;go_enter Tryd.func66,Tryd.ntmps66;go_wp2_with (first | ((with_reducible refine gate_dst (N:=1) rfl ?_);refine bx_ (N:=1) (cs:=#[.slice A0_0 l0_0.length c0_0,.slice A0_1 l0_1.length c0_1]) (t:=26) (h:=?_);intro gb456 hg w3 hbox hb;have BK456:=a0_ (hbox);have GW456:=gh_ HB hg;have GE456:=gh_ HB hg;replace HB:=sb_ HB hb;clear hb hbox hg;have hcz4_0:=c20_ BK456;have hcz4_1:=c21_ BK456;have hfz4_0:=fz_ BK456 0;have hfz4_1:=fz_ BK456 1) | ((with_reducible refine gate_callee (f:=98) rfl ?_);refine gL_ (some 7) Tryd.func98 #[.slice A0_0 l0_0.length c0_0] (h:=?_);(with_reducible refine (spec_l3Edges.calls k _ _ l0_0 t457 _ ?side1 ?side2 A2.out).mono ?_);(case side1=>repeat (first | exact (Kd.C_below HR0_0.out HB.out) | (with_reducible refine Kd.C_alloc ?_ _) | (with_reducible refine Kd.C_drewN ?_ _) | (with_reducible refine Kd.C_drew ?_)));(case side2=>exact HC0_0.out);rintro e w5 ⟨v458,rfl,ho0,hb⟩;refine⟨_,rfl,?_⟩;have HO459:=a0_ (Kd.R_lower ho0 (below_size hB_));replace BK456:=vb_ BK456 hb;replace HB:=sb_ HB hb;(try clear ho0 hb)));go_loopg [3,4] k (fun kq v3 v4 w'=>∃ (x3_1:List (S61)) (x4_1:Int),v4=.int .i64 x4_1∧Aside0 (spec_l11Edges.l0 kq x3_1 x4_1 l0_0 l0_1=some r)∧Aside0 (kq≤k)∧Aside0 (Kd.R k61 61 w' w.heap.size (fun _=>True) v3 x3_1)∧Aside0 (w'.heap[gb456]?=some (.cells #[(.slice A0_0 l0_0.length c0_0),(.slice A0_1 l0_1.length c0_1)] 26 (0,0)))∧Aside0 (Below w.heap.size w w'))
 case atStart=>exact⟨(t457),(0),(by first | rfl | (simp;done) | (simp [*];done)),H',⟨Nat.le_refl _⟩,⟨by (with_reducible repeat (first | apply Kd.R_alloc | apply Kd.R_drewN | apply Kd.R_drew));exact HO459.out⟩,⟨uq_⟩,⟨hB_⟩⟩
 case round =>
  clear H';obtain⟨x3_1,x4_1,rfl,HA,HK1,HO_3,BK456,HB⟩:=hrel
  cases gk with
  | zero=>exact absurd HA.out (by simp [spec_l11Edges.l0])
  | succ k1 =>
   have H:=HA.out;clear HA;simp only [spec_l11Edges.l0] at H;by_cases c6:x4_1<(l0_1.length:Int)
   ·
    rw [if_pos c6] at H;have c6b0:decide (x4_1<(l0_1.length:Int))=true:=decide_eq_true c6;clear c6;by_cases c7:0≤x4_1
    ·
     rw [if_pos c7] at H;have c7b0:decide (0≤x4_1)=true:=decide_eq_true c7;clear c7;replace H:=Option.bind_eq_some_iff.mp H;obtain⟨t461,A80,H⟩:=H
     (try dsimp only at H)
     have A8:=Aside0.mk A80;clear A80;by_cases c9:x3_1.length+t461.length<4398046511104
     ·
      rw [if_pos c9] at H;have LMc9:=Aside0.mk c9;clear c9;obtain⟨y464,hy464⟩:∃ y_:List (S61),y_=(x3_1++t461):=⟨_,rfl⟩;replace H:(spec_l11Edges.l0 k1 y464 (wrap64 (x4_1+1)) l0_0 l0_1)=some r:=by first | (rw [hy464];with_reducible exact H) | (have H2_:=(Option.bind_some _ _).symm.trans H;rw [hy464];with_reducible exact H2_) | (have H2_:=(Option.bind_some _ _).symm.trans H;with_reducible exact H2_) | with_reducible exact H | (rw [hy464];exact H) | exact H
      have Ny464:=Aside0.mk hy464;clear hy464;have H':=Aside0.mk H;clear H;have hcz10_0:=c20_ BK456;have hcz10_1:=c21_ BK456;have hfz10_0:=fz_ BK456 0;have hfz10_1:=fz_ BK456 1;have p460:0≤(x4_1:Int):=od_;have q460:x4_1<(l0_1.length:Int):=od_;obtain⟨ad460,A460_0,c460_0,e460,hx460_0,hl460_0,hi460_0⟩:=at_L5 HR0_1.out x4_1 p460 q460;cases e460;replace hx460_0:=ce_ HB hx460_0;have HR460_0:=Aside0.mk hi460_0;have HC460_0:=Aside0.mk hl460_0;clear hi460_0 hl460_0;replace p460:=eq_true p460;replace q460:=eq_true q460
      go_wp2_with (first | ((with_reducible refine gate_callee (f:=98) rfl ?_);refine gL_ (some 21) Tryd.func98 #[.slice A460_0 (rd_L5 l0_1 x4_1).length c460_0] (h:=?_);(with_reducible refine (spec_l3Edges.calls k1 _ _ (rd_L5 l0_1 x4_1) t461 _ ?side1 ?side2 A8.out).mono ?_);(case side1=>repeat (first | exact (Kd.C_below HR460_0.out HB.out) | (with_reducible refine Kd.C_alloc ?_ _) | (with_reducible refine Kd.C_drewN ?_ _) | (with_reducible refine Kd.C_drew ?_)));(case side2=>exact HC460_0.out);rintro e w11 ⟨v462,rfl,ho0,hb⟩;refine⟨_,rfl,?_⟩;have HO463:=a0_ (Kd.R_lower (Kd.R_new' ho0 (Kd.R_lt (uR_ HO_3))) (below_size hB_));replace HO_3:=a0_ (Kd.R_elder' (uR_ HO_3) (Kd.R_base ho0) hb);replace BK456:=vb_ BK456 hb;replace HB:=sb_ HB hb;(try clear ho0 hb);obtain⟨Ao13,co13,eo13⟩:=Kd.R_slice HO463.out;subst eo13) | ((with_reducible refine gate_builtin (b:=.append) (xs:=#[.tmp 15,.tmp 21]) rfl ?_);at_builtin;refine Kd.R_append_rows k61 (w0:=w) w.heap.size rfl (.tmp 15) (.tmp 21) 57 61 (.agg #[(.int .i64 0),(.int .i64 0),(.int .i64 0),(.int .i64 0)]) 32 rfl Tryd.underlying57 info61 rfl (by decide) (by omega) u3 x3_1 t461 _ _ _ (fun k_=>some k_≠(.slice Ao13 t461.length co13:Value).ownBlock) (fun _=>False) rfl rfl ?aO ?aR (fun _ _ h=>h) (fun _ h=>h.elim) ?aF ?aB ?aS ?aL ?_;(case aR=>repeat (first | exact (Kd.R_reads' HO463.out).2.2 | (with_reducible refine Kd.C_alloc ?_ _) | (with_reducible refine Kd.C_drewN ?_ _) | (with_reducible refine Kd.C_drew ?_)));(case aB=>exact hB_);(case aF=>exact (fun k_ hk=>Kd.fresh' (Kd.R_lt (uR_ HO463)) k_ hk));(case aO=>exact (by (with_reducible repeat (first | apply Kd.R_alloc | apply Kd.R_drewN | apply Kd.R_drew));exact Kd.R_mono HO_3.out (fun _ hk=>hk.2)));(case aS=>exact (below_size hB_));(case aL=>have:=LMc9.out;omega);intro v465 w12 ho hb hg hat;rw [← Ny464.out] at ho;have HO466:=a0_ (ho);replace BK456:=a0_ (blk_grown (g:=gb456) (o:=.cells #[.slice A0_0 l0_0.length c0_0,.slice (some ad460) l0_1.length c0_1] 26 (0,0)) uq_ hg (Kd.R_ne HO_3.out BK456.out (by decide)));replace HO463:=a0_ (Kd.R_after (ok:=(fun _=>True)) (uR_ HO463) hg hat);replace HB:=a0_ (hb);clear HO_3;clear ho hb hg hat))
      go_roundg k1
      case measure=>have:=HK1.out;omega
      case rel=>exact⟨(y464),(wrap64 (x4_1+1)),(by first | rfl | (simp;done) | (simp [*];done)),H',⟨by have:=HK1.out;omega⟩,⟨by (with_reducible repeat (first | apply Kd.R_alloc | apply Kd.R_drewN | apply Kd.R_drew));exact Kd.R_mono HO466.out (fun _ hk=>trivial)⟩,⟨uq_⟩,⟨hB_⟩⟩
     ·
      rw [if_neg c9] at H;exact absurd H (by simp)
    ·
     rw [if_neg c7] at H;exact absurd H (by simp)
   ·
    rw [if_neg c6] at H;have c6b0:decide (x4_1<(l0_1.length:Int))=false:=decide_eq_false c6;clear c6;obtain rfl:=Option.some.inj H;have hcz14_0:=c20_ BK456;have hcz14_1:=c21_ BK456;have hfz14_0:=fz_ BK456 0;have hfz14_1:=fz_ BK456 1;go_wp2;go_ret;exact⟨_,rr_,by (with_reducible repeat (first | apply Kd.R_alloc | apply Kd.R_drewN | apply Kd.R_drew));exact HO_3.out,hB_⟩
def spec_l13Near.f (a0_0:Int)(a0_1:Int)(a0_2:Int)(a0_3:Int)(a1:Int)(a2_0:Int)(a2_1:Int):Option (Bool):=(spec_l2Dot.f a0_0 a0_1 a0_2 a0_3 a2_0 a2_1).bind fun t446=>((spec_l2Dot.f a0_0 a0_1 a0_2 a0_3 a0_2 a0_3).bind fun t447=>(if t446≤0 then ((spec_l2Dot.f a0_0 a0_1 a2_0 a2_1 a2_0 a2_1).bind fun t448=>(some (decide (t448<a1)))) else (if t446≥t447 then ((spec_l2Dot.f a0_2 a0_3 a2_0 a2_1 a2_0 a2_1).bind fun t449=>(some (decide (t449<a1)))) else ((spec_l2Cross.f a0_0 a0_1 a0_2 a0_3 a2_0 a2_1).bind fun t450=>(some (decide ((wrap64 (t450*t450))<(wrap64 (a1*t447)))))))))
set_option maxHeartbeats 8000000 in
set_option maxRecDepth 100000 in
theorem spec_l13Near.calls (a0_0:Int)(a0_1:Int)(a0_2:Int)(a0_3:Int)(a1:Int)(a2_0:Int)(a2_1:Int)(r:Bool)(w:World)(h:spec_l13Near.f a0_0 a0_1 a0_2 a0_3 a1 a2_0 a2_1=some r):
  Calls Tryd.prog 105 #[.agg #[.int .i64 a0_0,.int .i64 a0_1,.int .i64 a0_2,.int .i64 a0_3],.int .i64 a1,.agg #[.int .i64 a2_0,.int .i64 a2_1]] w fun e w'=>e=.returned (.bool r)∧Below w.heap.size w w':=by
 have hu61:=Tryd.underlying61;have hu28:=Tryd.underlying28;have HB:=a0_ (Below.refl w.heap.size w);have H:((spec_l2Dot.f a0_0 a0_1 a0_2 a0_3 a2_0 a2_1).bind fun t446=>((spec_l2Dot.f a0_0 a0_1 a0_2 a0_3 a0_2 a0_3).bind fun t447=>(if t446≤0 then ((spec_l2Dot.f a0_0 a0_1 a2_0 a2_1 a2_0 a2_1).bind fun t448=>(some (decide (t448<a1)))) else (if t446≥t447 then ((spec_l2Dot.f a0_2 a0_3 a2_0 a2_1 a2_0 a2_1).bind fun t449=>(some (decide (t449<a1)))) else ((spec_l2Cross.f a0_0 a0_1 a0_2 a0_3 a2_0 a2_1).bind fun t450=>(some (decide ((wrap64 (t450*t450))<(wrap64 (a1*t447))))))))))=some r:=h;clear h;replace H:=Option.bind_eq_some_iff.mp H;obtain⟨t446,A40,H⟩:=H
 (try dsimp only at H)
 have A4:=Aside0.mk A40;clear A40;replace H:=Option.bind_eq_some_iff.mp H;obtain⟨t447,A50,H⟩:=H
 (try dsimp only at H)
 have A5:=Aside0.mk A50;clear A50;by_cases c6:t446≤0
 ·
  rw [if_pos c6] at H;have c6b0:decide (t446≤0)=true:=decide_eq_true c6;clear c6;replace H:=Option.bind_eq_some_iff.mp H;obtain⟨t448,A70,H⟩:=H
  (try dsimp only at H)
  have A7:=Aside0.mk A70;clear A70;obtain rfl:=Option.some.inj H;go_enter Tryd.func105,Tryd.ntmps105
  go_wp2_with (first | ((with_reducible refine gate_dst (N:=3) rfl ?_);refine bx_ (N:=3) (cs:=#[.int .i64 a0_0,.int .i64 a0_1,.int .i64 a0_2,.int .i64 a0_3]) (t:=61) (h:=?_);intro gb444 hg w8 hbox hb;have BK444:=a0_ (hbox);have GW444:=gh_ HB hg;have GE444:=gh_ HB hg;replace HB:=sb_ HB hb;clear hb hbox hg) | ((with_reducible refine gate_dst (N:=5) rfl ?_);refine bx_ (N:=5) (cs:=#[.int .i64 a2_0,.int .i64 a2_1]) (t:=28) (h:=?_);intro gb445 hg w9 hbox hb;have BK445:=a0_ (hbox);have GW445:=gh_ HB hg;have GE445:=gh_ HB hg;have NB444_445:=nl_ BK444 hg;have NB445_444:=nr_ BK444 hg;replace BK444:=vb_ BK444 hb;replace HB:=sb_ HB hb;clear hb hbox hg;have hnb10:=NB444_445.out;have hnc10:=NB445_444.out;have hcz11_0:=c40_ BK444;have hcz11_1:=c41_ BK444;have hcz11_2:=c42_ BK444;have hcz11_3:=c43_ BK444;have hfz11_0:=fz_ BK444 0;have hfz11_1:=fz_ BK444 1;have hfz11_2:=fz_ BK444 2;have hfz11_3:=fz_ BK444 3;have hcz12_0:=c20_ BK445;have hcz12_1:=c21_ BK445;have hfz12_0:=fz_ BK445 0;have hfz12_1:=fz_ BK445 1) | ((with_reducible refine gate_callee (f:=117) rfl ?_);refine gL_ (some 15) Tryd.func117 #[.agg #[.int .i64 a0_0,.int .i64 a0_1],.agg #[.int .i64 a0_2,.int .i64 a0_3],.agg #[.int .i64 a2_0,.int .i64 a2_1]] (h:=?_);(with_reducible refine (spec_l2Dot.calls a0_0 a0_1 a0_2 a0_3 a2_0 a2_1 t446 _ A4.out).mono ?_);rintro e w13 ⟨rfl,hb⟩;refine⟨_,rfl,?_⟩;replace BK444:=vb_ BK444 hb;replace BK445:=vb_ BK445 hb;replace HB:=sb_ HB hb;(try clear hb);have hcz14_0:=c40_ BK444;have hcz14_1:=c41_ BK444;have hcz14_2:=c42_ BK444;have hcz14_3:=c43_ BK444;have hfz14_0:=fz_ BK444 0;have hfz14_1:=fz_ BK444 1;have hfz14_2:=fz_ BK444 2;have hfz14_3:=fz_ BK444 3) | ((with_reducible refine gate_callee (f:=117) rfl ?_);refine gL_ (some 22) Tryd.func117 #[.agg #[.int .i64 a0_0,.int .i64 a0_1],.agg #[.int .i64 a0_2,.int .i64 a0_3],.agg #[.int .i64 a0_2,.int .i64 a0_3]] (h:=?_);(with_reducible refine (spec_l2Dot.calls a0_0 a0_1 a0_2 a0_3 a0_2 a0_3 t447 _ A5.out).mono ?_);rintro e w15 ⟨rfl,hb⟩;refine⟨_,rfl,?_⟩;replace BK444:=vb_ BK444 hb;replace BK445:=vb_ BK445 hb;replace HB:=sb_ HB hb;(try clear hb);have hcz16_0:=c40_ BK444;have hcz16_1:=c41_ BK444;have hcz16_2:=c42_ BK444;have hcz16_3:=c43_ BK444;have hfz16_0:=fz_ BK444 0;have hfz16_1:=fz_ BK444 1;have hfz16_2:=fz_ BK444 2;have hfz16_3:=fz_ BK444 3;have hcz17_0:=c20_ BK445;have hcz17_1:=c21_ BK445;have hfz17_0:=fz_ BK445 0;have hfz17_1:=fz_ BK445 1) | ((with_reducible refine gate_callee (f:=117) rfl ?_);refine gL_ (some 30) Tryd.func117 #[.agg #[.int .i64 a0_0,.int .i64 a0_1],.agg #[.int .i64 a2_0,.int .i64 a2_1],.agg #[.int .i64 a2_0,.int .i64 a2_1]] (h:=?_);(with_reducible refine (spec_l2Dot.calls a0_0 a0_1 a2_0 a2_1 a2_0 a2_1 t448 _ A7.out).mono ?_);rintro e w18 ⟨rfl,hb⟩;refine⟨_,rfl,?_⟩;replace BK444:=vb_ BK444 hb;replace BK445:=vb_ BK445 hb;replace HB:=sb_ HB hb;(try clear hb)))
  go_ret;exact⟨rr_,hB_⟩
 ·
  rw [if_neg c6] at H;have c6b0:decide (t446≤0)=false:=decide_eq_false c6;clear c6;by_cases c19:t446≥t447
  ·
   rw [if_pos c19] at H;have c19b0:decide (t447≤t446)=true:=decide_eq_true c19;clear c19;replace H:=Option.bind_eq_some_iff.mp H;obtain⟨t449,A200,H⟩:=H
   (try dsimp only at H)
   have A20:=Aside0.mk A200;clear A200;obtain rfl:=Option.some.inj H;go_enter Tryd.func105,Tryd.ntmps105
   go_wp2_with (first | ((with_reducible refine gate_dst (N:=3) rfl ?_);refine bx_ (N:=3) (cs:=#[.int .i64 a0_0,.int .i64 a0_1,.int .i64 a0_2,.int .i64 a0_3]) (t:=61) (h:=?_);intro gb444 hg w21 hbox hb;have BK444:=a0_ (hbox);have GW444:=gh_ HB hg;have GE444:=gh_ HB hg;replace HB:=sb_ HB hb;clear hb hbox hg) | ((with_reducible refine gate_dst (N:=5) rfl ?_);refine bx_ (N:=5) (cs:=#[.int .i64 a2_0,.int .i64 a2_1]) (t:=28) (h:=?_);intro gb445 hg w22 hbox hb;have BK445:=a0_ (hbox);have GW445:=gh_ HB hg;have GE445:=gh_ HB hg;have NB444_445:=nl_ BK444 hg;have NB445_444:=nr_ BK444 hg;replace BK444:=vb_ BK444 hb;replace HB:=sb_ HB hb;clear hb hbox hg;have hnb23:=NB444_445.out;have hnc23:=NB445_444.out;have hcz24_0:=c40_ BK444;have hcz24_1:=c41_ BK444;have hcz24_2:=c42_ BK444;have hcz24_3:=c43_ BK444;have hfz24_0:=fz_ BK444 0;have hfz24_1:=fz_ BK444 1;have hfz24_2:=fz_ BK444 2;have hfz24_3:=fz_ BK444 3;have hcz25_0:=c20_ BK445;have hcz25_1:=c21_ BK445;have hfz25_0:=fz_ BK445 0;have hfz25_1:=fz_ BK445 1) | ((with_reducible refine gate_callee (f:=117) rfl ?_);refine gL_ (some 15) Tryd.func117 #[.agg #[.int .i64 a0_0,.int .i64 a0_1],.agg #[.int .i64 a0_2,.int .i64 a0_3],.agg #[.int .i64 a2_0,.int .i64 a2_1]] (h:=?_);(with_reducible refine (spec_l2Dot.calls a0_0 a0_1 a0_2 a0_3 a2_0 a2_1 t446 _ A4.out).mono ?_);rintro e w26 ⟨rfl,hb⟩;refine⟨_,rfl,?_⟩;replace BK444:=vb_ BK444 hb;replace BK445:=vb_ BK445 hb;replace HB:=sb_ HB hb;(try clear hb);have hcz27_0:=c40_ BK444;have hcz27_1:=c41_ BK444;have hcz27_2:=c42_ BK444;have hcz27_3:=c43_ BK444;have hfz27_0:=fz_ BK444 0;have hfz27_1:=fz_ BK444 1;have hfz27_2:=fz_ BK444 2;have hfz27_3:=fz_ BK444 3) | ((with_reducible refine gate_callee (f:=117) rfl ?_);refine gL_ (some 22) Tryd.func117 #[.agg #[.int .i64 a0_0,.int .i64 a0_1],.agg #[.int .i64 a0_2,.int .i64 a0_3],.agg #[.int .i64 a0_2,.int .i64 a0_3]] (h:=?_);(with_reducible refine (spec_l2Dot.calls a0_0 a0_1 a0_2 a0_3 a0_2 a0_3 t447 _ A5.out).mono ?_);rintro e w28 ⟨rfl,hb⟩;refine⟨_,rfl,?_⟩;replace BK444:=vb_ BK444 hb;replace BK445:=vb_ BK445 hb;replace HB:=sb_ HB hb;(try clear hb);have hcz29_0:=c40_ BK444;have hcz29_1:=c41_ BK444;have hcz29_2:=c42_ BK444;have hcz29_3:=c43_ BK444;have hfz29_0:=fz_ BK444 0;have hfz29_1:=fz_ BK444 1;have hfz29_2:=fz_ BK444 2;have hfz29_3:=fz_ BK444 3;have hcz30_0:=c20_ BK445;have hcz30_1:=c21_ BK445;have hfz30_0:=fz_ BK445 0;have hfz30_1:=fz_ BK445 1) | ((with_reducible refine gate_callee (f:=117) rfl ?_);refine gL_ (some 41) Tryd.func117 #[.agg #[.int .i64 a0_2,.int .i64 a0_3],.agg #[.int .i64 a2_0,.int .i64 a2_1],.agg #[.int .i64 a2_0,.int .i64 a2_1]] (h:=?_);(with_reducible refine (spec_l2Dot.calls a0_2 a0_3 a2_0 a2_1 a2_0 a2_1 t449 _ A20.out).mono ?_);rintro e w31 ⟨rfl,hb⟩;refine⟨_,rfl,?_⟩;replace BK444:=vb_ BK444 hb;replace BK445:=vb_ BK445 hb;replace HB:=sb_ HB hb;(try clear hb)))
   go_ret;exact⟨rr_,hB_⟩
  ·
   rw [if_neg c19] at H;have c19b0:decide (t447≤t446)=false:=decide_eq_false c19;clear c19;replace H:=Option.bind_eq_some_iff.mp H;obtain⟨t450,A320,H⟩:=H
   (try dsimp only at H)
   have A32:=Aside0.mk A320;clear A320;obtain rfl:=Option.some.inj H;go_enter Tryd.func105,Tryd.ntmps105
   go_wp2_with (first | ((with_reducible refine gate_dst (N:=3) rfl ?_);refine bx_ (N:=3) (cs:=#[.int .i64 a0_0,.int .i64 a0_1,.int .i64 a0_2,.int .i64 a0_3]) (t:=61) (h:=?_);intro gb444 hg w33 hbox hb;have BK444:=a0_ (hbox);have GW444:=gh_ HB hg;have GE444:=gh_ HB hg;replace HB:=sb_ HB hb;clear hb hbox hg) | ((with_reducible refine gate_dst (N:=5) rfl ?_);refine bx_ (N:=5) (cs:=#[.int .i64 a2_0,.int .i64 a2_1]) (t:=28) (h:=?_);intro gb445 hg w34 hbox hb;have BK445:=a0_ (hbox);have GW445:=gh_ HB hg;have GE445:=gh_ HB hg;have NB444_445:=nl_ BK444 hg;have NB445_444:=nr_ BK444 hg;replace BK444:=vb_ BK444 hb;replace HB:=sb_ HB hb;clear hb hbox hg;have hnb35:=NB444_445.out;have hnc35:=NB445_444.out;have hcz36_0:=c40_ BK444;have hcz36_1:=c41_ BK444;have hcz36_2:=c42_ BK444;have hcz36_3:=c43_ BK444;have hfz36_0:=fz_ BK444 0;have hfz36_1:=fz_ BK444 1;have hfz36_2:=fz_ BK444 2;have hfz36_3:=fz_ BK444 3;have hcz37_0:=c20_ BK445;have hcz37_1:=c21_ BK445;have hfz37_0:=fz_ BK445 0;have hfz37_1:=fz_ BK445 1) | ((with_reducible refine gate_callee (f:=117) rfl ?_);refine gL_ (some 15) Tryd.func117 #[.agg #[.int .i64 a0_0,.int .i64 a0_1],.agg #[.int .i64 a0_2,.int .i64 a0_3],.agg #[.int .i64 a2_0,.int .i64 a2_1]] (h:=?_);(with_reducible refine (spec_l2Dot.calls a0_0 a0_1 a0_2 a0_3 a2_0 a2_1 t446 _ A4.out).mono ?_);rintro e w38 ⟨rfl,hb⟩;refine⟨_,rfl,?_⟩;replace BK444:=vb_ BK444 hb;replace BK445:=vb_ BK445 hb;replace HB:=sb_ HB hb;(try clear hb);have hcz39_0:=c40_ BK444;have hcz39_1:=c41_ BK444;have hcz39_2:=c42_ BK444;have hcz39_3:=c43_ BK444;have hfz39_0:=fz_ BK444 0;have hfz39_1:=fz_ BK444 1;have hfz39_2:=fz_ BK444 2;have hfz39_3:=fz_ BK444 3) | ((with_reducible refine gate_callee (f:=117) rfl ?_);refine gL_ (some 22) Tryd.func117 #[.agg #[.int .i64 a0_0,.int .i64 a0_1],.agg #[.int .i64 a0_2,.int .i64 a0_3],.agg #[.int .i64 a0_2,.int .i64 a0_3]] (h:=?_);(with_reducible refine (spec_l2Dot.calls a0_0 a0_1 a0_2 a0_3 a0_2 a0_3 t447 _ A5.out).mono ?_);rintro e w40 ⟨rfl,hb⟩;refine⟨_,rfl,?_⟩;replace BK444:=vb_ BK444 hb;replace BK445:=vb_ BK445 hb;replace HB:=sb_ HB hb;(try clear hb);have hcz41_0:=c40_ BK444;have hcz41_1:=c41_ BK444;have hcz41_2:=c42_ BK444;have hcz41_3:=c43_ BK444;have hfz41_0:=fz_ BK444 0;have hfz41_1:=fz_ BK444 1;have hfz41_2:=fz_ BK444 2;have hfz41_3:=fz_ BK444 3;have hcz42_0:=c20_ BK445;have hcz42_1:=c21_ BK445;have hfz42_0:=fz_ BK445 0;have hfz42_1:=fz_ BK445 1) | ((with_reducible refine gate_callee (f:=102) rfl ?_);refine gL_ (some 49) Tryd.func102 #[.agg #[.int .i64 a0_0,.int .i64 a0_1],.agg #[.int .i64 a0_2,.int .i64 a0_3],.agg #[.int .i64 a2_0,.int .i64 a2_1]] (h:=?_);(with_reducible refine (spec_l2Cross.calls a0_0 a0_1 a0_2 a0_3 a2_0 a2_1 t450 _ A32.out).mono ?_);rintro e w43 ⟨rfl,hb⟩;refine⟨_,rfl,?_⟩;replace BK444:=vb_ BK444 hb;replace BK445:=vb_ BK445 hb;replace HB:=sb_ HB hb;(try clear hb)))
   go_ret;exact⟨rr_,hB_⟩
def spec_l13Fits.l0:Nat→List (S61)→Int→Int→List (S28)→List (List (S28))→Int→Int→Option (Bool)
 | 0,_,_,_,_,_,_,_=>none
 | k+1,x1,x2,x9,x452000,x452001,x453000,x453001=>if x9<(x1.length:Int) then (if 0≤x9 then ((spec_l13Near.f ((rd_T61 x1 x9).f0.f0) ((rd_T61 x1 x9).f0.f1) ((rd_T61 x1 x9).f1.f0) ((rd_T61 x1 x9).f1.f1) x2 x453000 x453001).bind fun t454=>(if t454=true then (some false) else (spec_l13Fits.l0 k x1 x2 (wrap64 (x9+1)) x452000 x452001 x453000 x453001))) else (none)) else ((spec_l11In.f k x452000 x452001 x453000 x453001).bind fun t455=>(some (t455==1)))
def spec_l13Fits.f (k:Nat)(l0_0:List (S28))(l0_1:List (List (S28)))(l1:List (S61))(a2:Int)(a3_0:Int)(a3_1:Int):Option (Bool):=spec_l13Fits.l0 k l1 a2 0 l0_0 l0_1 a3_0 a3_1
set_option maxHeartbeats 8000000 in
set_option maxRecDepth 100000 in
theorem spec_l13Fits.calls (k:Nat)(A0_0:Option Addr)(c0_0:Nat)(l0_0:List (S28))(A0_1:Option Addr)(c0_1:Nat)(l0_1:List (List (S28)))(A1:Option Addr)(c1:Nat)(l1:List (S61))(a2:Int)(a3_0:Int)(a3_1:Int)(r:Bool)(w:World)(hr0_0:Kd.C k28 w A0_0 l0_0.length l0_0)(hc0_0:l0_0.length≤c0_0)(hr0_1:Kd.C (Kd.slice 28 k28) w A0_1 l0_1.length l0_1)(hc0_1:l0_1.length≤c0_1)(hr1:Kd.C k61 w A1 l1.length l1)(hc1:l1.length≤c1)(h:spec_l13Fits.f k l0_0 l0_1 l1 a2 a3_0 a3_1=some r):
  Calls Tryd.prog 65 #[.agg #[.slice A0_0 l0_0.length c0_0,.slice A0_1 l0_1.length c0_1],.slice A1 l1.length c1,.int .i64 a2,.agg #[.int .i64 a3_0,.int .i64 a3_1]] w fun e w'=>e=.returned (.bool r)∧Below w.heap.size w w':=by
 have hu26:=Tryd.underlying26;have hu28:=Tryd.underlying28;have hu61:=Tryd.underlying61;have HR0_0:=Aside0.mk hr0_0;have HC0_0:=Aside0.mk hc0_0;clear hr0_0 hc0_0;have HR0_1:=Aside0.mk hr0_1;have HC0_1:=Aside0.mk hc0_1;clear hr0_1 hc0_1;have HR1:=Aside0.mk hr1;have HC1:=Aside0.mk hc1;clear hr1 hc1;have HB:=a0_ (Below.refl w.heap.size w);have H:(spec_l13Fits.l0 k l1 a2 0 l0_0 l0_1 a3_0 a3_1)=some r:=h;clear h;have H':=Aside0.mk H;clear H;go_enter Tryd.func65,Tryd.ntmps65;go_wp2_with (first | ((with_reducible refine gate_dst (N:=4) rfl ?_);refine bx_ (N:=4) (cs:=#[.slice A0_0 l0_0.length c0_0,.slice A0_1 l0_1.length c0_1]) (t:=26) (h:=?_);intro gb451 hg w5 hbox hb;have BK451:=a0_ (hbox);have GW451:=gh_ HB hg;have GE451:=gh_ HB hg;replace HB:=sb_ HB hb;clear hb hbox hg) | ((with_reducible refine gate_dst (N:=7) rfl ?_);refine bx_ (N:=7) (cs:=#[.int .i64 a3_0,.int .i64 a3_1]) (t:=28) (h:=?_);intro gb452 hg w6 hbox hb;have BK452:=a0_ (hbox);have GW452:=gh_ HB hg;have GE452:=gh_ HB hg;have NB451_452:=nl_ BK451 hg;have NB452_451:=nr_ BK451 hg;replace BK451:=vb_ BK451 hb;replace HB:=sb_ HB hb;clear hb hbox hg));go_loopg [9] k (fun kq v9 w'=>∃ (x9_1:Int),v9=.int .i64 x9_1∧Aside0 (spec_l13Fits.l0 kq l1 a2 x9_1 l0_0 l0_1 a3_0 a3_1=some r)∧Aside0 (kq≤k)∧Aside0 (w'.heap[gb451]?=some (.cells #[(.slice A0_0 l0_0.length c0_0),(.slice A0_1 l0_1.length c0_1)] 26 (0,0)))∧Aside0 (w'.heap[gb452]?=some (.cells #[.int .i64 a3_0,.int .i64 a3_1] 28 (0,0)))∧Aside0 (Below w.heap.size w w'))
 case atStart=>exact⟨(0),(by first | rfl | (simp;done) | (simp [*];done)),H',⟨Nat.le_refl _⟩,⟨uq_⟩,⟨uq_⟩,⟨hB_⟩⟩
 case round =>
  clear H';obtain⟨x9_1,rfl,HA,HK1,BK451,BK452,HB⟩:=hrel
  cases gk with
  | zero=>exact absurd HA.out (by simp [spec_l13Fits.l0])
  | succ k1 =>
   have H:=HA.out;clear HA;simp only [spec_l13Fits.l0] at H;by_cases c7:x9_1<(l1.length:Int)
   ·
    rw [if_pos c7] at H;have c7b0:decide (x9_1<(l1.length:Int))=true:=decide_eq_true c7;clear c7;by_cases c8:0≤x9_1
    ·
     rw [if_pos c8] at H;have c8b0:decide (0≤x9_1)=true:=decide_eq_true c8;clear c8;replace H:=Option.bind_eq_some_iff.mp H;obtain⟨t454,A90,H⟩:=H
     (try dsimp only at H)
     have A9:=Aside0.mk A90;clear A90;by_cases c10:t454=true
     ·
      subst c10;rw [if_pos rfl] at H
      (try dsimp only at H)
      obtain rfl:=Option.some.inj H
      try go_wp2
      replace BK451:=a0_ (blk_drew BK451.out);replace BK452:=a0_ (blk_drew BK452.out);replace HB:=a0_ (below_drew1 HB.out);have p453:0≤(x9_1:Int):=od_;have q453:x9_1<(l1.length:Int):=od_;obtain⟨ad453,e453,hx453_0,hx453_1,hx453_2,hx453_3⟩:=at_T61 HR1.out x9_1 p453 q453;have hw453_3:=hx453_3;have hw453_2:=hx453_2;have hw453_1:=hx453_1;have hw453_0:=hx453_0;cases e453;replace hx453_0:=ce_ HB hx453_0;replace hx453_1:=ce_ HB hx453_1;replace hx453_2:=ce_ HB hx453_2;replace hx453_3:=ce_ HB hx453_3;replace p453:=eq_true p453;replace q453:=eq_true q453;refine start_ (n:=7) (S:=fun w'=>w'.cell? ⟨gb452,0,none⟩=some (.int .i64 a3_0)∧w'.cell? ⟨gb452,1,none⟩=some (.int .i64 a3_1)∧w'.cell? (ad453.add ((x9_1).toNat*4))=some (.int .i64 ((rd_T61 l1 x9_1).f0.f0))∧w'.cell? ⟨(ad453.add ((x9_1).toNat*4)).block,(ad453.add ((x9_1).toNat*4)).off+1,none⟩=some (.int .i64 ((rd_T61 l1 x9_1).f0.f1))∧w'.cell? ⟨(ad453.add ((x9_1).toNat*4)).block,(ad453.add ((x9_1).toNat*4)).off+2,none⟩=some (.int .i64 ((rd_T61 l1 x9_1).f1.f0))∧w'.cell? ⟨(ad453.add ((x9_1).toNat*4)).block,(ad453.add ((x9_1).toNat*4)).off+3,none⟩=some (.int .i64 ((rd_T61 l1 x9_1).f1.f1))) (ds:=[]) (Array.replicate 7 false) (by kernel_rfl) rfl rfl ⟨bc_,bc_,(ce_ HB hw453_0),(ce_ HB hw453_1),(ce_ HB hw453_2),(ce_ HB hw453_3)⟩ (fun hHeld=>?_);generalize wr.drew=w11 at BK451 BK452 HB hx453_0 hx453_1 hx453_2 hx453_3 hHeld ⊢
      refine pv_ 0 16 (bm 7 1) ?_;refine pv_ 1 17 (bm 7 3) ?_;refine pv_ 2 18 (bm 7 7) ?_;refine pv_ 4 20 (bm 7 23) ?_;refine tb6_ 3 19 (bm 7 31) hHeld ?_;refine tb6_ 5 21 (bm 7 63) hHeld ?_;refine one_ (i:=6) (N:=some 22) (bm 7 127) rfl rfl (by kernel_rfl) (by decide) (fun K hK=>?_);refine goes_ Tryd.func105 (by kernel_rfl) rfl #[.agg #[.int .i64 ((rd_T61 l1 x9_1).f0.f0),.int .i64 ((rd_T61 l1 x9_1).f0.f1),.int .i64 ((rd_T61 l1 x9_1).f1.f0),.int .i64 ((rd_T61 l1 x9_1).f1.f1)],.int .i64 a2,.agg #[.int .i64 a3_0,.int .i64 a3_1]] (by rfl) rfl rfl ma_ ?_
      with_reducible refine (spec_l13Near.calls ((rd_T61 l1 x9_1).f0.f0) ((rd_T61 l1 x9_1).f0.f1) ((rd_T61 l1 x9_1).f1.f0) ((rd_T61 l1 x9_1).f1.f1) a2 a3_0 a3_1 true _ A9.out).mono ?_
      rintro e w12 ⟨rfl,hb⟩;refine⟨_,rfl,?_⟩;replace BK451:=vb_ BK451 hb;replace BK452:=vb_ BK452 hb;replace HB:=sb_ HB hb
      (try clear hb)
      (try clear hb2)
      (try clear hk)
      (try clear hi)
      refine hK.out _ _ ⟨bc_,bc_,(ce_ HB hw453_0),(ce_ HB hw453_1),(ce_ HB hw453_2),(ce_ HB hw453_3)⟩ (fun hHeld=>?_);clear hK K;refine no_ (h:=?_);refine done_ (by kernel_rfl) ?_
      try go_wp2
      go_ret;exact⟨rr_,hB_⟩
     ·
      replace c10:=Bool.eq_false_iff.mpr c10;subst c10;rw [if_neg (show ¬ (false=true) by decide)] at H
      (try dsimp only at H)
      have H':=Aside0.mk H;clear H
      try go_wp2
      replace BK451:=a0_ (blk_drew BK451.out);replace BK452:=a0_ (blk_drew BK452.out);replace HB:=a0_ (below_drew1 HB.out);have p453:0≤(x9_1:Int):=od_;have q453:x9_1<(l1.length:Int):=od_;obtain⟨ad453,e453,hx453_0,hx453_1,hx453_2,hx453_3⟩:=at_T61 HR1.out x9_1 p453 q453;have hw453_3:=hx453_3;have hw453_2:=hx453_2;have hw453_1:=hx453_1;have hw453_0:=hx453_0;cases e453;replace hx453_0:=ce_ HB hx453_0;replace hx453_1:=ce_ HB hx453_1;replace hx453_2:=ce_ HB hx453_2;replace hx453_3:=ce_ HB hx453_3;replace p453:=eq_true p453;replace q453:=eq_true q453;refine start_ (n:=7) (S:=fun w'=>w'.cell? ⟨gb452,0,none⟩=some (.int .i64 a3_0)∧w'.cell? ⟨gb452,1,none⟩=some (.int .i64 a3_1)∧w'.cell? (ad453.add ((x9_1).toNat*4))=some (.int .i64 ((rd_T61 l1 x9_1).f0.f0))∧w'.cell? ⟨(ad453.add ((x9_1).toNat*4)).block,(ad453.add ((x9_1).toNat*4)).off+1,none⟩=some (.int .i64 ((rd_T61 l1 x9_1).f0.f1))∧w'.cell? ⟨(ad453.add ((x9_1).toNat*4)).block,(ad453.add ((x9_1).toNat*4)).off+2,none⟩=some (.int .i64 ((rd_T61 l1 x9_1).f1.f0))∧w'.cell? ⟨(ad453.add ((x9_1).toNat*4)).block,(ad453.add ((x9_1).toNat*4)).off+3,none⟩=some (.int .i64 ((rd_T61 l1 x9_1).f1.f1))) (ds:=[]) (Array.replicate 7 false) (by kernel_rfl) rfl rfl ⟨bc_,bc_,(ce_ HB hw453_0),(ce_ HB hw453_1),(ce_ HB hw453_2),(ce_ HB hw453_3)⟩ (fun hHeld=>?_);generalize wr.drew=w13 at BK451 BK452 HB hx453_0 hx453_1 hx453_2 hx453_3 hHeld ⊢
      refine pv_ 0 16 (bm 7 1) ?_;refine pv_ 1 17 (bm 7 3) ?_;refine pv_ 2 18 (bm 7 7) ?_;refine pv_ 4 20 (bm 7 23) ?_;refine tb6_ 3 19 (bm 7 31) hHeld ?_;refine tb6_ 5 21 (bm 7 63) hHeld ?_;refine one_ (i:=6) (N:=some 22) (bm 7 127) rfl rfl (by kernel_rfl) (by decide) (fun K hK=>?_);refine goes_ Tryd.func105 (by kernel_rfl) rfl #[.agg #[.int .i64 ((rd_T61 l1 x9_1).f0.f0),.int .i64 ((rd_T61 l1 x9_1).f0.f1),.int .i64 ((rd_T61 l1 x9_1).f1.f0),.int .i64 ((rd_T61 l1 x9_1).f1.f1)],.int .i64 a2,.agg #[.int .i64 a3_0,.int .i64 a3_1]] (by rfl) rfl rfl ma_ ?_
      with_reducible refine (spec_l13Near.calls ((rd_T61 l1 x9_1).f0.f0) ((rd_T61 l1 x9_1).f0.f1) ((rd_T61 l1 x9_1).f1.f0) ((rd_T61 l1 x9_1).f1.f1) a2 a3_0 a3_1 false _ A9.out).mono ?_
      rintro e w14 ⟨rfl,hb⟩;refine⟨_,rfl,?_⟩;replace BK451:=vb_ BK451 hb;replace BK452:=vb_ BK452 hb;replace HB:=sb_ HB hb
      (try clear hb)
      (try clear hb2)
      (try clear hk)
      (try clear hi)
      refine hK.out _ _ ⟨bc_,bc_,(ce_ HB hw453_0),(ce_ HB hw453_1),(ce_ HB hw453_2),(ce_ HB hw453_3)⟩ (fun hHeld=>?_);clear hK K;refine no_ (h:=?_);refine done_ (by kernel_rfl) ?_
      try go_wp2
      go_roundg k1
      case measure=>have:=HK1.out;omega
      case rel=>exact⟨(wrap64 (x9_1+1)),(by first | rfl | (simp;done) | (simp [*];done)),H',⟨by have:=HK1.out;omega⟩,⟨uq_⟩,⟨uq_⟩,⟨hB_⟩⟩
    ·
     rw [if_neg c8] at H;exact absurd H (by simp)
   ·
    rw [if_neg c7] at H;have c7b0:decide (x9_1<(l1.length:Int))=false:=decide_eq_false c7;clear c7;replace H:=Option.bind_eq_some_iff.mp H;obtain⟨t455,A150,H⟩:=H
    (try dsimp only at H)
    have A15:=Aside0.mk A150;clear A150;obtain rfl:=Option.some.inj H;have hnb16:=NB451_452.out;have hnc16:=NB452_451.out;have hcz17_0:=c20_ BK451;have hcz17_1:=c21_ BK451;have hfz17_0:=fz_ BK451 0;have hfz17_1:=fz_ BK451 1;have hcz18_0:=c20_ BK452;have hcz18_1:=c21_ BK452;have hfz18_0:=fz_ BK452 0;have hfz18_1:=fz_ BK452 1;go_wp2_with (first | ((with_reducible refine gate_callee (f:=54) rfl ?_);refine gL_ (some 25) Tryd.func54 #[.agg #[.slice A0_0 l0_0.length c0_0,.slice A0_1 l0_1.length c0_1],.agg #[.int .i64 a3_0,.int .i64 a3_1]] (h:=?_);(with_reducible refine (spec_l11In.calls k1 _ _ l0_0 _ _ l0_1 a3_0 a3_1 t455 _ ?side1 ?side2 ?side3 ?side4 A15.out).mono ?_);(case side1=>repeat (first | exact (Kd.C_below HR0_0.out HB.out) | (with_reducible refine Kd.C_alloc ?_ _) | (with_reducible refine Kd.C_drewN ?_ _) | (with_reducible refine Kd.C_drew ?_)));(case side2=>exact HC0_0.out);(case side3=>repeat (first | exact (Kd.C_below HR0_1.out HB.out) | (with_reducible refine Kd.C_alloc ?_ _) | (with_reducible refine Kd.C_drewN ?_ _) | (with_reducible refine Kd.C_drew ?_)));(case side4=>exact HC0_1.out);rintro e w19 ⟨rfl,hb⟩;refine⟨_,rfl,?_⟩;replace BK451:=vb_ BK451 hb;replace BK452:=vb_ BK452 hb;replace HB:=sb_ HB hb;(try clear hb)));go_ret;exact⟨rr_,hB_⟩
def spec_ToolFits.f (k:Nat)(l0_0:List (S28))(l0_1:List (List (S28)))(a1:Int)(a2_0:Int)(a2_1:Int):Option (Bool):=(spec_PlateOk.f k l0_0 l0_1).bind fun t469=>(if t469=true then ((spec_l6In.f a1 1 9).bind fun t470=>(if t470=true then ((spec_PtOk.f a2_0 a2_1).bind fun t471=>(if t471=true then ((spec_l11Edges.f k l0_0 l0_1).bind fun t472=>((spec_l13Fits.f k l0_0 l0_1 t472 a1 a2_0 a2_1).bind fun t475=>(some t475))) else (some false))) else (some false))) else (some false))
def spec_ToolFits.T1:Bool × List (List Nat × List Nat):=(true,[([],[]),([0],[0]),([1,1],[1]),([2],[2]),([3,2,2],[2,3]),([2,4],[2,4]),([5,4],[5]),([6],[6]),([7,6,6],[6,7]),([6,8],[6,8]),([9,8],[9]),([10],[10]),([10],[10]),([12,10,10],[10,12]),([10],[10]),([10],[10]),([11,13,14,15,13,10],[10,11,13,14,15]),([10,16],[10,16]),([17,16,0,1,2,3,4,5,6,7,8,9,10,11,12,13,14,15,16,17],[17])])
def spec_ToolFits.B1:List Nat:=[0,1,3,7,15,31,63,127,255,511,1023,2047,2047,6143,2047,2047,65535,131071,262143]
theorem spec_ToolFits.tab1:rtab .any (opsOf Tryd.f25 1)=spec_ToolFits.T1:=by kernel_rfl
theorem spec_ToolFits.bits1:waitsOk spec_ToolFits.T1.2 spec_ToolFits.B1=true:=by kernel_rfl
set_option maxHeartbeats 8000000 in
set_option maxRecDepth 100000 in
theorem spec_ToolFits.calls (k:Nat)(A0_0:Option Addr)(c0_0:Nat)(l0_0:List (S28))(A0_1:Option Addr)(c0_1:Nat)(l0_1:List (List (S28)))(a1:Int)(a2_0:Int)(a2_1:Int)(r:Bool)(w:World)(hr0_0:Kd.C k28 w A0_0 l0_0.length l0_0)(hc0_0:l0_0.length≤c0_0)(hr0_1:Kd.C (Kd.slice 28 k28) w A0_1 l0_1.length l0_1)(hc0_1:l0_1.length≤c0_1)(h:spec_ToolFits.f k l0_0 l0_1 a1 a2_0 a2_1=some r):
  Calls Tryd.prog 25 #[.agg #[.slice A0_0 l0_0.length c0_0,.slice A0_1 l0_1.length c0_1],.int .i64 a1,.agg #[.int .i64 a2_0,.int .i64 a2_1]] w fun e w'=>e=.returned (.bool r)∧Below w.heap.size w w':=by
 have hu26:=Tryd.underlying26;have hu28:=Tryd.underlying28;have HR0_0:=Aside0.mk hr0_0;have HC0_0:=Aside0.mk hc0_0;clear hr0_0 hc0_0;have HR0_1:=Aside0.mk hr0_1;have HC0_1:=Aside0.mk hc0_1;clear hr0_1 hc0_1;have HB:=a0_ (Below.refl w.heap.size w);have H:((spec_PlateOk.f k l0_0 l0_1).bind fun t469=>(if t469=true then ((spec_l6In.f a1 1 9).bind fun t470=>(if t470=true then ((spec_PtOk.f a2_0 a2_1).bind fun t471=>(if t471=true then ((spec_l11Edges.f k l0_0 l0_1).bind fun t472=>((spec_l13Fits.f k l0_0 l0_1 t472 a1 a2_0 a2_1).bind fun t475=>(some t475))) else (some false))) else (some false))) else (some false)))=some r:=h;clear h;replace H:=Option.bind_eq_some_iff.mp H;obtain⟨t469,A40,H⟩:=H
 (try dsimp only at H)
 have A4:=Aside0.mk A40;clear A40;by_cases c5:t469=true
 ·
  subst c5;rw [if_pos rfl] at H
  (try dsimp only at H)
  replace H:=Option.bind_eq_some_iff.mp H;obtain⟨t470,A60,H⟩:=H
  (try dsimp only at H)
  have A6:=Aside0.mk A60;clear A60;by_cases c7:t470=true
  ·
   subst c7;rw [if_pos rfl] at H
   (try dsimp only at H)
   replace H:=Option.bind_eq_some_iff.mp H;obtain⟨t471,A80,H⟩:=H
   (try dsimp only at H)
   have A8:=Aside0.mk A80;clear A80;by_cases c9:t471=true
   ·
    subst c9;rw [if_pos rfl] at H
    (try dsimp only at H)
    replace H:=Option.bind_eq_some_iff.mp H;obtain⟨t472,A100,H⟩:=H
    (try dsimp only at H)
    have A10:=Aside0.mk A100;clear A100;replace H:=Option.bind_eq_some_iff.mp H;obtain⟨t475,A110,H⟩:=H
    (try dsimp only at H)
    have A11:=Aside0.mk A110;clear A110;obtain rfl:=Option.some.inj H;go_enter Tryd.func25,Tryd.ntmps25
    try go_wp2_with (first | ((with_reducible refine gate_dst (N:=3) rfl ?_);refine bx_ (N:=3) (cs:=#[.slice A0_0 l0_0.length c0_0,.slice A0_1 l0_1.length c0_1]) (t:=26) (h:=?_);intro gb467 hg w12 hbox hb;have BK467:=a0_ (hbox);have GW467:=gh_ HB hg;have GE467:=gh_ HB hg;replace HB:=sb_ HB hb;clear hb hbox hg) | ((with_reducible refine gate_dst (N:=5) rfl ?_);refine bx_ (N:=5) (cs:=#[.int .i64 a2_0,.int .i64 a2_1]) (t:=28) (h:=?_);intro gb468 hg w13 hbox hb;have BK468:=a0_ (hbox);have GW468:=gh_ HB hg;have GE468:=gh_ HB hg;have NB467_468:=nl_ BK467 hg;have NB468_467:=nr_ BK467 hg;replace BK467:=vb_ BK467 hb;replace HB:=sb_ HB hb;clear hb hbox hg))
    replace BK467:=a0_ (blk_drew BK467.out);replace BK468:=a0_ (blk_drew BK468.out);replace HB:=a0_ (below_drew1 HB.out);refine start_ (n:=19) (S:=fun w'=>w'.cell? ⟨gb467,0,none⟩=some (.slice A0_0 l0_0.length c0_0)∧w'.cell? ⟨gb467,1,none⟩=some (.slice A0_1 l0_1.length c0_1)∧w'.cell? ⟨gb468,0,none⟩=some (.int .i64 a2_0)∧w'.cell? ⟨gb468,1,none⟩=some (.int .i64 a2_1)) (ds:=[]) (Array.replicate 19 false) (by kernel_rfl) rfl rfl ⟨bc_,bc_,bc_,bc_⟩ (fun hHeld=>?_);refine with_tabW spec_ToolFits.tab1 spec_ToolFits.bits1 (fun HT_ HW_=>?_);generalize w13.drew=w14 at BK467 BK468 HB hHeld ⊢
    refine ta4_ HT_ HW_ 0 7 (bm 19 1) hHeld ?_;refine one_ (i:=1) (N:=some 8) (bm 19 3) rfl rfl (one_of HT_.out (by kernel_rfl)) (by decide) (fun K hK=>?_);refine goes_ Tryd.func18 (by kernel_rfl) rfl #[.agg #[.slice A0_0 l0_0.length c0_0,.slice A0_1 l0_1.length c0_1]] (by rfl) rfl rfl ma_ ?_
    with_reducible refine (spec_PlateOk.calls k _ _ l0_0 _ _ l0_1 true _ ?side1 ?side2 ?side3 ?side4 A4.out).mono ?_
    (case side1=>repeat (first | exact (Kd.C_below HR0_0.out HB.out) | (with_reducible refine Kd.C_alloc ?_ _) | (with_reducible refine Kd.C_drewN ?_ _) | (with_reducible refine Kd.C_drew ?_)))
    (case side2=>exact HC0_0.out)
    (case side3=>repeat (first | exact (Kd.C_below HR0_1.out HB.out) | (with_reducible refine Kd.C_alloc ?_ _) | (with_reducible refine Kd.C_drewN ?_ _) | (with_reducible refine Kd.C_drew ?_)))
    (case side4=>exact HC0_1.out)
    rintro e w15 ⟨rfl,hb⟩;refine⟨_,rfl,?_⟩;replace BK467:=vb_ BK467 hb;replace BK468:=vb_ BK468 hb;replace HB:=sb_ HB hb
    (try clear hb)
    (try clear hb2)
    (try clear hk)
    (try clear hi)
    refine hK.out _ _ ⟨bc_,bc_,bc_,bc_⟩ (fun hHeld=>?_);clear hK K;refine no_ (h:=?_);refine pu_ HT_ 2 9 (bm 19 7) ?_;refine pu_ HT_ 3 10 (bm 19 15) ?_;refine one_ (i:=4) (N:=some 11) (bm 19 31) rfl rfl (one_of HT_.out (by kernel_rfl)) (by decide) (fun K hK=>?_);refine goes_ Tryd.func58 (by kernel_rfl) rfl #[.int .i64 a1,.int .i64 1,.int .i64 9] (by rfl) rfl rfl ma_ ?_
    with_reducible refine (spec_l6In.calls a1 1 9 true _ A6.out).mono ?_
    rintro e w' ⟨rfl,⟨nd,rfl⟩⟩;refine⟨_,rfl,?_⟩;refine hK.out _ _ ⟨bc_,bc_,bc_,bc_⟩ (fun hHeld=>?_);clear hK K;refine no_ (h:=?_);refine pu_ HT_ 5 12 (bm 19 63) ?_;refine pu_ HT_ 6 13 (bm 19 127) ?_;refine ta4_ HT_ HW_ 7 14 (bm 19 255) hHeld ?_;refine one_ (i:=8) (N:=some 15) (bm 19 511) rfl rfl (one_of HT_.out (by kernel_rfl)) (by decide) (fun K hK=>?_);refine goes_ Tryd.func19 (by kernel_rfl) rfl #[.agg #[.int .i64 a2_0,.int .i64 a2_1]] (by rfl) rfl rfl ma_ ?_
    with_reducible refine (spec_PtOk.calls a2_0 a2_1 true _ A8.out).mono ?_
    rintro e w16 ⟨rfl,hb⟩;refine⟨_,rfl,?_⟩;replace BK467:=vb_ BK467 hb;replace BK468:=vb_ BK468 hb;replace HB:=sb_ HB hb
    (try clear hb)
    (try clear hb2)
    (try clear hk)
    (try clear hi)
    refine hK.out _ _ ⟨bc_,bc_,bc_,bc_⟩ (fun hHeld=>?_);clear hK K;refine no_ (h:=?_);refine pu_ HT_ 9 16 (bm 19 1023) ?_;refine pu_ HT_ 10 17 (bm 19 2047) ?_;refine pu_ HT_ 14 21 (bm 19 18431) ?_;refine ta4_ HT_ HW_ 11 18 (bm 19 20479) hHeld ?_;refine ta4_ HT_ HW_ 12 19 (bm 19 24575) hHeld ?_;refine ta4_ HT_ HW_ 15 22 (bm 19 57343) hHeld ?_;refine one_ (i:=13) (N:=some 20) (bm 19 65535) rfl rfl (one_of HT_.out (by kernel_rfl)) (by decide) (fun K hK=>?_);refine goes_ Tryd.func66 (by kernel_rfl) rfl #[.agg #[.slice A0_0 l0_0.length c0_0,.slice A0_1 l0_1.length c0_1]] (by rfl) rfl rfl ma_ ?_
    with_reducible refine (spec_l11Edges.calls k _ _ l0_0 _ _ l0_1 t472 _ ?side1 ?side2 ?side3 ?side4 A10.out).mono ?_
    (case side1=>repeat (first | exact (Kd.C_below HR0_0.out HB.out) | (with_reducible refine Kd.C_alloc ?_ _) | (with_reducible refine Kd.C_drewN ?_ _) | (with_reducible refine Kd.C_drew ?_)))
    (case side2=>exact HC0_0.out)
    (case side3=>repeat (first | exact (Kd.C_below HR0_1.out HB.out) | (with_reducible refine Kd.C_alloc ?_ _) | (with_reducible refine Kd.C_drewN ?_ _) | (with_reducible refine Kd.C_drew ?_)))
    (case side4=>exact HC0_1.out)
    rintro e w17 ⟨v473,rfl,ho0,hb⟩;refine⟨_,rfl,?_⟩;have HO474:=a0_ (Kd.R_lower ho0 (below_size hB_));replace BK467:=vb_ BK467 hb;replace BK468:=vb_ BK468 hb;replace HB:=sb_ HB hb
    (try clear hb)
    (try clear hb2)
    (try clear hk)
    (try clear hi)
    (try clear ho0)
    obtain⟨Ao18,co18,eo18⟩:=Kd.R_slice HO474.out
    (first | subst eo18 | (injection eo18 with f1_ f2_ f3_;have f4_:=f1_.symm;have f5_:=f3_.symm;clear f1_ f2_ f3_;subst f4_;subst f5_))
    refine hK.out _ _ ⟨bc_,bc_,bc_,bc_⟩ (fun hHeld=>?_);clear hK K;refine no_ (h:=?_);refine one_ (i:=16) (N:=some 23) (bm 19 131071) rfl rfl (one_of HT_.out (by kernel_rfl)) (by decide) (fun K hK=>?_);refine goes_ Tryd.func65 (by kernel_rfl) rfl #[.agg #[.slice A0_0 l0_0.length c0_0,.slice A0_1 l0_1.length c0_1],.slice Ao18 t472.length co18,.int .i64 a1,.agg #[.int .i64 a2_0,.int .i64 a2_1]] (by rfl) rfl rfl ma_ ?_
    with_reducible refine (spec_l13Fits.calls k _ _ l0_0 _ _ l0_1 _ _ t472 a1 a2_0 a2_1 t475 _ ?side1 ?side2 ?side3 ?side4 ?side5 ?side6 A11.out).mono ?_
    (case side1=>repeat (first | exact (Kd.C_below HR0_0.out HB.out) | (with_reducible refine Kd.C_alloc ?_ _) | (with_reducible refine Kd.C_drewN ?_ _) | (with_reducible refine Kd.C_drew ?_)))
    (case side2=>exact HC0_0.out)
    (case side3=>repeat (first | exact (Kd.C_below HR0_1.out HB.out) | (with_reducible refine Kd.C_alloc ?_ _) | (with_reducible refine Kd.C_drewN ?_ _) | (with_reducible refine Kd.C_drew ?_)))
    (case side4=>exact HC0_1.out)
    (case side5=>repeat (first | exact (Kd.R_reads' HO474.out).2.2 | (with_reducible refine Kd.C_alloc ?_ _) | (with_reducible refine Kd.C_drewN ?_ _) | (with_reducible refine Kd.C_drew ?_)))
    (case side6=>exact (Kd.R_reads' HO474.out).2.1)
    rintro e w19 ⟨rfl,hb⟩;refine⟨_,rfl,?_⟩;replace HO474:=rb_ HO474 hb;replace BK467:=vb_ BK467 hb;replace BK468:=vb_ BK468 hb;replace HB:=sb_ HB hb
    (try clear hb)
    (try clear hb2)
    (try clear hk)
    (try clear hi)
    refine hK.out _ _ ⟨bc_,bc_,bc_,bc_⟩ (fun hHeld=>?_);clear hK K;refine no_ (h:=?_);refine pu_ HT_ 17 24 (bm 19 262143) ?_;refine pu_ HT_ 18 6 (bm 19 524287) ?_;refine done_ (done_of HT_.out (by kernel_rfl)) ?_
    try go_wp2
    go_ret;exact⟨rr_,hB_⟩
   ·
    replace c9:=Bool.eq_false_iff.mpr c9;subst c9;rw [if_neg (show ¬ (false=true) by decide)] at H
    (try dsimp only at H)
    obtain rfl:=Option.some.inj H;go_enter Tryd.func25,Tryd.ntmps25
    try go_wp2_with (first | ((with_reducible refine gate_dst (N:=3) rfl ?_);refine bx_ (N:=3) (cs:=#[.slice A0_0 l0_0.length c0_0,.slice A0_1 l0_1.length c0_1]) (t:=26) (h:=?_);intro gb467 hg w20 hbox hb;have BK467:=a0_ (hbox);have GW467:=gh_ HB hg;have GE467:=gh_ HB hg;replace HB:=sb_ HB hb;clear hb hbox hg) | ((with_reducible refine gate_dst (N:=5) rfl ?_);refine bx_ (N:=5) (cs:=#[.int .i64 a2_0,.int .i64 a2_1]) (t:=28) (h:=?_);intro gb468 hg w21 hbox hb;have BK468:=a0_ (hbox);have GW468:=gh_ HB hg;have GE468:=gh_ HB hg;have NB467_468:=nl_ BK467 hg;have NB468_467:=nr_ BK467 hg;replace BK467:=vb_ BK467 hb;replace HB:=sb_ HB hb;clear hb hbox hg))
    replace BK467:=a0_ (blk_drew BK467.out);replace BK468:=a0_ (blk_drew BK468.out);replace HB:=a0_ (below_drew1 HB.out);refine start_ (n:=19) (S:=fun w'=>w'.cell? ⟨gb467,0,none⟩=some (.slice A0_0 l0_0.length c0_0)∧w'.cell? ⟨gb467,1,none⟩=some (.slice A0_1 l0_1.length c0_1)∧w'.cell? ⟨gb468,0,none⟩=some (.int .i64 a2_0)∧w'.cell? ⟨gb468,1,none⟩=some (.int .i64 a2_1)) (ds:=[]) (Array.replicate 19 false) (by kernel_rfl) rfl rfl ⟨bc_,bc_,bc_,bc_⟩ (fun hHeld=>?_);refine with_tabW spec_ToolFits.tab1 spec_ToolFits.bits1 (fun HT_ HW_=>?_);generalize w21.drew=w22 at BK467 BK468 HB hHeld ⊢
    refine ta4_ HT_ HW_ 0 7 (bm 19 1) hHeld ?_;refine one_ (i:=1) (N:=some 8) (bm 19 3) rfl rfl (one_of HT_.out (by kernel_rfl)) (by decide) (fun K hK=>?_);refine goes_ Tryd.func18 (by kernel_rfl) rfl #[.agg #[.slice A0_0 l0_0.length c0_0,.slice A0_1 l0_1.length c0_1]] (by rfl) rfl rfl ma_ ?_
    with_reducible refine (spec_PlateOk.calls k _ _ l0_0 _ _ l0_1 true _ ?side1 ?side2 ?side3 ?side4 A4.out).mono ?_
    (case side1=>repeat (first | exact (Kd.C_below HR0_0.out HB.out) | (with_reducible refine Kd.C_alloc ?_ _) | (with_reducible refine Kd.C_drewN ?_ _) | (with_reducible refine Kd.C_drew ?_)))
    (case side2=>exact HC0_0.out)
    (case side3=>repeat (first | exact (Kd.C_below HR0_1.out HB.out) | (with_reducible refine Kd.C_alloc ?_ _) | (with_reducible refine Kd.C_drewN ?_ _) | (with_reducible refine Kd.C_drew ?_)))
    (case side4=>exact HC0_1.out)
    rintro e w23 ⟨rfl,hb⟩;refine⟨_,rfl,?_⟩;replace BK467:=vb_ BK467 hb;replace BK468:=vb_ BK468 hb;replace HB:=sb_ HB hb
    (try clear hb)
    (try clear hb2)
    (try clear hk)
    (try clear hi)
    refine hK.out _ _ ⟨bc_,bc_,bc_,bc_⟩ (fun hHeld=>?_);clear hK K;refine no_ (h:=?_);refine pu_ HT_ 2 9 (bm 19 7) ?_;refine pu_ HT_ 3 10 (bm 19 15) ?_;refine one_ (i:=4) (N:=some 11) (bm 19 31) rfl rfl (one_of HT_.out (by kernel_rfl)) (by decide) (fun K hK=>?_);refine goes_ Tryd.func58 (by kernel_rfl) rfl #[.int .i64 a1,.int .i64 1,.int .i64 9] (by rfl) rfl rfl ma_ ?_
    with_reducible refine (spec_l6In.calls a1 1 9 true _ A6.out).mono ?_
    rintro e w' ⟨rfl,⟨nd,rfl⟩⟩;refine⟨_,rfl,?_⟩;refine hK.out _ _ ⟨bc_,bc_,bc_,bc_⟩ (fun hHeld=>?_);clear hK K;refine no_ (h:=?_);refine pu_ HT_ 5 12 (bm 19 63) ?_;refine pu_ HT_ 6 13 (bm 19 127) ?_;refine ta4_ HT_ HW_ 7 14 (bm 19 255) hHeld ?_;refine one_ (i:=8) (N:=some 15) (bm 19 511) rfl rfl (one_of HT_.out (by kernel_rfl)) (by decide) (fun K hK=>?_);refine goes_ Tryd.func19 (by kernel_rfl) rfl #[.agg #[.int .i64 a2_0,.int .i64 a2_1]] (by rfl) rfl rfl ma_ ?_
    with_reducible refine (spec_PtOk.calls a2_0 a2_1 false _ A8.out).mono ?_
    rintro e w24 ⟨rfl,hb⟩;refine⟨_,rfl,?_⟩;replace BK467:=vb_ BK467 hb;replace BK468:=vb_ BK468 hb;replace HB:=sb_ HB hb
    (try clear hb)
    (try clear hb2)
    (try clear hk)
    (try clear hi)
    refine hK.out _ _ ⟨bc_,bc_,bc_,bc_⟩ (fun hHeld=>?_);clear hK K;refine no_ (h:=?_);refine pu_ HT_ 9 16 (bm 19 1023) ?_;refine pu_ HT_ 10 17 (bm 19 2047) ?_;refine pz_ HT_ 11 18 (bm 19 4095) ?_;refine pz_ HT_ 12 19 (bm 19 8191) ?_;refine pz_ HT_ 13 20 (bm 19 16383) ?_;refine pz_ HT_ 14 21 (bm 19 32767) ?_;refine pz_ HT_ 15 22 (bm 19 65535) ?_;refine pz_ HT_ 16 23 (bm 19 131071) ?_;refine pu_ HT_ 17 24 (bm 19 262143) ?_;refine pu_ HT_ 18 6 (bm 19 524287) ?_;refine done_ (done_of HT_.out (by kernel_rfl)) ?_
    try go_wp2
    go_ret;exact⟨rr_,hB_⟩
  ·
   replace c7:=Bool.eq_false_iff.mpr c7;subst c7;rw [if_neg (show ¬ (false=true) by decide)] at H
   (try dsimp only at H)
   obtain rfl:=Option.some.inj H;go_enter Tryd.func25,Tryd.ntmps25
   try go_wp2_with (first | ((with_reducible refine gate_dst (N:=3) rfl ?_);refine bx_ (N:=3) (cs:=#[.slice A0_0 l0_0.length c0_0,.slice A0_1 l0_1.length c0_1]) (t:=26) (h:=?_);intro gb467 hg w25 hbox hb;have BK467:=a0_ (hbox);have GW467:=gh_ HB hg;have GE467:=gh_ HB hg;replace HB:=sb_ HB hb;clear hb hbox hg) | ((with_reducible refine gate_dst (N:=5) rfl ?_);refine bx_ (N:=5) (cs:=#[.int .i64 a2_0,.int .i64 a2_1]) (t:=28) (h:=?_);intro gb468 hg w26 hbox hb;have BK468:=a0_ (hbox);have GW468:=gh_ HB hg;have GE468:=gh_ HB hg;have NB467_468:=nl_ BK467 hg;have NB468_467:=nr_ BK467 hg;replace BK467:=vb_ BK467 hb;replace HB:=sb_ HB hb;clear hb hbox hg))
   replace BK467:=a0_ (blk_drew BK467.out);replace BK468:=a0_ (blk_drew BK468.out);replace HB:=a0_ (below_drew1 HB.out);refine start_ (n:=19) (S:=fun w'=>w'.cell? ⟨gb467,0,none⟩=some (.slice A0_0 l0_0.length c0_0)∧w'.cell? ⟨gb467,1,none⟩=some (.slice A0_1 l0_1.length c0_1)) (ds:=[]) (Array.replicate 19 false) (by kernel_rfl) rfl rfl ⟨bc_,bc_⟩ (fun hHeld=>?_);refine with_tabW spec_ToolFits.tab1 spec_ToolFits.bits1 (fun HT_ HW_=>?_);generalize w26.drew=w27 at BK467 BK468 HB hHeld ⊢
   refine ta2_ HT_ HW_ 0 7 (bm 19 1) hHeld ?_;refine one_ (i:=1) (N:=some 8) (bm 19 3) rfl rfl (one_of HT_.out (by kernel_rfl)) (by decide) (fun K hK=>?_);refine goes_ Tryd.func18 (by kernel_rfl) rfl #[.agg #[.slice A0_0 l0_0.length c0_0,.slice A0_1 l0_1.length c0_1]] (by rfl) rfl rfl ma_ ?_
   with_reducible refine (spec_PlateOk.calls k _ _ l0_0 _ _ l0_1 true _ ?side1 ?side2 ?side3 ?side4 A4.out).mono ?_
   (case side1=>repeat (first | exact (Kd.C_below HR0_0.out HB.out) | (with_reducible refine Kd.C_alloc ?_ _) | (with_reducible refine Kd.C_drewN ?_ _) | (with_reducible refine Kd.C_drew ?_)))
   (case side2=>exact HC0_0.out)
   (case side3=>repeat (first | exact (Kd.C_below HR0_1.out HB.out) | (with_reducible refine Kd.C_alloc ?_ _) | (with_reducible refine Kd.C_drewN ?_ _) | (with_reducible refine Kd.C_drew ?_)))
   (case side4=>exact HC0_1.out)
   rintro e w28 ⟨rfl,hb⟩;refine⟨_,rfl,?_⟩;replace BK467:=vb_ BK467 hb;replace BK468:=vb_ BK468 hb;replace HB:=sb_ HB hb
   (try clear hb)
   (try clear hb2)
   (try clear hk)
   (try clear hi)
   refine hK.out _ _ ⟨bc_,bc_⟩ (fun hHeld=>?_);clear hK K;refine no_ (h:=?_);refine pu_ HT_ 2 9 (bm 19 7) ?_;refine pu_ HT_ 3 10 (bm 19 15) ?_;refine one_ (i:=4) (N:=some 11) (bm 19 31) rfl rfl (one_of HT_.out (by kernel_rfl)) (by decide) (fun K hK=>?_);refine goes_ Tryd.func58 (by kernel_rfl) rfl #[.int .i64 a1,.int .i64 1,.int .i64 9] (by rfl) rfl rfl ma_ ?_
   with_reducible refine (spec_l6In.calls a1 1 9 false _ A6.out).mono ?_
   rintro e w' ⟨rfl,⟨nd,rfl⟩⟩;refine⟨_,rfl,?_⟩;refine hK.out _ _ ⟨bc_,bc_⟩ (fun hHeld=>?_);clear hK K;refine no_ (h:=?_);refine pu_ HT_ 5 12 (bm 19 63) ?_;refine pu_ HT_ 6 13 (bm 19 127) ?_;refine pz_ HT_ 7 14 (bm 19 255) ?_;refine pz_ HT_ 8 15 (bm 19 511) ?_;refine pu_ HT_ 9 16 (bm 19 1023) ?_;refine pu_ HT_ 10 17 (bm 19 2047) ?_;refine pz_ HT_ 11 18 (bm 19 4095) ?_;refine pz_ HT_ 12 19 (bm 19 8191) ?_;refine pz_ HT_ 13 20 (bm 19 16383) ?_;refine pz_ HT_ 14 21 (bm 19 32767) ?_;refine pz_ HT_ 15 22 (bm 19 65535) ?_;refine pz_ HT_ 16 23 (bm 19 131071) ?_;refine pu_ HT_ 17 24 (bm 19 262143) ?_;refine pu_ HT_ 18 6 (bm 19 524287) ?_;refine done_ (done_of HT_.out (by kernel_rfl)) ?_
   try go_wp2
   go_ret;exact⟨rr_,hB_⟩
 ·
  replace c5:=Bool.eq_false_iff.mpr c5;subst c5;rw [if_neg (show ¬ (false=true) by decide)] at H
  (try dsimp only at H)
  obtain rfl:=Option.some.inj H;go_enter Tryd.func25,Tryd.ntmps25
  try go_wp2_with (first | ((with_reducible refine gate_dst (N:=3) rfl ?_);refine bx_ (N:=3) (cs:=#[.slice A0_0 l0_0.length c0_0,.slice A0_1 l0_1.length c0_1]) (t:=26) (h:=?_);intro gb467 hg w29 hbox hb;have BK467:=a0_ (hbox);have GW467:=gh_ HB hg;have GE467:=gh_ HB hg;replace HB:=sb_ HB hb;clear hb hbox hg) | ((with_reducible refine gate_dst (N:=5) rfl ?_);refine bx_ (N:=5) (cs:=#[.int .i64 a2_0,.int .i64 a2_1]) (t:=28) (h:=?_);intro gb468 hg w30 hbox hb;have BK468:=a0_ (hbox);have GW468:=gh_ HB hg;have GE468:=gh_ HB hg;have NB467_468:=nl_ BK467 hg;have NB468_467:=nr_ BK467 hg;replace BK467:=vb_ BK467 hb;replace HB:=sb_ HB hb;clear hb hbox hg))
  replace BK467:=a0_ (blk_drew BK467.out);replace BK468:=a0_ (blk_drew BK468.out);replace HB:=a0_ (below_drew1 HB.out);refine start_ (n:=19) (S:=fun w'=>w'.cell? ⟨gb467,0,none⟩=some (.slice A0_0 l0_0.length c0_0)∧w'.cell? ⟨gb467,1,none⟩=some (.slice A0_1 l0_1.length c0_1)) (ds:=[]) (Array.replicate 19 false) (by kernel_rfl) rfl rfl ⟨bc_,bc_⟩ (fun hHeld=>?_);refine with_tabW spec_ToolFits.tab1 spec_ToolFits.bits1 (fun HT_ HW_=>?_);generalize w30.drew=w31 at BK467 BK468 HB hHeld ⊢
  refine ta2_ HT_ HW_ 0 7 (bm 19 1) hHeld ?_;refine one_ (i:=1) (N:=some 8) (bm 19 3) rfl rfl (one_of HT_.out (by kernel_rfl)) (by decide) (fun K hK=>?_);refine goes_ Tryd.func18 (by kernel_rfl) rfl #[.agg #[.slice A0_0 l0_0.length c0_0,.slice A0_1 l0_1.length c0_1]] (by rfl) rfl rfl ma_ ?_
  with_reducible refine (spec_PlateOk.calls k _ _ l0_0 _ _ l0_1 false _ ?side1 ?side2 ?side3 ?side4 A4.out).mono ?_
  (case side1=>repeat (first | exact (Kd.C_below HR0_0.out HB.out) | (with_reducible refine Kd.C_alloc ?_ _) | (with_reducible refine Kd.C_drewN ?_ _) | (with_reducible refine Kd.C_drew ?_)))
  (case side2=>exact HC0_0.out)
  (case side3=>repeat (first | exact (Kd.C_below HR0_1.out HB.out) | (with_reducible refine Kd.C_alloc ?_ _) | (with_reducible refine Kd.C_drewN ?_ _) | (with_reducible refine Kd.C_drew ?_)))
  (case side4=>exact HC0_1.out)
  rintro e w32 ⟨rfl,hb⟩;refine⟨_,rfl,?_⟩;replace BK467:=vb_ BK467 hb;replace BK468:=vb_ BK468 hb;replace HB:=sb_ HB hb
  (try clear hb)
  (try clear hb2)
  (try clear hk)
  (try clear hi)
  refine hK.out _ _ ⟨bc_,bc_⟩ (fun hHeld=>?_);clear hK K;refine no_ (h:=?_);refine pu_ HT_ 2 9 (bm 19 7) ?_;refine pz_ HT_ 3 10 (bm 19 15) ?_;refine pz_ HT_ 4 11 (bm 19 31) ?_;refine pu_ HT_ 5 12 (bm 19 63) ?_;refine pu_ HT_ 6 13 (bm 19 127) ?_;refine pz_ HT_ 7 14 (bm 19 255) ?_;refine pz_ HT_ 8 15 (bm 19 511) ?_;refine pu_ HT_ 9 16 (bm 19 1023) ?_;refine pu_ HT_ 10 17 (bm 19 2047) ?_;refine pz_ HT_ 11 18 (bm 19 4095) ?_;refine pz_ HT_ 12 19 (bm 19 8191) ?_;refine pz_ HT_ 13 20 (bm 19 16383) ?_;refine pz_ HT_ 14 21 (bm 19 32767) ?_;refine pz_ HT_ 15 22 (bm 19 65535) ?_;refine pz_ HT_ 16 23 (bm 19 131071) ?_;refine pu_ HT_ 17 24 (bm 19 262143) ?_;refine pu_ HT_ 18 6 (bm 19 524287) ?_;refine done_ (done_of HT_.out (by kernel_rfl)) ?_
  try go_wp2
  go_ret;exact⟨rr_,hB_⟩
end Go.Proofs.YtkefmnmoaomlhaaDoor.X
end
section
set_option linter.unusedVariables false
set_option linter.unusedSimpArgs false
namespace Mort
def farL (es:List Seg)(p:Pt):Frac:=match es with
 | []=>(0,0)
 | e::r=>r.foldl (fun a s=>least a (segFar s p)) (segFar e p)
def toolOk (q:Int):Bool:=decide (1≤q) && decide (q≤9)
def toolFits (P:Plate)(q:Int)(p:Pt):Bool:=plateOk P && (toolOk q && (ptOk p && (plateInOf P p==1 && decide (0≤fracCmp (farL (plateEdges P) p) (q,1)))))
theorem fold_least {p:Pt}(hp:ptOk p=true):∀ (r:List Seg) (a:Frac),fracOk a=true→(∀ e∈r,segOk e=true) →
  fracOk (r.foldl (fun a s=>least a (segFar s p)) a)=true∧val (r.foldl (fun a s=>least a (segFar s p)) a)≤val a∧(∀ e∈r,val (r.foldl (fun a s=>least a (segFar s p)) a)≤val (segFar e p)) ∧
  (r.foldl (fun a s=>least a (segFar s p)) a=a∨∃ e∈r,r.foldl (fun a s=>least a (segFar s p)) a=segFar e p):=by
 intro r
 induction r with
 | nil=>intro a ha _;exact⟨ha,Rat.le_refl,fun e he=>by simp at he,.inl rfl⟩
 | cons s r ih =>
  intro a ha hr;have hs:=(segFar_ok (hr s List.mem_cons_self) hp).1;obtain⟨⟨l1,l2⟩,l3⟩:=val_least ha hs;obtain⟨i1,i2,i3,i4⟩:=ih (least a (segFar s p)) (least_ok ha hs) (fun e he=>hr e (List.mem_cons_of_mem _ he));rw [List.foldl_cons];refine⟨i1,Rat.le_trans i2 l1,fun e he=>?_,?_⟩
  ·
   rcases List.mem_cons.1 he with rfl | he
   ·
    exact Rat.le_trans i2 l2
   ·
    exact i3 e he
  ·
   rcases i4 with h | ⟨e,he,h⟩
   ·
    rw [h]
    rcases l3 with h3 | h3
    ·
     exact .inl h3
    ·
     exact .inr ⟨s,List.mem_cons_self,h3⟩
   ·
    exact .inr ⟨e,List.mem_cons_of_mem _ he,h⟩
theorem farL_spec {es:List Seg}{p:Pt}(hp:ptOk p=true)(hne:0<es.length)(hok:∀ e∈es,segOk e=true):
  fracOk (farL es p)=true∧(∀ e∈es,val (farL es p)≤val (segFar e p))∧∃ e∈es,farL es p=segFar e p:=by
 cases es with
 | nil=>simp at hne
 | cons e r =>
  obtain⟨i1,i2,i3,i4⟩:=fold_least hp r (segFar e p) (segFar_ok (hok e List.mem_cons_self) hp).1 (fun s hs=>hok s (List.mem_cons_of_mem _ hs));refine⟨i1,fun s hs=>?_,?_⟩
  ·
   rcases List.mem_cons.1 hs with rfl | hs
   ·
    exact i2
   ·
    exact i3 s hs
  ·
   rcases i4 with h | ⟨s,hs,h⟩
   ·
    exact⟨e,List.mem_cons_self,h⟩
   ·
    exact⟨s,List.mem_cons_of_mem _ hs,h⟩
theorem plateEdges_ok {P:Plate}(g:PlateGood P):(∀ e∈plateEdges P,segOk e=true)∧0<(plateEdges P).length:=by
 refine⟨fun e he=>?_,?_⟩
 ·
  unfold plateEdges at he
  rcases List.mem_append.1 he with he | he
  ·
   exact ((loopOk_iff _).1 g.outer).2.2.1 e he
  ·
   obtain⟨h,hh,he⟩:=List.mem_flatMap.1 he;exact ((loopOk_iff _).1 (g.holes h hh)).2.2.1 e he
 ·
  unfold plateEdges;rw [List.length_append,edges_length];have:=loop_pos g.outer;omega
end Mort
namespace Go.Proofs.YtkefmnmoaomlhaaDoor.X
open Go.RowKit Go.Proofs.YtkefmnmoaomlhaaDoorW.PrintWords Go.Proofs.YtkefmnmoaomlhaaDoorW.PrintLast Go.Proofs.YtkefmnmoaomlhaaDoorW.PrintMore
open Mort (edges loopOk ptOk segOk has meet ed pairOk joined apartB plateOk plateInOf PlateGood inOf segMeet segFar least fracOk fracCmp cmp0 farL toolFits plateEdges)
theorem edgesS_eq (z:List S28):edgesS z=esOf z:=by
 unfold edgesS esOf;apply List.ext_getElem
 ·
  simp
 ·
  intro i h1 h2;simp
theorem allEdges_pl (o:List S28)(H:List (List S28)):(allEdges (o::H)).map sgP=plateEdges (pl o H):=by
 unfold allEdges plateEdges pl;rw [List.flatMap_cons,List.map_append,edgesS_eq,esOf_edges]
 congr 1
 induction H with
 | nil=>rfl
 | cons z H ih=>rw [List.flatMap_cons,List.map_append,edgesS_eq,esOf_edges,List.map_cons,List.flatMap_cons,ih]
theorem farE_L (E:List S61)(p:Mort.Pt):farE E p=farL (E.map sgP) p:=by
 cases E with
 | nil=>rfl
 | cons e r =>
  show r.foldl _ _=(r.map sgP).foldl _ _
  rw [List.foldl_map]
theorem edges_facts {o:List S28}{H:List (List S28)}(h:plateOk (pl o H)=true):(∀ s∈allEdges (o::H),segOk (sgP s)=true)∧0<(allEdges (o::H)).length∧(allEdges (o::H)).length≤24∧H.length≤2:=by
 rw [← iBodyOk] at h;obtain⟨e0,es,hEe,hle⟩:=allEdges_cons h;refine⟨allEdges_ok h,by rw [hEe];simp,by rw [hEe];simp only [List.length_cons];omega,((bodyOkB_iff o H).1 h).1⟩
theorem iToolFits (o:List S28)(H:List (List S28))(q x y:Int):impl_ToolFits.f o H q x y=some (toolFits (pl o H) q (x,y)):=by
 unfold impl_ToolFits.f toolFits fitsB toolB Mort.toolOk;rw [iBodyOk,farE_L,allEdges_pl]
 cases h:plateOk (pl o H) with
 | false=>rfl
 | true=>rw [runIn_eq h]
theorem sL11Edges {k:Nat}(hk:1000≤k){o:List S28}{H:List (List S28)}(h:plateOk (pl o H)=true):spec_l11Edges.f k o H=some (allEdges (o::H)):=by
 have g:=good_of h;obtain⟨o3,o8,_⟩:=ok_facts (z:=o) g.outer;have hH:∀ z∈H,z.length≤8:=fun z hz=>(ok_facts (g.holes _ (List.mem_map_of_mem hz))).2.1
 have h2:H.length≤2:=(edges_facts h).2.2.2;have loop:∀ (m i k:Nat) (acc:List S61),H.length-i=m→i≤H.length→m+20≤k→acc.length≤100*(i+1)→spec_l11Edges.l0 k acc (i:Int) o H=some (acc++(H.drop i).flatMap esOf):=by
  intro m
  induction m with
  | zero =>
   intro i k acc hm hi hk ha;obtain⟨k,rfl⟩:∃ q,k=q+1:=⟨k-1,by omega⟩;simp only [spec_l11Edges.l0];rw [if_neg (by omega),List.drop_of_length_le (by omega)];simp
  | succ m ih =>
   intro i k acc hm hi hk ha;obtain⟨k,rfl⟩:∃ q,k=q+1:=⟨k-1,by omega⟩;simp only [spec_l11Edges.l0];have hlt:i<H.length:=by omega
   have hg:rd_L5 H (i:Int)=H[i]:=by show H.getD i []=_;rw [List.getD_eq_getElem?_getD,List.getElem?_eq_getElem hlt];rfl
   have hl:=hH _ (List.getElem_mem hlt);rw [if_pos (by omega),if_pos (by omega),hg,sEdges (by omega) (by omega),Option.bind_some,if_pos (by rw [esOf_len];omega),succ64 (by omega),ih (i+1) k _ (by omega) (by omega) (by omega) (by rw [List.length_append,esOf_len];omega),List.drop_eq_getElem_cons hlt,List.flatMap_cons,List.append_assoc]
 unfold spec_l11Edges.f;rw [sEdges (by omega) (by omega),Option.bind_some];refine (loop H.length 0 k _ (by omega) (by omega) (by omega) (by rw [esOf_len];omega)).trans ?_;rw [List.drop_zero];unfold allEdges;rw [List.flatMap_cons,edgesS_eq]
 congr 2
 have:edgesS=esOf:=funext edgesS_eq;rw [this]
theorem rd_seg {E:List S61}{i:Nat}(h:i<E.length):rd_T61 E (i:Int)=E[i]:=by
 show E.getD i _=_
 rw [List.getD_eq_getElem?_getD,List.getElem?_eq_getElem h];rfl
theorem sL13Near {s:S61}{q x y:Int}(hs:segOk (sgP s)=true)(hp:ptOk (x,y)=true)(h1:1≤q)(h9:q≤9):
  spec_l13Near.f s.f0.f0 s.f0.f1 s.f1.f0 s.f1.f1 q x y=some (decide ((Mort.far (sgP s) (x,y)).1<q*(Mort.far (sgP s) (x,y)).2)):=by
 obtain⟨o1,o2⟩:=seg_ends hs;have hin:=Mort.far_inR hs hp;have e:sgP s=((s.f0.f0,s.f0.f1),(s.f1.f0,s.f1.f1)):=rfl;rw [e] at hin ⊢
 generalize s.f0.f0=a at *;generalize s.f0.f1=b at *;generalize s.f1.f0=c at *;generalize s.f1.f1=d at *;unfold spec_l13Near.f Mort.far at *;simp only [sDot o1 o2 hp,sDot o1 o2 o2,sDot o1 hp hp,sDot o2 hp hp,sCross o1 o2 hp,Option.bind_some];by_cases z:Mort.dot (a,b) (c,d) (x,y)≤0
 ·
  rw [if_pos z,if_pos z];simp only [Int.mul_one]
 ·
  rw [if_neg z,if_neg z];rw [if_neg z] at hin;by_cases z':Mort.dot (a,b) (c,d) (c,d)≤Mort.dot (a,b) (c,d) (x,y)
  ·
   rw [if_pos z',if_pos z'];simp only [Int.mul_one]
  ·
   rw [if_neg z',if_neg z'];rw [if_neg z'] at hin;obtain⟨i1,i2,i3,i4⟩:=hin;simp only at i1 i2 i3 i4 ⊢
   have hc:=Mort.cross_bound o1 o2 hp;have hq:=Mort.sq_bound hc.1 hc.2;have m1:0≤q*Mort.dot (a,b) (c,d) (c,d):=Int.mul_nonneg (by omega) (by omega);have m2:q*Mort.dot (a,b) (c,d) (c,d)≤9*99999:=Int.mul_le_mul h9 i4 (by omega) (by decide);rw [w64i (by omega) (by omega),w64i (by omega) (by omega)]
theorem not_near_iff {s:Mort.Seg}{q:Int}{p:Mort.Pt}(hs:segOk s=true)(hp:ptOk p=true)(h1:1≤q)(h9:q≤9):¬ ((Mort.far s p).1<q*(Mort.far s p).2) ↔ (Mort.val (q,1)≤Mort.val (segFar s p)):=by
 have hin:=Mort.far_inR hs hp;rw [(Mort.segFar_ok hs hp).2,Mort.val_le (by show (1:Int)≤1;decide) hin.2.2.1];simp only [Int.mul_one];omega
theorem sToolFits {k:Nat}(hk:300000≤k)(o:List S28)(H:List (List S28))(q x y:Int):spec_ToolFits.f k o H q x y=some (toolFits (pl o H) q (x,y)):=by
 unfold spec_ToolFits.f toolFits;rw [sPlateOk (by omega),Option.bind_some]
 cases h:plateOk (pl o H) with
 | false=>rw [if_neg (by decide)];rfl
 | true =>
  rw [if_pos rfl,l6In_told,Option.bind_some]
  show (if Mort.toolOk q=true then _ else _)=_
  cases ht:Mort.toolOk q with
  | false=>rw [if_neg (by decide)];rfl
  | true =>
   have hq:1≤q∧q≤9:=by unfold Mort.toolOk at ht;simpa using ht
   rw [if_pos rfl,sPtOk,Option.bind_some]
   cases hp:ptOk (x,y) with
   | false=>rw [if_neg (by decide)];rfl
   | true =>
    obtain⟨e1,e2,e3,_⟩:=edges_facts h;rw [if_pos rfl,sL11Edges (by omega) h,Option.bind_some];unfold spec_l13Fits.f;have loop:∀ (m i k:Nat),(allEdges (o::H)).length-i=m→i≤(allEdges (o::H)).length→m+100≤k →
      spec_l13Fits.l0 k (allEdges (o::H)) q (i:Int) o H x y=some (((allEdges (o::H)).drop i).all (fun s=>decide (¬ ((Mort.far (sgP s) (x,y)).1<q*(Mort.far (sgP s) (x,y)).2))) && plateInOf (pl o H) (x,y)==1):=by
     intro m
     induction m with
     | zero =>
      intro i k hm hi hk;obtain⟨k,rfl⟩:∃ q,k=q+1:=⟨k-1,by omega⟩;simp only [spec_l13Fits.l0];rw [if_neg (by omega),List.drop_of_length_le (by omega),sL11In (by omega) h hp];rfl
     | succ m ih =>
      intro i k hm hi hk;obtain⟨k,rfl⟩:∃ q,k=q+1:=⟨k-1,by omega⟩;simp only [spec_l13Fits.l0];have hlt:i<(allEdges (o::H)).length:=by omega
      rw [if_pos (by omega),if_pos (by omega),rd_seg hlt,sL13Near (e1 _ (List.getElem_mem hlt)) hp hq.1 hq.2,Option.bind_some,List.drop_eq_getElem_cons hlt,List.all_cons];by_cases e:(Mort.far (sgP (allEdges (o::H))[i]) (x,y)).1<q*(Mort.far (sgP (allEdges (o::H))[i]) (x,y)).2
      ·
       rw [decide_eq_true e,if_pos rfl,decide_eq_false (fun hh=>hh e)];rfl
      ·
       rw [decide_eq_false e,if_neg (by decide),succ64 (by omega),ih (i+1) k (by omega) (by omega) (by omega),decide_eq_true e,Bool.true_and]
    rw [show (0:Int)=((0:Nat):Int) from rfl];rw [loop (allEdges (o::H)).length 0 k (by omega) (by omega) (by omega),Option.bind_some,List.drop_zero,Bool.true_and,Bool.true_and,Bool.true_and]
    congr 1
    rw [Bool.and_comm]
    congr 1
    obtain⟨f1,f2,e,he,f3⟩:=Mort.farL_spec hp (Mort.plateEdges_ok (good_of h)).2 (Mort.plateEdges_ok (good_of h)).1;have hqo:fracOk (q,1)=true:=Mort.fracOk_whole (by omega) (by omega);rw [Bool.eq_iff_iff,List.all_eq_true,decide_eq_true_eq];have e0:((0:Nat):Int)=0:=rfl;rw [e0,Mort.cmp_ge f1 hqo];constructor
    ·
     intro hall;rw [f3];rw [← allEdges_pl] at he;obtain⟨s,hs,rfl⟩:=List.mem_map.1 he;have:=hall s hs;rw [decide_eq_true_eq] at this;exact (not_near_iff (e1 s hs) hp hq.1 hq.2).1 this
    ·
     intro hv s hs;rw [decide_eq_true_eq];refine (not_near_iff (e1 s hs) hp hq.1 hq.2).2 (Rat.le_trans hv (f2 _ ?_));rw [← allEdges_pl];exact List.mem_map_of_mem hs
end Go.Proofs.YtkefmnmoaomlhaaDoor.X
end
section
set_option linter.unusedVariables false
set_option linter.unusedSimpArgs false
namespace Go.Proofs.YtkefmnmoaomlhaaDoor.X
open Go.RowKit Go.Proofs.YtkefmnmoaomlhaaDoorW.PrintWords Go.Proofs.YtkefmnmoaomlhaaDoorW.PrintLast Go.Proofs.YtkefmnmoaomlhaaDoorW.PrintMore
def Tells {α:Type}(K:Nat)(f:Nat→Option α)(P:α→Prop):Prop:=∃ a,(∀ k,K≤k→f k=some a)∧P a
namespace Tells
variable {α β:Type} {K:Nat} {P:α→Prop} {Q:β→Prop}
theorem bind {f:Nat→Option α}{g:α→Nat→Option β}(h:Tells K f P)(hg:∀ a,P a→Tells K (g a) Q):Tells K (fun k=>(f k).bind fun a=>g a k) Q:=by
 obtain⟨a,h1,h2⟩:=h;obtain⟨b,h3,h4⟩:=hg a h2;exact⟨b,fun k hk=>by show (f k).bind _=_;rw [h1 k hk,Option.bind_some,h3 k hk],h4⟩
theorem ret (a:α)(h:P a):Tells K (fun _=>some a) P:=⟨a,fun _ _=>rfl,h⟩
theorem ite {c:Prop}[Decidable c]{f g:Nat→Option α}(h1:c→Tells K f P)(h2:¬ c→Tells K g P):Tells K (fun k=>if c then f k else g k) P:=by
 by_cases h:c
 ·
  obtain⟨a,e,p⟩:=h1 h;exact⟨a,fun k hk=>by show (if c then _ else _)=_;rw [if_pos h,e k hk],p⟩
 ·
  obtain⟨a,e,p⟩:=h2 h;exact⟨a,fun k hk=>by show (if c then _ else _)=_;rw [if_neg h,e k hk],p⟩
theorem guard {c:Prop}[Decidable c]{f:Nat→Option α}(h:c)(h1:Tells K f P):Tells K (fun k=>if c then f k else none) P:=ite (fun _=>h1) (fun n=>absurd h n)
theorem up {K':Nat}{f:Nat→Option α}(hk:K≤K')(h:Tells K f P):Tells K' f P:=by
 obtain⟨a,e,p⟩:=h;exact⟨a,fun k hk'=>e k (by omega),p⟩
theorem mono {P':α→Prop}{f:Nat→Option α}(h:Tells K f P)(hp:∀ a,P a→P' a):Tells K f P':=by
 obtain⟨a,e,p⟩:=h;exact⟨a,e,hp a p⟩
theorem succ {f g:Nat→Option α}(hf:∀ k,f (k+1)=g k)(h:Tells K g P):Tells (K+1) f P:=by
 obtain⟨a,e,p⟩:=h;refine⟨a,fun k hk=>?_,p⟩;obtain⟨k,rfl⟩:∃ q,k=q+1:=⟨k-1,by omega⟩;rw [hf,e k (by omega)]
theorem same {f g:Nat→Option α}(hf:∀ k,f k=g k)(h:Tells K g P):Tells K f P:=by
 obtain⟨a,e,p⟩:=h;exact⟨a,fun k hk=>by rw [hf,e k hk],p⟩
end Tells
section
variable {l:List Int} (hl:Bytes l)
include hl
end
end Go.Proofs.YtkefmnmoaomlhaaDoor.X
end
section
set_option linter.unusedVariables false
set_option linter.unusedSimpArgs false
namespace Go.Proofs.YtkefmnmoaomlhaaDoor.X
open Go.RowKit Go.Shelf Go.Proofs.YtkefmnmoaomlhaaDoorW.PrintWords Go.Proofs.YtkefmnmoaomlhaaDoorW.PrintLast Go.Proofs.YtkefmnmoaomlhaaDoorW.PrintMore
open Mort (ptOk plateOk toolFits fracCmp)
structure PlateAt (w:World) (A:Option Addr) (c:Nat) (B:Option Addr) (d:Nat) (o:List S28) (H:List (List S28)):Prop where
 outer:Kd.C k28 w A o.length o
 capO:o.length≤c
 holes:Kd.C (Kd.slice 28 k28) w B H.length H
 capH:H.length≤d
theorem PlateAt.later {w w':World}{A B:Option Addr}{c d:Nat}{o:List S28}{H:List (List S28)}(h:PlateAt w A c B d o H)(hb:Below w.heap.size w w'):PlateAt w' A c B d o H:=
 ⟨Kd.C_below h.outer hb,h.capO,Kd.C_below h.holes hb,h.capH⟩
structure DrawnAt (w0 w:World) (g:Nat) (A:Option Addr) (c:Nat) (B:Option Addr) (d:Nat) (o:List S28) (H:List (List S28)) (x y:Int):Prop where
 pl:PlateAt w A c B d o H
 bw:Below w0.heap.size w0 w
 n1:w.heap[g]?=some (.cells #[.slice A o.length c,.slice B H.length d] 26 (0,0))
 n2:w.heap[g+1]?=some (.cells #[.int .i64 x,.int .i64 y] 28 (0,0))
namespace DrawnAt
variable {w0 w w':World} {g:Nat} {A:Option Addr} {c:Nat} {B:Option Addr} {d:Nat} {o:List S28} {H:List (List S28)} {x y:Int}
theorem later (h:DrawnAt w0 w g A c B d o H x y)(hb:Below w.heap.size w w'):DrawnAt w0 w' g A c B d o H x y:=⟨h.pl.later hb,below_step h.bw hb,blk_later h.n1 hb,blk_later h.n2 hb⟩
theorem cells (h:DrawnAt w0 w g A c B d o H x y):w.cell? ⟨g,0,none⟩=some (.slice A o.length c)∧w.cell? ⟨g,1,none⟩=some (.slice B H.length d)∧w.cell? ⟨g+1,0,none⟩=some (.int .i64 x)∧w.cell? ⟨g+1,1,none⟩=some (.int .i64 y):=
 ⟨(blk_cell h.n1 0).trans rfl,(blk_cell h.n1 1).trans rfl,(blk_cell h.n2 0).trans rfl,(blk_cell h.n2 1).trans rfl⟩
theorem new (h:PlateAt w A c B d o H)(hb:Below w0.heap.size w0 w)(x y:Int):DrawnAt w0 ((w.alloc (.cells #[.slice A o.length c,.slice B H.length d] 26)).alloc (.cells #[.int .i64 x,.int .i64 y] 28)) w.heap.size A c B d o H x y:=by
 have n2:=blk_new (w.alloc (.cells #[.slice A o.length c,.slice B H.length d] 26)) (.cells #[.int .i64 x,.int .i64 y] 28 (0,0));rw [World.size_alloc] at n2;exact⟨h.later (below_alloc (below_alloc (Below.refl _ w) _) _),below_alloc (below_alloc hb _) _,blk_alloc (blk_new w _) _,n2⟩
end DrawnAt
section
variable {A:Option Addr} {c:Nat} {B:Option Addr} {d:Nat} {o:List S28} {H:List (List S28)} {w:World} (h:PlateAt w A c B d o H)
include h
theorem PlateAt.iFits (hE:ErrW w){q x y:Int}{b:Bool}(e:toolFits (pl o H) q (x,y)=b):
  Calls Tryd.prog 28 #[.agg #[.slice A o.length c,.slice B H.length d],.int .i64 q,.agg #[.int .i64 x,.int .i64 y]] w fun e w'=>e=.returned (.bool b)∧Below w.heap.size w w':=
 impl_ToolFits.calls A c o B d H q x y b w h.outer h.capO h.holes h.capH hE ((iToolFits o H q x y).trans (congrArg some e))
theorem PlateAt.sFits {q x y:Int}{b:Bool}(e:toolFits (pl o H) q (x,y)=b):
  Calls Tryd.prog 25 #[.agg #[.slice A o.length c,.slice B H.length d],.int .i64 q,.agg #[.int .i64 x,.int .i64 y]] w fun e w'=>e=.returned (.bool b)∧Below w.heap.size w w':=
 spec_ToolFits.calls 300000 A c o B d H q x y b w h.outer h.capO h.holes h.capH ((sToolFits (Nat.le_refl _) o H q x y).trans (congrArg some e))
end
end Go.Proofs.YtkefmnmoaomlhaaDoor.X
end
