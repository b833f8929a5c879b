/- FnExactSegApart: the law returns true for every input, and each input reads behind the call as before; part 5 of 6. No condition. Merged by program out of: HSeg, HApart. -/
import Derived.Test.YtnponnkcfgjeoaaDoorMFnExactSegApart4
import Derived.RegionTactic
import Derived.ChangeAlike
import Derived.OwnWalk
import Derived.Outline
import Derived.Deep.RegionHeld3
import Derived.WalkLawsBesides
import Derived.LoopN
section
set_option linter.unusedVariables false
set_option linter.unusedSimpArgs false
namespace Go.Proofs.YtnponnkcfgjeoaaDoor.X
open Go.RowKit Go.Proofs.YtnponnkcfgjeoaaDoorW.PrintWords Go.Proofs.YtnponnkcfgjeoaaDoorW.PrintLast Go.Proofs.YtnponnkcfgjeoaaDoorW.PrintMore
open Mort
/-- a block of cells, known whole, some steps on -/
theorem blk_on {w w1 : World} {g : Nat} {o : Obj} (hb : Below w.heap.size w w1) (h : w.heap[g]? = some o) : w1.heap[g]? = some o := blk_below h hb
section
variable (bs bp : Nat) (a b c d e f : Int) (w : World) (k : Nat)
  (hs : w.heap[bs]? = some (.cells #[.int .i64 a, .int .i64 b, .int .i64 c, .int .i64 d] 40 (0, 0)))
  (hp : w.heap[bp]? = some (.cells #[.int .i64 e, .int .i64 f] 38 (0, 0)))
include hs hp
set_option maxHeartbeats 1000000 in
set_option maxRecDepth 100000 in
/-- behind the first end -/
theorem far1 {m n1 n2 : Int} (h1 : impl_between.f a b e f = some m) (h2 : impl_FracOf.f k m 1 = some (n1, n2, true)) :
    Calls Tryd.prog 53 #[.pointer (some ⟨bs, 0, none⟩), .pointer (some ⟨bp, 0, none⟩)] w fun x w' => x = .returned (.tuple #[.agg #[.int .i64 n1, .int .i64 n2], .bool true]) ∧ Below w.heap.size w w' := by
  have hB0 := below_alloc (Below.refl w.heap.size w) (.cells #[.int .i64 0, .int .i64 0] 25)
  have hs1 := blk_on hB0 hs
  have hp1 := blk_on hB0 hp
  have hn1 := heap_alloc_new w (.cells #[.int .i64 0, .int .i64 0] 25)
  have HB0 := Aside0.mk hB0
  have HN1 := Aside0.mk hn1
  have H1 := Aside0.mk h1
  have H2 := Aside0.mk h2
  have q0 : (w.alloc (.cells #[.int .i64 0, .int .i64 0] 25)).cell? ⟨bs, 0, none⟩ = some (.int .i64 a) := (blk_cell hs1 0).trans rfl
  have q1 : (w.alloc (.cells #[.int .i64 0, .int .i64 0] 25)).cell? ⟨bs, 1, none⟩ = some (.int .i64 b) := (blk_cell hs1 1).trans rfl
  have q2 : (w.alloc (.cells #[.int .i64 0, .int .i64 0] 25)).cell? ⟨bp, 0, none⟩ = some (.int .i64 e) := (blk_cell hp1 0).trans rfl
  have q3 : (w.alloc (.cells #[.int .i64 0, .int .i64 0] 25)).cell? ⟨bp, 1, none⟩ = some (.int .i64 f) := (blk_cell hp1 1).trans rfl
  have hu1 := Tryd.underlying40
  have hu2 := Tryd.underlying38
  have hu3 := Tryd.underlying25
  clear h1 h2 hs hp hs1 hp1 hn1 hB0
  go_enter Tryd.func53, Tryd.ntmps53
  go_wp2_with fail
  refine (impl_between.calls a b e f m _ H1.out).mono ?_
  rintro x w1 ⟨rfl, hb⟩
  have HB1 := Aside0.mk (below_step HB0.out hb)
  have HN2 := Aside0.mk (blk_on hb HN1.out)
  clear hb q0 q1 q2 q3 HN1
  go_wp2_with fail
  refine (impl_FracOf.calls k m 1 n1 n2 true _ H2.out).mono ?_
  rintro x w2 ⟨rfl, hb⟩
  have HB2 := Aside0.mk (below_step HB1.out hb)
  have HN3 := Aside0.mk (blk_on hb HN2.out)
  have q0 : w2.cell? ⟨w.heap.size, 0, none⟩ = some (.int .i64 0) := (blk_cell HN3.out 0).trans rfl
  have q1 : w2.cell? ⟨w.heap.size, 1, none⟩ = some (.int .i64 0) := (blk_cell HN3.out 1).trans rfl
  have q2 := blk_frozen HN3.out 0
  have q3 := blk_frozen HN3.out 1
  clear hb HN2
  go_wp2_with fail
  refine bodyPost_ret (results_ct rfl _ _ w.heap.size 25 #[.int .i64 n1, .int .i64 n2] (0, 0) _ rfl (by refine blk_put (cs := #[.int .i64 n1, .int .i64 0]) ?_ 1 _ rfl; refine blk_put (cs := #[.int .i64 0, .int .i64 0]) ?_ 0 _ rfl; exact HN3.out) Tryd.underlying25 rfl (by kernel_rfl)) rfl ?_
  exact ⟨rfl, by refine below_set ?_ (Nat.le_refl _); refine below_set ?_ (Nat.le_refl _); exact HB2.out⟩
set_option maxHeartbeats 1000000 in
set_option maxRecDepth 100000 in
/-- beside the segment -/
theorem far2 {t m n1 n2 : Int} (h0 : impl_cross.f a b c d e f = some t) (h1 : impl_between.f a b c d = some m) (h2 : impl_FracOf.f k (wrap64 (t * t)) m = some (n1, n2, true)) :
    Calls Tryd.prog 55 #[.pointer (some ⟨bs, 0, none⟩), .pointer (some ⟨bp, 0, none⟩)] w fun x w' => x = .returned (.tuple #[.agg #[.int .i64 n1, .int .i64 n2], .bool true]) ∧ Below w.heap.size w w' := by
  have hB0 := below_alloc (Below.refl w.heap.size w) (.cells #[.int .i64 0, .int .i64 0] 25)
  have hs1 := blk_on hB0 hs
  have hp1 := blk_on hB0 hp
  have hn1 := heap_alloc_new w (.cells #[.int .i64 0, .int .i64 0] 25)
  have HB0 := Aside0.mk hB0
  have HN1 := Aside0.mk hn1
  have HS := Aside0.mk hs
  have HP := Aside0.mk hp
  have H0 := Aside0.mk h0
  have H1 := Aside0.mk h1
  have H2 := Aside0.mk h2
  have q0 : (w.alloc (.cells #[.int .i64 0, .int .i64 0] 25)).cell? ⟨bs, 0, none⟩ = some (.int .i64 a) := (blk_cell hs1 0).trans rfl
  have q1 : (w.alloc (.cells #[.int .i64 0, .int .i64 0] 25)).cell? ⟨bs, 1, none⟩ = some (.int .i64 b) := (blk_cell hs1 1).trans rfl
  have q2 : (w.alloc (.cells #[.int .i64 0, .int .i64 0] 25)).cell? ⟨bs, 2, none⟩ = some (.int .i64 c) := (blk_cell hs1 2).trans rfl
  have q3 : (w.alloc (.cells #[.int .i64 0, .int .i64 0] 25)).cell? ⟨bs, 3, none⟩ = some (.int .i64 d) := (blk_cell hs1 3).trans rfl
  have q4 : (w.alloc (.cells #[.int .i64 0, .int .i64 0] 25)).cell? ⟨bp, 0, none⟩ = some (.int .i64 e) := (blk_cell hp1 0).trans rfl
  have q5 : (w.alloc (.cells #[.int .i64 0, .int .i64 0] 25)).cell? ⟨bp, 1, none⟩ = some (.int .i64 f) := (blk_cell hp1 1).trans rfl
  have hu1 := Tryd.underlying40
  have hu2 := Tryd.underlying38
  have hu3 := Tryd.underlying25
  clear h0 h1 h2 hs hp hs1 hp1 hn1 hB0
  go_enter Tryd.func55, Tryd.ntmps55
  go_wp2_with fail
  refine (impl_cross.calls a b c d e f t _ H0.out).mono ?_
  rintro x w1 ⟨rfl, hb⟩
  have HB1 := Aside0.mk (below_step HB0.out hb)
  have HN2 := Aside0.mk (blk_on hb HN1.out)
  have hs2 := blk_on HB1.out HS.out
  have hp2 := blk_on HB1.out HP.out
  clear hb q0 q1 q2 q3 q4 q5 HN1
  have q0 : w1.cell? ⟨bs, 0, none⟩ = some (.int .i64 a) := (blk_cell hs2 0).trans rfl
  have q1 : w1.cell? ⟨bs, 1, none⟩ = some (.int .i64 b) := (blk_cell hs2 1).trans rfl
  have q2 : w1.cell? ⟨bs, 2, none⟩ = some (.int .i64 c) := (blk_cell hs2 2).trans rfl
  have q3 : w1.cell? ⟨bs, 3, none⟩ = some (.int .i64 d) := (blk_cell hs2 3).trans rfl
  have q4 : w1.cell? ⟨bp, 0, none⟩ = some (.int .i64 e) := (blk_cell hp2 0).trans rfl
  have q5 : w1.cell? ⟨bp, 1, none⟩ = some (.int .i64 f) := (blk_cell hp2 1).trans rfl
  clear hs2 hp2
  go_wp2_with fail
  refine (impl_between.calls a b c d m _ H1.out).mono ?_
  rintro x w2 ⟨rfl, hb⟩
  have HB2 := Aside0.mk (below_step HB1.out hb)
  have HN3 := Aside0.mk (blk_on hb HN2.out)
  clear hb q0 q1 q2 q3 q4 q5 HN2
  go_wp2_with fail
  refine (impl_FracOf.calls k (wrap64 (t * t)) m n1 n2 true _ H2.out).mono ?_
  rintro x w3 ⟨rfl, hb⟩
  have HB3 := Aside0.mk (below_step HB2.out hb)
  have HN4 := Aside0.mk (blk_on hb HN3.out)
  have q0 : w3.cell? ⟨w.heap.size, 0, none⟩ = some (.int .i64 0) := (blk_cell HN4.out 0).trans rfl
  have q1 : w3.cell? ⟨w.heap.size, 1, none⟩ = some (.int .i64 0) := (blk_cell HN4.out 1).trans rfl
  have q2 := blk_frozen HN4.out 0
  have q3 := blk_frozen HN4.out 1
  clear hb HN3
  go_wp2_with fail
  refine bodyPost_ret (results_ct rfl _ _ w.heap.size 25 #[.int .i64 n1, .int .i64 n2] (0, 0) _ rfl (by refine blk_put (cs := #[.int .i64 n1, .int .i64 0]) ?_ 1 _ rfl; refine blk_put (cs := #[.int .i64 0, .int .i64 0]) ?_ 0 _ rfl; exact HN4.out) Tryd.underlying25 rfl (by kernel_rfl)) rfl ?_
  exact ⟨rfl, by refine below_set ?_ (Nat.le_refl _); refine below_set ?_ (Nat.le_refl _); exact HB3.out⟩
set_option maxHeartbeats 1000000 in
set_option maxRecDepth 100000 in
/-- past the other end -/
theorem far3 {m n1 n2 : Int} (h1 : impl_between.f c d e f = some m) (h2 : impl_FracOf.f k m 1 = some (n1, n2, true)) :
    Calls Tryd.prog 57 #[.pointer (some ⟨bs, 0, none⟩), .pointer (some ⟨bp, 0, none⟩)] w fun x w' => x = .returned (.tuple #[.agg #[.int .i64 n1, .int .i64 n2], .bool true]) ∧ Below w.heap.size w w' := by
  have hB0 := below_alloc (Below.refl w.heap.size w) (.cells #[.int .i64 0, .int .i64 0] 25)
  have hs1 := blk_on hB0 hs
  have hp1 := blk_on hB0 hp
  have hn1 := heap_alloc_new w (.cells #[.int .i64 0, .int .i64 0] 25)
  have HB0 := Aside0.mk hB0
  have HN1 := Aside0.mk hn1
  have H1 := Aside0.mk h1
  have H2 := Aside0.mk h2
  have q0 : (w.alloc (.cells #[.int .i64 0, .int .i64 0] 25)).cell? ⟨bs, 2, none⟩ = some (.int .i64 c) := (blk_cell hs1 2).trans rfl
  have q1 : (w.alloc (.cells #[.int .i64 0, .int .i64 0] 25)).cell? ⟨bs, 3, none⟩ = some (.int .i64 d) := (blk_cell hs1 3).trans rfl
  have q2 : (w.alloc (.cells #[.int .i64 0, .int .i64 0] 25)).cell? ⟨bp, 0, none⟩ = some (.int .i64 e) := (blk_cell hp1 0).trans rfl
  have q3 : (w.alloc (.cells #[.int .i64 0, .int .i64 0] 25)).cell? ⟨bp, 1, none⟩ = some (.int .i64 f) := (blk_cell hp1 1).trans rfl
  have hu1 := Tryd.underlying40
  have hu2 := Tryd.underlying38
  have hu3 := Tryd.underlying25
  clear h1 h2 hs hp hs1 hp1 hn1 hB0
  go_enter Tryd.func57, Tryd.ntmps57
  go_wp2_with fail
  refine (impl_between.calls c d e f m _ H1.out).mono ?_
  rintro x w1 ⟨rfl, hb⟩
  have HB1 := Aside0.mk (below_step HB0.out hb)
  have HN2 := Aside0.mk (blk_on hb HN1.out)
  clear hb q0 q1 q2 q3 HN1
  go_wp2_with fail
  refine (impl_FracOf.calls k m 1 n1 n2 true _ H2.out).mono ?_
  rintro x w2 ⟨rfl, hb⟩
  have HB2 := Aside0.mk (below_step HB1.out hb)
  have HN3 := Aside0.mk (blk_on hb HN2.out)
  have q0 : w2.cell? ⟨w.heap.size, 0, none⟩ = some (.int .i64 0) := (blk_cell HN3.out 0).trans rfl
  have q1 : w2.cell? ⟨w.heap.size, 1, none⟩ = some (.int .i64 0) := (blk_cell HN3.out 1).trans rfl
  have q2 := blk_frozen HN3.out 0
  have q3 := blk_frozen HN3.out 1
  clear hb HN2
  go_wp2_with fail
  refine bodyPost_ret (results_ct rfl _ _ w.heap.size 25 #[.int .i64 n1, .int .i64 n2] (0, 0) _ rfl (by refine blk_put (cs := #[.int .i64 n1, .int .i64 0]) ?_ 1 _ rfl; refine blk_put (cs := #[.int .i64 0, .int .i64 0]) ?_ 0 _ rfl; exact HN3.out) Tryd.underlying25 rfl (by kernel_rfl)) rfl ?_
  exact ⟨rfl, by refine below_set ?_ (Nat.le_refl _); refine below_set ?_ (Nat.le_refl _); exact HB2.out⟩
end
theorem boxes3 (w : World) (o1 o2 o3 : Obj) : Below w.heap.size w (((w.alloc o1).alloc o2).alloc o3) ∧ (((w.alloc o1).alloc o2).alloc o3).heap[w.heap.size]? = some o1 ∧
    (((w.alloc o1).alloc o2).alloc o3).heap[w.heap.size + 1]? = some o2 ∧ (((w.alloc o1).alloc o2).alloc o3).heap[w.heap.size + 1 + 1]? = some o3 := by
  have e1 : (w.alloc o1).heap.size = w.heap.size + 1 := Array.size_push _
  have e2 : ((w.alloc o1).alloc o2).heap.size = w.heap.size + 1 + 1 := (Array.size_push (xs := (w.alloc o1).heap) _).trans (congrArg (· + 1) e1)
  refine ⟨below_alloc (below_alloc (below_alloc (Below.refl _ _) _) _) _, ?_, ?_, ?_⟩
  · exact blk_alloc (blk_alloc (heap_alloc_new w o1) _) _
  · rw [← e1]; exact blk_alloc (heap_alloc_new _ o2) _
  · rw [← e2]; exact heap_alloc_new _ o3
@[local go_sem] theorem run_store_fn (P : Program) (w : World) (a : Addr) (m : Mode) (fn : Fn) (first captured : Array Value) : (store a (.func fn first captured) m).run P w = stored P w a (.func fn first captured) m := run_store P w a _ m rfl
@[local go_sem] theorem run_store_nofn (P : Program) (w : World) (a : Addr) (m : Mode) : (store a .nilFunc m).run P w = stored P w a .nilFunc m := run_store P w a _ m rfl
section
variable (a b c d e f : Int) (w : World)
set_option maxHeartbeats 1000000 in
set_option maxRecDepth 100000 in
theorem segFar_bad1 (h : impl_SegOk.f a b c d = some false) :
    Calls Tryd.prog 24 #[.agg #[.int .i64 a, .int .i64 b, .int .i64 c, .int .i64 d], .agg #[.int .i64 e, .int .i64 f]] w fun x w' => x = .returned (.agg #[.int .i64 0, .int .i64 0]) ∧ Below w.heap.size w w' := by
  have hu1 := Tryd.underlying40
  have hu2 := Tryd.underlying38
  have hu3 := Tryd.underlying25
  have HB := Aside0.mk (boxes3 w (.cells #[.int .i64 a, .int .i64 b, .int .i64 c, .int .i64 d] 40) (.cells #[.int .i64 e, .int .i64 f] 38) (.cells #[.int .i64 0, .int .i64 0] 25))
  have H := Aside0.mk h
  clear h
  go_enter Tryd.func24, Tryd.ntmps24
  go_wp2_with fail
  refine (impl_SegOk.calls a b c d false _ H.out).mono ?_
  rintro x w1 ⟨rfl, hb⟩
  have HS := Aside0.mk (blk_on hb HB.out.2.1)
  have HP := Aside0.mk (blk_on hb HB.out.2.2.1)
  have HR := Aside0.mk (blk_on hb HB.out.2.2.2)
  have HB1 := Aside0.mk (below_step HB.out.1 hb)
  clear hb
  have q0 : w1.cell? ⟨w.heap.size + 1 + 1, 0, none⟩ = some (.int .i64 0) := (blk_cell HR.out 0).trans rfl
  have q1 : w1.cell? ⟨w.heap.size + 1 + 1, 1, none⟩ = some (.int .i64 0) := (blk_cell HR.out 1).trans rfl
  have q2 := blk_frozen HR.out 0
  have q3 := blk_frozen HR.out 1
  go_wp2_with fail
  refine bodyPost_ret (results_cell_row rfl _ _ (w.heap.size + 1 + 1) 25 #[.int .i64 0, .int .i64 0] (0, 0) _ rfl (by refine blk_put (cs := #[.int .i64 0, .int .i64 0]) ?_ 1 _ rfl; refine blk_put (cs := #[.int .i64 0, .int .i64 0]) ?_ 0 _ rfl; exact HR.out) Tryd.underlying25 rfl (by kernel_rfl)) rfl ?_
  exact ⟨rfl, by refine below_set ?_ (by omega); refine below_set ?_ (by omega); exact HB1.out⟩
set_option maxHeartbeats 1000000 in
set_option maxRecDepth 100000 in
theorem segFar_bad2 (h : impl_SegOk.f a b c d = some true) (h' : impl_PtOk.f e f = some false) :
    Calls Tryd.prog 24 #[.agg #[.int .i64 a, .int .i64 b, .int .i64 c, .int .i64 d], .agg #[.int .i64 e, .int .i64 f]] w fun x w' => x = .returned (.agg #[.int .i64 0, .int .i64 0]) ∧ Below w.heap.size w w' := by
  have hu1 := Tryd.underlying40
  have hu2 := Tryd.underlying38
  have hu3 := Tryd.underlying25
  have HB := Aside0.mk (boxes3 w (.cells #[.int .i64 a, .int .i64 b, .int .i64 c, .int .i64 d] 40) (.cells #[.int .i64 e, .int .i64 f] 38) (.cells #[.int .i64 0, .int .i64 0] 25))
  have H := Aside0.mk h
  have H' := Aside0.mk h'
  clear h h'
  go_enter Tryd.func24, Tryd.ntmps24
  go_wp2_with fail
  refine (impl_SegOk.calls a b c d true _ H.out).mono ?_
  rintro x w1 ⟨rfl, hb⟩
  have HS := Aside0.mk (blk_on hb HB.out.2.1)
  have HP := Aside0.mk (blk_on hb HB.out.2.2.1)
  have HR := Aside0.mk (blk_on hb HB.out.2.2.2)
  have HB1 := Aside0.mk (below_step HB.out.1 hb)
  clear hb
  have q0 : w1.cell? ⟨w.heap.size + 1, 0, none⟩ = some (.int .i64 e) := (blk_cell HP.out 0).trans rfl
  have q1 : w1.cell? ⟨w.heap.size + 1, 1, none⟩ = some (.int .i64 f) := (blk_cell HP.out 1).trans rfl
  go_wp2_with fail
  refine (impl_PtOk.calls e f false _ H'.out).mono ?_
  rintro x w2 ⟨rfl, hb⟩
  have HS2 := Aside0.mk (blk_on hb HS.out)
  have HP2 := Aside0.mk (blk_on hb HP.out)
  have HR2 := Aside0.mk (blk_on hb HR.out)
  have HB2 := Aside0.mk (below_step HB1.out hb)
  clear hb q0 q1
  have q0 : w2.cell? ⟨w.heap.size + 1 + 1, 0, none⟩ = some (.int .i64 0) := (blk_cell HR2.out 0).trans rfl
  have q1 : w2.cell? ⟨w.heap.size + 1 + 1, 1, none⟩ = some (.int .i64 0) := (blk_cell HR2.out 1).trans rfl
  have q2 := blk_frozen HR2.out 0
  have q3 := blk_frozen HR2.out 1
  go_wp2_with fail
  refine bodyPost_ret (results_cell_row rfl _ _ (w.heap.size + 1 + 1) 25 #[.int .i64 0, .int .i64 0] (0, 0) _ rfl (by refine blk_put (cs := #[.int .i64 0, .int .i64 0]) ?_ 1 _ rfl; refine blk_put (cs := #[.int .i64 0, .int .i64 0]) ?_ 0 _ rfl; exact HR2.out) Tryd.underlying25 rfl (by kernel_rfl)) rfl ?_
  exact ⟨rfl, by refine below_set ?_ (by omega); refine below_set ?_ (by omega); exact HB2.out⟩
set_option maxHeartbeats 1000000 in
set_option maxRecDepth 100000 in
theorem segFar_way1 (k : Nat) {m t n1 n2 : Int} (h : impl_SegOk.f a b c d = some true) (h' : impl_PtOk.f e f = some true) (h2 : impl_standOf.f a b c d e f = some 0) (hw : impl_between.f a b e f = some m) (hf : impl_FracOf.f k m 1 = some (n1, n2, true)) :
    Calls Tryd.prog 24 #[.agg #[.int .i64 a, .int .i64 b, .int .i64 c, .int .i64 d], .agg #[.int .i64 e, .int .i64 f]] w fun x w' => x = .returned (.agg #[.int .i64 n1, .int .i64 n2]) ∧ Below w.heap.size w w' := by
  have hu1 := Tryd.underlying40
  have hu2 := Tryd.underlying38
  have hu3 := Tryd.underlying25
  have HB := Aside0.mk (boxes3 w (.cells #[.int .i64 a, .int .i64 b, .int .i64 c, .int .i64 d] 40) (.cells #[.int .i64 e, .int .i64 f] 38) (.cells #[.int .i64 0, .int .i64 0] 25))
  have H := Aside0.mk h
  have H' := Aside0.mk h'
  have H2 := Aside0.mk h2
  have HW := Aside0.mk hw
  have HF := Aside0.mk hf
  clear h h' h2 hw hf
  go_enter Tryd.func24, Tryd.ntmps24
  go_wp2_with fail
  refine (impl_SegOk.calls a b c d true _ H.out).mono ?_
  rintro x w1 ⟨rfl, hb⟩
  have HS := Aside0.mk (blk_on hb HB.out.2.1)
  have HP := Aside0.mk (blk_on hb HB.out.2.2.1)
  have HR := Aside0.mk (blk_on hb HB.out.2.2.2)
  have HB1 := Aside0.mk (below_step HB.out.1 hb)
  clear hb
  have q0 : w1.cell? ⟨w.heap.size + 1, 0, none⟩ = some (.int .i64 e) := (blk_cell HP.out 0).trans rfl
  have q1 : w1.cell? ⟨w.heap.size + 1, 1, none⟩ = some (.int .i64 f) := (blk_cell HP.out 1).trans rfl
  go_wp2_with fail
  refine (impl_PtOk.calls e f true _ H'.out).mono ?_
  rintro x w2 ⟨rfl, hb⟩
  have HS2 := Aside0.mk (blk_on hb HS.out)
  have HP2 := Aside0.mk (blk_on hb HP.out)
  have HR2 := Aside0.mk (blk_on hb HR.out)
  have HB2 := Aside0.mk (below_step HB1.out hb)
  clear hb q0 q1
  have q0 : ∀ o, (w2.alloc o).cell? ⟨w.heap.size, 0, none⟩ = some (.int .i64 a) := fun o => (blk_cell (blk_alloc HS2.out o) 0).trans rfl
  have q1 : ∀ o, (w2.alloc o).cell? ⟨w.heap.size, 1, none⟩ = some (.int .i64 b) := fun o => (blk_cell (blk_alloc HS2.out o) 1).trans rfl
  have q2 : ∀ o, (w2.alloc o).cell? ⟨w.heap.size, 2, none⟩ = some (.int .i64 c) := fun o => (blk_cell (blk_alloc HS2.out o) 2).trans rfl
  have q3 : ∀ o, (w2.alloc o).cell? ⟨w.heap.size, 3, none⟩ = some (.int .i64 d) := fun o => (blk_cell (blk_alloc HS2.out o) 3).trans rfl
  have q4 : ∀ o, (w2.alloc o).cell? ⟨w.heap.size + 1, 0, none⟩ = some (.int .i64 e) := fun o => (blk_cell (blk_alloc HP2.out o) 0).trans rfl
  have q5 : ∀ o, (w2.alloc o).cell? ⟨w.heap.size + 1, 1, none⟩ = some (.int .i64 f) := fun o => (blk_cell (blk_alloc HP2.out o) 1).trans rfl
  have HQ := Aside0.mk (heap_alloc_new w2 (.cells #[.nilFunc, .nilFunc, .nilFunc] 80))
  have r0 : (w2.alloc (.cells #[.nilFunc, .nilFunc, .nilFunc] 80)).cell? ⟨w2.heap.size, 0, none⟩ = some .nilFunc := (blk_cell HQ.out 0).trans rfl
  have s0 := blk_frozen HQ.out 0
  have r1 : (w2.alloc (.cells #[.nilFunc, .nilFunc, .nilFunc] 80)).cell? ⟨w2.heap.size, 1, none⟩ = some .nilFunc := (blk_cell HQ.out 1).trans rfl
  have s1 := blk_frozen HQ.out 1
  have r2 : (w2.alloc (.cells #[.nilFunc, .nilFunc, .nilFunc] 80)).cell? ⟨w2.heap.size, 2, none⟩ = some .nilFunc := (blk_cell HQ.out 2).trans rfl
  have s2 := blk_frozen HQ.out 2
  go_wp2_with fail
  refine (impl_standOf.calls a b c d e f 0 _ H2.out).mono ?_
  rintro x w3 ⟨rfl, hb⟩
  have HK := Aside0.mk (blk_on hb (heap_alloc_new w2 (.cells #[.func (.func 53) #[] #[.pointer (some ⟨w.heap.size, 0, none⟩), .pointer (some ⟨w.heap.size + 1, 0, none⟩)], .func (.func 55) #[] #[.pointer (some ⟨w.heap.size, 0, none⟩), .pointer (some ⟨w.heap.size + 1, 0, none⟩)], .func (.func 57) #[] #[.pointer (some ⟨w.heap.size, 0, none⟩), .pointer (some ⟨w.heap.size + 1, 0, none⟩)]] 80)))
  have HS3 := Aside0.mk (blk_on hb (blk_alloc HS2.out (.cells #[.func (.func 53) #[] #[.pointer (some ⟨w.heap.size, 0, none⟩), .pointer (some ⟨w.heap.size + 1, 0, none⟩)], .func (.func 55) #[] #[.pointer (some ⟨w.heap.size, 0, none⟩), .pointer (some ⟨w.heap.size + 1, 0, none⟩)], .func (.func 57) #[] #[.pointer (some ⟨w.heap.size, 0, none⟩), .pointer (some ⟨w.heap.size + 1, 0, none⟩)]] 80)))
  have HP3 := Aside0.mk (blk_on hb (blk_alloc HP2.out (.cells #[.func (.func 53) #[] #[.pointer (some ⟨w.heap.size, 0, none⟩), .pointer (some ⟨w.heap.size + 1, 0, none⟩)], .func (.func 55) #[] #[.pointer (some ⟨w.heap.size, 0, none⟩), .pointer (some ⟨w.heap.size + 1, 0, none⟩)], .func (.func 57) #[] #[.pointer (some ⟨w.heap.size, 0, none⟩), .pointer (some ⟨w.heap.size + 1, 0, none⟩)]] 80)))
  have HR3 := Aside0.mk (blk_on hb (blk_alloc HR2.out (.cells #[.func (.func 53) #[] #[.pointer (some ⟨w.heap.size, 0, none⟩), .pointer (some ⟨w.heap.size + 1, 0, none⟩)], .func (.func 55) #[] #[.pointer (some ⟨w.heap.size, 0, none⟩), .pointer (some ⟨w.heap.size + 1, 0, none⟩)], .func (.func 57) #[] #[.pointer (some ⟨w.heap.size, 0, none⟩), .pointer (some ⟨w.heap.size + 1, 0, none⟩)]] 80)))
  have HB3 := Aside0.mk (below_step (below_alloc HB2.out (.cells #[.func (.func 53) #[] #[.pointer (some ⟨w.heap.size, 0, none⟩), .pointer (some ⟨w.heap.size + 1, 0, none⟩)], .func (.func 55) #[] #[.pointer (some ⟨w.heap.size, 0, none⟩), .pointer (some ⟨w.heap.size + 1, 0, none⟩)], .func (.func 57) #[] #[.pointer (some ⟨w.heap.size, 0, none⟩), .pointer (some ⟨w.heap.size + 1, 0, none⟩)]] 80)) hb)
  clear hb q0 q1 q2 q3 q4 q5 r0 r1 r2 s0 s1 s2 HQ
  have q0 : w3.cell? ⟨w2.heap.size, 0, none⟩ = some (.func (.func 53) #[] #[.pointer (some ⟨w.heap.size, 0, none⟩), .pointer (some ⟨w.heap.size + 1, 0, none⟩)]) := (blk_cell HK.out 0).trans rfl
  go_wp2_with fail
  refine (far1 w.heap.size (w.heap.size + 1) a b c d e f w3 k HS3.out HP3.out HW.out HF.out).mono ?_
  rintro x w4 ⟨rfl, hb⟩
  have HR4 := Aside0.mk (blk_on hb HR3.out)
  have HB4 := Aside0.mk (below_step HB3.out hb)
  clear hb q0
  have HN := Aside0.mk (heap_alloc_new w4 (.cells #[.int .i64 0, .int .i64 0] 25))
  have u0 : (w4.alloc (.cells #[.int .i64 0, .int .i64 0] 25)).cell? ⟨w4.heap.size, 0, none⟩ = some (.int .i64 0) := (blk_cell HN.out 0).trans rfl
  have u1 : (w4.alloc (.cells #[.int .i64 0, .int .i64 0] 25)).cell? ⟨w4.heap.size, 1, none⟩ = some (.int .i64 0) := (blk_cell HN.out 1).trans rfl
  have u2 := blk_frozen HN.out 0
  have u3 := blk_frozen HN.out 1
  have q0 : ∀ o, (w4.alloc o).cell? ⟨w.heap.size + 1 + 1, 0, none⟩ = some (.int .i64 0) := fun o => (blk_cell (blk_alloc HR4.out o) 0).trans rfl
  have q1 : ∀ o, (w4.alloc o).cell? ⟨w.heap.size + 1 + 1, 1, none⟩ = some (.int .i64 0) := fun o => (blk_cell (blk_alloc HR4.out o) 1).trans rfl
  have q2 := fun o => blk_frozen (blk_alloc HR4.out o) 0
  have q3 := fun o => blk_frozen (blk_alloc HR4.out o) 1
  go_wp2_with fail
  refine bodyPost_ret (results_cell_row rfl _ _ (w.heap.size + 1 + 1) 25 #[.int .i64 n1, .int .i64 n2] (0, 0) _ rfl (by refine blk_put (cs := #[.int .i64 n1, .int .i64 0]) ?_ 1 _ rfl; refine blk_put (cs := #[.int .i64 0, .int .i64 0]) ?_ 0 _ rfl; exact blk_alloc HR4.out _) Tryd.underlying25 rfl (by kernel_rfl)) rfl ?_
  exact ⟨rfl, by refine below_set ?_ (by omega); refine below_set ?_ (by omega); exact below_alloc HB4.out _⟩
set_option maxHeartbeats 1000000 in
set_option maxRecDepth 100000 in
theorem segFar_way2 (k : Nat) {m t n1 n2 : Int} (h : impl_SegOk.f a b c d = some true) (h' : impl_PtOk.f e f = some true) (h2 : impl_standOf.f a b c d e f = some 1) (hv : impl_cross.f a b c d e f = some t) (hw : impl_between.f a b c d = some m) (hf : impl_FracOf.f k (wrap64 (t * t)) m = some (n1, n2, true)) :
    Calls Tryd.prog 24 #[.agg #[.int .i64 a, .int .i64 b, .int .i64 c, .int .i64 d], .agg #[.int .i64 e, .int .i64 f]] w fun x w' => x = .returned (.agg #[.int .i64 n1, .int .i64 n2]) ∧ Below w.heap.size w w' := by
  have hu1 := Tryd.underlying40
  have hu2 := Tryd.underlying38
  have hu3 := Tryd.underlying25
  have HB := Aside0.mk (boxes3 w (.cells #[.int .i64 a, .int .i64 b, .int .i64 c, .int .i64 d] 40) (.cells #[.int .i64 e, .int .i64 f] 38) (.cells #[.int .i64 0, .int .i64 0] 25))
  have H := Aside0.mk h
  have H' := Aside0.mk h'
  have H2 := Aside0.mk h2
  have HW := Aside0.mk hw
  have HF := Aside0.mk hf
  clear h h' h2 hw hf
  have HV := Aside0.mk hv
  clear hv
  go_enter Tryd.func24, Tryd.ntmps24
  go_wp2_with fail
  refine (impl_SegOk.calls a b c d true _ H.out).mono ?_
  rintro x w1 ⟨rfl, hb⟩
  have HS := Aside0.mk (blk_on hb HB.out.2.1)
  have HP := Aside0.mk (blk_on hb HB.out.2.2.1)
  have HR := Aside0.mk (blk_on hb HB.out.2.2.2)
  have HB1 := Aside0.mk (below_step HB.out.1 hb)
  clear hb
  have q0 : w1.cell? ⟨w.heap.size + 1, 0, none⟩ = some (.int .i64 e) := (blk_cell HP.out 0).trans rfl
  have q1 : w1.cell? ⟨w.heap.size + 1, 1, none⟩ = some (.int .i64 f) := (blk_cell HP.out 1).trans rfl
  go_wp2_with fail
  refine (impl_PtOk.calls e f true _ H'.out).mono ?_
  rintro x w2 ⟨rfl, hb⟩
  have HS2 := Aside0.mk (blk_on hb HS.out)
  have HP2 := Aside0.mk (blk_on hb HP.out)
  have HR2 := Aside0.mk (blk_on hb HR.out)
  have HB2 := Aside0.mk (below_step HB1.out hb)
  clear hb q0 q1
  have q0 : ∀ o, (w2.alloc o).cell? ⟨w.heap.size, 0, none⟩ = some (.int .i64 a) := fun o => (blk_cell (blk_alloc HS2.out o) 0).trans rfl
  have q1 : ∀ o, (w2.alloc o).cell? ⟨w.heap.size, 1, none⟩ = some (.int .i64 b) := fun o => (blk_cell (blk_alloc HS2.out o) 1).trans rfl
  have q2 : ∀ o, (w2.alloc o).cell? ⟨w.heap.size, 2, none⟩ = some (.int .i64 c) := fun o => (blk_cell (blk_alloc HS2.out o) 2).trans rfl
  have q3 : ∀ o, (w2.alloc o).cell? ⟨w.heap.size, 3, none⟩ = some (.int .i64 d) := fun o => (blk_cell (blk_alloc HS2.out o) 3).trans rfl
  have q4 : ∀ o, (w2.alloc o).cell? ⟨w.heap.size + 1, 0, none⟩ = some (.int .i64 e) := fun o => (blk_cell (blk_alloc HP2.out o) 0).trans rfl
  have q5 : ∀ o, (w2.alloc o).cell? ⟨w.heap.size + 1, 1, none⟩ = some (.int .i64 f) := fun o => (blk_cell (blk_alloc HP2.out o) 1).trans rfl
  have HQ := Aside0.mk (heap_alloc_new w2 (.cells #[.nilFunc, .nilFunc, .nilFunc] 80))
  have r0 : (w2.alloc (.cells #[.nilFunc, .nilFunc, .nilFunc] 80)).cell? ⟨w2.heap.size, 0, none⟩ = some .nilFunc := (blk_cell HQ.out 0).trans rfl
  have s0 := blk_frozen HQ.out 0
  have r1 : (w2.alloc (.cells #[.nilFunc, .nilFunc, .nilFunc] 80)).cell? ⟨w2.heap.size, 1, none⟩ = some .nilFunc := (blk_cell HQ.out 1).trans rfl
  have s1 := blk_frozen HQ.out 1
  have r2 : (w2.alloc (.cells #[.nilFunc, .nilFunc, .nilFunc] 80)).cell? ⟨w2.heap.size, 2, none⟩ = some .nilFunc := (blk_cell HQ.out 2).trans rfl
  have s2 := blk_frozen HQ.out 2
  go_wp2_with fail
  refine (impl_standOf.calls a b c d e f 1 _ H2.out).mono ?_
  rintro x w3 ⟨rfl, hb⟩
  have HK := Aside0.mk (blk_on hb (heap_alloc_new w2 (.cells #[.func (.func 53) #[] #[.pointer (some ⟨w.heap.size, 0, none⟩), .pointer (some ⟨w.heap.size + 1, 0, none⟩)], .func (.func 55) #[] #[.pointer (some ⟨w.heap.size, 0, none⟩), .pointer (some ⟨w.heap.size + 1, 0, none⟩)], .func (.func 57) #[] #[.pointer (some ⟨w.heap.size, 0, none⟩), .pointer (some ⟨w.heap.size + 1, 0, none⟩)]] 80)))
  have HS3 := Aside0.mk (blk_on hb (blk_alloc HS2.out (.cells #[.func (.func 53) #[] #[.pointer (some ⟨w.heap.size, 0, none⟩), .pointer (some ⟨w.heap.size + 1, 0, none⟩)], .func (.func 55) #[] #[.pointer (some ⟨w.heap.size, 0, none⟩), .pointer (some ⟨w.heap.size + 1, 0, none⟩)], .func (.func 57) #[] #[.pointer (some ⟨w.heap.size, 0, none⟩), .pointer (some ⟨w.heap.size + 1, 0, none⟩)]] 80)))
  have HP3 := Aside0.mk (blk_on hb (blk_alloc HP2.out (.cells #[.func (.func 53) #[] #[.pointer (some ⟨w.heap.size, 0, none⟩), .pointer (some ⟨w.heap.size + 1, 0, none⟩)], .func (.func 55) #[] #[.pointer (some ⟨w.heap.size, 0, none⟩), .pointer (some ⟨w.heap.size + 1, 0, none⟩)], .func (.func 57) #[] #[.pointer (some ⟨w.heap.size, 0, none⟩), .pointer (some ⟨w.heap.size + 1, 0, none⟩)]] 80)))
  have HR3 := Aside0.mk (blk_on hb (blk_alloc HR2.out (.cells #[.func (.func 53) #[] #[.pointer (some ⟨w.heap.size, 0, none⟩), .pointer (some ⟨w.heap.size + 1, 0, none⟩)], .func (.func 55) #[] #[.pointer (some ⟨w.heap.size, 0, none⟩), .pointer (some ⟨w.heap.size + 1, 0, none⟩)], .func (.func 57) #[] #[.pointer (some ⟨w.heap.size, 0, none⟩), .pointer (some ⟨w.heap.size + 1, 0, none⟩)]] 80)))
  have HB3 := Aside0.mk (below_step (below_alloc HB2.out (.cells #[.func (.func 53) #[] #[.pointer (some ⟨w.heap.size, 0, none⟩), .pointer (some ⟨w.heap.size + 1, 0, none⟩)], .func (.func 55) #[] #[.pointer (some ⟨w.heap.size, 0, none⟩), .pointer (some ⟨w.heap.size + 1, 0, none⟩)], .func (.func 57) #[] #[.pointer (some ⟨w.heap.size, 0, none⟩), .pointer (some ⟨w.heap.size + 1, 0, none⟩)]] 80)) hb)
  clear hb q0 q1 q2 q3 q4 q5 r0 r1 r2 s0 s1 s2 HQ
  have q0 : w3.cell? ⟨w2.heap.size, 1, none⟩ = some (.func (.func 55) #[] #[.pointer (some ⟨w.heap.size, 0, none⟩), .pointer (some ⟨w.heap.size + 1, 0, none⟩)]) := (blk_cell HK.out 1).trans rfl
  go_wp2_with fail
  refine (far2 w.heap.size (w.heap.size + 1) a b c d e f w3 k HS3.out HP3.out HV.out HW.out HF.out).mono ?_
  rintro x w4 ⟨rfl, hb⟩
  have HR4 := Aside0.mk (blk_on hb HR3.out)
  have HB4 := Aside0.mk (below_step HB3.out hb)
  clear hb q0
  have HN := Aside0.mk (heap_alloc_new w4 (.cells #[.int .i64 0, .int .i64 0] 25))
  have u0 : (w4.alloc (.cells #[.int .i64 0, .int .i64 0] 25)).cell? ⟨w4.heap.size, 0, none⟩ = some (.int .i64 0) := (blk_cell HN.out 0).trans rfl
  have u1 : (w4.alloc (.cells #[.int .i64 0, .int .i64 0] 25)).cell? ⟨w4.heap.size, 1, none⟩ = some (.int .i64 0) := (blk_cell HN.out 1).trans rfl
  have u2 := blk_frozen HN.out 0
  have u3 := blk_frozen HN.out 1
  have q0 : ∀ o, (w4.alloc o).cell? ⟨w.heap.size + 1 + 1, 0, none⟩ = some (.int .i64 0) := fun o => (blk_cell (blk_alloc HR4.out o) 0).trans rfl
  have q1 : ∀ o, (w4.alloc o).cell? ⟨w.heap.size + 1 + 1, 1, none⟩ = some (.int .i64 0) := fun o => (blk_cell (blk_alloc HR4.out o) 1).trans rfl
  have q2 := fun o => blk_frozen (blk_alloc HR4.out o) 0
  have q3 := fun o => blk_frozen (blk_alloc HR4.out o) 1
  go_wp2_with fail
  refine bodyPost_ret (results_cell_row rfl _ _ (w.heap.size + 1 + 1) 25 #[.int .i64 n1, .int .i64 n2] (0, 0) _ rfl (by refine blk_put (cs := #[.int .i64 n1, .int .i64 0]) ?_ 1 _ rfl; refine blk_put (cs := #[.int .i64 0, .int .i64 0]) ?_ 0 _ rfl; exact blk_alloc HR4.out _) Tryd.underlying25 rfl (by kernel_rfl)) rfl ?_
  exact ⟨rfl, by refine below_set ?_ (by omega); refine below_set ?_ (by omega); exact below_alloc HB4.out _⟩
set_option maxHeartbeats 1000000 in
set_option maxRecDepth 100000 in
theorem segFar_way3 (k : Nat) {m t n1 n2 : Int} (h : impl_SegOk.f a b c d = some true) (h' : impl_PtOk.f e f = some true) (h2 : impl_standOf.f a b c d e f = some 2) (hw : impl_between.f c d e f = some m) (hf : impl_FracOf.f k m 1 = some (n1, n2, true)) :
    Calls Tryd.prog 24 #[.agg #[.int .i64 a, .int .i64 b, .int .i64 c, .int .i64 d], .agg #[.int .i64 e, .int .i64 f]] w fun x w' => x = .returned (.agg #[.int .i64 n1, .int .i64 n2]) ∧ Below w.heap.size w w' := by
  have hu1 := Tryd.underlying40
  have hu2 := Tryd.underlying38
  have hu3 := Tryd.underlying25
  have HB := Aside0.mk (boxes3 w (.cells #[.int .i64 a, .int .i64 b, .int .i64 c, .int .i64 d] 40) (.cells #[.int .i64 e, .int .i64 f] 38) (.cells #[.int .i64 0, .int .i64 0] 25))
  have H := Aside0.mk h
  have H' := Aside0.mk h'
  have H2 := Aside0.mk h2
  have HW := Aside0.mk hw
  have HF := Aside0.mk hf
  clear h h' h2 hw hf
  go_enter Tryd.func24, Tryd.ntmps24
  go_wp2_with fail
  refine (impl_SegOk.calls a b c d true _ H.out).mono ?_
  rintro x w1 ⟨rfl, hb⟩
  have HS := Aside0.mk (blk_on hb HB.out.2.1)
  have HP := Aside0.mk (blk_on hb HB.out.2.2.1)
  have HR := Aside0.mk (blk_on hb HB.out.2.2.2)
  have HB1 := Aside0.mk (below_step HB.out.1 hb)
  clear hb
  have q0 : w1.cell? ⟨w.heap.size + 1, 0, none⟩ = some (.int .i64 e) := (blk_cell HP.out 0).trans rfl
  have q1 : w1.cell? ⟨w.heap.size + 1, 1, none⟩ = some (.int .i64 f) := (blk_cell HP.out 1).trans rfl
  go_wp2_with fail
  refine (impl_PtOk.calls e f true _ H'.out).mono ?_
  rintro x w2 ⟨rfl, hb⟩
  have HS2 := Aside0.mk (blk_on hb HS.out)
  have HP2 := Aside0.mk (blk_on hb HP.out)
  have HR2 := Aside0.mk (blk_on hb HR.out)
  have HB2 := Aside0.mk (below_step HB1.out hb)
  clear hb q0 q1
  have q0 : ∀ o, (w2.alloc o).cell? ⟨w.heap.size, 0, none⟩ = some (.int .i64 a) := fun o => (blk_cell (blk_alloc HS2.out o) 0).trans rfl
  have q1 : ∀ o, (w2.alloc o).cell? ⟨w.heap.size, 1, none⟩ = some (.int .i64 b) := fun o => (blk_cell (blk_alloc HS2.out o) 1).trans rfl
  have q2 : ∀ o, (w2.alloc o).cell? ⟨w.heap.size, 2, none⟩ = some (.int .i64 c) := fun o => (blk_cell (blk_alloc HS2.out o) 2).trans rfl
  have q3 : ∀ o, (w2.alloc o).cell? ⟨w.heap.size, 3, none⟩ = some (.int .i64 d) := fun o => (blk_cell (blk_alloc HS2.out o) 3).trans rfl
  have q4 : ∀ o, (w2.alloc o).cell? ⟨w.heap.size + 1, 0, none⟩ = some (.int .i64 e) := fun o => (blk_cell (blk_alloc HP2.out o) 0).trans rfl
  have q5 : ∀ o, (w2.alloc o).cell? ⟨w.heap.size + 1, 1, none⟩ = some (.int .i64 f) := fun o => (blk_cell (blk_alloc HP2.out o) 1).trans rfl
  have HQ := Aside0.mk (heap_alloc_new w2 (.cells #[.nilFunc, .nilFunc, .nilFunc] 80))
  have r0 : (w2.alloc (.cells #[.nilFunc, .nilFunc, .nilFunc] 80)).cell? ⟨w2.heap.size, 0, none⟩ = some .nilFunc := (blk_cell HQ.out 0).trans rfl
  have s0 := blk_frozen HQ.out 0
  have r1 : (w2.alloc (.cells #[.nilFunc, .nilFunc, .nilFunc] 80)).cell? ⟨w2.heap.size, 1, none⟩ = some .nilFunc := (blk_cell HQ.out 1).trans rfl
  have s1 := blk_frozen HQ.out 1
  have r2 : (w2.alloc (.cells #[.nilFunc, .nilFunc, .nilFunc] 80)).cell? ⟨w2.heap.size, 2, none⟩ = some .nilFunc := (blk_cell HQ.out 2).trans rfl
  have s2 := blk_frozen HQ.out 2
  go_wp2_with fail
  refine (impl_standOf.calls a b c d e f 2 _ H2.out).mono ?_
  rintro x w3 ⟨rfl, hb⟩
  have HK := Aside0.mk (blk_on hb (heap_alloc_new w2 (.cells #[.func (.func 53) #[] #[.pointer (some ⟨w.heap.size, 0, none⟩), .pointer (some ⟨w.heap.size + 1, 0, none⟩)], .func (.func 55) #[] #[.pointer (some ⟨w.heap.size, 0, none⟩), .pointer (some ⟨w.heap.size + 1, 0, none⟩)], .func (.func 57) #[] #[.pointer (some ⟨w.heap.size, 0, none⟩), .pointer (some ⟨w.heap.size + 1, 0, none⟩)]] 80)))
  have HS3 := Aside0.mk (blk_on hb (blk_alloc HS2.out (.cells #[.func (.func 53) #[] #[.pointer (some ⟨w.heap.size, 0, none⟩), .pointer (some ⟨w.heap.size + 1, 0, none⟩)], .func (.func 55) #[] #[.pointer (some ⟨w.heap.size, 0, none⟩), .pointer (some ⟨w.heap.size + 1, 0, none⟩)], .func (.func 57) #[] #[.pointer (some ⟨w.heap.size, 0, none⟩), .pointer (some ⟨w.heap.size + 1, 0, none⟩)]] 80)))
  have HP3 := Aside0.mk (blk_on hb (blk_alloc HP2.out (.cells #[.func (.func 53) #[] #[.pointer (some ⟨w.heap.size, 0, none⟩), .pointer (some ⟨w.heap.size + 1, 0, none⟩)], .func (.func 55) #[] #[.pointer (some ⟨w.heap.size, 0, none⟩), .pointer (some ⟨w.heap.size + 1, 0, none⟩)], .func (.func 57) #[] #[.pointer (some ⟨w.heap.size, 0, none⟩), .pointer (some ⟨w.heap.size + 1, 0, none⟩)]] 80)))
  have HR3 := Aside0.mk (blk_on hb (blk_alloc HR2.out (.cells #[.func (.func 53) #[] #[.pointer (some ⟨w.heap.size, 0, none⟩), .pointer (some ⟨w.heap.size + 1, 0, none⟩)], .func (.func 55) #[] #[.pointer (some ⟨w.heap.size, 0, none⟩), .pointer (some ⟨w.heap.size + 1, 0, none⟩)], .func (.func 57) #[] #[.pointer (some ⟨w.heap.size, 0, none⟩), .pointer (some ⟨w.heap.size + 1, 0, none⟩)]] 80)))
  have HB3 := Aside0.mk (below_step (below_alloc HB2.out (.cells #[.func (.func 53) #[] #[.pointer (some ⟨w.heap.size, 0, none⟩), .pointer (some ⟨w.heap.size + 1, 0, none⟩)], .func (.func 55) #[] #[.pointer (some ⟨w.heap.size, 0, none⟩), .pointer (some ⟨w.heap.size + 1, 0, none⟩)], .func (.func 57) #[] #[.pointer (some ⟨w.heap.size, 0, none⟩), .pointer (some ⟨w.heap.size + 1, 0, none⟩)]] 80)) hb)
  clear hb q0 q1 q2 q3 q4 q5 r0 r1 r2 s0 s1 s2 HQ
  have q0 : w3.cell? ⟨w2.heap.size, 2, none⟩ = some (.func (.func 57) #[] #[.pointer (some ⟨w.heap.size, 0, none⟩), .pointer (some ⟨w.heap.size + 1, 0, none⟩)]) := (blk_cell HK.out 2).trans rfl
  go_wp2_with fail
  refine (far3 w.heap.size (w.heap.size + 1) a b c d e f w3 k HS3.out HP3.out HW.out HF.out).mono ?_
  rintro x w4 ⟨rfl, hb⟩
  have HR4 := Aside0.mk (blk_on hb HR3.out)
  have HB4 := Aside0.mk (below_step HB3.out hb)
  clear hb q0
  have HN := Aside0.mk (heap_alloc_new w4 (.cells #[.int .i64 0, .int .i64 0] 25))
  have u0 : (w4.alloc (.cells #[.int .i64 0, .int .i64 0] 25)).cell? ⟨w4.heap.size, 0, none⟩ = some (.int .i64 0) := (blk_cell HN.out 0).trans rfl
  have u1 : (w4.alloc (.cells #[.int .i64 0, .int .i64 0] 25)).cell? ⟨w4.heap.size, 1, none⟩ = some (.int .i64 0) := (blk_cell HN.out 1).trans rfl
  have u2 := blk_frozen HN.out 0
  have u3 := blk_frozen HN.out 1
  have q0 : ∀ o, (w4.alloc o).cell? ⟨w.heap.size + 1 + 1, 0, none⟩ = some (.int .i64 0) := fun o => (blk_cell (blk_alloc HR4.out o) 0).trans rfl
  have q1 : ∀ o, (w4.alloc o).cell? ⟨w.heap.size + 1 + 1, 1, none⟩ = some (.int .i64 0) := fun o => (blk_cell (blk_alloc HR4.out o) 1).trans rfl
  have q2 := fun o => blk_frozen (blk_alloc HR4.out o) 0
  have q3 := fun o => blk_frozen (blk_alloc HR4.out o) 1
  go_wp2_with fail
  refine bodyPost_ret (results_cell_row rfl _ _ (w.heap.size + 1 + 1) 25 #[.int .i64 n1, .int .i64 n2] (0, 0) _ rfl (by refine blk_put (cs := #[.int .i64 n1, .int .i64 0]) ?_ 1 _ rfl; refine blk_put (cs := #[.int .i64 0, .int .i64 0]) ?_ 0 _ rfl; exact blk_alloc HR4.out _) Tryd.underlying25 rfl (by kernel_rfl)) rfl ?_
  exact ⟨rfl, by refine below_set ?_ (by omega); refine below_set ?_ (by omega); exact below_alloc HB4.out _⟩
end
def impl_SegFar.f (a b c d e f : Int) : Option (Int × Int) := some ((segFar ((a, b), (c, d)) (e, f)).1, (segFar ((a, b), (c, d)) (e, f)).2)
theorem impl_SegFar.calls (a b c d e f r1 r2 : Int) (w : World) (h : impl_SegFar.f a b c d e f = some (r1, r2)) :
    Calls Tryd.prog 24 #[.agg #[.int .i64 a, .int .i64 b, .int .i64 c, .int .i64 d], .agg #[.int .i64 e, .int .i64 f]] w fun x w' => x = .returned (.agg #[.int .i64 r1, .int .i64 r2]) ∧ Below w.heap.size w w' := by
  unfold impl_SegFar.f at h
  simp only [Option.some.injEq, Prod.mk.injEq] at h
  obtain ⟨rfl, rfl⟩ := h
  unfold segFar
  cases hs : segOk ((a, b), (c, d)) with
  | false => exact segFar_bad1 a b c d e f w ((iSegOk a b c d).trans (congrArg some hs))
  | true =>
    have h1 := (iSegOk a b c d).trans (congrArg some hs)
    cases hp : ptOk (e, f) with
    | false => exact segFar_bad2 a b c d e f w h1 ((iPtOk e f).trans (congrArg some hp))
    | true =>
      have h2 := (iPtOk e f).trans (congrArg some hp)
      obtain ⟨o1, o2⟩ := segOk_ends hs
      have h3 := iStandOf hs hp
      have hin := far_inR hs hp
      simp only [Bool.and_self, if_true]
      unfold far at hin ⊢
      by_cases z : dot (a, b) (c, d) (e, f) ≤ 0
      · rw [if_pos z] at h3 hin ⊢
        rw [red_whole (dot_self_nn _ _) (Int.le_trans (dot_bound o1 hp hp).2 (by decide))]
        exact segFar_way1 (t := 0) a b c d e f w 100000 h1 h2 h3 (iBetween o1 hp) (iFracOf1 (Nat.le_refl _) (dot_self_nn _ _) (Int.le_trans (dot_bound o1 hp hp).2 (by decide)))
      · rw [if_neg z] at h3 hin ⊢
        by_cases z' : dot (a, b) (c, d) (c, d) ≤ dot (a, b) (c, d) (e, f)
        · rw [if_pos z'] at h3 hin ⊢
          rw [red_whole (dot_self_nn _ _) (Int.le_trans (dot_bound o2 hp hp).2 (by decide))]
          exact segFar_way3 (t := 0) a b c d e f w 100000 h1 h2 h3 (iBetween o2 hp) (iFracOf1 (Nat.le_refl _) (dot_self_nn _ _) (Int.le_trans (dot_bound o2 hp hp).2 (by decide)))
        · rw [if_neg z'] at h3 hin ⊢
          have hc := cross_bound o1 o2 hp
          have hq := sq_bound hc.1 hc.2
          have hq' := isq_nn (cross (a, b) (c, d) (e, f))
          exact segFar_way2 a b c d e f w 100000 h1 h2 h3 (iCross o1 o2 hp) (iBetween o1 o2) (by rw [w64 (x := cross (a, b) (c, d) (e, f) * cross (a, b) (c, d) (e, f)) (by omega) (by omega)]; exact iFracOf (Nat.le_refl _) hin)
end Go.Proofs.YtnponnkcfgjeoaaDoor.X
end
section
set_option linter.unusedVariables false
set_option linter.unusedSimpArgs false
namespace Go.Proofs.YtnponnkcfgjeoaaDoor.X
open Go.RowKit Go.Proofs.YtnponnkcfgjeoaaDoorW.PrintWords Go.Proofs.YtnponnkcfgjeoaaDoorW.PrintLast Go.Proofs.YtnponnkcfgjeoaaDoorW.PrintMore
open Mort
def apT6 : Bool × List (List Nat × List Nat) := (true, [([], []), ([], []), ([1], [1]), ([0, 2], [0, 2]), ([], []), ([], []), ([5], [5]), ([4, 6, 3], [4, 6]), ([], []), ([], []), ([9], [9]), ([8, 10, 7], [8, 10]), ([3, 7, 11], [3, 7, 11]), ([], [])])
def apB6 : List Nat := [0, 0, 2, 7, 0, 0, 32, 127, 0, 0, 512, 2047, 4095, 0]
theorem apTab6 : rtab .any (opsOf Tryd.f33 6) = apT6 := by kernel_rfl
theorem apBits6 : waitsOk apT6.2 apB6 = true := by kernel_rfl
theorem apIdx0 (w : World) (p q r s t u : Value) : (Instr.index 83 (.agg #[p, q, r, s, t, u]) (.int .i64 0)).run Tryd.prog w = .ok (.agg #[p, q]) w := by
  simp [Instr.index, run_underlying Tryd.underlying83, asIntOf, go_sem]
theorem apIdx1 (w : World) (p q r s t u : Value) : (Instr.index 83 (.agg #[p, q, r, s, t, u]) (.int .i64 1)).run Tryd.prog w = .ok (.agg #[r, s]) w := by
  simp [Instr.index, run_underlying Tryd.underlying83, asIntOf, go_sem]
theorem apIdx2 (w : World) (p q r s t u : Value) : (Instr.index 83 (.agg #[p, q, r, s, t, u]) (.int .i64 2)).run Tryd.prog w = .ok (.agg #[t, u]) w := by
  simp [Instr.index, run_underlying Tryd.underlying83, asIntOf, go_sem]
/-- the nearer of two -/
def pickL (m f : Frac) : Frac := if fracCmp f m < 0 then f else m
theorem pick_lt {m f p : Frac} (e : m = p) (h : fracCmp f m < 0) : f = pickL p f := by subst e; unfold pickL; rw [if_pos h]
theorem pick_ge {m f p : Frac} (e : m = p) (h : ¬ fracCmp f m < 0) : m = pickL p f := by subst e; unfold pickL; rw [if_neg h]
def foldP (f0 f1 f2 f3 : Frac) : Nat → Frac
  | 0 => f0
  | 1 => pickL f0 f1
  | 2 => pickL (pickL f0 f1) f2
  | _ => pickL (pickL (pickL f0 f1) f2) f3
section
variable (a b c d e f g h : Int) (w : World)
set_option maxHeartbeats 1000000 in
set_option maxRecDepth 100000 in
theorem segApart_bad1 (hh : impl_SegOk.f a b c d = some false) :
    Calls Tryd.prog 33 #[.agg #[.int .i64 a, .int .i64 b, .int .i64 c, .int .i64 d], .agg #[.int .i64 e, .int .i64 f, .int .i64 g, .int .i64 h]] w fun x w' => x = .returned (.agg #[.int .i64 0, .int .i64 0]) ∧ Below w.heap.size w w' := by
  have hu1 := Tryd.underlying40
  have hu2 := Tryd.underlying38
  have hu3 := Tryd.underlying25
  have HB := Aside0.mk (boxes3 w (.cells #[.int .i64 a, .int .i64 b, .int .i64 c, .int .i64 d] 40) (.cells #[.int .i64 e, .int .i64 f, .int .i64 g, .int .i64 h] 40) (.cells #[.int .i64 0, .int .i64 0] 25))
  have H := Aside0.mk hh
  clear hh
  go_enter Tryd.func33, Tryd.ntmps33
  go_wp2_with fail
  refine (impl_SegOk.calls a b c d false _ H.out).mono ?_
  rintro x w1 ⟨rfl, hb⟩
  have HS := Aside0.mk (blk_on hb HB.out.2.1)
  have HP := Aside0.mk (blk_on hb HB.out.2.2.1)
  have HR := Aside0.mk (blk_on hb HB.out.2.2.2)
  have HB1 := Aside0.mk (below_step HB.out.1 hb)
  clear hb
  have q0 : w1.cell? ⟨w.heap.size + 1 + 1, 0, none⟩ = some (.int .i64 0) := (blk_cell HR.out 0).trans rfl
  have q1 : w1.cell? ⟨w.heap.size + 1 + 1, 1, none⟩ = some (.int .i64 0) := (blk_cell HR.out 1).trans rfl
  have q2 := blk_frozen HR.out 0
  have q3 := blk_frozen HR.out 1
  go_wp2_with fail
  refine bodyPost_ret (results_cell_row rfl _ _ (w.heap.size + 1 + 1) 25 #[.int .i64 0, .int .i64 0] (0, 0) _ rfl (by refine blk_put (cs := #[.int .i64 0, .int .i64 0]) ?_ 1 _ rfl; refine blk_put (cs := #[.int .i64 0, .int .i64 0]) ?_ 0 _ rfl; exact HR.out) Tryd.underlying25 rfl (by kernel_rfl)) rfl ?_
  exact ⟨rfl, by refine below_set ?_ (by omega); refine below_set ?_ (by omega); exact HB1.out⟩
set_option maxHeartbeats 1000000 in
set_option maxRecDepth 100000 in
theorem segApart_bad2 (hh : impl_SegOk.f a b c d = some true) (hh' : impl_SegOk.f e f g h = some false) :
    Calls Tryd.prog 33 #[.agg #[.int .i64 a, .int .i64 b, .int .i64 c, .int .i64 d], .agg #[.int .i64 e, .int .i64 f, .int .i64 g, .int .i64 h]] w fun x w' => x = .returned (.agg #[.int .i64 0, .int .i64 0]) ∧ Below w.heap.size w w' := by
  have hu1 := Tryd.underlying40
  have hu2 := Tryd.underlying38
  have hu3 := Tryd.underlying25
  have HB := Aside0.mk (boxes3 w (.cells #[.int .i64 a, .int .i64 b, .int .i64 c, .int .i64 d] 40) (.cells #[.int .i64 e, .int .i64 f, .int .i64 g, .int .i64 h] 40) (.cells #[.int .i64 0, .int .i64 0] 25))
  have H := Aside0.mk hh
  have H' := Aside0.mk hh'
  clear hh hh'
  go_enter Tryd.func33, Tryd.ntmps33
  go_wp2_with fail
  refine (impl_SegOk.calls a b c d true _ H.out).mono ?_
  rintro x w1 ⟨rfl, hb⟩
  have HS := Aside0.mk (blk_on hb HB.out.2.1)
  have HP := Aside0.mk (blk_on hb HB.out.2.2.1)
  have HR := Aside0.mk (blk_on hb HB.out.2.2.2)
  have HB1 := Aside0.mk (below_step HB.out.1 hb)
  clear hb
  have q0 : w1.cell? ⟨w.heap.size + 1, 0, none⟩ = some (.int .i64 e) := (blk_cell HP.out 0).trans rfl
  have q1 : w1.cell? ⟨w.heap.size + 1, 1, none⟩ = some (.int .i64 f) := (blk_cell HP.out 1).trans rfl
  have q2 : w1.cell? ⟨w.heap.size + 1, 2, none⟩ = some (.int .i64 g) := (blk_cell HP.out 2).trans rfl
  have q3 : w1.cell? ⟨w.heap.size + 1, 3, none⟩ = some (.int .i64 h) := (blk_cell HP.out 3).trans rfl
  go_wp2_with fail
  refine (impl_SegOk.calls e f g h false _ H'.out).mono ?_
  rintro x w2 ⟨rfl, hb⟩
  have HS2 := Aside0.mk (blk_on hb HS.out)
  have HP2 := Aside0.mk (blk_on hb HP.out)
  have HR2 := Aside0.mk (blk_on hb HR.out)
  have HB2 := Aside0.mk (below_step HB1.out hb)
  clear hb q0 q1 q2 q3
  have q0 : w2.cell? ⟨w.heap.size + 1 + 1, 0, none⟩ = some (.int .i64 0) := (blk_cell HR2.out 0).trans rfl
  have q1 : w2.cell? ⟨w.heap.size + 1 + 1, 1, none⟩ = some (.int .i64 0) := (blk_cell HR2.out 1).trans rfl
  have q2 := blk_frozen HR2.out 0
  have q3 := blk_frozen HR2.out 1
  go_wp2_with fail
  refine bodyPost_ret (results_cell_row rfl _ _ (w.heap.size + 1 + 1) 25 #[.int .i64 0, .int .i64 0] (0, 0) _ rfl (by refine blk_put (cs := #[.int .i64 0, .int .i64 0]) ?_ 1 _ rfl; refine blk_put (cs := #[.int .i64 0, .int .i64 0]) ?_ 0 _ rfl; exact HR2.out) Tryd.underlying25 rfl (by kernel_rfl)) rfl ?_
  exact ⟨rfl, by refine below_set ?_ (by omega); refine below_set ?_ (by omega); exact HB2.out⟩
set_option maxHeartbeats 1000000 in
set_option maxRecDepth 100000 in
theorem segApart_meet (hh : impl_SegOk.f a b c d = some true) (hh' : impl_SegOk.f e f g h = some true) (hm : impl_SegMeet.f 3 a b c d e f g h = some true) :
    Calls Tryd.prog 33 #[.agg #[.int .i64 a, .int .i64 b, .int .i64 c, .int .i64 d], .agg #[.int .i64 e, .int .i64 f, .int .i64 g, .int .i64 h]] w fun x w' => x = .returned (.agg #[.int .i64 0, .int .i64 1]) ∧ Below w.heap.size w w' := by
  have hu1 := Tryd.underlying40
  have hu2 := Tryd.underlying38
  have hu3 := Tryd.underlying25
  have HB := Aside0.mk (boxes3 w (.cells #[.int .i64 a, .int .i64 b, .int .i64 c, .int .i64 d] 40) (.cells #[.int .i64 e, .int .i64 f, .int .i64 g, .int .i64 h] 40) (.cells #[.int .i64 0, .int .i64 0] 25))
  have H := Aside0.mk hh
  have H' := Aside0.mk hh'
  have HM := Aside0.mk hm
  clear hh hh' hm
  go_enter Tryd.func33, Tryd.ntmps33
  go_wp2_with fail
  refine (impl_SegOk.calls a b c d true _ H.out).mono ?_
  rintro x w1 ⟨rfl, hb⟩
  have HS := Aside0.mk (blk_on hb HB.out.2.1)
  have HP := Aside0.mk (blk_on hb HB.out.2.2.1)
  have HR := Aside0.mk (blk_on hb HB.out.2.2.2)
  have HB1 := Aside0.mk (below_step HB.out.1 hb)
  clear hb
  have q0 : w1.cell? ⟨w.heap.size + 1, 0, none⟩ = some (.int .i64 e) := (blk_cell HP.out 0).trans rfl
  have q1 : w1.cell? ⟨w.heap.size + 1, 1, none⟩ = some (.int .i64 f) := (blk_cell HP.out 1).trans rfl
  have q2 : w1.cell? ⟨w.heap.size + 1, 2, none⟩ = some (.int .i64 g) := (blk_cell HP.out 2).trans rfl
  have q3 : w1.cell? ⟨w.heap.size + 1, 3, none⟩ = some (.int .i64 h) := (blk_cell HP.out 3).trans rfl
  go_wp2_with fail
  refine (impl_SegOk.calls e f g h true _ H'.out).mono ?_
  rintro x w2 ⟨rfl, hb⟩
  have HS2 := Aside0.mk (blk_on hb HS.out)
  have HP2 := Aside0.mk (blk_on hb HP.out)
  have HR2 := Aside0.mk (blk_on hb HR.out)
  have HB2 := Aside0.mk (below_step HB1.out hb)
  clear hb q0 q1 q2 q3
  have q0 : w2.cell? ⟨w.heap.size, 0, none⟩ = some (.int .i64 a) := (blk_cell HS2.out 0).trans rfl
  have q1 : w2.cell? ⟨w.heap.size, 1, none⟩ = some (.int .i64 b) := (blk_cell HS2.out 1).trans rfl
  have q2 : w2.cell? ⟨w.heap.size, 2, none⟩ = some (.int .i64 c) := (blk_cell HS2.out 2).trans rfl
  have q3 : w2.cell? ⟨w.heap.size, 3, none⟩ = some (.int .i64 d) := (blk_cell HS2.out 3).trans rfl
  have p0 : w2.cell? ⟨w.heap.size + 1, 0, none⟩ = some (.int .i64 e) := (blk_cell HP2.out 0).trans rfl
  have p1 : w2.cell? ⟨w.heap.size + 1, 1, none⟩ = some (.int .i64 f) := (blk_cell HP2.out 1).trans rfl
  have p2 : w2.cell? ⟨w.heap.size + 1, 2, none⟩ = some (.int .i64 g) := (blk_cell HP2.out 2).trans rfl
  have p3 : w2.cell? ⟨w.heap.size + 1, 3, none⟩ = some (.int .i64 h) := (blk_cell HP2.out 3).trans rfl
  go_wp2_with fail
  refine (impl_SegMeet.calls 3 a b c d e f g h true _ HM.out).mono ?_
  rintro x w3 ⟨rfl, hb⟩
  have HS3 := Aside0.mk (blk_on hb HS2.out)
  have HP3 := Aside0.mk (blk_on hb HP2.out)
  have HR3 := Aside0.mk (blk_on hb HR2.out)
  have HB3 := Aside0.mk (below_step HB2.out hb)
  clear hb q0 q1 q2 q3 p0 p1 p2 p3
  have q0 : w3.cell? ⟨w.heap.size + 1 + 1, 0, none⟩ = some (.int .i64 0) := (blk_cell HR3.out 0).trans rfl
  have q1 : w3.cell? ⟨w.heap.size + 1 + 1, 1, none⟩ = some (.int .i64 0) := (blk_cell HR3.out 1).trans rfl
  have q2 := blk_frozen HR3.out 0
  have q3 := blk_frozen HR3.out 1
  go_wp2_with fail
  refine bodyPost_ret (results_cell_row rfl _ _ (w.heap.size + 1 + 1) 25 #[.int .i64 0, .int .i64 1] (0, 0) _ rfl (by refine blk_put (cs := #[.int .i64 0, .int .i64 0]) ?_ 1 _ rfl; refine blk_put (cs := #[.int .i64 0, .int .i64 0]) ?_ 0 _ rfl; exact HR3.out) Tryd.underlying25 rfl (by kernel_rfl)) rfl ?_
  exact ⟨rfl, by refine below_set ?_ (by omega); refine below_set ?_ (by omega); exact HB3.out⟩
set_option maxHeartbeats 1000000 in
set_option maxRecDepth 100000 in
theorem segApart_far (hh : impl_SegOk.f a b c d = some true) (hh' : impl_SegOk.f e f g h = some true) (hm : impl_SegMeet.f 3 a b c d e f g h = some false) {n0 d0 : Int} {n1 d1 : Int} {n2 d2 : Int} {n3 d3 : Int} (hf0 : impl_SegFar.f a b c d e f = some (n0, d0)) (hf1 : impl_SegFar.f a b c d g h = some (n1, d1)) (hf2 : impl_SegFar.f e f g h a b = some (n2, d2)) (hf3 : impl_SegFar.f e f g h c d = some (n3, d3)) (hE : ErrW w) :
    Calls Tryd.prog 33 #[.agg #[.int .i64 a, .int .i64 b, .int .i64 c, .int .i64 d], .agg #[.int .i64 e, .int .i64 f, .int .i64 g, .int .i64 h]] w fun x w' => x = .returned (.agg #[.int .i64 (pickL (pickL (pickL (n0, d0) (n1, d1)) (n2, d2)) (n3, d3)).1, .int .i64 (pickL (pickL (pickL (n0, d0) (n1, d1)) (n2, d2)) (n3, d3)).2]) ∧ Below w.heap.size w w' := by
  have hu1 := Tryd.underlying40
  have hu2 := Tryd.underlying38
  have hu3 := Tryd.underlying25
  have HB := Aside0.mk (boxes3 w (.cells #[.int .i64 a, .int .i64 b, .int .i64 c, .int .i64 d] 40) (.cells #[.int .i64 e, .int .i64 f, .int .i64 g, .int .i64 h] 40) (.cells #[.int .i64 0, .int .i64 0] 25))
  have H := Aside0.mk hh
  have H' := Aside0.mk hh'
  have HM := Aside0.mk hm
  clear hh hh' hm
  have HF0 := Aside0.mk hf0
  have HF1 := Aside0.mk hf1
  have HF2 := Aside0.mk hf2
  have HF3 := Aside0.mk hf3
  have HE := Aside0.mk hE
  clear hf0 hf1 hf2 hf3 hE
  go_enter Tryd.func33, Tryd.ntmps33
  go_wp2_with fail
  refine (impl_SegOk.calls a b c d true _ H.out).mono ?_
  rintro x w1 ⟨rfl, hb⟩
  have HS := Aside0.mk (blk_on hb HB.out.2.1)
  have HP := Aside0.mk (blk_on hb HB.out.2.2.1)
  have HR := Aside0.mk (blk_on hb HB.out.2.2.2)
  have HB1 := Aside0.mk (below_step HB.out.1 hb)
  clear hb
  have q0 : w1.cell? ⟨w.heap.size + 1, 0, none⟩ = some (.int .i64 e) := (blk_cell HP.out 0).trans rfl
  have q1 : w1.cell? ⟨w.heap.size + 1, 1, none⟩ = some (.int .i64 f) := (blk_cell HP.out 1).trans rfl
  have q2 : w1.cell? ⟨w.heap.size + 1, 2, none⟩ = some (.int .i64 g) := (blk_cell HP.out 2).trans rfl
  have q3 : w1.cell? ⟨w.heap.size + 1, 3, none⟩ = some (.int .i64 h) := (blk_cell HP.out 3).trans rfl
  go_wp2_with fail
  refine (impl_SegOk.calls e f g h true _ H'.out).mono ?_
  rintro x w2 ⟨rfl, hb⟩
  have HS2 := Aside0.mk (blk_on hb HS.out)
  have HP2 := Aside0.mk (blk_on hb HP.out)
  have HR2 := Aside0.mk (blk_on hb HR.out)
  have HB2 := Aside0.mk (below_step HB1.out hb)
  clear hb q0 q1 q2 q3
  have q0 : w2.cell? ⟨w.heap.size, 0, none⟩ = some (.int .i64 a) := (blk_cell HS2.out 0).trans rfl
  have q1 : w2.cell? ⟨w.heap.size, 1, none⟩ = some (.int .i64 b) := (blk_cell HS2.out 1).trans rfl
  have q2 : w2.cell? ⟨w.heap.size, 2, none⟩ = some (.int .i64 c) := (blk_cell HS2.out 2).trans rfl
  have q3 : w2.cell? ⟨w.heap.size, 3, none⟩ = some (.int .i64 d) := (blk_cell HS2.out 3).trans rfl
  have p0 : w2.cell? ⟨w.heap.size + 1, 0, none⟩ = some (.int .i64 e) := (blk_cell HP2.out 0).trans rfl
  have p1 : w2.cell? ⟨w.heap.size + 1, 1, none⟩ = some (.int .i64 f) := (blk_cell HP2.out 1).trans rfl
  have p2 : w2.cell? ⟨w.heap.size + 1, 2, none⟩ = some (.int .i64 g) := (blk_cell HP2.out 2).trans rfl
  have p3 : w2.cell? ⟨w.heap.size + 1, 3, none⟩ = some (.int .i64 h) := (blk_cell HP2.out 3).trans rfl
  go_wp2_with fail
  refine (impl_SegMeet.calls 3 a b c d e f g h false _ HM.out).mono ?_
  rintro x w3 ⟨rfl, hb⟩
  have HS3 := Aside0.mk (blk_on hb HS2.out)
  have HP3 := Aside0.mk (blk_on hb HP2.out)
  have HR3 := Aside0.mk (blk_on hb HR2.out)
  have HB3 := Aside0.mk (below_step HB2.out hb)
  clear hb q0 q1 q2 q3 p0 p1 p2 p3
  have q0 : w3.cell? ⟨w.heap.size, 0, none⟩ = some (.int .i64 a) := (blk_cell HS3.out 0).trans rfl
  have q1 : w3.cell? ⟨w.heap.size, 1, none⟩ = some (.int .i64 b) := (blk_cell HS3.out 1).trans rfl
  have q2 : w3.cell? ⟨w.heap.size, 2, none⟩ = some (.int .i64 c) := (blk_cell HS3.out 2).trans rfl
  have q3 : w3.cell? ⟨w.heap.size, 3, none⟩ = some (.int .i64 d) := (blk_cell HS3.out 3).trans rfl
  have p0 : w3.cell? ⟨w.heap.size + 1, 0, none⟩ = some (.int .i64 e) := (blk_cell HP3.out 0).trans rfl
  have p1 : w3.cell? ⟨w.heap.size + 1, 1, none⟩ = some (.int .i64 f) := (blk_cell HP3.out 1).trans rfl
  go_wp2_with fail
  refine (impl_SegFar.calls a b c d e f n0 d0 _ HF0.out).mono ?_
  rintro x w4 ⟨rfl, hb⟩
  have HS4 := Aside0.mk (blk_on hb HS3.out)
  have HP4 := Aside0.mk (blk_on hb HP3.out)
  have HR4 := Aside0.mk (blk_on hb HR3.out)
  have HB4 := Aside0.mk (below_step HB3.out hb)
  clear hb q0 q1 q2 q3 p0 p1
  have HN := Aside0.mk (heap_alloc_new w4 (.cells #[.int .i64 0, .int .i64 0] 25))
  have u0 : (w4.alloc (.cells #[.int .i64 0, .int .i64 0] 25)).cell? ⟨w4.heap.size, 0, none⟩ = some (.int .i64 0) := (blk_cell HN.out 0).trans rfl
  have u1 : (w4.alloc (.cells #[.int .i64 0, .int .i64 0] 25)).cell? ⟨w4.heap.size, 1, none⟩ = some (.int .i64 0) := (blk_cell HN.out 1).trans rfl
  have u2 := blk_frozen HN.out 0
  have u3 := blk_frozen HN.out 1
  go_wp2_with fail
  clear u0 u1 u2 u3 HN
  have HS5 := Aside0.mk (blk_drew (blk_alloc HS4.out (.cells #[.int .i64 n0, .int .i64 d0] 25)))
  have HP5 := Aside0.mk (blk_drew (blk_alloc HP4.out (.cells #[.int .i64 n0, .int .i64 d0] 25)))
  have HR5 := Aside0.mk (blk_drew (blk_alloc HR4.out (.cells #[.int .i64 n0, .int .i64 d0] 25)))
  have HL5 := Aside0.mk (blk_drew (heap_alloc_new w4 (.cells #[.int .i64 n0, .int .i64 d0] 25)))
  have HB5 := Aside0.mk (below_drew1 (below_alloc HB4.out (.cells #[.int .i64 n0, .int .i64 d0] 25)))
  have HG := Aside0.mk (blk_lt HR4.out)
  refine start_ (n := 14) (S := fun w' => w'.cell? ⟨w.heap.size, 0, none⟩ = some (.int .i64 a) ∧ w'.cell? ⟨w.heap.size, 1, none⟩ = some (.int .i64 b) ∧ w'.cell? ⟨w.heap.size, 2, none⟩ = some (.int .i64 c) ∧ w'.cell? ⟨w.heap.size, 3, none⟩ = some (.int .i64 d) ∧ w'.cell? ⟨w.heap.size + 1, 0, none⟩ = some (.int .i64 e) ∧ w'.cell? ⟨w.heap.size + 1, 1, none⟩ = some (.int .i64 f) ∧ w'.cell? ⟨w.heap.size + 1, 2, none⟩ = some (.int .i64 g) ∧ w'.cell? ⟨w.heap.size + 1, 3, none⟩ = some (.int .i64 h)) (ds := []) #[false, false, false, false, false, false, false, false, false, false, false, false, false, false] (by kernel_rfl) rfl rfl ⟨(blk_cell HS5.out 0).trans rfl, (blk_cell HS5.out 1).trans rfl, (blk_cell HS5.out 2).trans rfl, (blk_cell HS5.out 3).trans rfl, (blk_cell HP5.out 0).trans rfl, (blk_cell HP5.out 1).trans rfl, (blk_cell HP5.out 2).trans rfl, (blk_cell HP5.out 3).trans rfl⟩ (fun hHeld => ?_)
  refine with_tabW apTab6 apBits6 (fun HT_ HW_ => ?_)
  generalize (w4.alloc (.cells #[.int .i64 n0, .int .i64 d0] 25)).drew = w5 at HS5 HP5 HR5 HL5 HB5 hHeld ⊢
  generalize w4.heap.size = gL at HG HL5 ⊢
  refine pure_ (i := 1) (N := some 26) (v := ?_) (a' := ?_) #[false, true, false, false, false, false, false, false, false, false, false, false, false, false] rfl rfl (any_of HT_.out (by kernel_rfl)) (fun _ _ _ h => h) (Or.inl ⟨by rfl, ?_⟩) ?_ ?_
  rotate_left
  · intro w'
    go_simp
    with_reducible rfl
  rotate_left
  · simp only [Act.put, List.setIfInBounds_toArray, List.set_cons_zero, List.set_cons_succ, i64_w, i32_w]
    rfl
  refine pure_ (i := 5) (N := some 30) (v := ?_) (a' := ?_) #[false, true, false, false, false, true, false, false, false, false, false, false, false, false] rfl rfl (any_of HT_.out (by kernel_rfl)) (fun _ _ _ h => h) (Or.inl ⟨by rfl, ?_⟩) ?_ ?_
  rotate_left
  · intro w'
    go_simp
    with_reducible rfl
  rotate_left
  · simp only [Act.put, List.setIfInBounds_toArray, List.set_cons_zero, List.set_cons_succ, i64_w, i32_w]
    rfl
  refine pure_ (i := 9) (N := some 34) (v := ?_) (a' := ?_) #[false, true, false, false, false, true, false, false, false, true, false, false, false, false] rfl rfl (any_of HT_.out (by kernel_rfl)) (fun _ _ _ h => h) (Or.inl ⟨by rfl, ?_⟩) ?_ ?_
  rotate_left
  · intro w'
    go_simp
    with_reducible rfl
  rotate_left
  · simp only [Act.put, List.setIfInBounds_toArray, List.set_cons_zero, List.set_cons_succ, i64_w, i32_w]
    rfl
  refine pure_ (i := 13) (N := some 38) (v := ?_) (a' := ?_) #[false, true, false, false, false, true, false, false, false, true, false, false, false, true] rfl rfl (any_of HT_.out (by kernel_rfl)) (fun _ _ _ h => h) (Or.inl ⟨by rfl, ?_⟩) ?_ ?_
  rotate_left
  · intro w'
    go_simp
    with_reducible rfl
  rotate_left
  · simp only [Act.put, List.setIfInBounds_toArray, List.set_cons_zero, List.set_cons_succ, i64_w, i32_w]
    rfl
  refine take_ (i := 0) (N := some 25) (v := ?_) (a' := ?_) #[true, true, false, false, false, true, false, false, false, true, false, false, false, true] rfl rfl (take_ofW HT_.out HW_.out (by kernel_rfl)) (fun _ _ _ h => h) (Or.inl ⟨by rfl, ?_⟩) hHeld ?_ ?_
  rotate_left
  · rintro w' ⟨s0, s1, s2, s3, s4, s5, s6, s7⟩
    go_simp
    with_reducible rfl
  rotate_left
  · simp only [Act.put, List.setIfInBounds_toArray, List.set_cons_zero, List.set_cons_succ, i64_w, i32_w]
    rfl
  refine take_ (i := 2) (N := some 27) (v := ?_) (a' := ?_) #[true, true, true, false, false, true, false, false, false, true, false, false, false, true] rfl rfl (take_ofW HT_.out HW_.out (by kernel_rfl)) (fun _ _ _ h => h) (Or.inl ⟨by rfl, ?_⟩) hHeld ?_ ?_
  rotate_left
  · rintro w' ⟨s0, s1, s2, s3, s4, s5, s6, s7⟩
    go_simp
    with_reducible rfl
  rotate_left
  · simp only [Act.put, List.setIfInBounds_toArray, List.set_cons_zero, List.set_cons_succ, i64_w, i32_w]
    rfl
  refine take_ (i := 4) (N := some 29) (v := ?_) (a' := ?_) #[true, true, true, false, true, true, false, false, false, true, false, false, false, true] rfl rfl (take_ofW HT_.out HW_.out (by kernel_rfl)) (fun _ _ _ h => h) (Or.inl ⟨by rfl, ?_⟩) hHeld ?_ ?_
  rotate_left
  · rintro w' ⟨s0, s1, s2, s3, s4, s5, s6, s7⟩
    go_simp
    with_reducible rfl
  rotate_left
  · simp only [Act.put, List.setIfInBounds_toArray, List.set_cons_zero, List.set_cons_succ, i64_w, i32_w]
    rfl
  refine take_ (i := 6) (N := some 31) (v := ?_) (a' := ?_) #[true, true, true, false, true, true, true, false, false, true, false, false, false, true] rfl rfl (take_ofW HT_.out HW_.out (by kernel_rfl)) (fun _ _ _ h => h) (Or.inl ⟨by rfl, ?_⟩) hHeld ?_ ?_
  rotate_left
  · rintro w' ⟨s0, s1, s2, s3, s4, s5, s6, s7⟩
    go_simp
    with_reducible rfl
  rotate_left
  · simp only [Act.put, List.setIfInBounds_toArray, List.set_cons_zero, List.set_cons_succ, i64_w, i32_w]
    rfl
  refine take_ (i := 8) (N := some 33) (v := ?_) (a' := ?_) #[true, true, true, false, true, true, true, false, true, true, false, false, false, true] rfl rfl (take_ofW HT_.out HW_.out (by kernel_rfl)) (fun _ _ _ h => h) (Or.inl ⟨by rfl, ?_⟩) hHeld ?_ ?_
  rotate_left
  · rintro w' ⟨s0, s1, s2, s3, s4, s5, s6, s7⟩
    go_simp
    with_reducible rfl
  rotate_left
  · simp only [Act.put, List.setIfInBounds_toArray, List.set_cons_zero, List.set_cons_succ, i64_w, i32_w]
    rfl
  refine take_ (i := 10) (N := some 35) (v := ?_) (a' := ?_) #[true, true, true, false, true, true, true, false, true, true, true, false, false, true] rfl rfl (take_ofW HT_.out HW_.out (by kernel_rfl)) (fun _ _ _ h => h) (Or.inl ⟨by rfl, ?_⟩) hHeld ?_ ?_
  rotate_left
  · rintro w' ⟨s0, s1, s2, s3, s4, s5, s6, s7⟩
    go_simp
    with_reducible rfl
  rotate_left
  · simp only [Act.put, List.setIfInBounds_toArray, List.set_cons_zero, List.set_cons_succ, i64_w, i32_w]
    rfl
  refine one_ (i := 3) (N := some 28) #[true, true, true, true, true, true, true, false, true, true, true, false, false, true] rfl rfl (one_of HT_.out (by kernel_rfl)) (by decide) (fun K hK => ?_)
  refine goes_ Tryd.func24 (by kernel_rfl) rfl #[.agg #[.int .i64 a, .int .i64 b, .int .i64 c, .int .i64 d], .agg #[.int .i64 g, .int .i64 h]] (by rfl) rfl rfl (by (try simp only [List.map_toArray, List.map_cons, List.map_nil]); first | done | rfl) ?_
  refine (impl_SegFar.calls a b c d g h n1 d1 _ HF1.out).mono ?_
  rintro x w6 ⟨rfl, hb⟩
  refine ⟨_, rfl, ?_⟩
  have HS6 := Aside0.mk (blk_on hb HS5.out)
  have HP6 := Aside0.mk (blk_on hb HP5.out)
  have HR6 := Aside0.mk (blk_on hb HR5.out)
  have HL6 := Aside0.mk (blk_on hb HL5.out)
  have HB6 := Aside0.mk (below_step HB5.out hb)
  clear hb
  refine hK.out _ _ ⟨(blk_cell HS6.out 0).trans rfl, (blk_cell HS6.out 1).trans rfl, (blk_cell HS6.out 2).trans rfl, (blk_cell HS6.out 3).trans rfl, (blk_cell HP6.out 0).trans rfl, (blk_cell HP6.out 1).trans rfl, (blk_cell HP6.out 2).trans rfl, (blk_cell HP6.out 3).trans rfl⟩ (fun hHeld => ?_)
  clear hK K
  refine norm_ (a' := ?_) ?_ ?_
  rotate_left
  · show Act.put _ (some 28) _ = _
    simp only [Act.put, List.setIfInBounds_toArray, List.set_cons_zero, List.set_cons_succ, i64_w, i32_w]
    rfl
  refine one_ (i := 7) (N := some 32) #[true, true, true, true, true, true, true, true, true, true, true, false, false, true] rfl rfl (one_of HT_.out (by kernel_rfl)) (by decide) (fun K hK => ?_)
  refine goes_ Tryd.func24 (by kernel_rfl) rfl #[.agg #[.int .i64 e, .int .i64 f, .int .i64 g, .int .i64 h], .agg #[.int .i64 a, .int .i64 b]] (by rfl) rfl rfl (by (try simp only [List.map_toArray, List.map_cons, List.map_nil]); first | done | rfl) ?_
  refine (impl_SegFar.calls e f g h a b n2 d2 _ HF2.out).mono ?_
  rintro x w7 ⟨rfl, hb⟩
  refine ⟨_, rfl, ?_⟩
  have HS7 := Aside0.mk (blk_on hb HS6.out)
  have HP7 := Aside0.mk (blk_on hb HP6.out)
  have HR7 := Aside0.mk (blk_on hb HR6.out)
  have HL7 := Aside0.mk (blk_on hb HL6.out)
  have HB7 := Aside0.mk (below_step HB6.out hb)
  clear hb
  refine hK.out _ _ ⟨(blk_cell HS7.out 0).trans rfl, (blk_cell HS7.out 1).trans rfl, (blk_cell HS7.out 2).trans rfl, (blk_cell HS7.out 3).trans rfl, (blk_cell HP7.out 0).trans rfl, (blk_cell HP7.out 1).trans rfl, (blk_cell HP7.out 2).trans rfl, (blk_cell HP7.out 3).trans rfl⟩ (fun hHeld => ?_)
  clear hK K
  refine norm_ (a' := ?_) ?_ ?_
  rotate_left
  · show Act.put _ (some 32) _ = _
    simp only [Act.put, List.setIfInBounds_toArray, List.set_cons_zero, List.set_cons_succ, i64_w, i32_w]
    rfl
  refine one_ (i := 11) (N := some 36) #[true, true, true, true, true, true, true, true, true, true, true, true, false, true] rfl rfl (one_of HT_.out (by kernel_rfl)) (by decide) (fun K hK => ?_)
  refine goes_ Tryd.func24 (by kernel_rfl) rfl #[.agg #[.int .i64 e, .int .i64 f, .int .i64 g, .int .i64 h], .agg #[.int .i64 c, .int .i64 d]] (by rfl) rfl rfl (by (try simp only [List.map_toArray, List.map_cons, List.map_nil]); first | done | rfl) ?_
  refine (impl_SegFar.calls e f g h c d n3 d3 _ HF3.out).mono ?_
  rintro x w8 ⟨rfl, hb⟩
  refine ⟨_, rfl, ?_⟩
  have HS8 := Aside0.mk (blk_on hb HS7.out)
  have HP8 := Aside0.mk (blk_on hb HP7.out)
  have HR8 := Aside0.mk (blk_on hb HR7.out)
  have HL8 := Aside0.mk (blk_on hb HL7.out)
  have HB8 := Aside0.mk (below_step HB7.out hb)
  clear hb
  refine hK.out _ _ ⟨(blk_cell HS8.out 0).trans rfl, (blk_cell HS8.out 1).trans rfl, (blk_cell HS8.out 2).trans rfl, (blk_cell HS8.out 3).trans rfl, (blk_cell HP8.out 0).trans rfl, (blk_cell HP8.out 1).trans rfl, (blk_cell HP8.out 2).trans rfl, (blk_cell HP8.out 3).trans rfl⟩ (fun hHeld => ?_)
  clear hK K
  refine norm_ (a' := ?_) ?_ ?_
  rotate_left
  · show Act.put _ (some 36) _ = _
    simp only [Act.put, List.setIfInBounds_toArray, List.set_cons_zero, List.set_cons_succ, i64_w, i32_w]
    rfl
  refine pure_ (i := 12) (N := some 37) (v := ?_) (a' := ?_) #[true, true, true, true, true, true, true, true, true, true, true, true, true, true] rfl rfl (any_of HT_.out (by kernel_rfl)) (fun _ _ _ h => h) (Or.inl ⟨by rfl, ?_⟩) ?_ ?_
  rotate_left
  · intro w'
    go_simp
    with_reducible rfl
  rotate_left
  · simp only [Act.put, List.setIfInBounds_toArray, List.set_cons_zero, List.set_cons_succ, i64_w, i32_w]
    rfl
  refine done_ (done_of HT_.out (by kernel_rfl)) ?_
  go_wp2_with fail
  clear HT_ HW_ hHeld HS5 HP5 HR5 HL5 HB5 HS6 HP6 HR6 HL6 HB6 HS7 HP7 HR7 HL7 HB7 HS4 HP4 HR4 HB4 HS3 HP3 HR3 HB3 HS2 HP2 HR2 HB2 HS HP HR HB1 HB
  go_loopg [38] 4 (fun kq v38 w' => ∃ (j : Nat) (x : Int) (m0 m1 : Int), j + kq = 4 ∧ j ≤ 3 ∧ x = (j : Int) ∧ v38 = .int .i64 x ∧ Aside0 ((m0, m1) = foldP (n0, d0) (n1, d1) (n2, d2) (n3, d3) j) ∧ Aside0 (w'.heap[gL]? = some (.cells #[.int .i64 m0, .int .i64 m1] 25 (0, 0))) ∧ Aside0 (w'.heap[w.heap.size + 1 + 1]? = some (.cells #[.int .i64 0, .int .i64 0] 25 (0, 0))) ∧ Aside0 (Below w.heap.size w w'))
  case atStart => exact ⟨0, 0, n0, d0, by omega, by omega, rfl, rfl, ⟨rfl⟩, HL8, HR8, HB8⟩
  case round =>
    clear HS8 HP8 HR8 HL8 HB8
    obtain ⟨j, x, m0, m1, hj, hj3, hx, rfl, HM, HL, HR, HB⟩ := hrel
    have hu4 := Tryd.underlying83
    rcases j with _ | _ | _ | _ | j
    ·
      obtain rfl : x = 0 := by omega
      clear hx
      have hix := apIdx0 wr (.int .i64 n1) (.int .i64 d1) (.int .i64 n2) (.int .i64 d2) (.int .i64 n3) (.int .i64 d3)
      have HN := Aside0.mk (heap_alloc_new wr (.cells #[.int .i64 0, .int .i64 0] 25))
      have u0 : (wr.alloc (.cells #[.int .i64 0, .int .i64 0] 25)).cell? ⟨wr.heap.size, 0, none⟩ = some (.int .i64 0) := (blk_cell HN.out 0).trans rfl
      have u1 : (wr.alloc (.cells #[.int .i64 0, .int .i64 0] 25)).cell? ⟨wr.heap.size, 1, none⟩ = some (.int .i64 0) := (blk_cell HN.out 1).trans rfl
      have u2 := blk_frozen HN.out 0
      have u3 := blk_frozen HN.out 1
      have HN2 := Aside0.mk (heap_alloc_new wr (.cells #[.int .i64 n1, .int .i64 d1] 25))
      have p0 : (wr.alloc (.cells #[.int .i64 n1, .int .i64 d1] 25)).cell? ⟨wr.heap.size, 0, none⟩ = some (.int .i64 n1) := (blk_cell HN2.out 0).trans rfl
      have p1 : (wr.alloc (.cells #[.int .i64 n1, .int .i64 d1] 25)).cell? ⟨wr.heap.size, 1, none⟩ = some (.int .i64 d1) := (blk_cell HN2.out 1).trans rfl
      have q0 : ∀ o, (wr.alloc o).cell? ⟨gL, 0, none⟩ = some (.int .i64 m0) := fun o => (blk_cell (blk_alloc HL.out o) 0).trans rfl
      have q1 : ∀ o, (wr.alloc o).cell? ⟨gL, 1, none⟩ = some (.int .i64 m1) := fun o => (blk_cell (blk_alloc HL.out o) 1).trans rfl
      go_wp2_with fail
      refine (impl_FracCmp.calls n1 d1 m0 m1 (fracCmp (n1, d1) (m0, m1)) _ (HE.out.below (below_alloc HB.out _)) rfl).mono ?_
      rintro x wq ⟨rfl, hb⟩
      have HNq := Aside0.mk (blk_on hb HN2.out)
      have HLq := Aside0.mk (blk_on hb (blk_alloc HL.out (.cells #[.int .i64 n1, .int .i64 d1] 25)))
      have HRq := Aside0.mk (blk_on hb (blk_alloc HR.out (.cells #[.int .i64 n1, .int .i64 d1] 25)))
      have HBq := Aside0.mk (below_step (below_alloc HB.out (.cells #[.int .i64 n1, .int .i64 d1] 25)) hb)
      clear hb u0 u1 u2 u3 p0 p1 q0 q1 HN HN2 HL HR HB hix
      have hgk : gk = 4 := by omega
      by_cases hc : fracCmp (n1, d1) (m0, m1) < 0
      ·
        have HC := Aside0.mk hc
        have hcb : decide (fracCmp (n1, d1) (m0, m1) < 0) = true := decide_eq_true hc
        clear hc
        have p0 : wq.cell? ⟨wr.heap.size, 0, none⟩ = some (.int .i64 n1) := (blk_cell HNq.out 0).trans rfl
        have p1 : wq.cell? ⟨wr.heap.size, 1, none⟩ = some (.int .i64 d1) := (blk_cell HNq.out 1).trans rfl
        have q0 : wq.cell? ⟨gL, 0, none⟩ = some (.int .i64 m0) := (blk_cell HLq.out 0).trans rfl
        have q1 : wq.cell? ⟨gL, 1, none⟩ = some (.int .i64 m1) := (blk_cell HLq.out 1).trans rfl
        have q2 := blk_frozen HLq.out 0
        have q3 := blk_frozen HLq.out 1
        go_wp2
        go_roundg 3
        case measure => omega
        case rel =>
          have hG := HG.out
          exact ⟨1, 1, n1, d1, by omega, by omega, by simp, by rfl, ⟨pick_lt HM.out HC.out⟩, ⟨by refine blk_put (cs := #[.int .i64 n1, .int .i64 m1]) ?_ 1 _ rfl; refine blk_put (cs := #[.int .i64 m0, .int .i64 m1]) ?_ 0 _ rfl; exact HLq.out⟩, ⟨by refine blk_far ?_ (Nat.ne_of_lt hG) _; refine blk_far ?_ (Nat.ne_of_lt hG) _; exact HRq.out⟩, ⟨by refine below_set ?_ (by omega); refine below_set ?_ (by omega); exact HBq.out⟩⟩
      ·
        have HC := Aside0.mk hc
        have hcb : decide (fracCmp (n1, d1) (m0, m1) < 0) = false := decide_eq_false hc
        clear hc
        go_wp2
        go_roundg 3
        case measure => omega
        case rel => exact ⟨1, 1, m0, m1, by omega, by omega, by simp, by rfl, ⟨pick_ge HM.out (Int.not_lt.mpr HC.out)⟩, HLq, HRq, HBq⟩
    ·
      obtain rfl : x = 1 := by omega
      clear hx
      have hix := apIdx1 wr (.int .i64 n1) (.int .i64 d1) (.int .i64 n2) (.int .i64 d2) (.int .i64 n3) (.int .i64 d3)
      have HN := Aside0.mk (heap_alloc_new wr (.cells #[.int .i64 0, .int .i64 0] 25))
      have u0 : (wr.alloc (.cells #[.int .i64 0, .int .i64 0] 25)).cell? ⟨wr.heap.size, 0, none⟩ = some (.int .i64 0) := (blk_cell HN.out 0).trans rfl
      have u1 : (wr.alloc (.cells #[.int .i64 0, .int .i64 0] 25)).cell? ⟨wr.heap.size, 1, none⟩ = some (.int .i64 0) := (blk_cell HN.out 1).trans rfl
      have u2 := blk_frozen HN.out 0
      have u3 := blk_frozen HN.out 1
      have HN2 := Aside0.mk (heap_alloc_new wr (.cells #[.int .i64 n2, .int .i64 d2] 25))
      have p0 : (wr.alloc (.cells #[.int .i64 n2, .int .i64 d2] 25)).cell? ⟨wr.heap.size, 0, none⟩ = some (.int .i64 n2) := (blk_cell HN2.out 0).trans rfl
      have p1 : (wr.alloc (.cells #[.int .i64 n2, .int .i64 d2] 25)).cell? ⟨wr.heap.size, 1, none⟩ = some (.int .i64 d2) := (blk_cell HN2.out 1).trans rfl
      have q0 : ∀ o, (wr.alloc o).cell? ⟨gL, 0, none⟩ = some (.int .i64 m0) := fun o => (blk_cell (blk_alloc HL.out o) 0).trans rfl
      have q1 : ∀ o, (wr.alloc o).cell? ⟨gL, 1, none⟩ = some (.int .i64 m1) := fun o => (blk_cell (blk_alloc HL.out o) 1).trans rfl
      go_wp2_with fail
      refine (impl_FracCmp.calls n2 d2 m0 m1 (fracCmp (n2, d2) (m0, m1)) _ (HE.out.below (below_alloc HB.out _)) rfl).mono ?_
      rintro x wq ⟨rfl, hb⟩
      have HNq := Aside0.mk (blk_on hb HN2.out)
      have HLq := Aside0.mk (blk_on hb (blk_alloc HL.out (.cells #[.int .i64 n2, .int .i64 d2] 25)))
      have HRq := Aside0.mk (blk_on hb (blk_alloc HR.out (.cells #[.int .i64 n2, .int .i64 d2] 25)))
      have HBq := Aside0.mk (below_step (below_alloc HB.out (.cells #[.int .i64 n2, .int .i64 d2] 25)) hb)
      clear hb u0 u1 u2 u3 p0 p1 q0 q1 HN HN2 HL HR HB hix
      have hgk : gk = 3 := by omega
      by_cases hc : fracCmp (n2, d2) (m0, m1) < 0
      ·
        have HC := Aside0.mk hc
        have hcb : decide (fracCmp (n2, d2) (m0, m1) < 0) = true := decide_eq_true hc
        clear hc
        have p0 : wq.cell? ⟨wr.heap.size, 0, none⟩ = some (.int .i64 n2) := (blk_cell HNq.out 0).trans rfl
        have p1 : wq.cell? ⟨wr.heap.size, 1, none⟩ = some (.int .i64 d2) := (blk_cell HNq.out 1).trans rfl
        have q0 : wq.cell? ⟨gL, 0, none⟩ = some (.int .i64 m0) := (blk_cell HLq.out 0).trans rfl
        have q1 : wq.cell? ⟨gL, 1, none⟩ = some (.int .i64 m1) := (blk_cell HLq.out 1).trans rfl
        have q2 := blk_frozen HLq.out 0
        have q3 := blk_frozen HLq.out 1
        go_wp2
        go_roundg 2
        case measure => omega
        case rel =>
          have hG := HG.out
          exact ⟨2, 2, n2, d2, by omega, by omega, by simp, by rfl, ⟨pick_lt HM.out HC.out⟩, ⟨by refine blk_put (cs := #[.int .i64 n2, .int .i64 m1]) ?_ 1 _ rfl; refine blk_put (cs := #[.int .i64 m0, .int .i64 m1]) ?_ 0 _ rfl; exact HLq.out⟩, ⟨by refine blk_far ?_ (Nat.ne_of_lt hG) _; refine blk_far ?_ (Nat.ne_of_lt hG) _; exact HRq.out⟩, ⟨by refine below_set ?_ (by omega); refine below_set ?_ (by omega); exact HBq.out⟩⟩
      ·
        have HC := Aside0.mk hc
        have hcb : decide (fracCmp (n2, d2) (m0, m1) < 0) = false := decide_eq_false hc
        clear hc
        go_wp2
        go_roundg 2
        case measure => omega
        case rel => exact ⟨2, 2, m0, m1, by omega, by omega, by simp, by rfl, ⟨pick_ge HM.out (Int.not_lt.mpr HC.out)⟩, HLq, HRq, HBq⟩
    ·
      obtain rfl : x = 2 := by omega
      clear hx
      have hix := apIdx2 wr (.int .i64 n1) (.int .i64 d1) (.int .i64 n2) (.int .i64 d2) (.int .i64 n3) (.int .i64 d3)
      have HN := Aside0.mk (heap_alloc_new wr (.cells #[.int .i64 0, .int .i64 0] 25))
      have u0 : (wr.alloc (.cells #[.int .i64 0, .int .i64 0] 25)).cell? ⟨wr.heap.size, 0, none⟩ = some (.int .i64 0) := (blk_cell HN.out 0).trans rfl
      have u1 : (wr.alloc (.cells #[.int .i64 0, .int .i64 0] 25)).cell? ⟨wr.heap.size, 1, none⟩ = some (.int .i64 0) := (blk_cell HN.out 1).trans rfl
      have u2 := blk_frozen HN.out 0
      have u3 := blk_frozen HN.out 1
      have HN2 := Aside0.mk (heap_alloc_new wr (.cells #[.int .i64 n3, .int .i64 d3] 25))
      have p0 : (wr.alloc (.cells #[.int .i64 n3, .int .i64 d3] 25)).cell? ⟨wr.heap.size, 0, none⟩ = some (.int .i64 n3) := (blk_cell HN2.out 0).trans rfl
      have p1 : (wr.alloc (.cells #[.int .i64 n3, .int .i64 d3] 25)).cell? ⟨wr.heap.size, 1, none⟩ = some (.int .i64 d3) := (blk_cell HN2.out 1).trans rfl
      have q0 : ∀ o, (wr.alloc o).cell? ⟨gL, 0, none⟩ = some (.int .i64 m0) := fun o => (blk_cell (blk_alloc HL.out o) 0).trans rfl
      have q1 : ∀ o, (wr.alloc o).cell? ⟨gL, 1, none⟩ = some (.int .i64 m1) := fun o => (blk_cell (blk_alloc HL.out o) 1).trans rfl
      go_wp2_with fail
      refine (impl_FracCmp.calls n3 d3 m0 m1 (fracCmp (n3, d3) (m0, m1)) _ (HE.out.below (below_alloc HB.out _)) rfl).mono ?_
      rintro x wq ⟨rfl, hb⟩
      have HNq := Aside0.mk (blk_on hb HN2.out)
      have HLq := Aside0.mk (blk_on hb (blk_alloc HL.out (.cells #[.int .i64 n3, .int .i64 d3] 25)))
      have HRq := Aside0.mk (blk_on hb (blk_alloc HR.out (.cells #[.int .i64 n3, .int .i64 d3] 25)))
      have HBq := Aside0.mk (below_step (below_alloc HB.out (.cells #[.int .i64 n3, .int .i64 d3] 25)) hb)
      clear hb u0 u1 u2 u3 p0 p1 q0 q1 HN HN2 HL HR HB hix
      have hgk : gk = 2 := by omega
      by_cases hc : fracCmp (n3, d3) (m0, m1) < 0
      ·
        have HC := Aside0.mk hc
        have hcb : decide (fracCmp (n3, d3) (m0, m1) < 0) = true := decide_eq_true hc
        clear hc
        have p0 : wq.cell? ⟨wr.heap.size, 0, none⟩ = some (.int .i64 n3) := (blk_cell HNq.out 0).trans rfl
        have p1 : wq.cell? ⟨wr.heap.size, 1, none⟩ = some (.int .i64 d3) := (blk_cell HNq.out 1).trans rfl
        have q0 : wq.cell? ⟨gL, 0, none⟩ = some (.int .i64 m0) := (blk_cell HLq.out 0).trans rfl
        have q1 : wq.cell? ⟨gL, 1, none⟩ = some (.int .i64 m1) := (blk_cell HLq.out 1).trans rfl
        have q2 := blk_frozen HLq.out 0
        have q3 := blk_frozen HLq.out 1
        go_wp2
        go_roundg 1
        case measure => omega
        case rel =>
          have hG := HG.out
          exact ⟨3, 3, n3, d3, by omega, by omega, by simp, by rfl, ⟨pick_lt HM.out HC.out⟩, ⟨by refine blk_put (cs := #[.int .i64 n3, .int .i64 m1]) ?_ 1 _ rfl; refine blk_put (cs := #[.int .i64 m0, .int .i64 m1]) ?_ 0 _ rfl; exact HLq.out⟩, ⟨by refine blk_far ?_ (Nat.ne_of_lt hG) _; refine blk_far ?_ (Nat.ne_of_lt hG) _; exact HRq.out⟩, ⟨by refine below_set ?_ (by omega); refine below_set ?_ (by omega); exact HBq.out⟩⟩
      ·
        have HC := Aside0.mk hc
        have hcb : decide (fracCmp (n3, d3) (m0, m1) < 0) = false := decide_eq_false hc
        clear hc
        go_wp2
        go_roundg 1
        case measure => omega
        case rel => exact ⟨3, 3, m0, m1, by omega, by omega, by simp, by rfl, ⟨pick_ge HM.out (Int.not_lt.mpr HC.out)⟩, HLq, HRq, HBq⟩
    · obtain rfl : x = 3 := by omega
      clear hx
      have q0 : wr.cell? ⟨gL, 0, none⟩ = some (.int .i64 m0) := (blk_cell HL.out 0).trans rfl
      have q1 : wr.cell? ⟨gL, 1, none⟩ = some (.int .i64 m1) := (blk_cell HL.out 1).trans rfl
      have p0 : wr.cell? ⟨w.heap.size + 1 + 1, 0, none⟩ = some (.int .i64 0) := (blk_cell HR.out 0).trans rfl
      have p1 : wr.cell? ⟨w.heap.size + 1 + 1, 1, none⟩ = some (.int .i64 0) := (blk_cell HR.out 1).trans rfl
      have p2 := blk_frozen HR.out 0
      have p3 := blk_frozen HR.out 1
      go_wp2_with fail
      have em : pickL (pickL (pickL (n0, d0) (n1, d1)) (n2, d2)) (n3, d3) = (m0, m1) := HM.out.symm
      rw [em]
      refine bodyPost_ret (results_cell_row rfl _ _ (w.heap.size + 1 + 1) 25 #[.int .i64 m0, .int .i64 m1] (0, 0) _ rfl (by refine blk_put (cs := #[.int .i64 m0, .int .i64 0]) ?_ 1 _ rfl; refine blk_put (cs := #[.int .i64 0, .int .i64 0]) ?_ 0 _ rfl; exact HR.out) Tryd.underlying25 rfl (by kernel_rfl)) rfl ?_
      exact ⟨rfl, by refine below_set ?_ (by omega); refine below_set ?_ (by omega); exact HB.out⟩
    · exfalso; omega
end
theorem val_pick {m f : Frac} (hm : fracOk m = true) (hf : fracOk f = true) : fracOk (pickL m f) = true ∧ (val (pickL m f) ≤ val m ∧ val (pickL m f) ≤ val f) ∧ (pickL m f = m ∨ pickL m f = f) := by
  unfold pickL
  by_cases h : fracCmp f m < 0
  · rw [if_pos h]
    exact ⟨hf, ⟨(cmp_le hf hm).1 (by omega), Rat.le_refl⟩, .inr rfl⟩
  · rw [if_neg h]
    exact ⟨hm, ⟨Rat.le_refl, (cmp_ge hf hm).1 (by omega)⟩, .inl rfl⟩
def impl_SegApart.f (a b c d e f g h : Int) : Option (Int × Int) := some ((segApart ((a, b), (c, d)) ((e, f), (g, h))).1, (segApart ((a, b), (c, d)) ((e, f), (g, h))).2)
theorem impl_SegApart.calls (a b c d e f g h r1 r2 : Int) (w : World) (hE : ErrW w) (hh : impl_SegApart.f a b c d e f g h = some (r1, r2)) :
    Calls Tryd.prog 33 #[.agg #[.int .i64 a, .int .i64 b, .int .i64 c, .int .i64 d], .agg #[.int .i64 e, .int .i64 f, .int .i64 g, .int .i64 h]] w fun x w' => x = .returned (.agg #[.int .i64 r1, .int .i64 r2]) ∧ Below w.heap.size w w' := by
  unfold impl_SegApart.f at hh
  simp only [Option.some.injEq, Prod.mk.injEq] at hh
  obtain ⟨rfl, rfl⟩ := hh
  cases hs : segOk ((a, b), (c, d)) with
  | false =>
    have e0 : segApart ((a, b), (c, d)) ((e, f), (g, h)) = (0, 0) := by unfold segApart; rw [hs]; rfl
    rw [e0]
    exact segApart_bad1 a b c d e f g h w ((iSegOk a b c d).trans (congrArg some hs))
  | true =>
    have h1 := (iSegOk a b c d).trans (congrArg some hs)
    cases ht : segOk ((e, f), (g, h)) with
    | false =>
      have e0 : segApart ((a, b), (c, d)) ((e, f), (g, h)) = (0, 0) := by unfold segApart; rw [hs, ht]; rfl
      rw [e0]
      exact segApart_bad2 a b c d e f g h w h1 ((iSegOk e f g h).trans (congrArg some ht))
    | true =>
      have h2 := (iSegOk e f g h).trans (congrArg some ht)
      have hM : segMeet ((a, b), (c, d)) ((e, f), (g, h)) = meet ((a, b), (c, d)) ((e, f), (g, h)) := by unfold segMeet; rw [hs, ht]; rfl
      have h3 := iSegMeet (Nat.le_refl 3) a b c d e f g h
      rw [hM] at h3
      cases hm : meet ((a, b), (c, d)) ((e, f), (g, h)) with
      | true =>
        rw [hm] at h3
        have e0 : segApart ((a, b), (c, d)) ((e, f), (g, h)) = (0, 1) := by unfold segApart; rw [hs, ht, hm]; rfl
        rw [e0]
        exact segApart_meet a b c d e f g h w h1 h2 h3
      | false =>
        rw [hm] at h3
        obtain ⟨o1, o2⟩ := segOk_ends hs
        obtain ⟨o3, o4⟩ := segOk_ends ht
        have k0 := (segFar_ok hs o3).1
        have k1 := (segFar_ok hs o4).1
        have k2 := (segFar_ok ht o1).1
        have k3 := (segFar_ok ht o2).1
        have p1 := val_pick k0 k1
        have p2 := val_pick p1.1 k2
        have p3 := val_pick p2.1 k3
        have e0 : pickL (pickL (pickL (segFar ((a, b), (c, d)) (e, f)) (segFar ((a, b), (c, d)) (g, h))) (segFar ((e, f), (g, h)) (a, b))) (segFar ((e, f), (g, h)) (c, d)) = segApart ((a, b), (c, d)) ((e, f), (g, h)) := by
          refine apart_unique hs ht p3.1 hm ⟨?_, ?_, ?_, p3.2.1.2⟩ ?_
          · exact Rat.le_trans p3.2.1.1 (Rat.le_trans p2.2.1.1 p1.2.1.1)
          · exact Rat.le_trans p3.2.1.1 (Rat.le_trans p2.2.1.1 p1.2.1.2)
          · exact Rat.le_trans p3.2.1.1 p2.2.1.2
          · rcases p3.2.2 with e | e
            · rcases p2.2.2 with e' | e'
              · rcases p1.2.2 with e'' | e''
                · exact .inl (e.trans (e'.trans e''))
                · exact .inr (.inl (e.trans (e'.trans e'')))
              · exact .inr (.inr (.inl (e.trans e')))
            · exact .inr (.inr (.inr e))
        rw [← e0]
        exact segApart_far a b c d e f g h w h1 h2 h3 rfl rfl rfl rfl hE
end Go.Proofs.YtnponnkcfgjeoaaDoor.X
end
