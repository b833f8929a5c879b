/- FnMeetApart: the law returns true for every input, and each input reads behind the call as before; part 7 of 7. No condition. Merged by program out of: HApart, FLawsFnMeetApart, EvApart, EvDraw, PureFnMeetApart, WSized, LawFnMeetApart. -/
import Derived.Test.YtnponnkcfgjeoaaDoorMFnMeetApart6
import Derived.LoopN
import Derived.SizedLaws
import Derived.ChangeSlices
import Derived.WalkKit
import Derived.ProofKit
import Derived.OpenShut
import Derived.ShutString
import Derived.ChangeOld
import Derived.Below
import Derived.SevenTiedAt
section
set_option linter.unusedVariables false
set_option linter.unusedSimpArgs false
namespace Go.Proofs.YtnponnkcfgjeoaaDoor.X
open Go.RowKit Go.Proofs.YtnponnkcfgjeoaaDoorW.PrintWords Go.Proofs.YtnponnkcfgjeoaaDoorW.PrintLast Go.Proofs.YtnponnkcfgjeoaaDoorW.PrintMore
open Mort
def apT6 : Bool × List (List Nat × List Nat) := (true, [([], []), ([], []), ([1], [1]), ([0, 2], [0, 2]), ([], []), ([], []), ([5], [5]), ([4, 6, 3], [4, 6]), ([], []), ([], []), ([9], [9]), ([8, 10, 7], [8, 10]), ([3, 7, 11], [3, 7, 11]), ([], [])])
def apB6 : List Nat := [0, 0, 2, 7, 0, 0, 32, 127, 0, 0, 512, 2047, 4095, 0]
theorem apTab6 : rtab .any (opsOf Tryd.f33 6) = apT6 := by kernel_rfl
theorem apBits6 : waitsOk apT6.2 apB6 = true := by kernel_rfl
theorem apIdx0 (w : World) (p q r s t u : Value) : (Instr.index 83 (.agg #[p, q, r, s, t, u]) (.int .i64 0)).run Tryd.prog w = .ok (.agg #[p, q]) w := by
  simp [Instr.index, run_underlying Tryd.underlying83, asIntOf, go_sem]
theorem apIdx1 (w : World) (p q r s t u : Value) : (Instr.index 83 (.agg #[p, q, r, s, t, u]) (.int .i64 1)).run Tryd.prog w = .ok (.agg #[r, s]) w := by
  simp [Instr.index, run_underlying Tryd.underlying83, asIntOf, go_sem]
theorem apIdx2 (w : World) (p q r s t u : Value) : (Instr.index 83 (.agg #[p, q, r, s, t, u]) (.int .i64 2)).run Tryd.prog w = .ok (.agg #[t, u]) w := by
  simp [Instr.index, run_underlying Tryd.underlying83, asIntOf, go_sem]
/-- the nearer of two -/
def pickL (m f : Frac) : Frac := if fracCmp f m < 0 then f else m
theorem pick_lt {m f p : Frac} (e : m = p) (h : fracCmp f m < 0) : f = pickL p f := by subst e; unfold pickL; rw [if_pos h]
theorem pick_ge {m f p : Frac} (e : m = p) (h : ¬ fracCmp f m < 0) : m = pickL p f := by subst e; unfold pickL; rw [if_neg h]
def foldP (f0 f1 f2 f3 : Frac) : Nat → Frac
  | 0 => f0
  | 1 => pickL f0 f1
  | 2 => pickL (pickL f0 f1) f2
  | _ => pickL (pickL (pickL f0 f1) f2) f3
section
variable (a b c d e f g h : Int) (w : World)
set_option maxHeartbeats 1000000 in
set_option maxRecDepth 100000 in
theorem segApart_bad1 (hh : impl_SegOk.f a b c d = some false) :
    Calls Tryd.prog 33 #[.agg #[.int .i64 a, .int .i64 b, .int .i64 c, .int .i64 d], .agg #[.int .i64 e, .int .i64 f, .int .i64 g, .int .i64 h]] w fun x w' => x = .returned (.agg #[.int .i64 0, .int .i64 0]) ∧ Below w.heap.size w w' := by
  have hu1 := Tryd.underlying40
  have hu2 := Tryd.underlying38
  have hu3 := Tryd.underlying25
  have HB := Aside0.mk (boxes3 w (.cells #[.int .i64 a, .int .i64 b, .int .i64 c, .int .i64 d] 40) (.cells #[.int .i64 e, .int .i64 f, .int .i64 g, .int .i64 h] 40) (.cells #[.int .i64 0, .int .i64 0] 25))
  have H := Aside0.mk hh
  clear hh
  go_enter Tryd.func33, Tryd.ntmps33
  go_wp2_with fail
  refine (impl_SegOk.calls a b c d false _ H.out).mono ?_
  rintro x w1 ⟨rfl, hb⟩
  have HS := Aside0.mk (blk_on hb HB.out.2.1)
  have HP := Aside0.mk (blk_on hb HB.out.2.2.1)
  have HR := Aside0.mk (blk_on hb HB.out.2.2.2)
  have HB1 := Aside0.mk (below_step HB.out.1 hb)
  clear hb
  have q0 : w1.cell? ⟨w.heap.size + 1 + 1, 0, none⟩ = some (.int .i64 0) := (blk_cell HR.out 0).trans rfl
  have q1 : w1.cell? ⟨w.heap.size + 1 + 1, 1, none⟩ = some (.int .i64 0) := (blk_cell HR.out 1).trans rfl
  have q2 := blk_frozen HR.out 0
  have q3 := blk_frozen HR.out 1
  go_wp2_with fail
  refine bodyPost_ret (results_cell_row rfl _ _ (w.heap.size + 1 + 1) 25 #[.int .i64 0, .int .i64 0] (0, 0) _ rfl (by refine blk_put (cs := #[.int .i64 0, .int .i64 0]) ?_ 1 _ rfl; refine blk_put (cs := #[.int .i64 0, .int .i64 0]) ?_ 0 _ rfl; exact HR.out) Tryd.underlying25 rfl (by kernel_rfl)) rfl ?_
  exact ⟨rfl, by refine below_set ?_ (by omega); refine below_set ?_ (by omega); exact HB1.out⟩
set_option maxHeartbeats 1000000 in
set_option maxRecDepth 100000 in
theorem segApart_bad2 (hh : impl_SegOk.f a b c d = some true) (hh' : impl_SegOk.f e f g h = some false) :
    Calls Tryd.prog 33 #[.agg #[.int .i64 a, .int .i64 b, .int .i64 c, .int .i64 d], .agg #[.int .i64 e, .int .i64 f, .int .i64 g, .int .i64 h]] w fun x w' => x = .returned (.agg #[.int .i64 0, .int .i64 0]) ∧ Below w.heap.size w w' := by
  have hu1 := Tryd.underlying40
  have hu2 := Tryd.underlying38
  have hu3 := Tryd.underlying25
  have HB := Aside0.mk (boxes3 w (.cells #[.int .i64 a, .int .i64 b, .int .i64 c, .int .i64 d] 40) (.cells #[.int .i64 e, .int .i64 f, .int .i64 g, .int .i64 h] 40) (.cells #[.int .i64 0, .int .i64 0] 25))
  have H := Aside0.mk hh
  have H' := Aside0.mk hh'
  clear hh hh'
  go_enter Tryd.func33, Tryd.ntmps33
  go_wp2_with fail
  refine (impl_SegOk.calls a b c d true _ H.out).mono ?_
  rintro x w1 ⟨rfl, hb⟩
  have HS := Aside0.mk (blk_on hb HB.out.2.1)
  have HP := Aside0.mk (blk_on hb HB.out.2.2.1)
  have HR := Aside0.mk (blk_on hb HB.out.2.2.2)
  have HB1 := Aside0.mk (below_step HB.out.1 hb)
  clear hb
  have q0 : w1.cell? ⟨w.heap.size + 1, 0, none⟩ = some (.int .i64 e) := (blk_cell HP.out 0).trans rfl
  have q1 : w1.cell? ⟨w.heap.size + 1, 1, none⟩ = some (.int .i64 f) := (blk_cell HP.out 1).trans rfl
  have q2 : w1.cell? ⟨w.heap.size + 1, 2, none⟩ = some (.int .i64 g) := (blk_cell HP.out 2).trans rfl
  have q3 : w1.cell? ⟨w.heap.size + 1, 3, none⟩ = some (.int .i64 h) := (blk_cell HP.out 3).trans rfl
  go_wp2_with fail
  refine (impl_SegOk.calls e f g h false _ H'.out).mono ?_
  rintro x w2 ⟨rfl, hb⟩
  have HS2 := Aside0.mk (blk_on hb HS.out)
  have HP2 := Aside0.mk (blk_on hb HP.out)
  have HR2 := Aside0.mk (blk_on hb HR.out)
  have HB2 := Aside0.mk (below_step HB1.out hb)
  clear hb q0 q1 q2 q3
  have q0 : w2.cell? ⟨w.heap.size + 1 + 1, 0, none⟩ = some (.int .i64 0) := (blk_cell HR2.out 0).trans rfl
  have q1 : w2.cell? ⟨w.heap.size + 1 + 1, 1, none⟩ = some (.int .i64 0) := (blk_cell HR2.out 1).trans rfl
  have q2 := blk_frozen HR2.out 0
  have q3 := blk_frozen HR2.out 1
  go_wp2_with fail
  refine bodyPost_ret (results_cell_row rfl _ _ (w.heap.size + 1 + 1) 25 #[.int .i64 0, .int .i64 0] (0, 0) _ rfl (by refine blk_put (cs := #[.int .i64 0, .int .i64 0]) ?_ 1 _ rfl; refine blk_put (cs := #[.int .i64 0, .int .i64 0]) ?_ 0 _ rfl; exact HR2.out) Tryd.underlying25 rfl (by kernel_rfl)) rfl ?_
  exact ⟨rfl, by refine below_set ?_ (by omega); refine below_set ?_ (by omega); exact HB2.out⟩
set_option maxHeartbeats 1000000 in
set_option maxRecDepth 100000 in
theorem segApart_meet (hh : impl_SegOk.f a b c d = some true) (hh' : impl_SegOk.f e f g h = some true) (hm : impl_SegMeet.f 3 a b c d e f g h = some true) :
    Calls Tryd.prog 33 #[.agg #[.int .i64 a, .int .i64 b, .int .i64 c, .int .i64 d], .agg #[.int .i64 e, .int .i64 f, .int .i64 g, .int .i64 h]] w fun x w' => x = .returned (.agg #[.int .i64 0, .int .i64 1]) ∧ Below w.heap.size w w' := by
  have hu1 := Tryd.underlying40
  have hu2 := Tryd.underlying38
  have hu3 := Tryd.underlying25
  have HB := Aside0.mk (boxes3 w (.cells #[.int .i64 a, .int .i64 b, .int .i64 c, .int .i64 d] 40) (.cells #[.int .i64 e, .int .i64 f, .int .i64 g, .int .i64 h] 40) (.cells #[.int .i64 0, .int .i64 0] 25))
  have H := Aside0.mk hh
  have H' := Aside0.mk hh'
  have HM := Aside0.mk hm
  clear hh hh' hm
  go_enter Tryd.func33, Tryd.ntmps33
  go_wp2_with fail
  refine (impl_SegOk.calls a b c d true _ H.out).mono ?_
  rintro x w1 ⟨rfl, hb⟩
  have HS := Aside0.mk (blk_on hb HB.out.2.1)
  have HP := Aside0.mk (blk_on hb HB.out.2.2.1)
  have HR := Aside0.mk (blk_on hb HB.out.2.2.2)
  have HB1 := Aside0.mk (below_step HB.out.1 hb)
  clear hb
  have q0 : w1.cell? ⟨w.heap.size + 1, 0, none⟩ = some (.int .i64 e) := (blk_cell HP.out 0).trans rfl
  have q1 : w1.cell? ⟨w.heap.size + 1, 1, none⟩ = some (.int .i64 f) := (blk_cell HP.out 1).trans rfl
  have q2 : w1.cell? ⟨w.heap.size + 1, 2, none⟩ = some (.int .i64 g) := (blk_cell HP.out 2).trans rfl
  have q3 : w1.cell? ⟨w.heap.size + 1, 3, none⟩ = some (.int .i64 h) := (blk_cell HP.out 3).trans rfl
  go_wp2_with fail
  refine (impl_SegOk.calls e f g h true _ H'.out).mono ?_
  rintro x w2 ⟨rfl, hb⟩
  have HS2 := Aside0.mk (blk_on hb HS.out)
  have HP2 := Aside0.mk (blk_on hb HP.out)
  have HR2 := Aside0.mk (blk_on hb HR.out)
  have HB2 := Aside0.mk (below_step HB1.out hb)
  clear hb q0 q1 q2 q3
  have q0 : w2.cell? ⟨w.heap.size, 0, none⟩ = some (.int .i64 a) := (blk_cell HS2.out 0).trans rfl
  have q1 : w2.cell? ⟨w.heap.size, 1, none⟩ = some (.int .i64 b) := (blk_cell HS2.out 1).trans rfl
  have q2 : w2.cell? ⟨w.heap.size, 2, none⟩ = some (.int .i64 c) := (blk_cell HS2.out 2).trans rfl
  have q3 : w2.cell? ⟨w.heap.size, 3, none⟩ = some (.int .i64 d) := (blk_cell HS2.out 3).trans rfl
  have p0 : w2.cell? ⟨w.heap.size + 1, 0, none⟩ = some (.int .i64 e) := (blk_cell HP2.out 0).trans rfl
  have p1 : w2.cell? ⟨w.heap.size + 1, 1, none⟩ = some (.int .i64 f) := (blk_cell HP2.out 1).trans rfl
  have p2 : w2.cell? ⟨w.heap.size + 1, 2, none⟩ = some (.int .i64 g) := (blk_cell HP2.out 2).trans rfl
  have p3 : w2.cell? ⟨w.heap.size + 1, 3, none⟩ = some (.int .i64 h) := (blk_cell HP2.out 3).trans rfl
  go_wp2_with fail
  refine (impl_SegMeet.calls 3 a b c d e f g h true _ HM.out).mono ?_
  rintro x w3 ⟨rfl, hb⟩
  have HS3 := Aside0.mk (blk_on hb HS2.out)
  have HP3 := Aside0.mk (blk_on hb HP2.out)
  have HR3 := Aside0.mk (blk_on hb HR2.out)
  have HB3 := Aside0.mk (below_step HB2.out hb)
  clear hb q0 q1 q2 q3 p0 p1 p2 p3
  have q0 : w3.cell? ⟨w.heap.size + 1 + 1, 0, none⟩ = some (.int .i64 0) := (blk_cell HR3.out 0).trans rfl
  have q1 : w3.cell? ⟨w.heap.size + 1 + 1, 1, none⟩ = some (.int .i64 0) := (blk_cell HR3.out 1).trans rfl
  have q2 := blk_frozen HR3.out 0
  have q3 := blk_frozen HR3.out 1
  go_wp2_with fail
  refine bodyPost_ret (results_cell_row rfl _ _ (w.heap.size + 1 + 1) 25 #[.int .i64 0, .int .i64 1] (0, 0) _ rfl (by refine blk_put (cs := #[.int .i64 0, .int .i64 0]) ?_ 1 _ rfl; refine blk_put (cs := #[.int .i64 0, .int .i64 0]) ?_ 0 _ rfl; exact HR3.out) Tryd.underlying25 rfl (by kernel_rfl)) rfl ?_
  exact ⟨rfl, by refine below_set ?_ (by omega); refine below_set ?_ (by omega); exact HB3.out⟩
set_option maxHeartbeats 1000000 in
set_option maxRecDepth 100000 in
theorem segApart_far (hh : impl_SegOk.f a b c d = some true) (hh' : impl_SegOk.f e f g h = some true) (hm : impl_SegMeet.f 3 a b c d e f g h = some false) {n0 d0 : Int} {n1 d1 : Int} {n2 d2 : Int} {n3 d3 : Int} (hf0 : impl_SegFar.f a b c d e f = some (n0, d0)) (hf1 : impl_SegFar.f a b c d g h = some (n1, d1)) (hf2 : impl_SegFar.f e f g h a b = some (n2, d2)) (hf3 : impl_SegFar.f e f g h c d = some (n3, d3)) (hE : ErrW w) :
    Calls Tryd.prog 33 #[.agg #[.int .i64 a, .int .i64 b, .int .i64 c, .int .i64 d], .agg #[.int .i64 e, .int .i64 f, .int .i64 g, .int .i64 h]] w fun x w' => x = .returned (.agg #[.int .i64 (pickL (pickL (pickL (n0, d0) (n1, d1)) (n2, d2)) (n3, d3)).1, .int .i64 (pickL (pickL (pickL (n0, d0) (n1, d1)) (n2, d2)) (n3, d3)).2]) ∧ Below w.heap.size w w' := by
  have hu1 := Tryd.underlying40
  have hu2 := Tryd.underlying38
  have hu3 := Tryd.underlying25
  have HB := Aside0.mk (boxes3 w (.cells #[.int .i64 a, .int .i64 b, .int .i64 c, .int .i64 d] 40) (.cells #[.int .i64 e, .int .i64 f, .int .i64 g, .int .i64 h] 40) (.cells #[.int .i64 0, .int .i64 0] 25))
  have H := Aside0.mk hh
  have H' := Aside0.mk hh'
  have HM := Aside0.mk hm
  clear hh hh' hm
  have HF0 := Aside0.mk hf0
  have HF1 := Aside0.mk hf1
  have HF2 := Aside0.mk hf2
  have HF3 := Aside0.mk hf3
  have HE := Aside0.mk hE
  clear hf0 hf1 hf2 hf3 hE
  go_enter Tryd.func33, Tryd.ntmps33
  go_wp2_with fail
  refine (impl_SegOk.calls a b c d true _ H.out).mono ?_
  rintro x w1 ⟨rfl, hb⟩
  have HS := Aside0.mk (blk_on hb HB.out.2.1)
  have HP := Aside0.mk (blk_on hb HB.out.2.2.1)
  have HR := Aside0.mk (blk_on hb HB.out.2.2.2)
  have HB1 := Aside0.mk (below_step HB.out.1 hb)
  clear hb
  have q0 : w1.cell? ⟨w.heap.size + 1, 0, none⟩ = some (.int .i64 e) := (blk_cell HP.out 0).trans rfl
  have q1 : w1.cell? ⟨w.heap.size + 1, 1, none⟩ = some (.int .i64 f) := (blk_cell HP.out 1).trans rfl
  have q2 : w1.cell? ⟨w.heap.size + 1, 2, none⟩ = some (.int .i64 g) := (blk_cell HP.out 2).trans rfl
  have q3 : w1.cell? ⟨w.heap.size + 1, 3, none⟩ = some (.int .i64 h) := (blk_cell HP.out 3).trans rfl
  go_wp2_with fail
  refine (impl_SegOk.calls e f g h true _ H'.out).mono ?_
  rintro x w2 ⟨rfl, hb⟩
  have HS2 := Aside0.mk (blk_on hb HS.out)
  have HP2 := Aside0.mk (blk_on hb HP.out)
  have HR2 := Aside0.mk (blk_on hb HR.out)
  have HB2 := Aside0.mk (below_step HB1.out hb)
  clear hb q0 q1 q2 q3
  have q0 : w2.cell? ⟨w.heap.size, 0, none⟩ = some (.int .i64 a) := (blk_cell HS2.out 0).trans rfl
  have q1 : w2.cell? ⟨w.heap.size, 1, none⟩ = some (.int .i64 b) := (blk_cell HS2.out 1).trans rfl
  have q2 : w2.cell? ⟨w.heap.size, 2, none⟩ = some (.int .i64 c) := (blk_cell HS2.out 2).trans rfl
  have q3 : w2.cell? ⟨w.heap.size, 3, none⟩ = some (.int .i64 d) := (blk_cell HS2.out 3).trans rfl
  have p0 : w2.cell? ⟨w.heap.size + 1, 0, none⟩ = some (.int .i64 e) := (blk_cell HP2.out 0).trans rfl
  have p1 : w2.cell? ⟨w.heap.size + 1, 1, none⟩ = some (.int .i64 f) := (blk_cell HP2.out 1).trans rfl
  have p2 : w2.cell? ⟨w.heap.size + 1, 2, none⟩ = some (.int .i64 g) := (blk_cell HP2.out 2).trans rfl
  have p3 : w2.cell? ⟨w.heap.size + 1, 3, none⟩ = some (.int .i64 h) := (blk_cell HP2.out 3).trans rfl
  go_wp2_with fail
  refine (impl_SegMeet.calls 3 a b c d e f g h false _ HM.out).mono ?_
  rintro x w3 ⟨rfl, hb⟩
  have HS3 := Aside0.mk (blk_on hb HS2.out)
  have HP3 := Aside0.mk (blk_on hb HP2.out)
  have HR3 := Aside0.mk (blk_on hb HR2.out)
  have HB3 := Aside0.mk (below_step HB2.out hb)
  clear hb q0 q1 q2 q3 p0 p1 p2 p3
  have q0 : w3.cell? ⟨w.heap.size, 0, none⟩ = some (.int .i64 a) := (blk_cell HS3.out 0).trans rfl
  have q1 : w3.cell? ⟨w.heap.size, 1, none⟩ = some (.int .i64 b) := (blk_cell HS3.out 1).trans rfl
  have q2 : w3.cell? ⟨w.heap.size, 2, none⟩ = some (.int .i64 c) := (blk_cell HS3.out 2).trans rfl
  have q3 : w3.cell? ⟨w.heap.size, 3, none⟩ = some (.int .i64 d) := (blk_cell HS3.out 3).trans rfl
  have p0 : w3.cell? ⟨w.heap.size + 1, 0, none⟩ = some (.int .i64 e) := (blk_cell HP3.out 0).trans rfl
  have p1 : w3.cell? ⟨w.heap.size + 1, 1, none⟩ = some (.int .i64 f) := (blk_cell HP3.out 1).trans rfl
  go_wp2_with fail
  refine (impl_SegFar.calls a b c d e f n0 d0 _ HF0.out).mono ?_
  rintro x w4 ⟨rfl, hb⟩
  have HS4 := Aside0.mk (blk_on hb HS3.out)
  have HP4 := Aside0.mk (blk_on hb HP3.out)
  have HR4 := Aside0.mk (blk_on hb HR3.out)
  have HB4 := Aside0.mk (below_step HB3.out hb)
  clear hb q0 q1 q2 q3 p0 p1
  have HN := Aside0.mk (heap_alloc_new w4 (.cells #[.int .i64 0, .int .i64 0] 25))
  have u0 : (w4.alloc (.cells #[.int .i64 0, .int .i64 0] 25)).cell? ⟨w4.heap.size, 0, none⟩ = some (.int .i64 0) := (blk_cell HN.out 0).trans rfl
  have u1 : (w4.alloc (.cells #[.int .i64 0, .int .i64 0] 25)).cell? ⟨w4.heap.size, 1, none⟩ = some (.int .i64 0) := (blk_cell HN.out 1).trans rfl
  have u2 := blk_frozen HN.out 0
  have u3 := blk_frozen HN.out 1
  go_wp2_with fail
  clear u0 u1 u2 u3 HN
  have HS5 := Aside0.mk (blk_drew (blk_alloc HS4.out (.cells #[.int .i64 n0, .int .i64 d0] 25)))
  have HP5 := Aside0.mk (blk_drew (blk_alloc HP4.out (.cells #[.int .i64 n0, .int .i64 d0] 25)))
  have HR5 := Aside0.mk (blk_drew (blk_alloc HR4.out (.cells #[.int .i64 n0, .int .i64 d0] 25)))
  have HL5 := Aside0.mk (blk_drew (heap_alloc_new w4 (.cells #[.int .i64 n0, .int .i64 d0] 25)))
  have HB5 := Aside0.mk (below_drew1 (below_alloc HB4.out (.cells #[.int .i64 n0, .int .i64 d0] 25)))
  have HG := Aside0.mk (blk_lt HR4.out)
  refine start_ (n := 14) (S := fun w' => w'.cell? ⟨w.heap.size, 0, none⟩ = some (.int .i64 a) ∧ w'.cell? ⟨w.heap.size, 1, none⟩ = some (.int .i64 b) ∧ w'.cell? ⟨w.heap.size, 2, none⟩ = some (.int .i64 c) ∧ w'.cell? ⟨w.heap.size, 3, none⟩ = some (.int .i64 d) ∧ w'.cell? ⟨w.heap.size + 1, 0, none⟩ = some (.int .i64 e) ∧ w'.cell? ⟨w.heap.size + 1, 1, none⟩ = some (.int .i64 f) ∧ w'.cell? ⟨w.heap.size + 1, 2, none⟩ = some (.int .i64 g) ∧ w'.cell? ⟨w.heap.size + 1, 3, none⟩ = some (.int .i64 h)) (ds := []) #[false, false, false, false, false, false, false, false, false, false, false, false, false, false] (by kernel_rfl) rfl rfl ⟨(blk_cell HS5.out 0).trans rfl, (blk_cell HS5.out 1).trans rfl, (blk_cell HS5.out 2).trans rfl, (blk_cell HS5.out 3).trans rfl, (blk_cell HP5.out 0).trans rfl, (blk_cell HP5.out 1).trans rfl, (blk_cell HP5.out 2).trans rfl, (blk_cell HP5.out 3).trans rfl⟩ (fun hHeld => ?_)
  refine with_tabW apTab6 apBits6 (fun HT_ HW_ => ?_)
  generalize (w4.alloc (.cells #[.int .i64 n0, .int .i64 d0] 25)).drew = w5 at HS5 HP5 HR5 HL5 HB5 hHeld ⊢
  generalize w4.heap.size = gL at HG HL5 ⊢
  refine pure_ (i := 1) (N := some 26) (v := ?_) (a' := ?_) #[false, true, false, false, false, false, false, false, false, false, false, false, false, false] rfl rfl (any_of HT_.out (by kernel_rfl)) (fun _ _ _ h => h) (Or.inl ⟨by rfl, ?_⟩) ?_ ?_
  rotate_left
  · intro w'
    go_simp
    with_reducible rfl
  rotate_left
  · simp only [Act.put, List.setIfInBounds_toArray, List.set_cons_zero, List.set_cons_succ, i64_w, i32_w]
    rfl
  refine pure_ (i := 5) (N := some 30) (v := ?_) (a' := ?_) #[false, true, false, false, false, true, false, false, false, false, false, false, false, false] rfl rfl (any_of HT_.out (by kernel_rfl)) (fun _ _ _ h => h) (Or.inl ⟨by rfl, ?_⟩) ?_ ?_
  rotate_left
  · intro w'
    go_simp
    with_reducible rfl
  rotate_left
  · simp only [Act.put, List.setIfInBounds_toArray, List.set_cons_zero, List.set_cons_succ, i64_w, i32_w]
    rfl
  refine pure_ (i := 9) (N := some 34) (v := ?_) (a' := ?_) #[false, true, false, false, false, true, false, false, false, true, false, false, false, false] rfl rfl (any_of HT_.out (by kernel_rfl)) (fun _ _ _ h => h) (Or.inl ⟨by rfl, ?_⟩) ?_ ?_
  rotate_left
  · intro w'
    go_simp
    with_reducible rfl
  rotate_left
  · simp only [Act.put, List.setIfInBounds_toArray, List.set_cons_zero, List.set_cons_succ, i64_w, i32_w]
    rfl
  refine pure_ (i := 13) (N := some 38) (v := ?_) (a' := ?_) #[false, true, false, false, false, true, false, false, false, true, false, false, false, true] rfl rfl (any_of HT_.out (by kernel_rfl)) (fun _ _ _ h => h) (Or.inl ⟨by rfl, ?_⟩) ?_ ?_
  rotate_left
  · intro w'
    go_simp
    with_reducible rfl
  rotate_left
  · simp only [Act.put, List.setIfInBounds_toArray, List.set_cons_zero, List.set_cons_succ, i64_w, i32_w]
    rfl
  refine take_ (i := 0) (N := some 25) (v := ?_) (a' := ?_) #[true, true, false, false, false, true, false, false, false, true, false, false, false, true] rfl rfl (take_ofW HT_.out HW_.out (by kernel_rfl)) (fun _ _ _ h => h) (Or.inl ⟨by rfl, ?_⟩) hHeld ?_ ?_
  rotate_left
  · rintro w' ⟨s0, s1, s2, s3, s4, s5, s6, s7⟩
    go_simp
    with_reducible rfl
  rotate_left
  · simp only [Act.put, List.setIfInBounds_toArray, List.set_cons_zero, List.set_cons_succ, i64_w, i32_w]
    rfl
  refine take_ (i := 2) (N := some 27) (v := ?_) (a' := ?_) #[true, true, true, false, false, true, false, false, false, true, false, false, false, true] rfl rfl (take_ofW HT_.out HW_.out (by kernel_rfl)) (fun _ _ _ h => h) (Or.inl ⟨by rfl, ?_⟩) hHeld ?_ ?_
  rotate_left
  · rintro w' ⟨s0, s1, s2, s3, s4, s5, s6, s7⟩
    go_simp
    with_reducible rfl
  rotate_left
  · simp only [Act.put, List.setIfInBounds_toArray, List.set_cons_zero, List.set_cons_succ, i64_w, i32_w]
    rfl
  refine take_ (i := 4) (N := some 29) (v := ?_) (a' := ?_) #[true, true, true, false, true, true, false, false, false, true, false, false, false, true] rfl rfl (take_ofW HT_.out HW_.out (by kernel_rfl)) (fun _ _ _ h => h) (Or.inl ⟨by rfl, ?_⟩) hHeld ?_ ?_
  rotate_left
  · rintro w' ⟨s0, s1, s2, s3, s4, s5, s6, s7⟩
    go_simp
    with_reducible rfl
  rotate_left
  · simp only [Act.put, List.setIfInBounds_toArray, List.set_cons_zero, List.set_cons_succ, i64_w, i32_w]
    rfl
  refine take_ (i := 6) (N := some 31) (v := ?_) (a' := ?_) #[true, true, true, false, true, true, true, false, false, true, false, false, false, true] rfl rfl (take_ofW HT_.out HW_.out (by kernel_rfl)) (fun _ _ _ h => h) (Or.inl ⟨by rfl, ?_⟩) hHeld ?_ ?_
  rotate_left
  · rintro w' ⟨s0, s1, s2, s3, s4, s5, s6, s7⟩
    go_simp
    with_reducible rfl
  rotate_left
  · simp only [Act.put, List.setIfInBounds_toArray, List.set_cons_zero, List.set_cons_succ, i64_w, i32_w]
    rfl
  refine take_ (i := 8) (N := some 33) (v := ?_) (a' := ?_) #[true, true, true, false, true, true, true, false, true, true, false, false, false, true] rfl rfl (take_ofW HT_.out HW_.out (by kernel_rfl)) (fun _ _ _ h => h) (Or.inl ⟨by rfl, ?_⟩) hHeld ?_ ?_
  rotate_left
  · rintro w' ⟨s0, s1, s2, s3, s4, s5, s6, s7⟩
    go_simp
    with_reducible rfl
  rotate_left
  · simp only [Act.put, List.setIfInBounds_toArray, List.set_cons_zero, List.set_cons_succ, i64_w, i32_w]
    rfl
  refine take_ (i := 10) (N := some 35) (v := ?_) (a' := ?_) #[true, true, true, false, true, true, true, false, true, true, true, false, false, true] rfl rfl (take_ofW HT_.out HW_.out (by kernel_rfl)) (fun _ _ _ h => h) (Or.inl ⟨by rfl, ?_⟩) hHeld ?_ ?_
  rotate_left
  · rintro w' ⟨s0, s1, s2, s3, s4, s5, s6, s7⟩
    go_simp
    with_reducible rfl
  rotate_left
  · simp only [Act.put, List.setIfInBounds_toArray, List.set_cons_zero, List.set_cons_succ, i64_w, i32_w]
    rfl
  refine one_ (i := 3) (N := some 28) #[true, true, true, true, true, true, true, false, true, true, true, false, false, true] rfl rfl (one_of HT_.out (by kernel_rfl)) (by decide) (fun K hK => ?_)
  refine goes_ Tryd.func24 (by kernel_rfl) rfl #[.agg #[.int .i64 a, .int .i64 b, .int .i64 c, .int .i64 d], .agg #[.int .i64 g, .int .i64 h]] (by rfl) rfl rfl (by (try simp only [List.map_toArray, List.map_cons, List.map_nil]); first | done | rfl) ?_
  refine (impl_SegFar.calls a b c d g h n1 d1 _ HF1.out).mono ?_
  rintro x w6 ⟨rfl, hb⟩
  refine ⟨_, rfl, ?_⟩
  have HS6 := Aside0.mk (blk_on hb HS5.out)
  have HP6 := Aside0.mk (blk_on hb HP5.out)
  have HR6 := Aside0.mk (blk_on hb HR5.out)
  have HL6 := Aside0.mk (blk_on hb HL5.out)
  have HB6 := Aside0.mk (below_step HB5.out hb)
  clear hb
  refine hK.out _ _ ⟨(blk_cell HS6.out 0).trans rfl, (blk_cell HS6.out 1).trans rfl, (blk_cell HS6.out 2).trans rfl, (blk_cell HS6.out 3).trans rfl, (blk_cell HP6.out 0).trans rfl, (blk_cell HP6.out 1).trans rfl, (blk_cell HP6.out 2).trans rfl, (blk_cell HP6.out 3).trans rfl⟩ (fun hHeld => ?_)
  clear hK K
  refine norm_ (a' := ?_) ?_ ?_
  rotate_left
  · show Act.put _ (some 28) _ = _
    simp only [Act.put, List.setIfInBounds_toArray, List.set_cons_zero, List.set_cons_succ, i64_w, i32_w]
    rfl
  refine one_ (i := 7) (N := some 32) #[true, true, true, true, true, true, true, true, true, true, true, false, false, true] rfl rfl (one_of HT_.out (by kernel_rfl)) (by decide) (fun K hK => ?_)
  refine goes_ Tryd.func24 (by kernel_rfl) rfl #[.agg #[.int .i64 e, .int .i64 f, .int .i64 g, .int .i64 h], .agg #[.int .i64 a, .int .i64 b]] (by rfl) rfl rfl (by (try simp only [List.map_toArray, List.map_cons, List.map_nil]); first | done | rfl) ?_
  refine (impl_SegFar.calls e f g h a b n2 d2 _ HF2.out).mono ?_
  rintro x w7 ⟨rfl, hb⟩
  refine ⟨_, rfl, ?_⟩
  have HS7 := Aside0.mk (blk_on hb HS6.out)
  have HP7 := Aside0.mk (blk_on hb HP6.out)
  have HR7 := Aside0.mk (blk_on hb HR6.out)
  have HL7 := Aside0.mk (blk_on hb HL6.out)
  have HB7 := Aside0.mk (below_step HB6.out hb)
  clear hb
  refine hK.out _ _ ⟨(blk_cell HS7.out 0).trans rfl, (blk_cell HS7.out 1).trans rfl, (blk_cell HS7.out 2).trans rfl, (blk_cell HS7.out 3).trans rfl, (blk_cell HP7.out 0).trans rfl, (blk_cell HP7.out 1).trans rfl, (blk_cell HP7.out 2).trans rfl, (blk_cell HP7.out 3).trans rfl⟩ (fun hHeld => ?_)
  clear hK K
  refine norm_ (a' := ?_) ?_ ?_
  rotate_left
  · show Act.put _ (some 32) _ = _
    simp only [Act.put, List.setIfInBounds_toArray, List.set_cons_zero, List.set_cons_succ, i64_w, i32_w]
    rfl
  refine one_ (i := 11) (N := some 36) #[true, true, true, true, true, true, true, true, true, true, true, true, false, true] rfl rfl (one_of HT_.out (by kernel_rfl)) (by decide) (fun K hK => ?_)
  refine goes_ Tryd.func24 (by kernel_rfl) rfl #[.agg #[.int .i64 e, .int .i64 f, .int .i64 g, .int .i64 h], .agg #[.int .i64 c, .int .i64 d]] (by rfl) rfl rfl (by (try simp only [List.map_toArray, List.map_cons, List.map_nil]); first | done | rfl) ?_
  refine (impl_SegFar.calls e f g h c d n3 d3 _ HF3.out).mono ?_
  rintro x w8 ⟨rfl, hb⟩
  refine ⟨_, rfl, ?_⟩
  have HS8 := Aside0.mk (blk_on hb HS7.out)
  have HP8 := Aside0.mk (blk_on hb HP7.out)
  have HR8 := Aside0.mk (blk_on hb HR7.out)
  have HL8 := Aside0.mk (blk_on hb HL7.out)
  have HB8 := Aside0.mk (below_step HB7.out hb)
  clear hb
  refine hK.out _ _ ⟨(blk_cell HS8.out 0).trans rfl, (blk_cell HS8.out 1).trans rfl, (blk_cell HS8.out 2).trans rfl, (blk_cell HS8.out 3).trans rfl, (blk_cell HP8.out 0).trans rfl, (blk_cell HP8.out 1).trans rfl, (blk_cell HP8.out 2).trans rfl, (blk_cell HP8.out 3).trans rfl⟩ (fun hHeld => ?_)
  clear hK K
  refine norm_ (a' := ?_) ?_ ?_
  rotate_left
  · show Act.put _ (some 36) _ = _
    simp only [Act.put, List.setIfInBounds_toArray, List.set_cons_zero, List.set_cons_succ, i64_w, i32_w]
    rfl
  refine pure_ (i := 12) (N := some 37) (v := ?_) (a' := ?_) #[true, true, true, true, true, true, true, true, true, true, true, true, true, true] rfl rfl (any_of HT_.out (by kernel_rfl)) (fun _ _ _ h => h) (Or.inl ⟨by rfl, ?_⟩) ?_ ?_
  rotate_left
  · intro w'
    go_simp
    with_reducible rfl
  rotate_left
  · simp only [Act.put, List.setIfInBounds_toArray, List.set_cons_zero, List.set_cons_succ, i64_w, i32_w]
    rfl
  refine done_ (done_of HT_.out (by kernel_rfl)) ?_
  go_wp2_with fail
  clear HT_ HW_ hHeld HS5 HP5 HR5 HL5 HB5 HS6 HP6 HR6 HL6 HB6 HS7 HP7 HR7 HL7 HB7 HS4 HP4 HR4 HB4 HS3 HP3 HR3 HB3 HS2 HP2 HR2 HB2 HS HP HR HB1 HB
  go_loopg [38] 4 (fun kq v38 w' => ∃ (j : Nat) (x : Int) (m0 m1 : Int), j + kq = 4 ∧ j ≤ 3 ∧ x = (j : Int) ∧ v38 = .int .i64 x ∧ Aside0 ((m0, m1) = foldP (n0, d0) (n1, d1) (n2, d2) (n3, d3) j) ∧ Aside0 (w'.heap[gL]? = some (.cells #[.int .i64 m0, .int .i64 m1] 25 (0, 0))) ∧ Aside0 (w'.heap[w.heap.size + 1 + 1]? = some (.cells #[.int .i64 0, .int .i64 0] 25 (0, 0))) ∧ Aside0 (Below w.heap.size w w'))
  case atStart => exact ⟨0, 0, n0, d0, by omega, by omega, rfl, rfl, ⟨rfl⟩, HL8, HR8, HB8⟩
  case round =>
    clear HS8 HP8 HR8 HL8 HB8
    obtain ⟨j, x, m0, m1, hj, hj3, hx, rfl, HM, HL, HR, HB⟩ := hrel
    have hu4 := Tryd.underlying83
    rcases j with _ | _ | _ | _ | j
    ·
      obtain rfl : x = 0 := by omega
      clear hx
      have hix := apIdx0 wr (.int .i64 n1) (.int .i64 d1) (.int .i64 n2) (.int .i64 d2) (.int .i64 n3) (.int .i64 d3)
      have HN := Aside0.mk (heap_alloc_new wr (.cells #[.int .i64 0, .int .i64 0] 25))
      have u0 : (wr.alloc (.cells #[.int .i64 0, .int .i64 0] 25)).cell? ⟨wr.heap.size, 0, none⟩ = some (.int .i64 0) := (blk_cell HN.out 0).trans rfl
      have u1 : (wr.alloc (.cells #[.int .i64 0, .int .i64 0] 25)).cell? ⟨wr.heap.size, 1, none⟩ = some (.int .i64 0) := (blk_cell HN.out 1).trans rfl
      have u2 := blk_frozen HN.out 0
      have u3 := blk_frozen HN.out 1
      have HN2 := Aside0.mk (heap_alloc_new wr (.cells #[.int .i64 n1, .int .i64 d1] 25))
      have p0 : (wr.alloc (.cells #[.int .i64 n1, .int .i64 d1] 25)).cell? ⟨wr.heap.size, 0, none⟩ = some (.int .i64 n1) := (blk_cell HN2.out 0).trans rfl
      have p1 : (wr.alloc (.cells #[.int .i64 n1, .int .i64 d1] 25)).cell? ⟨wr.heap.size, 1, none⟩ = some (.int .i64 d1) := (blk_cell HN2.out 1).trans rfl
      have q0 : ∀ o, (wr.alloc o).cell? ⟨gL, 0, none⟩ = some (.int .i64 m0) := fun o => (blk_cell (blk_alloc HL.out o) 0).trans rfl
      have q1 : ∀ o, (wr.alloc o).cell? ⟨gL, 1, none⟩ = some (.int .i64 m1) := fun o => (blk_cell (blk_alloc HL.out o) 1).trans rfl
      go_wp2_with fail
      refine (impl_FracCmp.calls n1 d1 m0 m1 (fracCmp (n1, d1) (m0, m1)) _ (HE.out.below (below_alloc HB.out _)) rfl).mono ?_
      rintro x wq ⟨rfl, hb⟩
      have HNq := Aside0.mk (blk_on hb HN2.out)
      have HLq := Aside0.mk (blk_on hb (blk_alloc HL.out (.cells #[.int .i64 n1, .int .i64 d1] 25)))
      have HRq := Aside0.mk (blk_on hb (blk_alloc HR.out (.cells #[.int .i64 n1, .int .i64 d1] 25)))
      have HBq := Aside0.mk (below_step (below_alloc HB.out (.cells #[.int .i64 n1, .int .i64 d1] 25)) hb)
      clear hb u0 u1 u2 u3 p0 p1 q0 q1 HN HN2 HL HR HB hix
      have hgk : gk = 4 := by omega
      by_cases hc : fracCmp (n1, d1) (m0, m1) < 0
      ·
        have HC := Aside0.mk hc
        have hcb : decide (fracCmp (n1, d1) (m0, m1) < 0) = true := decide_eq_true hc
        clear hc
        have p0 : wq.cell? ⟨wr.heap.size, 0, none⟩ = some (.int .i64 n1) := (blk_cell HNq.out 0).trans rfl
        have p1 : wq.cell? ⟨wr.heap.size, 1, none⟩ = some (.int .i64 d1) := (blk_cell HNq.out 1).trans rfl
        have q0 : wq.cell? ⟨gL, 0, none⟩ = some (.int .i64 m0) := (blk_cell HLq.out 0).trans rfl
        have q1 : wq.cell? ⟨gL, 1, none⟩ = some (.int .i64 m1) := (blk_cell HLq.out 1).trans rfl
        have q2 := blk_frozen HLq.out 0
        have q3 := blk_frozen HLq.out 1
        go_wp2
        go_roundg 3
        case measure => omega
        case rel =>
          have hG := HG.out
          exact ⟨1, 1, n1, d1, by omega, by omega, by simp, by rfl, ⟨pick_lt HM.out HC.out⟩, ⟨by refine blk_put (cs := #[.int .i64 n1, .int .i64 m1]) ?_ 1 _ rfl; refine blk_put (cs := #[.int .i64 m0, .int .i64 m1]) ?_ 0 _ rfl; exact HLq.out⟩, ⟨by refine blk_far ?_ (Nat.ne_of_lt hG) _; refine blk_far ?_ (Nat.ne_of_lt hG) _; exact HRq.out⟩, ⟨by refine below_set ?_ (by omega); refine below_set ?_ (by omega); exact HBq.out⟩⟩
      ·
        have HC := Aside0.mk hc
        have hcb : decide (fracCmp (n1, d1) (m0, m1) < 0) = false := decide_eq_false hc
        clear hc
        go_wp2
        go_roundg 3
        case measure => omega
        case rel => exact ⟨1, 1, m0, m1, by omega, by omega, by simp, by rfl, ⟨pick_ge HM.out (Int.not_lt.mpr HC.out)⟩, HLq, HRq, HBq⟩
    ·
      obtain rfl : x = 1 := by omega
      clear hx
      have hix := apIdx1 wr (.int .i64 n1) (.int .i64 d1) (.int .i64 n2) (.int .i64 d2) (.int .i64 n3) (.int .i64 d3)
      have HN := Aside0.mk (heap_alloc_new wr (.cells #[.int .i64 0, .int .i64 0] 25))
      have u0 : (wr.alloc (.cells #[.int .i64 0, .int .i64 0] 25)).cell? ⟨wr.heap.size, 0, none⟩ = some (.int .i64 0) := (blk_cell HN.out 0).trans rfl
      have u1 : (wr.alloc (.cells #[.int .i64 0, .int .i64 0] 25)).cell? ⟨wr.heap.size, 1, none⟩ = some (.int .i64 0) := (blk_cell HN.out 1).trans rfl
      have u2 := blk_frozen HN.out 0
      have u3 := blk_frozen HN.out 1
      have HN2 := Aside0.mk (heap_alloc_new wr (.cells #[.int .i64 n2, .int .i64 d2] 25))
      have p0 : (wr.alloc (.cells #[.int .i64 n2, .int .i64 d2] 25)).cell? ⟨wr.heap.size, 0, none⟩ = some (.int .i64 n2) := (blk_cell HN2.out 0).trans rfl
      have p1 : (wr.alloc (.cells #[.int .i64 n2, .int .i64 d2] 25)).cell? ⟨wr.heap.size, 1, none⟩ = some (.int .i64 d2) := (blk_cell HN2.out 1).trans rfl
      have q0 : ∀ o, (wr.alloc o).cell? ⟨gL, 0, none⟩ = some (.int .i64 m0) := fun o => (blk_cell (blk_alloc HL.out o) 0).trans rfl
      have q1 : ∀ o, (wr.alloc o).cell? ⟨gL, 1, none⟩ = some (.int .i64 m1) := fun o => (blk_cell (blk_alloc HL.out o) 1).trans rfl
      go_wp2_with fail
      refine (impl_FracCmp.calls n2 d2 m0 m1 (fracCmp (n2, d2) (m0, m1)) _ (HE.out.below (below_alloc HB.out _)) rfl).mono ?_
      rintro x wq ⟨rfl, hb⟩
      have HNq := Aside0.mk (blk_on hb HN2.out)
      have HLq := Aside0.mk (blk_on hb (blk_alloc HL.out (.cells #[.int .i64 n2, .int .i64 d2] 25)))
      have HRq := Aside0.mk (blk_on hb (blk_alloc HR.out (.cells #[.int .i64 n2, .int .i64 d2] 25)))
      have HBq := Aside0.mk (below_step (below_alloc HB.out (.cells #[.int .i64 n2, .int .i64 d2] 25)) hb)
      clear hb u0 u1 u2 u3 p0 p1 q0 q1 HN HN2 HL HR HB hix
      have hgk : gk = 3 := by omega
      by_cases hc : fracCmp (n2, d2) (m0, m1) < 0
      ·
        have HC := Aside0.mk hc
        have hcb : decide (fracCmp (n2, d2) (m0, m1) < 0) = true := decide_eq_true hc
        clear hc
        have p0 : wq.cell? ⟨wr.heap.size, 0, none⟩ = some (.int .i64 n2) := (blk_cell HNq.out 0).trans rfl
        have p1 : wq.cell? ⟨wr.heap.size, 1, none⟩ = some (.int .i64 d2) := (blk_cell HNq.out 1).trans rfl
        have q0 : wq.cell? ⟨gL, 0, none⟩ = some (.int .i64 m0) := (blk_cell HLq.out 0).trans rfl
        have q1 : wq.cell? ⟨gL, 1, none⟩ = some (.int .i64 m1) := (blk_cell HLq.out 1).trans rfl
        have q2 := blk_frozen HLq.out 0
        have q3 := blk_frozen HLq.out 1
        go_wp2
        go_roundg 2
        case measure => omega
        case rel =>
          have hG := HG.out
          exact ⟨2, 2, n2, d2, by omega, by omega, by simp, by rfl, ⟨pick_lt HM.out HC.out⟩, ⟨by refine blk_put (cs := #[.int .i64 n2, .int .i64 m1]) ?_ 1 _ rfl; refine blk_put (cs := #[.int .i64 m0, .int .i64 m1]) ?_ 0 _ rfl; exact HLq.out⟩, ⟨by refine blk_far ?_ (Nat.ne_of_lt hG) _; refine blk_far ?_ (Nat.ne_of_lt hG) _; exact HRq.out⟩, ⟨by refine below_set ?_ (by omega); refine below_set ?_ (by omega); exact HBq.out⟩⟩
      ·
        have HC := Aside0.mk hc
        have hcb : decide (fracCmp (n2, d2) (m0, m1) < 0) = false := decide_eq_false hc
        clear hc
        go_wp2
        go_roundg 2
        case measure => omega
        case rel => exact ⟨2, 2, m0, m1, by omega, by omega, by simp, by rfl, ⟨pick_ge HM.out (Int.not_lt.mpr HC.out)⟩, HLq, HRq, HBq⟩
    ·
      obtain rfl : x = 2 := by omega
      clear hx
      have hix := apIdx2 wr (.int .i64 n1) (.int .i64 d1) (.int .i64 n2) (.int .i64 d2) (.int .i64 n3) (.int .i64 d3)
      have HN := Aside0.mk (heap_alloc_new wr (.cells #[.int .i64 0, .int .i64 0] 25))
      have u0 : (wr.alloc (.cells #[.int .i64 0, .int .i64 0] 25)).cell? ⟨wr.heap.size, 0, none⟩ = some (.int .i64 0) := (blk_cell HN.out 0).trans rfl
      have u1 : (wr.alloc (.cells #[.int .i64 0, .int .i64 0] 25)).cell? ⟨wr.heap.size, 1, none⟩ = some (.int .i64 0) := (blk_cell HN.out 1).trans rfl
      have u2 := blk_frozen HN.out 0
      have u3 := blk_frozen HN.out 1
      have HN2 := Aside0.mk (heap_alloc_new wr (.cells #[.int .i64 n3, .int .i64 d3] 25))
      have p0 : (wr.alloc (.cells #[.int .i64 n3, .int .i64 d3] 25)).cell? ⟨wr.heap.size, 0, none⟩ = some (.int .i64 n3) := (blk_cell HN2.out 0).trans rfl
      have p1 : (wr.alloc (.cells #[.int .i64 n3, .int .i64 d3] 25)).cell? ⟨wr.heap.size, 1, none⟩ = some (.int .i64 d3) := (blk_cell HN2.out 1).trans rfl
      have q0 : ∀ o, (wr.alloc o).cell? ⟨gL, 0, none⟩ = some (.int .i64 m0) := fun o => (blk_cell (blk_alloc HL.out o) 0).trans rfl
      have q1 : ∀ o, (wr.alloc o).cell? ⟨gL, 1, none⟩ = some (.int .i64 m1) := fun o => (blk_cell (blk_alloc HL.out o) 1).trans rfl
      go_wp2_with fail
      refine (impl_FracCmp.calls n3 d3 m0 m1 (fracCmp (n3, d3) (m0, m1)) _ (HE.out.below (below_alloc HB.out _)) rfl).mono ?_
      rintro x wq ⟨rfl, hb⟩
      have HNq := Aside0.mk (blk_on hb HN2.out)
      have HLq := Aside0.mk (blk_on hb (blk_alloc HL.out (.cells #[.int .i64 n3, .int .i64 d3] 25)))
      have HRq := Aside0.mk (blk_on hb (blk_alloc HR.out (.cells #[.int .i64 n3, .int .i64 d3] 25)))
      have HBq := Aside0.mk (below_step (below_alloc HB.out (.cells #[.int .i64 n3, .int .i64 d3] 25)) hb)
      clear hb u0 u1 u2 u3 p0 p1 q0 q1 HN HN2 HL HR HB hix
      have hgk : gk = 2 := by omega
      by_cases hc : fracCmp (n3, d3) (m0, m1) < 0
      ·
        have HC := Aside0.mk hc
        have hcb : decide (fracCmp (n3, d3) (m0, m1) < 0) = true := decide_eq_true hc
        clear hc
        have p0 : wq.cell? ⟨wr.heap.size, 0, none⟩ = some (.int .i64 n3) := (blk_cell HNq.out 0).trans rfl
        have p1 : wq.cell? ⟨wr.heap.size, 1, none⟩ = some (.int .i64 d3) := (blk_cell HNq.out 1).trans rfl
        have q0 : wq.cell? ⟨gL, 0, none⟩ = some (.int .i64 m0) := (blk_cell HLq.out 0).trans rfl
        have q1 : wq.cell? ⟨gL, 1, none⟩ = some (.int .i64 m1) := (blk_cell HLq.out 1).trans rfl
        have q2 := blk_frozen HLq.out 0
        have q3 := blk_frozen HLq.out 1
        go_wp2
        go_roundg 1
        case measure => omega
        case rel =>
          have hG := HG.out
          exact ⟨3, 3, n3, d3, by omega, by omega, by simp, by rfl, ⟨pick_lt HM.out HC.out⟩, ⟨by refine blk_put (cs := #[.int .i64 n3, .int .i64 m1]) ?_ 1 _ rfl; refine blk_put (cs := #[.int .i64 m0, .int .i64 m1]) ?_ 0 _ rfl; exact HLq.out⟩, ⟨by refine blk_far ?_ (Nat.ne_of_lt hG) _; refine blk_far ?_ (Nat.ne_of_lt hG) _; exact HRq.out⟩, ⟨by refine below_set ?_ (by omega); refine below_set ?_ (by omega); exact HBq.out⟩⟩
      ·
        have HC := Aside0.mk hc
        have hcb : decide (fracCmp (n3, d3) (m0, m1) < 0) = false := decide_eq_false hc
        clear hc
        go_wp2
        go_roundg 1
        case measure => omega
        case rel => exact ⟨3, 3, m0, m1, by omega, by omega, by simp, by rfl, ⟨pick_ge HM.out (Int.not_lt.mpr HC.out)⟩, HLq, HRq, HBq⟩
    · obtain rfl : x = 3 := by omega
      clear hx
      have q0 : wr.cell? ⟨gL, 0, none⟩ = some (.int .i64 m0) := (blk_cell HL.out 0).trans rfl
      have q1 : wr.cell? ⟨gL, 1, none⟩ = some (.int .i64 m1) := (blk_cell HL.out 1).trans rfl
      have p0 : wr.cell? ⟨w.heap.size + 1 + 1, 0, none⟩ = some (.int .i64 0) := (blk_cell HR.out 0).trans rfl
      have p1 : wr.cell? ⟨w.heap.size + 1 + 1, 1, none⟩ = some (.int .i64 0) := (blk_cell HR.out 1).trans rfl
      have p2 := blk_frozen HR.out 0
      have p3 := blk_frozen HR.out 1
      go_wp2_with fail
      have em : pickL (pickL (pickL (n0, d0) (n1, d1)) (n2, d2)) (n3, d3) = (m0, m1) := HM.out.symm
      rw [em]
      refine bodyPost_ret (results_cell_row rfl _ _ (w.heap.size + 1 + 1) 25 #[.int .i64 m0, .int .i64 m1] (0, 0) _ rfl (by refine blk_put (cs := #[.int .i64 m0, .int .i64 0]) ?_ 1 _ rfl; refine blk_put (cs := #[.int .i64 0, .int .i64 0]) ?_ 0 _ rfl; exact HR.out) Tryd.underlying25 rfl (by kernel_rfl)) rfl ?_
      exact ⟨rfl, by refine below_set ?_ (by omega); refine below_set ?_ (by omega); exact HB.out⟩
    · exfalso; omega
end
theorem val_pick {m f : Frac} (hm : fracOk m = true) (hf : fracOk f = true) : fracOk (pickL m f) = true ∧ (val (pickL m f) ≤ val m ∧ val (pickL m f) ≤ val f) ∧ (pickL m f = m ∨ pickL m f = f) := by
  unfold pickL
  by_cases h : fracCmp f m < 0
  · rw [if_pos h]
    exact ⟨hf, ⟨(cmp_le hf hm).1 (by omega), Rat.le_refl⟩, .inr rfl⟩
  · rw [if_neg h]
    exact ⟨hm, ⟨Rat.le_refl, (cmp_ge hf hm).1 (by omega)⟩, .inl rfl⟩
def impl_SegApart.f (a b c d e f g h : Int) : Option (Int × Int) := some ((segApart ((a, b), (c, d)) ((e, f), (g, h))).1, (segApart ((a, b), (c, d)) ((e, f), (g, h))).2)
theorem impl_SegApart.calls (a b c d e f g h r1 r2 : Int) (w : World) (hE : ErrW w) (hh : impl_SegApart.f a b c d e f g h = some (r1, r2)) :
    Calls Tryd.prog 33 #[.agg #[.int .i64 a, .int .i64 b, .int .i64 c, .int .i64 d], .agg #[.int .i64 e, .int .i64 f, .int .i64 g, .int .i64 h]] w fun x w' => x = .returned (.agg #[.int .i64 r1, .int .i64 r2]) ∧ Below w.heap.size w w' := by
  unfold impl_SegApart.f at hh
  simp only [Option.some.injEq, Prod.mk.injEq] at hh
  obtain ⟨rfl, rfl⟩ := hh
  cases hs : segOk ((a, b), (c, d)) with
  | false =>
    have e0 : segApart ((a, b), (c, d)) ((e, f), (g, h)) = (0, 0) := by unfold segApart; rw [hs]; rfl
    rw [e0]
    exact segApart_bad1 a b c d e f g h w ((iSegOk a b c d).trans (congrArg some hs))
  | true =>
    have h1 := (iSegOk a b c d).trans (congrArg some hs)
    cases ht : segOk ((e, f), (g, h)) with
    | false =>
      have e0 : segApart ((a, b), (c, d)) ((e, f), (g, h)) = (0, 0) := by unfold segApart; rw [hs, ht]; rfl
      rw [e0]
      exact segApart_bad2 a b c d e f g h w h1 ((iSegOk e f g h).trans (congrArg some ht))
    | true =>
      have h2 := (iSegOk e f g h).trans (congrArg some ht)
      have hM : segMeet ((a, b), (c, d)) ((e, f), (g, h)) = meet ((a, b), (c, d)) ((e, f), (g, h)) := by unfold segMeet; rw [hs, ht]; rfl
      have h3 := iSegMeet (Nat.le_refl 3) a b c d e f g h
      rw [hM] at h3
      cases hm : meet ((a, b), (c, d)) ((e, f), (g, h)) with
      | true =>
        rw [hm] at h3
        have e0 : segApart ((a, b), (c, d)) ((e, f), (g, h)) = (0, 1) := by unfold segApart; rw [hs, ht, hm]; rfl
        rw [e0]
        exact segApart_meet a b c d e f g h w h1 h2 h3
      | false =>
        rw [hm] at h3
        obtain ⟨o1, o2⟩ := segOk_ends hs
        obtain ⟨o3, o4⟩ := segOk_ends ht
        have k0 := (segFar_ok hs o3).1
        have k1 := (segFar_ok hs o4).1
        have k2 := (segFar_ok ht o1).1
        have k3 := (segFar_ok ht o2).1
        have p1 := val_pick k0 k1
        have p2 := val_pick p1.1 k2
        have p3 := val_pick p2.1 k3
        have e0 : pickL (pickL (pickL (segFar ((a, b), (c, d)) (e, f)) (segFar ((a, b), (c, d)) (g, h))) (segFar ((e, f), (g, h)) (a, b))) (segFar ((e, f), (g, h)) (c, d)) = segApart ((a, b), (c, d)) ((e, f), (g, h)) := by
          refine apart_unique hs ht p3.1 hm ⟨?_, ?_, ?_, p3.2.1.2⟩ ?_
          · exact Rat.le_trans p3.2.1.1 (Rat.le_trans p2.2.1.1 p1.2.1.1)
          · exact Rat.le_trans p3.2.1.1 (Rat.le_trans p2.2.1.1 p1.2.1.2)
          · exact Rat.le_trans p3.2.1.1 p2.2.1.2
          · rcases p3.2.2 with e | e
            · rcases p2.2.2 with e' | e'
              · rcases p1.2.2 with e'' | e''
                · exact .inl (e.trans (e'.trans e''))
                · exact .inr (.inl (e.trans (e'.trans e'')))
              · exact .inr (.inr (.inl (e.trans e')))
            · exact .inr (.inr (.inr e))
        rw [← e0]
        exact segApart_far a b c d e f g h w h1 h2 h3 rfl rfl rfl rfl hE
end Go.Proofs.YtnponnkcfgjeoaaDoor.X
end
section
namespace Go.Proofs.YtnponnkcfgjeoaaDoor.X
open Go.RowKit Go.Proofs.YtnponnkcfgjeoaaDoorW.PrintWords Go.Proofs.YtnponnkcfgjeoaaDoorW.PrintLast Go.Proofs.YtnponnkcfgjeoaaDoorW.PrintMore
attribute [local go_sem] max2_int min2_int max_two min_two max_three min_three max_four min_four
set_option linter.unusedVariables false
set_option linter.unusedSimpArgs false
attribute [local go_sem high] eqA25
def laws_FnMeetApart.j0 : Nat → Bool → Int → Int → Int → Int → Int → Int → Int → Int → Int → Int → Option (Bool)
 | 0, _, _, _, _, _, _, _, _, _, _, _ => none
 | k + 1, x31, x669000, x669001, x669002, x669003, x670000, x670001, x670002, x670003, x673000, x673001 => if x31 = true then ((spec_SegApart.f k x669000 x669001 x669002 x669003 x670000 x670001 x670002 x670003).bind fun bt677 => (some (x673000 == bt677.1 && (x673001 == bt677.2)))) else ((laws_luZero.f x673000 x673001).bind fun t679 => ((impl_SegMeet.f k x669000 x669001 x669002 x669003 x670000 x670001 x670002 x670003).bind fun t680 => (if (t679 == t680) = true then ((impl_SegApart.f x670000 x670001 x670002 x670003 x669000 x669001 x669002 x669003).bind fun bt681 => (if (bt681.1 == x673000 && (bt681.2 == x673001)) = true then ((laws_luSeg.f x669000 x669001 x669002 x669003 false).bind fun bt683 => ((laws_luSeg.f x670000 x670001 x670002 x670003 false).bind fun bt687 => ((impl_SegApart.f bt683.1 bt683.2.1 bt683.2.2.1 bt683.2.2.2 bt687.1 bt687.2.1 bt687.2.2.1 bt687.2.2.2).bind fun bt691 => (if (bt691.1 == x673000 && (bt691.2 == x673001)) = true then ((laws_luSeg.f x669000 x669001 x669002 x669003 true).bind fun bt693 => ((laws_luSeg.f x670000 x670001 x670002 x670003 true).bind fun bt697 => ((impl_SegApart.f bt693.1 bt693.2.1 bt693.2.2.1 bt693.2.2.2 bt697.1 bt697.2.1 bt697.2.2.1 bt697.2.2.2).bind fun bt701 => (if (bt701.1 == x673000 && (bt701.2 == x673001)) = true then ((impl_FracOk.f x673000 x673001).bind fun t703 => (some t703)) else (some false))))) else (some false))))) else (some false))) else (some false))))
def laws_FnMeetApart.f (k : Nat) (l0 : List Int) : Option (Bool) := if (l0.length : Int) > 1048576 then (some true) else ((spec_DrawSegApart.f k l0).bind fun bt660 => ((impl_SegApart.f bt660.1 bt660.2.1 bt660.2.2.1 bt660.2.2.2.1 bt660.2.2.2.2.1 bt660.2.2.2.2.2.1 bt660.2.2.2.2.2.2.1 bt660.2.2.2.2.2.2.2).bind fun bt670 => ((spec_SegApart.f k bt660.1 bt660.2.1 bt660.2.2.1 bt660.2.2.2.1 bt660.2.2.2.2.1 bt660.2.2.2.2.2.1 bt660.2.2.2.2.2.2.1 bt660.2.2.2.2.2.2.2).bind fun bt673 => (if (!(bt670.1 == bt673.1) || (!(bt670.2 == bt673.2))) = true then (laws_FnMeetApart.j0 k true bt660.1 bt660.2.1 bt660.2.2.1 bt660.2.2.2.1 bt660.2.2.2.2.1 bt660.2.2.2.2.2.1 bt660.2.2.2.2.2.2.1 bt660.2.2.2.2.2.2.2 bt670.1 bt670.2) else ((spec_SegOk.f bt660.1 bt660.2.1 bt660.2.2.1 bt660.2.2.2.1).bind fun t675 => (if t675 = true then ((spec_SegOk.f bt660.2.2.2.2.1 bt660.2.2.2.2.2.1 bt660.2.2.2.2.2.2.1 bt660.2.2.2.2.2.2.2).bind fun t676 => (laws_FnMeetApart.j0 k (!t676) bt660.1 bt660.2.1 bt660.2.2.1 bt660.2.2.2.1 bt660.2.2.2.2.1 bt660.2.2.2.2.2.1 bt660.2.2.2.2.2.2.1 bt660.2.2.2.2.2.2.2 bt670.1 bt670.2)) else (laws_FnMeetApart.j0 k true bt660.1 bt660.2.1 bt660.2.2.1 bt660.2.2.2.1 bt660.2.2.2.2.1 bt660.2.2.2.2.2.1 bt660.2.2.2.2.2.2.1 bt660.2.2.2.2.2.2.2 bt670.1 bt670.2)))))))
def laws_FnMeetApart.T5 : Bool × List (List Nat × List Nat) := (true, [([], []), ([], []), ([], []), ([1, 2], [1, 2]), ([0, 3], [0, 3]), ([4, 3], [4]), ([5], [5]), ([6, 5, 5], [5, 6]), ([7, 5], [5, 7]), ([5, 8], [5, 8]), ([9, 7], [9]), ([10], [10]), ([11, 10, 10], [10, 11]), ([12, 10], [10, 12]), ([10, 13], [10, 13])])
def laws_FnMeetApart.B5 : List Nat := [0, 0, 0, 6, 15, 31, 63, 127, 255, 511, 1023, 2047, 4095, 8191, 16383]
theorem laws_FnMeetApart.tab5 : rtab .any (opsOf Tryd.f14 5) = laws_FnMeetApart.T5 := by kernel_rfl
theorem laws_FnMeetApart.bits5 : waitsOk laws_FnMeetApart.T5.2 laws_FnMeetApart.B5 = true := by kernel_rfl
def laws_FnMeetApart.T7 : Bool × List (List Nat × List Nat) := (true, [([], []), ([0], [0]), ([], []), ([], []), ([2, 3, 1], [2, 3]), ([1, 4], [1, 4]), ([5, 4], [5]), ([6], [6]), ([6], [6]), ([7, 8, 6, 6], [6, 7, 8]), ([6], [6]), ([9, 10, 6], [6, 9, 10]), ([6, 11], [6, 11]), ([12, 9], [12]), ([13], [13]), ([14, 13, 13], [13, 14]), ([13], [13]), ([16, 15, 13], [13, 16]), ([15, 17, 17, 13], [13, 15, 17]), ([13], [13]), ([18, 19, 13], [13, 18, 19]), ([13, 20], [13, 20]), ([21, 18], [21]), ([22], [22]), ([23, 22, 22], [22, 23]), ([22], [22]), ([25, 24, 22], [22, 25]), ([24, 26, 26, 22], [22, 24, 26]), ([22], [22]), ([27, 28, 22], [22, 27, 28]), ([22, 29], [22, 29]), ([30, 27], [30]), ([31], [31]), ([32, 31, 31], [31, 32]), ([31, 33], [31, 33]), ([34, 33, 0, 1, 2, 3, 4, 5, 6, 7, 8, 9, 10, 11, 12, 13, 14, 15, 16, 17, 18, 19, 20, 21, 22, 23, 24, 25, 26, 27, 28, 29, 30, 31, 32, 33, 34], [34])])
def laws_FnMeetApart.B7 : List Nat := [0, 1, 0, 0, 15, 31, 63, 127, 127, 511, 127, 2047, 4095, 8191, 16383, 32767, 16383, 131071, 262143, 16383, 1048575, 2097151, 4194303, 8388607, 16777215, 8388607, 67108863, 134217727, 8388607, 536870911, 1073741823, 2147483647, 4294967295, 8589934591, 17179869183, 34359738367]
theorem laws_FnMeetApart.tab7 : rtab .any (opsOf Tryd.f14 7) = laws_FnMeetApart.T7 := by kernel_rfl
theorem laws_FnMeetApart.bits7 : waitsOk laws_FnMeetApart.T7.2 laws_FnMeetApart.B7 = true := by kernel_rfl
set_option maxHeartbeats 8000000 in
set_option maxRecDepth 100000 in
theorem laws_FnMeetApart.calls (k : Nat) (A0 : Option Addr) (c0 : Nat) (l0 : List Int) (r : Bool) (w : World) (hr0 : Kd.C (Kd.int .u8) w A0 l0.length l0) (hc0 : l0.length ≤ c0) (hE : ErrW w) (h : laws_FnMeetApart.f k l0 = some r) :
  Calls Tryd.prog 14 #[.slice A0 l0.length c0] w fun e w' => e = .returned (.bool r) ∧ Below w.heap.size w w' := by
 have hu40 := Tryd.underlying40
 have hu25 := Tryd.underlying25
 have HR0 := Aside0.mk hr0
 have HC0 := Aside0.mk hc0
 clear hr0 hc0
 have HB := Aside0.mk (Below.refl w.heap.size w)
 have HE := Aside0.mk hE
 clear hE
 have H : (if (l0.length : Int) > 1048576 then (some true) else ((spec_DrawSegApart.f k l0).bind fun bt660 => ((impl_SegApart.f bt660.1 bt660.2.1 bt660.2.2.1 bt660.2.2.2.1 bt660.2.2.2.2.1 bt660.2.2.2.2.2.1 bt660.2.2.2.2.2.2.1 bt660.2.2.2.2.2.2.2).bind fun bt670 => ((spec_SegApart.f k bt660.1 bt660.2.1 bt660.2.2.1 bt660.2.2.2.1 bt660.2.2.2.2.1 bt660.2.2.2.2.2.1 bt660.2.2.2.2.2.2.1 bt660.2.2.2.2.2.2.2).bind fun bt673 => (if (!(bt670.1 == bt673.1) || (!(bt670.2 == bt673.2))) = true then (laws_FnMeetApart.j0 k true bt660.1 bt660.2.1 bt660.2.2.1 bt660.2.2.2.1 bt660.2.2.2.2.1 bt660.2.2.2.2.2.1 bt660.2.2.2.2.2.2.1 bt660.2.2.2.2.2.2.2 bt670.1 bt670.2) else ((spec_SegOk.f bt660.1 bt660.2.1 bt660.2.2.1 bt660.2.2.2.1).bind fun t675 => (if t675 = true then ((spec_SegOk.f bt660.2.2.2.2.1 bt660.2.2.2.2.2.1 bt660.2.2.2.2.2.2.1 bt660.2.2.2.2.2.2.2).bind fun t676 => (laws_FnMeetApart.j0 k (!t676) bt660.1 bt660.2.1 bt660.2.2.1 bt660.2.2.2.1 bt660.2.2.2.2.1 bt660.2.2.2.2.2.1 bt660.2.2.2.2.2.2.1 bt660.2.2.2.2.2.2.2 bt670.1 bt670.2)) else (laws_FnMeetApart.j0 k true bt660.1 bt660.2.1 bt660.2.2.1 bt660.2.2.2.1 bt660.2.2.2.2.1 bt660.2.2.2.2.2.1 bt660.2.2.2.2.2.2.1 bt660.2.2.2.2.2.2.2 bt670.1 bt670.2)))))))) = some r := h
 clear h
 by_cases c2 : (l0.length : Int) > 1048576
 ·
  rw [if_pos c2] at H
  have c2b0 : decide (1048576 < (l0.length : Int)) = true := decide_eq_true c2
  have c2b1 : decide (1048576 < l0.length) = true := decide_eq_true (by omega)
  clear c2
  obtain rfl := Option.some.inj H
  go_enter Tryd.func14, Tryd.ntmps14
  go_wp2
  go_ret
  exact ⟨by first | rfl | (simp [errW_none, errW_some] <;> rfl) | (simp [*, errW_none, errW_some] <;> rfl), hB_⟩
 ·
  rw [if_neg c2] at H
  have c2b0 : decide (1048576 < (l0.length : Int)) = false := decide_eq_false c2
  have c2b1 : decide (1048576 < l0.length) = false := decide_eq_false (by omega)
  clear c2
  replace H := Option.bind_eq_some_iff.mp H
  obtain ⟨⟨t660, t661, t662, t663, t664, t665, t666, t667⟩, A30, H⟩ := H
  replace H : ((impl_SegApart.f t660 t661 t662 t663 t664 t665 t666 t667).bind fun bt670 => ((spec_SegApart.f k t660 t661 t662 t663 t664 t665 t666 t667).bind fun bt673 => (if (!(bt670.1 == bt673.1) || (!(bt670.2 == bt673.2))) = true then (laws_FnMeetApart.j0 k true t660 t661 t662 t663 t664 t665 t666 t667 bt670.1 bt670.2) else ((spec_SegOk.f t660 t661 t662 t663).bind fun t675 => (if t675 = true then ((spec_SegOk.f t664 t665 t666 t667).bind fun t676 => (laws_FnMeetApart.j0 k (!t676) t660 t661 t662 t663 t664 t665 t666 t667 bt670.1 bt670.2)) else (laws_FnMeetApart.j0 k true t660 t661 t662 t663 t664 t665 t666 t667 bt670.1 bt670.2)))))) = some r := H
  have A3 := Aside0.mk A30
  clear A30
  replace H := Option.bind_eq_some_iff.mp H
  obtain ⟨⟨t670, t671⟩, A40, H⟩ := H
  replace H : ((spec_SegApart.f k t660 t661 t662 t663 t664 t665 t666 t667).bind fun bt673 => (if (!(t670 == bt673.1) || (!(t671 == bt673.2))) = true then (laws_FnMeetApart.j0 k true t660 t661 t662 t663 t664 t665 t666 t667 t670 t671) else ((spec_SegOk.f t660 t661 t662 t663).bind fun t675 => (if t675 = true then ((spec_SegOk.f t664 t665 t666 t667).bind fun t676 => (laws_FnMeetApart.j0 k (!t676) t660 t661 t662 t663 t664 t665 t666 t667 t670 t671)) else (laws_FnMeetApart.j0 k true t660 t661 t662 t663 t664 t665 t666 t667 t670 t671))))) = some r := H
  have A4 := Aside0.mk A40
  clear A40
  have HC5 := Aside0.mk H
  clear H
  go_enter Tryd.func14, Tryd.ntmps14
  go_upto_region 5 with (first | ((with_reducible refine gate_callee (f := 36) rfl ?_); refine goesL_ (some 11) rfl rfl Tryd.func36 (by kernel_rfl) rfl #[.slice A0 l0.length c0] rfl ma_ ?_; (with_reducible refine (spec_DrawSegApart.calls k _ _ l0 t660 t661 t662 t663 t664 t665 t666 t667 _ ?side1 ?side2 A3.out).mono ?_); (case side1 => repeat (first | exact HR0.out | (with_reducible refine Kd.C_alloc ?_ _) | (with_reducible refine Kd.C_drewN ?_ _) | (with_reducible refine Kd.C_drew ?_))); (case side2 => exact HC0.out); rintro e w6 ⟨rfl, hb⟩; refine ⟨_, rfl, ?_⟩; have n0_ := Aside0.mk (below_step hB_ hb); clear HB; have HB := n0_; clear n0_; (try clear hb); (try clear hb2); (try clear hk); (try clear hi)) | ((with_reducible refine gate_dst (N := 3) rfl ?_); refine box_event ?hg (N := 3) ?hd (cs := #[.int .i64 0, .int .i64 0, .int .i64 0, .int .i64 0]) (t := 40) ?hr ?_; (case hd => rfl); (case hg => rfl); (case hr => first | (go_simp; done) | (go_simp; rfl)); intro gb668 hg w7 hbox hb; have n0_ := Aside0.mk (below_step hB_ hb); have n1_ := Aside0.mk (hbox); have n2_ := Aside0.mk ((by rw [hg]; exact (below_size hB_) : w.heap.size ≤ gb668)); have n3_ := Aside0.mk ((by rw [hg]; exact (below_size hB_) : w.heap.size ≤ gb668)); clear HB; have HB := n0_; have BK668 := n1_; have GW668 := n2_; have GE668 := n3_; clear n0_ n1_ n2_ n3_; clear hb hbox hg) | ((with_reducible refine gate_dst (N := 4) rfl ?_); refine box_event ?hg (N := 4) ?hd (cs := #[.int .i64 0, .int .i64 0, .int .i64 0, .int .i64 0]) (t := 40) ?hr ?_; (case hd => rfl); (case hg => rfl); (case hr => first | (go_simp; done) | (go_simp; rfl)); intro gb669 hg w8 hbox hb; have n0_ := Aside0.mk (ub_ (g := gb668) hb); have n1_ := Aside0.mk (below_step hB_ hb); have n2_ := Aside0.mk (hbox); have n3_ := Aside0.mk ((by rw [hg]; exact (below_size hB_) : w.heap.size ≤ gb669)); have n4_ := Aside0.mk ((by rw [hg]; exact (below_size hB_) : w.heap.size ≤ gb669)); have n5_ := Aside0.mk ((by rw [hg]; exact Nat.ne_of_lt (blk_lt (g := gb668) (o := .cells #[.int .i64 0, .int .i64 0, .int .i64 0, .int .i64 0] 40 (0, 0)) uq_) : gb668 ≠ gb669)); have n6_ := Aside0.mk ((by rw [hg]; exact Nat.ne_of_gt (blk_lt (g := gb668) (o := .cells #[.int .i64 0, .int .i64 0, .int .i64 0, .int .i64 0] 40 (0, 0)) uq_) : gb669 ≠ gb668)); clear BK668; clear HB; have BK668 := n0_; have HB := n1_; have BK669 := n2_; have GW669 := n3_; have GE669 := n4_; have NB668_669 := n5_; have NB669_668 := n6_; clear n0_ n1_ n2_ n3_ n4_ n5_ n6_; clear hb hbox hg; have hnb9 := NB668_669.out; have hnc9 := NB669_668.out; have hcz10_0 : w8.cell? ⟨gb668, 0, none⟩ = some (.int .i64 0) := bc_; have hcz10_1 : w8.cell? ⟨gb668, 1, none⟩ = some (.int .i64 0) := bc_; have hcz10_2 : w8.cell? ⟨gb668, 2, none⟩ = some (.int .i64 0) := bc_; have hcz10_3 : w8.cell? ⟨gb668, 3, none⟩ = some (.int .i64 0) := bc_; have hfz10_0 := blk_frozen BK668.out 0; have hfz10_1 := blk_frozen BK668.out 1; have hfz10_2 := blk_frozen BK668.out 2; have hfz10_3 := blk_frozen BK668.out 3; have hcz11_0 : w8.cell? ⟨gb669, 0, none⟩ = some (.int .i64 0) := bc_; have hcz11_1 : w8.cell? ⟨gb669, 1, none⟩ = some (.int .i64 0) := bc_; have hcz11_2 : w8.cell? ⟨gb669, 2, none⟩ = some (.int .i64 0) := bc_; have hcz11_3 : w8.cell? ⟨gb669, 3, none⟩ = some (.int .i64 0) := bc_; have hfz11_0 := blk_frozen BK669.out 0; have hfz11_1 := blk_frozen BK669.out 1; have hfz11_2 := blk_frozen BK669.out 2; have hfz11_3 := blk_frozen BK669.out 3) | ((with_reducible refine gate_callee (f := 33) rfl ?_); refine goesL_ (some 16) rfl rfl Tryd.func33 (by kernel_rfl) rfl #[.agg #[.int .i64 t660, .int .i64 t661, .int .i64 t662, .int .i64 t663], .agg #[.int .i64 t664, .int .i64 t665, .int .i64 t666, .int .i64 t667]] rfl ma_ ?_; (with_reducible refine (impl_SegApart.calls t660 t661 t662 t663 t664 t665 t666 t667 t670 t671 _ ?side1 A4.out).mono ?_); (case side1 => exact ErrW.below HE.out hB_); rintro e w12 ⟨rfl, hb⟩; refine ⟨_, rfl, ?_⟩; have n0_ := Aside0.mk (blk_below (g := gb668) (o := .cells #[.int .i64 t660, .int .i64 t661, .int .i64 t662, .int .i64 t663] 40 (0, 0)) (by (with_reducible repeat (first | refine blk_drewN ?_ _ | refine blk_drew ?_ | refine blk_alloc ?_ _)); refine blk_far ?_ NB668_669.out _; (with_reducible repeat (first | refine blk_drewN ?_ _ | refine blk_drew ?_ | refine blk_alloc ?_ _)); refine blk_far ?_ NB668_669.out _; (with_reducible repeat (first | refine blk_drewN ?_ _ | refine blk_drew ?_ | refine blk_alloc ?_ _)); refine blk_far ?_ NB668_669.out _; (with_reducible repeat (first | refine blk_drewN ?_ _ | refine blk_drew ?_ | refine blk_alloc ?_ _)); refine blk_far ?_ NB668_669.out _; (with_reducible repeat (first | refine blk_drewN ?_ _ | refine blk_drew ?_ | refine blk_alloc ?_ _)); refine blk_put (cs := #[.int .i64 t660, .int .i64 t661, .int .i64 t662, .int .i64 0]) ?_ 3 _ rfl; (with_reducible repeat (first | refine blk_drewN ?_ _ | refine blk_drew ?_ | refine blk_alloc ?_ _)); refine blk_put (cs := #[.int .i64 t660, .int .i64 t661, .int .i64 0, .int .i64 0]) ?_ 2 _ rfl; (with_reducible repeat (first | refine blk_drewN ?_ _ | refine blk_drew ?_ | refine blk_alloc ?_ _)); refine blk_put (cs := #[.int .i64 t660, .int .i64 0, .int .i64 0, .int .i64 0]) ?_ 1 _ rfl; (with_reducible repeat (first | refine blk_drewN ?_ _ | refine blk_drew ?_ | refine blk_alloc ?_ _)); refine blk_put (cs := #[.int .i64 0, .int .i64 0, .int .i64 0, .int .i64 0]) ?_ 0 _ rfl; (with_reducible repeat (first | refine blk_drewN ?_ _ | refine blk_drew ?_ | refine blk_alloc ?_ _)); exact BK668.out) hb); have n1_ := Aside0.mk (blk_below (g := gb669) (o := .cells #[.int .i64 t664, .int .i64 t665, .int .i64 t666, .int .i64 t667] 40 (0, 0)) (by (with_reducible repeat (first | refine blk_drewN ?_ _ | refine blk_drew ?_ | refine blk_alloc ?_ _)); refine blk_put (cs := #[.int .i64 t664, .int .i64 t665, .int .i64 t666, .int .i64 0]) ?_ 3 _ rfl; (with_reducible repeat (first | refine blk_drewN ?_ _ | refine blk_drew ?_ | refine blk_alloc ?_ _)); refine blk_put (cs := #[.int .i64 t664, .int .i64 t665, .int .i64 0, .int .i64 0]) ?_ 2 _ rfl; (with_reducible repeat (first | refine blk_drewN ?_ _ | refine blk_drew ?_ | refine blk_alloc ?_ _)); refine blk_put (cs := #[.int .i64 t664, .int .i64 0, .int .i64 0, .int .i64 0]) ?_ 1 _ rfl; (with_reducible repeat (first | refine blk_drewN ?_ _ | refine blk_drew ?_ | refine blk_alloc ?_ _)); refine blk_put (cs := #[.int .i64 0, .int .i64 0, .int .i64 0, .int .i64 0]) ?_ 0 _ rfl; (with_reducible repeat (first | refine blk_drewN ?_ _ | refine blk_drew ?_ | refine blk_alloc ?_ _)); refine blk_far ?_ NB669_668.out _; (with_reducible repeat (first | refine blk_drewN ?_ _ | refine blk_drew ?_ | refine blk_alloc ?_ _)); refine blk_far ?_ NB669_668.out _; (with_reducible repeat (first | refine blk_drewN ?_ _ | refine blk_drew ?_ | refine blk_alloc ?_ _)); refine blk_far ?_ NB669_668.out _; (with_reducible repeat (first | refine blk_drewN ?_ _ | refine blk_drew ?_ | refine blk_alloc ?_ _)); refine blk_far ?_ NB669_668.out _; (with_reducible repeat (first | refine blk_drewN ?_ _ | refine blk_drew ?_ | refine blk_alloc ?_ _)); exact BK669.out) hb); have n2_ := Aside0.mk (below_step hB_ hb); clear BK668; clear BK669; clear HB; have BK668 := n0_; have BK669 := n1_; have HB := n2_; clear n0_ n1_ n2_; (try clear hb); (try clear hb2); (try clear hk); (try clear hi)) | ((with_reducible refine gate_dst (N := 5) rfl ?_); refine box_event ?hg (N := 5) ?hd (cs := #[.int .i64 0, .int .i64 0]) (t := 25) ?hr ?_; (case hd => rfl); (case hg => rfl); (case hr => first | (go_simp; done) | (go_simp; rfl)); intro gb672 hg w13 hbox hb; have n0_ := Aside0.mk (ub_ (g := gb668) hb); have n1_ := Aside0.mk (ub_ (g := gb669) hb); have n2_ := Aside0.mk (below_step hB_ hb); have n3_ := Aside0.mk (hbox); have n4_ := Aside0.mk ((by rw [hg]; exact (below_size hB_) : w.heap.size ≤ gb672)); have n5_ := Aside0.mk ((by rw [hg]; exact (below_size hB_) : w.heap.size ≤ gb672)); have n6_ := Aside0.mk ((by rw [hg]; exact Nat.ne_of_lt (blk_lt (g := gb668) (o := .cells #[.int .i64 t660, .int .i64 t661, .int .i64 t662, .int .i64 t663] 40 (0, 0)) uq_) : gb668 ≠ gb672)); have n7_ := Aside0.mk ((by rw [hg]; exact Nat.ne_of_gt (blk_lt (g := gb668) (o := .cells #[.int .i64 t660, .int .i64 t661, .int .i64 t662, .int .i64 t663] 40 (0, 0)) uq_) : gb672 ≠ gb668)); have n8_ := Aside0.mk ((by rw [hg]; exact Nat.ne_of_lt (blk_lt (g := gb669) (o := .cells #[.int .i64 t664, .int .i64 t665, .int .i64 t666, .int .i64 t667] 40 (0, 0)) uq_) : gb669 ≠ gb672)); have n9_ := Aside0.mk ((by rw [hg]; exact Nat.ne_of_gt (blk_lt (g := gb669) (o := .cells #[.int .i64 t664, .int .i64 t665, .int .i64 t666, .int .i64 t667] 40 (0, 0)) uq_) : gb672 ≠ gb669)); clear BK668; clear BK669; clear HB; have BK668 := n0_; have BK669 := n1_; have HB := n2_; have BK672 := n3_; have GW672 := n4_; have GE672 := n5_; have NB668_672 := n6_; have NB672_668 := n7_; have NB669_672 := n8_; have NB672_669 := n9_; clear n0_ n1_ n2_ n3_ n4_ n5_ n6_ n7_ n8_ n9_; clear hb hbox hg; have hnb14 := NB672_668.out; have hnc14 := NB668_672.out; have hnb15 := NB672_669.out; have hnc15 := NB669_672.out; have hcz16_0 : w13.cell? ⟨gb672, 0, none⟩ = some (.int .i64 0) := bc_; have hcz16_1 : w13.cell? ⟨gb672, 1, none⟩ = some (.int .i64 0) := bc_; have hfz16_0 := blk_frozen BK672.out 0; have hfz16_1 := blk_frozen BK672.out 1))
  (try simp only [Act.put, List.setIfInBounds_toArray, List.set_cons_zero, List.set_cons_succ])
  go_cut [31] (fun v31 wc => ∃ (kq : Nat) (x31_4 : Bool), v31 = .bool x31_4 ∧ Aside0 (laws_FnMeetApart.j0 kq x31_4 t660 t661 t662 t663 t664 t665 t666 t667 t670 t671 = some r) ∧ Aside0 (kq ≤ k) ∧ Aside0 (wc.heap[gb668]? = some (.cells #[.int .i64 t660, .int .i64 t661, .int .i64 t662, .int .i64 t663] 40 (0, 0))) ∧ Aside0 (wc.heap[gb669]? = some (.cells #[.int .i64 t664, .int .i64 t665, .int .i64 t666, .int .i64 t667] 40 (0, 0))) ∧ Aside0 (wc.heap[gb672]? = some (.cells #[.int .i64 t670, .int .i64 t671] 25 (0, 0))) ∧ Aside0 (Below w.heap.size w wc))
  case first =>
   have H := HC5.out
   clear HC5
   replace H := Option.bind_eq_some_iff.mp H
   obtain ⟨⟨t673, t674⟩, A170, H⟩ := H
   replace H : (if (!(t670 == t673) || (!(t671 == t674))) = true then (laws_FnMeetApart.j0 k true t660 t661 t662 t663 t664 t665 t666 t667 t670 t671) else ((spec_SegOk.f t660 t661 t662 t663).bind fun t675 => (if t675 = true then ((spec_SegOk.f t664 t665 t666 t667).bind fun t676 => (laws_FnMeetApart.j0 k (!t676) t660 t661 t662 t663 t664 t665 t666 t667 t670 t671)) else (laws_FnMeetApart.j0 k true t660 t661 t662 t663 t664 t665 t666 t667 t670 t671)))) = some r := H
   have A17 := Aside0.mk A170
   clear A170
   by_cases c18 : (!(t670 == t673) || (!(t671 == t674))) = true
   ·
    rw [if_pos c18] at H
    have c18b0 : (!(t670 == t673) || (!(t671 == t674))) = true := c18
    clear c18
    (first | rw [c18b0] | (simp only [i64_w, i32_w]; rw [c18b0]) | skip)
    have H' := Aside0.mk H
    clear H
    try go_wp2
    have n0_ : Aside0 (((w13.setCell ⟨gb672, 0, none⟩ (.int .i64 t670)).setCell ⟨gb672, 1, none⟩ (.int .i64 t671)).heap[gb668]? = some (.cells #[.int .i64 t660, .int .i64 t661, .int .i64 t662, .int .i64 t663] 40 (0, 0))) := ⟨by (with_reducible repeat (first | refine blk_drewN ?_ _ | refine blk_drew ?_ | refine blk_alloc ?_ _)); refine blk_far ?_ NB668_672.out _; (with_reducible repeat (first | refine blk_drewN ?_ _ | refine blk_drew ?_ | refine blk_alloc ?_ _)); refine blk_far ?_ NB668_672.out _; (with_reducible repeat (first | refine blk_drewN ?_ _ | refine blk_drew ?_ | refine blk_alloc ?_ _)); exact BK668.out⟩
    have n1_ : Aside0 (((w13.setCell ⟨gb672, 0, none⟩ (.int .i64 t670)).setCell ⟨gb672, 1, none⟩ (.int .i64 t671)).heap[gb669]? = some (.cells #[.int .i64 t664, .int .i64 t665, .int .i64 t666, .int .i64 t667] 40 (0, 0))) := ⟨by (with_reducible repeat (first | refine blk_drewN ?_ _ | refine blk_drew ?_ | refine blk_alloc ?_ _)); refine blk_far ?_ NB669_672.out _; (with_reducible repeat (first | refine blk_drewN ?_ _ | refine blk_drew ?_ | refine blk_alloc ?_ _)); refine blk_far ?_ NB669_672.out _; (with_reducible repeat (first | refine blk_drewN ?_ _ | refine blk_drew ?_ | refine blk_alloc ?_ _)); exact BK669.out⟩
    have n2_ : Aside0 (((w13.setCell ⟨gb672, 0, none⟩ (.int .i64 t670)).setCell ⟨gb672, 1, none⟩ (.int .i64 t671)).heap[gb672]? = some (.cells #[.int .i64 t670, .int .i64 t671] 25 (0, 0))) := ⟨by (with_reducible repeat (first | refine blk_drewN ?_ _ | refine blk_drew ?_ | refine blk_alloc ?_ _)); refine blk_put (cs := #[.int .i64 t670, .int .i64 0]) ?_ 1 _ rfl; (with_reducible repeat (first | refine blk_drewN ?_ _ | refine blk_drew ?_ | refine blk_alloc ?_ _)); refine blk_put (cs := #[.int .i64 0, .int .i64 0]) ?_ 0 _ rfl; (with_reducible repeat (first | refine blk_drewN ?_ _ | refine blk_drew ?_ | refine blk_alloc ?_ _)); exact BK672.out⟩
    have n3_ : Aside0 (Below w.heap.size w ((w13.setCell ⟨gb672, 0, none⟩ (.int .i64 t670)).setCell ⟨gb672, 1, none⟩ (.int .i64 t671))) := ⟨hB_⟩
    (try clear BK668)
    (try clear BK669)
    (try clear BK672)
    (try clear HB)
    generalize ((w13.setCell ⟨gb672, 0, none⟩ (.int .i64 t670)).setCell ⟨gb672, 1, none⟩ (.int .i64 t671)) = w19 at n0_ n1_ n2_ n3_ ⊢
    have BK668 := n0_
    have BK669 := n1_
    have BK672 := n2_
    have HB := n3_
    clear n0_ n1_ n2_ n3_
    have n0_ := Aside0.mk (blk_drew BK668.out)
    have n1_ := Aside0.mk (blk_drew BK669.out)
    have n2_ := Aside0.mk (blk_drew BK672.out)
    have n3_ := Aside0.mk (below_drew1 HB.out)
    clear BK668 BK669 BK672 HB
    have BK668 := n0_
    have BK669 := n1_
    have BK672 := n2_
    have HB := n3_
    clear n0_ n1_ n2_ n3_
    refine start_ (n := 15) (S := fun w' => w'.cell? ⟨gb672, 0, none⟩ = some (.int .i64 t670) ∧ w'.cell? ⟨gb672, 1, none⟩ = some (.int .i64 t671) ∧ w'.cell? ⟨gb668, 0, none⟩ = some (.int .i64 t660) ∧ w'.cell? ⟨gb668, 1, none⟩ = some (.int .i64 t661) ∧ w'.cell? ⟨gb668, 2, none⟩ = some (.int .i64 t662) ∧ w'.cell? ⟨gb668, 3, none⟩ = some (.int .i64 t663) ∧ w'.cell? ⟨gb669, 0, none⟩ = some (.int .i64 t664) ∧ w'.cell? ⟨gb669, 1, none⟩ = some (.int .i64 t665) ∧ w'.cell? ⟨gb669, 2, none⟩ = some (.int .i64 t666) ∧ w'.cell? ⟨gb669, 3, none⟩ = some (.int .i64 t667)) (ds := []) #[false, false, false, false, false, false, false, false, false, false, false, false, false, false, false] (by kernel_rfl) rfl rfl ⟨bc_, bc_, bc_, bc_, bc_, bc_, bc_, bc_, bc_, bc_⟩ (fun hHeld => ?_); refine with_tabW laws_FnMeetApart.tab5 laws_FnMeetApart.bits5 (fun HT_ HW_ => ?_)
    generalize w19.drew = w20 at BK668 BK669 BK672 HB hHeld ⊢
    refine take_ (i := 0) (N := some 17) (v := ?_) (a' := ?_) (bm 15 1) rfl rfl (take_ofW HT_.out HW_.out (by kernel_rfl)) (fun _ _ _ h => h) (Or.inl ⟨by rfl, ?_⟩) hHeld ?_ ?_
    rotate_left
    ·
     rintro w' ⟨s0, s1, s2, s3, s4, s5, s6, s7, s8, s9⟩
     go_simp
     with_reducible rfl
    rotate_left
    ·
     simp only [Act.put, List.setIfInBounds_toArray, List.set_cons_zero, List.set_cons_succ, i64_w, i32_w]
     rfl
    refine take_ (i := 1) (N := some 18) (v := ?_) (a' := ?_) (bm 15 3) rfl rfl (take_ofW HT_.out HW_.out (by kernel_rfl)) (fun _ _ _ h => h) (Or.inl ⟨by rfl, ?_⟩) hHeld ?_ ?_
    rotate_left
    ·
     rintro w' ⟨s0, s1, s2, s3, s4, s5, s6, s7, s8, s9⟩
     go_simp
     with_reducible rfl
    rotate_left
    ·
     simp only [Act.put, List.setIfInBounds_toArray, List.set_cons_zero, List.set_cons_succ, i64_w, i32_w]
     rfl
    refine take_ (i := 2) (N := some 19) (v := ?_) (a' := ?_) (bm 15 7) rfl rfl (take_ofW HT_.out HW_.out (by kernel_rfl)) (fun _ _ _ h => h) (Or.inl ⟨by rfl, ?_⟩) hHeld ?_ ?_
    rotate_left
    ·
     rintro w' ⟨s0, s1, s2, s3, s4, s5, s6, s7, s8, s9⟩
     go_simp
     with_reducible rfl
    rotate_left
    ·
     simp only [Act.put, List.setIfInBounds_toArray, List.set_cons_zero, List.set_cons_succ, i64_w, i32_w]
     rfl
    refine one_ (i := 3) (N := some 20) (bm 15 15) rfl rfl (one_of HT_.out (by kernel_rfl)) (by decide) (fun K hK => ?_)
    refine goes_ Tryd.func31 (by kernel_rfl) rfl #[.agg #[.int .i64 t660, .int .i64 t661, .int .i64 t662, .int .i64 t663], .agg #[.int .i64 t664, .int .i64 t665, .int .i64 t666, .int .i64 t667]] (by rfl) rfl rfl ma_ ?_
    with_reducible refine (spec_SegApart.calls k t660 t661 t662 t663 t664 t665 t666 t667 t673 t674 _ A17.out).mono ?_
    rintro e w21 ⟨rfl, hb⟩
    refine ⟨_, rfl, ?_⟩
    have n0_ := Aside0.mk (ub_ (g := gb668) hb)
    have n1_ := Aside0.mk (ub_ (g := gb669) hb)
    have n2_ := Aside0.mk (ub_ (g := gb672) hb)
    have n3_ := Aside0.mk (below_step hB_ hb)
    clear BK668 BK669 BK672 HB
    have BK668 := n0_
    have BK669 := n1_
    have BK672 := n2_
    have HB := n3_
    clear n0_ n1_ n2_ n3_
    (try clear hb)
    (try clear hb2)
    (try clear hk)
    (try clear hi)
    refine hK.out _ _ ⟨bc_, bc_, bc_, bc_, bc_, bc_, bc_, bc_, bc_, bc_⟩ (fun hHeld => ?_)
    clear hK K
    refine norm_ (a' := ?_) ?_ ?_
    rotate_left
    ·
     show Act.put _ (some 20) _ = _
     simp only [Act.put, List.setIfInBounds_toArray, List.set_cons_zero, List.set_cons_succ, i64_w, i32_w]
     rfl
    refine pure_ (i := 4) (N := some 21) (v := ?_) (a' := ?_) (bm 15 31) rfl rfl (any_of HT_.out (by kernel_rfl)) (fun _ _ _ h => h) (Or.inl ⟨by rfl, ?_⟩) ?_ ?_
    rotate_left
    ·
     intro w'
     go_simp
     with_reducible rfl
    rotate_left
    ·
     simp only [Act.put, List.setIfInBounds_toArray, List.set_cons_zero, List.set_cons_succ, i64_w, i32_w]
     rfl
    refine pure_ (i := 5) (N := some 22) (v := ?_) (a' := ?_) (bm 15 63) rfl rfl (any_of HT_.out (by kernel_rfl)) (fun _ _ _ h => h) (Or.inl ⟨by rfl, ?_⟩) ?_ ?_
    rotate_left
    ·
     intro w'
     go_simp
     with_reducible rfl
    rotate_left
    ·
     simp only [Act.put, List.setIfInBounds_toArray, List.set_cons_zero, List.set_cons_succ, i64_w, i32_w]
     rfl
    refine pure_ (i := 6) (N := some 23) (v := undef) (a' := ?_) (bm 15 127) rfl rfl (any_of HT_.out (by kernel_rfl)) (fun _ _ _ h => h) (Or.inr ⟨by rfl, rfl⟩) ?_ ?_
    rotate_left
    ·
     simp only [Act.put, List.setIfInBounds_toArray, List.set_cons_zero, List.set_cons_succ, i64_w, i32_w]
     rfl
    refine pure_ (i := 7) (N := some 24) (v := undef) (a' := ?_) (bm 15 255) rfl rfl (any_of HT_.out (by kernel_rfl)) (fun _ _ _ h => h) (Or.inr ⟨by rfl, rfl⟩) ?_ ?_
    rotate_left
    ·
     simp only [Act.put, List.setIfInBounds_toArray, List.set_cons_zero, List.set_cons_succ, i64_w, i32_w]
     rfl
    refine pure_ (i := 8) (N := some 25) (v := undef) (a' := ?_) (bm 15 511) rfl rfl (any_of HT_.out (by kernel_rfl)) (fun _ _ _ h => h) (Or.inr ⟨by rfl, rfl⟩) ?_ ?_
    rotate_left
    ·
     simp only [Act.put, List.setIfInBounds_toArray, List.set_cons_zero, List.set_cons_succ, i64_w, i32_w]
     rfl
    refine pure_ (i := 9) (N := some 26) (v := ?_) (a' := ?_) (bm 15 1023) rfl rfl (any_of HT_.out (by kernel_rfl)) (fun _ _ _ h => h) (Or.inl ⟨by rfl, ?_⟩) ?_ ?_
    rotate_left
    ·
     intro w'
     go_simp
     with_reducible rfl
    rotate_left
    ·
     simp only [Act.put, List.setIfInBounds_toArray, List.set_cons_zero, List.set_cons_succ, i64_w, i32_w]
     rfl
    refine pure_ (i := 10) (N := some 27) (v := ?_) (a' := ?_) (bm 15 2047) rfl rfl (any_of HT_.out (by kernel_rfl)) (fun _ _ _ h => h) (Or.inl ⟨by rfl, ?_⟩) ?_ ?_
    rotate_left
    ·
     intro w'
     go_simp
     with_reducible rfl
    rotate_left
    ·
     simp only [Act.put, List.setIfInBounds_toArray, List.set_cons_zero, List.set_cons_succ, i64_w, i32_w]
     rfl
    refine pure_ (i := 11) (N := some 28) (v := undef) (a' := ?_) (bm 15 4095) rfl rfl (any_of HT_.out (by kernel_rfl)) (fun _ _ _ h => h) (Or.inr ⟨by rfl, rfl⟩) ?_ ?_
    rotate_left
    ·
     simp only [Act.put, List.setIfInBounds_toArray, List.set_cons_zero, List.set_cons_succ, i64_w, i32_w]
     rfl
    refine pure_ (i := 12) (N := some 29) (v := undef) (a' := ?_) (bm 15 8191) rfl rfl (any_of HT_.out (by kernel_rfl)) (fun _ _ _ h => h) (Or.inr ⟨by rfl, rfl⟩) ?_ ?_
    rotate_left
    ·
     simp only [Act.put, List.setIfInBounds_toArray, List.set_cons_zero, List.set_cons_succ, i64_w, i32_w]
     rfl
    refine pure_ (i := 13) (N := some 30) (v := undef) (a' := ?_) (bm 15 16383) rfl rfl (any_of HT_.out (by kernel_rfl)) (fun _ _ _ h => h) (Or.inr ⟨by rfl, rfl⟩) ?_ ?_
    rotate_left
    ·
     simp only [Act.put, List.setIfInBounds_toArray, List.set_cons_zero, List.set_cons_succ, i64_w, i32_w]
     rfl
    refine pure_ (i := 14) (N := some 31) (v := ?_) (a' := ?_) (bm 15 32767) rfl rfl (any_of HT_.out (by kernel_rfl)) (fun _ _ _ h => h) (Or.inl ⟨by rfl, ?_⟩) ?_ ?_
    rotate_left
    ·
     intro w'
     go_simp
     with_reducible rfl
    rotate_left
    ·
     simp only [Act.put, List.setIfInBounds_toArray, List.set_cons_zero, List.set_cons_succ, i64_w, i32_w]
     rfl
    refine done_ (done_of HT_.out (by kernel_rfl)) ?_
    try go_wp2
    go_meet
    case rel => exact ⟨_, (true), (by first | rfl | (simp; done) | (simp [*]; done)), H', ⟨by first | omega | exact Nat.le_refl _⟩, ⟨uq_⟩, ⟨uq_⟩, ⟨uq_⟩, ⟨hB_⟩⟩
   ·
    rw [if_neg c18] at H
    have c18b0 : (!(t670 == t673) || (!(t671 == t674))) = false := by simpa using c18
    clear c18
    (first | rw [c18b0] | (simp only [i64_w, i32_w]; rw [c18b0]) | skip)
    replace H := Option.bind_eq_some_iff.mp H
    obtain ⟨t675, A220, H⟩ := H
    replace H : (if t675 = true then ((spec_SegOk.f t664 t665 t666 t667).bind fun t676 => (laws_FnMeetApart.j0 k (!t676) t660 t661 t662 t663 t664 t665 t666 t667 t670 t671)) else (laws_FnMeetApart.j0 k true t660 t661 t662 t663 t664 t665 t666 t667 t670 t671)) = some r := H
    have A22 := Aside0.mk A220
    clear A220
    by_cases c23 : t675 = true
    ·
     subst c23
     have H1 : ((spec_SegOk.f t664 t665 t666 t667).bind fun t676 => (laws_FnMeetApart.j0 k (!t676) t660 t661 t662 t663 t664 t665 t666 t667 t670 t671)) = some r := by rw [if_pos rfl] at H; exact H
     clear H
     have H := H1
     clear H1
     replace H := Option.bind_eq_some_iff.mp H
     obtain ⟨t676, A240, H⟩ := H
     replace H : (laws_FnMeetApart.j0 k (!t676) t660 t661 t662 t663 t664 t665 t666 t667 t670 t671) = some r := H
     have A24 := Aside0.mk A240
     clear A240
     have H' := Aside0.mk H
     clear H
     try go_wp2
     have n0_ : Aside0 (((w13.setCell ⟨gb672, 0, none⟩ (.int .i64 t670)).setCell ⟨gb672, 1, none⟩ (.int .i64 t671)).heap[gb668]? = some (.cells #[.int .i64 t660, .int .i64 t661, .int .i64 t662, .int .i64 t663] 40 (0, 0))) := ⟨by (with_reducible repeat (first | refine blk_drewN ?_ _ | refine blk_drew ?_ | refine blk_alloc ?_ _)); refine blk_far ?_ NB668_672.out _; (with_reducible repeat (first | refine blk_drewN ?_ _ | refine blk_drew ?_ | refine blk_alloc ?_ _)); refine blk_far ?_ NB668_672.out _; (with_reducible repeat (first | refine blk_drewN ?_ _ | refine blk_drew ?_ | refine blk_alloc ?_ _)); exact BK668.out⟩
     have n1_ : Aside0 (((w13.setCell ⟨gb672, 0, none⟩ (.int .i64 t670)).setCell ⟨gb672, 1, none⟩ (.int .i64 t671)).heap[gb669]? = some (.cells #[.int .i64 t664, .int .i64 t665, .int .i64 t666, .int .i64 t667] 40 (0, 0))) := ⟨by (with_reducible repeat (first | refine blk_drewN ?_ _ | refine blk_drew ?_ | refine blk_alloc ?_ _)); refine blk_far ?_ NB669_672.out _; (with_reducible repeat (first | refine blk_drewN ?_ _ | refine blk_drew ?_ | refine blk_alloc ?_ _)); refine blk_far ?_ NB669_672.out _; (with_reducible repeat (first | refine blk_drewN ?_ _ | refine blk_drew ?_ | refine blk_alloc ?_ _)); exact BK669.out⟩
     have n2_ : Aside0 (((w13.setCell ⟨gb672, 0, none⟩ (.int .i64 t670)).setCell ⟨gb672, 1, none⟩ (.int .i64 t671)).heap[gb672]? = some (.cells #[.int .i64 t670, .int .i64 t671] 25 (0, 0))) := ⟨by (with_reducible repeat (first | refine blk_drewN ?_ _ | refine blk_drew ?_ | refine blk_alloc ?_ _)); refine blk_put (cs := #[.int .i64 t670, .int .i64 0]) ?_ 1 _ rfl; (with_reducible repeat (first | refine blk_drewN ?_ _ | refine blk_drew ?_ | refine blk_alloc ?_ _)); refine blk_put (cs := #[.int .i64 0, .int .i64 0]) ?_ 0 _ rfl; (with_reducible repeat (first | refine blk_drewN ?_ _ | refine blk_drew ?_ | refine blk_alloc ?_ _)); exact BK672.out⟩
     have n3_ : Aside0 (Below w.heap.size w ((w13.setCell ⟨gb672, 0, none⟩ (.int .i64 t670)).setCell ⟨gb672, 1, none⟩ (.int .i64 t671))) := ⟨hB_⟩
     (try clear BK668)
     (try clear BK669)
     (try clear BK672)
     (try clear HB)
     generalize ((w13.setCell ⟨gb672, 0, none⟩ (.int .i64 t670)).setCell ⟨gb672, 1, none⟩ (.int .i64 t671)) = w25 at n0_ n1_ n2_ n3_ ⊢
     have BK668 := n0_
     have BK669 := n1_
     have BK672 := n2_
     have HB := n3_
     clear n0_ n1_ n2_ n3_
     have n0_ := Aside0.mk (blk_drew BK668.out)
     have n1_ := Aside0.mk (blk_drew BK669.out)
     have n2_ := Aside0.mk (blk_drew BK672.out)
     have n3_ := Aside0.mk (below_drew1 HB.out)
     clear BK668 BK669 BK672 HB
     have BK668 := n0_
     have BK669 := n1_
     have BK672 := n2_
     have HB := n3_
     clear n0_ n1_ n2_ n3_
     refine start_ (n := 15) (S := fun w' => w'.cell? ⟨gb672, 0, none⟩ = some (.int .i64 t670) ∧ w'.cell? ⟨gb672, 1, none⟩ = some (.int .i64 t671) ∧ w'.cell? ⟨gb668, 0, none⟩ = some (.int .i64 t660) ∧ w'.cell? ⟨gb668, 1, none⟩ = some (.int .i64 t661) ∧ w'.cell? ⟨gb668, 2, none⟩ = some (.int .i64 t662) ∧ w'.cell? ⟨gb668, 3, none⟩ = some (.int .i64 t663) ∧ w'.cell? ⟨gb669, 0, none⟩ = some (.int .i64 t664) ∧ w'.cell? ⟨gb669, 1, none⟩ = some (.int .i64 t665) ∧ w'.cell? ⟨gb669, 2, none⟩ = some (.int .i64 t666) ∧ w'.cell? ⟨gb669, 3, none⟩ = some (.int .i64 t667)) (ds := []) #[false, false, false, false, false, false, false, false, false, false, false, false, false, false, false] (by kernel_rfl) rfl rfl ⟨bc_, bc_, bc_, bc_, bc_, bc_, bc_, bc_, bc_, bc_⟩ (fun hHeld => ?_); refine with_tabW laws_FnMeetApart.tab5 laws_FnMeetApart.bits5 (fun HT_ HW_ => ?_)
     generalize w25.drew = w26 at BK668 BK669 BK672 HB hHeld ⊢
     refine take_ (i := 0) (N := some 17) (v := ?_) (a' := ?_) (bm 15 1) rfl rfl (take_ofW HT_.out HW_.out (by kernel_rfl)) (fun _ _ _ h => h) (Or.inl ⟨by rfl, ?_⟩) hHeld ?_ ?_
     rotate_left
     ·
      rintro w' ⟨s0, s1, s2, s3, s4, s5, s6, s7, s8, s9⟩
      go_simp
      with_reducible rfl
     rotate_left
     ·
      simp only [Act.put, List.setIfInBounds_toArray, List.set_cons_zero, List.set_cons_succ, i64_w, i32_w]
      rfl
     refine take_ (i := 1) (N := some 18) (v := ?_) (a' := ?_) (bm 15 3) rfl rfl (take_ofW HT_.out HW_.out (by kernel_rfl)) (fun _ _ _ h => h) (Or.inl ⟨by rfl, ?_⟩) hHeld ?_ ?_
     rotate_left
     ·
      rintro w' ⟨s0, s1, s2, s3, s4, s5, s6, s7, s8, s9⟩
      go_simp
      with_reducible rfl
     rotate_left
     ·
      simp only [Act.put, List.setIfInBounds_toArray, List.set_cons_zero, List.set_cons_succ, i64_w, i32_w]
      rfl
     refine take_ (i := 2) (N := some 19) (v := ?_) (a' := ?_) (bm 15 7) rfl rfl (take_ofW HT_.out HW_.out (by kernel_rfl)) (fun _ _ _ h => h) (Or.inl ⟨by rfl, ?_⟩) hHeld ?_ ?_
     rotate_left
     ·
      rintro w' ⟨s0, s1, s2, s3, s4, s5, s6, s7, s8, s9⟩
      go_simp
      with_reducible rfl
     rotate_left
     ·
      simp only [Act.put, List.setIfInBounds_toArray, List.set_cons_zero, List.set_cons_succ, i64_w, i32_w]
      rfl
     refine one_ (i := 3) (N := some 20) (bm 15 15) rfl rfl (one_of HT_.out (by kernel_rfl)) (by decide) (fun K hK => ?_)
     refine goes_ Tryd.func31 (by kernel_rfl) rfl #[.agg #[.int .i64 t660, .int .i64 t661, .int .i64 t662, .int .i64 t663], .agg #[.int .i64 t664, .int .i64 t665, .int .i64 t666, .int .i64 t667]] (by rfl) rfl rfl ma_ ?_
     with_reducible refine (spec_SegApart.calls k t660 t661 t662 t663 t664 t665 t666 t667 t673 t674 _ A17.out).mono ?_
     rintro e w27 ⟨rfl, hb⟩
     refine ⟨_, rfl, ?_⟩
     have n0_ := Aside0.mk (ub_ (g := gb668) hb)
     have n1_ := Aside0.mk (ub_ (g := gb669) hb)
     have n2_ := Aside0.mk (ub_ (g := gb672) hb)
     have n3_ := Aside0.mk (below_step hB_ hb)
     clear BK668 BK669 BK672 HB
     have BK668 := n0_
     have BK669 := n1_
     have BK672 := n2_
     have HB := n3_
     clear n0_ n1_ n2_ n3_
     (try clear hb)
     (try clear hb2)
     (try clear hk)
     (try clear hi)
     refine hK.out _ _ ⟨bc_, bc_, bc_, bc_, bc_, bc_, bc_, bc_, bc_, bc_⟩ (fun hHeld => ?_)
     clear hK K
     refine norm_ (a' := ?_) ?_ ?_
     rotate_left
     ·
      show Act.put _ (some 20) _ = _
      simp only [Act.put, List.setIfInBounds_toArray, List.set_cons_zero, List.set_cons_succ, i64_w, i32_w]
      rfl
     refine pure_ (i := 4) (N := some 21) (v := ?_) (a' := ?_) (bm 15 31) rfl rfl (any_of HT_.out (by kernel_rfl)) (fun _ _ _ h => h) (Or.inl ⟨by rfl, ?_⟩) ?_ ?_
     rotate_left
     ·
      intro w'
      go_simp
      with_reducible rfl
     rotate_left
     ·
      simp only [Act.put, List.setIfInBounds_toArray, List.set_cons_zero, List.set_cons_succ, i64_w, i32_w]
      rfl
     refine pure_ (i := 5) (N := some 22) (v := ?_) (a' := ?_) (bm 15 63) rfl rfl (any_of HT_.out (by kernel_rfl)) (fun _ _ _ h => h) (Or.inl ⟨by rfl, ?_⟩) ?_ ?_
     rotate_left
     ·
      intro w'
      go_simp
      with_reducible rfl
     rotate_left
     ·
      simp only [Act.put, List.setIfInBounds_toArray, List.set_cons_zero, List.set_cons_succ, i64_w, i32_w]
      rfl
     refine take_ (i := 6) (N := some 23) (v := ?_) (a' := ?_) (bm 15 127) rfl rfl (take_ofW HT_.out HW_.out (by kernel_rfl)) (fun _ _ _ h => h) (Or.inl ⟨by rfl, ?_⟩) hHeld ?_ ?_
     rotate_left
     ·
      rintro w' ⟨s0, s1, s2, s3, s4, s5, s6, s7, s8, s9⟩
      go_simp
      with_reducible rfl
     rotate_left
     ·
      simp only [Act.put, List.setIfInBounds_toArray, List.set_cons_zero, List.set_cons_succ, i64_w, i32_w]
      rfl
     refine one_ (i := 7) (N := some 24) (bm 15 255) rfl rfl (one_of HT_.out (by kernel_rfl)) (by decide) (fun K hK => ?_)
     refine goes_ Tryd.func26 (by kernel_rfl) rfl #[.agg #[.int .i64 t660, .int .i64 t661, .int .i64 t662, .int .i64 t663]] (by rfl) rfl rfl ma_ ?_
     with_reducible refine (spec_SegOk.calls t660 t661 t662 t663 true _ A22.out).mono ?_
     rintro e w28 ⟨rfl, hb⟩
     refine ⟨_, rfl, ?_⟩
     have n0_ := Aside0.mk (ub_ (g := gb668) hb)
     have n1_ := Aside0.mk (ub_ (g := gb669) hb)
     have n2_ := Aside0.mk (ub_ (g := gb672) hb)
     have n3_ := Aside0.mk (below_step hB_ hb)
     clear BK668 BK669 BK672 HB
     have BK668 := n0_
     have BK669 := n1_
     have BK672 := n2_
     have HB := n3_
     clear n0_ n1_ n2_ n3_
     (try clear hb)
     (try clear hb2)
     (try clear hk)
     (try clear hi)
     refine hK.out _ _ ⟨bc_, bc_, bc_, bc_, bc_, bc_, bc_, bc_, bc_, bc_⟩ (fun hHeld => ?_)
     clear hK K
     refine norm_ (a' := ?_) ?_ ?_
     rotate_left
     ·
      show Act.put _ (some 24) _ = _
      simp only [Act.put, List.setIfInBounds_toArray, List.set_cons_zero, List.set_cons_succ, i64_w, i32_w]
      rfl
     refine pure_ (i := 8) (N := some 25) (v := ?_) (a' := ?_) (bm 15 511) rfl rfl (any_of HT_.out (by kernel_rfl)) (fun _ _ _ h => h) (Or.inl ⟨by rfl, ?_⟩) ?_ ?_
     rotate_left
     ·
      intro w'
      go_simp
      with_reducible rfl
     rotate_left
     ·
      simp only [Act.put, List.setIfInBounds_toArray, List.set_cons_zero, List.set_cons_succ, i64_w, i32_w]
      rfl
     refine pure_ (i := 9) (N := some 26) (v := ?_) (a' := ?_) (bm 15 1023) rfl rfl (any_of HT_.out (by kernel_rfl)) (fun _ _ _ h => h) (Or.inl ⟨by rfl, ?_⟩) ?_ ?_
     rotate_left
     ·
      intro w'
      go_simp
      with_reducible rfl
     rotate_left
     ·
      simp only [Act.put, List.setIfInBounds_toArray, List.set_cons_zero, List.set_cons_succ, i64_w, i32_w]
      rfl
     refine pure_ (i := 10) (N := some 27) (v := ?_) (a' := ?_) (bm 15 2047) rfl rfl (any_of HT_.out (by kernel_rfl)) (fun _ _ _ h => h) (Or.inl ⟨by rfl, ?_⟩) ?_ ?_
     rotate_left
     ·
      intro w'
      go_simp
      with_reducible rfl
     rotate_left
     ·
      simp only [Act.put, List.setIfInBounds_toArray, List.set_cons_zero, List.set_cons_succ, i64_w, i32_w]
      rfl
     refine take_ (i := 11) (N := some 28) (v := ?_) (a' := ?_) (bm 15 4095) rfl rfl (take_ofW HT_.out HW_.out (by kernel_rfl)) (fun _ _ _ h => h) (Or.inl ⟨by rfl, ?_⟩) hHeld ?_ ?_
     rotate_left
     ·
      rintro w' ⟨s0, s1, s2, s3, s4, s5, s6, s7, s8, s9⟩
      go_simp
      with_reducible rfl
     rotate_left
     ·
      simp only [Act.put, List.setIfInBounds_toArray, List.set_cons_zero, List.set_cons_succ, i64_w, i32_w]
      rfl
     refine one_ (i := 12) (N := some 29) (bm 15 8191) rfl rfl (one_of HT_.out (by kernel_rfl)) (by decide) (fun K hK => ?_)
     refine goes_ Tryd.func26 (by kernel_rfl) rfl #[.agg #[.int .i64 t664, .int .i64 t665, .int .i64 t666, .int .i64 t667]] (by rfl) rfl rfl ma_ ?_
     with_reducible refine (spec_SegOk.calls t664 t665 t666 t667 t676 _ A24.out).mono ?_
     rintro e w29 ⟨rfl, hb⟩
     refine ⟨_, rfl, ?_⟩
     have n0_ := Aside0.mk (ub_ (g := gb668) hb)
     have n1_ := Aside0.mk (ub_ (g := gb669) hb)
     have n2_ := Aside0.mk (ub_ (g := gb672) hb)
     have n3_ := Aside0.mk (below_step hB_ hb)
     clear BK668 BK669 BK672 HB
     have BK668 := n0_
     have BK669 := n1_
     have BK672 := n2_
     have HB := n3_
     clear n0_ n1_ n2_ n3_
     (try clear hb)
     (try clear hb2)
     (try clear hk)
     (try clear hi)
     refine hK.out _ _ ⟨bc_, bc_, bc_, bc_, bc_, bc_, bc_, bc_, bc_, bc_⟩ (fun hHeld => ?_)
     clear hK K
     refine norm_ (a' := ?_) ?_ ?_
     rotate_left
     ·
      show Act.put _ (some 29) _ = _
      simp only [Act.put, List.setIfInBounds_toArray, List.set_cons_zero, List.set_cons_succ, i64_w, i32_w]
      rfl
     refine pure_ (i := 13) (N := some 30) (v := ?_) (a' := ?_) (bm 15 16383) rfl rfl (any_of HT_.out (by kernel_rfl)) (fun _ _ _ h => h) (Or.inl ⟨by rfl, ?_⟩) ?_ ?_
     rotate_left
     ·
      intro w'
      go_simp
      with_reducible rfl
     rotate_left
     ·
      simp only [Act.put, List.setIfInBounds_toArray, List.set_cons_zero, List.set_cons_succ, i64_w, i32_w]
      rfl
     refine pure_ (i := 14) (N := some 31) (v := ?_) (a' := ?_) (bm 15 32767) rfl rfl (any_of HT_.out (by kernel_rfl)) (fun _ _ _ h => h) (Or.inl ⟨by rfl, ?_⟩) ?_ ?_
     rotate_left
     ·
      intro w'
      go_simp
      with_reducible rfl
     rotate_left
     ·
      simp only [Act.put, List.setIfInBounds_toArray, List.set_cons_zero, List.set_cons_succ, i64_w, i32_w]
      rfl
     refine done_ (done_of HT_.out (by kernel_rfl)) ?_
     try go_wp2
     go_meet
     case rel => exact ⟨_, (!t676), (by first | rfl | (simp; done) | (simp [*]; done)), H', ⟨by first | omega | exact Nat.le_refl _⟩, ⟨uq_⟩, ⟨uq_⟩, ⟨uq_⟩, ⟨hB_⟩⟩
    ·
     replace c23 := Bool.eq_false_iff.mpr c23
     subst c23
     have H1 : (laws_FnMeetApart.j0 k true t660 t661 t662 t663 t664 t665 t666 t667 t670 t671) = some r := by rw [if_neg (show ¬ (false = true) by decide)] at H; exact H
     clear H
     have H := H1
     clear H1
     have H' := Aside0.mk H
     clear H
     try go_wp2
     have n0_ : Aside0 (((w13.setCell ⟨gb672, 0, none⟩ (.int .i64 t670)).setCell ⟨gb672, 1, none⟩ (.int .i64 t671)).heap[gb668]? = some (.cells #[.int .i64 t660, .int .i64 t661, .int .i64 t662, .int .i64 t663] 40 (0, 0))) := ⟨by (with_reducible repeat (first | refine blk_drewN ?_ _ | refine blk_drew ?_ | refine blk_alloc ?_ _)); refine blk_far ?_ NB668_672.out _; (with_reducible repeat (first | refine blk_drewN ?_ _ | refine blk_drew ?_ | refine blk_alloc ?_ _)); refine blk_far ?_ NB668_672.out _; (with_reducible repeat (first | refine blk_drewN ?_ _ | refine blk_drew ?_ | refine blk_alloc ?_ _)); exact BK668.out⟩
     have n1_ : Aside0 (((w13.setCell ⟨gb672, 0, none⟩ (.int .i64 t670)).setCell ⟨gb672, 1, none⟩ (.int .i64 t671)).heap[gb669]? = some (.cells #[.int .i64 t664, .int .i64 t665, .int .i64 t666, .int .i64 t667] 40 (0, 0))) := ⟨by (with_reducible repeat (first | refine blk_drewN ?_ _ | refine blk_drew ?_ | refine blk_alloc ?_ _)); refine blk_far ?_ NB669_672.out _; (with_reducible repeat (first | refine blk_drewN ?_ _ | refine blk_drew ?_ | refine blk_alloc ?_ _)); refine blk_far ?_ NB669_672.out _; (with_reducible repeat (first | refine blk_drewN ?_ _ | refine blk_drew ?_ | refine blk_alloc ?_ _)); exact BK669.out⟩
     have n2_ : Aside0 (((w13.setCell ⟨gb672, 0, none⟩ (.int .i64 t670)).setCell ⟨gb672, 1, none⟩ (.int .i64 t671)).heap[gb672]? = some (.cells #[.int .i64 t670, .int .i64 t671] 25 (0, 0))) := ⟨by (with_reducible repeat (first | refine blk_drewN ?_ _ | refine blk_drew ?_ | refine blk_alloc ?_ _)); refine blk_put (cs := #[.int .i64 t670, .int .i64 0]) ?_ 1 _ rfl; (with_reducible repeat (first | refine blk_drewN ?_ _ | refine blk_drew ?_ | refine blk_alloc ?_ _)); refine blk_put (cs := #[.int .i64 0, .int .i64 0]) ?_ 0 _ rfl; (with_reducible repeat (first | refine blk_drewN ?_ _ | refine blk_drew ?_ | refine blk_alloc ?_ _)); exact BK672.out⟩
     have n3_ : Aside0 (Below w.heap.size w ((w13.setCell ⟨gb672, 0, none⟩ (.int .i64 t670)).setCell ⟨gb672, 1, none⟩ (.int .i64 t671))) := ⟨hB_⟩
     (try clear BK668)
     (try clear BK669)
     (try clear BK672)
     (try clear HB)
     generalize ((w13.setCell ⟨gb672, 0, none⟩ (.int .i64 t670)).setCell ⟨gb672, 1, none⟩ (.int .i64 t671)) = w30 at n0_ n1_ n2_ n3_ ⊢
     have BK668 := n0_
     have BK669 := n1_
     have BK672 := n2_
     have HB := n3_
     clear n0_ n1_ n2_ n3_
     have n0_ := Aside0.mk (blk_drew BK668.out)
     have n1_ := Aside0.mk (blk_drew BK669.out)
     have n2_ := Aside0.mk (blk_drew BK672.out)
     have n3_ := Aside0.mk (below_drew1 HB.out)
     clear BK668 BK669 BK672 HB
     have BK668 := n0_
     have BK669 := n1_
     have BK672 := n2_
     have HB := n3_
     clear n0_ n1_ n2_ n3_
     refine start_ (n := 15) (S := fun w' => w'.cell? ⟨gb672, 0, none⟩ = some (.int .i64 t670) ∧ w'.cell? ⟨gb672, 1, none⟩ = some (.int .i64 t671) ∧ w'.cell? ⟨gb668, 0, none⟩ = some (.int .i64 t660) ∧ w'.cell? ⟨gb668, 1, none⟩ = some (.int .i64 t661) ∧ w'.cell? ⟨gb668, 2, none⟩ = some (.int .i64 t662) ∧ w'.cell? ⟨gb668, 3, none⟩ = some (.int .i64 t663) ∧ w'.cell? ⟨gb669, 0, none⟩ = some (.int .i64 t664) ∧ w'.cell? ⟨gb669, 1, none⟩ = some (.int .i64 t665) ∧ w'.cell? ⟨gb669, 2, none⟩ = some (.int .i64 t666) ∧ w'.cell? ⟨gb669, 3, none⟩ = some (.int .i64 t667)) (ds := []) #[false, false, false, false, false, false, false, false, false, false, false, false, false, false, false] (by kernel_rfl) rfl rfl ⟨bc_, bc_, bc_, bc_, bc_, bc_, bc_, bc_, bc_, bc_⟩ (fun hHeld => ?_); refine with_tabW laws_FnMeetApart.tab5 laws_FnMeetApart.bits5 (fun HT_ HW_ => ?_)
     generalize w30.drew = w31 at BK668 BK669 BK672 HB hHeld ⊢
     refine take_ (i := 0) (N := some 17) (v := ?_) (a' := ?_) (bm 15 1) rfl rfl (take_ofW HT_.out HW_.out (by kernel_rfl)) (fun _ _ _ h => h) (Or.inl ⟨by rfl, ?_⟩) hHeld ?_ ?_
     rotate_left
     ·
      rintro w' ⟨s0, s1, s2, s3, s4, s5, s6, s7, s8, s9⟩
      go_simp
      with_reducible rfl
     rotate_left
     ·
      simp only [Act.put, List.setIfInBounds_toArray, List.set_cons_zero, List.set_cons_succ, i64_w, i32_w]
      rfl
     refine take_ (i := 1) (N := some 18) (v := ?_) (a' := ?_) (bm 15 3) rfl rfl (take_ofW HT_.out HW_.out (by kernel_rfl)) (fun _ _ _ h => h) (Or.inl ⟨by rfl, ?_⟩) hHeld ?_ ?_
     rotate_left
     ·
      rintro w' ⟨s0, s1, s2, s3, s4, s5, s6, s7, s8, s9⟩
      go_simp
      with_reducible rfl
     rotate_left
     ·
      simp only [Act.put, List.setIfInBounds_toArray, List.set_cons_zero, List.set_cons_succ, i64_w, i32_w]
      rfl
     refine take_ (i := 2) (N := some 19) (v := ?_) (a' := ?_) (bm 15 7) rfl rfl (take_ofW HT_.out HW_.out (by kernel_rfl)) (fun _ _ _ h => h) (Or.inl ⟨by rfl, ?_⟩) hHeld ?_ ?_
     rotate_left
     ·
      rintro w' ⟨s0, s1, s2, s3, s4, s5, s6, s7, s8, s9⟩
      go_simp
      with_reducible rfl
     rotate_left
     ·
      simp only [Act.put, List.setIfInBounds_toArray, List.set_cons_zero, List.set_cons_succ, i64_w, i32_w]
      rfl
     refine one_ (i := 3) (N := some 20) (bm 15 15) rfl rfl (one_of HT_.out (by kernel_rfl)) (by decide) (fun K hK => ?_)
     refine goes_ Tryd.func31 (by kernel_rfl) rfl #[.agg #[.int .i64 t660, .int .i64 t661, .int .i64 t662, .int .i64 t663], .agg #[.int .i64 t664, .int .i64 t665, .int .i64 t666, .int .i64 t667]] (by rfl) rfl rfl ma_ ?_
     with_reducible refine (spec_SegApart.calls k t660 t661 t662 t663 t664 t665 t666 t667 t673 t674 _ A17.out).mono ?_
     rintro e w32 ⟨rfl, hb⟩
     refine ⟨_, rfl, ?_⟩
     have n0_ := Aside0.mk (ub_ (g := gb668) hb)
     have n1_ := Aside0.mk (ub_ (g := gb669) hb)
     have n2_ := Aside0.mk (ub_ (g := gb672) hb)
     have n3_ := Aside0.mk (below_step hB_ hb)
     clear BK668 BK669 BK672 HB
     have BK668 := n0_
     have BK669 := n1_
     have BK672 := n2_
     have HB := n3_
     clear n0_ n1_ n2_ n3_
     (try clear hb)
     (try clear hb2)
     (try clear hk)
     (try clear hi)
     refine hK.out _ _ ⟨bc_, bc_, bc_, bc_, bc_, bc_, bc_, bc_, bc_, bc_⟩ (fun hHeld => ?_)
     clear hK K
     refine norm_ (a' := ?_) ?_ ?_
     rotate_left
     ·
      show Act.put _ (some 20) _ = _
      simp only [Act.put, List.setIfInBounds_toArray, List.set_cons_zero, List.set_cons_succ, i64_w, i32_w]
      rfl
     refine pure_ (i := 4) (N := some 21) (v := ?_) (a' := ?_) (bm 15 31) rfl rfl (any_of HT_.out (by kernel_rfl)) (fun _ _ _ h => h) (Or.inl ⟨by rfl, ?_⟩) ?_ ?_
     rotate_left
     ·
      intro w'
      go_simp
      with_reducible rfl
     rotate_left
     ·
      simp only [Act.put, List.setIfInBounds_toArray, List.set_cons_zero, List.set_cons_succ, i64_w, i32_w]
      rfl
     refine pure_ (i := 5) (N := some 22) (v := ?_) (a' := ?_) (bm 15 63) rfl rfl (any_of HT_.out (by kernel_rfl)) (fun _ _ _ h => h) (Or.inl ⟨by rfl, ?_⟩) ?_ ?_
     rotate_left
     ·
      intro w'
      go_simp
      with_reducible rfl
     rotate_left
     ·
      simp only [Act.put, List.setIfInBounds_toArray, List.set_cons_zero, List.set_cons_succ, i64_w, i32_w]
      rfl
     refine take_ (i := 6) (N := some 23) (v := ?_) (a' := ?_) (bm 15 127) rfl rfl (take_ofW HT_.out HW_.out (by kernel_rfl)) (fun _ _ _ h => h) (Or.inl ⟨by rfl, ?_⟩) hHeld ?_ ?_
     rotate_left
     ·
      rintro w' ⟨s0, s1, s2, s3, s4, s5, s6, s7, s8, s9⟩
      go_simp
      with_reducible rfl
     rotate_left
     ·
      simp only [Act.put, List.setIfInBounds_toArray, List.set_cons_zero, List.set_cons_succ, i64_w, i32_w]
      rfl
     refine one_ (i := 7) (N := some 24) (bm 15 255) rfl rfl (one_of HT_.out (by kernel_rfl)) (by decide) (fun K hK => ?_)
     refine goes_ Tryd.func26 (by kernel_rfl) rfl #[.agg #[.int .i64 t660, .int .i64 t661, .int .i64 t662, .int .i64 t663]] (by rfl) rfl rfl ma_ ?_
     with_reducible refine (spec_SegOk.calls t660 t661 t662 t663 false _ A22.out).mono ?_
     rintro e w33 ⟨rfl, hb⟩
     refine ⟨_, rfl, ?_⟩
     have n0_ := Aside0.mk (ub_ (g := gb668) hb)
     have n1_ := Aside0.mk (ub_ (g := gb669) hb)
     have n2_ := Aside0.mk (ub_ (g := gb672) hb)
     have n3_ := Aside0.mk (below_step hB_ hb)
     clear BK668 BK669 BK672 HB
     have BK668 := n0_
     have BK669 := n1_
     have BK672 := n2_
     have HB := n3_
     clear n0_ n1_ n2_ n3_
     (try clear hb)
     (try clear hb2)
     (try clear hk)
     (try clear hi)
     refine hK.out _ _ ⟨bc_, bc_, bc_, bc_, bc_, bc_, bc_, bc_, bc_, bc_⟩ (fun hHeld => ?_)
     clear hK K
     refine norm_ (a' := ?_) ?_ ?_
     rotate_left
     ·
      show Act.put _ (some 24) _ = _
      simp only [Act.put, List.setIfInBounds_toArray, List.set_cons_zero, List.set_cons_succ, i64_w, i32_w]
      rfl
     refine pure_ (i := 8) (N := some 25) (v := ?_) (a' := ?_) (bm 15 511) rfl rfl (any_of HT_.out (by kernel_rfl)) (fun _ _ _ h => h) (Or.inl ⟨by rfl, ?_⟩) ?_ ?_
     rotate_left
     ·
      intro w'
      go_simp
      with_reducible rfl
     rotate_left
     ·
      simp only [Act.put, List.setIfInBounds_toArray, List.set_cons_zero, List.set_cons_succ, i64_w, i32_w]
      rfl
     refine pure_ (i := 9) (N := some 26) (v := ?_) (a' := ?_) (bm 15 1023) rfl rfl (any_of HT_.out (by kernel_rfl)) (fun _ _ _ h => h) (Or.inl ⟨by rfl, ?_⟩) ?_ ?_
     rotate_left
     ·
      intro w'
      go_simp
      with_reducible rfl
     rotate_left
     ·
      simp only [Act.put, List.setIfInBounds_toArray, List.set_cons_zero, List.set_cons_succ, i64_w, i32_w]
      rfl
     refine pure_ (i := 10) (N := some 27) (v := ?_) (a' := ?_) (bm 15 2047) rfl rfl (any_of HT_.out (by kernel_rfl)) (fun _ _ _ h => h) (Or.inl ⟨by rfl, ?_⟩) ?_ ?_
     rotate_left
     ·
      intro w'
      go_simp
      with_reducible rfl
     rotate_left
     ·
      simp only [Act.put, List.setIfInBounds_toArray, List.set_cons_zero, List.set_cons_succ, i64_w, i32_w]
      rfl
     refine pure_ (i := 11) (N := some 28) (v := undef) (a' := ?_) (bm 15 4095) rfl rfl (any_of HT_.out (by kernel_rfl)) (fun _ _ _ h => h) (Or.inr ⟨by rfl, rfl⟩) ?_ ?_
     rotate_left
     ·
      simp only [Act.put, List.setIfInBounds_toArray, List.set_cons_zero, List.set_cons_succ, i64_w, i32_w]
      rfl
     refine pure_ (i := 12) (N := some 29) (v := undef) (a' := ?_) (bm 15 8191) rfl rfl (any_of HT_.out (by kernel_rfl)) (fun _ _ _ h => h) (Or.inr ⟨by rfl, rfl⟩) ?_ ?_
     rotate_left
     ·
      simp only [Act.put, List.setIfInBounds_toArray, List.set_cons_zero, List.set_cons_succ, i64_w, i32_w]
      rfl
     refine pure_ (i := 13) (N := some 30) (v := undef) (a' := ?_) (bm 15 16383) rfl rfl (any_of HT_.out (by kernel_rfl)) (fun _ _ _ h => h) (Or.inr ⟨by rfl, rfl⟩) ?_ ?_
     rotate_left
     ·
      simp only [Act.put, List.setIfInBounds_toArray, List.set_cons_zero, List.set_cons_succ, i64_w, i32_w]
      rfl
     refine pure_ (i := 14) (N := some 31) (v := ?_) (a' := ?_) (bm 15 32767) rfl rfl (any_of HT_.out (by kernel_rfl)) (fun _ _ _ h => h) (Or.inl ⟨by rfl, ?_⟩) ?_ ?_
     rotate_left
     ·
      intro w'
      go_simp
      with_reducible rfl
     rotate_left
     ·
      simp only [Act.put, List.setIfInBounds_toArray, List.set_cons_zero, List.set_cons_succ, i64_w, i32_w]
      rfl
     refine done_ (done_of HT_.out (by kernel_rfl)) ?_
     try go_wp2
     go_meet
     case rel => exact ⟨_, (true), (by first | rfl | (simp; done) | (simp [*]; done)), H', ⟨by first | omega | exact Nat.le_refl _⟩, ⟨uq_⟩, ⟨uq_⟩, ⟨uq_⟩, ⟨hB_⟩⟩
  case rest =>
   clear HC5
   try clear c1
   try clear c2
   try clear p2
   try clear c3
   try clear c18
   try clear c18b0
   try clear c23
   try clear c26
   try clear c31
   obtain ⟨kq, x31_4, rfl, HA, HJ4, BK668, BK669, BK672, HB⟩ := hcut
   cases kq with
   | zero => exact absurd HA.out (by simp [laws_FnMeetApart.j0])
   | succ kj4 =>
    have H := HA.out
    clear HA
    simp only [laws_FnMeetApart.j0] at H
    by_cases c34 : x31_4 = true
    ·
     subst c34
     have H1 : ((spec_SegApart.f kj4 t660 t661 t662 t663 t664 t665 t666 t667).bind fun bt677 => (some (t670 == bt677.1 && (t671 == bt677.2)))) = some r := by rw [if_pos rfl] at H; exact H
     clear H
     have H := H1
     clear H1
     replace H := Option.bind_eq_some_iff.mp H
     obtain ⟨⟨t677, t678⟩, A350, H⟩ := H
     replace H : (some (t670 == t677 && (t671 == t678))) = some r := H
     have A35 := Aside0.mk A350
     clear A350
     obtain rfl := Option.some.inj H
     try go_wp2
     have n0_ := Aside0.mk (blk_drew BK668.out)
     have n1_ := Aside0.mk (blk_drew BK669.out)
     have n2_ := Aside0.mk (blk_drew BK672.out)
     have n3_ := Aside0.mk (below_drew1 HB.out)
     clear BK668 BK669 BK672 HB
     have BK668 := n0_
     have BK669 := n1_
     have BK672 := n2_
     have HB := n3_
     clear n0_ n1_ n2_ n3_
     refine start_ (n := 6) (S := fun w' => w'.cell? ⟨gb672, 0, none⟩ = some (.int .i64 t670) ∧ w'.cell? ⟨gb672, 1, none⟩ = some (.int .i64 t671) ∧ w'.cell? ⟨gb668, 0, none⟩ = some (.int .i64 t660) ∧ w'.cell? ⟨gb668, 1, none⟩ = some (.int .i64 t661) ∧ w'.cell? ⟨gb668, 2, none⟩ = some (.int .i64 t662) ∧ w'.cell? ⟨gb668, 3, none⟩ = some (.int .i64 t663) ∧ w'.cell? ⟨gb669, 0, none⟩ = some (.int .i64 t664) ∧ w'.cell? ⟨gb669, 1, none⟩ = some (.int .i64 t665) ∧ w'.cell? ⟨gb669, 2, none⟩ = some (.int .i64 t666) ∧ w'.cell? ⟨gb669, 3, none⟩ = some (.int .i64 t667)) (ds := []) #[false, false, false, false, false, false] (by kernel_rfl) rfl rfl ⟨bc_, bc_, bc_, bc_, bc_, bc_, bc_, bc_, bc_, bc_⟩ (fun hHeld => ?_)
     generalize wc.drew = w36 at BK668 BK669 BK672 HB hHeld ⊢
     refine take_ (i := 0) (N := some 32) (v := ?_) (a' := ?_) (bm 6 1) rfl rfl (by kernel_rfl) (fun _ _ _ h => h) (Or.inl ⟨by rfl, ?_⟩) hHeld ?_ ?_
     rotate_left
     ·
      rintro w' ⟨s0, s1, s2, s3, s4, s5, s6, s7, s8, s9⟩
      go_simp
      with_reducible rfl
     rotate_left
     ·
      simp only [Act.put, List.setIfInBounds_toArray, List.set_cons_zero, List.set_cons_succ, i64_w, i32_w]
      rfl
     refine take_ (i := 1) (N := some 33) (v := ?_) (a' := ?_) (bm 6 3) rfl rfl (by kernel_rfl) (fun _ _ _ h => h) (Or.inl ⟨by rfl, ?_⟩) hHeld ?_ ?_
     rotate_left
     ·
      rintro w' ⟨s0, s1, s2, s3, s4, s5, s6, s7, s8, s9⟩
      go_simp
      with_reducible rfl
     rotate_left
     ·
      simp only [Act.put, List.setIfInBounds_toArray, List.set_cons_zero, List.set_cons_succ, i64_w, i32_w]
      rfl
     refine take_ (i := 2) (N := some 34) (v := ?_) (a' := ?_) (bm 6 7) rfl rfl (by kernel_rfl) (fun _ _ _ h => h) (Or.inl ⟨by rfl, ?_⟩) hHeld ?_ ?_
     rotate_left
     ·
      rintro w' ⟨s0, s1, s2, s3, s4, s5, s6, s7, s8, s9⟩
      go_simp
      with_reducible rfl
     rotate_left
     ·
      simp only [Act.put, List.setIfInBounds_toArray, List.set_cons_zero, List.set_cons_succ, i64_w, i32_w]
      rfl
     refine one_ (i := 3) (N := some 35) (bm 6 15) rfl rfl (by kernel_rfl) (by decide) (fun K hK => ?_)
     refine goes_ Tryd.func31 (by kernel_rfl) rfl #[.agg #[.int .i64 t660, .int .i64 t661, .int .i64 t662, .int .i64 t663], .agg #[.int .i64 t664, .int .i64 t665, .int .i64 t666, .int .i64 t667]] (by rfl) rfl rfl ma_ ?_
     with_reducible refine (spec_SegApart.calls kj4 t660 t661 t662 t663 t664 t665 t666 t667 t677 t678 _ A35.out).mono ?_
     rintro e w37 ⟨rfl, hb⟩
     refine ⟨_, rfl, ?_⟩
     have n0_ := Aside0.mk (ub_ (g := gb668) hb)
     have n1_ := Aside0.mk (ub_ (g := gb669) hb)
     have n2_ := Aside0.mk (ub_ (g := gb672) hb)
     have n3_ := Aside0.mk (below_step hB_ hb)
     clear BK668 BK669 BK672 HB
     have BK668 := n0_
     have BK669 := n1_
     have BK672 := n2_
     have HB := n3_
     clear n0_ n1_ n2_ n3_
     (try clear hb)
     (try clear hb2)
     (try clear hk)
     (try clear hi)
     refine hK.out _ _ ⟨bc_, bc_, bc_, bc_, bc_, bc_, bc_, bc_, bc_, bc_⟩ (fun hHeld => ?_)
     clear hK K
     refine norm_ (a' := ?_) ?_ ?_
     rotate_left
     ·
      show Act.put _ (some 35) _ = _
      simp only [Act.put, List.setIfInBounds_toArray, List.set_cons_zero, List.set_cons_succ, i64_w, i32_w]
      rfl
     refine pure_ (i := 4) (N := some 36) (v := ?_) (a' := ?_) (bm 6 31) rfl rfl (by kernel_rfl) (fun _ _ _ h => h) (Or.inl ⟨by rfl, ?_⟩) ?_ ?_
     rotate_left
     ·
      intro w'
      go_simp
      with_reducible rfl
     rotate_left
     ·
      simp only [Act.put, List.setIfInBounds_toArray, List.set_cons_zero, List.set_cons_succ, i64_w, i32_w]
      rfl
     refine pure_ (i := 5) (N := some 2) (v := ?_) (a' := ?_) (bm 6 63) rfl rfl (by kernel_rfl) (fun _ _ _ h => h) (Or.inl ⟨by rfl, ?_⟩) ?_ ?_
     rotate_left
     ·
      intro w'
      go_simp
      with_reducible rfl
     rotate_left
     ·
      simp only [Act.put, List.setIfInBounds_toArray, List.set_cons_zero, List.set_cons_succ, i64_w, i32_w]
      rfl
     refine done_ (by kernel_rfl) ?_
     try go_wp2
     go_ret
     exact ⟨by first | rfl | (simp [errW_none, errW_some] <;> rfl) | (simp [*, errW_none, errW_some] <;> rfl), hB_⟩
    ·
     replace c34 := Bool.eq_false_iff.mpr c34
     subst c34
     have H1 : ((laws_luZero.f t670 t671).bind fun t679 => ((impl_SegMeet.f kj4 t660 t661 t662 t663 t664 t665 t666 t667).bind fun t680 => (if (t679 == t680) = true then ((impl_SegApart.f t664 t665 t666 t667 t660 t661 t662 t663).bind fun bt681 => (if (bt681.1 == t670 && (bt681.2 == t671)) = true then ((laws_luSeg.f t660 t661 t662 t663 false).bind fun bt683 => ((laws_luSeg.f t664 t665 t666 t667 false).bind fun bt687 => ((impl_SegApart.f bt683.1 bt683.2.1 bt683.2.2.1 bt683.2.2.2 bt687.1 bt687.2.1 bt687.2.2.1 bt687.2.2.2).bind fun bt691 => (if (bt691.1 == t670 && (bt691.2 == t671)) = true then ((laws_luSeg.f t660 t661 t662 t663 true).bind fun bt693 => ((laws_luSeg.f t664 t665 t666 t667 true).bind fun bt697 => ((impl_SegApart.f bt693.1 bt693.2.1 bt693.2.2.1 bt693.2.2.2 bt697.1 bt697.2.1 bt697.2.2.1 bt697.2.2.2).bind fun bt701 => (if (bt701.1 == t670 && (bt701.2 == t671)) = true then ((impl_FracOk.f t670 t671).bind fun t703 => (some t703)) else (some false))))) else (some false))))) else (some false))) else (some false)))) = some r := by rw [if_neg (show ¬ (false = true) by decide)] at H; exact H
     clear H
     have H := H1
     clear H1
     replace H := Option.bind_eq_some_iff.mp H
     obtain ⟨t679, A380, H⟩ := H
     replace H : ((impl_SegMeet.f kj4 t660 t661 t662 t663 t664 t665 t666 t667).bind fun t680 => (if (t679 == t680) = true then ((impl_SegApart.f t664 t665 t666 t667 t660 t661 t662 t663).bind fun bt681 => (if (bt681.1 == t670 && (bt681.2 == t671)) = true then ((laws_luSeg.f t660 t661 t662 t663 false).bind fun bt683 => ((laws_luSeg.f t664 t665 t666 t667 false).bind fun bt687 => ((impl_SegApart.f bt683.1 bt683.2.1 bt683.2.2.1 bt683.2.2.2 bt687.1 bt687.2.1 bt687.2.2.1 bt687.2.2.2).bind fun bt691 => (if (bt691.1 == t670 && (bt691.2 == t671)) = true then ((laws_luSeg.f t660 t661 t662 t663 true).bind fun bt693 => ((laws_luSeg.f t664 t665 t666 t667 true).bind fun bt697 => ((impl_SegApart.f bt693.1 bt693.2.1 bt693.2.2.1 bt693.2.2.2 bt697.1 bt697.2.1 bt697.2.2.1 bt697.2.2.2).bind fun bt701 => (if (bt701.1 == t670 && (bt701.2 == t671)) = true then ((impl_FracOk.f t670 t671).bind fun t703 => (some t703)) else (some false))))) else (some false))))) else (some false))) else (some false))) = some r := H
     have A38 := Aside0.mk A380
     clear A380
     replace H := Option.bind_eq_some_iff.mp H
     obtain ⟨t680, A390, H⟩ := H
     replace H : (if (t679 == t680) = true then ((impl_SegApart.f t664 t665 t666 t667 t660 t661 t662 t663).bind fun bt681 => (if (bt681.1 == t670 && (bt681.2 == t671)) = true then ((laws_luSeg.f t660 t661 t662 t663 false).bind fun bt683 => ((laws_luSeg.f t664 t665 t666 t667 false).bind fun bt687 => ((impl_SegApart.f bt683.1 bt683.2.1 bt683.2.2.1 bt683.2.2.2 bt687.1 bt687.2.1 bt687.2.2.1 bt687.2.2.2).bind fun bt691 => (if (bt691.1 == t670 && (bt691.2 == t671)) = true then ((laws_luSeg.f t660 t661 t662 t663 true).bind fun bt693 => ((laws_luSeg.f t664 t665 t666 t667 true).bind fun bt697 => ((impl_SegApart.f bt693.1 bt693.2.1 bt693.2.2.1 bt693.2.2.2 bt697.1 bt697.2.1 bt697.2.2.1 bt697.2.2.2).bind fun bt701 => (if (bt701.1 == t670 && (bt701.2 == t671)) = true then ((impl_FracOk.f t670 t671).bind fun t703 => (some t703)) else (some false))))) else (some false))))) else (some false))) else (some false)) = some r := H
     have A39 := Aside0.mk A390
     clear A390
     by_cases c40 : (t679 == t680) = true
     ·
      rw [if_pos c40] at H
      have c40b0 : (t679 == t680) = true := c40
      (try (have c40b1 : decide (t679 = t680) = true := by simpa using c40))
      (try (have c40b2 : (t679 == t680) = true := by simpa using c40))
      clear c40
      replace H := Option.bind_eq_some_iff.mp H
      obtain ⟨⟨t681, t682⟩, A410, H⟩ := H
      replace H : (if (t681 == t670 && (t682 == t671)) = true then ((laws_luSeg.f t660 t661 t662 t663 false).bind fun bt683 => ((laws_luSeg.f t664 t665 t666 t667 false).bind fun bt687 => ((impl_SegApart.f bt683.1 bt683.2.1 bt683.2.2.1 bt683.2.2.2 bt687.1 bt687.2.1 bt687.2.2.1 bt687.2.2.2).bind fun bt691 => (if (bt691.1 == t670 && (bt691.2 == t671)) = true then ((laws_luSeg.f t660 t661 t662 t663 true).bind fun bt693 => ((laws_luSeg.f t664 t665 t666 t667 true).bind fun bt697 => ((impl_SegApart.f bt693.1 bt693.2.1 bt693.2.2.1 bt693.2.2.2 bt697.1 bt697.2.1 bt697.2.2.1 bt697.2.2.2).bind fun bt701 => (if (bt701.1 == t670 && (bt701.2 == t671)) = true then ((impl_FracOk.f t670 t671).bind fun t703 => (some t703)) else (some false))))) else (some false))))) else (some false)) = some r := H
      have A41 := Aside0.mk A410
      clear A410
      by_cases c42 : (t681 == t670 && (t682 == t671)) = true
      ·
       rw [if_pos c42] at H
       have c42b0 : (t681 == t670 && (t682 == t671)) = true := c42
       (try (have c42b1 : decide (t681 = t670 && (t682 == t671)) = true := by simpa using c42))
       (try (have c42b2 : (t681 == t670 && (t682 == t671)) = true := by simpa using c42))
       clear c42
       replace H := Option.bind_eq_some_iff.mp H
       obtain ⟨⟨t683, t684, t685, t686⟩, A430, H⟩ := H
       replace H : ((laws_luSeg.f t664 t665 t666 t667 false).bind fun bt687 => ((impl_SegApart.f t683 t684 t685 t686 bt687.1 bt687.2.1 bt687.2.2.1 bt687.2.2.2).bind fun bt691 => (if (bt691.1 == t670 && (bt691.2 == t671)) = true then ((laws_luSeg.f t660 t661 t662 t663 true).bind fun bt693 => ((laws_luSeg.f t664 t665 t666 t667 true).bind fun bt697 => ((impl_SegApart.f bt693.1 bt693.2.1 bt693.2.2.1 bt693.2.2.2 bt697.1 bt697.2.1 bt697.2.2.1 bt697.2.2.2).bind fun bt701 => (if (bt701.1 == t670 && (bt701.2 == t671)) = true then ((impl_FracOk.f t670 t671).bind fun t703 => (some t703)) else (some false))))) else (some false)))) = some r := H
       have A43 := Aside0.mk A430
       clear A430
       replace H := Option.bind_eq_some_iff.mp H
       obtain ⟨⟨t687, t688, t689, t690⟩, A440, H⟩ := H
       replace H : ((impl_SegApart.f t683 t684 t685 t686 t687 t688 t689 t690).bind fun bt691 => (if (bt691.1 == t670 && (bt691.2 == t671)) = true then ((laws_luSeg.f t660 t661 t662 t663 true).bind fun bt693 => ((laws_luSeg.f t664 t665 t666 t667 true).bind fun bt697 => ((impl_SegApart.f bt693.1 bt693.2.1 bt693.2.2.1 bt693.2.2.2 bt697.1 bt697.2.1 bt697.2.2.1 bt697.2.2.2).bind fun bt701 => (if (bt701.1 == t670 && (bt701.2 == t671)) = true then ((impl_FracOk.f t670 t671).bind fun t703 => (some t703)) else (some false))))) else (some false))) = some r := H
       have A44 := Aside0.mk A440
       clear A440
       replace H := Option.bind_eq_some_iff.mp H
       obtain ⟨⟨t691, t692⟩, A450, H⟩ := H
       replace H : (if (t691 == t670 && (t692 == t671)) = true then ((laws_luSeg.f t660 t661 t662 t663 true).bind fun bt693 => ((laws_luSeg.f t664 t665 t666 t667 true).bind fun bt697 => ((impl_SegApart.f bt693.1 bt693.2.1 bt693.2.2.1 bt693.2.2.2 bt697.1 bt697.2.1 bt697.2.2.1 bt697.2.2.2).bind fun bt701 => (if (bt701.1 == t670 && (bt701.2 == t671)) = true then ((impl_FracOk.f t670 t671).bind fun t703 => (some t703)) else (some false))))) else (some false)) = some r := H
       have A45 := Aside0.mk A450
       clear A450
       by_cases c46 : (t691 == t670 && (t692 == t671)) = true
       ·
        rw [if_pos c46] at H
        have c46b0 : (t691 == t670 && (t692 == t671)) = true := c46
        (try (have c46b1 : decide (t691 = t670 && (t692 == t671)) = true := by simpa using c46))
        (try (have c46b2 : (t691 == t670 && (t692 == t671)) = true := by simpa using c46))
        clear c46
        replace H := Option.bind_eq_some_iff.mp H
        obtain ⟨⟨t693, t694, t695, t696⟩, A470, H⟩ := H
        replace H : ((laws_luSeg.f t664 t665 t666 t667 true).bind fun bt697 => ((impl_SegApart.f t693 t694 t695 t696 bt697.1 bt697.2.1 bt697.2.2.1 bt697.2.2.2).bind fun bt701 => (if (bt701.1 == t670 && (bt701.2 == t671)) = true then ((impl_FracOk.f t670 t671).bind fun t703 => (some t703)) else (some false)))) = some r := H
        have A47 := Aside0.mk A470
        clear A470
        replace H := Option.bind_eq_some_iff.mp H
        obtain ⟨⟨t697, t698, t699, t700⟩, A480, H⟩ := H
        replace H : ((impl_SegApart.f t693 t694 t695 t696 t697 t698 t699 t700).bind fun bt701 => (if (bt701.1 == t670 && (bt701.2 == t671)) = true then ((impl_FracOk.f t670 t671).bind fun t703 => (some t703)) else (some false))) = some r := H
        have A48 := Aside0.mk A480
        clear A480
        replace H := Option.bind_eq_some_iff.mp H
        obtain ⟨⟨t701, t702⟩, A490, H⟩ := H
        replace H : (if (t701 == t670 && (t702 == t671)) = true then ((impl_FracOk.f t670 t671).bind fun t703 => (some t703)) else (some false)) = some r := H
        have A49 := Aside0.mk A490
        clear A490
        by_cases c50 : (t701 == t670 && (t702 == t671)) = true
        ·
         rw [if_pos c50] at H
         have c50b0 : (t701 == t670 && (t702 == t671)) = true := c50
         (try (have c50b1 : decide (t701 = t670 && (t702 == t671)) = true := by simpa using c50))
         (try (have c50b2 : (t701 == t670 && (t702 == t671)) = true := by simpa using c50))
         clear c50
         replace H := Option.bind_eq_some_iff.mp H
         obtain ⟨t703, A510, H⟩ := H
         replace H : (some t703) = some r := H
         have A51 := Aside0.mk A510
         clear A510
         obtain rfl := Option.some.inj H
         try go_wp2
         have n0_ := Aside0.mk (blk_drew BK668.out)
         have n1_ := Aside0.mk (blk_drew BK669.out)
         have n2_ := Aside0.mk (blk_drew BK672.out)
         have n3_ := Aside0.mk (below_drew1 HB.out)
         clear BK668 BK669 BK672 HB
         have BK668 := n0_
         have BK669 := n1_
         have BK672 := n2_
         have HB := n3_
         clear n0_ n1_ n2_ n3_
         refine start_ (n := 36) (S := fun w' => w'.cell? ⟨gb672, 0, none⟩ = some (.int .i64 t670) ∧ w'.cell? ⟨gb672, 1, none⟩ = some (.int .i64 t671) ∧ w'.cell? ⟨gb668, 0, none⟩ = some (.int .i64 t660) ∧ w'.cell? ⟨gb668, 1, none⟩ = some (.int .i64 t661) ∧ w'.cell? ⟨gb668, 2, none⟩ = some (.int .i64 t662) ∧ w'.cell? ⟨gb668, 3, none⟩ = some (.int .i64 t663) ∧ w'.cell? ⟨gb669, 0, none⟩ = some (.int .i64 t664) ∧ w'.cell? ⟨gb669, 1, none⟩ = some (.int .i64 t665) ∧ w'.cell? ⟨gb669, 2, none⟩ = some (.int .i64 t666) ∧ w'.cell? ⟨gb669, 3, none⟩ = some (.int .i64 t667)) (ds := []) #[false, false, false, false, false, false, false, false, false, false, false, false, false, false, false, false, false, false, false, false, false, false, false, false, false, false, false, false, false, false, false, false, false, false, false, false] (by kernel_rfl) rfl rfl ⟨bc_, bc_, bc_, bc_, bc_, bc_, bc_, bc_, bc_, bc_⟩ (fun hHeld => ?_); refine with_tabW laws_FnMeetApart.tab7 laws_FnMeetApart.bits7 (fun HT_ HW_ => ?_)
         generalize wc.drew = w52 at BK668 BK669 BK672 HB hHeld ⊢
         refine take_ (i := 0) (N := some 37) (v := ?_) (a' := ?_) (bm 36 1) rfl rfl (take_ofW HT_.out HW_.out (by kernel_rfl)) (fun _ _ _ h => h) (Or.inl ⟨by rfl, ?_⟩) hHeld ?_ ?_
         rotate_left
         ·
          rintro w' ⟨s0, s1, s2, s3, s4, s5, s6, s7, s8, s9⟩
          go_simp
          with_reducible rfl
         rotate_left
         ·
          simp only [Act.put, List.setIfInBounds_toArray, List.set_cons_zero, List.set_cons_succ, i64_w, i32_w]
          rfl
         refine take_ (i := 2) (N := some 39) (v := ?_) (a' := ?_) (bm 36 5) rfl rfl (take_ofW HT_.out HW_.out (by kernel_rfl)) (fun _ _ _ h => h) (Or.inl ⟨by rfl, ?_⟩) hHeld ?_ ?_
         rotate_left
         ·
          rintro w' ⟨s0, s1, s2, s3, s4, s5, s6, s7, s8, s9⟩
          go_simp
          with_reducible rfl
         rotate_left
         ·
          simp only [Act.put, List.setIfInBounds_toArray, List.set_cons_zero, List.set_cons_succ, i64_w, i32_w]
          rfl
         refine take_ (i := 3) (N := some 40) (v := ?_) (a' := ?_) (bm 36 13) rfl rfl (take_ofW HT_.out HW_.out (by kernel_rfl)) (fun _ _ _ h => h) (Or.inl ⟨by rfl, ?_⟩) hHeld ?_ ?_
         rotate_left
         ·
          rintro w' ⟨s0, s1, s2, s3, s4, s5, s6, s7, s8, s9⟩
          go_simp
          with_reducible rfl
         rotate_left
         ·
          simp only [Act.put, List.setIfInBounds_toArray, List.set_cons_zero, List.set_cons_succ, i64_w, i32_w]
          rfl
         refine one_ (i := 1) (N := some 38) (bm 36 15) rfl rfl (one_of HT_.out (by kernel_rfl)) (by decide) (fun K hK => ?_)
         refine goes_ Tryd.func38 (by kernel_rfl) rfl #[.agg #[.int .i64 t670, .int .i64 t671]] (by rfl) rfl rfl ma_ ?_
         with_reducible refine (laws_luZero.calls t670 t671 t679 _ A38.out).mono ?_
         rintro e w53 ⟨rfl, hb⟩
         refine ⟨_, rfl, ?_⟩
         have n0_ := Aside0.mk (ub_ (g := gb668) hb)
         have n1_ := Aside0.mk (ub_ (g := gb669) hb)
         have n2_ := Aside0.mk (ub_ (g := gb672) hb)
         have n3_ := Aside0.mk (below_step hB_ hb)
         clear BK668 BK669 BK672 HB
         have BK668 := n0_
         have BK669 := n1_
         have BK672 := n2_
         have HB := n3_
         clear n0_ n1_ n2_ n3_
         (try clear hb)
         (try clear hb2)
         (try clear hk)
         (try clear hi)
         refine hK.out _ _ ⟨bc_, bc_, bc_, bc_, bc_, bc_, bc_, bc_, bc_, bc_⟩ (fun hHeld => ?_)
         clear hK K
         refine norm_ (a' := ?_) ?_ ?_
         rotate_left
         ·
          show Act.put _ (some 38) _ = _
          simp only [Act.put, List.setIfInBounds_toArray, List.set_cons_zero, List.set_cons_succ, i64_w, i32_w]
          rfl
         refine one_ (i := 4) (N := some 41) (bm 36 31) rfl rfl (one_of HT_.out (by kernel_rfl)) (by decide) (fun K hK => ?_)
         refine goes_ Tryd.func37 (by kernel_rfl) rfl #[.agg #[.int .i64 t660, .int .i64 t661, .int .i64 t662, .int .i64 t663], .agg #[.int .i64 t664, .int .i64 t665, .int .i64 t666, .int .i64 t667]] (by rfl) rfl rfl ma_ ?_
         with_reducible refine (impl_SegMeet.calls kj4 t660 t661 t662 t663 t664 t665 t666 t667 t680 _ A39.out).mono ?_
         rintro e w54 ⟨rfl, hb⟩
         refine ⟨_, rfl, ?_⟩
         have n0_ := Aside0.mk (ub_ (g := gb668) hb)
         have n1_ := Aside0.mk (ub_ (g := gb669) hb)
         have n2_ := Aside0.mk (ub_ (g := gb672) hb)
         have n3_ := Aside0.mk (below_step hB_ hb)
         clear BK668 BK669 BK672 HB
         have BK668 := n0_
         have BK669 := n1_
         have BK672 := n2_
         have HB := n3_
         clear n0_ n1_ n2_ n3_
         (try clear hb)
         (try clear hb2)
         (try clear hk)
         (try clear hi)
         refine hK.out _ _ ⟨bc_, bc_, bc_, bc_, bc_, bc_, bc_, bc_, bc_, bc_⟩ (fun hHeld => ?_)
         clear hK K
         refine norm_ (a' := ?_) ?_ ?_
         rotate_left
         ·
          show Act.put _ (some 41) _ = _
          simp only [Act.put, List.setIfInBounds_toArray, List.set_cons_zero, List.set_cons_succ, i64_w, i32_w]
          rfl
         refine pure_ (i := 5) (N := some 42) (v := ?_) (a' := ?_) (bm 36 63) rfl rfl (any_of HT_.out (by kernel_rfl)) (fun _ _ _ h => h) (Or.inl ⟨by rfl, ?_⟩) ?_ ?_
         rotate_left
         ·
          intro w'
          go_simp
          with_reducible rfl
         rotate_left
         ·
          simp only [Act.put, List.setIfInBounds_toArray, List.set_cons_zero, List.set_cons_succ, i64_w, i32_w]
          rfl
         refine pure_ (i := 6) (N := some 43) (v := ?_) (a' := ?_) (bm 36 127) rfl rfl (any_of HT_.out (by kernel_rfl)) (fun _ _ _ h => h) (Or.inl ⟨by rfl, ?_⟩) ?_ ?_
         rotate_left
         ·
          intro w'
          go_simp
          with_reducible rfl
         rotate_left
         ·
          simp only [Act.put, List.setIfInBounds_toArray, List.set_cons_zero, List.set_cons_succ, i64_w, i32_w]
          rfl
         refine take_ (i := 7) (N := some 44) (v := ?_) (a' := ?_) (bm 36 255) rfl rfl (take_ofW HT_.out HW_.out (by kernel_rfl)) (fun _ _ _ h => h) (Or.inl ⟨by rfl, ?_⟩) hHeld ?_ ?_
         rotate_left
         ·
          rintro w' ⟨s0, s1, s2, s3, s4, s5, s6, s7, s8, s9⟩
          go_simp
          with_reducible rfl
         rotate_left
         ·
          simp only [Act.put, List.setIfInBounds_toArray, List.set_cons_zero, List.set_cons_succ, i64_w, i32_w]
          rfl
         refine take_ (i := 8) (N := some 45) (v := ?_) (a' := ?_) (bm 36 511) rfl rfl (take_ofW HT_.out HW_.out (by kernel_rfl)) (fun _ _ _ h => h) (Or.inl ⟨by rfl, ?_⟩) hHeld ?_ ?_
         rotate_left
         ·
          rintro w' ⟨s0, s1, s2, s3, s4, s5, s6, s7, s8, s9⟩
          go_simp
          with_reducible rfl
         rotate_left
         ·
          simp only [Act.put, List.setIfInBounds_toArray, List.set_cons_zero, List.set_cons_succ, i64_w, i32_w]
          rfl
         refine take_ (i := 10) (N := some 47) (v := ?_) (a' := ?_) (bm 36 1535) rfl rfl (take_ofW HT_.out HW_.out (by kernel_rfl)) (fun _ _ _ h => h) (Or.inl ⟨by rfl, ?_⟩) hHeld ?_ ?_
         rotate_left
         ·
          rintro w' ⟨s0, s1, s2, s3, s4, s5, s6, s7, s8, s9⟩
          go_simp
          with_reducible rfl
         rotate_left
         ·
          simp only [Act.put, List.setIfInBounds_toArray, List.set_cons_zero, List.set_cons_succ, i64_w, i32_w]
          rfl
         refine one_ (i := 9) (N := some 46) (bm 36 2047) rfl rfl (one_of HT_.out (by kernel_rfl)) (by decide) (fun K hK => ?_)
         refine goes_ Tryd.func33 (by kernel_rfl) rfl #[.agg #[.int .i64 t664, .int .i64 t665, .int .i64 t666, .int .i64 t667], .agg #[.int .i64 t660, .int .i64 t661, .int .i64 t662, .int .i64 t663]] (by rfl) rfl rfl ma_ ?_
         with_reducible refine (impl_SegApart.calls t664 t665 t666 t667 t660 t661 t662 t663 t681 t682 _ ?side1 A41.out).mono ?_
         (case side1 => exact ErrW.below HE.out hB_)
         rintro e w55 ⟨rfl, hb⟩
         refine ⟨_, rfl, ?_⟩
         have n0_ := Aside0.mk (ub_ (g := gb668) hb)
         have n1_ := Aside0.mk (ub_ (g := gb669) hb)
         have n2_ := Aside0.mk (ub_ (g := gb672) hb)
         have n3_ := Aside0.mk (below_step hB_ hb)
         clear BK668 BK669 BK672 HB
         have BK668 := n0_
         have BK669 := n1_
         have BK672 := n2_
         have HB := n3_
         clear n0_ n1_ n2_ n3_
         (try clear hb)
         (try clear hb2)
         (try clear hk)
         (try clear hi)
         refine hK.out _ _ ⟨bc_, bc_, bc_, bc_, bc_, bc_, bc_, bc_, bc_, bc_⟩ (fun hHeld => ?_)
         clear hK K
         refine norm_ (a' := ?_) ?_ ?_
         rotate_left
         ·
          show Act.put _ (some 46) _ = _
          simp only [Act.put, List.setIfInBounds_toArray, List.set_cons_zero, List.set_cons_succ, i64_w, i32_w]
          rfl
         refine pure_ (i := 11) (N := some 48) (v := ?_) (a' := ?_) (bm 36 4095) rfl rfl (any_of HT_.out (by kernel_rfl)) (fun _ _ _ h => h) (Or.inl ⟨by rfl, ?_⟩) ?_ ?_
         rotate_left
         ·
          intro w'
          go_simp
          with_reducible rfl
         rotate_left
         ·
          simp only [Act.put, List.setIfInBounds_toArray, List.set_cons_zero, List.set_cons_succ, i64_w, i32_w]
          rfl
         refine pure_ (i := 12) (N := some 49) (v := ?_) (a' := ?_) (bm 36 8191) rfl rfl (any_of HT_.out (by kernel_rfl)) (fun _ _ _ h => h) (Or.inl ⟨by rfl, ?_⟩) ?_ ?_
         rotate_left
         ·
          intro w'
          go_simp
          with_reducible rfl
         rotate_left
         ·
          simp only [Act.put, List.setIfInBounds_toArray, List.set_cons_zero, List.set_cons_succ, i64_w, i32_w]
          rfl
         refine pure_ (i := 13) (N := some 50) (v := ?_) (a' := ?_) (bm 36 16383) rfl rfl (any_of HT_.out (by kernel_rfl)) (fun _ _ _ h => h) (Or.inl ⟨by rfl, ?_⟩) ?_ ?_
         rotate_left
         ·
          intro w'
          go_simp
          with_reducible rfl
         rotate_left
         ·
          simp only [Act.put, List.setIfInBounds_toArray, List.set_cons_zero, List.set_cons_succ, i64_w, i32_w]
          rfl
         refine take_ (i := 14) (N := some 51) (v := ?_) (a' := ?_) (bm 36 32767) rfl rfl (take_ofW HT_.out HW_.out (by kernel_rfl)) (fun _ _ _ h => h) (Or.inl ⟨by rfl, ?_⟩) hHeld ?_ ?_
         rotate_left
         ·
          rintro w' ⟨s0, s1, s2, s3, s4, s5, s6, s7, s8, s9⟩
          go_simp
          with_reducible rfl
         rotate_left
         ·
          simp only [Act.put, List.setIfInBounds_toArray, List.set_cons_zero, List.set_cons_succ, i64_w, i32_w]
          rfl
         refine take_ (i := 16) (N := some 53) (v := ?_) (a' := ?_) (bm 36 98303) rfl rfl (take_ofW HT_.out HW_.out (by kernel_rfl)) (fun _ _ _ h => h) (Or.inl ⟨by rfl, ?_⟩) hHeld ?_ ?_
         rotate_left
         ·
          rintro w' ⟨s0, s1, s2, s3, s4, s5, s6, s7, s8, s9⟩
          go_simp
          with_reducible rfl
         rotate_left
         ·
          simp only [Act.put, List.setIfInBounds_toArray, List.set_cons_zero, List.set_cons_succ, i64_w, i32_w]
          rfl
         refine take_ (i := 19) (N := some 56) (v := ?_) (a' := ?_) (bm 36 622591) rfl rfl (take_ofW HT_.out HW_.out (by kernel_rfl)) (fun _ _ _ h => h) (Or.inl ⟨by rfl, ?_⟩) hHeld ?_ ?_
         rotate_left
         ·
          rintro w' ⟨s0, s1, s2, s3, s4, s5, s6, s7, s8, s9⟩
          go_simp
          with_reducible rfl
         rotate_left
         ·
          simp only [Act.put, List.setIfInBounds_toArray, List.set_cons_zero, List.set_cons_succ, i64_w, i32_w]
          rfl
         refine one_ (i := 15) (N := some 52) (bm 36 655359) rfl rfl (one_of HT_.out (by kernel_rfl)) (by decide) (fun K hK => ?_)
         refine goes_ Tryd.func39 (by kernel_rfl) rfl #[.agg #[.int .i64 t660, .int .i64 t661, .int .i64 t662, .int .i64 t663], .bool false] (by rfl) rfl rfl ma_ ?_
         with_reducible refine (laws_luSeg.calls t660 t661 t662 t663 false t683 t684 t685 t686 _ A43.out).mono ?_
         rintro e w56 ⟨rfl, hb⟩
         refine ⟨_, rfl, ?_⟩
         have n0_ := Aside0.mk (ub_ (g := gb668) hb)
         have n1_ := Aside0.mk (ub_ (g := gb669) hb)
         have n2_ := Aside0.mk (ub_ (g := gb672) hb)
         have n3_ := Aside0.mk (below_step hB_ hb)
         clear BK668 BK669 BK672 HB
         have BK668 := n0_
         have BK669 := n1_
         have BK672 := n2_
         have HB := n3_
         clear n0_ n1_ n2_ n3_
         (try clear hb)
         (try clear hb2)
         (try clear hk)
         (try clear hi)
         refine hK.out _ _ ⟨bc_, bc_, bc_, bc_, bc_, bc_, bc_, bc_, bc_, bc_⟩ (fun hHeld => ?_)
         clear hK K
         refine norm_ (a' := ?_) ?_ ?_
         rotate_left
         ·
          show Act.put _ (some 52) _ = _
          simp only [Act.put, List.setIfInBounds_toArray, List.set_cons_zero, List.set_cons_succ, i64_w, i32_w]
          rfl
         refine one_ (i := 17) (N := some 54) (bm 36 786431) rfl rfl (one_of HT_.out (by kernel_rfl)) (by decide) (fun K hK => ?_)
         refine goes_ Tryd.func39 (by kernel_rfl) rfl #[.agg #[.int .i64 t664, .int .i64 t665, .int .i64 t666, .int .i64 t667], .bool false] (by rfl) rfl rfl ma_ ?_
         with_reducible refine (laws_luSeg.calls t664 t665 t666 t667 false t687 t688 t689 t690 _ A44.out).mono ?_
         rintro e w57 ⟨rfl, hb⟩
         refine ⟨_, rfl, ?_⟩
         have n0_ := Aside0.mk (ub_ (g := gb668) hb)
         have n1_ := Aside0.mk (ub_ (g := gb669) hb)
         have n2_ := Aside0.mk (ub_ (g := gb672) hb)
         have n3_ := Aside0.mk (below_step hB_ hb)
         clear BK668 BK669 BK672 HB
         have BK668 := n0_
         have BK669 := n1_
         have BK672 := n2_
         have HB := n3_
         clear n0_ n1_ n2_ n3_
         (try clear hb)
         (try clear hb2)
         (try clear hk)
         (try clear hi)
         refine hK.out _ _ ⟨bc_, bc_, bc_, bc_, bc_, bc_, bc_, bc_, bc_, bc_⟩ (fun hHeld => ?_)
         clear hK K
         refine norm_ (a' := ?_) ?_ ?_
         rotate_left
         ·
          show Act.put _ (some 54) _ = _
          simp only [Act.put, List.setIfInBounds_toArray, List.set_cons_zero, List.set_cons_succ, i64_w, i32_w]
          rfl
         refine one_ (i := 18) (N := some 55) (bm 36 1048575) rfl rfl (one_of HT_.out (by kernel_rfl)) (by decide) (fun K hK => ?_)
         refine goes_ Tryd.func33 (by kernel_rfl) rfl #[.agg #[.int .i64 t683, .int .i64 t684, .int .i64 t685, .int .i64 t686], .agg #[.int .i64 t687, .int .i64 t688, .int .i64 t689, .int .i64 t690]] (by rfl) rfl rfl ma_ ?_
         with_reducible refine (impl_SegApart.calls t683 t684 t685 t686 t687 t688 t689 t690 t691 t692 _ ?side1 A45.out).mono ?_
         (case side1 => exact ErrW.below HE.out hB_)
         rintro e w58 ⟨rfl, hb⟩
         refine ⟨_, rfl, ?_⟩
         have n0_ := Aside0.mk (ub_ (g := gb668) hb)
         have n1_ := Aside0.mk (ub_ (g := gb669) hb)
         have n2_ := Aside0.mk (ub_ (g := gb672) hb)
         have n3_ := Aside0.mk (below_step hB_ hb)
         clear BK668 BK669 BK672 HB
         have BK668 := n0_
         have BK669 := n1_
         have BK672 := n2_
         have HB := n3_
         clear n0_ n1_ n2_ n3_
         (try clear hb)
         (try clear hb2)
         (try clear hk)
         (try clear hi)
         refine hK.out _ _ ⟨bc_, bc_, bc_, bc_, bc_, bc_, bc_, bc_, bc_, bc_⟩ (fun hHeld => ?_)
         clear hK K
         refine norm_ (a' := ?_) ?_ ?_
         rotate_left
         ·
          show Act.put _ (some 55) _ = _
          simp only [Act.put, List.setIfInBounds_toArray, List.set_cons_zero, List.set_cons_succ, i64_w, i32_w]
          rfl
         refine pure_ (i := 20) (N := some 57) (v := ?_) (a' := ?_) (bm 36 2097151) rfl rfl (any_of HT_.out (by kernel_rfl)) (fun _ _ _ h => h) (Or.inl ⟨by rfl, ?_⟩) ?_ ?_
         rotate_left
         ·
          intro w'
          go_simp
          with_reducible rfl
         rotate_left
         ·
          simp only [Act.put, List.setIfInBounds_toArray, List.set_cons_zero, List.set_cons_succ, i64_w, i32_w]
          rfl
         refine pure_ (i := 21) (N := some 58) (v := ?_) (a' := ?_) (bm 36 4194303) rfl rfl (any_of HT_.out (by kernel_rfl)) (fun _ _ _ h => h) (Or.inl ⟨by rfl, ?_⟩) ?_ ?_
         rotate_left
         ·
          intro w'
          go_simp
          with_reducible rfl
         rotate_left
         ·
          simp only [Act.put, List.setIfInBounds_toArray, List.set_cons_zero, List.set_cons_succ, i64_w, i32_w]
          rfl
         refine pure_ (i := 22) (N := some 59) (v := ?_) (a' := ?_) (bm 36 8388607) rfl rfl (any_of HT_.out (by kernel_rfl)) (fun _ _ _ h => h) (Or.inl ⟨by rfl, ?_⟩) ?_ ?_
         rotate_left
         ·
          intro w'
          go_simp
          with_reducible rfl
         rotate_left
         ·
          simp only [Act.put, List.setIfInBounds_toArray, List.set_cons_zero, List.set_cons_succ, i64_w, i32_w]
          rfl
         refine take_ (i := 23) (N := some 60) (v := ?_) (a' := ?_) (bm 36 16777215) rfl rfl (take_ofW HT_.out HW_.out (by kernel_rfl)) (fun _ _ _ h => h) (Or.inl ⟨by rfl, ?_⟩) hHeld ?_ ?_
         rotate_left
         ·
          rintro w' ⟨s0, s1, s2, s3, s4, s5, s6, s7, s8, s9⟩
          go_simp
          with_reducible rfl
         rotate_left
         ·
          simp only [Act.put, List.setIfInBounds_toArray, List.set_cons_zero, List.set_cons_succ, i64_w, i32_w]
          rfl
         refine take_ (i := 25) (N := some 62) (v := ?_) (a' := ?_) (bm 36 50331647) rfl rfl (take_ofW HT_.out HW_.out (by kernel_rfl)) (fun _ _ _ h => h) (Or.inl ⟨by rfl, ?_⟩) hHeld ?_ ?_
         rotate_left
         ·
          rintro w' ⟨s0, s1, s2, s3, s4, s5, s6, s7, s8, s9⟩
          go_simp
          with_reducible rfl
         rotate_left
         ·
          simp only [Act.put, List.setIfInBounds_toArray, List.set_cons_zero, List.set_cons_succ, i64_w, i32_w]
          rfl
         refine take_ (i := 28) (N := some 65) (v := ?_) (a' := ?_) (bm 36 318767103) rfl rfl (take_ofW HT_.out HW_.out (by kernel_rfl)) (fun _ _ _ h => h) (Or.inl ⟨by rfl, ?_⟩) hHeld ?_ ?_
         rotate_left
         ·
          rintro w' ⟨s0, s1, s2, s3, s4, s5, s6, s7, s8, s9⟩
          go_simp
          with_reducible rfl
         rotate_left
         ·
          simp only [Act.put, List.setIfInBounds_toArray, List.set_cons_zero, List.set_cons_succ, i64_w, i32_w]
          rfl
         refine one_ (i := 24) (N := some 61) (bm 36 335544319) rfl rfl (one_of HT_.out (by kernel_rfl)) (by decide) (fun K hK => ?_)
         refine goes_ Tryd.func39 (by kernel_rfl) rfl #[.agg #[.int .i64 t660, .int .i64 t661, .int .i64 t662, .int .i64 t663], .bool true] (by rfl) rfl rfl ma_ ?_
         with_reducible refine (laws_luSeg.calls t660 t661 t662 t663 true t693 t694 t695 t696 _ A47.out).mono ?_
         rintro e w59 ⟨rfl, hb⟩
         refine ⟨_, rfl, ?_⟩
         have n0_ := Aside0.mk (ub_ (g := gb668) hb)
         have n1_ := Aside0.mk (ub_ (g := gb669) hb)
         have n2_ := Aside0.mk (ub_ (g := gb672) hb)
         have n3_ := Aside0.mk (below_step hB_ hb)
         clear BK668 BK669 BK672 HB
         have BK668 := n0_
         have BK669 := n1_
         have BK672 := n2_
         have HB := n3_
         clear n0_ n1_ n2_ n3_
         (try clear hb)
         (try clear hb2)
         (try clear hk)
         (try clear hi)
         refine hK.out _ _ ⟨bc_, bc_, bc_, bc_, bc_, bc_, bc_, bc_, bc_, bc_⟩ (fun hHeld => ?_)
         clear hK K
         refine norm_ (a' := ?_) ?_ ?_
         rotate_left
         ·
          show Act.put _ (some 61) _ = _
          simp only [Act.put, List.setIfInBounds_toArray, List.set_cons_zero, List.set_cons_succ, i64_w, i32_w]
          rfl
         refine one_ (i := 26) (N := some 63) (bm 36 402653183) rfl rfl (one_of HT_.out (by kernel_rfl)) (by decide) (fun K hK => ?_)
         refine goes_ Tryd.func39 (by kernel_rfl) rfl #[.agg #[.int .i64 t664, .int .i64 t665, .int .i64 t666, .int .i64 t667], .bool true] (by rfl) rfl rfl ma_ ?_
         with_reducible refine (laws_luSeg.calls t664 t665 t666 t667 true t697 t698 t699 t700 _ A48.out).mono ?_
         rintro e w60 ⟨rfl, hb⟩
         refine ⟨_, rfl, ?_⟩
         have n0_ := Aside0.mk (ub_ (g := gb668) hb)
         have n1_ := Aside0.mk (ub_ (g := gb669) hb)
         have n2_ := Aside0.mk (ub_ (g := gb672) hb)
         have n3_ := Aside0.mk (below_step hB_ hb)
         clear BK668 BK669 BK672 HB
         have BK668 := n0_
         have BK669 := n1_
         have BK672 := n2_
         have HB := n3_
         clear n0_ n1_ n2_ n3_
         (try clear hb)
         (try clear hb2)
         (try clear hk)
         (try clear hi)
         refine hK.out _ _ ⟨bc_, bc_, bc_, bc_, bc_, bc_, bc_, bc_, bc_, bc_⟩ (fun hHeld => ?_)
         clear hK K
         refine norm_ (a' := ?_) ?_ ?_
         rotate_left
         ·
          show Act.put _ (some 63) _ = _
          simp only [Act.put, List.setIfInBounds_toArray, List.set_cons_zero, List.set_cons_succ, i64_w, i32_w]
          rfl
         refine one_ (i := 27) (N := some 64) (bm 36 536870911) rfl rfl (one_of HT_.out (by kernel_rfl)) (by decide) (fun K hK => ?_)
         refine goes_ Tryd.func33 (by kernel_rfl) rfl #[.agg #[.int .i64 t693, .int .i64 t694, .int .i64 t695, .int .i64 t696], .agg #[.int .i64 t697, .int .i64 t698, .int .i64 t699, .int .i64 t700]] (by rfl) rfl rfl ma_ ?_
         with_reducible refine (impl_SegApart.calls t693 t694 t695 t696 t697 t698 t699 t700 t701 t702 _ ?side1 A49.out).mono ?_
         (case side1 => exact ErrW.below HE.out hB_)
         rintro e w61 ⟨rfl, hb⟩
         refine ⟨_, rfl, ?_⟩
         have n0_ := Aside0.mk (ub_ (g := gb668) hb)
         have n1_ := Aside0.mk (ub_ (g := gb669) hb)
         have n2_ := Aside0.mk (ub_ (g := gb672) hb)
         have n3_ := Aside0.mk (below_step hB_ hb)
         clear BK668 BK669 BK672 HB
         have BK668 := n0_
         have BK669 := n1_
         have BK672 := n2_
         have HB := n3_
         clear n0_ n1_ n2_ n3_
         (try clear hb)
         (try clear hb2)
         (try clear hk)
         (try clear hi)
         refine hK.out _ _ ⟨bc_, bc_, bc_, bc_, bc_, bc_, bc_, bc_, bc_, bc_⟩ (fun hHeld => ?_)
         clear hK K
         refine norm_ (a' := ?_) ?_ ?_
         rotate_left
         ·
          show Act.put _ (some 64) _ = _
          simp only [Act.put, List.setIfInBounds_toArray, List.set_cons_zero, List.set_cons_succ, i64_w, i32_w]
          rfl
         refine pure_ (i := 29) (N := some 66) (v := ?_) (a' := ?_) (bm 36 1073741823) rfl rfl (any_of HT_.out (by kernel_rfl)) (fun _ _ _ h => h) (Or.inl ⟨by rfl, ?_⟩) ?_ ?_
         rotate_left
         ·
          intro w'
          go_simp
          with_reducible rfl
         rotate_left
         ·
          simp only [Act.put, List.setIfInBounds_toArray, List.set_cons_zero, List.set_cons_succ, i64_w, i32_w]
          rfl
         refine pure_ (i := 30) (N := some 67) (v := ?_) (a' := ?_) (bm 36 2147483647) rfl rfl (any_of HT_.out (by kernel_rfl)) (fun _ _ _ h => h) (Or.inl ⟨by rfl, ?_⟩) ?_ ?_
         rotate_left
         ·
          intro w'
          go_simp
          with_reducible rfl
         rotate_left
         ·
          simp only [Act.put, List.setIfInBounds_toArray, List.set_cons_zero, List.set_cons_succ, i64_w, i32_w]
          rfl
         refine pure_ (i := 31) (N := some 68) (v := ?_) (a' := ?_) (bm 36 4294967295) rfl rfl (any_of HT_.out (by kernel_rfl)) (fun _ _ _ h => h) (Or.inl ⟨by rfl, ?_⟩) ?_ ?_
         rotate_left
         ·
          intro w'
          go_simp
          with_reducible rfl
         rotate_left
         ·
          simp only [Act.put, List.setIfInBounds_toArray, List.set_cons_zero, List.set_cons_succ, i64_w, i32_w]
          rfl
         refine take_ (i := 32) (N := some 69) (v := ?_) (a' := ?_) (bm 36 8589934591) rfl rfl (take_ofW HT_.out HW_.out (by kernel_rfl)) (fun _ _ _ h => h) (Or.inl ⟨by rfl, ?_⟩) hHeld ?_ ?_
         rotate_left
         ·
          rintro w' ⟨s0, s1, s2, s3, s4, s5, s6, s7, s8, s9⟩
          go_simp
          with_reducible rfl
         rotate_left
         ·
          simp only [Act.put, List.setIfInBounds_toArray, List.set_cons_zero, List.set_cons_succ, i64_w, i32_w]
          rfl
         refine one_ (i := 33) (N := some 70) (bm 36 17179869183) rfl rfl (one_of HT_.out (by kernel_rfl)) (by decide) (fun K hK => ?_)
         refine goes_ Tryd.func19 (by kernel_rfl) rfl #[.agg #[.int .i64 t670, .int .i64 t671]] (by rfl) rfl rfl ma_ ?_
         with_reducible refine (impl_FracOk.calls t670 t671 t703 _ ?side1 A51.out).mono ?_
         (case side1 => exact ErrW.below HE.out hB_)
         rintro e w62 ⟨rfl, hb⟩
         refine ⟨_, rfl, ?_⟩
         have n0_ := Aside0.mk (ub_ (g := gb668) hb)
         have n1_ := Aside0.mk (ub_ (g := gb669) hb)
         have n2_ := Aside0.mk (ub_ (g := gb672) hb)
         have n3_ := Aside0.mk (below_step hB_ hb)
         clear BK668 BK669 BK672 HB
         have BK668 := n0_
         have BK669 := n1_
         have BK672 := n2_
         have HB := n3_
         clear n0_ n1_ n2_ n3_
         (try clear hb)
         (try clear hb2)
         (try clear hk)
         (try clear hi)
         refine hK.out _ _ ⟨bc_, bc_, bc_, bc_, bc_, bc_, bc_, bc_, bc_, bc_⟩ (fun hHeld => ?_)
         clear hK K
         refine norm_ (a' := ?_) ?_ ?_
         rotate_left
         ·
          show Act.put _ (some 70) _ = _
          simp only [Act.put, List.setIfInBounds_toArray, List.set_cons_zero, List.set_cons_succ, i64_w, i32_w]
          rfl
         refine pure_ (i := 34) (N := some 71) (v := ?_) (a' := ?_) (bm 36 34359738367) rfl rfl (any_of HT_.out (by kernel_rfl)) (fun _ _ _ h => h) (Or.inl ⟨by rfl, ?_⟩) ?_ ?_
         rotate_left
         ·
          intro w'
          go_simp
          with_reducible rfl
         rotate_left
         ·
          simp only [Act.put, List.setIfInBounds_toArray, List.set_cons_zero, List.set_cons_succ, i64_w, i32_w]
          rfl
         refine pure_ (i := 35) (N := some 2) (v := ?_) (a' := ?_) (bm 36 68719476735) rfl rfl (any_of HT_.out (by kernel_rfl)) (fun _ _ _ h => h) (Or.inl ⟨by rfl, ?_⟩) ?_ ?_
         rotate_left
         ·
          intro w'
          go_simp
          with_reducible rfl
         rotate_left
         ·
          simp only [Act.put, List.setIfInBounds_toArray, List.set_cons_zero, List.set_cons_succ, i64_w, i32_w]
          rfl
         refine done_ (done_of HT_.out (by kernel_rfl)) ?_
         try go_wp2
         go_ret
         exact ⟨by first | rfl | (simp [errW_none, errW_some] <;> rfl) | (simp [*, errW_none, errW_some] <;> rfl), hB_⟩
        ·
         rw [if_neg c50] at H
         have c50b0 : (t701 == t670 && (t702 == t671)) = false := by simpa using c50
         (try (have c50b1 : decide (t701 = t670 && (t702 == t671)) = false := by simpa using c50))
         (try (have c50b2 : (t701 == t670 && (t702 == t671)) = false := by simpa using c50))
         (try (have c50b3 : ¬ (t701 = t670 && (t702 == t671)) := by simpa using c50))
         clear c50
         obtain rfl := Option.some.inj H
         try go_wp2
         have n0_ := Aside0.mk (blk_drew BK668.out)
         have n1_ := Aside0.mk (blk_drew BK669.out)
         have n2_ := Aside0.mk (blk_drew BK672.out)
         have n3_ := Aside0.mk (below_drew1 HB.out)
         clear BK668 BK669 BK672 HB
         have BK668 := n0_
         have BK669 := n1_
         have BK672 := n2_
         have HB := n3_
         clear n0_ n1_ n2_ n3_
         refine start_ (n := 36) (S := fun w' => w'.cell? ⟨gb672, 0, none⟩ = some (.int .i64 t670) ∧ w'.cell? ⟨gb672, 1, none⟩ = some (.int .i64 t671) ∧ w'.cell? ⟨gb668, 0, none⟩ = some (.int .i64 t660) ∧ w'.cell? ⟨gb668, 1, none⟩ = some (.int .i64 t661) ∧ w'.cell? ⟨gb668, 2, none⟩ = some (.int .i64 t662) ∧ w'.cell? ⟨gb668, 3, none⟩ = some (.int .i64 t663) ∧ w'.cell? ⟨gb669, 0, none⟩ = some (.int .i64 t664) ∧ w'.cell? ⟨gb669, 1, none⟩ = some (.int .i64 t665) ∧ w'.cell? ⟨gb669, 2, none⟩ = some (.int .i64 t666) ∧ w'.cell? ⟨gb669, 3, none⟩ = some (.int .i64 t667)) (ds := []) #[false, false, false, false, false, false, false, false, false, false, false, false, false, false, false, false, false, false, false, false, false, false, false, false, false, false, false, false, false, false, false, false, false, false, false, false] (by kernel_rfl) rfl rfl ⟨bc_, bc_, bc_, bc_, bc_, bc_, bc_, bc_, bc_, bc_⟩ (fun hHeld => ?_); refine with_tabW laws_FnMeetApart.tab7 laws_FnMeetApart.bits7 (fun HT_ HW_ => ?_)
         generalize wc.drew = w63 at BK668 BK669 BK672 HB hHeld ⊢
         refine take_ (i := 0) (N := some 37) (v := ?_) (a' := ?_) (bm 36 1) rfl rfl (take_ofW HT_.out HW_.out (by kernel_rfl)) (fun _ _ _ h => h) (Or.inl ⟨by rfl, ?_⟩) hHeld ?_ ?_
         rotate_left
         ·
          rintro w' ⟨s0, s1, s2, s3, s4, s5, s6, s7, s8, s9⟩
          go_simp
          with_reducible rfl
         rotate_left
         ·
          simp only [Act.put, List.setIfInBounds_toArray, List.set_cons_zero, List.set_cons_succ, i64_w, i32_w]
          rfl
         refine take_ (i := 2) (N := some 39) (v := ?_) (a' := ?_) (bm 36 5) rfl rfl (take_ofW HT_.out HW_.out (by kernel_rfl)) (fun _ _ _ h => h) (Or.inl ⟨by rfl, ?_⟩) hHeld ?_ ?_
         rotate_left
         ·
          rintro w' ⟨s0, s1, s2, s3, s4, s5, s6, s7, s8, s9⟩
          go_simp
          with_reducible rfl
         rotate_left
         ·
          simp only [Act.put, List.setIfInBounds_toArray, List.set_cons_zero, List.set_cons_succ, i64_w, i32_w]
          rfl
         refine take_ (i := 3) (N := some 40) (v := ?_) (a' := ?_) (bm 36 13) rfl rfl (take_ofW HT_.out HW_.out (by kernel_rfl)) (fun _ _ _ h => h) (Or.inl ⟨by rfl, ?_⟩) hHeld ?_ ?_
         rotate_left
         ·
          rintro w' ⟨s0, s1, s2, s3, s4, s5, s6, s7, s8, s9⟩
          go_simp
          with_reducible rfl
         rotate_left
         ·
          simp only [Act.put, List.setIfInBounds_toArray, List.set_cons_zero, List.set_cons_succ, i64_w, i32_w]
          rfl
         refine one_ (i := 1) (N := some 38) (bm 36 15) rfl rfl (one_of HT_.out (by kernel_rfl)) (by decide) (fun K hK => ?_)
         refine goes_ Tryd.func38 (by kernel_rfl) rfl #[.agg #[.int .i64 t670, .int .i64 t671]] (by rfl) rfl rfl ma_ ?_
         with_reducible refine (laws_luZero.calls t670 t671 t679 _ A38.out).mono ?_
         rintro e w64 ⟨rfl, hb⟩
         refine ⟨_, rfl, ?_⟩
         have n0_ := Aside0.mk (ub_ (g := gb668) hb)
         have n1_ := Aside0.mk (ub_ (g := gb669) hb)
         have n2_ := Aside0.mk (ub_ (g := gb672) hb)
         have n3_ := Aside0.mk (below_step hB_ hb)
         clear BK668 BK669 BK672 HB
         have BK668 := n0_
         have BK669 := n1_
         have BK672 := n2_
         have HB := n3_
         clear n0_ n1_ n2_ n3_
         (try clear hb)
         (try clear hb2)
         (try clear hk)
         (try clear hi)
         refine hK.out _ _ ⟨bc_, bc_, bc_, bc_, bc_, bc_, bc_, bc_, bc_, bc_⟩ (fun hHeld => ?_)
         clear hK K
         refine norm_ (a' := ?_) ?_ ?_
         rotate_left
         ·
          show Act.put _ (some 38) _ = _
          simp only [Act.put, List.setIfInBounds_toArray, List.set_cons_zero, List.set_cons_succ, i64_w, i32_w]
          rfl
         refine one_ (i := 4) (N := some 41) (bm 36 31) rfl rfl (one_of HT_.out (by kernel_rfl)) (by decide) (fun K hK => ?_)
         refine goes_ Tryd.func37 (by kernel_rfl) rfl #[.agg #[.int .i64 t660, .int .i64 t661, .int .i64 t662, .int .i64 t663], .agg #[.int .i64 t664, .int .i64 t665, .int .i64 t666, .int .i64 t667]] (by rfl) rfl rfl ma_ ?_
         with_reducible refine (impl_SegMeet.calls kj4 t660 t661 t662 t663 t664 t665 t666 t667 t680 _ A39.out).mono ?_
         rintro e w65 ⟨rfl, hb⟩
         refine ⟨_, rfl, ?_⟩
         have n0_ := Aside0.mk (ub_ (g := gb668) hb)
         have n1_ := Aside0.mk (ub_ (g := gb669) hb)
         have n2_ := Aside0.mk (ub_ (g := gb672) hb)
         have n3_ := Aside0.mk (below_step hB_ hb)
         clear BK668 BK669 BK672 HB
         have BK668 := n0_
         have BK669 := n1_
         have BK672 := n2_
         have HB := n3_
         clear n0_ n1_ n2_ n3_
         (try clear hb)
         (try clear hb2)
         (try clear hk)
         (try clear hi)
         refine hK.out _ _ ⟨bc_, bc_, bc_, bc_, bc_, bc_, bc_, bc_, bc_, bc_⟩ (fun hHeld => ?_)
         clear hK K
         refine norm_ (a' := ?_) ?_ ?_
         rotate_left
         ·
          show Act.put _ (some 41) _ = _
          simp only [Act.put, List.setIfInBounds_toArray, List.set_cons_zero, List.set_cons_succ, i64_w, i32_w]
          rfl
         refine pure_ (i := 5) (N := some 42) (v := ?_) (a' := ?_) (bm 36 63) rfl rfl (any_of HT_.out (by kernel_rfl)) (fun _ _ _ h => h) (Or.inl ⟨by rfl, ?_⟩) ?_ ?_
         rotate_left
         ·
          intro w'
          go_simp
          with_reducible rfl
         rotate_left
         ·
          simp only [Act.put, List.setIfInBounds_toArray, List.set_cons_zero, List.set_cons_succ, i64_w, i32_w]
          rfl
         refine pure_ (i := 6) (N := some 43) (v := ?_) (a' := ?_) (bm 36 127) rfl rfl (any_of HT_.out (by kernel_rfl)) (fun _ _ _ h => h) (Or.inl ⟨by rfl, ?_⟩) ?_ ?_
         rotate_left
         ·
          intro w'
          go_simp
          with_reducible rfl
         rotate_left
         ·
          simp only [Act.put, List.setIfInBounds_toArray, List.set_cons_zero, List.set_cons_succ, i64_w, i32_w]
          rfl
         refine take_ (i := 7) (N := some 44) (v := ?_) (a' := ?_) (bm 36 255) rfl rfl (take_ofW HT_.out HW_.out (by kernel_rfl)) (fun _ _ _ h => h) (Or.inl ⟨by rfl, ?_⟩) hHeld ?_ ?_
         rotate_left
         ·
          rintro w' ⟨s0, s1, s2, s3, s4, s5, s6, s7, s8, s9⟩
          go_simp
          with_reducible rfl
         rotate_left
         ·
          simp only [Act.put, List.setIfInBounds_toArray, List.set_cons_zero, List.set_cons_succ, i64_w, i32_w]
          rfl
         refine take_ (i := 8) (N := some 45) (v := ?_) (a' := ?_) (bm 36 511) rfl rfl (take_ofW HT_.out HW_.out (by kernel_rfl)) (fun _ _ _ h => h) (Or.inl ⟨by rfl, ?_⟩) hHeld ?_ ?_
         rotate_left
         ·
          rintro w' ⟨s0, s1, s2, s3, s4, s5, s6, s7, s8, s9⟩
          go_simp
          with_reducible rfl
         rotate_left
         ·
          simp only [Act.put, List.setIfInBounds_toArray, List.set_cons_zero, List.set_cons_succ, i64_w, i32_w]
          rfl
         refine take_ (i := 10) (N := some 47) (v := ?_) (a' := ?_) (bm 36 1535) rfl rfl (take_ofW HT_.out HW_.out (by kernel_rfl)) (fun _ _ _ h => h) (Or.inl ⟨by rfl, ?_⟩) hHeld ?_ ?_
         rotate_left
         ·
          rintro w' ⟨s0, s1, s2, s3, s4, s5, s6, s7, s8, s9⟩
          go_simp
          with_reducible rfl
         rotate_left
         ·
          simp only [Act.put, List.setIfInBounds_toArray, List.set_cons_zero, List.set_cons_succ, i64_w, i32_w]
          rfl
         refine one_ (i := 9) (N := some 46) (bm 36 2047) rfl rfl (one_of HT_.out (by kernel_rfl)) (by decide) (fun K hK => ?_)
         refine goes_ Tryd.func33 (by kernel_rfl) rfl #[.agg #[.int .i64 t664, .int .i64 t665, .int .i64 t666, .int .i64 t667], .agg #[.int .i64 t660, .int .i64 t661, .int .i64 t662, .int .i64 t663]] (by rfl) rfl rfl ma_ ?_
         with_reducible refine (impl_SegApart.calls t664 t665 t666 t667 t660 t661 t662 t663 t681 t682 _ ?side1 A41.out).mono ?_
         (case side1 => exact ErrW.below HE.out hB_)
         rintro e w66 ⟨rfl, hb⟩
         refine ⟨_, rfl, ?_⟩
         have n0_ := Aside0.mk (ub_ (g := gb668) hb)
         have n1_ := Aside0.mk (ub_ (g := gb669) hb)
         have n2_ := Aside0.mk (ub_ (g := gb672) hb)
         have n3_ := Aside0.mk (below_step hB_ hb)
         clear BK668 BK669 BK672 HB
         have BK668 := n0_
         have BK669 := n1_
         have BK672 := n2_
         have HB := n3_
         clear n0_ n1_ n2_ n3_
         (try clear hb)
         (try clear hb2)
         (try clear hk)
         (try clear hi)
         refine hK.out _ _ ⟨bc_, bc_, bc_, bc_, bc_, bc_, bc_, bc_, bc_, bc_⟩ (fun hHeld => ?_)
         clear hK K
         refine norm_ (a' := ?_) ?_ ?_
         rotate_left
         ·
          show Act.put _ (some 46) _ = _
          simp only [Act.put, List.setIfInBounds_toArray, List.set_cons_zero, List.set_cons_succ, i64_w, i32_w]
          rfl
         refine pure_ (i := 11) (N := some 48) (v := ?_) (a' := ?_) (bm 36 4095) rfl rfl (any_of HT_.out (by kernel_rfl)) (fun _ _ _ h => h) (Or.inl ⟨by rfl, ?_⟩) ?_ ?_
         rotate_left
         ·
          intro w'
          go_simp
          with_reducible rfl
         rotate_left
         ·
          simp only [Act.put, List.setIfInBounds_toArray, List.set_cons_zero, List.set_cons_succ, i64_w, i32_w]
          rfl
         refine pure_ (i := 12) (N := some 49) (v := ?_) (a' := ?_) (bm 36 8191) rfl rfl (any_of HT_.out (by kernel_rfl)) (fun _ _ _ h => h) (Or.inl ⟨by rfl, ?_⟩) ?_ ?_
         rotate_left
         ·
          intro w'
          go_simp
          with_reducible rfl
         rotate_left
         ·
          simp only [Act.put, List.setIfInBounds_toArray, List.set_cons_zero, List.set_cons_succ, i64_w, i32_w]
          rfl
         refine pure_ (i := 13) (N := some 50) (v := ?_) (a' := ?_) (bm 36 16383) rfl rfl (any_of HT_.out (by kernel_rfl)) (fun _ _ _ h => h) (Or.inl ⟨by rfl, ?_⟩) ?_ ?_
         rotate_left
         ·
          intro w'
          go_simp
          with_reducible rfl
         rotate_left
         ·
          simp only [Act.put, List.setIfInBounds_toArray, List.set_cons_zero, List.set_cons_succ, i64_w, i32_w]
          rfl
         refine take_ (i := 14) (N := some 51) (v := ?_) (a' := ?_) (bm 36 32767) rfl rfl (take_ofW HT_.out HW_.out (by kernel_rfl)) (fun _ _ _ h => h) (Or.inl ⟨by rfl, ?_⟩) hHeld ?_ ?_
         rotate_left
         ·
          rintro w' ⟨s0, s1, s2, s3, s4, s5, s6, s7, s8, s9⟩
          go_simp
          with_reducible rfl
         rotate_left
         ·
          simp only [Act.put, List.setIfInBounds_toArray, List.set_cons_zero, List.set_cons_succ, i64_w, i32_w]
          rfl
         refine take_ (i := 16) (N := some 53) (v := ?_) (a' := ?_) (bm 36 98303) rfl rfl (take_ofW HT_.out HW_.out (by kernel_rfl)) (fun _ _ _ h => h) (Or.inl ⟨by rfl, ?_⟩) hHeld ?_ ?_
         rotate_left
         ·
          rintro w' ⟨s0, s1, s2, s3, s4, s5, s6, s7, s8, s9⟩
          go_simp
          with_reducible rfl
         rotate_left
         ·
          simp only [Act.put, List.setIfInBounds_toArray, List.set_cons_zero, List.set_cons_succ, i64_w, i32_w]
          rfl
         refine take_ (i := 19) (N := some 56) (v := ?_) (a' := ?_) (bm 36 622591) rfl rfl (take_ofW HT_.out HW_.out (by kernel_rfl)) (fun _ _ _ h => h) (Or.inl ⟨by rfl, ?_⟩) hHeld ?_ ?_
         rotate_left
         ·
          rintro w' ⟨s0, s1, s2, s3, s4, s5, s6, s7, s8, s9⟩
          go_simp
          with_reducible rfl
         rotate_left
         ·
          simp only [Act.put, List.setIfInBounds_toArray, List.set_cons_zero, List.set_cons_succ, i64_w, i32_w]
          rfl
         refine one_ (i := 15) (N := some 52) (bm 36 655359) rfl rfl (one_of HT_.out (by kernel_rfl)) (by decide) (fun K hK => ?_)
         refine goes_ Tryd.func39 (by kernel_rfl) rfl #[.agg #[.int .i64 t660, .int .i64 t661, .int .i64 t662, .int .i64 t663], .bool false] (by rfl) rfl rfl ma_ ?_
         with_reducible refine (laws_luSeg.calls t660 t661 t662 t663 false t683 t684 t685 t686 _ A43.out).mono ?_
         rintro e w67 ⟨rfl, hb⟩
         refine ⟨_, rfl, ?_⟩
         have n0_ := Aside0.mk (ub_ (g := gb668) hb)
         have n1_ := Aside0.mk (ub_ (g := gb669) hb)
         have n2_ := Aside0.mk (ub_ (g := gb672) hb)
         have n3_ := Aside0.mk (below_step hB_ hb)
         clear BK668 BK669 BK672 HB
         have BK668 := n0_
         have BK669 := n1_
         have BK672 := n2_
         have HB := n3_
         clear n0_ n1_ n2_ n3_
         (try clear hb)
         (try clear hb2)
         (try clear hk)
         (try clear hi)
         refine hK.out _ _ ⟨bc_, bc_, bc_, bc_, bc_, bc_, bc_, bc_, bc_, bc_⟩ (fun hHeld => ?_)
         clear hK K
         refine norm_ (a' := ?_) ?_ ?_
         rotate_left
         ·
          show Act.put _ (some 52) _ = _
          simp only [Act.put, List.setIfInBounds_toArray, List.set_cons_zero, List.set_cons_succ, i64_w, i32_w]
          rfl
         refine one_ (i := 17) (N := some 54) (bm 36 786431) rfl rfl (one_of HT_.out (by kernel_rfl)) (by decide) (fun K hK => ?_)
         refine goes_ Tryd.func39 (by kernel_rfl) rfl #[.agg #[.int .i64 t664, .int .i64 t665, .int .i64 t666, .int .i64 t667], .bool false] (by rfl) rfl rfl ma_ ?_
         with_reducible refine (laws_luSeg.calls t664 t665 t666 t667 false t687 t688 t689 t690 _ A44.out).mono ?_
         rintro e w68 ⟨rfl, hb⟩
         refine ⟨_, rfl, ?_⟩
         have n0_ := Aside0.mk (ub_ (g := gb668) hb)
         have n1_ := Aside0.mk (ub_ (g := gb669) hb)
         have n2_ := Aside0.mk (ub_ (g := gb672) hb)
         have n3_ := Aside0.mk (below_step hB_ hb)
         clear BK668 BK669 BK672 HB
         have BK668 := n0_
         have BK669 := n1_
         have BK672 := n2_
         have HB := n3_
         clear n0_ n1_ n2_ n3_
         (try clear hb)
         (try clear hb2)
         (try clear hk)
         (try clear hi)
         refine hK.out _ _ ⟨bc_, bc_, bc_, bc_, bc_, bc_, bc_, bc_, bc_, bc_⟩ (fun hHeld => ?_)
         clear hK K
         refine norm_ (a' := ?_) ?_ ?_
         rotate_left
         ·
          show Act.put _ (some 54) _ = _
          simp only [Act.put, List.setIfInBounds_toArray, List.set_cons_zero, List.set_cons_succ, i64_w, i32_w]
          rfl
         refine one_ (i := 18) (N := some 55) (bm 36 1048575) rfl rfl (one_of HT_.out (by kernel_rfl)) (by decide) (fun K hK => ?_)
         refine goes_ Tryd.func33 (by kernel_rfl) rfl #[.agg #[.int .i64 t683, .int .i64 t684, .int .i64 t685, .int .i64 t686], .agg #[.int .i64 t687, .int .i64 t688, .int .i64 t689, .int .i64 t690]] (by rfl) rfl rfl ma_ ?_
         with_reducible refine (impl_SegApart.calls t683 t684 t685 t686 t687 t688 t689 t690 t691 t692 _ ?side1 A45.out).mono ?_
         (case side1 => exact ErrW.below HE.out hB_)
         rintro e w69 ⟨rfl, hb⟩
         refine ⟨_, rfl, ?_⟩
         have n0_ := Aside0.mk (ub_ (g := gb668) hb)
         have n1_ := Aside0.mk (ub_ (g := gb669) hb)
         have n2_ := Aside0.mk (ub_ (g := gb672) hb)
         have n3_ := Aside0.mk (below_step hB_ hb)
         clear BK668 BK669 BK672 HB
         have BK668 := n0_
         have BK669 := n1_
         have BK672 := n2_
         have HB := n3_
         clear n0_ n1_ n2_ n3_
         (try clear hb)
         (try clear hb2)
         (try clear hk)
         (try clear hi)
         refine hK.out _ _ ⟨bc_, bc_, bc_, bc_, bc_, bc_, bc_, bc_, bc_, bc_⟩ (fun hHeld => ?_)
         clear hK K
         refine norm_ (a' := ?_) ?_ ?_
         rotate_left
         ·
          show Act.put _ (some 55) _ = _
          simp only [Act.put, List.setIfInBounds_toArray, List.set_cons_zero, List.set_cons_succ, i64_w, i32_w]
          rfl
         refine pure_ (i := 20) (N := some 57) (v := ?_) (a' := ?_) (bm 36 2097151) rfl rfl (any_of HT_.out (by kernel_rfl)) (fun _ _ _ h => h) (Or.inl ⟨by rfl, ?_⟩) ?_ ?_
         rotate_left
         ·
          intro w'
          go_simp
          with_reducible rfl
         rotate_left
         ·
          simp only [Act.put, List.setIfInBounds_toArray, List.set_cons_zero, List.set_cons_succ, i64_w, i32_w]
          rfl
         refine pure_ (i := 21) (N := some 58) (v := ?_) (a' := ?_) (bm 36 4194303) rfl rfl (any_of HT_.out (by kernel_rfl)) (fun _ _ _ h => h) (Or.inl ⟨by rfl, ?_⟩) ?_ ?_
         rotate_left
         ·
          intro w'
          go_simp
          with_reducible rfl
         rotate_left
         ·
          simp only [Act.put, List.setIfInBounds_toArray, List.set_cons_zero, List.set_cons_succ, i64_w, i32_w]
          rfl
         refine pure_ (i := 22) (N := some 59) (v := ?_) (a' := ?_) (bm 36 8388607) rfl rfl (any_of HT_.out (by kernel_rfl)) (fun _ _ _ h => h) (Or.inl ⟨by rfl, ?_⟩) ?_ ?_
         rotate_left
         ·
          intro w'
          go_simp
          with_reducible rfl
         rotate_left
         ·
          simp only [Act.put, List.setIfInBounds_toArray, List.set_cons_zero, List.set_cons_succ, i64_w, i32_w]
          rfl
         refine take_ (i := 23) (N := some 60) (v := ?_) (a' := ?_) (bm 36 16777215) rfl rfl (take_ofW HT_.out HW_.out (by kernel_rfl)) (fun _ _ _ h => h) (Or.inl ⟨by rfl, ?_⟩) hHeld ?_ ?_
         rotate_left
         ·
          rintro w' ⟨s0, s1, s2, s3, s4, s5, s6, s7, s8, s9⟩
          go_simp
          with_reducible rfl
         rotate_left
         ·
          simp only [Act.put, List.setIfInBounds_toArray, List.set_cons_zero, List.set_cons_succ, i64_w, i32_w]
          rfl
         refine take_ (i := 25) (N := some 62) (v := ?_) (a' := ?_) (bm 36 50331647) rfl rfl (take_ofW HT_.out HW_.out (by kernel_rfl)) (fun _ _ _ h => h) (Or.inl ⟨by rfl, ?_⟩) hHeld ?_ ?_
         rotate_left
         ·
          rintro w' ⟨s0, s1, s2, s3, s4, s5, s6, s7, s8, s9⟩
          go_simp
          with_reducible rfl
         rotate_left
         ·
          simp only [Act.put, List.setIfInBounds_toArray, List.set_cons_zero, List.set_cons_succ, i64_w, i32_w]
          rfl
         refine take_ (i := 28) (N := some 65) (v := ?_) (a' := ?_) (bm 36 318767103) rfl rfl (take_ofW HT_.out HW_.out (by kernel_rfl)) (fun _ _ _ h => h) (Or.inl ⟨by rfl, ?_⟩) hHeld ?_ ?_
         rotate_left
         ·
          rintro w' ⟨s0, s1, s2, s3, s4, s5, s6, s7, s8, s9⟩
          go_simp
          with_reducible rfl
         rotate_left
         ·
          simp only [Act.put, List.setIfInBounds_toArray, List.set_cons_zero, List.set_cons_succ, i64_w, i32_w]
          rfl
         refine one_ (i := 24) (N := some 61) (bm 36 335544319) rfl rfl (one_of HT_.out (by kernel_rfl)) (by decide) (fun K hK => ?_)
         refine goes_ Tryd.func39 (by kernel_rfl) rfl #[.agg #[.int .i64 t660, .int .i64 t661, .int .i64 t662, .int .i64 t663], .bool true] (by rfl) rfl rfl ma_ ?_
         with_reducible refine (laws_luSeg.calls t660 t661 t662 t663 true t693 t694 t695 t696 _ A47.out).mono ?_
         rintro e w70 ⟨rfl, hb⟩
         refine ⟨_, rfl, ?_⟩
         have n0_ := Aside0.mk (ub_ (g := gb668) hb)
         have n1_ := Aside0.mk (ub_ (g := gb669) hb)
         have n2_ := Aside0.mk (ub_ (g := gb672) hb)
         have n3_ := Aside0.mk (below_step hB_ hb)
         clear BK668 BK669 BK672 HB
         have BK668 := n0_
         have BK669 := n1_
         have BK672 := n2_
         have HB := n3_
         clear n0_ n1_ n2_ n3_
         (try clear hb)
         (try clear hb2)
         (try clear hk)
         (try clear hi)
         refine hK.out _ _ ⟨bc_, bc_, bc_, bc_, bc_, bc_, bc_, bc_, bc_, bc_⟩ (fun hHeld => ?_)
         clear hK K
         refine norm_ (a' := ?_) ?_ ?_
         rotate_left
         ·
          show Act.put _ (some 61) _ = _
          simp only [Act.put, List.setIfInBounds_toArray, List.set_cons_zero, List.set_cons_succ, i64_w, i32_w]
          rfl
         refine one_ (i := 26) (N := some 63) (bm 36 402653183) rfl rfl (one_of HT_.out (by kernel_rfl)) (by decide) (fun K hK => ?_)
         refine goes_ Tryd.func39 (by kernel_rfl) rfl #[.agg #[.int .i64 t664, .int .i64 t665, .int .i64 t666, .int .i64 t667], .bool true] (by rfl) rfl rfl ma_ ?_
         with_reducible refine (laws_luSeg.calls t664 t665 t666 t667 true t697 t698 t699 t700 _ A48.out).mono ?_
         rintro e w71 ⟨rfl, hb⟩
         refine ⟨_, rfl, ?_⟩
         have n0_ := Aside0.mk (ub_ (g := gb668) hb)
         have n1_ := Aside0.mk (ub_ (g := gb669) hb)
         have n2_ := Aside0.mk (ub_ (g := gb672) hb)
         have n3_ := Aside0.mk (below_step hB_ hb)
         clear BK668 BK669 BK672 HB
         have BK668 := n0_
         have BK669 := n1_
         have BK672 := n2_
         have HB := n3_
         clear n0_ n1_ n2_ n3_
         (try clear hb)
         (try clear hb2)
         (try clear hk)
         (try clear hi)
         refine hK.out _ _ ⟨bc_, bc_, bc_, bc_, bc_, bc_, bc_, bc_, bc_, bc_⟩ (fun hHeld => ?_)
         clear hK K
         refine norm_ (a' := ?_) ?_ ?_
         rotate_left
         ·
          show Act.put _ (some 63) _ = _
          simp only [Act.put, List.setIfInBounds_toArray, List.set_cons_zero, List.set_cons_succ, i64_w, i32_w]
          rfl
         refine one_ (i := 27) (N := some 64) (bm 36 536870911) rfl rfl (one_of HT_.out (by kernel_rfl)) (by decide) (fun K hK => ?_)
         refine goes_ Tryd.func33 (by kernel_rfl) rfl #[.agg #[.int .i64 t693, .int .i64 t694, .int .i64 t695, .int .i64 t696], .agg #[.int .i64 t697, .int .i64 t698, .int .i64 t699, .int .i64 t700]] (by rfl) rfl rfl ma_ ?_
         with_reducible refine (impl_SegApart.calls t693 t694 t695 t696 t697 t698 t699 t700 t701 t702 _ ?side1 A49.out).mono ?_
         (case side1 => exact ErrW.below HE.out hB_)
         rintro e w72 ⟨rfl, hb⟩
         refine ⟨_, rfl, ?_⟩
         have n0_ := Aside0.mk (ub_ (g := gb668) hb)
         have n1_ := Aside0.mk (ub_ (g := gb669) hb)
         have n2_ := Aside0.mk (ub_ (g := gb672) hb)
         have n3_ := Aside0.mk (below_step hB_ hb)
         clear BK668 BK669 BK672 HB
         have BK668 := n0_
         have BK669 := n1_
         have BK672 := n2_
         have HB := n3_
         clear n0_ n1_ n2_ n3_
         (try clear hb)
         (try clear hb2)
         (try clear hk)
         (try clear hi)
         refine hK.out _ _ ⟨bc_, bc_, bc_, bc_, bc_, bc_, bc_, bc_, bc_, bc_⟩ (fun hHeld => ?_)
         clear hK K
         refine norm_ (a' := ?_) ?_ ?_
         rotate_left
         ·
          show Act.put _ (some 64) _ = _
          simp only [Act.put, List.setIfInBounds_toArray, List.set_cons_zero, List.set_cons_succ, i64_w, i32_w]
          rfl
         refine pure_ (i := 29) (N := some 66) (v := ?_) (a' := ?_) (bm 36 1073741823) rfl rfl (any_of HT_.out (by kernel_rfl)) (fun _ _ _ h => h) (Or.inl ⟨by rfl, ?_⟩) ?_ ?_
         rotate_left
         ·
          intro w'
          go_simp
          with_reducible rfl
         rotate_left
         ·
          simp only [Act.put, List.setIfInBounds_toArray, List.set_cons_zero, List.set_cons_succ, i64_w, i32_w]
          rfl
         refine pure_ (i := 30) (N := some 67) (v := ?_) (a' := ?_) (bm 36 2147483647) rfl rfl (any_of HT_.out (by kernel_rfl)) (fun _ _ _ h => h) (Or.inl ⟨by rfl, ?_⟩) ?_ ?_
         rotate_left
         ·
          intro w'
          go_simp
          with_reducible rfl
         rotate_left
         ·
          simp only [Act.put, List.setIfInBounds_toArray, List.set_cons_zero, List.set_cons_succ, i64_w, i32_w]
          rfl
         refine pure_ (i := 31) (N := some 68) (v := ?_) (a' := ?_) (bm 36 4294967295) rfl rfl (any_of HT_.out (by kernel_rfl)) (fun _ _ _ h => h) (Or.inl ⟨by rfl, ?_⟩) ?_ ?_
         rotate_left
         ·
          intro w'
          go_simp
          with_reducible rfl
         rotate_left
         ·
          simp only [Act.put, List.setIfInBounds_toArray, List.set_cons_zero, List.set_cons_succ, i64_w, i32_w]
          rfl
         refine pure_ (i := 32) (N := some 69) (v := undef) (a' := ?_) (bm 36 8589934591) rfl rfl (any_of HT_.out (by kernel_rfl)) (fun _ _ _ h => h) (Or.inr ⟨by rfl, rfl⟩) ?_ ?_
         rotate_left
         ·
          simp only [Act.put, List.setIfInBounds_toArray, List.set_cons_zero, List.set_cons_succ, i64_w, i32_w]
          rfl
         refine pure_ (i := 33) (N := some 70) (v := undef) (a' := ?_) (bm 36 17179869183) rfl rfl (any_of HT_.out (by kernel_rfl)) (fun _ _ _ h => h) (Or.inr ⟨by rfl, rfl⟩) ?_ ?_
         rotate_left
         ·
          simp only [Act.put, List.setIfInBounds_toArray, List.set_cons_zero, List.set_cons_succ, i64_w, i32_w]
          rfl
         refine pure_ (i := 34) (N := some 71) (v := ?_) (a' := ?_) (bm 36 34359738367) rfl rfl (any_of HT_.out (by kernel_rfl)) (fun _ _ _ h => h) (Or.inl ⟨by rfl, ?_⟩) ?_ ?_
         rotate_left
         ·
          intro w'
          go_simp
          with_reducible rfl
         rotate_left
         ·
          simp only [Act.put, List.setIfInBounds_toArray, List.set_cons_zero, List.set_cons_succ, i64_w, i32_w]
          rfl
         refine pure_ (i := 35) (N := some 2) (v := ?_) (a' := ?_) (bm 36 68719476735) rfl rfl (any_of HT_.out (by kernel_rfl)) (fun _ _ _ h => h) (Or.inl ⟨by rfl, ?_⟩) ?_ ?_
         rotate_left
         ·
          intro w'
          go_simp
          with_reducible rfl
         rotate_left
         ·
          simp only [Act.put, List.setIfInBounds_toArray, List.set_cons_zero, List.set_cons_succ, i64_w, i32_w]
          rfl
         refine done_ (done_of HT_.out (by kernel_rfl)) ?_
         try go_wp2
         go_ret
         exact ⟨by first | rfl | (simp [errW_none, errW_some] <;> rfl) | (simp [*, errW_none, errW_some] <;> rfl), hB_⟩
       ·
        rw [if_neg c46] at H
        have c46b0 : (t691 == t670 && (t692 == t671)) = false := by simpa using c46
        (try (have c46b1 : decide (t691 = t670 && (t692 == t671)) = false := by simpa using c46))
        (try (have c46b2 : (t691 == t670 && (t692 == t671)) = false := by simpa using c46))
        (try (have c46b3 : ¬ (t691 = t670 && (t692 == t671)) := by simpa using c46))
        clear c46
        obtain rfl := Option.some.inj H
        try go_wp2
        have n0_ := Aside0.mk (blk_drew BK668.out)
        have n1_ := Aside0.mk (blk_drew BK669.out)
        have n2_ := Aside0.mk (blk_drew BK672.out)
        have n3_ := Aside0.mk (below_drew1 HB.out)
        clear BK668 BK669 BK672 HB
        have BK668 := n0_
        have BK669 := n1_
        have BK672 := n2_
        have HB := n3_
        clear n0_ n1_ n2_ n3_
        refine start_ (n := 36) (S := fun w' => w'.cell? ⟨gb672, 0, none⟩ = some (.int .i64 t670) ∧ w'.cell? ⟨gb672, 1, none⟩ = some (.int .i64 t671) ∧ w'.cell? ⟨gb668, 0, none⟩ = some (.int .i64 t660) ∧ w'.cell? ⟨gb668, 1, none⟩ = some (.int .i64 t661) ∧ w'.cell? ⟨gb668, 2, none⟩ = some (.int .i64 t662) ∧ w'.cell? ⟨gb668, 3, none⟩ = some (.int .i64 t663) ∧ w'.cell? ⟨gb669, 0, none⟩ = some (.int .i64 t664) ∧ w'.cell? ⟨gb669, 1, none⟩ = some (.int .i64 t665) ∧ w'.cell? ⟨gb669, 2, none⟩ = some (.int .i64 t666) ∧ w'.cell? ⟨gb669, 3, none⟩ = some (.int .i64 t667)) (ds := []) #[false, false, false, false, false, false, false, false, false, false, false, false, false, false, false, false, false, false, false, false, false, false, false, false, false, false, false, false, false, false, false, false, false, false, false, false] (by kernel_rfl) rfl rfl ⟨bc_, bc_, bc_, bc_, bc_, bc_, bc_, bc_, bc_, bc_⟩ (fun hHeld => ?_); refine with_tabW laws_FnMeetApart.tab7 laws_FnMeetApart.bits7 (fun HT_ HW_ => ?_)
        generalize wc.drew = w73 at BK668 BK669 BK672 HB hHeld ⊢
        refine take_ (i := 0) (N := some 37) (v := ?_) (a' := ?_) (bm 36 1) rfl rfl (take_ofW HT_.out HW_.out (by kernel_rfl)) (fun _ _ _ h => h) (Or.inl ⟨by rfl, ?_⟩) hHeld ?_ ?_
        rotate_left
        ·
         rintro w' ⟨s0, s1, s2, s3, s4, s5, s6, s7, s8, s9⟩
         go_simp
         with_reducible rfl
        rotate_left
        ·
         simp only [Act.put, List.setIfInBounds_toArray, List.set_cons_zero, List.set_cons_succ, i64_w, i32_w]
         rfl
        refine take_ (i := 2) (N := some 39) (v := ?_) (a' := ?_) (bm 36 5) rfl rfl (take_ofW HT_.out HW_.out (by kernel_rfl)) (fun _ _ _ h => h) (Or.inl ⟨by rfl, ?_⟩) hHeld ?_ ?_
        rotate_left
        ·
         rintro w' ⟨s0, s1, s2, s3, s4, s5, s6, s7, s8, s9⟩
         go_simp
         with_reducible rfl
        rotate_left
        ·
         simp only [Act.put, List.setIfInBounds_toArray, List.set_cons_zero, List.set_cons_succ, i64_w, i32_w]
         rfl
        refine take_ (i := 3) (N := some 40) (v := ?_) (a' := ?_) (bm 36 13) rfl rfl (take_ofW HT_.out HW_.out (by kernel_rfl)) (fun _ _ _ h => h) (Or.inl ⟨by rfl, ?_⟩) hHeld ?_ ?_
        rotate_left
        ·
         rintro w' ⟨s0, s1, s2, s3, s4, s5, s6, s7, s8, s9⟩
         go_simp
         with_reducible rfl
        rotate_left
        ·
         simp only [Act.put, List.setIfInBounds_toArray, List.set_cons_zero, List.set_cons_succ, i64_w, i32_w]
         rfl
        refine one_ (i := 1) (N := some 38) (bm 36 15) rfl rfl (one_of HT_.out (by kernel_rfl)) (by decide) (fun K hK => ?_)
        refine goes_ Tryd.func38 (by kernel_rfl) rfl #[.agg #[.int .i64 t670, .int .i64 t671]] (by rfl) rfl rfl ma_ ?_
        with_reducible refine (laws_luZero.calls t670 t671 t679 _ A38.out).mono ?_
        rintro e w74 ⟨rfl, hb⟩
        refine ⟨_, rfl, ?_⟩
        have n0_ := Aside0.mk (ub_ (g := gb668) hb)
        have n1_ := Aside0.mk (ub_ (g := gb669) hb)
        have n2_ := Aside0.mk (ub_ (g := gb672) hb)
        have n3_ := Aside0.mk (below_step hB_ hb)
        clear BK668 BK669 BK672 HB
        have BK668 := n0_
        have BK669 := n1_
        have BK672 := n2_
        have HB := n3_
        clear n0_ n1_ n2_ n3_
        (try clear hb)
        (try clear hb2)
        (try clear hk)
        (try clear hi)
        refine hK.out _ _ ⟨bc_, bc_, bc_, bc_, bc_, bc_, bc_, bc_, bc_, bc_⟩ (fun hHeld => ?_)
        clear hK K
        refine norm_ (a' := ?_) ?_ ?_
        rotate_left
        ·
         show Act.put _ (some 38) _ = _
         simp only [Act.put, List.setIfInBounds_toArray, List.set_cons_zero, List.set_cons_succ, i64_w, i32_w]
         rfl
        refine one_ (i := 4) (N := some 41) (bm 36 31) rfl rfl (one_of HT_.out (by kernel_rfl)) (by decide) (fun K hK => ?_)
        refine goes_ Tryd.func37 (by kernel_rfl) rfl #[.agg #[.int .i64 t660, .int .i64 t661, .int .i64 t662, .int .i64 t663], .agg #[.int .i64 t664, .int .i64 t665, .int .i64 t666, .int .i64 t667]] (by rfl) rfl rfl ma_ ?_
        with_reducible refine (impl_SegMeet.calls kj4 t660 t661 t662 t663 t664 t665 t666 t667 t680 _ A39.out).mono ?_
        rintro e w75 ⟨rfl, hb⟩
        refine ⟨_, rfl, ?_⟩
        have n0_ := Aside0.mk (ub_ (g := gb668) hb)
        have n1_ := Aside0.mk (ub_ (g := gb669) hb)
        have n2_ := Aside0.mk (ub_ (g := gb672) hb)
        have n3_ := Aside0.mk (below_step hB_ hb)
        clear BK668 BK669 BK672 HB
        have BK668 := n0_
        have BK669 := n1_
        have BK672 := n2_
        have HB := n3_
        clear n0_ n1_ n2_ n3_
        (try clear hb)
        (try clear hb2)
        (try clear hk)
        (try clear hi)
        refine hK.out _ _ ⟨bc_, bc_, bc_, bc_, bc_, bc_, bc_, bc_, bc_, bc_⟩ (fun hHeld => ?_)
        clear hK K
        refine norm_ (a' := ?_) ?_ ?_
        rotate_left
        ·
         show Act.put _ (some 41) _ = _
         simp only [Act.put, List.setIfInBounds_toArray, List.set_cons_zero, List.set_cons_succ, i64_w, i32_w]
         rfl
        refine pure_ (i := 5) (N := some 42) (v := ?_) (a' := ?_) (bm 36 63) rfl rfl (any_of HT_.out (by kernel_rfl)) (fun _ _ _ h => h) (Or.inl ⟨by rfl, ?_⟩) ?_ ?_
        rotate_left
        ·
         intro w'
         go_simp
         with_reducible rfl
        rotate_left
        ·
         simp only [Act.put, List.setIfInBounds_toArray, List.set_cons_zero, List.set_cons_succ, i64_w, i32_w]
         rfl
        refine pure_ (i := 6) (N := some 43) (v := ?_) (a' := ?_) (bm 36 127) rfl rfl (any_of HT_.out (by kernel_rfl)) (fun _ _ _ h => h) (Or.inl ⟨by rfl, ?_⟩) ?_ ?_
        rotate_left
        ·
         intro w'
         go_simp
         with_reducible rfl
        rotate_left
        ·
         simp only [Act.put, List.setIfInBounds_toArray, List.set_cons_zero, List.set_cons_succ, i64_w, i32_w]
         rfl
        refine take_ (i := 7) (N := some 44) (v := ?_) (a' := ?_) (bm 36 255) rfl rfl (take_ofW HT_.out HW_.out (by kernel_rfl)) (fun _ _ _ h => h) (Or.inl ⟨by rfl, ?_⟩) hHeld ?_ ?_
        rotate_left
        ·
         rintro w' ⟨s0, s1, s2, s3, s4, s5, s6, s7, s8, s9⟩
         go_simp
         with_reducible rfl
        rotate_left
        ·
         simp only [Act.put, List.setIfInBounds_toArray, List.set_cons_zero, List.set_cons_succ, i64_w, i32_w]
         rfl
        refine take_ (i := 8) (N := some 45) (v := ?_) (a' := ?_) (bm 36 511) rfl rfl (take_ofW HT_.out HW_.out (by kernel_rfl)) (fun _ _ _ h => h) (Or.inl ⟨by rfl, ?_⟩) hHeld ?_ ?_
        rotate_left
        ·
         rintro w' ⟨s0, s1, s2, s3, s4, s5, s6, s7, s8, s9⟩
         go_simp
         with_reducible rfl
        rotate_left
        ·
         simp only [Act.put, List.setIfInBounds_toArray, List.set_cons_zero, List.set_cons_succ, i64_w, i32_w]
         rfl
        refine take_ (i := 10) (N := some 47) (v := ?_) (a' := ?_) (bm 36 1535) rfl rfl (take_ofW HT_.out HW_.out (by kernel_rfl)) (fun _ _ _ h => h) (Or.inl ⟨by rfl, ?_⟩) hHeld ?_ ?_
        rotate_left
        ·
         rintro w' ⟨s0, s1, s2, s3, s4, s5, s6, s7, s8, s9⟩
         go_simp
         with_reducible rfl
        rotate_left
        ·
         simp only [Act.put, List.setIfInBounds_toArray, List.set_cons_zero, List.set_cons_succ, i64_w, i32_w]
         rfl
        refine one_ (i := 9) (N := some 46) (bm 36 2047) rfl rfl (one_of HT_.out (by kernel_rfl)) (by decide) (fun K hK => ?_)
        refine goes_ Tryd.func33 (by kernel_rfl) rfl #[.agg #[.int .i64 t664, .int .i64 t665, .int .i64 t666, .int .i64 t667], .agg #[.int .i64 t660, .int .i64 t661, .int .i64 t662, .int .i64 t663]] (by rfl) rfl rfl ma_ ?_
        with_reducible refine (impl_SegApart.calls t664 t665 t666 t667 t660 t661 t662 t663 t681 t682 _ ?side1 A41.out).mono ?_
        (case side1 => exact ErrW.below HE.out hB_)
        rintro e w76 ⟨rfl, hb⟩
        refine ⟨_, rfl, ?_⟩
        have n0_ := Aside0.mk (ub_ (g := gb668) hb)
        have n1_ := Aside0.mk (ub_ (g := gb669) hb)
        have n2_ := Aside0.mk (ub_ (g := gb672) hb)
        have n3_ := Aside0.mk (below_step hB_ hb)
        clear BK668 BK669 BK672 HB
        have BK668 := n0_
        have BK669 := n1_
        have BK672 := n2_
        have HB := n3_
        clear n0_ n1_ n2_ n3_
        (try clear hb)
        (try clear hb2)
        (try clear hk)
        (try clear hi)
        refine hK.out _ _ ⟨bc_, bc_, bc_, bc_, bc_, bc_, bc_, bc_, bc_, bc_⟩ (fun hHeld => ?_)
        clear hK K
        refine norm_ (a' := ?_) ?_ ?_
        rotate_left
        ·
         show Act.put _ (some 46) _ = _
         simp only [Act.put, List.setIfInBounds_toArray, List.set_cons_zero, List.set_cons_succ, i64_w, i32_w]
         rfl
        refine pure_ (i := 11) (N := some 48) (v := ?_) (a' := ?_) (bm 36 4095) rfl rfl (any_of HT_.out (by kernel_rfl)) (fun _ _ _ h => h) (Or.inl ⟨by rfl, ?_⟩) ?_ ?_
        rotate_left
        ·
         intro w'
         go_simp
         with_reducible rfl
        rotate_left
        ·
         simp only [Act.put, List.setIfInBounds_toArray, List.set_cons_zero, List.set_cons_succ, i64_w, i32_w]
         rfl
        refine pure_ (i := 12) (N := some 49) (v := ?_) (a' := ?_) (bm 36 8191) rfl rfl (any_of HT_.out (by kernel_rfl)) (fun _ _ _ h => h) (Or.inl ⟨by rfl, ?_⟩) ?_ ?_
        rotate_left
        ·
         intro w'
         go_simp
         with_reducible rfl
        rotate_left
        ·
         simp only [Act.put, List.setIfInBounds_toArray, List.set_cons_zero, List.set_cons_succ, i64_w, i32_w]
         rfl
        refine pure_ (i := 13) (N := some 50) (v := ?_) (a' := ?_) (bm 36 16383) rfl rfl (any_of HT_.out (by kernel_rfl)) (fun _ _ _ h => h) (Or.inl ⟨by rfl, ?_⟩) ?_ ?_
        rotate_left
        ·
         intro w'
         go_simp
         with_reducible rfl
        rotate_left
        ·
         simp only [Act.put, List.setIfInBounds_toArray, List.set_cons_zero, List.set_cons_succ, i64_w, i32_w]
         rfl
        refine take_ (i := 14) (N := some 51) (v := ?_) (a' := ?_) (bm 36 32767) rfl rfl (take_ofW HT_.out HW_.out (by kernel_rfl)) (fun _ _ _ h => h) (Or.inl ⟨by rfl, ?_⟩) hHeld ?_ ?_
        rotate_left
        ·
         rintro w' ⟨s0, s1, s2, s3, s4, s5, s6, s7, s8, s9⟩
         go_simp
         with_reducible rfl
        rotate_left
        ·
         simp only [Act.put, List.setIfInBounds_toArray, List.set_cons_zero, List.set_cons_succ, i64_w, i32_w]
         rfl
        refine take_ (i := 16) (N := some 53) (v := ?_) (a' := ?_) (bm 36 98303) rfl rfl (take_ofW HT_.out HW_.out (by kernel_rfl)) (fun _ _ _ h => h) (Or.inl ⟨by rfl, ?_⟩) hHeld ?_ ?_
        rotate_left
        ·
         rintro w' ⟨s0, s1, s2, s3, s4, s5, s6, s7, s8, s9⟩
         go_simp
         with_reducible rfl
        rotate_left
        ·
         simp only [Act.put, List.setIfInBounds_toArray, List.set_cons_zero, List.set_cons_succ, i64_w, i32_w]
         rfl
        refine take_ (i := 19) (N := some 56) (v := ?_) (a' := ?_) (bm 36 622591) rfl rfl (take_ofW HT_.out HW_.out (by kernel_rfl)) (fun _ _ _ h => h) (Or.inl ⟨by rfl, ?_⟩) hHeld ?_ ?_
        rotate_left
        ·
         rintro w' ⟨s0, s1, s2, s3, s4, s5, s6, s7, s8, s9⟩
         go_simp
         with_reducible rfl
        rotate_left
        ·
         simp only [Act.put, List.setIfInBounds_toArray, List.set_cons_zero, List.set_cons_succ, i64_w, i32_w]
         rfl
        refine one_ (i := 15) (N := some 52) (bm 36 655359) rfl rfl (one_of HT_.out (by kernel_rfl)) (by decide) (fun K hK => ?_)
        refine goes_ Tryd.func39 (by kernel_rfl) rfl #[.agg #[.int .i64 t660, .int .i64 t661, .int .i64 t662, .int .i64 t663], .bool false] (by rfl) rfl rfl ma_ ?_
        with_reducible refine (laws_luSeg.calls t660 t661 t662 t663 false t683 t684 t685 t686 _ A43.out).mono ?_
        rintro e w77 ⟨rfl, hb⟩
        refine ⟨_, rfl, ?_⟩
        have n0_ := Aside0.mk (ub_ (g := gb668) hb)
        have n1_ := Aside0.mk (ub_ (g := gb669) hb)
        have n2_ := Aside0.mk (ub_ (g := gb672) hb)
        have n3_ := Aside0.mk (below_step hB_ hb)
        clear BK668 BK669 BK672 HB
        have BK668 := n0_
        have BK669 := n1_
        have BK672 := n2_
        have HB := n3_
        clear n0_ n1_ n2_ n3_
        (try clear hb)
        (try clear hb2)
        (try clear hk)
        (try clear hi)
        refine hK.out _ _ ⟨bc_, bc_, bc_, bc_, bc_, bc_, bc_, bc_, bc_, bc_⟩ (fun hHeld => ?_)
        clear hK K
        refine norm_ (a' := ?_) ?_ ?_
        rotate_left
        ·
         show Act.put _ (some 52) _ = _
         simp only [Act.put, List.setIfInBounds_toArray, List.set_cons_zero, List.set_cons_succ, i64_w, i32_w]
         rfl
        refine one_ (i := 17) (N := some 54) (bm 36 786431) rfl rfl (one_of HT_.out (by kernel_rfl)) (by decide) (fun K hK => ?_)
        refine goes_ Tryd.func39 (by kernel_rfl) rfl #[.agg #[.int .i64 t664, .int .i64 t665, .int .i64 t666, .int .i64 t667], .bool false] (by rfl) rfl rfl ma_ ?_
        with_reducible refine (laws_luSeg.calls t664 t665 t666 t667 false t687 t688 t689 t690 _ A44.out).mono ?_
        rintro e w78 ⟨rfl, hb⟩
        refine ⟨_, rfl, ?_⟩
        have n0_ := Aside0.mk (ub_ (g := gb668) hb)
        have n1_ := Aside0.mk (ub_ (g := gb669) hb)
        have n2_ := Aside0.mk (ub_ (g := gb672) hb)
        have n3_ := Aside0.mk (below_step hB_ hb)
        clear BK668 BK669 BK672 HB
        have BK668 := n0_
        have BK669 := n1_
        have BK672 := n2_
        have HB := n3_
        clear n0_ n1_ n2_ n3_
        (try clear hb)
        (try clear hb2)
        (try clear hk)
        (try clear hi)
        refine hK.out _ _ ⟨bc_, bc_, bc_, bc_, bc_, bc_, bc_, bc_, bc_, bc_⟩ (fun hHeld => ?_)
        clear hK K
        refine norm_ (a' := ?_) ?_ ?_
        rotate_left
        ·
         show Act.put _ (some 54) _ = _
         simp only [Act.put, List.setIfInBounds_toArray, List.set_cons_zero, List.set_cons_succ, i64_w, i32_w]
         rfl
        refine one_ (i := 18) (N := some 55) (bm 36 1048575) rfl rfl (one_of HT_.out (by kernel_rfl)) (by decide) (fun K hK => ?_)
        refine goes_ Tryd.func33 (by kernel_rfl) rfl #[.agg #[.int .i64 t683, .int .i64 t684, .int .i64 t685, .int .i64 t686], .agg #[.int .i64 t687, .int .i64 t688, .int .i64 t689, .int .i64 t690]] (by rfl) rfl rfl ma_ ?_
        with_reducible refine (impl_SegApart.calls t683 t684 t685 t686 t687 t688 t689 t690 t691 t692 _ ?side1 A45.out).mono ?_
        (case side1 => exact ErrW.below HE.out hB_)
        rintro e w79 ⟨rfl, hb⟩
        refine ⟨_, rfl, ?_⟩
        have n0_ := Aside0.mk (ub_ (g := gb668) hb)
        have n1_ := Aside0.mk (ub_ (g := gb669) hb)
        have n2_ := Aside0.mk (ub_ (g := gb672) hb)
        have n3_ := Aside0.mk (below_step hB_ hb)
        clear BK668 BK669 BK672 HB
        have BK668 := n0_
        have BK669 := n1_
        have BK672 := n2_
        have HB := n3_
        clear n0_ n1_ n2_ n3_
        (try clear hb)
        (try clear hb2)
        (try clear hk)
        (try clear hi)
        refine hK.out _ _ ⟨bc_, bc_, bc_, bc_, bc_, bc_, bc_, bc_, bc_, bc_⟩ (fun hHeld => ?_)
        clear hK K
        refine norm_ (a' := ?_) ?_ ?_
        rotate_left
        ·
         show Act.put _ (some 55) _ = _
         simp only [Act.put, List.setIfInBounds_toArray, List.set_cons_zero, List.set_cons_succ, i64_w, i32_w]
         rfl
        refine pure_ (i := 20) (N := some 57) (v := ?_) (a' := ?_) (bm 36 2097151) rfl rfl (any_of HT_.out (by kernel_rfl)) (fun _ _ _ h => h) (Or.inl ⟨by rfl, ?_⟩) ?_ ?_
        rotate_left
        ·
         intro w'
         go_simp
         with_reducible rfl
        rotate_left
        ·
         simp only [Act.put, List.setIfInBounds_toArray, List.set_cons_zero, List.set_cons_succ, i64_w, i32_w]
         rfl
        refine pure_ (i := 21) (N := some 58) (v := ?_) (a' := ?_) (bm 36 4194303) rfl rfl (any_of HT_.out (by kernel_rfl)) (fun _ _ _ h => h) (Or.inl ⟨by rfl, ?_⟩) ?_ ?_
        rotate_left
        ·
         intro w'
         go_simp
         with_reducible rfl
        rotate_left
        ·
         simp only [Act.put, List.setIfInBounds_toArray, List.set_cons_zero, List.set_cons_succ, i64_w, i32_w]
         rfl
        refine pure_ (i := 22) (N := some 59) (v := ?_) (a' := ?_) (bm 36 8388607) rfl rfl (any_of HT_.out (by kernel_rfl)) (fun _ _ _ h => h) (Or.inl ⟨by rfl, ?_⟩) ?_ ?_
        rotate_left
        ·
         intro w'
         go_simp
         with_reducible rfl
        rotate_left
        ·
         simp only [Act.put, List.setIfInBounds_toArray, List.set_cons_zero, List.set_cons_succ, i64_w, i32_w]
         rfl
        refine pure_ (i := 23) (N := some 60) (v := undef) (a' := ?_) (bm 36 16777215) rfl rfl (any_of HT_.out (by kernel_rfl)) (fun _ _ _ h => h) (Or.inr ⟨by rfl, rfl⟩) ?_ ?_
        rotate_left
        ·
         simp only [Act.put, List.setIfInBounds_toArray, List.set_cons_zero, List.set_cons_succ, i64_w, i32_w]
         rfl
        refine pure_ (i := 24) (N := some 61) (v := undef) (a' := ?_) (bm 36 33554431) rfl rfl (any_of HT_.out (by kernel_rfl)) (fun _ _ _ h => h) (Or.inr ⟨by rfl, rfl⟩) ?_ ?_
        rotate_left
        ·
         simp only [Act.put, List.setIfInBounds_toArray, List.set_cons_zero, List.set_cons_succ, i64_w, i32_w]
         rfl
        refine pure_ (i := 25) (N := some 62) (v := undef) (a' := ?_) (bm 36 67108863) rfl rfl (any_of HT_.out (by kernel_rfl)) (fun _ _ _ h => h) (Or.inr ⟨by rfl, rfl⟩) ?_ ?_
        rotate_left
        ·
         simp only [Act.put, List.setIfInBounds_toArray, List.set_cons_zero, List.set_cons_succ, i64_w, i32_w]
         rfl
        refine pure_ (i := 26) (N := some 63) (v := undef) (a' := ?_) (bm 36 134217727) rfl rfl (any_of HT_.out (by kernel_rfl)) (fun _ _ _ h => h) (Or.inr ⟨by rfl, rfl⟩) ?_ ?_
        rotate_left
        ·
         simp only [Act.put, List.setIfInBounds_toArray, List.set_cons_zero, List.set_cons_succ, i64_w, i32_w]
         rfl
        refine pure_ (i := 27) (N := some 64) (v := undef) (a' := ?_) (bm 36 268435455) rfl rfl (any_of HT_.out (by kernel_rfl)) (fun _ _ _ h => h) (Or.inr ⟨by rfl, rfl⟩) ?_ ?_
        rotate_left
        ·
         simp only [Act.put, List.setIfInBounds_toArray, List.set_cons_zero, List.set_cons_succ, i64_w, i32_w]
         rfl
        refine pure_ (i := 28) (N := some 65) (v := undef) (a' := ?_) (bm 36 536870911) rfl rfl (any_of HT_.out (by kernel_rfl)) (fun _ _ _ h => h) (Or.inr ⟨by rfl, rfl⟩) ?_ ?_
        rotate_left
        ·
         simp only [Act.put, List.setIfInBounds_toArray, List.set_cons_zero, List.set_cons_succ, i64_w, i32_w]
         rfl
        refine pure_ (i := 29) (N := some 66) (v := undef) (a' := ?_) (bm 36 1073741823) rfl rfl (any_of HT_.out (by kernel_rfl)) (fun _ _ _ h => h) (Or.inr ⟨by rfl, rfl⟩) ?_ ?_
        rotate_left
        ·
         simp only [Act.put, List.setIfInBounds_toArray, List.set_cons_zero, List.set_cons_succ, i64_w, i32_w]
         rfl
        refine pure_ (i := 30) (N := some 67) (v := ?_) (a' := ?_) (bm 36 2147483647) rfl rfl (any_of HT_.out (by kernel_rfl)) (fun _ _ _ h => h) (Or.inl ⟨by rfl, ?_⟩) ?_ ?_
        rotate_left
        ·
         intro w'
         go_simp
         with_reducible rfl
        rotate_left
        ·
         simp only [Act.put, List.setIfInBounds_toArray, List.set_cons_zero, List.set_cons_succ, i64_w, i32_w]
         rfl
        refine pure_ (i := 31) (N := some 68) (v := ?_) (a' := ?_) (bm 36 4294967295) rfl rfl (any_of HT_.out (by kernel_rfl)) (fun _ _ _ h => h) (Or.inl ⟨by rfl, ?_⟩) ?_ ?_
        rotate_left
        ·
         intro w'
         go_simp
         with_reducible rfl
        rotate_left
        ·
         simp only [Act.put, List.setIfInBounds_toArray, List.set_cons_zero, List.set_cons_succ, i64_w, i32_w]
         rfl
        refine pure_ (i := 32) (N := some 69) (v := undef) (a' := ?_) (bm 36 8589934591) rfl rfl (any_of HT_.out (by kernel_rfl)) (fun _ _ _ h => h) (Or.inr ⟨by rfl, rfl⟩) ?_ ?_
        rotate_left
        ·
         simp only [Act.put, List.setIfInBounds_toArray, List.set_cons_zero, List.set_cons_succ, i64_w, i32_w]
         rfl
        refine pure_ (i := 33) (N := some 70) (v := undef) (a' := ?_) (bm 36 17179869183) rfl rfl (any_of HT_.out (by kernel_rfl)) (fun _ _ _ h => h) (Or.inr ⟨by rfl, rfl⟩) ?_ ?_
        rotate_left
        ·
         simp only [Act.put, List.setIfInBounds_toArray, List.set_cons_zero, List.set_cons_succ, i64_w, i32_w]
         rfl
        refine pure_ (i := 34) (N := some 71) (v := ?_) (a' := ?_) (bm 36 34359738367) rfl rfl (any_of HT_.out (by kernel_rfl)) (fun _ _ _ h => h) (Or.inl ⟨by rfl, ?_⟩) ?_ ?_
        rotate_left
        ·
         intro w'
         go_simp
         with_reducible rfl
        rotate_left
        ·
         simp only [Act.put, List.setIfInBounds_toArray, List.set_cons_zero, List.set_cons_succ, i64_w, i32_w]
         rfl
        refine pure_ (i := 35) (N := some 2) (v := ?_) (a' := ?_) (bm 36 68719476735) rfl rfl (any_of HT_.out (by kernel_rfl)) (fun _ _ _ h => h) (Or.inl ⟨by rfl, ?_⟩) ?_ ?_
        rotate_left
        ·
         intro w'
         go_simp
         with_reducible rfl
        rotate_left
        ·
         simp only [Act.put, List.setIfInBounds_toArray, List.set_cons_zero, List.set_cons_succ, i64_w, i32_w]
         rfl
        refine done_ (done_of HT_.out (by kernel_rfl)) ?_
        try go_wp2
        go_ret
        exact ⟨by first | rfl | (simp [errW_none, errW_some] <;> rfl) | (simp [*, errW_none, errW_some] <;> rfl), hB_⟩
      ·
       rw [if_neg c42] at H
       have c42b0 : (t681 == t670 && (t682 == t671)) = false := by simpa using c42
       (try (have c42b1 : decide (t681 = t670 && (t682 == t671)) = false := by simpa using c42))
       (try (have c42b2 : (t681 == t670 && (t682 == t671)) = false := by simpa using c42))
       (try (have c42b3 : ¬ (t681 = t670 && (t682 == t671)) := by simpa using c42))
       clear c42
       obtain rfl := Option.some.inj H
       try go_wp2
       have n0_ := Aside0.mk (blk_drew BK668.out)
       have n1_ := Aside0.mk (blk_drew BK669.out)
       have n2_ := Aside0.mk (blk_drew BK672.out)
       have n3_ := Aside0.mk (below_drew1 HB.out)
       clear BK668 BK669 BK672 HB
       have BK668 := n0_
       have BK669 := n1_
       have BK672 := n2_
       have HB := n3_
       clear n0_ n1_ n2_ n3_
       refine start_ (n := 36) (S := fun w' => w'.cell? ⟨gb672, 0, none⟩ = some (.int .i64 t670) ∧ w'.cell? ⟨gb672, 1, none⟩ = some (.int .i64 t671) ∧ w'.cell? ⟨gb668, 0, none⟩ = some (.int .i64 t660) ∧ w'.cell? ⟨gb668, 1, none⟩ = some (.int .i64 t661) ∧ w'.cell? ⟨gb668, 2, none⟩ = some (.int .i64 t662) ∧ w'.cell? ⟨gb668, 3, none⟩ = some (.int .i64 t663) ∧ w'.cell? ⟨gb669, 0, none⟩ = some (.int .i64 t664) ∧ w'.cell? ⟨gb669, 1, none⟩ = some (.int .i64 t665) ∧ w'.cell? ⟨gb669, 2, none⟩ = some (.int .i64 t666) ∧ w'.cell? ⟨gb669, 3, none⟩ = some (.int .i64 t667)) (ds := []) #[false, false, false, false, false, false, false, false, false, false, false, false, false, false, false, false, false, false, false, false, false, false, false, false, false, false, false, false, false, false, false, false, false, false, false, false] (by kernel_rfl) rfl rfl ⟨bc_, bc_, bc_, bc_, bc_, bc_, bc_, bc_, bc_, bc_⟩ (fun hHeld => ?_); refine with_tabW laws_FnMeetApart.tab7 laws_FnMeetApart.bits7 (fun HT_ HW_ => ?_)
       generalize wc.drew = w80 at BK668 BK669 BK672 HB hHeld ⊢
       refine take_ (i := 0) (N := some 37) (v := ?_) (a' := ?_) (bm 36 1) rfl rfl (take_ofW HT_.out HW_.out (by kernel_rfl)) (fun _ _ _ h => h) (Or.inl ⟨by rfl, ?_⟩) hHeld ?_ ?_
       rotate_left
       ·
        rintro w' ⟨s0, s1, s2, s3, s4, s5, s6, s7, s8, s9⟩
        go_simp
        with_reducible rfl
       rotate_left
       ·
        simp only [Act.put, List.setIfInBounds_toArray, List.set_cons_zero, List.set_cons_succ, i64_w, i32_w]
        rfl
       refine take_ (i := 2) (N := some 39) (v := ?_) (a' := ?_) (bm 36 5) rfl rfl (take_ofW HT_.out HW_.out (by kernel_rfl)) (fun _ _ _ h => h) (Or.inl ⟨by rfl, ?_⟩) hHeld ?_ ?_
       rotate_left
       ·
        rintro w' ⟨s0, s1, s2, s3, s4, s5, s6, s7, s8, s9⟩
        go_simp
        with_reducible rfl
       rotate_left
       ·
        simp only [Act.put, List.setIfInBounds_toArray, List.set_cons_zero, List.set_cons_succ, i64_w, i32_w]
        rfl
       refine take_ (i := 3) (N := some 40) (v := ?_) (a' := ?_) (bm 36 13) rfl rfl (take_ofW HT_.out HW_.out (by kernel_rfl)) (fun _ _ _ h => h) (Or.inl ⟨by rfl, ?_⟩) hHeld ?_ ?_
       rotate_left
       ·
        rintro w' ⟨s0, s1, s2, s3, s4, s5, s6, s7, s8, s9⟩
        go_simp
        with_reducible rfl
       rotate_left
       ·
        simp only [Act.put, List.setIfInBounds_toArray, List.set_cons_zero, List.set_cons_succ, i64_w, i32_w]
        rfl
       refine one_ (i := 1) (N := some 38) (bm 36 15) rfl rfl (one_of HT_.out (by kernel_rfl)) (by decide) (fun K hK => ?_)
       refine goes_ Tryd.func38 (by kernel_rfl) rfl #[.agg #[.int .i64 t670, .int .i64 t671]] (by rfl) rfl rfl ma_ ?_
       with_reducible refine (laws_luZero.calls t670 t671 t679 _ A38.out).mono ?_
       rintro e w81 ⟨rfl, hb⟩
       refine ⟨_, rfl, ?_⟩
       have n0_ := Aside0.mk (ub_ (g := gb668) hb)
       have n1_ := Aside0.mk (ub_ (g := gb669) hb)
       have n2_ := Aside0.mk (ub_ (g := gb672) hb)
       have n3_ := Aside0.mk (below_step hB_ hb)
       clear BK668 BK669 BK672 HB
       have BK668 := n0_
       have BK669 := n1_
       have BK672 := n2_
       have HB := n3_
       clear n0_ n1_ n2_ n3_
       (try clear hb)
       (try clear hb2)
       (try clear hk)
       (try clear hi)
       refine hK.out _ _ ⟨bc_, bc_, bc_, bc_, bc_, bc_, bc_, bc_, bc_, bc_⟩ (fun hHeld => ?_)
       clear hK K
       refine norm_ (a' := ?_) ?_ ?_
       rotate_left
       ·
        show Act.put _ (some 38) _ = _
        simp only [Act.put, List.setIfInBounds_toArray, List.set_cons_zero, List.set_cons_succ, i64_w, i32_w]
        rfl
       refine one_ (i := 4) (N := some 41) (bm 36 31) rfl rfl (one_of HT_.out (by kernel_rfl)) (by decide) (fun K hK => ?_)
       refine goes_ Tryd.func37 (by kernel_rfl) rfl #[.agg #[.int .i64 t660, .int .i64 t661, .int .i64 t662, .int .i64 t663], .agg #[.int .i64 t664, .int .i64 t665, .int .i64 t666, .int .i64 t667]] (by rfl) rfl rfl ma_ ?_
       with_reducible refine (impl_SegMeet.calls kj4 t660 t661 t662 t663 t664 t665 t666 t667 t680 _ A39.out).mono ?_
       rintro e w82 ⟨rfl, hb⟩
       refine ⟨_, rfl, ?_⟩
       have n0_ := Aside0.mk (ub_ (g := gb668) hb)
       have n1_ := Aside0.mk (ub_ (g := gb669) hb)
       have n2_ := Aside0.mk (ub_ (g := gb672) hb)
       have n3_ := Aside0.mk (below_step hB_ hb)
       clear BK668 BK669 BK672 HB
       have BK668 := n0_
       have BK669 := n1_
       have BK672 := n2_
       have HB := n3_
       clear n0_ n1_ n2_ n3_
       (try clear hb)
       (try clear hb2)
       (try clear hk)
       (try clear hi)
       refine hK.out _ _ ⟨bc_, bc_, bc_, bc_, bc_, bc_, bc_, bc_, bc_, bc_⟩ (fun hHeld => ?_)
       clear hK K
       refine norm_ (a' := ?_) ?_ ?_
       rotate_left
       ·
        show Act.put _ (some 41) _ = _
        simp only [Act.put, List.setIfInBounds_toArray, List.set_cons_zero, List.set_cons_succ, i64_w, i32_w]
        rfl
       refine pure_ (i := 5) (N := some 42) (v := ?_) (a' := ?_) (bm 36 63) rfl rfl (any_of HT_.out (by kernel_rfl)) (fun _ _ _ h => h) (Or.inl ⟨by rfl, ?_⟩) ?_ ?_
       rotate_left
       ·
        intro w'
        go_simp
        with_reducible rfl
       rotate_left
       ·
        simp only [Act.put, List.setIfInBounds_toArray, List.set_cons_zero, List.set_cons_succ, i64_w, i32_w]
        rfl
       refine pure_ (i := 6) (N := some 43) (v := ?_) (a' := ?_) (bm 36 127) rfl rfl (any_of HT_.out (by kernel_rfl)) (fun _ _ _ h => h) (Or.inl ⟨by rfl, ?_⟩) ?_ ?_
       rotate_left
       ·
        intro w'
        go_simp
        with_reducible rfl
       rotate_left
       ·
        simp only [Act.put, List.setIfInBounds_toArray, List.set_cons_zero, List.set_cons_succ, i64_w, i32_w]
        rfl
       refine take_ (i := 7) (N := some 44) (v := ?_) (a' := ?_) (bm 36 255) rfl rfl (take_ofW HT_.out HW_.out (by kernel_rfl)) (fun _ _ _ h => h) (Or.inl ⟨by rfl, ?_⟩) hHeld ?_ ?_
       rotate_left
       ·
        rintro w' ⟨s0, s1, s2, s3, s4, s5, s6, s7, s8, s9⟩
        go_simp
        with_reducible rfl
       rotate_left
       ·
        simp only [Act.put, List.setIfInBounds_toArray, List.set_cons_zero, List.set_cons_succ, i64_w, i32_w]
        rfl
       refine take_ (i := 8) (N := some 45) (v := ?_) (a' := ?_) (bm 36 511) rfl rfl (take_ofW HT_.out HW_.out (by kernel_rfl)) (fun _ _ _ h => h) (Or.inl ⟨by rfl, ?_⟩) hHeld ?_ ?_
       rotate_left
       ·
        rintro w' ⟨s0, s1, s2, s3, s4, s5, s6, s7, s8, s9⟩
        go_simp
        with_reducible rfl
       rotate_left
       ·
        simp only [Act.put, List.setIfInBounds_toArray, List.set_cons_zero, List.set_cons_succ, i64_w, i32_w]
        rfl
       refine take_ (i := 10) (N := some 47) (v := ?_) (a' := ?_) (bm 36 1535) rfl rfl (take_ofW HT_.out HW_.out (by kernel_rfl)) (fun _ _ _ h => h) (Or.inl ⟨by rfl, ?_⟩) hHeld ?_ ?_
       rotate_left
       ·
        rintro w' ⟨s0, s1, s2, s3, s4, s5, s6, s7, s8, s9⟩
        go_simp
        with_reducible rfl
       rotate_left
       ·
        simp only [Act.put, List.setIfInBounds_toArray, List.set_cons_zero, List.set_cons_succ, i64_w, i32_w]
        rfl
       refine one_ (i := 9) (N := some 46) (bm 36 2047) rfl rfl (one_of HT_.out (by kernel_rfl)) (by decide) (fun K hK => ?_)
       refine goes_ Tryd.func33 (by kernel_rfl) rfl #[.agg #[.int .i64 t664, .int .i64 t665, .int .i64 t666, .int .i64 t667], .agg #[.int .i64 t660, .int .i64 t661, .int .i64 t662, .int .i64 t663]] (by rfl) rfl rfl ma_ ?_
       with_reducible refine (impl_SegApart.calls t664 t665 t666 t667 t660 t661 t662 t663 t681 t682 _ ?side1 A41.out).mono ?_
       (case side1 => exact ErrW.below HE.out hB_)
       rintro e w83 ⟨rfl, hb⟩
       refine ⟨_, rfl, ?_⟩
       have n0_ := Aside0.mk (ub_ (g := gb668) hb)
       have n1_ := Aside0.mk (ub_ (g := gb669) hb)
       have n2_ := Aside0.mk (ub_ (g := gb672) hb)
       have n3_ := Aside0.mk (below_step hB_ hb)
       clear BK668 BK669 BK672 HB
       have BK668 := n0_
       have BK669 := n1_
       have BK672 := n2_
       have HB := n3_
       clear n0_ n1_ n2_ n3_
       (try clear hb)
       (try clear hb2)
       (try clear hk)
       (try clear hi)
       refine hK.out _ _ ⟨bc_, bc_, bc_, bc_, bc_, bc_, bc_, bc_, bc_, bc_⟩ (fun hHeld => ?_)
       clear hK K
       refine norm_ (a' := ?_) ?_ ?_
       rotate_left
       ·
        show Act.put _ (some 46) _ = _
        simp only [Act.put, List.setIfInBounds_toArray, List.set_cons_zero, List.set_cons_succ, i64_w, i32_w]
        rfl
       refine pure_ (i := 11) (N := some 48) (v := ?_) (a' := ?_) (bm 36 4095) rfl rfl (any_of HT_.out (by kernel_rfl)) (fun _ _ _ h => h) (Or.inl ⟨by rfl, ?_⟩) ?_ ?_
       rotate_left
       ·
        intro w'
        go_simp
        with_reducible rfl
       rotate_left
       ·
        simp only [Act.put, List.setIfInBounds_toArray, List.set_cons_zero, List.set_cons_succ, i64_w, i32_w]
        rfl
       refine pure_ (i := 12) (N := some 49) (v := ?_) (a' := ?_) (bm 36 8191) rfl rfl (any_of HT_.out (by kernel_rfl)) (fun _ _ _ h => h) (Or.inl ⟨by rfl, ?_⟩) ?_ ?_
       rotate_left
       ·
        intro w'
        go_simp
        with_reducible rfl
       rotate_left
       ·
        simp only [Act.put, List.setIfInBounds_toArray, List.set_cons_zero, List.set_cons_succ, i64_w, i32_w]
        rfl
       refine pure_ (i := 13) (N := some 50) (v := ?_) (a' := ?_) (bm 36 16383) rfl rfl (any_of HT_.out (by kernel_rfl)) (fun _ _ _ h => h) (Or.inl ⟨by rfl, ?_⟩) ?_ ?_
       rotate_left
       ·
        intro w'
        go_simp
        with_reducible rfl
       rotate_left
       ·
        simp only [Act.put, List.setIfInBounds_toArray, List.set_cons_zero, List.set_cons_succ, i64_w, i32_w]
        rfl
       refine pure_ (i := 14) (N := some 51) (v := undef) (a' := ?_) (bm 36 32767) rfl rfl (any_of HT_.out (by kernel_rfl)) (fun _ _ _ h => h) (Or.inr ⟨by rfl, rfl⟩) ?_ ?_
       rotate_left
       ·
        simp only [Act.put, List.setIfInBounds_toArray, List.set_cons_zero, List.set_cons_succ, i64_w, i32_w]
        rfl
       refine pure_ (i := 15) (N := some 52) (v := undef) (a' := ?_) (bm 36 65535) rfl rfl (any_of HT_.out (by kernel_rfl)) (fun _ _ _ h => h) (Or.inr ⟨by rfl, rfl⟩) ?_ ?_
       rotate_left
       ·
        simp only [Act.put, List.setIfInBounds_toArray, List.set_cons_zero, List.set_cons_succ, i64_w, i32_w]
        rfl
       refine pure_ (i := 16) (N := some 53) (v := undef) (a' := ?_) (bm 36 131071) rfl rfl (any_of HT_.out (by kernel_rfl)) (fun _ _ _ h => h) (Or.inr ⟨by rfl, rfl⟩) ?_ ?_
       rotate_left
       ·
        simp only [Act.put, List.setIfInBounds_toArray, List.set_cons_zero, List.set_cons_succ, i64_w, i32_w]
        rfl
       refine pure_ (i := 17) (N := some 54) (v := undef) (a' := ?_) (bm 36 262143) rfl rfl (any_of HT_.out (by kernel_rfl)) (fun _ _ _ h => h) (Or.inr ⟨by rfl, rfl⟩) ?_ ?_
       rotate_left
       ·
        simp only [Act.put, List.setIfInBounds_toArray, List.set_cons_zero, List.set_cons_succ, i64_w, i32_w]
        rfl
       refine pure_ (i := 18) (N := some 55) (v := undef) (a' := ?_) (bm 36 524287) rfl rfl (any_of HT_.out (by kernel_rfl)) (fun _ _ _ h => h) (Or.inr ⟨by rfl, rfl⟩) ?_ ?_
       rotate_left
       ·
        simp only [Act.put, List.setIfInBounds_toArray, List.set_cons_zero, List.set_cons_succ, i64_w, i32_w]
        rfl
       refine pure_ (i := 19) (N := some 56) (v := undef) (a' := ?_) (bm 36 1048575) rfl rfl (any_of HT_.out (by kernel_rfl)) (fun _ _ _ h => h) (Or.inr ⟨by rfl, rfl⟩) ?_ ?_
       rotate_left
       ·
        simp only [Act.put, List.setIfInBounds_toArray, List.set_cons_zero, List.set_cons_succ, i64_w, i32_w]
        rfl
       refine pure_ (i := 20) (N := some 57) (v := undef) (a' := ?_) (bm 36 2097151) rfl rfl (any_of HT_.out (by kernel_rfl)) (fun _ _ _ h => h) (Or.inr ⟨by rfl, rfl⟩) ?_ ?_
       rotate_left
       ·
        simp only [Act.put, List.setIfInBounds_toArray, List.set_cons_zero, List.set_cons_succ, i64_w, i32_w]
        rfl
       refine pure_ (i := 21) (N := some 58) (v := ?_) (a' := ?_) (bm 36 4194303) rfl rfl (any_of HT_.out (by kernel_rfl)) (fun _ _ _ h => h) (Or.inl ⟨by rfl, ?_⟩) ?_ ?_
       rotate_left
       ·
        intro w'
        go_simp
        with_reducible rfl
       rotate_left
       ·
        simp only [Act.put, List.setIfInBounds_toArray, List.set_cons_zero, List.set_cons_succ, i64_w, i32_w]
        rfl
       refine pure_ (i := 22) (N := some 59) (v := ?_) (a' := ?_) (bm 36 8388607) rfl rfl (any_of HT_.out (by kernel_rfl)) (fun _ _ _ h => h) (Or.inl ⟨by rfl, ?_⟩) ?_ ?_
       rotate_left
       ·
        intro w'
        go_simp
        with_reducible rfl
       rotate_left
       ·
        simp only [Act.put, List.setIfInBounds_toArray, List.set_cons_zero, List.set_cons_succ, i64_w, i32_w]
        rfl
       refine pure_ (i := 23) (N := some 60) (v := undef) (a' := ?_) (bm 36 16777215) rfl rfl (any_of HT_.out (by kernel_rfl)) (fun _ _ _ h => h) (Or.inr ⟨by rfl, rfl⟩) ?_ ?_
       rotate_left
       ·
        simp only [Act.put, List.setIfInBounds_toArray, List.set_cons_zero, List.set_cons_succ, i64_w, i32_w]
        rfl
       refine pure_ (i := 24) (N := some 61) (v := undef) (a' := ?_) (bm 36 33554431) rfl rfl (any_of HT_.out (by kernel_rfl)) (fun _ _ _ h => h) (Or.inr ⟨by rfl, rfl⟩) ?_ ?_
       rotate_left
       ·
        simp only [Act.put, List.setIfInBounds_toArray, List.set_cons_zero, List.set_cons_succ, i64_w, i32_w]
        rfl
       refine pure_ (i := 25) (N := some 62) (v := undef) (a' := ?_) (bm 36 67108863) rfl rfl (any_of HT_.out (by kernel_rfl)) (fun _ _ _ h => h) (Or.inr ⟨by rfl, rfl⟩) ?_ ?_
       rotate_left
       ·
        simp only [Act.put, List.setIfInBounds_toArray, List.set_cons_zero, List.set_cons_succ, i64_w, i32_w]
        rfl
       refine pure_ (i := 26) (N := some 63) (v := undef) (a' := ?_) (bm 36 134217727) rfl rfl (any_of HT_.out (by kernel_rfl)) (fun _ _ _ h => h) (Or.inr ⟨by rfl, rfl⟩) ?_ ?_
       rotate_left
       ·
        simp only [Act.put, List.setIfInBounds_toArray, List.set_cons_zero, List.set_cons_succ, i64_w, i32_w]
        rfl
       refine pure_ (i := 27) (N := some 64) (v := undef) (a' := ?_) (bm 36 268435455) rfl rfl (any_of HT_.out (by kernel_rfl)) (fun _ _ _ h => h) (Or.inr ⟨by rfl, rfl⟩) ?_ ?_
       rotate_left
       ·
        simp only [Act.put, List.setIfInBounds_toArray, List.set_cons_zero, List.set_cons_succ, i64_w, i32_w]
        rfl
       refine pure_ (i := 28) (N := some 65) (v := undef) (a' := ?_) (bm 36 536870911) rfl rfl (any_of HT_.out (by kernel_rfl)) (fun _ _ _ h => h) (Or.inr ⟨by rfl, rfl⟩) ?_ ?_
       rotate_left
       ·
        simp only [Act.put, List.setIfInBounds_toArray, List.set_cons_zero, List.set_cons_succ, i64_w, i32_w]
        rfl
       refine pure_ (i := 29) (N := some 66) (v := undef) (a' := ?_) (bm 36 1073741823) rfl rfl (any_of HT_.out (by kernel_rfl)) (fun _ _ _ h => h) (Or.inr ⟨by rfl, rfl⟩) ?_ ?_
       rotate_left
       ·
        simp only [Act.put, List.setIfInBounds_toArray, List.set_cons_zero, List.set_cons_succ, i64_w, i32_w]
        rfl
       refine pure_ (i := 30) (N := some 67) (v := ?_) (a' := ?_) (bm 36 2147483647) rfl rfl (any_of HT_.out (by kernel_rfl)) (fun _ _ _ h => h) (Or.inl ⟨by rfl, ?_⟩) ?_ ?_
       rotate_left
       ·
        intro w'
        go_simp
        with_reducible rfl
       rotate_left
       ·
        simp only [Act.put, List.setIfInBounds_toArray, List.set_cons_zero, List.set_cons_succ, i64_w, i32_w]
        rfl
       refine pure_ (i := 31) (N := some 68) (v := ?_) (a' := ?_) (bm 36 4294967295) rfl rfl (any_of HT_.out (by kernel_rfl)) (fun _ _ _ h => h) (Or.inl ⟨by rfl, ?_⟩) ?_ ?_
       rotate_left
       ·
        intro w'
        go_simp
        with_reducible rfl
       rotate_left
       ·
        simp only [Act.put, List.setIfInBounds_toArray, List.set_cons_zero, List.set_cons_succ, i64_w, i32_w]
        rfl
       refine pure_ (i := 32) (N := some 69) (v := undef) (a' := ?_) (bm 36 8589934591) rfl rfl (any_of HT_.out (by kernel_rfl)) (fun _ _ _ h => h) (Or.inr ⟨by rfl, rfl⟩) ?_ ?_
       rotate_left
       ·
        simp only [Act.put, List.setIfInBounds_toArray, List.set_cons_zero, List.set_cons_succ, i64_w, i32_w]
        rfl
       refine pure_ (i := 33) (N := some 70) (v := undef) (a' := ?_) (bm 36 17179869183) rfl rfl (any_of HT_.out (by kernel_rfl)) (fun _ _ _ h => h) (Or.inr ⟨by rfl, rfl⟩) ?_ ?_
       rotate_left
       ·
        simp only [Act.put, List.setIfInBounds_toArray, List.set_cons_zero, List.set_cons_succ, i64_w, i32_w]
        rfl
       refine pure_ (i := 34) (N := some 71) (v := ?_) (a' := ?_) (bm 36 34359738367) rfl rfl (any_of HT_.out (by kernel_rfl)) (fun _ _ _ h => h) (Or.inl ⟨by rfl, ?_⟩) ?_ ?_
       rotate_left
       ·
        intro w'
        go_simp
        with_reducible rfl
       rotate_left
       ·
        simp only [Act.put, List.setIfInBounds_toArray, List.set_cons_zero, List.set_cons_succ, i64_w, i32_w]
        rfl
       refine pure_ (i := 35) (N := some 2) (v := ?_) (a' := ?_) (bm 36 68719476735) rfl rfl (any_of HT_.out (by kernel_rfl)) (fun _ _ _ h => h) (Or.inl ⟨by rfl, ?_⟩) ?_ ?_
       rotate_left
       ·
        intro w'
        go_simp
        with_reducible rfl
       rotate_left
       ·
        simp only [Act.put, List.setIfInBounds_toArray, List.set_cons_zero, List.set_cons_succ, i64_w, i32_w]
        rfl
       refine done_ (done_of HT_.out (by kernel_rfl)) ?_
       try go_wp2
       go_ret
       exact ⟨by first | rfl | (simp [errW_none, errW_some] <;> rfl) | (simp [*, errW_none, errW_some] <;> rfl), hB_⟩
     ·
      rw [if_neg c40] at H
      have c40b0 : (t679 == t680) = false := by simpa using c40
      (try (have c40b1 : decide (t679 = t680) = false := by simpa using c40))
      (try (have c40b2 : (t679 == t680) = false := by simpa using c40))
      (try (have c40b3 : ¬ (t679 = t680) := by simpa using c40))
      clear c40
      obtain rfl := Option.some.inj H
      try go_wp2
      have n0_ := Aside0.mk (blk_drew BK668.out)
      have n1_ := Aside0.mk (blk_drew BK669.out)
      have n2_ := Aside0.mk (blk_drew BK672.out)
      have n3_ := Aside0.mk (below_drew1 HB.out)
      clear BK668 BK669 BK672 HB
      have BK668 := n0_
      have BK669 := n1_
      have BK672 := n2_
      have HB := n3_
      clear n0_ n1_ n2_ n3_
      refine start_ (n := 36) (S := fun w' => w'.cell? ⟨gb672, 0, none⟩ = some (.int .i64 t670) ∧ w'.cell? ⟨gb672, 1, none⟩ = some (.int .i64 t671) ∧ w'.cell? ⟨gb668, 0, none⟩ = some (.int .i64 t660) ∧ w'.cell? ⟨gb668, 1, none⟩ = some (.int .i64 t661) ∧ w'.cell? ⟨gb668, 2, none⟩ = some (.int .i64 t662) ∧ w'.cell? ⟨gb668, 3, none⟩ = some (.int .i64 t663) ∧ w'.cell? ⟨gb669, 0, none⟩ = some (.int .i64 t664) ∧ w'.cell? ⟨gb669, 1, none⟩ = some (.int .i64 t665) ∧ w'.cell? ⟨gb669, 2, none⟩ = some (.int .i64 t666) ∧ w'.cell? ⟨gb669, 3, none⟩ = some (.int .i64 t667)) (ds := []) #[false, false, false, false, false, false, false, false, false, false, false, false, false, false, false, false, false, false, false, false, false, false, false, false, false, false, false, false, false, false, false, false, false, false, false, false] (by kernel_rfl) rfl rfl ⟨bc_, bc_, bc_, bc_, bc_, bc_, bc_, bc_, bc_, bc_⟩ (fun hHeld => ?_); refine with_tabW laws_FnMeetApart.tab7 laws_FnMeetApart.bits7 (fun HT_ HW_ => ?_)
      generalize wc.drew = w84 at BK668 BK669 BK672 HB hHeld ⊢
      refine take_ (i := 0) (N := some 37) (v := ?_) (a' := ?_) (bm 36 1) rfl rfl (take_ofW HT_.out HW_.out (by kernel_rfl)) (fun _ _ _ h => h) (Or.inl ⟨by rfl, ?_⟩) hHeld ?_ ?_
      rotate_left
      ·
       rintro w' ⟨s0, s1, s2, s3, s4, s5, s6, s7, s8, s9⟩
       go_simp
       with_reducible rfl
      rotate_left
      ·
       simp only [Act.put, List.setIfInBounds_toArray, List.set_cons_zero, List.set_cons_succ, i64_w, i32_w]
       rfl
      refine take_ (i := 2) (N := some 39) (v := ?_) (a' := ?_) (bm 36 5) rfl rfl (take_ofW HT_.out HW_.out (by kernel_rfl)) (fun _ _ _ h => h) (Or.inl ⟨by rfl, ?_⟩) hHeld ?_ ?_
      rotate_left
      ·
       rintro w' ⟨s0, s1, s2, s3, s4, s5, s6, s7, s8, s9⟩
       go_simp
       with_reducible rfl
      rotate_left
      ·
       simp only [Act.put, List.setIfInBounds_toArray, List.set_cons_zero, List.set_cons_succ, i64_w, i32_w]
       rfl
      refine take_ (i := 3) (N := some 40) (v := ?_) (a' := ?_) (bm 36 13) rfl rfl (take_ofW HT_.out HW_.out (by kernel_rfl)) (fun _ _ _ h => h) (Or.inl ⟨by rfl, ?_⟩) hHeld ?_ ?_
      rotate_left
      ·
       rintro w' ⟨s0, s1, s2, s3, s4, s5, s6, s7, s8, s9⟩
       go_simp
       with_reducible rfl
      rotate_left
      ·
       simp only [Act.put, List.setIfInBounds_toArray, List.set_cons_zero, List.set_cons_succ, i64_w, i32_w]
       rfl
      refine one_ (i := 1) (N := some 38) (bm 36 15) rfl rfl (one_of HT_.out (by kernel_rfl)) (by decide) (fun K hK => ?_)
      refine goes_ Tryd.func38 (by kernel_rfl) rfl #[.agg #[.int .i64 t670, .int .i64 t671]] (by rfl) rfl rfl ma_ ?_
      with_reducible refine (laws_luZero.calls t670 t671 t679 _ A38.out).mono ?_
      rintro e w85 ⟨rfl, hb⟩
      refine ⟨_, rfl, ?_⟩
      have n0_ := Aside0.mk (ub_ (g := gb668) hb)
      have n1_ := Aside0.mk (ub_ (g := gb669) hb)
      have n2_ := Aside0.mk (ub_ (g := gb672) hb)
      have n3_ := Aside0.mk (below_step hB_ hb)
      clear BK668 BK669 BK672 HB
      have BK668 := n0_
      have BK669 := n1_
      have BK672 := n2_
      have HB := n3_
      clear n0_ n1_ n2_ n3_
      (try clear hb)
      (try clear hb2)
      (try clear hk)
      (try clear hi)
      refine hK.out _ _ ⟨bc_, bc_, bc_, bc_, bc_, bc_, bc_, bc_, bc_, bc_⟩ (fun hHeld => ?_)
      clear hK K
      refine norm_ (a' := ?_) ?_ ?_
      rotate_left
      ·
       show Act.put _ (some 38) _ = _
       simp only [Act.put, List.setIfInBounds_toArray, List.set_cons_zero, List.set_cons_succ, i64_w, i32_w]
       rfl
      refine one_ (i := 4) (N := some 41) (bm 36 31) rfl rfl (one_of HT_.out (by kernel_rfl)) (by decide) (fun K hK => ?_)
      refine goes_ Tryd.func37 (by kernel_rfl) rfl #[.agg #[.int .i64 t660, .int .i64 t661, .int .i64 t662, .int .i64 t663], .agg #[.int .i64 t664, .int .i64 t665, .int .i64 t666, .int .i64 t667]] (by rfl) rfl rfl ma_ ?_
      with_reducible refine (impl_SegMeet.calls kj4 t660 t661 t662 t663 t664 t665 t666 t667 t680 _ A39.out).mono ?_
      rintro e w86 ⟨rfl, hb⟩
      refine ⟨_, rfl, ?_⟩
      have n0_ := Aside0.mk (ub_ (g := gb668) hb)
      have n1_ := Aside0.mk (ub_ (g := gb669) hb)
      have n2_ := Aside0.mk (ub_ (g := gb672) hb)
      have n3_ := Aside0.mk (below_step hB_ hb)
      clear BK668 BK669 BK672 HB
      have BK668 := n0_
      have BK669 := n1_
      have BK672 := n2_
      have HB := n3_
      clear n0_ n1_ n2_ n3_
      (try clear hb)
      (try clear hb2)
      (try clear hk)
      (try clear hi)
      refine hK.out _ _ ⟨bc_, bc_, bc_, bc_, bc_, bc_, bc_, bc_, bc_, bc_⟩ (fun hHeld => ?_)
      clear hK K
      refine norm_ (a' := ?_) ?_ ?_
      rotate_left
      ·
       show Act.put _ (some 41) _ = _
       simp only [Act.put, List.setIfInBounds_toArray, List.set_cons_zero, List.set_cons_succ, i64_w, i32_w]
       rfl
      refine pure_ (i := 5) (N := some 42) (v := ?_) (a' := ?_) (bm 36 63) rfl rfl (any_of HT_.out (by kernel_rfl)) (fun _ _ _ h => h) (Or.inl ⟨by rfl, ?_⟩) ?_ ?_
      rotate_left
      ·
       intro w'
       go_simp
       with_reducible rfl
      rotate_left
      ·
       simp only [Act.put, List.setIfInBounds_toArray, List.set_cons_zero, List.set_cons_succ, i64_w, i32_w]
       rfl
      refine pure_ (i := 6) (N := some 43) (v := ?_) (a' := ?_) (bm 36 127) rfl rfl (any_of HT_.out (by kernel_rfl)) (fun _ _ _ h => h) (Or.inl ⟨by rfl, ?_⟩) ?_ ?_
      rotate_left
      ·
       intro w'
       go_simp
       with_reducible rfl
      rotate_left
      ·
       simp only [Act.put, List.setIfInBounds_toArray, List.set_cons_zero, List.set_cons_succ, i64_w, i32_w]
       rfl
      refine pure_ (i := 7) (N := some 44) (v := undef) (a' := ?_) (bm 36 255) rfl rfl (any_of HT_.out (by kernel_rfl)) (fun _ _ _ h => h) (Or.inr ⟨by rfl, rfl⟩) ?_ ?_
      rotate_left
      ·
       simp only [Act.put, List.setIfInBounds_toArray, List.set_cons_zero, List.set_cons_succ, i64_w, i32_w]
       rfl
      refine pure_ (i := 8) (N := some 45) (v := undef) (a' := ?_) (bm 36 511) rfl rfl (any_of HT_.out (by kernel_rfl)) (fun _ _ _ h => h) (Or.inr ⟨by rfl, rfl⟩) ?_ ?_
      rotate_left
      ·
       simp only [Act.put, List.setIfInBounds_toArray, List.set_cons_zero, List.set_cons_succ, i64_w, i32_w]
       rfl
      refine pure_ (i := 9) (N := some 46) (v := undef) (a' := ?_) (bm 36 1023) rfl rfl (any_of HT_.out (by kernel_rfl)) (fun _ _ _ h => h) (Or.inr ⟨by rfl, rfl⟩) ?_ ?_
      rotate_left
      ·
       simp only [Act.put, List.setIfInBounds_toArray, List.set_cons_zero, List.set_cons_succ, i64_w, i32_w]
       rfl
      refine pure_ (i := 10) (N := some 47) (v := undef) (a' := ?_) (bm 36 2047) rfl rfl (any_of HT_.out (by kernel_rfl)) (fun _ _ _ h => h) (Or.inr ⟨by rfl, rfl⟩) ?_ ?_
      rotate_left
      ·
       simp only [Act.put, List.setIfInBounds_toArray, List.set_cons_zero, List.set_cons_succ, i64_w, i32_w]
       rfl
      refine pure_ (i := 11) (N := some 48) (v := undef) (a' := ?_) (bm 36 4095) rfl rfl (any_of HT_.out (by kernel_rfl)) (fun _ _ _ h => h) (Or.inr ⟨by rfl, rfl⟩) ?_ ?_
      rotate_left
      ·
       simp only [Act.put, List.setIfInBounds_toArray, List.set_cons_zero, List.set_cons_succ, i64_w, i32_w]
       rfl
      refine pure_ (i := 12) (N := some 49) (v := ?_) (a' := ?_) (bm 36 8191) rfl rfl (any_of HT_.out (by kernel_rfl)) (fun _ _ _ h => h) (Or.inl ⟨by rfl, ?_⟩) ?_ ?_
      rotate_left
      ·
       intro w'
       go_simp
       with_reducible rfl
      rotate_left
      ·
       simp only [Act.put, List.setIfInBounds_toArray, List.set_cons_zero, List.set_cons_succ, i64_w, i32_w]
       rfl
      refine pure_ (i := 13) (N := some 50) (v := ?_) (a' := ?_) (bm 36 16383) rfl rfl (any_of HT_.out (by kernel_rfl)) (fun _ _ _ h => h) (Or.inl ⟨by rfl, ?_⟩) ?_ ?_
      rotate_left
      ·
       intro w'
       go_simp
       with_reducible rfl
      rotate_left
      ·
       simp only [Act.put, List.setIfInBounds_toArray, List.set_cons_zero, List.set_cons_succ, i64_w, i32_w]
       rfl
      refine pure_ (i := 14) (N := some 51) (v := undef) (a' := ?_) (bm 36 32767) rfl rfl (any_of HT_.out (by kernel_rfl)) (fun _ _ _ h => h) (Or.inr ⟨by rfl, rfl⟩) ?_ ?_
      rotate_left
      ·
       simp only [Act.put, List.setIfInBounds_toArray, List.set_cons_zero, List.set_cons_succ, i64_w, i32_w]
       rfl
      refine pure_ (i := 15) (N := some 52) (v := undef) (a' := ?_) (bm 36 65535) rfl rfl (any_of HT_.out (by kernel_rfl)) (fun _ _ _ h => h) (Or.inr ⟨by rfl, rfl⟩) ?_ ?_
      rotate_left
      ·
       simp only [Act.put, List.setIfInBounds_toArray, List.set_cons_zero, List.set_cons_succ, i64_w, i32_w]
       rfl
      refine pure_ (i := 16) (N := some 53) (v := undef) (a' := ?_) (bm 36 131071) rfl rfl (any_of HT_.out (by kernel_rfl)) (fun _ _ _ h => h) (Or.inr ⟨by rfl, rfl⟩) ?_ ?_
      rotate_left
      ·
       simp only [Act.put, List.setIfInBounds_toArray, List.set_cons_zero, List.set_cons_succ, i64_w, i32_w]
       rfl
      refine pure_ (i := 17) (N := some 54) (v := undef) (a' := ?_) (bm 36 262143) rfl rfl (any_of HT_.out (by kernel_rfl)) (fun _ _ _ h => h) (Or.inr ⟨by rfl, rfl⟩) ?_ ?_
      rotate_left
      ·
       simp only [Act.put, List.setIfInBounds_toArray, List.set_cons_zero, List.set_cons_succ, i64_w, i32_w]
       rfl
      refine pure_ (i := 18) (N := some 55) (v := undef) (a' := ?_) (bm 36 524287) rfl rfl (any_of HT_.out (by kernel_rfl)) (fun _ _ _ h => h) (Or.inr ⟨by rfl, rfl⟩) ?_ ?_
      rotate_left
      ·
       simp only [Act.put, List.setIfInBounds_toArray, List.set_cons_zero, List.set_cons_succ, i64_w, i32_w]
       rfl
      refine pure_ (i := 19) (N := some 56) (v := undef) (a' := ?_) (bm 36 1048575) rfl rfl (any_of HT_.out (by kernel_rfl)) (fun _ _ _ h => h) (Or.inr ⟨by rfl, rfl⟩) ?_ ?_
      rotate_left
      ·
       simp only [Act.put, List.setIfInBounds_toArray, List.set_cons_zero, List.set_cons_succ, i64_w, i32_w]
       rfl
      refine pure_ (i := 20) (N := some 57) (v := undef) (a' := ?_) (bm 36 2097151) rfl rfl (any_of HT_.out (by kernel_rfl)) (fun _ _ _ h => h) (Or.inr ⟨by rfl, rfl⟩) ?_ ?_
      rotate_left
      ·
       simp only [Act.put, List.setIfInBounds_toArray, List.set_cons_zero, List.set_cons_succ, i64_w, i32_w]
       rfl
      refine pure_ (i := 21) (N := some 58) (v := ?_) (a' := ?_) (bm 36 4194303) rfl rfl (any_of HT_.out (by kernel_rfl)) (fun _ _ _ h => h) (Or.inl ⟨by rfl, ?_⟩) ?_ ?_
      rotate_left
      ·
       intro w'
       go_simp
       with_reducible rfl
      rotate_left
      ·
       simp only [Act.put, List.setIfInBounds_toArray, List.set_cons_zero, List.set_cons_succ, i64_w, i32_w]
       rfl
      refine pure_ (i := 22) (N := some 59) (v := ?_) (a' := ?_) (bm 36 8388607) rfl rfl (any_of HT_.out (by kernel_rfl)) (fun _ _ _ h => h) (Or.inl ⟨by rfl, ?_⟩) ?_ ?_
      rotate_left
      ·
       intro w'
       go_simp
       with_reducible rfl
      rotate_left
      ·
       simp only [Act.put, List.setIfInBounds_toArray, List.set_cons_zero, List.set_cons_succ, i64_w, i32_w]
       rfl
      refine pure_ (i := 23) (N := some 60) (v := undef) (a' := ?_) (bm 36 16777215) rfl rfl (any_of HT_.out (by kernel_rfl)) (fun _ _ _ h => h) (Or.inr ⟨by rfl, rfl⟩) ?_ ?_
      rotate_left
      ·
       simp only [Act.put, List.setIfInBounds_toArray, List.set_cons_zero, List.set_cons_succ, i64_w, i32_w]
       rfl
      refine pure_ (i := 24) (N := some 61) (v := undef) (a' := ?_) (bm 36 33554431) rfl rfl (any_of HT_.out (by kernel_rfl)) (fun _ _ _ h => h) (Or.inr ⟨by rfl, rfl⟩) ?_ ?_
      rotate_left
      ·
       simp only [Act.put, List.setIfInBounds_toArray, List.set_cons_zero, List.set_cons_succ, i64_w, i32_w]
       rfl
      refine pure_ (i := 25) (N := some 62) (v := undef) (a' := ?_) (bm 36 67108863) rfl rfl (any_of HT_.out (by kernel_rfl)) (fun _ _ _ h => h) (Or.inr ⟨by rfl, rfl⟩) ?_ ?_
      rotate_left
      ·
       simp only [Act.put, List.setIfInBounds_toArray, List.set_cons_zero, List.set_cons_succ, i64_w, i32_w]
       rfl
      refine pure_ (i := 26) (N := some 63) (v := undef) (a' := ?_) (bm 36 134217727) rfl rfl (any_of HT_.out (by kernel_rfl)) (fun _ _ _ h => h) (Or.inr ⟨by rfl, rfl⟩) ?_ ?_
      rotate_left
      ·
       simp only [Act.put, List.setIfInBounds_toArray, List.set_cons_zero, List.set_cons_succ, i64_w, i32_w]
       rfl
      refine pure_ (i := 27) (N := some 64) (v := undef) (a' := ?_) (bm 36 268435455) rfl rfl (any_of HT_.out (by kernel_rfl)) (fun _ _ _ h => h) (Or.inr ⟨by rfl, rfl⟩) ?_ ?_
      rotate_left
      ·
       simp only [Act.put, List.setIfInBounds_toArray, List.set_cons_zero, List.set_cons_succ, i64_w, i32_w]
       rfl
      refine pure_ (i := 28) (N := some 65) (v := undef) (a' := ?_) (bm 36 536870911) rfl rfl (any_of HT_.out (by kernel_rfl)) (fun _ _ _ h => h) (Or.inr ⟨by rfl, rfl⟩) ?_ ?_
      rotate_left
      ·
       simp only [Act.put, List.setIfInBounds_toArray, List.set_cons_zero, List.set_cons_succ, i64_w, i32_w]
       rfl
      refine pure_ (i := 29) (N := some 66) (v := undef) (a' := ?_) (bm 36 1073741823) rfl rfl (any_of HT_.out (by kernel_rfl)) (fun _ _ _ h => h) (Or.inr ⟨by rfl, rfl⟩) ?_ ?_
      rotate_left
      ·
       simp only [Act.put, List.setIfInBounds_toArray, List.set_cons_zero, List.set_cons_succ, i64_w, i32_w]
       rfl
      refine pure_ (i := 30) (N := some 67) (v := ?_) (a' := ?_) (bm 36 2147483647) rfl rfl (any_of HT_.out (by kernel_rfl)) (fun _ _ _ h => h) (Or.inl ⟨by rfl, ?_⟩) ?_ ?_
      rotate_left
      ·
       intro w'
       go_simp
       with_reducible rfl
      rotate_left
      ·
       simp only [Act.put, List.setIfInBounds_toArray, List.set_cons_zero, List.set_cons_succ, i64_w, i32_w]
       rfl
      refine pure_ (i := 31) (N := some 68) (v := ?_) (a' := ?_) (bm 36 4294967295) rfl rfl (any_of HT_.out (by kernel_rfl)) (fun _ _ _ h => h) (Or.inl ⟨by rfl, ?_⟩) ?_ ?_
      rotate_left
      ·
       intro w'
       go_simp
       with_reducible rfl
      rotate_left
      ·
       simp only [Act.put, List.setIfInBounds_toArray, List.set_cons_zero, List.set_cons_succ, i64_w, i32_w]
       rfl
      refine pure_ (i := 32) (N := some 69) (v := undef) (a' := ?_) (bm 36 8589934591) rfl rfl (any_of HT_.out (by kernel_rfl)) (fun _ _ _ h => h) (Or.inr ⟨by rfl, rfl⟩) ?_ ?_
      rotate_left
      ·
       simp only [Act.put, List.setIfInBounds_toArray, List.set_cons_zero, List.set_cons_succ, i64_w, i32_w]
       rfl
      refine pure_ (i := 33) (N := some 70) (v := undef) (a' := ?_) (bm 36 17179869183) rfl rfl (any_of HT_.out (by kernel_rfl)) (fun _ _ _ h => h) (Or.inr ⟨by rfl, rfl⟩) ?_ ?_
      rotate_left
      ·
       simp only [Act.put, List.setIfInBounds_toArray, List.set_cons_zero, List.set_cons_succ, i64_w, i32_w]
       rfl
      refine pure_ (i := 34) (N := some 71) (v := ?_) (a' := ?_) (bm 36 34359738367) rfl rfl (any_of HT_.out (by kernel_rfl)) (fun _ _ _ h => h) (Or.inl ⟨by rfl, ?_⟩) ?_ ?_
      rotate_left
      ·
       intro w'
       go_simp
       with_reducible rfl
      rotate_left
      ·
       simp only [Act.put, List.setIfInBounds_toArray, List.set_cons_zero, List.set_cons_succ, i64_w, i32_w]
       rfl
      refine pure_ (i := 35) (N := some 2) (v := ?_) (a' := ?_) (bm 36 68719476735) rfl rfl (any_of HT_.out (by kernel_rfl)) (fun _ _ _ h => h) (Or.inl ⟨by rfl, ?_⟩) ?_ ?_
      rotate_left
      ·
       intro w'
       go_simp
       with_reducible rfl
      rotate_left
      ·
       simp only [Act.put, List.setIfInBounds_toArray, List.set_cons_zero, List.set_cons_succ, i64_w, i32_w]
       rfl
      refine done_ (done_of HT_.out (by kernel_rfl)) ?_
      try go_wp2
      go_ret
      exact ⟨by first | rfl | (simp [errW_none, errW_some] <;> rfl) | (simp [*, errW_none, errW_some] <;> rfl), hB_⟩
/-- THE ONE PURE STATEMENT of laws_FnMeetApart: yours. -/
def laws_FnMeetApart.Pure : Prop := ∀ (l0 : List Int), l0.length ≤ maxLen → l0.length * 1 ≤ 140737488351232 → (∀ x ∈ l0, (Lit.int .u8 x).wf = true) → ∃ k, laws_FnMeetApart.f k l0 = some true
theorem laws_FnMeetApart.walk (P : laws_FnMeetApart.Pure) (a0 : Option Addr) (len0 cap0 : Nat) (z0 : List Int) (w : World) (hE : ErrW w) (w0 : (a0 = none ∧ len0 = 0 ∧ cap0 = 0 ∧ z0 = []) ∨ ∃ x, a0 = some x ∧ len0 ≤ cap0 ∧ cap0 ≤ maxLen ∧ z0.length = cap0 ∧ (∀ i, i < z0.length → w.cell? (x.add i) = some (.int .u8 (z0.getD i 0))) ∧ ∀ n ∈ z0, (Lit.int .u8 n).wf = true) (y0 : len0 * 1 ≤ 140737488351232) :
  Calls Tryd.prog 14 #[.slice a0 len0 cap0] w fun e w' => e = .returned (.bool true) ∧ Below w.heap.size w w' := by
 obtain ⟨l0, rfl, hr0, hm0, hw0, hc0⟩ := ReadsInt.ofRowC w0
 obtain ⟨k, h⟩ := P l0 hm0 y0 hw0
 refine (laws_FnMeetApart.calls k _ _ l0 true w (Kd.C_of_reads (d := (0 : Int)) (h1 := fun _ => rfl) hr0) hc0 hE h).mono ?_
 rintro e w' ⟨rfl, hd⟩
 exact ⟨rfl, hd⟩
end Go.Proofs.YtnponnkcfgjeoaaDoor.X
end
section
set_option linter.unusedVariables false
set_option linter.unusedSimpArgs false
namespace Go.Proofs.YtnponnkcfgjeoaaDoor.X
open Go.RowKit Go.Proofs.YtnponnkcfgjeoaaDoorW.PrintWords Go.Proofs.YtnponnkcfgjeoaaDoorW.PrintLast Go.Proofs.YtnponnkcfgjeoaaDoorW.PrintMore
open Mort
theorem sSegApart {k : Nat} (hk : 100000 ≤ k) (a b c d e f g h : Int) :
    spec_SegApart.f k a b c d e f g h = some ((segApart ((a, b), (c, d)) ((e, f), (g, h))).1, (segApart ((a, b), (c, d)) ((e, f), (g, h))).2) := by
  unfold spec_SegApart.f segApart
  simp only [sSegOk, Option.bind_some]
  cases hs : segOk ((a, b), (c, d)) with
  | false => simp
  | true =>
    cases ht : segOk ((e, f), (g, h)) with
    | false => simp
    | true =>
      obtain ⟨o1, o2⟩ := segOk_ends hs
      obtain ⟨o3, o4⟩ := segOk_ends ht
      have f1 : fracOk (red (far ((a, b), (c, d)) (e, f))) = true := red_ok (far_inR hs o3)
      have f2 : fracOk (red (far ((a, b), (c, d)) (g, h))) = true := red_ok (far_inR hs o4)
      have f3 : fracOk (red (far ((e, f), (g, h)) (a, b))) = true := red_ok (far_inR ht o1)
      have f4 : fracOk (red (far ((e, f), (g, h)) (c, d))) = true := red_ok (far_inR ht o2)
      have l1 := least_ok f1 f2
      have l2 := least_ok f3 f4
      simp only [if_true, Bool.and_self]
      unfold spec_l2Apart.f
      rw [sMeet o1 o2 o3 o4]
      simp only [Option.bind_some]
      cases hm : meet ((a, b), (c, d)) ((e, f), (g, h)) with
      | true => simp
      | false =>
        simp only [Bool.false_eq_true, if_false]
        rw [sL2Far hk hs o3, sL2Far hk hs o4, sL2Far hk ht o1, sL2Far hk ht o2]
        simp only [Option.bind_some]
        rw [sLeast (n := (red (far ((a, b), (c, d)) (e, f))).1) (d := (red (far ((a, b), (c, d)) (e, f))).2) (m := (red (far ((a, b), (c, d)) (g, h))).1) (q := (red (far ((a, b), (c, d)) (g, h))).2) f1 f2, sLeast (n := (red (far ((e, f), (g, h)) (a, b))).1) (d := (red (far ((e, f), (g, h)) (a, b))).2) (m := (red (far ((e, f), (g, h)) (c, d))).1) (q := (red (far ((e, f), (g, h)) (c, d))).2) f3 f4]
        simp only [Option.bind_some]
        rw [sLeast (n := (least (red (far ((a, b), (c, d)) (e, f))) (red (far ((a, b), (c, d)) (g, h)))).1) (d := (least (red (far ((a, b), (c, d)) (e, f))) (red (far ((a, b), (c, d)) (g, h)))).2) (m := (least (red (far ((e, f), (g, h)) (a, b))) (red (far ((e, f), (g, h)) (c, d)))).1) (q := (least (red (far ((e, f), (g, h)) (a, b))) (red (far ((e, f), (g, h)) (c, d)))).2) l1 l2]
        rfl
end Go.Proofs.YtnponnkcfgjeoaaDoor.X
end
section
set_option linter.unusedVariables false
set_option linter.unusedSimpArgs false
namespace Go.Proofs.YtnponnkcfgjeoaaDoor.X
open Go.RowKit Go.Proofs.YtnponnkcfgjeoaaDoorW.PrintWords Go.Proofs.YtnponnkcfgjeoaaDoorW.PrintLast Go.Proofs.YtnponnkcfgjeoaaDoorW.PrintMore
open Mort
def small (x : Int) : Prop := -100 ≤ x ∧ x ≤ 100
theorem l71Pt_told {l : List Int} (hl : Bytes l) {p : Int} (hp : 0 ≤ p) (hp' : p ≤ 900000) :
    ∃ x y q, (∀ k, 1 ≤ k → spec_l71Pt.f k l p = some (x, y, q)) ∧ p ≤ q ∧ q ≤ p + 10 ∧ small x ∧ small y := by
  obtain ⟨r1, h1, a1, b1⟩ := pick_told hl (p := p) (n := 10) hp (by omega) (by omega) (by omega)
  obtain ⟨r2, h2, a2, b2⟩ := pick_told hl (p := p + 1) (n := 10) (by omega) (by omega) (by omega) (by omega)
  obtain ⟨r3, h3, a3, b3⟩ := pick_told hl (p := p + 1 + 1) (n := 40) (by omega) (by omega) (by omega) (by omega)
  obtain ⟨r4, h4, a4, b4⟩ := pick_told hl (p := p + 1 + 1 + 1) (n := 2) (by omega) (by omega) (by omega) (by omega)
  have hr : -1 ≤ rd [(-1), 10] r4 ∧ rd [(-1), 10] r4 ≤ 10 := by
    have : r4 = 0 ∨ r4 = 1 := by omega
    rcases this with rfl | rfl <;> decide
  unfold small
  by_cases z0 : r3 = 0
  · refine ⟨rd [(-1), 10] r4, r2, p + 1 + 1 + 1 + 1, fun k hk => ?_, by omega, by omega, by omega, by omega⟩
    unfold spec_l71Pt.f
    rw [h1 k hk]; simp only [Option.bind_some]
    rw [h2 k hk]; simp only [Option.bind_some]
    rw [h3 k hk]; simp only [Option.bind_some]
    rw [if_pos z0, h4 k hk]; simp only [Option.bind_some]
    rw [if_pos a4, if_pos (by simpa using b4)]
  · by_cases z1 : r3 = 1
    · refine ⟨r1, rd [(-1), 10] r4, p + 1 + 1 + 1 + 1, fun k hk => ?_, by omega, by omega, by omega, by omega⟩
      unfold spec_l71Pt.f
      rw [h1 k hk]; simp only [Option.bind_some]
      rw [h2 k hk]; simp only [Option.bind_some]
      rw [h3 k hk]; simp only [Option.bind_some]
      rw [if_neg z0, if_pos z1, h4 k hk]; simp only [Option.bind_some]
      rw [if_pos a4, if_pos (by simpa using b4)]
    · refine ⟨r1, r2, p + 1 + 1 + 1, fun k hk => ?_, by omega, by omega, by omega, by omega⟩
      unfold spec_l71Pt.f
      rw [h1 k hk]; simp only [Option.bind_some]
      rw [h2 k hk]; simp only [Option.bind_some]
      rw [h3 k hk]; simp only [Option.bind_some]
      rw [if_neg z0, if_neg z1]
theorem l71Seg_told {l : List Int} (hl : Bytes l) {p : Int} (hp : 0 ≤ p) (hp' : p ≤ 800000) :
    ∃ a b c d q, (∀ k, 1 ≤ k → spec_l71Seg.f k l p = some (a, b, c, d, q)) ∧ p ≤ q ∧ q ≤ p + 30 ∧ small a ∧ small b ∧ small c ∧ small d := by
  obtain ⟨a, b, q1, h1, c1, d1, s1, t1⟩ := l71Pt_told hl (p := p) hp (by omega)
  obtain ⟨c, d, q2, h2, c2, d2, s2, t2⟩ := l71Pt_told hl (p := q1) (by omega) (by omega)
  obtain ⟨r, h3, a3, b3⟩ := pick_told hl (p := q2) (n := 4) (by omega) (by omega) (by omega) (by omega)
  by_cases z : r = 0
  · refine ⟨a, b, c, b, q2 + 1, fun k hk => ?_, by omega, by omega, s1, t1, s2, t1⟩
    unfold spec_l71Seg.f
    rw [h1 k hk]; simp only [Option.bind_some]
    rw [h2 k hk]; simp only [Option.bind_some]
    rw [h3 k hk]; simp only [Option.bind_some]
    rw [if_pos z]
  · refine ⟨a, b, c, d, q2 + 1, fun k hk => ?_, by omega, by omega, s1, t1, s2, t2⟩
    unfold spec_l71Seg.f
    rw [h1 k hk]; simp only [Option.bind_some]
    rw [h2 k hk]; simp only [Option.bind_some]
    rw [h3 k hk]; simp only [Option.bind_some]
    rw [if_neg z]
theorem l71On_told {l : List Int} (hl : Bytes l) {p : Int} (hp : 0 ≤ p) (hp' : p ≤ 700000) :
    ∃ a b c d e f q, (∀ k, 1 ≤ k → spec_l71On.f k l p = some (a, b, c, d, e, f, q)) ∧ p ≤ q ∧ q ≤ p + 100 := by
  obtain ⟨a, b, c, d, q1, h1, c1, d1, _⟩ := l71Seg_told hl (p := p) hp (by omega)
  obtain ⟨e, f, q2, h2, c2, d2, _⟩ := l71Pt_told hl (p := q1) (by omega) (by omega)
  obtain ⟨r3, h3, a3, b3⟩ := pick_told hl (p := q2) (n := 3) (by omega) (by omega) (by omega) (by omega)
  by_cases z : r3 > 0
  · obtain ⟨r4, h4, a4, b4⟩ := pick_told hl (p := q2 + 1) (n := 5) (by omega) (by omega) (by omega) (by omega)
    obtain ⟨r5, h5, a5, b5⟩ := pick_told hl (p := q2 + 1 + 1) (n := 5) (by omega) (by omega) (by omega) (by omega)
    obtain ⟨r6, h6, a6, b6⟩ := pick_told hl (p := q2 + 1 + 1 + 1) (n := 3) (by omega) (by omega) (by omega) (by omega)
    obtain ⟨r7, h7, a7, b7⟩ := pick_told hl (p := q2 + 1 + 1 + 1 + 1) (n := 3) (by omega) (by omega) (by omega) (by omega)
    obtain ⟨r8, h8, a8, b8⟩ := pick_told hl (p := q2 + 1 + 1 + 1 + 1 + 1) (n := 2) (by omega) (by omega) (by omega) (by omega)
    have e8 : wrap64 (wrap64 (1 + r8) + 1) = 1 + r8 + 1 := by rw [w64 (x := 1 + r8) (by omega) (by omega), w64 (by omega) (by omega)]
    obtain ⟨r9, h9, a9, b9⟩ := pick_told hl (p := q2 + 1 + 1 + 1 + 1 + 1 + 1) (n := 1 + r8 + 1) (by omega) (by omega) (by omega) (by omega)
    obtain ⟨ra, ha, aa, ba⟩ := pick_told hl (p := q2 + 1 + 1 + 1 + 1 + 1 + 1 + 1) (n := 1 + r8 + 1) (by omega) (by omega) (by omega) (by omega)
    obtain ⟨rb, hb, ab, bb⟩ := pick_told hl (p := q2 + 1 + 1 + 1 + 1 + 1 + 1 + 1 + 1) (n := 2) (by omega) (by omega) (by omega) (by omega)
    have go : ∀ k, 1 ≤ k → spec_l71On.f k l p = if rb = 0 then _ else _ := fun k hk => by
      unfold spec_l71On.f
      rw [h1 k hk]; simp only [Option.bind_some]
      rw [h2 k hk]; simp only [Option.bind_some]
      rw [h3 k hk]; simp only [Option.bind_some]
      rw [if_pos z, h4 k hk]; simp only [Option.bind_some]
      rw [h5 k hk]; simp only [Option.bind_some]
      rw [h6 k hk]; simp only [Option.bind_some]
      rw [h7 k hk]; simp only [Option.bind_some]
      rw [h8 k hk]; simp only [Option.bind_some]
      rw [e8, h9 k hk]; simp only [Option.bind_some]
      rw [ha k hk]; simp only [Option.bind_some]
      rw [hb k hk]; simp only [Option.bind_some]
      rfl
    by_cases y : rb = 0
    · exact ⟨_, _, _, _, _, _, _, fun k hk => by rw [go k hk, if_pos y], by omega, by omega⟩
    · exact ⟨_, _, _, _, _, _, _, fun k hk => by rw [go k hk, if_neg y], by omega, by omega⟩
  · refine ⟨a, b, c, d, e, f, q2 + 1, fun k hk => ?_, by omega, by omega⟩
    unfold spec_l71On.f
    rw [h1 k hk]; simp only [Option.bind_some]
    rw [h2 k hk]; simp only [Option.bind_some]
    rw [h3 k hk]; simp only [Option.bind_some]
    rw [if_neg z]
theorem drawSegApart_told (l : List Int) (h : ∀ x ∈ l, (Lit.int .u8 x).wf = true) :
    ∃ a b c d e f g i : Int, ∀ k, 1 ≤ k → spec_DrawSegApart.f k l = some (a, b, c, d, e, f, g, i) := by
  obtain ⟨m, ho, hm⟩ := open_told l h
  obtain ⟨a, b, c, d, e, f, q, h1, c1, d1⟩ := l71On_told hm (p := 0) (by omega) (by omega)
  obtain ⟨s, t, u, v, q1, h2, c2, d2, _⟩ := l71Seg_told hm (p := q) (by omega) (by omega)
  obtain ⟨r, h3, a3, b3⟩ := pick_told hm (p := q1) (n := 5) (by omega) (by omega) (by omega) (by omega)
  by_cases z : r < 3
  · refine ⟨a, b, c, d, e, f, u, v, fun k hk => ?_⟩
    unfold spec_DrawSegApart.f spec_l71Two.f
    rw [ho]; simp only [Option.bind_some]
    rw [h1 k hk]; simp only [Option.bind_some]
    rw [h2 k hk]; simp only [Option.bind_some]
    rw [h3 k hk]; simp only [Option.bind_some]
    rw [if_pos z]; rfl
  · refine ⟨a, b, c, d, s, t, u, v, fun k hk => ?_⟩
    unfold spec_DrawSegApart.f spec_l71Two.f
    rw [ho]; simp only [Option.bind_some]
    rw [h1 k hk]; simp only [Option.bind_some]
    rw [h2 k hk]; simp only [Option.bind_some]
    rw [h3 k hk]; simp only [Option.bind_some]
    rw [if_neg z]; rfl
end Go.Proofs.YtnponnkcfgjeoaaDoor.X
end
section
set_option linter.unusedVariables false
set_option linter.unusedSimpArgs false
namespace Go.Proofs.YtnponnkcfgjeoaaDoor.Pure
open Go.RowKit Go.Proofs.YtnponnkcfgjeoaaDoor.X Go.Proofs.YtnponnkcfgjeoaaDoorW.PrintWords Go.Proofs.YtnponnkcfgjeoaaDoorW.PrintLast
open Mort
theorem luSeg_swp (a b c d : Int) : laws_luSeg.f a b c d true = some (b, a, d, c) := rfl
theorem luSeg_mir {a b c d : Int} (h1 : ptOk (a, b) = true) (h2 : ptOk (c, d) = true) : laws_luSeg.f a b c d false = some (9 - a, b, 9 - c, d) := by
  rw [ptOk_iff] at h1 h2
  simp only at h1 h2
  unfold laws_luSeg.f laws_luMirror.f
  rw [w64 (x := 9 - a) (by omega) (by omega), w64 (x := 9 - c) (by omega) (by omega)]
  rfl
theorem segOk_mir {a b c d : Int} (h : segOk ((a, b), (c, d)) = true) : segOk ((9 - a, b), (9 - c, d)) = true := by
  rw [segOk_iff] at h ⊢
  exact ⟨ptOk_mir h.1, ptOk_mir h.2.1, fun e => h.2.2 (by simp only [Prod.mk.injEq] at e ⊢; omega)⟩
theorem segOk_swp {a b c d : Int} (h : segOk ((a, b), (c, d)) = true) : segOk ((b, a), (d, c)) = true := by
  rw [segOk_iff] at h ⊢
  exact ⟨ptOk_swp h.1, ptOk_swp h.2.1, fun e => h.2.2 (by simp only [Prod.mk.injEq] at e ⊢; omega)⟩
theorem FnMeetApart : laws_FnMeetApart.Pure := by
  intro l _ _ hw
  obtain ⟨a, b, c, d, e, f, g, h, hd⟩ := drawSegApart_told l hw
  refine ⟨100000 + 1, ?_⟩
  unfold laws_FnMeetApart.f
  split
  · rfl
  rw [hd _ (by omega)]; simp only [Option.bind_some]
  rw [sSegApart (by omega)]
  unfold impl_SegApart.f
  simp only [Option.bind_some, beq_self_eq_true, Bool.not_true, Bool.or_self, Bool.false_eq_true, if_false, sSegOk]
  have bad : laws_FnMeetApart.j0 (100000 + 1) true a b c d e f g h (segApart ((a, b), (c, d)) ((e, f), (g, h))).1 (segApart ((a, b), (c, d)) ((e, f), (g, h))).2 = some true := by
    rw [laws_FnMeetApart.j0, if_pos rfl, sSegApart (by omega)]
    simp only [Option.bind_some, beq_self_eq_true, Bool.and_self]
  cases hs : segOk ((a, b), (c, d)) with
  | false => exact bad
  | true =>
    simp only [if_true]
    cases ht : segOk ((e, f), (g, h)) with
    | false => exact bad
    | true =>
      obtain ⟨o1, o2⟩ := segOk_ends hs
      obtain ⟨o3, o4⟩ := segOk_ends ht
      have hz := apart_zero hs ht
      have hok := (apart_facts hs ht).1
      have h1 : segApart ((e, f), (g, h)) ((a, b), (c, d)) = segApart ((a, b), (c, d)) ((e, f), (g, h)) := apart_comm hs ht
      have h2 : segApart ((9 - a, b), (9 - c, d)) ((9 - e, f), (9 - g, h)) = segApart ((a, b), (c, d)) ((e, f), (g, h)) := apart_motion motion_mir hs ht (segOk_mir hs) (segOk_mir ht)
      have h3 : segApart ((b, a), (d, c)) ((f, e), (h, g)) = segApart ((a, b), (c, d)) ((e, f), (g, h)) := apart_motion motion_swp hs ht (segOk_swp hs) (segOk_swp ht)
      rw [laws_FnMeetApart.j0]
      simp only [Bool.not_true, Bool.false_eq_true, if_false, laws_luZero.f, Option.bind_some]
      rw [iSegMeet (by omega)]
      have hM : segMeet ((a, b), (c, d)) ((e, f), (g, h)) = meet ((a, b), (c, d)) ((e, f), (g, h)) := by unfold segMeet; rw [hs, ht]; rfl
      have hq : ((segApart ((a, b), (c, d)) ((e, f), (g, h))).1 == 0 && ((segApart ((a, b), (c, d)) ((e, f), (g, h))).2 == 1)) = meet ((a, b), (c, d)) ((e, f), (g, h)) := by
        rw [Bool.eq_iff_iff, ← hz]
        generalize segApart ((a, b), (c, d)) ((e, f), (g, h)) = u
        obtain ⟨u1, u2⟩ := u
        simp
      simp only [Option.bind_some]
      rw [hM, hq, beq_self_eq_true, if_pos rfl]
      simp only [impl_SegApart.f, Option.bind_some, h1, beq_self_eq_true, Bool.and_self, if_true]
      rw [luSeg_mir o1 o2, luSeg_mir o3 o4]
      simp only [Option.bind_some, impl_SegApart.f, h2, beq_self_eq_true, Bool.and_self, if_true, luSeg_swp, h3, fracOk_f]
      exact congrArg some hok
end Go.Proofs.YtnponnkcfgjeoaaDoor.Pure
end
section
namespace Go.Proofs.YtnponnkcfgjeoaaDoorW.PrintWords
open Go.ChangeShapes Go.WideShapes
/-- A row's slice of whole numbers is no longer than its weight allows. -/
theorem sized_ints {H : Type} {enc : TypeId × Value → H} {P : Program} {W : World} {base : Nat} {spare : Nat → Bool} {held : Bool} {t e : TypeId} {k : IntKind} {a : Option Addr} {len cap : Nat} {d : DataW H} {ps : List MemPlace} {ts : List TypeId} {ds : List (DataW H)} {j : Nat}
    (hsz : (DataW.weightsEach P ts ds).all (· ≤ reachBytes) = true) (ht : ts[j]? = some t) (hd : ds[j]? = some d) (hu : P.underlying t = some (.slice e)) (he : P.underlying e = some (.int k)) (hc : P.cellsOf e = 1) {B : Nat} (hB : P.bytesOf e = B)
    (h : DataW.Trod enc P W base spare held t (.slice a len cap) d ps) : len * B ≤ 140737488351232 := by
  obtain ⟨fuel, hf⟩ := h
  rcases open_ints hu he hc hf with ⟨hcs, _⟩ | ⟨x, l, c, zs, hcs, _, hl, _, hz, hx, _, _⟩
  · simp [Value.cells] at hcs
    obtain ⟨rfl, rfl, rfl⟩ := hcs
    simp
  · simp [Value.cells] at hcs
    obtain ⟨rfl, rfl, rfl⟩ := hcs
    obtain ⟨hx, _⟩ := Prod.mk.inj hx
    subst hx
    have z := sized_slice hsz ht hd hu
    rw [hB] at z
    have hl2 : len ≤ zs.length := by
      rw [hz]
      split
      · exact hl
      · exact Nat.le_refl _
    have h1 : (lits (H := H) k (zs.take len)).length + (lits (H := H) k (zs.drop len)).length = zs.length := by
      simp [lits]
      omega
    rw [h1] at z
    exact Nat.le_trans (Nat.mul_le_mul_right _ hl2) z
end Go.Proofs.YtnponnkcfgjeoaaDoorW.PrintWords
end
section
set_option linter.unusedVariables false
namespace Go.Proofs.YtnponnkcfgjeoaaDoor.fnMeetApart
open Go Go.ChangeShapes Go.WideShapes Go.ChangeAt Go.RowKit Go.Proofs.YtnponnkcfgjeoaaDoorW
open Go.ChangeMaps (open_string shut_string)
def IsRow (k : IntKind) (w : World) (a : Option Addr) (len cap : Nat) (zs : List Int) : Prop :=
  (a = none ∧ len = 0 ∧ cap = 0 ∧ zs = []) ∨
  ∃ x, a = some x ∧ len ≤ cap ∧ cap ≤ maxLen ∧ zs.length = cap ∧ (∀ i, i < zs.length → w.cell? (x.add i) = some (.int k (zs.getD i 0))) ∧ ∀ n ∈ zs, (Lit.int k n).wf = true
set_option maxRecDepth 100000 in
theorem lifted (os : Os) (started : os.Started) (H : Type) (enc : TypeId × Value → H) :
    ReturnsInHanded {} Tryd.checked os 14 .any (fun w args => (Rows.fnMeetApartSpec.pre enc Tryd.prog Tryd.f14 [] false w args ∧ laidMet Tryd.prog laidErr w) ∧ sizedMet enc Tryd.prog Tryd.f14 (OpenSpec.ofChange Rows.fnMeetApartSpec) false w args) (Rows.fnMeetApartSpec.post enc Tryd.prog Tryd.f14 false true false false) := by
  refine returnsInHanded_of_change_and (C := Tryd.checked) (X := fun w _ => laidMet Tryd.prog laidErr w) (fun _ _ _ hh h => h.of_heap hh) own started (by kernel_rfl) Tryd.func14
    (ChangeSpec.witness_at (enc := enc) (C := Tryd.checked) (os := os) (X := fun w _ => laidMet Tryd.prog laidErr w) false (laidWorld os) #[.slice none 0 0] 8 rfl (by kernel_rfl) (by kernel_rfl) (by kernel_rfl) (by kernel_rfl) (by kernel_rfl) (laidWorld_met os _)) ?_
  intro W base args ds gs before hval0 hW hcnd hsz0 hL _
  have hsz : (DataW.weightsEach Tryd.prog (Tryd.f14.params.toList ++ Rows.fnMeetApartSpec.plain.varTypes Tryd.prog) (ds ++ gs)).all (· ≤ reachBytes) = true := hsz0
  have hval : ∀ (j : Nat) t v, Tryd.f14.params[j]? = some t → args[j]? = some v → Value.okWide Tryd.prog W .any base t v := hval0
  have hW' := hW
  obtain ⟨p, q, hA0, hV0, rfl, hfz, hnd⟩ := hW
  have hA : DataW.TrodAll enc Tryd.prog W 0 (fun _ => true) true Tryd.f14.params.toList args.toList ds p := hA0
  have hV : DataW.TrodVars enc Tryd.prog W (fun _ => true) ["loop.example/mortiser/impl.errNoFrac"] gs q := hV0
  rw [Tryd.params14] at hA hval hsz
  obtain ⟨v0, vs0, d0, ds0, p0, q0, hargs, rfl, rfl, h0, r0⟩ := trodAll_cons hA
  obtain ⟨rfl, rfl, rfl⟩ := trodAll_nil r0
  obtain rfl : args = #[v0] := by cases args; simp_all
  obtain ⟨a, st, hv, hcs, hs0, hz0⟩ := err_of_laid hL
  obtain ⟨rfl, rfl⟩ := hV.unique (errVars enc hv trivial _)
  have hE : ErrW W := ErrW.of_var hv
  obtain ⟨a0, len0, cap0, rfl⟩ := okWide_slice Tryd.underlying28 (hval 0 28 v0 rfl rfl)
  have k0 := h0
  have lt0 : ∀ x ∈ p0, x.block < W.heap.size := by obtain ⟨m, hm⟩ := k0; exact DataW.trod_lt m _ _ _ hm
  obtain ⟨z0, w0⟩ : ∃ zs, IsRow .u8 W a0 len0 cap0 zs := by
    obtain ⟨fuel, hf⟩ := h0
    rcases open_ints Tryd.underlying28 Tryd.underlying5 (by kernel_rfl) hf with ⟨hcs, _⟩ | ⟨x, l, c, zs, hcs, _, hl, hm, hz, _, hcell, hwz⟩
    · simp [Value.cells] at hcs
      obtain ⟨rfl, rfl, rfl⟩ := hcs
      exact ⟨[], .inl ⟨rfl, rfl, rfl, rfl⟩⟩
    · simp [Value.cells] at hcs
      obtain ⟨rfl, rfl, rfl⟩ := hcs
      exact ⟨zs, .inr ⟨_, rfl, hl, hm, by simpa using hz, hcell, hwz⟩⟩
  have y0 : len0 * 1 ≤ 140737488351232 := PrintWords.sized_ints hsz (j := 0) (t := 28) rfl rfl Tryd.underlying28 Tryd.underlying5 (by kernel_rfl) (by kernel_rfl) h0
  clear hA0 hval0 hsz0 hsz
  refine (X.laws_FnMeetApart.walk Pure.FnMeetApart a0 len0 cap0 z0 W hE w0 y0).mono fun e W' ⟨he, bel⟩ => ?_
  subst he
  exact ⟨_, rfl, _, _, _, [], _, [.cell 0 0], hW', trodAll_mk1 (shut_bool Tryd.underlying4 _), (trodAll_cons_mk (Below.trod laidOut (by kernel_rfl) (of_decide_eq_true (by kernel_rfl)) k0 bel lt0) trodAll_mk0), errVars enc (errBelow bel hv) trivial _, bel.frame _, fun h => by cases h⟩
theorem over : Rows.fnMeetApartRow.holds Tryd.pinned (OpenSpec.ofChange Rows.fnMeetApartSpec) :=
  OpenClaim.holds_of_wide 14 Tryd.f14 rfl rfl rfl rfl rfl rfl rfl ⟨rfl, rfl, rfl, rfl, rfl⟩ rfl rfl rfl rfl rfl (by kernel_rfl) Tryd.func14 (by kernel_rfl)
    (of_decide_eq_true (by kernel_rfl)) (by unfold Func.isWrapper; first | (rw [if_pos (by decide +kernel)]; kernel_rfl) | (rw [if_neg (by decide +kernel)]; exact ⟨rfl, rfl⟩))
    (fun os started H enc _ => lifted os started H enc)
theorem proved : Rows.FnMeetApartCardSaid :=
  Claim7.holds_tied_plain_at .later [] [.sentinel] true (true, "367200faf2c18a8d3acd0cadfc4f4a0300d2711da9ddbae6489321d2dd8a2082") true
    over (fun _ h => by cases h) (by kernel_rfl) (fun _ h => by cases h) fnMeetApart_row_tie rfl ⟨rfl, rfl⟩ (by kernel_rfl) rfl
    (fun f fn hf hfn => by
      obtain rfl : f = 14 := Option.some.inj ((show Tryd.prog.funcNamed "loop.example/mortiser/laws.FnMeetApart" = some 14 by kernel_rfl).symm.trans hf) |>.symm
      obtain rfl : fn = Tryd.f14 := (Option.some.inj (Tryd.func14.symm.trans hfn)).symm
      exact ⟨by kernel_rfl, fun j t ht => by
        rw [Tryd.params14] at ht
        have h3 : t = 28 := by
          rcases j with _ | j
          · simpa using ht.symm
          · simp at ht
        subst h3
        exact (show Tryd.prog.wantsStandIn 28 = false by kernel_rfl)⟩)
    (by kernel_rfl)
end Go.Proofs.YtnponnkcfgjeoaaDoor.fnMeetApart
namespace Go.Proofs.YtnponnkcfgjeoaaDoor
/-- The card, under a short name, for the claim. -/
theorem fnMeetApart_holds : Rows.FnMeetApartCardSaid := fnMeetApart.proved
end Go.Proofs.YtnponnkcfgjeoaaDoor
end
