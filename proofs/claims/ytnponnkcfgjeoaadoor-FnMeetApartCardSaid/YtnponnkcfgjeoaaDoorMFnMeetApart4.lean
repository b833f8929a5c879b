/- FnMeetApart: the law returns true for every input, and each input reads behind the call as before; part 4 of 7. No condition. Merged by program out of: FSpecL71On. -/
import Derived.Test.YtnponnkcfgjeoaaDoorMFnMeetApart3
section
namespace Go.Proofs.YtnponnkcfgjeoaaDoor.X
open Go.RowKit Go.Proofs.YtnponnkcfgjeoaaDoorW.PrintWords Go.Proofs.YtnponnkcfgjeoaaDoorW.PrintLast Go.Proofs.YtnponnkcfgjeoaaDoorW.PrintMore
attribute [local go_sem] max2_int min2_int max_two min_two max_three min_three max_four min_four
set_option linter.unusedVariables false
set_option linter.unusedSimpArgs false
def spec_l71On.f (k : Nat) (s0_0 : List Int) (s0_1 : Int) : Option (Int × Int × Int × Int × Int × Int × Int) := (spec_l71Seg.f k s0_0 s0_1).bind fun bt271 => ((spec_l71Pt.f k s0_0 bt271.2.2.2.2).bind fun bt277 => ((spec_l6Rd_pick.f k s0_0 bt277.2.2 3).bind fun bt281 => (if bt281.1 > 0 then ((spec_l6Rd_pick.f k s0_0 bt281.2 5).bind fun bt283 => ((spec_l6Rd_pick.f k s0_0 bt283.2 5).bind fun bt285 => ((spec_l6Rd_pick.f k s0_0 bt285.2 3).bind fun bt287 => ((spec_l6Rd_pick.f k s0_0 bt287.2 3).bind fun bt289 => ((spec_l6Rd_pick.f k s0_0 bt289.2 2).bind fun bt292 => ((spec_l6Rd_pick.f k s0_0 bt292.2 (wrap64 ((wrap64 (1 + bt292.1)) + 1))).bind fun bt294 => ((spec_l6Rd_pick.f k s0_0 bt294.2 (wrap64 ((wrap64 (1 + bt292.1)) + 1))).bind fun bt296 => ((spec_l6Rd_pick.f k s0_0 bt296.2 2).bind fun bt298 => (if bt298.1 = 0 then (some (wrap64 (bt283.1 + (wrap64 (bt287.1 * (wrap64 (1 + bt292.1))))), wrap64 (bt285.1 + (wrap64 (bt289.1 * (wrap64 (1 + bt292.1))))), bt283.1, bt285.1, wrap64 (bt283.1 + (wrap64 (bt287.1 * bt294.1))), wrap64 (bt285.1 + (wrap64 (bt289.1 * bt296.1))), bt298.2)) else (some (bt283.1, bt285.1, wrap64 (bt283.1 + (wrap64 (bt287.1 * (wrap64 (1 + bt292.1))))), wrap64 (bt285.1 + (wrap64 (bt289.1 * (wrap64 (1 + bt292.1))))), wrap64 (bt283.1 + (wrap64 (bt287.1 * bt294.1))), wrap64 (bt285.1 + (wrap64 (bt289.1 * bt296.1))), bt298.2))))))))))) else (some (bt271.1, bt271.2.1, bt271.2.2.1, bt271.2.2.2.1, bt277.1, bt277.2.1, bt281.2)))))
def spec_l71On.T7 : Bool × List (List Nat × List Nat) := (true, [([], []), ([0], [0]), ([1], [1]), ([], []), ([3], [3]), ([], []), ([], []), ([6], [6]), ([5, 7], [5, 7]), ([4, 8], [4, 8]), ([2, 9], [2, 9]), ([], []), ([11], [11]), ([12], [12]), ([], []), ([14], [14]), ([], []), ([], []), ([17], [17]), ([16, 18, 8], [16, 18]), ([15, 19], [15, 19]), ([13, 20], [13, 20]), ([10, 21], [10, 21]), ([22, 19, 0, 1, 2, 3, 4, 5, 6, 7, 8, 9, 10, 11, 12, 13, 14, 15, 16, 17, 18, 19, 20, 21, 22], [22])])
def spec_l71On.B7 : List Nat := [0, 1, 3, 0, 8, 0, 0, 64, 224, 504, 1023, 0, 2048, 6144, 0, 16384, 0, 0, 131072, 459232, 1032672, 2095584, 4194303, 8388607]
theorem spec_l71On.tab7 : rtab .any (opsOf Tryd.f49 7) = spec_l71On.T7 := by kernel_rfl
theorem spec_l71On.bits7 : waitsOk spec_l71On.T7.2 spec_l71On.B7 = true := by kernel_rfl
set_option maxHeartbeats 8000000 in
set_option maxRecDepth 100000 in
theorem spec_l71On.calls (k : Nat) (g : Nat) (s0_0 : List Int) (s0_1 : Int) (r1 : Int) (r2 : Int) (r3 : Int) (r4 : Int) (r5 : Int) (r6 : Int) (r7 : Int) (w0 w : World) (hI : IsS96 w0 w g s0_0 s0_1) (hB : Below w0.heap.size w0 w) (h : spec_l71On.f k s0_0 s0_1 = some (r1, r2, r3, r4, r5, r6, r7)) :
  Calls Tryd.prog 49 #[.pointer (some ⟨g, 0, none⟩)] w fun e w' => e = .returned (.tuple #[.agg #[.int .i64 r1, .int .i64 r2, .int .i64 r3, .int .i64 r4], .agg #[.int .i64 r5, .int .i64 r6]]) ∧ IsS96 w0 w' g s0_0 r7 ∧ Below w0.heap.size w0 w' ∧ KeepBut w w' g none := by
 have hu40 := Tryd.underlying40
 have hu38 := Tryd.underlying38
 have HI0 := Aside0.mk hI
 have HK := Aside0.mk (KeepBut.refl w g none)
 have HL := Aside0.mk hB.size
 clear hI
 have HW0 := Aside0.mk hB.size
 have HB := Aside0.mk hB
 clear hB
 have H : ((spec_l71Seg.f k s0_0 s0_1).bind fun bt271 => ((spec_l71Pt.f k s0_0 bt271.2.2.2.2).bind fun bt277 => ((spec_l6Rd_pick.f k s0_0 bt277.2.2 3).bind fun bt281 => (if bt281.1 > 0 then ((spec_l6Rd_pick.f k s0_0 bt281.2 5).bind fun bt283 => ((spec_l6Rd_pick.f k s0_0 bt283.2 5).bind fun bt285 => ((spec_l6Rd_pick.f k s0_0 bt285.2 3).bind fun bt287 => ((spec_l6Rd_pick.f k s0_0 bt287.2 3).bind fun bt289 => ((spec_l6Rd_pick.f k s0_0 bt289.2 2).bind fun bt292 => ((spec_l6Rd_pick.f k s0_0 bt292.2 (wrap64 ((wrap64 (1 + bt292.1)) + 1))).bind fun bt294 => ((spec_l6Rd_pick.f k s0_0 bt294.2 (wrap64 ((wrap64 (1 + bt292.1)) + 1))).bind fun bt296 => ((spec_l6Rd_pick.f k s0_0 bt296.2 2).bind fun bt298 => (if bt298.1 = 0 then (some (wrap64 (bt283.1 + (wrap64 (bt287.1 * (wrap64 (1 + bt292.1))))), wrap64 (bt285.1 + (wrap64 (bt289.1 * (wrap64 (1 + bt292.1))))), bt283.1, bt285.1, wrap64 (bt283.1 + (wrap64 (bt287.1 * bt294.1))), wrap64 (bt285.1 + (wrap64 (bt289.1 * bt296.1))), bt298.2)) else (some (bt283.1, bt285.1, wrap64 (bt283.1 + (wrap64 (bt287.1 * (wrap64 (1 + bt292.1))))), wrap64 (bt285.1 + (wrap64 (bt289.1 * (wrap64 (1 + bt292.1))))), wrap64 (bt283.1 + (wrap64 (bt287.1 * bt294.1))), wrap64 (bt285.1 + (wrap64 (bt289.1 * bt296.1))), bt298.2))))))))))) else (some (bt271.1, bt271.2.1, bt271.2.2.1, bt271.2.2.2.1, bt277.1, bt277.2.1, bt281.2)))))) = some (r1, r2, r3, r4, r5, r6, r7) := h
 clear h
 replace H := Option.bind_eq_some_iff.mp H
 obtain ⟨⟨t271, t272, t273, t274, t275⟩, A20, H⟩ := H
 replace H : ((spec_l71Pt.f k s0_0 t275).bind fun bt277 => ((spec_l6Rd_pick.f k s0_0 bt277.2.2 3).bind fun bt281 => (if bt281.1 > 0 then ((spec_l6Rd_pick.f k s0_0 bt281.2 5).bind fun bt283 => ((spec_l6Rd_pick.f k s0_0 bt283.2 5).bind fun bt285 => ((spec_l6Rd_pick.f k s0_0 bt285.2 3).bind fun bt287 => ((spec_l6Rd_pick.f k s0_0 bt287.2 3).bind fun bt289 => ((spec_l6Rd_pick.f k s0_0 bt289.2 2).bind fun bt292 => ((spec_l6Rd_pick.f k s0_0 bt292.2 (wrap64 ((wrap64 (1 + bt292.1)) + 1))).bind fun bt294 => ((spec_l6Rd_pick.f k s0_0 bt294.2 (wrap64 ((wrap64 (1 + bt292.1)) + 1))).bind fun bt296 => ((spec_l6Rd_pick.f k s0_0 bt296.2 2).bind fun bt298 => (if bt298.1 = 0 then (some (wrap64 (bt283.1 + (wrap64 (bt287.1 * (wrap64 (1 + bt292.1))))), wrap64 (bt285.1 + (wrap64 (bt289.1 * (wrap64 (1 + bt292.1))))), bt283.1, bt285.1, wrap64 (bt283.1 + (wrap64 (bt287.1 * bt294.1))), wrap64 (bt285.1 + (wrap64 (bt289.1 * bt296.1))), bt298.2)) else (some (bt283.1, bt285.1, wrap64 (bt283.1 + (wrap64 (bt287.1 * (wrap64 (1 + bt292.1))))), wrap64 (bt285.1 + (wrap64 (bt289.1 * (wrap64 (1 + bt292.1))))), wrap64 (bt283.1 + (wrap64 (bt287.1 * bt294.1))), wrap64 (bt285.1 + (wrap64 (bt289.1 * bt296.1))), bt298.2))))))))))) else (some (t271, t272, t273, t274, bt277.1, bt277.2.1, bt281.2))))) = some (r1, r2, r3, r4, r5, r6, r7) := H
 have A2 := Aside0.mk A20
 clear A20
 replace H := Option.bind_eq_some_iff.mp H
 obtain ⟨⟨t277, t278, t279⟩, A30, H⟩ := H
 replace H : ((spec_l6Rd_pick.f k s0_0 t279 3).bind fun bt281 => (if bt281.1 > 0 then ((spec_l6Rd_pick.f k s0_0 bt281.2 5).bind fun bt283 => ((spec_l6Rd_pick.f k s0_0 bt283.2 5).bind fun bt285 => ((spec_l6Rd_pick.f k s0_0 bt285.2 3).bind fun bt287 => ((spec_l6Rd_pick.f k s0_0 bt287.2 3).bind fun bt289 => ((spec_l6Rd_pick.f k s0_0 bt289.2 2).bind fun bt292 => ((spec_l6Rd_pick.f k s0_0 bt292.2 (wrap64 ((wrap64 (1 + bt292.1)) + 1))).bind fun bt294 => ((spec_l6Rd_pick.f k s0_0 bt294.2 (wrap64 ((wrap64 (1 + bt292.1)) + 1))).bind fun bt296 => ((spec_l6Rd_pick.f k s0_0 bt296.2 2).bind fun bt298 => (if bt298.1 = 0 then (some (wrap64 (bt283.1 + (wrap64 (bt287.1 * (wrap64 (1 + bt292.1))))), wrap64 (bt285.1 + (wrap64 (bt289.1 * (wrap64 (1 + bt292.1))))), bt283.1, bt285.1, wrap64 (bt283.1 + (wrap64 (bt287.1 * bt294.1))), wrap64 (bt285.1 + (wrap64 (bt289.1 * bt296.1))), bt298.2)) else (some (bt283.1, bt285.1, wrap64 (bt283.1 + (wrap64 (bt287.1 * (wrap64 (1 + bt292.1))))), wrap64 (bt285.1 + (wrap64 (bt289.1 * (wrap64 (1 + bt292.1))))), wrap64 (bt283.1 + (wrap64 (bt287.1 * bt294.1))), wrap64 (bt285.1 + (wrap64 (bt289.1 * bt296.1))), bt298.2))))))))))) else (some (t271, t272, t273, t274, t277, t278, bt281.2)))) = some (r1, r2, r3, r4, r5, r6, r7) := H
 have A3 := Aside0.mk A30
 clear A30
 replace H := Option.bind_eq_some_iff.mp H
 obtain ⟨⟨t281, t282⟩, A40, H⟩ := H
 replace H : (if t281 > 0 then ((spec_l6Rd_pick.f k s0_0 t282 5).bind fun bt283 => ((spec_l6Rd_pick.f k s0_0 bt283.2 5).bind fun bt285 => ((spec_l6Rd_pick.f k s0_0 bt285.2 3).bind fun bt287 => ((spec_l6Rd_pick.f k s0_0 bt287.2 3).bind fun bt289 => ((spec_l6Rd_pick.f k s0_0 bt289.2 2).bind fun bt292 => ((spec_l6Rd_pick.f k s0_0 bt292.2 (wrap64 ((wrap64 (1 + bt292.1)) + 1))).bind fun bt294 => ((spec_l6Rd_pick.f k s0_0 bt294.2 (wrap64 ((wrap64 (1 + bt292.1)) + 1))).bind fun bt296 => ((spec_l6Rd_pick.f k s0_0 bt296.2 2).bind fun bt298 => (if bt298.1 = 0 then (some (wrap64 (bt283.1 + (wrap64 (bt287.1 * (wrap64 (1 + bt292.1))))), wrap64 (bt285.1 + (wrap64 (bt289.1 * (wrap64 (1 + bt292.1))))), bt283.1, bt285.1, wrap64 (bt283.1 + (wrap64 (bt287.1 * bt294.1))), wrap64 (bt285.1 + (wrap64 (bt289.1 * bt296.1))), bt298.2)) else (some (bt283.1, bt285.1, wrap64 (bt283.1 + (wrap64 (bt287.1 * (wrap64 (1 + bt292.1))))), wrap64 (bt285.1 + (wrap64 (bt289.1 * (wrap64 (1 + bt292.1))))), wrap64 (bt283.1 + (wrap64 (bt287.1 * bt294.1))), wrap64 (bt285.1 + (wrap64 (bt289.1 * bt296.1))), bt298.2))))))))))) else (some (t271, t272, t273, t274, t277, t278, t282))) = some (r1, r2, r3, r4, r5, r6, r7) := H
 have A4 := Aside0.mk A40
 clear A40
 by_cases c5 : t281 > 0
 ·
  rw [if_pos c5] at H
  have c5b0 : decide (0 < t281) = true := decide_eq_true c5
  clear c5
  replace H := Option.bind_eq_some_iff.mp H
  obtain ⟨⟨t283, t284⟩, A60, H⟩ := H
  replace H : ((spec_l6Rd_pick.f k s0_0 t284 5).bind fun bt285 => ((spec_l6Rd_pick.f k s0_0 bt285.2 3).bind fun bt287 => ((spec_l6Rd_pick.f k s0_0 bt287.2 3).bind fun bt289 => ((spec_l6Rd_pick.f k s0_0 bt289.2 2).bind fun bt292 => ((spec_l6Rd_pick.f k s0_0 bt292.2 (wrap64 ((wrap64 (1 + bt292.1)) + 1))).bind fun bt294 => ((spec_l6Rd_pick.f k s0_0 bt294.2 (wrap64 ((wrap64 (1 + bt292.1)) + 1))).bind fun bt296 => ((spec_l6Rd_pick.f k s0_0 bt296.2 2).bind fun bt298 => (if bt298.1 = 0 then (some (wrap64 (t283 + (wrap64 (bt287.1 * (wrap64 (1 + bt292.1))))), wrap64 (bt285.1 + (wrap64 (bt289.1 * (wrap64 (1 + bt292.1))))), t283, bt285.1, wrap64 (t283 + (wrap64 (bt287.1 * bt294.1))), wrap64 (bt285.1 + (wrap64 (bt289.1 * bt296.1))), bt298.2)) else (some (t283, bt285.1, wrap64 (t283 + (wrap64 (bt287.1 * (wrap64 (1 + bt292.1))))), wrap64 (bt285.1 + (wrap64 (bt289.1 * (wrap64 (1 + bt292.1))))), wrap64 (t283 + (wrap64 (bt287.1 * bt294.1))), wrap64 (bt285.1 + (wrap64 (bt289.1 * bt296.1))), bt298.2)))))))))) = some (r1, r2, r3, r4, r5, r6, r7) := H
  have A6 := Aside0.mk A60
  clear A60
  replace H := Option.bind_eq_some_iff.mp H
  obtain ⟨⟨t285, t286⟩, A70, H⟩ := H
  replace H : ((spec_l6Rd_pick.f k s0_0 t286 3).bind fun bt287 => ((spec_l6Rd_pick.f k s0_0 bt287.2 3).bind fun bt289 => ((spec_l6Rd_pick.f k s0_0 bt289.2 2).bind fun bt292 => ((spec_l6Rd_pick.f k s0_0 bt292.2 (wrap64 ((wrap64 (1 + bt292.1)) + 1))).bind fun bt294 => ((spec_l6Rd_pick.f k s0_0 bt294.2 (wrap64 ((wrap64 (1 + bt292.1)) + 1))).bind fun bt296 => ((spec_l6Rd_pick.f k s0_0 bt296.2 2).bind fun bt298 => (if bt298.1 = 0 then (some (wrap64 (t283 + (wrap64 (bt287.1 * (wrap64 (1 + bt292.1))))), wrap64 (t285 + (wrap64 (bt289.1 * (wrap64 (1 + bt292.1))))), t283, t285, wrap64 (t283 + (wrap64 (bt287.1 * bt294.1))), wrap64 (t285 + (wrap64 (bt289.1 * bt296.1))), bt298.2)) else (some (t283, t285, wrap64 (t283 + (wrap64 (bt287.1 * (wrap64 (1 + bt292.1))))), wrap64 (t285 + (wrap64 (bt289.1 * (wrap64 (1 + bt292.1))))), wrap64 (t283 + (wrap64 (bt287.1 * bt294.1))), wrap64 (t285 + (wrap64 (bt289.1 * bt296.1))), bt298.2))))))))) = some (r1, r2, r3, r4, r5, r6, r7) := H
  have A7 := Aside0.mk A70
  clear A70
  replace H := Option.bind_eq_some_iff.mp H
  obtain ⟨⟨t287, t288⟩, A80, H⟩ := H
  replace H : ((spec_l6Rd_pick.f k s0_0 t288 3).bind fun bt289 => ((spec_l6Rd_pick.f k s0_0 bt289.2 2).bind fun bt292 => ((spec_l6Rd_pick.f k s0_0 bt292.2 (wrap64 ((wrap64 (1 + bt292.1)) + 1))).bind fun bt294 => ((spec_l6Rd_pick.f k s0_0 bt294.2 (wrap64 ((wrap64 (1 + bt292.1)) + 1))).bind fun bt296 => ((spec_l6Rd_pick.f k s0_0 bt296.2 2).bind fun bt298 => (if bt298.1 = 0 then (some (wrap64 (t283 + (wrap64 (t287 * (wrap64 (1 + bt292.1))))), wrap64 (t285 + (wrap64 (bt289.1 * (wrap64 (1 + bt292.1))))), t283, t285, wrap64 (t283 + (wrap64 (t287 * bt294.1))), wrap64 (t285 + (wrap64 (bt289.1 * bt296.1))), bt298.2)) else (some (t283, t285, wrap64 (t283 + (wrap64 (t287 * (wrap64 (1 + bt292.1))))), wrap64 (t285 + (wrap64 (bt289.1 * (wrap64 (1 + bt292.1))))), wrap64 (t283 + (wrap64 (t287 * bt294.1))), wrap64 (t285 + (wrap64 (bt289.1 * bt296.1))), bt298.2)))))))) = some (r1, r2, r3, r4, r5, r6, r7) := H
  have A8 := Aside0.mk A80
  clear A80
  replace H := Option.bind_eq_some_iff.mp H
  obtain ⟨⟨t289, t290⟩, A90, H⟩ := H
  replace H : ((spec_l6Rd_pick.f k s0_0 t290 2).bind fun bt292 => ((spec_l6Rd_pick.f k s0_0 bt292.2 (wrap64 ((wrap64 (1 + bt292.1)) + 1))).bind fun bt294 => ((spec_l6Rd_pick.f k s0_0 bt294.2 (wrap64 ((wrap64 (1 + bt292.1)) + 1))).bind fun bt296 => ((spec_l6Rd_pick.f k s0_0 bt296.2 2).bind fun bt298 => (if bt298.1 = 0 then (some (wrap64 (t283 + (wrap64 (t287 * (wrap64 (1 + bt292.1))))), wrap64 (t285 + (wrap64 (t289 * (wrap64 (1 + bt292.1))))), t283, t285, wrap64 (t283 + (wrap64 (t287 * bt294.1))), wrap64 (t285 + (wrap64 (t289 * bt296.1))), bt298.2)) else (some (t283, t285, wrap64 (t283 + (wrap64 (t287 * (wrap64 (1 + bt292.1))))), wrap64 (t285 + (wrap64 (t289 * (wrap64 (1 + bt292.1))))), wrap64 (t283 + (wrap64 (t287 * bt294.1))), wrap64 (t285 + (wrap64 (t289 * bt296.1))), bt298.2))))))) = some (r1, r2, r3, r4, r5, r6, r7) := H
  have A9 := Aside0.mk A90
  clear A90
  replace H := Option.bind_eq_some_iff.mp H
  obtain ⟨⟨t292, t293⟩, A100, H⟩ := H
  replace H : ((spec_l6Rd_pick.f k s0_0 t293 (wrap64 ((wrap64 (1 + t292)) + 1))).bind fun bt294 => ((spec_l6Rd_pick.f k s0_0 bt294.2 (wrap64 ((wrap64 (1 + t292)) + 1))).bind fun bt296 => ((spec_l6Rd_pick.f k s0_0 bt296.2 2).bind fun bt298 => (if bt298.1 = 0 then (some (wrap64 (t283 + (wrap64 (t287 * (wrap64 (1 + t292))))), wrap64 (t285 + (wrap64 (t289 * (wrap64 (1 + t292))))), t283, t285, wrap64 (t283 + (wrap64 (t287 * bt294.1))), wrap64 (t285 + (wrap64 (t289 * bt296.1))), bt298.2)) else (some (t283, t285, wrap64 (t283 + (wrap64 (t287 * (wrap64 (1 + t292))))), wrap64 (t285 + (wrap64 (t289 * (wrap64 (1 + t292))))), wrap64 (t283 + (wrap64 (t287 * bt294.1))), wrap64 (t285 + (wrap64 (t289 * bt296.1))), bt298.2)))))) = some (r1, r2, r3, r4, r5, r6, r7) := H
  have A10 := Aside0.mk A100
  clear A100
  replace H := Option.bind_eq_some_iff.mp H
  obtain ⟨⟨t294, t295⟩, A110, H⟩ := H
  replace H : ((spec_l6Rd_pick.f k s0_0 t295 (wrap64 ((wrap64 (1 + t292)) + 1))).bind fun bt296 => ((spec_l6Rd_pick.f k s0_0 bt296.2 2).bind fun bt298 => (if bt298.1 = 0 then (some (wrap64 (t283 + (wrap64 (t287 * (wrap64 (1 + t292))))), wrap64 (t285 + (wrap64 (t289 * (wrap64 (1 + t292))))), t283, t285, wrap64 (t283 + (wrap64 (t287 * t294))), wrap64 (t285 + (wrap64 (t289 * bt296.1))), bt298.2)) else (some (t283, t285, wrap64 (t283 + (wrap64 (t287 * (wrap64 (1 + t292))))), wrap64 (t285 + (wrap64 (t289 * (wrap64 (1 + t292))))), wrap64 (t283 + (wrap64 (t287 * t294))), wrap64 (t285 + (wrap64 (t289 * bt296.1))), bt298.2))))) = some (r1, r2, r3, r4, r5, r6, r7) := H
  have A11 := Aside0.mk A110
  clear A110
  replace H := Option.bind_eq_some_iff.mp H
  obtain ⟨⟨t296, t297⟩, A120, H⟩ := H
  replace H : ((spec_l6Rd_pick.f k s0_0 t297 2).bind fun bt298 => (if bt298.1 = 0 then (some (wrap64 (t283 + (wrap64 (t287 * (wrap64 (1 + t292))))), wrap64 (t285 + (wrap64 (t289 * (wrap64 (1 + t292))))), t283, t285, wrap64 (t283 + (wrap64 (t287 * t294))), wrap64 (t285 + (wrap64 (t289 * t296))), bt298.2)) else (some (t283, t285, wrap64 (t283 + (wrap64 (t287 * (wrap64 (1 + t292))))), wrap64 (t285 + (wrap64 (t289 * (wrap64 (1 + t292))))), wrap64 (t283 + (wrap64 (t287 * t294))), wrap64 (t285 + (wrap64 (t289 * t296))), bt298.2)))) = some (r1, r2, r3, r4, r5, r6, r7) := H
  have A12 := Aside0.mk A120
  clear A120
  replace H := Option.bind_eq_some_iff.mp H
  obtain ⟨⟨t298, t299⟩, A130, H⟩ := H
  replace H : (if t298 = 0 then (some (wrap64 (t283 + (wrap64 (t287 * (wrap64 (1 + t292))))), wrap64 (t285 + (wrap64 (t289 * (wrap64 (1 + t292))))), t283, t285, wrap64 (t283 + (wrap64 (t287 * t294))), wrap64 (t285 + (wrap64 (t289 * t296))), t299)) else (some (t283, t285, wrap64 (t283 + (wrap64 (t287 * (wrap64 (1 + t292))))), wrap64 (t285 + (wrap64 (t289 * (wrap64 (1 + t292))))), wrap64 (t283 + (wrap64 (t287 * t294))), wrap64 (t285 + (wrap64 (t289 * t296))), t299))) = some (r1, r2, r3, r4, r5, r6, r7) := H
  have A13 := Aside0.mk A130
  clear A130
  by_cases c14 : t298 = 0
  ·
   rw [if_pos c14] at H
   have c14b0 : (t298 == 0) = true := beq_iff_eq.mpr c14
   have c14b1 : (t298 != 0) = false := bne_eq_false_iff_eq.mpr c14
   clear c14
   simp only [Option.some.injEq, Prod.mk.injEq] at H
   obtain ⟨rfl, rfl, rfl, rfl, rfl, rfl, rfl⟩ := H
   go_enter Tryd.func49, Tryd.ntmps49
   try go_wp2_with (first | ((with_reducible refine gate_dst (N := 2) rfl ?_); refine box_event ?hg (N := 2) ?hd (cs := #[.int .i64 0, .int .i64 0, .int .i64 0, .int .i64 0]) (t := 40) ?hr ?_; (case hd => rfl); (case hg => rfl); (case hr => first | (go_simp; done) | (go_simp; rfl)); intro gb269 hg w15 hbox hb; have n0_ := Aside0.mk (IsS96.below (by repeat (first | (with_reducible first | exact HI0.out | apply IsS96.alloc | apply IsS96.drewN | apply IsS96.drew | apply IsS96.set_1) | exact HI0.out)) hb); have n1_ := Aside0.mk (KeepBut.trans (by repeat (first | (with_reducible first | exact HK.out | apply KeepBut.set_ | apply keep_drewN | apply keep_drew | apply keep_alloc) | exact HK.out)) (KeepBut.of_below hb g none) (.inl rfl)); have n2_ := Aside0.mk (below_step (by repeat (first | (with_reducible first | exact HB.out | apply below_alloc | apply pw_below_drewN | apply below_drew1 | refine below_set ?_ (IsS96.ge HI0.out)) | exact HB.out)) hb); have n3_ := Aside0.mk (hbox); have n4_ := Aside0.mk ((by rw [hg]; exact (keep_size (w := w) (g := g) (row := none) (by repeat (first | (with_reducible first | exact HK.out | apply KeepBut.set_ | apply keep_drewN | apply keep_drew | apply keep_alloc) | exact HK.out))) : w.heap.size ≤ gb269)); have n5_ := Aside0.mk ((Nat.le_trans HW0.out (by rw [hg]; exact (keep_size (w := w) (g := g) (row := none) (by repeat (first | (with_reducible first | exact HK.out | apply KeepBut.set_ | apply keep_drewN | apply keep_drew | apply keep_alloc) | exact HK.out))) : w.heap.size ≤ gb269) : w0.heap.size ≤ gb269)); have n6_ := Aside0.mk ((by rw [hg]; exact Nat.ne_of_lt (IsS96.lt (show IsS96 w0 _ g s0_0 s0_1 from by repeat (first | (with_reducible first | exact HI0.out | apply IsS96.alloc | apply IsS96.drewN | apply IsS96.drew | apply IsS96.set_1) | exact HI0.out))) : g ≠ gb269)); have n7_ := Aside0.mk ((by rw [hg]; exact Nat.ne_of_gt (IsS96.lt (show IsS96 w0 _ g s0_0 s0_1 from by repeat (first | (with_reducible first | exact HI0.out | apply IsS96.alloc | apply IsS96.drewN | apply IsS96.drew | apply IsS96.set_1) | exact HI0.out))) : gb269 ≠ g)); clear HI0; clear HK; clear HB; have HI0 := n0_; have HK := n1_; have HB := n2_; have BK269 := n3_; have GW269 := n4_; have GE269 := n5_; have NB0_269 := n6_; have NB269_0 := n7_; clear n0_ n1_ n2_ n3_ n4_ n5_ n6_ n7_; clear hb hbox hg) | ((with_reducible refine gate_dst (N := 3) rfl ?_); refine box_event ?hg (N := 3) ?hd (cs := #[.int .i64 0, .int .i64 0]) (t := 38) ?hr ?_; (case hd => rfl); (case hg => rfl); (case hr => first | (go_simp; done) | (go_simp; rfl)); intro gb270 hg w16 hbox hb; have n0_ := Aside0.mk (IsS96.below (by repeat (first | (with_reducible first | exact HI0.out | apply IsS96.alloc | apply IsS96.drewN | apply IsS96.drew | apply IsS96.set_1 | refine IsS96.far ?_ NB0_269.out _) | exact HI0.out)) hb); have n1_ := Aside0.mk (ub_ (g := gb269) hb); have n2_ := Aside0.mk (KeepBut.trans (by repeat (first | (with_reducible first | exact HK.out | apply KeepBut.set_ | apply keep_drewN | apply keep_drew | apply keep_alloc | refine keep_far ?_ GW269.out _) | exact HK.out)) (KeepBut.of_below hb g none) (.inl rfl)); have n3_ := Aside0.mk (below_step (by repeat (first | (with_reducible first | exact HB.out | apply below_alloc | apply pw_below_drewN | apply below_drew1 | refine below_set ?_ (IsS96.ge HI0.out) | refine below_set ?_ GE269.out) | exact HB.out)) hb); have n4_ := Aside0.mk (hbox); have n5_ := Aside0.mk ((by rw [hg]; exact (keep_size (w := w) (g := g) (row := none) (by repeat (first | (with_reducible first | exact HK.out | apply KeepBut.set_ | apply keep_drewN | apply keep_drew | apply keep_alloc | refine keep_far ?_ GW269.out _) | exact HK.out))) : w.heap.size ≤ gb270)); have n6_ := Aside0.mk ((Nat.le_trans HW0.out (by rw [hg]; exact (keep_size (w := w) (g := g) (row := none) (by repeat (first | (with_reducible first | exact HK.out | apply KeepBut.set_ | apply keep_drewN | apply keep_drew | apply keep_alloc | refine keep_far ?_ GW269.out _) | exact HK.out))) : w.heap.size ≤ gb270) : w0.heap.size ≤ gb270)); have n7_ := Aside0.mk ((by rw [hg]; exact Nat.ne_of_lt (blk_lt (g := gb269) (o := .cells #[.int .i64 0, .int .i64 0, .int .i64 0, .int .i64 0] 40 (0, 0)) uq_) : gb269 ≠ gb270)); have n8_ := Aside0.mk ((by rw [hg]; exact Nat.ne_of_gt (blk_lt (g := gb269) (o := .cells #[.int .i64 0, .int .i64 0, .int .i64 0, .int .i64 0] 40 (0, 0)) uq_) : gb270 ≠ gb269)); have n9_ := Aside0.mk ((by rw [hg]; exact Nat.ne_of_lt (IsS96.lt (show IsS96 w0 _ g s0_0 s0_1 from by repeat (first | (with_reducible first | exact HI0.out | apply IsS96.alloc | apply IsS96.drewN | apply IsS96.drew | apply IsS96.set_1 | refine IsS96.far ?_ NB0_269.out _) | exact HI0.out))) : g ≠ gb270)); have n10_ := Aside0.mk ((by rw [hg]; exact Nat.ne_of_gt (IsS96.lt (show IsS96 w0 _ g s0_0 s0_1 from by repeat (first | (with_reducible first | exact HI0.out | apply IsS96.alloc | apply IsS96.drewN | apply IsS96.drew | apply IsS96.set_1 | refine IsS96.far ?_ NB0_269.out _) | exact HI0.out))) : gb270 ≠ g)); clear HI0; clear BK269; clear HK; clear HB; have HI0 := n0_; have BK269 := n1_; have HK := n2_; have HB := n3_; have BK270 := n4_; have GW270 := n5_; have GE270 := n6_; have NB269_270 := n7_; have NB270_269 := n8_; have NB0_270 := n9_; have NB270_0 := n10_; clear n0_ n1_ n2_ n3_ n4_ n5_ n6_ n7_ n8_ n9_ n10_; clear hb hbox hg) | ((with_reducible refine gate_callee (f := 50) rfl ?_); refine goesL_ (some 9) rfl rfl Tryd.func50 (by kernel_rfl) rfl #[.pointer (some ⟨g, 0, none⟩)] rfl ma_ ?_; (with_reducible refine (spec_l71Seg.calls k g s0_0 s0_1 t271 t272 t273 t274 t275 w0 _ ?side1 ?side2 A2.out).mono ?_); (case side1 => repeat (first | (with_reducible first | exact HI0.out | apply IsS96.alloc | apply IsS96.drewN | apply IsS96.drew | apply IsS96.set_1 | refine IsS96.far ?_ NB0_269.out _ | refine IsS96.far ?_ NB0_270.out _) | exact HI0.out)); (case side2 => repeat (first | (with_reducible first | exact HB.out | apply below_alloc | apply pw_below_drewN | apply below_drew1 | refine below_set ?_ (IsS96.ge HI0.out) | refine below_set ?_ GE269.out | refine below_set ?_ GE270.out) | exact HB.out)); rintro e w17 ⟨rfl, hi, hb, hk⟩; refine ⟨_, rfl, ?_⟩; have n0_ := Aside0.mk (KeepBut.blk hk (g' := gb269) (o := .cells #[.int .i64 0, .int .i64 0, .int .i64 0, .int .i64 0] 40 (0, 0)) uq_ NB269_0.out (by simp)); have n1_ := Aside0.mk (KeepBut.blk hk (g' := gb270) (o := .cells #[.int .i64 0, .int .i64 0] 38 (0, 0)) uq_ NB270_0.out (by simp)); have n2_ := Aside0.mk (KeepBut.trans (by repeat (first | (with_reducible first | exact HK.out | apply KeepBut.set_ | apply keep_drewN | apply keep_drew | apply keep_alloc | refine keep_far ?_ GW269.out _ | refine keep_far ?_ GW270.out _) | exact HK.out)) hk (.inl rfl)); have n3_ := Aside0.mk (hb); have n4_ := Aside0.mk (hi); clear BK269; clear BK270; clear HK; clear HB; clear HI0; have BK269 := n0_; have BK270 := n1_; have HK := n2_; have HB := n3_; have HI0 := n4_; clear n0_ n1_ n2_ n3_ n4_; (try clear hb); (try clear hb2); (try clear hk); (try clear hi)) | ((with_reducible refine gate_dst (N := 4) rfl ?_); refine box_event ?hg (N := 4) ?hd (cs := #[.int .i64 0, .int .i64 0, .int .i64 0, .int .i64 0]) (t := 40) ?hr ?_; (case hd => rfl); (case hg => rfl); (case hr => first | (go_simp; done) | (go_simp; rfl)); intro gb276 hg w18 hbox hb; have n0_ := Aside0.mk (IsS96.below (by repeat (first | (with_reducible first | exact HI0.out | apply IsS96.alloc | apply IsS96.drewN | apply IsS96.drew | apply IsS96.set_1 | refine IsS96.far ?_ NB0_269.out _ | refine IsS96.far ?_ NB0_270.out _) | exact HI0.out)) hb); have n1_ := Aside0.mk (ub_ (g := gb269) hb); have n2_ := Aside0.mk (ub_ (g := gb270) hb); have n3_ := Aside0.mk (KeepBut.trans (by repeat (first | (with_reducible first | exact HK.out | apply KeepBut.set_ | apply keep_drewN | apply keep_drew | apply keep_alloc | refine keep_far ?_ GW269.out _ | refine keep_far ?_ GW270.out _) | exact HK.out)) (KeepBut.of_below hb g none) (.inl rfl)); have n4_ := Aside0.mk (below_step (by repeat (first | (with_reducible first | exact HB.out | apply below_alloc | apply pw_below_drewN | apply below_drew1 | refine below_set ?_ (IsS96.ge HI0.out) | refine below_set ?_ GE269.out | refine below_set ?_ GE270.out) | exact HB.out)) hb); have n5_ := Aside0.mk (hbox); have n6_ := Aside0.mk ((by rw [hg]; exact (keep_size (w := w) (g := g) (row := none) (by repeat (first | (with_reducible first | exact HK.out | apply KeepBut.set_ | apply keep_drewN | apply keep_drew | apply keep_alloc | refine keep_far ?_ GW269.out _ | refine keep_far ?_ GW270.out _) | exact HK.out))) : w.heap.size ≤ gb276)); have n7_ := Aside0.mk ((Nat.le_trans HW0.out (by rw [hg]; exact (keep_size (w := w) (g := g) (row := none) (by repeat (first | (with_reducible first | exact HK.out | apply KeepBut.set_ | apply keep_drewN | apply keep_drew | apply keep_alloc | refine keep_far ?_ GW269.out _ | refine keep_far ?_ GW270.out _) | exact HK.out))) : w.heap.size ≤ gb276) : w0.heap.size ≤ gb276)); have n8_ := Aside0.mk ((by rw [hg]; exact Nat.ne_of_lt (blk_lt (g := gb269) (o := .cells #[.int .i64 0, .int .i64 0, .int .i64 0, .int .i64 0] 40 (0, 0)) uq_) : gb269 ≠ gb276)); have n9_ := Aside0.mk ((by rw [hg]; exact Nat.ne_of_gt (blk_lt (g := gb269) (o := .cells #[.int .i64 0, .int .i64 0, .int .i64 0, .int .i64 0] 40 (0, 0)) uq_) : gb276 ≠ gb269)); have n10_ := Aside0.mk ((by rw [hg]; exact Nat.ne_of_lt (blk_lt (g := gb270) (o := .cells #[.int .i64 0, .int .i64 0] 38 (0, 0)) uq_) : gb270 ≠ gb276)); have n11_ := Aside0.mk ((by rw [hg]; exact Nat.ne_of_gt (blk_lt (g := gb270) (o := .cells #[.int .i64 0, .int .i64 0] 38 (0, 0)) uq_) : gb276 ≠ gb270)); have n12_ := Aside0.mk ((by rw [hg]; exact Nat.ne_of_lt (IsS96.lt (show IsS96 w0 _ g s0_0 t275 from by repeat (first | (with_reducible first | exact HI0.out | apply IsS96.alloc | apply IsS96.drewN | apply IsS96.drew | apply IsS96.set_1 | refine IsS96.far ?_ NB0_269.out _ | refine IsS96.far ?_ NB0_270.out _) | exact HI0.out))) : g ≠ gb276)); have n13_ := Aside0.mk ((by rw [hg]; exact Nat.ne_of_gt (IsS96.lt (show IsS96 w0 _ g s0_0 t275 from by repeat (first | (with_reducible first | exact HI0.out | apply IsS96.alloc | apply IsS96.drewN | apply IsS96.drew | apply IsS96.set_1 | refine IsS96.far ?_ NB0_269.out _ | refine IsS96.far ?_ NB0_270.out _) | exact HI0.out))) : gb276 ≠ g)); clear HI0; clear BK269; clear BK270; clear HK; clear HB; have HI0 := n0_; have BK269 := n1_; have BK270 := n2_; have HK := n3_; have HB := n4_; have BK276 := n5_; have GW276 := n6_; have GE276 := n7_; have NB269_276 := n8_; have NB276_269 := n9_; have NB270_276 := n10_; have NB276_270 := n11_; have NB0_276 := n12_; have NB276_0 := n13_; clear n0_ n1_ n2_ n3_ n4_ n5_ n6_ n7_ n8_ n9_ n10_ n11_ n12_ n13_; clear hb hbox hg; have hnb19 := NB276_269.out; have hnc19 := NB269_276.out; have hnb20 := NB276_270.out; have hnc20 := NB270_276.out; have hnb21 := NB276_0.out; have hnc21 := NB0_276.out; have hcz22_0 : w18.cell? ⟨gb276, 0, none⟩ = some (.int .i64 0) := bc_; have hcz22_1 : w18.cell? ⟨gb276, 1, none⟩ = some (.int .i64 0) := bc_; have hcz22_2 : w18.cell? ⟨gb276, 2, none⟩ = some (.int .i64 0) := bc_; have hcz22_3 : w18.cell? ⟨gb276, 3, none⟩ = some (.int .i64 0) := bc_; have hfz22_0 := blk_frozen BK276.out 0; have hfz22_1 := blk_frozen BK276.out 1; have hfz22_2 := blk_frozen BK276.out 2; have hfz22_3 := blk_frozen BK276.out 3) | ((with_reducible refine gate_callee (f := 51) rfl ?_); refine goesL_ (some 11) rfl rfl Tryd.func51 (by kernel_rfl) rfl #[.pointer (some ⟨g, 0, none⟩)] rfl ma_ ?_; (with_reducible refine (spec_l71Pt.calls k g s0_0 t275 t277 t278 t279 w0 _ ?side1 ?side2 A3.out).mono ?_); (case side1 => repeat (first | (with_reducible first | exact HI0.out | apply IsS96.alloc | apply IsS96.drewN | apply IsS96.drew | apply IsS96.set_1 | refine IsS96.far ?_ NB0_269.out _ | refine IsS96.far ?_ NB0_270.out _ | refine IsS96.far ?_ NB0_276.out _) | exact HI0.out)); (case side2 => repeat (first | (with_reducible first | exact HB.out | apply below_alloc | apply pw_below_drewN | apply below_drew1 | refine below_set ?_ (IsS96.ge HI0.out) | refine below_set ?_ GE269.out | refine below_set ?_ GE270.out | refine below_set ?_ GE276.out) | exact HB.out)); rintro e w23 ⟨rfl, hi, hb, hk⟩; refine ⟨_, rfl, ?_⟩; have n0_ := Aside0.mk (KeepBut.blk hk (g' := gb269) (o := .cells #[.int .i64 0, .int .i64 0, .int .i64 0, .int .i64 0] 40 (0, 0)) (by (with_reducible repeat (first | refine blk_drewN ?_ _ | refine blk_drew ?_ | refine blk_alloc ?_ _)); refine blk_far ?_ NB269_276.out _; (with_reducible repeat (first | refine blk_drewN ?_ _ | refine blk_drew ?_ | refine blk_alloc ?_ _)); refine blk_far ?_ NB269_276.out _; (with_reducible repeat (first | refine blk_drewN ?_ _ | refine blk_drew ?_ | refine blk_alloc ?_ _)); refine blk_far ?_ NB269_276.out _; (with_reducible repeat (first | refine blk_drewN ?_ _ | refine blk_drew ?_ | refine blk_alloc ?_ _)); refine blk_far ?_ NB269_276.out _; (with_reducible repeat (first | refine blk_drewN ?_ _ | refine blk_drew ?_ | refine blk_alloc ?_ _)); exact BK269.out) NB269_0.out (by simp)); have n1_ := Aside0.mk (KeepBut.blk hk (g' := gb270) (o := .cells #[.int .i64 0, .int .i64 0] 38 (0, 0)) (by (with_reducible repeat (first | refine blk_drewN ?_ _ | refine blk_drew ?_ | refine blk_alloc ?_ _)); refine blk_far ?_ NB270_276.out _; (with_reducible repeat (first | refine blk_drewN ?_ _ | refine blk_drew ?_ | refine blk_alloc ?_ _)); refine blk_far ?_ NB270_276.out _; (with_reducible repeat (first | refine blk_drewN ?_ _ | refine blk_drew ?_ | refine blk_alloc ?_ _)); refine blk_far ?_ NB270_276.out _; (with_reducible repeat (first | refine blk_drewN ?_ _ | refine blk_drew ?_ | refine blk_alloc ?_ _)); refine blk_far ?_ NB270_276.out _; (with_reducible repeat (first | refine blk_drewN ?_ _ | refine blk_drew ?_ | refine blk_alloc ?_ _)); exact BK270.out) NB270_0.out (by simp)); have n2_ := Aside0.mk (KeepBut.blk hk (g' := gb276) (o := .cells #[.int .i64 t271, .int .i64 t272, .int .i64 t273, .int .i64 t274] 40 (0, 0)) (by (with_reducible repeat (first | refine blk_drewN ?_ _ | refine blk_drew ?_ | refine blk_alloc ?_ _)); refine blk_put (cs := #[.int .i64 t271, .int .i64 t272, .int .i64 t273, .int .i64 0]) ?_ 3 _ rfl; (with_reducible repeat (first | refine blk_drewN ?_ _ | refine blk_drew ?_ | refine blk_alloc ?_ _)); refine blk_put (cs := #[.int .i64 t271, .int .i64 t272, .int .i64 0, .int .i64 0]) ?_ 2 _ rfl; (with_reducible repeat (first | refine blk_drewN ?_ _ | refine blk_drew ?_ | refine blk_alloc ?_ _)); refine blk_put (cs := #[.int .i64 t271, .int .i64 0, .int .i64 0, .int .i64 0]) ?_ 1 _ rfl; (with_reducible repeat (first | refine blk_drewN ?_ _ | refine blk_drew ?_ | refine blk_alloc ?_ _)); refine blk_put (cs := #[.int .i64 0, .int .i64 0, .int .i64 0, .int .i64 0]) ?_ 0 _ rfl; (with_reducible repeat (first | refine blk_drewN ?_ _ | refine blk_drew ?_ | refine blk_alloc ?_ _)); exact BK276.out) NB276_0.out (by simp)); have n3_ := Aside0.mk (KeepBut.trans (by repeat (first | (with_reducible first | exact HK.out | apply KeepBut.set_ | apply keep_drewN | apply keep_drew | apply keep_alloc | refine keep_far ?_ GW269.out _ | refine keep_far ?_ GW270.out _ | refine keep_far ?_ GW276.out _) | exact HK.out)) hk (.inl rfl)); have n4_ := Aside0.mk (hb); have n5_ := Aside0.mk (hi); clear BK269; clear BK270; clear BK276; clear HK; clear HB; clear HI0; have BK269 := n0_; have BK270 := n1_; have BK276 := n2_; have HK := n3_; have HB := n4_; have HI0 := n5_; clear n0_ n1_ n2_ n3_ n4_ n5_; (try clear hb); (try clear hb2); (try clear hk); (try clear hi)) | ((with_reducible refine gate_dst (N := 5) rfl ?_); refine box_event ?hg (N := 5) ?hd (cs := #[.int .i64 0, .int .i64 0]) (t := 38) ?hr ?_; (case hd => rfl); (case hg => rfl); (case hr => first | (go_simp; done) | (go_simp; rfl)); intro gb280 hg w24 hbox hb; have n0_ := Aside0.mk (IsS96.below (by repeat (first | (with_reducible first | exact HI0.out | apply IsS96.alloc | apply IsS96.drewN | apply IsS96.drew | apply IsS96.set_1 | refine IsS96.far ?_ NB0_269.out _ | refine IsS96.far ?_ NB0_270.out _ | refine IsS96.far ?_ NB0_276.out _) | exact HI0.out)) hb); have n1_ := Aside0.mk (ub_ (g := gb269) hb); have n2_ := Aside0.mk (ub_ (g := gb270) hb); have n3_ := Aside0.mk (ub_ (g := gb276) hb); have n4_ := Aside0.mk (KeepBut.trans (by repeat (first | (with_reducible first | exact HK.out | apply KeepBut.set_ | apply keep_drewN | apply keep_drew | apply keep_alloc | refine keep_far ?_ GW269.out _ | refine keep_far ?_ GW270.out _ | refine keep_far ?_ GW276.out _) | exact HK.out)) (KeepBut.of_below hb g none) (.inl rfl)); have n5_ := Aside0.mk (below_step (by repeat (first | (with_reducible first | exact HB.out | apply below_alloc | apply pw_below_drewN | apply below_drew1 | refine below_set ?_ (IsS96.ge HI0.out) | refine below_set ?_ GE269.out | refine below_set ?_ GE270.out | refine below_set ?_ GE276.out) | exact HB.out)) hb); have n6_ := Aside0.mk (hbox); have n7_ := Aside0.mk ((by rw [hg]; exact (keep_size (w := w) (g := g) (row := none) (by repeat (first | (with_reducible first | exact HK.out | apply KeepBut.set_ | apply keep_drewN | apply keep_drew | apply keep_alloc | refine keep_far ?_ GW269.out _ | refine keep_far ?_ GW270.out _ | refine keep_far ?_ GW276.out _) | exact HK.out))) : w.heap.size ≤ gb280)); have n8_ := Aside0.mk ((Nat.le_trans HW0.out (by rw [hg]; exact (keep_size (w := w) (g := g) (row := none) (by repeat (first | (with_reducible first | exact HK.out | apply KeepBut.set_ | apply keep_drewN | apply keep_drew | apply keep_alloc | refine keep_far ?_ GW269.out _ | refine keep_far ?_ GW270.out _ | refine keep_far ?_ GW276.out _) | exact HK.out))) : w.heap.size ≤ gb280) : w0.heap.size ≤ gb280)); have n9_ := Aside0.mk ((by rw [hg]; exact Nat.ne_of_lt (blk_lt (g := gb269) (o := .cells #[.int .i64 0, .int .i64 0, .int .i64 0, .int .i64 0] 40 (0, 0)) uq_) : gb269 ≠ gb280)); have n10_ := Aside0.mk ((by rw [hg]; exact Nat.ne_of_gt (blk_lt (g := gb269) (o := .cells #[.int .i64 0, .int .i64 0, .int .i64 0, .int .i64 0] 40 (0, 0)) uq_) : gb280 ≠ gb269)); have n11_ := Aside0.mk ((by rw [hg]; exact Nat.ne_of_lt (blk_lt (g := gb270) (o := .cells #[.int .i64 0, .int .i64 0] 38 (0, 0)) uq_) : gb270 ≠ gb280)); have n12_ := Aside0.mk ((by rw [hg]; exact Nat.ne_of_gt (blk_lt (g := gb270) (o := .cells #[.int .i64 0, .int .i64 0] 38 (0, 0)) uq_) : gb280 ≠ gb270)); have n13_ := Aside0.mk ((by rw [hg]; exact Nat.ne_of_lt (blk_lt (g := gb276) (o := .cells #[.int .i64 t271, .int .i64 t272, .int .i64 t273, .int .i64 t274] 40 (0, 0)) uq_) : gb276 ≠ gb280)); have n14_ := Aside0.mk ((by rw [hg]; exact Nat.ne_of_gt (blk_lt (g := gb276) (o := .cells #[.int .i64 t271, .int .i64 t272, .int .i64 t273, .int .i64 t274] 40 (0, 0)) uq_) : gb280 ≠ gb276)); have n15_ := Aside0.mk ((by rw [hg]; exact Nat.ne_of_lt (IsS96.lt (show IsS96 w0 _ g s0_0 t279 from by repeat (first | (with_reducible first | exact HI0.out | apply IsS96.alloc | apply IsS96.drewN | apply IsS96.drew | apply IsS96.set_1 | refine IsS96.far ?_ NB0_269.out _ | refine IsS96.far ?_ NB0_270.out _ | refine IsS96.far ?_ NB0_276.out _) | exact HI0.out))) : g ≠ gb280)); have n16_ := Aside0.mk ((by rw [hg]; exact Nat.ne_of_gt (IsS96.lt (show IsS96 w0 _ g s0_0 t279 from by repeat (first | (with_reducible first | exact HI0.out | apply IsS96.alloc | apply IsS96.drewN | apply IsS96.drew | apply IsS96.set_1 | refine IsS96.far ?_ NB0_269.out _ | refine IsS96.far ?_ NB0_270.out _ | refine IsS96.far ?_ NB0_276.out _) | exact HI0.out))) : gb280 ≠ g)); clear HI0; clear BK269; clear BK270; clear BK276; clear HK; clear HB; have HI0 := n0_; have BK269 := n1_; have BK270 := n2_; have BK276 := n3_; have HK := n4_; have HB := n5_; have BK280 := n6_; have GW280 := n7_; have GE280 := n8_; have NB269_280 := n9_; have NB280_269 := n10_; have NB270_280 := n11_; have NB280_270 := n12_; have NB276_280 := n13_; have NB280_276 := n14_; have NB0_280 := n15_; have NB280_0 := n16_; clear n0_ n1_ n2_ n3_ n4_ n5_ n6_ n7_ n8_ n9_ n10_ n11_ n12_ n13_ n14_ n15_ n16_; clear hb hbox hg; have hnb25 := NB280_269.out; have hnc25 := NB269_280.out; have hnb26 := NB280_270.out; have hnc26 := NB270_280.out; have hnb27 := NB280_276.out; have hnc27 := NB276_280.out; have hnb28 := NB280_0.out; have hnc28 := NB0_280.out; have hcz29_0 : w24.cell? ⟨gb280, 0, none⟩ = some (.int .i64 0) := bc_; have hcz29_1 : w24.cell? ⟨gb280, 1, none⟩ = some (.int .i64 0) := bc_; have hfz29_0 := blk_frozen BK280.out 0; have hfz29_1 := blk_frozen BK280.out 1) | ((with_reducible refine gate_callee (f := 48) rfl ?_); refine goesL_ (some 13) rfl rfl Tryd.func48 (by kernel_rfl) rfl #[.pointer (some ⟨g, 0, none⟩), .int .i64 3] rfl ma_ ?_; (with_reducible refine (spec_l6Rd_pick.calls k g s0_0 t279 3 t281 t282 w0 _ ?side1 ?side2 A4.out).mono ?_); (case side1 => repeat (first | (with_reducible first | exact HI0.out | apply IsS96.alloc | apply IsS96.drewN | apply IsS96.drew | apply IsS96.set_1 | refine IsS96.far ?_ NB0_269.out _ | refine IsS96.far ?_ NB0_270.out _ | refine IsS96.far ?_ NB0_276.out _ | refine IsS96.far ?_ NB0_280.out _) | exact HI0.out)); (case side2 => repeat (first | (with_reducible first | exact HB.out | apply below_alloc | apply pw_below_drewN | apply below_drew1 | refine below_set ?_ (IsS96.ge HI0.out) | refine below_set ?_ GE269.out | refine below_set ?_ GE270.out | refine below_set ?_ GE276.out | refine below_set ?_ GE280.out) | exact HB.out)); rintro e w30 ⟨rfl, hi, hb, hk⟩; refine ⟨_, rfl, ?_⟩; have n0_ := Aside0.mk (KeepBut.blk hk (g' := gb269) (o := .cells #[.int .i64 0, .int .i64 0, .int .i64 0, .int .i64 0] 40 (0, 0)) (by (with_reducible repeat (first | refine blk_drewN ?_ _ | refine blk_drew ?_ | refine blk_alloc ?_ _)); refine blk_far ?_ NB269_280.out _; (with_reducible repeat (first | refine blk_drewN ?_ _ | refine blk_drew ?_ | refine blk_alloc ?_ _)); refine blk_far ?_ NB269_280.out _; (with_reducible repeat (first | refine blk_drewN ?_ _ | refine blk_drew ?_ | refine blk_alloc ?_ _)); exact BK269.out) NB269_0.out (by simp)); have n1_ := Aside0.mk (KeepBut.blk hk (g' := gb270) (o := .cells #[.int .i64 0, .int .i64 0] 38 (0, 0)) (by (with_reducible repeat (first | refine blk_drewN ?_ _ | refine blk_drew ?_ | refine blk_alloc ?_ _)); refine blk_far ?_ NB270_280.out _; (with_reducible repeat (first | refine blk_drewN ?_ _ | refine blk_drew ?_ | refine blk_alloc ?_ _)); refine blk_far ?_ NB270_280.out _; (with_reducible repeat (first | refine blk_drewN ?_ _ | refine blk_drew ?_ | refine blk_alloc ?_ _)); exact BK270.out) NB270_0.out (by simp)); have n2_ := Aside0.mk (KeepBut.blk hk (g' := gb276) (o := .cells #[.int .i64 t271, .int .i64 t272, .int .i64 t273, .int .i64 t274] 40 (0, 0)) (by (with_reducible repeat (first | refine blk_drewN ?_ _ | refine blk_drew ?_ | refine blk_alloc ?_ _)); refine blk_far ?_ NB276_280.out _; (with_reducible repeat (first | refine blk_drewN ?_ _ | refine blk_drew ?_ | refine blk_alloc ?_ _)); refine blk_far ?_ NB276_280.out _; (with_reducible repeat (first | refine blk_drewN ?_ _ | refine blk_drew ?_ | refine blk_alloc ?_ _)); exact BK276.out) NB276_0.out (by simp)); have n3_ := Aside0.mk (KeepBut.blk hk (g' := gb280) (o := .cells #[.int .i64 t277, .int .i64 t278] 38 (0, 0)) (by (with_reducible repeat (first | refine blk_drewN ?_ _ | refine blk_drew ?_ | refine blk_alloc ?_ _)); refine blk_put (cs := #[.int .i64 t277, .int .i64 0]) ?_ 1 _ rfl; (with_reducible repeat (first | refine blk_drewN ?_ _ | refine blk_drew ?_ | refine blk_alloc ?_ _)); refine blk_put (cs := #[.int .i64 0, .int .i64 0]) ?_ 0 _ rfl; (with_reducible repeat (first | refine blk_drewN ?_ _ | refine blk_drew ?_ | refine blk_alloc ?_ _)); exact BK280.out) NB280_0.out (by simp)); have n4_ := Aside0.mk (KeepBut.trans (by repeat (first | (with_reducible first | exact HK.out | apply KeepBut.set_ | apply keep_drewN | apply keep_drew | apply keep_alloc | refine keep_far ?_ GW269.out _ | refine keep_far ?_ GW270.out _ | refine keep_far ?_ GW276.out _ | refine keep_far ?_ GW280.out _) | exact HK.out)) hk (.inl rfl)); have n5_ := Aside0.mk (hb); have n6_ := Aside0.mk (hi); clear BK269; clear BK270; clear BK276; clear BK280; clear HK; clear HB; clear HI0; have BK269 := n0_; have BK270 := n1_; have BK276 := n2_; have BK280 := n3_; have HK := n4_; have HB := n5_; have HI0 := n6_; clear n0_ n1_ n2_ n3_ n4_ n5_ n6_; (try clear hb); (try clear hb2); (try clear hk); (try clear hi)) | ((with_reducible refine gate_callee (f := 48) rfl ?_); refine goesL_ (some 16) rfl rfl Tryd.func48 (by kernel_rfl) rfl #[.pointer (some ⟨g, 0, none⟩), .int .i64 5] rfl ma_ ?_; (with_reducible refine (spec_l6Rd_pick.calls k g s0_0 t282 5 t283 t284 w0 _ ?side1 ?side2 A6.out).mono ?_); (case side1 => repeat (first | (with_reducible first | exact HI0.out | apply IsS96.alloc | apply IsS96.drewN | apply IsS96.drew | apply IsS96.set_1 | refine IsS96.far ?_ NB0_269.out _ | refine IsS96.far ?_ NB0_270.out _ | refine IsS96.far ?_ NB0_276.out _ | refine IsS96.far ?_ NB0_280.out _) | exact HI0.out)); (case side2 => repeat (first | (with_reducible first | exact HB.out | apply below_alloc | apply pw_below_drewN | apply below_drew1 | refine below_set ?_ (IsS96.ge HI0.out) | refine below_set ?_ GE269.out | refine below_set ?_ GE270.out | refine below_set ?_ GE276.out | refine below_set ?_ GE280.out) | exact HB.out)); rintro e w31 ⟨rfl, hi, hb, hk⟩; refine ⟨_, rfl, ?_⟩; have n0_ := Aside0.mk (KeepBut.blk hk (g' := gb269) (o := .cells #[.int .i64 0, .int .i64 0, .int .i64 0, .int .i64 0] 40 (0, 0)) uq_ NB269_0.out (by simp)); have n1_ := Aside0.mk (KeepBut.blk hk (g' := gb270) (o := .cells #[.int .i64 0, .int .i64 0] 38 (0, 0)) uq_ NB270_0.out (by simp)); have n2_ := Aside0.mk (KeepBut.blk hk (g' := gb276) (o := .cells #[.int .i64 t271, .int .i64 t272, .int .i64 t273, .int .i64 t274] 40 (0, 0)) uq_ NB276_0.out (by simp)); have n3_ := Aside0.mk (KeepBut.blk hk (g' := gb280) (o := .cells #[.int .i64 t277, .int .i64 t278] 38 (0, 0)) uq_ NB280_0.out (by simp)); have n4_ := Aside0.mk (KeepBut.trans (by repeat (first | (with_reducible first | exact HK.out | apply KeepBut.set_ | apply keep_drewN | apply keep_drew | apply keep_alloc | refine keep_far ?_ GW269.out _ | refine keep_far ?_ GW270.out _ | refine keep_far ?_ GW276.out _ | refine keep_far ?_ GW280.out _) | exact HK.out)) hk (.inl rfl)); have n5_ := Aside0.mk (hb); have n6_ := Aside0.mk (hi); clear BK269; clear BK270; clear BK276; clear BK280; clear HK; clear HB; clear HI0; have BK269 := n0_; have BK270 := n1_; have BK276 := n2_; have BK280 := n3_; have HK := n4_; have HB := n5_; have HI0 := n6_; clear n0_ n1_ n2_ n3_ n4_ n5_ n6_; (try clear hb); (try clear hb2); (try clear hk); (try clear hi)) | ((with_reducible refine gate_callee (f := 48) rfl ?_); refine goesL_ (some 18) rfl rfl Tryd.func48 (by kernel_rfl) rfl #[.pointer (some ⟨g, 0, none⟩), .int .i64 5] rfl ma_ ?_; (with_reducible refine (spec_l6Rd_pick.calls k g s0_0 t284 5 t285 t286 w0 _ ?side1 ?side2 A7.out).mono ?_); (case side1 => repeat (first | (with_reducible first | exact HI0.out | apply IsS96.alloc | apply IsS96.drewN | apply IsS96.drew | apply IsS96.set_1 | refine IsS96.far ?_ NB0_269.out _ | refine IsS96.far ?_ NB0_270.out _ | refine IsS96.far ?_ NB0_276.out _ | refine IsS96.far ?_ NB0_280.out _) | exact HI0.out)); (case side2 => repeat (first | (with_reducible first | exact HB.out | apply below_alloc | apply pw_below_drewN | apply below_drew1 | refine below_set ?_ (IsS96.ge HI0.out) | refine below_set ?_ GE269.out | refine below_set ?_ GE270.out | refine below_set ?_ GE276.out | refine below_set ?_ GE280.out) | exact HB.out)); rintro e w32 ⟨rfl, hi, hb, hk⟩; refine ⟨_, rfl, ?_⟩; have n0_ := Aside0.mk (KeepBut.blk hk (g' := gb269) (o := .cells #[.int .i64 0, .int .i64 0, .int .i64 0, .int .i64 0] 40 (0, 0)) uq_ NB269_0.out (by simp)); have n1_ := Aside0.mk (KeepBut.blk hk (g' := gb270) (o := .cells #[.int .i64 0, .int .i64 0] 38 (0, 0)) uq_ NB270_0.out (by simp)); have n2_ := Aside0.mk (KeepBut.blk hk (g' := gb276) (o := .cells #[.int .i64 t271, .int .i64 t272, .int .i64 t273, .int .i64 t274] 40 (0, 0)) uq_ NB276_0.out (by simp)); have n3_ := Aside0.mk (KeepBut.blk hk (g' := gb280) (o := .cells #[.int .i64 t277, .int .i64 t278] 38 (0, 0)) uq_ NB280_0.out (by simp)); have n4_ := Aside0.mk (KeepBut.trans (by repeat (first | (with_reducible first | exact HK.out | apply KeepBut.set_ | apply keep_drewN | apply keep_drew | apply keep_alloc | refine keep_far ?_ GW269.out _ | refine keep_far ?_ GW270.out _ | refine keep_far ?_ GW276.out _ | refine keep_far ?_ GW280.out _) | exact HK.out)) hk (.inl rfl)); have n5_ := Aside0.mk (hb); have n6_ := Aside0.mk (hi); clear BK269; clear BK270; clear BK276; clear BK280; clear HK; clear HB; clear HI0; have BK269 := n0_; have BK270 := n1_; have BK276 := n2_; have BK280 := n3_; have HK := n4_; have HB := n5_; have HI0 := n6_; clear n0_ n1_ n2_ n3_ n4_ n5_ n6_; (try clear hb); (try clear hb2); (try clear hk); (try clear hi); have hcz33_0 : w32.cell? ⟨gb276, 0, none⟩ = some (.int .i64 t271) := bc_; have hcz33_1 : w32.cell? ⟨gb276, 1, none⟩ = some (.int .i64 t272) := bc_; have hcz33_2 : w32.cell? ⟨gb276, 2, none⟩ = some (.int .i64 t273) := bc_; have hcz33_3 : w32.cell? ⟨gb276, 3, none⟩ = some (.int .i64 t274) := bc_; have hfz33_0 := blk_frozen BK276.out 0; have hfz33_1 := blk_frozen BK276.out 1; have hfz33_2 := blk_frozen BK276.out 2; have hfz33_3 := blk_frozen BK276.out 3) | ((with_reducible refine gate_callee (f := 48) rfl ?_); refine goesL_ (some 22) rfl rfl Tryd.func48 (by kernel_rfl) rfl #[.pointer (some ⟨g, 0, none⟩), .int .i64 3] rfl ma_ ?_; (with_reducible refine (spec_l6Rd_pick.calls k g s0_0 t286 3 t287 t288 w0 _ ?side1 ?side2 A8.out).mono ?_); (case side1 => repeat (first | (with_reducible first | exact HI0.out | apply IsS96.alloc | apply IsS96.drewN | apply IsS96.drew | apply IsS96.set_1 | refine IsS96.far ?_ NB0_269.out _ | refine IsS96.far ?_ NB0_270.out _ | refine IsS96.far ?_ NB0_276.out _ | refine IsS96.far ?_ NB0_280.out _) | exact HI0.out)); (case side2 => repeat (first | (with_reducible first | exact HB.out | apply below_alloc | apply pw_below_drewN | apply below_drew1 | refine below_set ?_ (IsS96.ge HI0.out) | refine below_set ?_ GE269.out | refine below_set ?_ GE270.out | refine below_set ?_ GE276.out | refine below_set ?_ GE280.out) | exact HB.out)); rintro e w34 ⟨rfl, hi, hb, hk⟩; refine ⟨_, rfl, ?_⟩; have n0_ := Aside0.mk (KeepBut.blk hk (g' := gb269) (o := .cells #[.int .i64 0, .int .i64 0, .int .i64 0, .int .i64 0] 40 (0, 0)) (by (with_reducible repeat (first | refine blk_drewN ?_ _ | refine blk_drew ?_ | refine blk_alloc ?_ _)); refine blk_far ?_ NB269_276.out _; (with_reducible repeat (first | refine blk_drewN ?_ _ | refine blk_drew ?_ | refine blk_alloc ?_ _)); refine blk_far ?_ NB269_276.out _; (with_reducible repeat (first | refine blk_drewN ?_ _ | refine blk_drew ?_ | refine blk_alloc ?_ _)); exact BK269.out) NB269_0.out (by simp)); have n1_ := Aside0.mk (KeepBut.blk hk (g' := gb270) (o := .cells #[.int .i64 0, .int .i64 0] 38 (0, 0)) (by (with_reducible repeat (first | refine blk_drewN ?_ _ | refine blk_drew ?_ | refine blk_alloc ?_ _)); refine blk_far ?_ NB270_276.out _; (with_reducible repeat (first | refine blk_drewN ?_ _ | refine blk_drew ?_ | refine blk_alloc ?_ _)); refine blk_far ?_ NB270_276.out _; (with_reducible repeat (first | refine blk_drewN ?_ _ | refine blk_drew ?_ | refine blk_alloc ?_ _)); exact BK270.out) NB270_0.out (by simp)); have n2_ := Aside0.mk (KeepBut.blk hk (g' := gb276) (o := .cells #[.int .i64 t283, .int .i64 t285, .int .i64 t273, .int .i64 t274] 40 (0, 0)) (by (with_reducible repeat (first | refine blk_drewN ?_ _ | refine blk_drew ?_ | refine blk_alloc ?_ _)); refine blk_put (cs := #[.int .i64 t283, .int .i64 t272, .int .i64 t273, .int .i64 t274]) ?_ 1 _ rfl; (with_reducible repeat (first | refine blk_drewN ?_ _ | refine blk_drew ?_ | refine blk_alloc ?_ _)); refine blk_put (cs := #[.int .i64 t271, .int .i64 t272, .int .i64 t273, .int .i64 t274]) ?_ 0 _ rfl; (with_reducible repeat (first | refine blk_drewN ?_ _ | refine blk_drew ?_ | refine blk_alloc ?_ _)); exact BK276.out) NB276_0.out (by simp)); have n3_ := Aside0.mk (KeepBut.blk hk (g' := gb280) (o := .cells #[.int .i64 t277, .int .i64 t278] 38 (0, 0)) (by (with_reducible repeat (first | refine blk_drewN ?_ _ | refine blk_drew ?_ | refine blk_alloc ?_ _)); refine blk_far ?_ NB280_276.out _; (with_reducible repeat (first | refine blk_drewN ?_ _ | refine blk_drew ?_ | refine blk_alloc ?_ _)); refine blk_far ?_ NB280_276.out _; (with_reducible repeat (first | refine blk_drewN ?_ _ | refine blk_drew ?_ | refine blk_alloc ?_ _)); exact BK280.out) NB280_0.out (by simp)); have n4_ := Aside0.mk (KeepBut.trans (by repeat (first | (with_reducible first | exact HK.out | apply KeepBut.set_ | apply keep_drewN | apply keep_drew | apply keep_alloc | refine keep_far ?_ GW269.out _ | refine keep_far ?_ GW270.out _ | refine keep_far ?_ GW276.out _ | refine keep_far ?_ GW280.out _) | exact HK.out)) hk (.inl rfl)); have n5_ := Aside0.mk (hb); have n6_ := Aside0.mk (hi); clear BK269; clear BK270; clear BK276; clear BK280; clear HK; clear HB; clear HI0; have BK269 := n0_; have BK270 := n1_; have BK276 := n2_; have BK280 := n3_; have HK := n4_; have HB := n5_; have HI0 := n6_; clear n0_ n1_ n2_ n3_ n4_ n5_ n6_; (try clear hb); (try clear hb2); (try clear hk); (try clear hi)) | ((with_reducible refine gate_callee (f := 48) rfl ?_); refine goesL_ (some 24) rfl rfl Tryd.func48 (by kernel_rfl) rfl #[.pointer (some ⟨g, 0, none⟩), .int .i64 3] rfl ma_ ?_; (with_reducible refine (spec_l6Rd_pick.calls k g s0_0 t288 3 t289 t290 w0 _ ?side1 ?side2 A9.out).mono ?_); (case side1 => repeat (first | (with_reducible first | exact HI0.out | apply IsS96.alloc | apply IsS96.drewN | apply IsS96.drew | apply IsS96.set_1 | refine IsS96.far ?_ NB0_269.out _ | refine IsS96.far ?_ NB0_270.out _ | refine IsS96.far ?_ NB0_276.out _ | refine IsS96.far ?_ NB0_280.out _) | exact HI0.out)); (case side2 => repeat (first | (with_reducible first | exact HB.out | apply below_alloc | apply pw_below_drewN | apply below_drew1 | refine below_set ?_ (IsS96.ge HI0.out) | refine below_set ?_ GE269.out | refine below_set ?_ GE270.out | refine below_set ?_ GE276.out | refine below_set ?_ GE280.out) | exact HB.out)); rintro e w35 ⟨rfl, hi, hb, hk⟩; refine ⟨_, rfl, ?_⟩; have n0_ := Aside0.mk (KeepBut.blk hk (g' := gb269) (o := .cells #[.int .i64 0, .int .i64 0, .int .i64 0, .int .i64 0] 40 (0, 0)) uq_ NB269_0.out (by simp)); have n1_ := Aside0.mk (KeepBut.blk hk (g' := gb270) (o := .cells #[.int .i64 0, .int .i64 0] 38 (0, 0)) uq_ NB270_0.out (by simp)); have n2_ := Aside0.mk (KeepBut.blk hk (g' := gb276) (o := .cells #[.int .i64 t283, .int .i64 t285, .int .i64 t273, .int .i64 t274] 40 (0, 0)) uq_ NB276_0.out (by simp)); have n3_ := Aside0.mk (KeepBut.blk hk (g' := gb280) (o := .cells #[.int .i64 t277, .int .i64 t278] 38 (0, 0)) uq_ NB280_0.out (by simp)); have n4_ := Aside0.mk (KeepBut.trans (by repeat (first | (with_reducible first | exact HK.out | apply KeepBut.set_ | apply keep_drewN | apply keep_drew | apply keep_alloc | refine keep_far ?_ GW269.out _ | refine keep_far ?_ GW270.out _ | refine keep_far ?_ GW276.out _ | refine keep_far ?_ GW280.out _) | exact HK.out)) hk (.inl rfl)); have n5_ := Aside0.mk (hb); have n6_ := Aside0.mk (hi); clear BK269; clear BK270; clear BK276; clear BK280; clear HK; clear HB; clear HI0; have BK269 := n0_; have BK270 := n1_; have BK276 := n2_; have BK280 := n3_; have HK := n4_; have HB := n5_; have HI0 := n6_; clear n0_ n1_ n2_ n3_ n4_ n5_ n6_; (try clear hb); (try clear hb2); (try clear hk); (try clear hi)) | ((with_reducible refine gate_dst (N := 6) rfl ?_); refine box_event ?hg (N := 6) ?hd (cs := #[.int .i64 0, .int .i64 0]) (t := 38) ?hr ?_; (case hd => rfl); (case hg => rfl); (case hr => first | (go_simp; done) | (go_simp; rfl)); intro gb291 hg w36 hbox hb; have n0_ := Aside0.mk (IsS96.below (by repeat (first | (with_reducible first | exact HI0.out | apply IsS96.alloc | apply IsS96.drewN | apply IsS96.drew | apply IsS96.set_1 | refine IsS96.far ?_ NB0_269.out _ | refine IsS96.far ?_ NB0_270.out _ | refine IsS96.far ?_ NB0_276.out _ | refine IsS96.far ?_ NB0_280.out _) | exact HI0.out)) hb); have n1_ := Aside0.mk (ub_ (g := gb269) hb); have n2_ := Aside0.mk (ub_ (g := gb270) hb); have n3_ := Aside0.mk (ub_ (g := gb276) hb); have n4_ := Aside0.mk (ub_ (g := gb280) hb); have n5_ := Aside0.mk (KeepBut.trans (by repeat (first | (with_reducible first | exact HK.out | apply KeepBut.set_ | apply keep_drewN | apply keep_drew | apply keep_alloc | refine keep_far ?_ GW269.out _ | refine keep_far ?_ GW270.out _ | refine keep_far ?_ GW276.out _ | refine keep_far ?_ GW280.out _) | exact HK.out)) (KeepBut.of_below hb g none) (.inl rfl)); have n6_ := Aside0.mk (below_step (by repeat (first | (with_reducible first | exact HB.out | apply below_alloc | apply pw_below_drewN | apply below_drew1 | refine below_set ?_ (IsS96.ge HI0.out) | refine below_set ?_ GE269.out | refine below_set ?_ GE270.out | refine below_set ?_ GE276.out | refine below_set ?_ GE280.out) | exact HB.out)) hb); have n7_ := Aside0.mk (hbox); have n8_ := Aside0.mk ((by rw [hg]; exact (keep_size (w := w) (g := g) (row := none) (by repeat (first | (with_reducible first | exact HK.out | apply KeepBut.set_ | apply keep_drewN | apply keep_drew | apply keep_alloc | refine keep_far ?_ GW269.out _ | refine keep_far ?_ GW270.out _ | refine keep_far ?_ GW276.out _ | refine keep_far ?_ GW280.out _) | exact HK.out))) : w.heap.size ≤ gb291)); have n9_ := Aside0.mk ((Nat.le_trans HW0.out (by rw [hg]; exact (keep_size (w := w) (g := g) (row := none) (by repeat (first | (with_reducible first | exact HK.out | apply KeepBut.set_ | apply keep_drewN | apply keep_drew | apply keep_alloc | refine keep_far ?_ GW269.out _ | refine keep_far ?_ GW270.out _ | refine keep_far ?_ GW276.out _ | refine keep_far ?_ GW280.out _) | exact HK.out))) : w.heap.size ≤ gb291) : w0.heap.size ≤ gb291)); have n10_ := Aside0.mk ((by rw [hg]; exact Nat.ne_of_lt (blk_lt (g := gb269) (o := .cells #[.int .i64 0, .int .i64 0, .int .i64 0, .int .i64 0] 40 (0, 0)) uq_) : gb269 ≠ gb291)); have n11_ := Aside0.mk ((by rw [hg]; exact Nat.ne_of_gt (blk_lt (g := gb269) (o := .cells #[.int .i64 0, .int .i64 0, .int .i64 0, .int .i64 0] 40 (0, 0)) uq_) : gb291 ≠ gb269)); have n12_ := Aside0.mk ((by rw [hg]; exact Nat.ne_of_lt (blk_lt (g := gb270) (o := .cells #[.int .i64 0, .int .i64 0] 38 (0, 0)) uq_) : gb270 ≠ gb291)); have n13_ := Aside0.mk ((by rw [hg]; exact Nat.ne_of_gt (blk_lt (g := gb270) (o := .cells #[.int .i64 0, .int .i64 0] 38 (0, 0)) uq_) : gb291 ≠ gb270)); have n14_ := Aside0.mk ((by rw [hg]; exact Nat.ne_of_lt (blk_lt (g := gb276) (o := .cells #[.int .i64 t283, .int .i64 t285, .int .i64 t273, .int .i64 t274] 40 (0, 0)) uq_) : gb276 ≠ gb291)); have n15_ := Aside0.mk ((by rw [hg]; exact Nat.ne_of_gt (blk_lt (g := gb276) (o := .cells #[.int .i64 t283, .int .i64 t285, .int .i64 t273, .int .i64 t274] 40 (0, 0)) uq_) : gb291 ≠ gb276)); have n16_ := Aside0.mk ((by rw [hg]; exact Nat.ne_of_lt (blk_lt (g := gb280) (o := .cells #[.int .i64 t277, .int .i64 t278] 38 (0, 0)) uq_) : gb280 ≠ gb291)); have n17_ := Aside0.mk ((by rw [hg]; exact Nat.ne_of_gt (blk_lt (g := gb280) (o := .cells #[.int .i64 t277, .int .i64 t278] 38 (0, 0)) uq_) : gb291 ≠ gb280)); have n18_ := Aside0.mk ((by rw [hg]; exact Nat.ne_of_lt (IsS96.lt (show IsS96 w0 _ g s0_0 t290 from by repeat (first | (with_reducible first | exact HI0.out | apply IsS96.alloc | apply IsS96.drewN | apply IsS96.drew | apply IsS96.set_1 | refine IsS96.far ?_ NB0_269.out _ | refine IsS96.far ?_ NB0_270.out _ | refine IsS96.far ?_ NB0_276.out _ | refine IsS96.far ?_ NB0_280.out _) | exact HI0.out))) : g ≠ gb291)); have n19_ := Aside0.mk ((by rw [hg]; exact Nat.ne_of_gt (IsS96.lt (show IsS96 w0 _ g s0_0 t290 from by repeat (first | (with_reducible first | exact HI0.out | apply IsS96.alloc | apply IsS96.drewN | apply IsS96.drew | apply IsS96.set_1 | refine IsS96.far ?_ NB0_269.out _ | refine IsS96.far ?_ NB0_270.out _ | refine IsS96.far ?_ NB0_276.out _ | refine IsS96.far ?_ NB0_280.out _) | exact HI0.out))) : gb291 ≠ g)); clear HI0; clear BK269; clear BK270; clear BK276; clear BK280; clear HK; clear HB; have HI0 := n0_; have BK269 := n1_; have BK270 := n2_; have BK276 := n3_; have BK280 := n4_; have HK := n5_; have HB := n6_; have BK291 := n7_; have GW291 := n8_; have GE291 := n9_; have NB269_291 := n10_; have NB291_269 := n11_; have NB270_291 := n12_; have NB291_270 := n13_; have NB276_291 := n14_; have NB291_276 := n15_; have NB280_291 := n16_; have NB291_280 := n17_; have NB0_291 := n18_; have NB291_0 := n19_; clear n0_ n1_ n2_ n3_ n4_ n5_ n6_ n7_ n8_ n9_ n10_ n11_ n12_ n13_ n14_ n15_ n16_ n17_ n18_ n19_; clear hb hbox hg; have hnb37 := NB291_269.out; have hnc37 := NB269_291.out; have hnb38 := NB291_270.out; have hnc38 := NB270_291.out; have hnb39 := NB291_276.out; have hnc39 := NB276_291.out; have hnb40 := NB291_280.out; have hnc40 := NB280_291.out; have hnb41 := NB291_0.out; have hnc41 := NB0_291.out; have hcz42_0 : w36.cell? ⟨gb291, 0, none⟩ = some (.int .i64 0) := bc_; have hcz42_1 : w36.cell? ⟨gb291, 1, none⟩ = some (.int .i64 0) := bc_; have hfz42_0 := blk_frozen BK291.out 0; have hfz42_1 := blk_frozen BK291.out 1) | ((with_reducible refine gate_callee (f := 48) rfl ?_); refine goesL_ (some 27) rfl rfl Tryd.func48 (by kernel_rfl) rfl #[.pointer (some ⟨g, 0, none⟩), .int .i64 2] rfl ma_ ?_; (with_reducible refine (spec_l6Rd_pick.calls k g s0_0 t290 2 t292 t293 w0 _ ?side1 ?side2 A10.out).mono ?_); (case side1 => repeat (first | (with_reducible first | exact HI0.out | apply IsS96.alloc | apply IsS96.drewN | apply IsS96.drew | apply IsS96.set_1 | refine IsS96.far ?_ NB0_269.out _ | refine IsS96.far ?_ NB0_270.out _ | refine IsS96.far ?_ NB0_276.out _ | refine IsS96.far ?_ NB0_280.out _ | refine IsS96.far ?_ NB0_291.out _) | exact HI0.out)); (case side2 => repeat (first | (with_reducible first | exact HB.out | apply below_alloc | apply pw_below_drewN | apply below_drew1 | refine below_set ?_ (IsS96.ge HI0.out) | refine below_set ?_ GE269.out | refine below_set ?_ GE270.out | refine below_set ?_ GE276.out | refine below_set ?_ GE280.out | refine below_set ?_ GE291.out) | exact HB.out)); rintro e w43 ⟨rfl, hi, hb, hk⟩; refine ⟨_, rfl, ?_⟩; have n0_ := Aside0.mk (KeepBut.blk hk (g' := gb269) (o := .cells #[.int .i64 0, .int .i64 0, .int .i64 0, .int .i64 0] 40 (0, 0)) (by (with_reducible repeat (first | refine blk_drewN ?_ _ | refine blk_drew ?_ | refine blk_alloc ?_ _)); refine blk_far ?_ NB269_291.out _; (with_reducible repeat (first | refine blk_drewN ?_ _ | refine blk_drew ?_ | refine blk_alloc ?_ _)); refine blk_far ?_ NB269_291.out _; (with_reducible repeat (first | refine blk_drewN ?_ _ | refine blk_drew ?_ | refine blk_alloc ?_ _)); exact BK269.out) NB269_0.out (by simp)); have n1_ := Aside0.mk (KeepBut.blk hk (g' := gb270) (o := .cells #[.int .i64 0, .int .i64 0] 38 (0, 0)) (by (with_reducible repeat (first | refine blk_drewN ?_ _ | refine blk_drew ?_ | refine blk_alloc ?_ _)); refine blk_far ?_ NB270_291.out _; (with_reducible repeat (first | refine blk_drewN ?_ _ | refine blk_drew ?_ | refine blk_alloc ?_ _)); refine blk_far ?_ NB270_291.out _; (with_reducible repeat (first | refine blk_drewN ?_ _ | refine blk_drew ?_ | refine blk_alloc ?_ _)); exact BK270.out) NB270_0.out (by simp)); have n2_ := Aside0.mk (KeepBut.blk hk (g' := gb276) (o := .cells #[.int .i64 t283, .int .i64 t285, .int .i64 t273, .int .i64 t274] 40 (0, 0)) (by (with_reducible repeat (first | refine blk_drewN ?_ _ | refine blk_drew ?_ | refine blk_alloc ?_ _)); refine blk_far ?_ NB276_291.out _; (with_reducible repeat (first | refine blk_drewN ?_ _ | refine blk_drew ?_ | refine blk_alloc ?_ _)); refine blk_far ?_ NB276_291.out _; (with_reducible repeat (first | refine blk_drewN ?_ _ | refine blk_drew ?_ | refine blk_alloc ?_ _)); exact BK276.out) NB276_0.out (by simp)); have n3_ := Aside0.mk (KeepBut.blk hk (g' := gb280) (o := .cells #[.int .i64 t277, .int .i64 t278] 38 (0, 0)) (by (with_reducible repeat (first | refine blk_drewN ?_ _ | refine blk_drew ?_ | refine blk_alloc ?_ _)); refine blk_far ?_ NB280_291.out _; (with_reducible repeat (first | refine blk_drewN ?_ _ | refine blk_drew ?_ | refine blk_alloc ?_ _)); refine blk_far ?_ NB280_291.out _; (with_reducible repeat (first | refine blk_drewN ?_ _ | refine blk_drew ?_ | refine blk_alloc ?_ _)); exact BK280.out) NB280_0.out (by simp)); have n4_ := Aside0.mk (KeepBut.blk hk (g' := gb291) (o := .cells #[.int .i64 t287, .int .i64 t289] 38 (0, 0)) (by (with_reducible repeat (first | refine blk_drewN ?_ _ | refine blk_drew ?_ | refine blk_alloc ?_ _)); refine blk_put (cs := #[.int .i64 t287, .int .i64 0]) ?_ 1 _ rfl; (with_reducible repeat (first | refine blk_drewN ?_ _ | refine blk_drew ?_ | refine blk_alloc ?_ _)); refine blk_put (cs := #[.int .i64 0, .int .i64 0]) ?_ 0 _ rfl; (with_reducible repeat (first | refine blk_drewN ?_ _ | refine blk_drew ?_ | refine blk_alloc ?_ _)); exact BK291.out) NB291_0.out (by simp)); have n5_ := Aside0.mk (KeepBut.trans (by repeat (first | (with_reducible first | exact HK.out | apply KeepBut.set_ | apply keep_drewN | apply keep_drew | apply keep_alloc | refine keep_far ?_ GW269.out _ | refine keep_far ?_ GW270.out _ | refine keep_far ?_ GW276.out _ | refine keep_far ?_ GW280.out _ | refine keep_far ?_ GW291.out _) | exact HK.out)) hk (.inl rfl)); have n6_ := Aside0.mk (hb); have n7_ := Aside0.mk (hi); clear BK269; clear BK270; clear BK276; clear BK280; clear BK291; clear HK; clear HB; clear HI0; have BK269 := n0_; have BK270 := n1_; have BK276 := n2_; have BK280 := n3_; have BK291 := n4_; have HK := n5_; have HB := n6_; have HI0 := n7_; clear n0_ n1_ n2_ n3_ n4_ n5_ n6_ n7_; (try clear hb); (try clear hb2); (try clear hk); (try clear hi)))
   have n0_ := Aside0.mk (blk_drew BK269.out)
   have n1_ := Aside0.mk (blk_drew BK270.out)
   have n2_ := Aside0.mk (blk_drew BK276.out)
   have n3_ := Aside0.mk (blk_drew BK280.out)
   have n4_ := Aside0.mk (blk_drew BK291.out)
   have n5_ := Aside0.mk (IsS96.drew HI0.out)
   have n6_ := Aside0.mk (keep_drew HK.out)
   have n7_ := Aside0.mk (below_drew1 HB.out)
   clear BK269 BK270 BK276 BK280 BK291 HI0 HK HB
   have BK269 := n0_
   have BK270 := n1_
   have BK276 := n2_
   have BK280 := n3_
   have BK291 := n4_
   have HI0 := n5_
   have HK := n6_
   have HB := n7_
   clear n0_ n1_ n2_ n3_ n4_ n5_ n6_ n7_
   refine start_ (n := 24) (S := fun w' => w'.cell? ⟨gb276, 0, none⟩ = some (.int .i64 t283) ∧ w'.cell? ⟨gb276, 1, none⟩ = some (.int .i64 t285) ∧ w'.cell? ⟨gb276, 2, none⟩ = some (.int .i64 t273) ∧ w'.cell? ⟨gb276, 3, none⟩ = some (.int .i64 t274) ∧ w'.cell? ⟨gb291, 0, none⟩ = some (.int .i64 t287) ∧ w'.cell? ⟨gb291, 1, none⟩ = some (.int .i64 t289)) (ds := []) #[false, false, false, false, false, false, false, false, false, false, false, false, false, false, false, false, false, false, false, false, false, false, false, false] (by kernel_rfl) rfl rfl ⟨bc_, bc_, bc_, bc_, bc_, bc_⟩ (fun hHeld => ?_); refine with_tabW spec_l71On.tab7 spec_l71On.bits7 (fun HT_ HW_ => ?_)
   generalize w43.drew = w44 at BK269 BK270 BK276 BK280 BK291 HI0 HK HB hHeld ⊢
   refine pure_ (i := 0) (N := some 29) (v := ?_) (a' := ?_) (bm 24 1) rfl rfl (any_of HT_.out (by kernel_rfl)) (fun _ _ _ h => h) (Or.inl ⟨by rfl, ?_⟩) ?_ ?_
   rotate_left
   ·
    intro w'
    go_simp
    with_reducible rfl
   rotate_left
   ·
    simp only [Act.put, List.setIfInBounds_toArray, List.set_cons_zero, List.set_cons_succ, i64_w, i32_w]
    rfl
   refine pure_ (i := 1) (N := some 30) (v := ?_) (a' := ?_) (bm 24 3) rfl rfl (any_of HT_.out (by kernel_rfl)) (fun _ _ _ h => h) (Or.inl ⟨by rfl, ?_⟩) ?_ ?_
   rotate_left
   ·
    intro w'
    go_simp
    with_reducible rfl
   rotate_left
   ·
    simp only [Act.put, List.setIfInBounds_toArray, List.set_cons_zero, List.set_cons_succ, i64_w, i32_w]
    rfl
   refine pure_ (i := 3) (N := some 32) (v := ?_) (a' := ?_) (bm 24 11) rfl rfl (any_of HT_.out (by kernel_rfl)) (fun _ _ _ h => h) (Or.inl ⟨by rfl, ?_⟩) ?_ ?_
   rotate_left
   ·
    intro w'
    go_simp
    with_reducible rfl
   rotate_left
   ·
    simp only [Act.put, List.setIfInBounds_toArray, List.set_cons_zero, List.set_cons_succ, i64_w, i32_w]
    rfl
   refine pure_ (i := 5) (N := some 34) (v := ?_) (a' := ?_) (bm 24 43) rfl rfl (any_of HT_.out (by kernel_rfl)) (fun _ _ _ h => h) (Or.inl ⟨by rfl, ?_⟩) ?_ ?_
   rotate_left
   ·
    intro w'
    go_simp
    with_reducible rfl
   rotate_left
   ·
    simp only [Act.put, List.setIfInBounds_toArray, List.set_cons_zero, List.set_cons_succ, i64_w, i32_w]
    rfl
   refine pure_ (i := 6) (N := some 35) (v := ?_) (a' := ?_) (bm 24 107) rfl rfl (any_of HT_.out (by kernel_rfl)) (fun _ _ _ h => h) (Or.inl ⟨by rfl, ?_⟩) ?_ ?_
   rotate_left
   ·
    intro w'
    go_simp
    with_reducible rfl
   rotate_left
   ·
    simp only [Act.put, List.setIfInBounds_toArray, List.set_cons_zero, List.set_cons_succ, i64_w, i32_w]
    rfl
   refine pure_ (i := 7) (N := some 36) (v := ?_) (a' := ?_) (bm 24 235) rfl rfl (any_of HT_.out (by kernel_rfl)) (fun _ _ _ h => h) (Or.inl ⟨by rfl, ?_⟩) ?_ ?_
   rotate_left
   ·
    intro w'
    go_simp
    with_reducible rfl
   rotate_left
   ·
    simp only [Act.put, List.setIfInBounds_toArray, List.set_cons_zero, List.set_cons_succ, i64_w, i32_w]
    rfl
   refine pure_ (i := 11) (N := some 40) (v := ?_) (a' := ?_) (bm 24 2283) rfl rfl (any_of HT_.out (by kernel_rfl)) (fun _ _ _ h => h) (Or.inl ⟨by rfl, ?_⟩) ?_ ?_
   rotate_left
   ·
    intro w'
    go_simp
    with_reducible rfl
   rotate_left
   ·
    simp only [Act.put, List.setIfInBounds_toArray, List.set_cons_zero, List.set_cons_succ, i64_w, i32_w]
    rfl
   refine pure_ (i := 12) (N := some 41) (v := ?_) (a' := ?_) (bm 24 6379) rfl rfl (any_of HT_.out (by kernel_rfl)) (fun _ _ _ h => h) (Or.inl ⟨by rfl, ?_⟩) ?_ ?_
   rotate_left
   ·
    intro w'
    go_simp
    with_reducible rfl
   rotate_left
   ·
    simp only [Act.put, List.setIfInBounds_toArray, List.set_cons_zero, List.set_cons_succ, i64_w, i32_w]
    rfl
   refine pure_ (i := 14) (N := some 43) (v := ?_) (a' := ?_) (bm 24 22763) rfl rfl (any_of HT_.out (by kernel_rfl)) (fun _ _ _ h => h) (Or.inl ⟨by rfl, ?_⟩) ?_ ?_
   rotate_left
   ·
    intro w'
    go_simp
    with_reducible rfl
   rotate_left
   ·
    simp only [Act.put, List.setIfInBounds_toArray, List.set_cons_zero, List.set_cons_succ, i64_w, i32_w]
    rfl
   refine pure_ (i := 16) (N := some 45) (v := ?_) (a' := ?_) (bm 24 88299) rfl rfl (any_of HT_.out (by kernel_rfl)) (fun _ _ _ h => h) (Or.inl ⟨by rfl, ?_⟩) ?_ ?_
   rotate_left
   ·
    intro w'
    go_simp
    with_reducible rfl
   rotate_left
   ·
    simp only [Act.put, List.setIfInBounds_toArray, List.set_cons_zero, List.set_cons_succ, i64_w, i32_w]
    rfl
   refine pure_ (i := 17) (N := some 46) (v := ?_) (a' := ?_) (bm 24 219371) rfl rfl (any_of HT_.out (by kernel_rfl)) (fun _ _ _ h => h) (Or.inl ⟨by rfl, ?_⟩) ?_ ?_
   rotate_left
   ·
    intro w'
    go_simp
    with_reducible rfl
   rotate_left
   ·
    simp only [Act.put, List.setIfInBounds_toArray, List.set_cons_zero, List.set_cons_succ, i64_w, i32_w]
    rfl
   refine pure_ (i := 18) (N := some 47) (v := ?_) (a' := ?_) (bm 24 481515) rfl rfl (any_of HT_.out (by kernel_rfl)) (fun _ _ _ h => h) (Or.inl ⟨by rfl, ?_⟩) ?_ ?_
   rotate_left
   ·
    intro w'
    go_simp
    with_reducible rfl
   rotate_left
   ·
    simp only [Act.put, List.setIfInBounds_toArray, List.set_cons_zero, List.set_cons_succ, i64_w, i32_w]
    rfl
   refine take_ (i := 2) (N := some 31) (v := ?_) (a' := ?_) (bm 24 481519) rfl rfl (take_ofW HT_.out HW_.out (by kernel_rfl)) (fun _ _ _ h => h) (Or.inl ⟨by rfl, ?_⟩) hHeld ?_ ?_
   rotate_left
   ·
    rintro w' ⟨s0, s1, s2, s3, s4, s5⟩
    go_simp
    with_reducible rfl
   rotate_left
   ·
    simp only [Act.put, List.setIfInBounds_toArray, List.set_cons_zero, List.set_cons_succ, i64_w, i32_w]
    rfl
   refine take_ (i := 4) (N := some 33) (v := ?_) (a' := ?_) (bm 24 481535) rfl rfl (take_ofW HT_.out HW_.out (by kernel_rfl)) (fun _ _ _ h => h) (Or.inl ⟨by rfl, ?_⟩) hHeld ?_ ?_
   rotate_left
   ·
    rintro w' ⟨s0, s1, s2, s3, s4, s5⟩
    go_simp
    with_reducible rfl
   rotate_left
   ·
    simp only [Act.put, List.setIfInBounds_toArray, List.set_cons_zero, List.set_cons_succ, i64_w, i32_w]
    rfl
   refine take_ (i := 13) (N := some 42) (v := ?_) (a' := ?_) (bm 24 489727) rfl rfl (take_ofW HT_.out HW_.out (by kernel_rfl)) (fun _ _ _ h => h) (Or.inl ⟨by rfl, ?_⟩) hHeld ?_ ?_
   rotate_left
   ·
    rintro w' ⟨s0, s1, s2, s3, s4, s5⟩
    go_simp
    with_reducible rfl
   rotate_left
   ·
    simp only [Act.put, List.setIfInBounds_toArray, List.set_cons_zero, List.set_cons_succ, i64_w, i32_w]
    rfl
   refine take_ (i := 15) (N := some 44) (v := ?_) (a' := ?_) (bm 24 522495) rfl rfl (take_ofW HT_.out HW_.out (by kernel_rfl)) (fun _ _ _ h => h) (Or.inl ⟨by rfl, ?_⟩) hHeld ?_ ?_
   rotate_left
   ·
    rintro w' ⟨s0, s1, s2, s3, s4, s5⟩
    go_simp
    with_reducible rfl
   rotate_left
   ·
    simp only [Act.put, List.setIfInBounds_toArray, List.set_cons_zero, List.set_cons_succ, i64_w, i32_w]
    rfl
   refine one_ (i := 8) (N := some 37) (bm 24 522751) rfl rfl (one_of HT_.out (by kernel_rfl)) (by decide) (fun K hK => ?_)
   refine goes_ Tryd.func48 (by kernel_rfl) rfl #[.pointer (some ⟨g, 0, none⟩), .int .i64 (wrap64 ((wrap64 (1 + t292)) + 1))] (by rfl) rfl rfl ma_ ?_
   with_reducible refine (spec_l6Rd_pick.calls k g s0_0 t293 (wrap64 ((wrap64 (1 + t292)) + 1)) t294 t295 w0 _ ?side1 ?side2 A11.out).mono ?_
   (case side1 => repeat (first | (with_reducible first | exact HI0.out | apply IsS96.alloc | apply IsS96.drewN | apply IsS96.drew | apply IsS96.set_1 | refine IsS96.far ?_ NB0_269.out _ | refine IsS96.far ?_ NB0_270.out _ | refine IsS96.far ?_ NB0_276.out _ | refine IsS96.far ?_ NB0_280.out _ | refine IsS96.far ?_ NB0_291.out _) | exact HI0.out))
   (case side2 => repeat (first | (with_reducible first | exact HB.out | apply below_alloc | apply pw_below_drewN | apply below_drew1 | refine below_set ?_ (IsS96.ge HI0.out) | refine below_set ?_ GE269.out | refine below_set ?_ GE270.out | refine below_set ?_ GE276.out | refine below_set ?_ GE280.out | refine below_set ?_ GE291.out) | exact HB.out))
   rintro e w45 ⟨rfl, hi, hb, hk⟩
   refine ⟨_, rfl, ?_⟩
   have n0_ := Aside0.mk (KeepBut.blk hk (g' := gb269) (o := .cells #[.int .i64 0, .int .i64 0, .int .i64 0, .int .i64 0] 40 (0, 0)) uq_ NB269_0.out (by simp))
   have n1_ := Aside0.mk (KeepBut.blk hk (g' := gb270) (o := .cells #[.int .i64 0, .int .i64 0] 38 (0, 0)) uq_ NB270_0.out (by simp))
   have n2_ := Aside0.mk (KeepBut.blk hk (g' := gb276) (o := .cells #[.int .i64 t283, .int .i64 t285, .int .i64 t273, .int .i64 t274] 40 (0, 0)) uq_ NB276_0.out (by simp))
   have n3_ := Aside0.mk (KeepBut.blk hk (g' := gb280) (o := .cells #[.int .i64 t277, .int .i64 t278] 38 (0, 0)) uq_ NB280_0.out (by simp))
   have n4_ := Aside0.mk (KeepBut.blk hk (g' := gb291) (o := .cells #[.int .i64 t287, .int .i64 t289] 38 (0, 0)) uq_ NB291_0.out (by simp))
   have n5_ := Aside0.mk (KeepBut.trans (by repeat (first | (with_reducible first | exact HK.out | apply KeepBut.set_ | apply keep_drewN | apply keep_drew | apply keep_alloc | refine keep_far ?_ GW269.out _ | refine keep_far ?_ GW270.out _ | refine keep_far ?_ GW276.out _ | refine keep_far ?_ GW280.out _ | refine keep_far ?_ GW291.out _) | exact HK.out)) hk (.inl rfl))
   have n6_ := Aside0.mk (hb)
   have n7_ := Aside0.mk (hi)
   clear BK269 BK270 BK276 BK280 BK291 HK HB HI0
   have BK269 := n0_
   have BK270 := n1_
   have BK276 := n2_
   have BK280 := n3_
   have BK291 := n4_
   have HK := n5_
   have HB := n6_
   have HI0 := n7_
   clear n0_ n1_ n2_ n3_ n4_ n5_ n6_ n7_
   (try clear hb)
   (try clear hb2)
   (try clear hk)
   (try clear hi)
   refine hK.out _ _ ⟨bc_, bc_, bc_, bc_, bc_, bc_⟩ (fun hHeld => ?_)
   clear hK K
   refine norm_ (a' := ?_) ?_ ?_
   rotate_left
   ·
    show Act.put _ (some 37) _ = _
    simp only [Act.put, List.setIfInBounds_toArray, List.set_cons_zero, List.set_cons_succ, i64_w, i32_w]
    rfl
   refine pure_ (i := 9) (N := some 38) (v := ?_) (a' := ?_) (bm 24 523263) rfl rfl (any_of HT_.out (by kernel_rfl)) (fun _ _ _ h => h) (Or.inl ⟨by rfl, ?_⟩) ?_ ?_
   rotate_left
   ·
    intro w'
    go_simp
    with_reducible rfl
   rotate_left
   ·
    simp only [Act.put, List.setIfInBounds_toArray, List.set_cons_zero, List.set_cons_succ, i64_w, i32_w]
    rfl
   refine pure_ (i := 10) (N := some 39) (v := ?_) (a' := ?_) (bm 24 524287) rfl rfl (any_of HT_.out (by kernel_rfl)) (fun _ _ _ h => h) (Or.inl ⟨by rfl, ?_⟩) ?_ ?_
   rotate_left
   ·
    intro w'
    go_simp
    with_reducible rfl
   rotate_left
   ·
    simp only [Act.put, List.setIfInBounds_toArray, List.set_cons_zero, List.set_cons_succ, i64_w, i32_w]
    rfl
   refine one_ (i := 19) (N := some 48) (bm 24 1048575) rfl rfl (one_of HT_.out (by kernel_rfl)) (by decide) (fun K hK => ?_)
   refine goes_ Tryd.func48 (by kernel_rfl) rfl #[.pointer (some ⟨g, 0, none⟩), .int .i64 (wrap64 ((wrap64 (1 + t292)) + 1))] (by rfl) rfl rfl ma_ ?_
   with_reducible refine (spec_l6Rd_pick.calls k g s0_0 t295 (wrap64 ((wrap64 (1 + t292)) + 1)) t296 t297 w0 _ ?side1 ?side2 A12.out).mono ?_
   (case side1 => repeat (first | (with_reducible first | exact HI0.out | apply IsS96.alloc | apply IsS96.drewN | apply IsS96.drew | apply IsS96.set_1 | refine IsS96.far ?_ NB0_269.out _ | refine IsS96.far ?_ NB0_270.out _ | refine IsS96.far ?_ NB0_276.out _ | refine IsS96.far ?_ NB0_280.out _ | refine IsS96.far ?_ NB0_291.out _) | exact HI0.out))
   (case side2 => repeat (first | (with_reducible first | exact HB.out | apply below_alloc | apply pw_below_drewN | apply below_drew1 | refine below_set ?_ (IsS96.ge HI0.out) | refine below_set ?_ GE269.out | refine below_set ?_ GE270.out | refine below_set ?_ GE276.out | refine below_set ?_ GE280.out | refine below_set ?_ GE291.out) | exact HB.out))
   rintro e w46 ⟨rfl, hi, hb, hk⟩
   refine ⟨_, rfl, ?_⟩
   have n0_ := Aside0.mk (KeepBut.blk hk (g' := gb269) (o := .cells #[.int .i64 0, .int .i64 0, .int .i64 0, .int .i64 0] 40 (0, 0)) uq_ NB269_0.out (by simp))
   have n1_ := Aside0.mk (KeepBut.blk hk (g' := gb270) (o := .cells #[.int .i64 0, .int .i64 0] 38 (0, 0)) uq_ NB270_0.out (by simp))
   have n2_ := Aside0.mk (KeepBut.blk hk (g' := gb276) (o := .cells #[.int .i64 t283, .int .i64 t285, .int .i64 t273, .int .i64 t274] 40 (0, 0)) uq_ NB276_0.out (by simp))
   have n3_ := Aside0.mk (KeepBut.blk hk (g' := gb280) (o := .cells #[.int .i64 t277, .int .i64 t278] 38 (0, 0)) uq_ NB280_0.out (by simp))
   have n4_ := Aside0.mk (KeepBut.blk hk (g' := gb291) (o := .cells #[.int .i64 t287, .int .i64 t289] 38 (0, 0)) uq_ NB291_0.out (by simp))
   have n5_ := Aside0.mk (KeepBut.trans (by repeat (first | (with_reducible first | exact HK.out | apply KeepBut.set_ | apply keep_drewN | apply keep_drew | apply keep_alloc | refine keep_far ?_ GW269.out _ | refine keep_far ?_ GW270.out _ | refine keep_far ?_ GW276.out _ | refine keep_far ?_ GW280.out _ | refine keep_far ?_ GW291.out _) | exact HK.out)) hk (.inl rfl))
   have n6_ := Aside0.mk (hb)
   have n7_ := Aside0.mk (hi)
   clear BK269 BK270 BK276 BK280 BK291 HK HB HI0
   have BK269 := n0_
   have BK270 := n1_
   have BK276 := n2_
   have BK280 := n3_
   have BK291 := n4_
   have HK := n5_
   have HB := n6_
   have HI0 := n7_
   clear n0_ n1_ n2_ n3_ n4_ n5_ n6_ n7_
   (try clear hb)
   (try clear hb2)
   (try clear hk)
   (try clear hi)
   refine hK.out _ _ ⟨bc_, bc_, bc_, bc_, bc_, bc_⟩ (fun hHeld => ?_)
   clear hK K
   refine norm_ (a' := ?_) ?_ ?_
   rotate_left
   ·
    show Act.put _ (some 48) _ = _
    simp only [Act.put, List.setIfInBounds_toArray, List.set_cons_zero, List.set_cons_succ, i64_w, i32_w]
    rfl
   refine pure_ (i := 20) (N := some 49) (v := ?_) (a' := ?_) (bm 24 2097151) rfl rfl (any_of HT_.out (by kernel_rfl)) (fun _ _ _ h => h) (Or.inl ⟨by rfl, ?_⟩) ?_ ?_
   rotate_left
   ·
    intro w'
    go_simp
    with_reducible rfl
   rotate_left
   ·
    simp only [Act.put, List.setIfInBounds_toArray, List.set_cons_zero, List.set_cons_succ, i64_w, i32_w]
    rfl
   refine pure_ (i := 21) (N := some 50) (v := ?_) (a' := ?_) (bm 24 4194303) rfl rfl (any_of HT_.out (by kernel_rfl)) (fun _ _ _ h => h) (Or.inl ⟨by rfl, ?_⟩) ?_ ?_
   rotate_left
   ·
    intro w'
    go_simp
    with_reducible rfl
   rotate_left
   ·
    simp only [Act.put, List.setIfInBounds_toArray, List.set_cons_zero, List.set_cons_succ, i64_w, i32_w]
    rfl
   refine pure_ (i := 22) (N := some 51) (v := ?_) (a' := ?_) (bm 24 8388607) rfl rfl (any_of HT_.out (by kernel_rfl)) (fun _ _ _ h => h) (Or.inl ⟨by rfl, ?_⟩) ?_ ?_
   rotate_left
   ·
    intro w'
    go_simp
    with_reducible rfl
   rotate_left
   ·
    simp only [Act.put, List.setIfInBounds_toArray, List.set_cons_zero, List.set_cons_succ, i64_w, i32_w]
    rfl
   refine one_ (i := 23) (N := none) (bm 24 16777215) rfl rfl (one_of HT_.out (by kernel_rfl)) (by decide) (fun K hK => ?_)
   have hs47 : w46.cell? ⟨gb280, 0, none⟩ = some (.int .i64 t277) := bc_
   have hfs47 := blk_frozen BK280.out 0
   have hns47_0 := NB269_280.out
   have hns47_1 := NB270_280.out
   have hns47_2 := NB276_280.out
   have hns47_4 := NB291_280.out
   have hms47_0 := NB280_269.out
   have hms47_1 := NB280_270.out
   have hms47_2 := NB280_276.out
   have hms47_4 := NB280_291.out
   have hs48 : w46.cell? ⟨gb280, 1, none⟩ = some (.int .i64 t278) := bc_
   have hfs48 := blk_frozen BK280.out 1
   have hns48_0 := NB269_280.out
   have hns48_1 := NB270_280.out
   have hns48_2 := NB276_280.out
   have hns48_4 := NB291_280.out
   have hms48_0 := NB280_269.out
   have hms48_1 := NB280_270.out
   have hms48_2 := NB280_276.out
   have hms48_4 := NB280_291.out
   refine skip_ (w1 := ?_) (by rfl) rfl ?_ ?_
   rotate_left
   ·
    go_simp
    rfl
   refine hK.out _ _ ⟨((cell_far (p := ⟨gb280, _, none⟩) NB276_280.out _).trans (((cell_far (p := ⟨gb280, _, none⟩) NB276_280.out _).trans (hHeld.1)))), ((cell_far (p := ⟨gb280, _, none⟩) NB276_280.out _).trans (((cell_far (p := ⟨gb280, _, none⟩) NB276_280.out _).trans (hHeld.2.1)))), ((cell_far (p := ⟨gb280, _, none⟩) NB276_280.out _).trans (((cell_far (p := ⟨gb280, _, none⟩) NB276_280.out _).trans (hHeld.2.2.1)))), ((cell_far (p := ⟨gb280, _, none⟩) NB276_280.out _).trans (((cell_far (p := ⟨gb280, _, none⟩) NB276_280.out _).trans (hHeld.2.2.2.1)))), ((cell_far (p := ⟨gb280, _, none⟩) NB291_280.out _).trans (((cell_far (p := ⟨gb280, _, none⟩) NB291_280.out _).trans (hHeld.2.2.2.2.1)))), ((cell_far (p := ⟨gb280, _, none⟩) NB291_280.out _).trans (((cell_far (p := ⟨gb280, _, none⟩) NB291_280.out _).trans (hHeld.2.2.2.2.2))))⟩ (fun hHeld => ?_)
   clear hK K
   refine done_ (done_of HT_.out (by kernel_rfl)) ?_
   have hcz49_0 : w46.cell? ⟨gb276, 0, none⟩ = some (.int .i64 t283) := bc_
   have hcz49_1 : w46.cell? ⟨gb276, 1, none⟩ = some (.int .i64 t285) := bc_
   have hcz49_2 : w46.cell? ⟨gb276, 2, none⟩ = some (.int .i64 t273) := bc_
   have hcz49_3 : w46.cell? ⟨gb276, 3, none⟩ = some (.int .i64 t274) := bc_
   have hfz49_0 := blk_frozen BK276.out 0
   have hfz49_1 := blk_frozen BK276.out 1
   have hfz49_2 := blk_frozen BK276.out 2
   have hfz49_3 := blk_frozen BK276.out 3
   have hcz50_0 : w46.cell? ⟨gb291, 0, none⟩ = some (.int .i64 t287) := bc_
   have hcz50_1 : w46.cell? ⟨gb291, 1, none⟩ = some (.int .i64 t289) := bc_
   have hfz50_0 := blk_frozen BK291.out 0
   have hfz50_1 := blk_frozen BK291.out 1
   try go_wp2_with (first | ((with_reducible refine gate_callee (f := 48) rfl ?_); refine goesL_ (some 71) rfl rfl Tryd.func48 (by kernel_rfl) rfl #[.pointer (some ⟨g, 0, none⟩), .int .i64 2] rfl ma_ ?_; (with_reducible refine (spec_l6Rd_pick.calls k g s0_0 t297 2 t298 t299 w0 _ ?side1 ?side2 A13.out).mono ?_); (case side1 => repeat (first | (with_reducible first | exact HI0.out | apply IsS96.alloc | apply IsS96.drewN | apply IsS96.drew | apply IsS96.set_1 | refine IsS96.far ?_ NB0_269.out _ | refine IsS96.far ?_ NB0_270.out _ | refine IsS96.far ?_ NB0_276.out _ | refine IsS96.far ?_ NB0_280.out _ | refine IsS96.far ?_ NB0_291.out _) | exact HI0.out)); (case side2 => repeat (first | (with_reducible first | exact HB.out | apply below_alloc | apply pw_below_drewN | apply below_drew1 | refine below_set ?_ (IsS96.ge HI0.out) | refine below_set ?_ GE269.out | refine below_set ?_ GE270.out | refine below_set ?_ GE276.out | refine below_set ?_ GE280.out | refine below_set ?_ GE291.out) | exact HB.out)); rintro e w51 ⟨rfl, hi, hb, hk⟩; refine ⟨_, rfl, ?_⟩; have n0_ := Aside0.mk (KeepBut.blk hk (g' := gb269) (o := .cells #[.int .i64 0, .int .i64 0, .int .i64 0, .int .i64 0] 40 (0, 0)) (by (with_reducible repeat (first | refine blk_drewN ?_ _ | refine blk_drew ?_ | refine blk_alloc ?_ _)); refine blk_far ?_ NB269_276.out _; (with_reducible repeat (first | refine blk_drewN ?_ _ | refine blk_drew ?_ | refine blk_alloc ?_ _)); refine blk_far ?_ NB269_276.out _; (with_reducible repeat (first | refine blk_drewN ?_ _ | refine blk_drew ?_ | refine blk_alloc ?_ _)); refine blk_far ?_ NB269_280.out _; (with_reducible repeat (first | refine blk_drewN ?_ _ | refine blk_drew ?_ | refine blk_alloc ?_ _)); refine blk_far ?_ NB269_280.out _; (with_reducible repeat (first | refine blk_drewN ?_ _ | refine blk_drew ?_ | refine blk_alloc ?_ _)); exact BK269.out) NB269_0.out (by simp)); have n1_ := Aside0.mk (KeepBut.blk hk (g' := gb270) (o := .cells #[.int .i64 0, .int .i64 0] 38 (0, 0)) (by (with_reducible repeat (first | refine blk_drewN ?_ _ | refine blk_drew ?_ | refine blk_alloc ?_ _)); refine blk_far ?_ NB270_276.out _; (with_reducible repeat (first | refine blk_drewN ?_ _ | refine blk_drew ?_ | refine blk_alloc ?_ _)); refine blk_far ?_ NB270_276.out _; (with_reducible repeat (first | refine blk_drewN ?_ _ | refine blk_drew ?_ | refine blk_alloc ?_ _)); refine blk_far ?_ NB270_280.out _; (with_reducible repeat (first | refine blk_drewN ?_ _ | refine blk_drew ?_ | refine blk_alloc ?_ _)); refine blk_far ?_ NB270_280.out _; (with_reducible repeat (first | refine blk_drewN ?_ _ | refine blk_drew ?_ | refine blk_alloc ?_ _)); exact BK270.out) NB270_0.out (by simp)); have n2_ := Aside0.mk (KeepBut.blk hk (g' := gb276) (o := .cells #[.int .i64 t283, .int .i64 t285, .int .i64 (wrap64 (t283 + (wrap64 (t287 * (wrap64 (1 + t292)))))), .int .i64 (wrap64 (t285 + (wrap64 (t289 * (wrap64 (1 + t292))))))] 40 (0, 0)) (by (with_reducible repeat (first | refine blk_drewN ?_ _ | refine blk_drew ?_ | refine blk_alloc ?_ _)); refine blk_put (cs := #[.int .i64 t283, .int .i64 t285, .int .i64 (wrap64 (t283 + (wrap64 (t287 * (wrap64 (1 + t292)))))), .int .i64 t274]) ?_ 3 _ rfl; (with_reducible repeat (first | refine blk_drewN ?_ _ | refine blk_drew ?_ | refine blk_alloc ?_ _)); refine blk_put (cs := #[.int .i64 t283, .int .i64 t285, .int .i64 t273, .int .i64 t274]) ?_ 2 _ rfl; (with_reducible repeat (first | refine blk_drewN ?_ _ | refine blk_drew ?_ | refine blk_alloc ?_ _)); refine blk_far ?_ NB276_280.out _; (with_reducible repeat (first | refine blk_drewN ?_ _ | refine blk_drew ?_ | refine blk_alloc ?_ _)); refine blk_far ?_ NB276_280.out _; (with_reducible repeat (first | refine blk_drewN ?_ _ | refine blk_drew ?_ | refine blk_alloc ?_ _)); exact BK276.out) NB276_0.out (by simp)); have n3_ := Aside0.mk (KeepBut.blk hk (g' := gb280) (o := .cells #[.int .i64 (wrap64 (t283 + (wrap64 (t287 * t294)))), .int .i64 (wrap64 (t285 + (wrap64 (t289 * t296))))] 38 (0, 0)) (by (with_reducible repeat (first | refine blk_drewN ?_ _ | refine blk_drew ?_ | refine blk_alloc ?_ _)); refine blk_far ?_ NB280_276.out _; (with_reducible repeat (first | refine blk_drewN ?_ _ | refine blk_drew ?_ | refine blk_alloc ?_ _)); refine blk_far ?_ NB280_276.out _; (with_reducible repeat (first | refine blk_drewN ?_ _ | refine blk_drew ?_ | refine blk_alloc ?_ _)); refine blk_put (cs := #[.int .i64 (wrap64 (t283 + (wrap64 (t287 * t294)))), .int .i64 t278]) ?_ 1 _ rfl; (with_reducible repeat (first | refine blk_drewN ?_ _ | refine blk_drew ?_ | refine blk_alloc ?_ _)); refine blk_put (cs := #[.int .i64 t277, .int .i64 t278]) ?_ 0 _ rfl; (with_reducible repeat (first | refine blk_drewN ?_ _ | refine blk_drew ?_ | refine blk_alloc ?_ _)); exact BK280.out) NB280_0.out (by simp)); have n4_ := Aside0.mk (KeepBut.blk hk (g' := gb291) (o := .cells #[.int .i64 t287, .int .i64 t289] 38 (0, 0)) (by (with_reducible repeat (first | refine blk_drewN ?_ _ | refine blk_drew ?_ | refine blk_alloc ?_ _)); refine blk_far ?_ NB291_276.out _; (with_reducible repeat (first | refine blk_drewN ?_ _ | refine blk_drew ?_ | refine blk_alloc ?_ _)); refine blk_far ?_ NB291_276.out _; (with_reducible repeat (first | refine blk_drewN ?_ _ | refine blk_drew ?_ | refine blk_alloc ?_ _)); refine blk_far ?_ NB291_280.out _; (with_reducible repeat (first | refine blk_drewN ?_ _ | refine blk_drew ?_ | refine blk_alloc ?_ _)); refine blk_far ?_ NB291_280.out _; (with_reducible repeat (first | refine blk_drewN ?_ _ | refine blk_drew ?_ | refine blk_alloc ?_ _)); exact BK291.out) NB291_0.out (by simp)); have n5_ := Aside0.mk (KeepBut.trans (by repeat (first | (with_reducible first | exact HK.out | apply KeepBut.set_ | apply keep_drewN | apply keep_drew | apply keep_alloc | refine keep_far ?_ GW269.out _ | refine keep_far ?_ GW270.out _ | refine keep_far ?_ GW276.out _ | refine keep_far ?_ GW280.out _ | refine keep_far ?_ GW291.out _) | exact HK.out)) hk (.inl rfl)); have n6_ := Aside0.mk (hb); have n7_ := Aside0.mk (hi); clear BK269; clear BK270; clear BK276; clear BK280; clear BK291; clear HK; clear HB; clear HI0; have BK269 := n0_; have BK270 := n1_; have BK276 := n2_; have BK280 := n3_; have BK291 := n4_; have HK := n5_; have HB := n6_; have HI0 := n7_; clear n0_ n1_ n2_ n3_ n4_ n5_ n6_ n7_; (try clear hb); (try clear hb2); (try clear hk); (try clear hi); have hcz52_0 : w51.cell? ⟨gb276, 0, none⟩ = some (.int .i64 t283) := bc_; have hcz52_1 : w51.cell? ⟨gb276, 1, none⟩ = some (.int .i64 t285) := bc_; have hcz52_2 : w51.cell? ⟨gb276, 2, none⟩ = some (.int .i64 (wrap64 (t283 + (wrap64 (t287 * (wrap64 (1 + t292))))))) := bc_; have hcz52_3 : w51.cell? ⟨gb276, 3, none⟩ = some (.int .i64 (wrap64 (t285 + (wrap64 (t289 * (wrap64 (1 + t292))))))) := bc_; have hfz52_0 := blk_frozen BK276.out 0; have hfz52_1 := blk_frozen BK276.out 1; have hfz52_2 := blk_frozen BK276.out 2; have hfz52_3 := blk_frozen BK276.out 3))
   have n0_ : Aside0 (((((w51.setCell ⟨gb276, 0, none⟩ (.int .i64 (wrap64 (t283 + (wrap64 (t287 * (wrap64 (1 + t292)))))))).setCell ⟨gb276, 1, none⟩ (.int .i64 (wrap64 (t285 + (wrap64 (t289 * (wrap64 (1 + t292)))))))).setCell ⟨gb276, 2, none⟩ (.int .i64 t283)).setCell ⟨gb276, 3, none⟩ (.int .i64 t285)).heap[gb269]? = some (.cells #[.int .i64 0, .int .i64 0, .int .i64 0, .int .i64 0] 40 (0, 0))) := ⟨by (with_reducible repeat (first | refine blk_drewN ?_ _ | refine blk_drew ?_ | refine blk_alloc ?_ _)); refine blk_far ?_ NB269_276.out _; (with_reducible repeat (first | refine blk_drewN ?_ _ | refine blk_drew ?_ | refine blk_alloc ?_ _)); refine blk_far ?_ NB269_276.out _; (with_reducible repeat (first | refine blk_drewN ?_ _ | refine blk_drew ?_ | refine blk_alloc ?_ _)); refine blk_far ?_ NB269_276.out _; (with_reducible repeat (first | refine blk_drewN ?_ _ | refine blk_drew ?_ | refine blk_alloc ?_ _)); refine blk_far ?_ NB269_276.out _; (with_reducible repeat (first | refine blk_drewN ?_ _ | refine blk_drew ?_ | refine blk_alloc ?_ _)); exact BK269.out⟩
   have n1_ : Aside0 (((((w51.setCell ⟨gb276, 0, none⟩ (.int .i64 (wrap64 (t283 + (wrap64 (t287 * (wrap64 (1 + t292)))))))).setCell ⟨gb276, 1, none⟩ (.int .i64 (wrap64 (t285 + (wrap64 (t289 * (wrap64 (1 + t292)))))))).setCell ⟨gb276, 2, none⟩ (.int .i64 t283)).setCell ⟨gb276, 3, none⟩ (.int .i64 t285)).heap[gb270]? = some (.cells #[.int .i64 0, .int .i64 0] 38 (0, 0))) := ⟨by (with_reducible repeat (first | refine blk_drewN ?_ _ | refine blk_drew ?_ | refine blk_alloc ?_ _)); refine blk_far ?_ NB270_276.out _; (with_reducible repeat (first | refine blk_drewN ?_ _ | refine blk_drew ?_ | refine blk_alloc ?_ _)); refine blk_far ?_ NB270_276.out _; (with_reducible repeat (first | refine blk_drewN ?_ _ | refine blk_drew ?_ | refine blk_alloc ?_ _)); refine blk_far ?_ NB270_276.out _; (with_reducible repeat (first | refine blk_drewN ?_ _ | refine blk_drew ?_ | refine blk_alloc ?_ _)); refine blk_far ?_ NB270_276.out _; (with_reducible repeat (first | refine blk_drewN ?_ _ | refine blk_drew ?_ | refine blk_alloc ?_ _)); exact BK270.out⟩
   have n2_ : Aside0 (((((w51.setCell ⟨gb276, 0, none⟩ (.int .i64 (wrap64 (t283 + (wrap64 (t287 * (wrap64 (1 + t292)))))))).setCell ⟨gb276, 1, none⟩ (.int .i64 (wrap64 (t285 + (wrap64 (t289 * (wrap64 (1 + t292)))))))).setCell ⟨gb276, 2, none⟩ (.int .i64 t283)).setCell ⟨gb276, 3, none⟩ (.int .i64 t285)).heap[gb276]? = some (.cells #[.int .i64 (wrap64 (t283 + (wrap64 (t287 * (wrap64 (1 + t292)))))), .int .i64 (wrap64 (t285 + (wrap64 (t289 * (wrap64 (1 + t292)))))), .int .i64 t283, .int .i64 t285] 40 (0, 0))) := ⟨by (with_reducible repeat (first | refine blk_drewN ?_ _ | refine blk_drew ?_ | refine blk_alloc ?_ _)); refine blk_put (cs := #[.int .i64 (wrap64 (t283 + (wrap64 (t287 * (wrap64 (1 + t292)))))), .int .i64 (wrap64 (t285 + (wrap64 (t289 * (wrap64 (1 + t292)))))), .int .i64 t283, .int .i64 (wrap64 (t285 + (wrap64 (t289 * (wrap64 (1 + t292))))))]) ?_ 3 _ rfl; (with_reducible repeat (first | refine blk_drewN ?_ _ | refine blk_drew ?_ | refine blk_alloc ?_ _)); refine blk_put (cs := #[.int .i64 (wrap64 (t283 + (wrap64 (t287 * (wrap64 (1 + t292)))))), .int .i64 (wrap64 (t285 + (wrap64 (t289 * (wrap64 (1 + t292)))))), .int .i64 (wrap64 (t283 + (wrap64 (t287 * (wrap64 (1 + t292)))))), .int .i64 (wrap64 (t285 + (wrap64 (t289 * (wrap64 (1 + t292))))))]) ?_ 2 _ rfl; (with_reducible repeat (first | refine blk_drewN ?_ _ | refine blk_drew ?_ | refine blk_alloc ?_ _)); refine blk_put (cs := #[.int .i64 (wrap64 (t283 + (wrap64 (t287 * (wrap64 (1 + t292)))))), .int .i64 t285, .int .i64 (wrap64 (t283 + (wrap64 (t287 * (wrap64 (1 + t292)))))), .int .i64 (wrap64 (t285 + (wrap64 (t289 * (wrap64 (1 + t292))))))]) ?_ 1 _ rfl; (with_reducible repeat (first | refine blk_drewN ?_ _ | refine blk_drew ?_ | refine blk_alloc ?_ _)); refine blk_put (cs := #[.int .i64 t283, .int .i64 t285, .int .i64 (wrap64 (t283 + (wrap64 (t287 * (wrap64 (1 + t292)))))), .int .i64 (wrap64 (t285 + (wrap64 (t289 * (wrap64 (1 + t292))))))]) ?_ 0 _ rfl; (with_reducible repeat (first | refine blk_drewN ?_ _ | refine blk_drew ?_ | refine blk_alloc ?_ _)); exact BK276.out⟩
   have n3_ : Aside0 (((((w51.setCell ⟨gb276, 0, none⟩ (.int .i64 (wrap64 (t283 + (wrap64 (t287 * (wrap64 (1 + t292)))))))).setCell ⟨gb276, 1, none⟩ (.int .i64 (wrap64 (t285 + (wrap64 (t289 * (wrap64 (1 + t292)))))))).setCell ⟨gb276, 2, none⟩ (.int .i64 t283)).setCell ⟨gb276, 3, none⟩ (.int .i64 t285)).heap[gb280]? = some (.cells #[.int .i64 (wrap64 (t283 + (wrap64 (t287 * t294)))), .int .i64 (wrap64 (t285 + (wrap64 (t289 * t296))))] 38 (0, 0))) := ⟨by (with_reducible repeat (first | refine blk_drewN ?_ _ | refine blk_drew ?_ | refine blk_alloc ?_ _)); refine blk_far ?_ NB280_276.out _; (with_reducible repeat (first | refine blk_drewN ?_ _ | refine blk_drew ?_ | refine blk_alloc ?_ _)); refine blk_far ?_ NB280_276.out _; (with_reducible repeat (first | refine blk_drewN ?_ _ | refine blk_drew ?_ | refine blk_alloc ?_ _)); refine blk_far ?_ NB280_276.out _; (with_reducible repeat (first | refine blk_drewN ?_ _ | refine blk_drew ?_ | refine blk_alloc ?_ _)); refine blk_far ?_ NB280_276.out _; (with_reducible repeat (first | refine blk_drewN ?_ _ | refine blk_drew ?_ | refine blk_alloc ?_ _)); exact BK280.out⟩
   have n4_ : Aside0 (((((w51.setCell ⟨gb276, 0, none⟩ (.int .i64 (wrap64 (t283 + (wrap64 (t287 * (wrap64 (1 + t292)))))))).setCell ⟨gb276, 1, none⟩ (.int .i64 (wrap64 (t285 + (wrap64 (t289 * (wrap64 (1 + t292)))))))).setCell ⟨gb276, 2, none⟩ (.int .i64 t283)).setCell ⟨gb276, 3, none⟩ (.int .i64 t285)).heap[gb291]? = some (.cells #[.int .i64 t287, .int .i64 t289] 38 (0, 0))) := ⟨by (with_reducible repeat (first | refine blk_drewN ?_ _ | refine blk_drew ?_ | refine blk_alloc ?_ _)); refine blk_far ?_ NB291_276.out _; (with_reducible repeat (first | refine blk_drewN ?_ _ | refine blk_drew ?_ | refine blk_alloc ?_ _)); refine blk_far ?_ NB291_276.out _; (with_reducible repeat (first | refine blk_drewN ?_ _ | refine blk_drew ?_ | refine blk_alloc ?_ _)); refine blk_far ?_ NB291_276.out _; (with_reducible repeat (first | refine blk_drewN ?_ _ | refine blk_drew ?_ | refine blk_alloc ?_ _)); refine blk_far ?_ NB291_276.out _; (with_reducible repeat (first | refine blk_drewN ?_ _ | refine blk_drew ?_ | refine blk_alloc ?_ _)); exact BK291.out⟩
   have n5_ : Aside0 (IsS96 w0 ((((w51.setCell ⟨gb276, 0, none⟩ (.int .i64 (wrap64 (t283 + (wrap64 (t287 * (wrap64 (1 + t292)))))))).setCell ⟨gb276, 1, none⟩ (.int .i64 (wrap64 (t285 + (wrap64 (t289 * (wrap64 (1 + t292)))))))).setCell ⟨gb276, 2, none⟩ (.int .i64 t283)).setCell ⟨gb276, 3, none⟩ (.int .i64 t285)) g s0_0 t299) := ⟨by repeat (first | (with_reducible first | exact HI0.out | apply IsS96.alloc | apply IsS96.drewN | apply IsS96.drew | apply IsS96.set_1 | refine IsS96.far ?_ NB0_269.out _ | refine IsS96.far ?_ NB0_270.out _ | refine IsS96.far ?_ NB0_276.out _ | refine IsS96.far ?_ NB0_280.out _ | refine IsS96.far ?_ NB0_291.out _) | exact HI0.out)⟩
   have n6_ : Aside0 (KeepBut w ((((w51.setCell ⟨gb276, 0, none⟩ (.int .i64 (wrap64 (t283 + (wrap64 (t287 * (wrap64 (1 + t292)))))))).setCell ⟨gb276, 1, none⟩ (.int .i64 (wrap64 (t285 + (wrap64 (t289 * (wrap64 (1 + t292)))))))).setCell ⟨gb276, 2, none⟩ (.int .i64 t283)).setCell ⟨gb276, 3, none⟩ (.int .i64 t285)) g none) := ⟨by repeat (first | (with_reducible first | exact HK.out | apply KeepBut.set_ | apply keep_drewN | apply keep_drew | apply keep_alloc | refine keep_far ?_ GW269.out _ | refine keep_far ?_ GW270.out _ | refine keep_far ?_ GW276.out _ | refine keep_far ?_ GW280.out _ | refine keep_far ?_ GW291.out _) | exact HK.out)⟩
   have n7_ : Aside0 (Below w0.heap.size w0 ((((w51.setCell ⟨gb276, 0, none⟩ (.int .i64 (wrap64 (t283 + (wrap64 (t287 * (wrap64 (1 + t292)))))))).setCell ⟨gb276, 1, none⟩ (.int .i64 (wrap64 (t285 + (wrap64 (t289 * (wrap64 (1 + t292)))))))).setCell ⟨gb276, 2, none⟩ (.int .i64 t283)).setCell ⟨gb276, 3, none⟩ (.int .i64 t285))) := ⟨by repeat (first | (with_reducible first | exact HB.out | apply below_alloc | apply pw_below_drewN | apply below_drew1 | refine below_set ?_ (IsS96.ge HI0.out) | refine below_set ?_ GE269.out | refine below_set ?_ GE270.out | refine below_set ?_ GE276.out | refine below_set ?_ GE280.out | refine below_set ?_ GE291.out) | exact HB.out)⟩
   (try clear BK269)
   (try clear BK270)
   (try clear BK276)
   (try clear BK280)
   (try clear BK291)
   (try clear HI0)
   (try clear HK)
   (try clear HB)
   generalize ((((w51.setCell ⟨gb276, 0, none⟩ (.int .i64 (wrap64 (t283 + (wrap64 (t287 * (wrap64 (1 + t292)))))))).setCell ⟨gb276, 1, none⟩ (.int .i64 (wrap64 (t285 + (wrap64 (t289 * (wrap64 (1 + t292)))))))).setCell ⟨gb276, 2, none⟩ (.int .i64 t283)).setCell ⟨gb276, 3, none⟩ (.int .i64 t285)) = w53 at n0_ n1_ n2_ n3_ n4_ n5_ n6_ n7_ ⊢
   have BK269 := n0_
   have BK270 := n1_
   have BK276 := n2_
   have BK280 := n3_
   have BK291 := n4_
   have HI0 := n5_
   have HK := n6_
   have HB := n7_
   clear n0_ n1_ n2_ n3_ n4_ n5_ n6_ n7_
   have n0_ := Aside0.mk (blk_drew BK269.out)
   have n1_ := Aside0.mk (blk_drew BK270.out)
   have n2_ := Aside0.mk (blk_drew BK276.out)
   have n3_ := Aside0.mk (blk_drew BK280.out)
   have n4_ := Aside0.mk (blk_drew BK291.out)
   have n5_ := Aside0.mk (IsS96.drew HI0.out)
   have n6_ := Aside0.mk (keep_drew HK.out)
   have n7_ := Aside0.mk (below_drew1 HB.out)
   clear BK269 BK270 BK276 BK280 BK291 HI0 HK HB
   have BK269 := n0_
   have BK270 := n1_
   have BK276 := n2_
   have BK280 := n3_
   have BK291 := n4_
   have HI0 := n5_
   have HK := n6_
   have HB := n7_
   clear n0_ n1_ n2_ n3_ n4_ n5_ n6_ n7_
   refine start_ (n := 4) (S := fun w' => w'.cell? ⟨gb276, 0, none⟩ = some (.int .i64 (wrap64 (t283 + (wrap64 (t287 * (wrap64 (1 + t292))))))) ∧ w'.cell? ⟨gb276, 1, none⟩ = some (.int .i64 (wrap64 (t285 + (wrap64 (t289 * (wrap64 (1 + t292))))))) ∧ w'.cell? ⟨gb276, 2, none⟩ = some (.int .i64 t283) ∧ w'.cell? ⟨gb276, 3, none⟩ = some (.int .i64 t285) ∧ w'.cell? ⟨gb280, 0, none⟩ = some (.int .i64 (wrap64 (t283 + (wrap64 (t287 * t294))))) ∧ w'.cell? ⟨gb280, 1, none⟩ = some (.int .i64 (wrap64 (t285 + (wrap64 (t289 * t296)))))) (ds := []) #[false, false, false, false] (by kernel_rfl) rfl rfl ⟨bc_, bc_, bc_, bc_, bc_, bc_⟩ (fun hHeld => ?_)
   generalize w53.drew = w54 at BK269 BK270 BK276 BK280 BK291 HI0 HK HB hHeld ⊢
   refine take_ (i := 0) (N := some 78) (v := ?_) (a' := ?_) #[true, false, false, false] rfl rfl (by kernel_rfl) (fun _ _ _ h => h) (Or.inl ⟨by rfl, ?_⟩) hHeld ?_ ?_
   rotate_left
   ·
    rintro w' ⟨s0, s1, s2, s3, s4, s5⟩
    go_simp
    with_reducible rfl
   rotate_left
   ·
    simp only [Act.put, List.setIfInBounds_toArray, List.set_cons_zero, List.set_cons_succ, i64_w, i32_w]
    rfl
   refine take_ (i := 1) (N := some 79) (v := ?_) (a' := ?_) #[true, true, false, false] rfl rfl (by kernel_rfl) (fun _ _ _ h => h) (Or.inl ⟨by rfl, ?_⟩) hHeld ?_ ?_
   rotate_left
   ·
    rintro w' ⟨s0, s1, s2, s3, s4, s5⟩
    go_simp
    with_reducible rfl
   rotate_left
   ·
    simp only [Act.put, List.setIfInBounds_toArray, List.set_cons_zero, List.set_cons_succ, i64_w, i32_w]
    rfl
   refine one_ (i := 2) (N := none) #[true, true, true, false] rfl rfl (by kernel_rfl) (by decide) (fun K hK => ?_)
   have hs55 : w54.cell? ⟨gb269, 0, none⟩ = some (.int .i64 0) := bc_
   have hfs55 := blk_frozen BK269.out 0
   have hns55_1 := NB270_269.out
   have hns55_2 := NB276_269.out
   have hns55_3 := NB280_269.out
   have hns55_4 := NB291_269.out
   have hms55_1 := NB269_270.out
   have hms55_2 := NB269_276.out
   have hms55_3 := NB269_280.out
   have hms55_4 := NB269_291.out
   have hs56 : w54.cell? ⟨gb269, 1, none⟩ = some (.int .i64 0) := bc_
   have hfs56 := blk_frozen BK269.out 1
   have hns56_1 := NB270_269.out
   have hns56_2 := NB276_269.out
   have hns56_3 := NB280_269.out
   have hns56_4 := NB291_269.out
   have hms56_1 := NB269_270.out
   have hms56_2 := NB269_276.out
   have hms56_3 := NB269_280.out
   have hms56_4 := NB269_291.out
   have hs57 : w54.cell? ⟨gb269, 2, none⟩ = some (.int .i64 0) := bc_
   have hfs57 := blk_frozen BK269.out 2
   have hns57_1 := NB270_269.out
   have hns57_2 := NB276_269.out
   have hns57_3 := NB280_269.out
   have hns57_4 := NB291_269.out
   have hms57_1 := NB269_270.out
   have hms57_2 := NB269_276.out
   have hms57_3 := NB269_280.out
   have hms57_4 := NB269_291.out
   have hs58 : w54.cell? ⟨gb269, 3, none⟩ = some (.int .i64 0) := bc_
   have hfs58 := blk_frozen BK269.out 3
   have hns58_1 := NB270_269.out
   have hns58_2 := NB276_269.out
   have hns58_3 := NB280_269.out
   have hns58_4 := NB291_269.out
   have hms58_1 := NB269_270.out
   have hms58_2 := NB269_276.out
   have hms58_3 := NB269_280.out
   have hms58_4 := NB269_291.out
   refine skip_ (w1 := ?_) (by rfl) rfl ?_ ?_
   rotate_left
   ·
    go_simp
    rfl
   refine hK.out _ _ ⟨((cell_far (p := ⟨gb269, _, none⟩) NB276_269.out _).trans (((cell_far (p := ⟨gb269, _, none⟩) NB276_269.out _).trans (((cell_far (p := ⟨gb269, _, none⟩) NB276_269.out _).trans (((cell_far (p := ⟨gb269, _, none⟩) NB276_269.out _).trans (hHeld.1)))))))), ((cell_far (p := ⟨gb269, _, none⟩) NB276_269.out _).trans (((cell_far (p := ⟨gb269, _, none⟩) NB276_269.out _).trans (((cell_far (p := ⟨gb269, _, none⟩) NB276_269.out _).trans (((cell_far (p := ⟨gb269, _, none⟩) NB276_269.out _).trans (hHeld.2.1)))))))), ((cell_far (p := ⟨gb269, _, none⟩) NB276_269.out _).trans (((cell_far (p := ⟨gb269, _, none⟩) NB276_269.out _).trans (((cell_far (p := ⟨gb269, _, none⟩) NB276_269.out _).trans (((cell_far (p := ⟨gb269, _, none⟩) NB276_269.out _).trans (hHeld.2.2.1)))))))), ((cell_far (p := ⟨gb269, _, none⟩) NB276_269.out _).trans (((cell_far (p := ⟨gb269, _, none⟩) NB276_269.out _).trans (((cell_far (p := ⟨gb269, _, none⟩) NB276_269.out _).trans (((cell_far (p := ⟨gb269, _, none⟩) NB276_269.out _).trans (hHeld.2.2.2.1)))))))), ((cell_far (p := ⟨gb269, _, none⟩) NB280_269.out _).trans (((cell_far (p := ⟨gb269, _, none⟩) NB280_269.out _).trans (((cell_far (p := ⟨gb269, _, none⟩) NB280_269.out _).trans (((cell_far (p := ⟨gb269, _, none⟩) NB280_269.out _).trans (hHeld.2.2.2.2.1)))))))), ((cell_far (p := ⟨gb269, _, none⟩) NB280_269.out _).trans (((cell_far (p := ⟨gb269, _, none⟩) NB280_269.out _).trans (((cell_far (p := ⟨gb269, _, none⟩) NB280_269.out _).trans (((cell_far (p := ⟨gb269, _, none⟩) NB280_269.out _).trans (hHeld.2.2.2.2.2))))))))⟩ (fun hHeld => ?_)
   clear hK K
   refine one_ (i := 3) (N := none) #[true, true, true, true] rfl rfl (by kernel_rfl) (by decide) (fun K hK => ?_)
   have hs59 : w54.cell? ⟨gb270, 0, none⟩ = some (.int .i64 0) := bc_
   have hfs59 := blk_frozen BK270.out 0
   have hns59_0 := NB269_270.out
   have hns59_2 := NB276_270.out
   have hns59_3 := NB280_270.out
   have hns59_4 := NB291_270.out
   have hms59_0 := NB270_269.out
   have hms59_2 := NB270_276.out
   have hms59_3 := NB270_280.out
   have hms59_4 := NB270_291.out
   have hs60 : w54.cell? ⟨gb270, 1, none⟩ = some (.int .i64 0) := bc_
   have hfs60 := blk_frozen BK270.out 1
   have hns60_0 := NB269_270.out
   have hns60_2 := NB276_270.out
   have hns60_3 := NB280_270.out
   have hns60_4 := NB291_270.out
   have hms60_0 := NB270_269.out
   have hms60_2 := NB270_276.out
   have hms60_3 := NB270_280.out
   have hms60_4 := NB270_291.out
   refine skip_ (w1 := ?_) (by rfl) rfl ?_ ?_
   rotate_left
   ·
    go_simp
    rfl
   refine hK.out _ _ ⟨((cell_far (p := ⟨gb270, _, none⟩) NB276_270.out _).trans (((cell_far (p := ⟨gb270, _, none⟩) NB276_270.out _).trans (hHeld.1)))), ((cell_far (p := ⟨gb270, _, none⟩) NB276_270.out _).trans (((cell_far (p := ⟨gb270, _, none⟩) NB276_270.out _).trans (hHeld.2.1)))), ((cell_far (p := ⟨gb270, _, none⟩) NB276_270.out _).trans (((cell_far (p := ⟨gb270, _, none⟩) NB276_270.out _).trans (hHeld.2.2.1)))), ((cell_far (p := ⟨gb270, _, none⟩) NB276_270.out _).trans (((cell_far (p := ⟨gb270, _, none⟩) NB276_270.out _).trans (hHeld.2.2.2.1)))), ((cell_far (p := ⟨gb270, _, none⟩) NB280_270.out _).trans (((cell_far (p := ⟨gb270, _, none⟩) NB280_270.out _).trans (hHeld.2.2.2.2.1)))), ((cell_far (p := ⟨gb270, _, none⟩) NB280_270.out _).trans (((cell_far (p := ⟨gb270, _, none⟩) NB280_270.out _).trans (hHeld.2.2.2.2.2))))⟩ (fun hHeld => ?_)
   clear hK K
   refine done_ (by kernel_rfl) ?_
   try go_wp2
   refine bodyPost_ret (results_cc rfl _ _ gb269 gb270 40 38 #[.int .i64 (wrap64 (t283 + (wrap64 (t287 * (wrap64 (1 + t292)))))), .int .i64 (wrap64 (t285 + (wrap64 (t289 * (wrap64 (1 + t292)))))), .int .i64 t283, .int .i64 t285] #[.int .i64 (wrap64 (t283 + (wrap64 (t287 * t294)))), .int .i64 (wrap64 (t285 + (wrap64 (t289 * t296))))] (0, 0) (0, 0) _ _ rfl (by (with_reducible repeat (first | refine blk_drewN ?_ _ | refine blk_drew ?_ | refine blk_alloc ?_ _)); refine blk_far ?_ NB269_270.out _; (with_reducible repeat (first | refine blk_drewN ?_ _ | refine blk_drew ?_ | refine blk_alloc ?_ _)); refine blk_far ?_ NB269_270.out _; (with_reducible repeat (first | refine blk_drewN ?_ _ | refine blk_drew ?_ | refine blk_alloc ?_ _)); refine blk_put (cs := #[.int .i64 (wrap64 (t283 + (wrap64 (t287 * (wrap64 (1 + t292)))))), .int .i64 (wrap64 (t285 + (wrap64 (t289 * (wrap64 (1 + t292)))))), .int .i64 t283, .int .i64 0]) ?_ 3 _ rfl; (with_reducible repeat (first | refine blk_drewN ?_ _ | refine blk_drew ?_ | refine blk_alloc ?_ _)); refine blk_put (cs := #[.int .i64 (wrap64 (t283 + (wrap64 (t287 * (wrap64 (1 + t292)))))), .int .i64 (wrap64 (t285 + (wrap64 (t289 * (wrap64 (1 + t292)))))), .int .i64 0, .int .i64 0]) ?_ 2 _ rfl; (with_reducible repeat (first | refine blk_drewN ?_ _ | refine blk_drew ?_ | refine blk_alloc ?_ _)); refine blk_put (cs := #[.int .i64 (wrap64 (t283 + (wrap64 (t287 * (wrap64 (1 + t292)))))), .int .i64 0, .int .i64 0, .int .i64 0]) ?_ 1 _ rfl; (with_reducible repeat (first | refine blk_drewN ?_ _ | refine blk_drew ?_ | refine blk_alloc ?_ _)); refine blk_put (cs := #[.int .i64 0, .int .i64 0, .int .i64 0, .int .i64 0]) ?_ 0 _ rfl; (with_reducible repeat (first | refine blk_drewN ?_ _ | refine blk_drew ?_ | refine blk_alloc ?_ _)); exact BK269.out) Tryd.underlying40 rfl (by kernel_rfl) rfl (by (with_reducible repeat (first | refine blk_drewN ?_ _ | refine blk_drew ?_ | refine blk_alloc ?_ _)); refine blk_put (cs := #[.int .i64 (wrap64 (t283 + (wrap64 (t287 * t294)))), .int .i64 0]) ?_ 1 _ rfl; (with_reducible repeat (first | refine blk_drewN ?_ _ | refine blk_drew ?_ | refine blk_alloc ?_ _)); refine blk_put (cs := #[.int .i64 0, .int .i64 0]) ?_ 0 _ rfl; (with_reducible repeat (first | refine blk_drewN ?_ _ | refine blk_drew ?_ | refine blk_alloc ?_ _)); refine blk_far ?_ NB270_269.out _; (with_reducible repeat (first | refine blk_drewN ?_ _ | refine blk_drew ?_ | refine blk_alloc ?_ _)); refine blk_far ?_ NB270_269.out _; (with_reducible repeat (first | refine blk_drewN ?_ _ | refine blk_drew ?_ | refine blk_alloc ?_ _)); refine blk_far ?_ NB270_269.out _; (with_reducible repeat (first | refine blk_drewN ?_ _ | refine blk_drew ?_ | refine blk_alloc ?_ _)); refine blk_far ?_ NB270_269.out _; (with_reducible repeat (first | refine blk_drewN ?_ _ | refine blk_drew ?_ | refine blk_alloc ?_ _)); exact BK270.out) Tryd.underlying38 rfl (by kernel_rfl)) rfl ?_
   exact ⟨by first | rfl | (simp [errW_none, errW_some] <;> rfl) | (simp [*, errW_none, errW_some] <;> rfl), by repeat (first | (with_reducible first | exact HI0.out | apply IsS96.alloc | apply IsS96.drewN | apply IsS96.drew | apply IsS96.set_1 | refine IsS96.far ?_ NB0_269.out _ | refine IsS96.far ?_ NB0_270.out _ | refine IsS96.far ?_ NB0_276.out _ | refine IsS96.far ?_ NB0_280.out _ | refine IsS96.far ?_ NB0_291.out _) | exact HI0.out), by repeat (first | (with_reducible first | exact HB.out | apply below_alloc | apply pw_below_drewN | apply below_drew1 | refine below_set ?_ (IsS96.ge HI0.out) | refine below_set ?_ GE269.out | refine below_set ?_ GE270.out | refine below_set ?_ GE276.out | refine below_set ?_ GE280.out | refine below_set ?_ GE291.out) | exact HB.out), by repeat (first | (with_reducible first | exact HK.out | apply KeepBut.set_ | apply keep_drewN | apply keep_drew | apply keep_alloc | refine keep_far ?_ GW269.out _ | refine keep_far ?_ GW270.out _ | refine keep_far ?_ GW276.out _ | refine keep_far ?_ GW280.out _ | refine keep_far ?_ GW291.out _) | exact HK.out)⟩
  ·
   rw [if_neg c14] at H
   have c14b0 : (t298 == 0) = false := beq_eq_false_iff_ne.mpr c14
   have c14b1 : (t298 != 0) = true := bne_iff_ne.mpr c14
   simp only [Option.some.injEq, Prod.mk.injEq] at H
   obtain ⟨rfl, rfl, rfl, rfl, rfl, rfl, rfl⟩ := H
   go_enter Tryd.func49, Tryd.ntmps49
   try go_wp2_with (first | ((with_reducible refine gate_dst (N := 2) rfl ?_); refine box_event ?hg (N := 2) ?hd (cs := #[.int .i64 0, .int .i64 0, .int .i64 0, .int .i64 0]) (t := 40) ?hr ?_; (case hd => rfl); (case hg => rfl); (case hr => first | (go_simp; done) | (go_simp; rfl)); intro gb269 hg w61 hbox hb; have n0_ := Aside0.mk (IsS96.below (by repeat (first | (with_reducible first | exact HI0.out | apply IsS96.alloc | apply IsS96.drewN | apply IsS96.drew | apply IsS96.set_1) | exact HI0.out)) hb); have n1_ := Aside0.mk (KeepBut.trans (by repeat (first | (with_reducible first | exact HK.out | apply KeepBut.set_ | apply keep_drewN | apply keep_drew | apply keep_alloc) | exact HK.out)) (KeepBut.of_below hb g none) (.inl rfl)); have n2_ := Aside0.mk (below_step (by repeat (first | (with_reducible first | exact HB.out | apply below_alloc | apply pw_below_drewN | apply below_drew1 | refine below_set ?_ (IsS96.ge HI0.out)) | exact HB.out)) hb); have n3_ := Aside0.mk (hbox); have n4_ := Aside0.mk ((by rw [hg]; exact (keep_size (w := w) (g := g) (row := none) (by repeat (first | (with_reducible first | exact HK.out | apply KeepBut.set_ | apply keep_drewN | apply keep_drew | apply keep_alloc) | exact HK.out))) : w.heap.size ≤ gb269)); have n5_ := Aside0.mk ((Nat.le_trans HW0.out (by rw [hg]; exact (keep_size (w := w) (g := g) (row := none) (by repeat (first | (with_reducible first | exact HK.out | apply KeepBut.set_ | apply keep_drewN | apply keep_drew | apply keep_alloc) | exact HK.out))) : w.heap.size ≤ gb269) : w0.heap.size ≤ gb269)); have n6_ := Aside0.mk ((by rw [hg]; exact Nat.ne_of_lt (IsS96.lt (show IsS96 w0 _ g s0_0 s0_1 from by repeat (first | (with_reducible first | exact HI0.out | apply IsS96.alloc | apply IsS96.drewN | apply IsS96.drew | apply IsS96.set_1) | exact HI0.out))) : g ≠ gb269)); have n7_ := Aside0.mk ((by rw [hg]; exact Nat.ne_of_gt (IsS96.lt (show IsS96 w0 _ g s0_0 s0_1 from by repeat (first | (with_reducible first | exact HI0.out | apply IsS96.alloc | apply IsS96.drewN | apply IsS96.drew | apply IsS96.set_1) | exact HI0.out))) : gb269 ≠ g)); clear HI0; clear HK; clear HB; have HI0 := n0_; have HK := n1_; have HB := n2_; have BK269 := n3_; have GW269 := n4_; have GE269 := n5_; have NB0_269 := n6_; have NB269_0 := n7_; clear n0_ n1_ n2_ n3_ n4_ n5_ n6_ n7_; clear hb hbox hg) | ((with_reducible refine gate_dst (N := 3) rfl ?_); refine box_event ?hg (N := 3) ?hd (cs := #[.int .i64 0, .int .i64 0]) (t := 38) ?hr ?_; (case hd => rfl); (case hg => rfl); (case hr => first | (go_simp; done) | (go_simp; rfl)); intro gb270 hg w62 hbox hb; have n0_ := Aside0.mk (IsS96.below (by repeat (first | (with_reducible first | exact HI0.out | apply IsS96.alloc | apply IsS96.drewN | apply IsS96.drew | apply IsS96.set_1 | refine IsS96.far ?_ NB0_269.out _) | exact HI0.out)) hb); have n1_ := Aside0.mk (ub_ (g := gb269) hb); have n2_ := Aside0.mk (KeepBut.trans (by repeat (first | (with_reducible first | exact HK.out | apply KeepBut.set_ | apply keep_drewN | apply keep_drew | apply keep_alloc | refine keep_far ?_ GW269.out _) | exact HK.out)) (KeepBut.of_below hb g none) (.inl rfl)); have n3_ := Aside0.mk (below_step (by repeat (first | (with_reducible first | exact HB.out | apply below_alloc | apply pw_below_drewN | apply below_drew1 | refine below_set ?_ (IsS96.ge HI0.out) | refine below_set ?_ GE269.out) | exact HB.out)) hb); have n4_ := Aside0.mk (hbox); have n5_ := Aside0.mk ((by rw [hg]; exact (keep_size (w := w) (g := g) (row := none) (by repeat (first | (with_reducible first | exact HK.out | apply KeepBut.set_ | apply keep_drewN | apply keep_drew | apply keep_alloc | refine keep_far ?_ GW269.out _) | exact HK.out))) : w.heap.size ≤ gb270)); have n6_ := Aside0.mk ((Nat.le_trans HW0.out (by rw [hg]; exact (keep_size (w := w) (g := g) (row := none) (by repeat (first | (with_reducible first | exact HK.out | apply KeepBut.set_ | apply keep_drewN | apply keep_drew | apply keep_alloc | refine keep_far ?_ GW269.out _) | exact HK.out))) : w.heap.size ≤ gb270) : w0.heap.size ≤ gb270)); have n7_ := Aside0.mk ((by rw [hg]; exact Nat.ne_of_lt (blk_lt (g := gb269) (o := .cells #[.int .i64 0, .int .i64 0, .int .i64 0, .int .i64 0] 40 (0, 0)) uq_) : gb269 ≠ gb270)); have n8_ := Aside0.mk ((by rw [hg]; exact Nat.ne_of_gt (blk_lt (g := gb269) (o := .cells #[.int .i64 0, .int .i64 0, .int .i64 0, .int .i64 0] 40 (0, 0)) uq_) : gb270 ≠ gb269)); have n9_ := Aside0.mk ((by rw [hg]; exact Nat.ne_of_lt (IsS96.lt (show IsS96 w0 _ g s0_0 s0_1 from by repeat (first | (with_reducible first | exact HI0.out | apply IsS96.alloc | apply IsS96.drewN | apply IsS96.drew | apply IsS96.set_1 | refine IsS96.far ?_ NB0_269.out _) | exact HI0.out))) : g ≠ gb270)); have n10_ := Aside0.mk ((by rw [hg]; exact Nat.ne_of_gt (IsS96.lt (show IsS96 w0 _ g s0_0 s0_1 from by repeat (first | (with_reducible first | exact HI0.out | apply IsS96.alloc | apply IsS96.drewN | apply IsS96.drew | apply IsS96.set_1 | refine IsS96.far ?_ NB0_269.out _) | exact HI0.out))) : gb270 ≠ g)); clear HI0; clear BK269; clear HK; clear HB; have HI0 := n0_; have BK269 := n1_; have HK := n2_; have HB := n3_; have BK270 := n4_; have GW270 := n5_; have GE270 := n6_; have NB269_270 := n7_; have NB270_269 := n8_; have NB0_270 := n9_; have NB270_0 := n10_; clear n0_ n1_ n2_ n3_ n4_ n5_ n6_ n7_ n8_ n9_ n10_; clear hb hbox hg) | ((with_reducible refine gate_callee (f := 50) rfl ?_); refine goesL_ (some 9) rfl rfl Tryd.func50 (by kernel_rfl) rfl #[.pointer (some ⟨g, 0, none⟩)] rfl ma_ ?_; (with_reducible refine (spec_l71Seg.calls k g s0_0 s0_1 t271 t272 t273 t274 t275 w0 _ ?side1 ?side2 A2.out).mono ?_); (case side1 => repeat (first | (with_reducible first | exact HI0.out | apply IsS96.alloc | apply IsS96.drewN | apply IsS96.drew | apply IsS96.set_1 | refine IsS96.far ?_ NB0_269.out _ | refine IsS96.far ?_ NB0_270.out _) | exact HI0.out)); (case side2 => repeat (first | (with_reducible first | exact HB.out | apply below_alloc | apply pw_below_drewN | apply below_drew1 | refine below_set ?_ (IsS96.ge HI0.out) | refine below_set ?_ GE269.out | refine below_set ?_ GE270.out) | exact HB.out)); rintro e w63 ⟨rfl, hi, hb, hk⟩; refine ⟨_, rfl, ?_⟩; have n0_ := Aside0.mk (KeepBut.blk hk (g' := gb269) (o := .cells #[.int .i64 0, .int .i64 0, .int .i64 0, .int .i64 0] 40 (0, 0)) uq_ NB269_0.out (by simp)); have n1_ := Aside0.mk (KeepBut.blk hk (g' := gb270) (o := .cells #[.int .i64 0, .int .i64 0] 38 (0, 0)) uq_ NB270_0.out (by simp)); have n2_ := Aside0.mk (KeepBut.trans (by repeat (first | (with_reducible first | exact HK.out | apply KeepBut.set_ | apply keep_drewN | apply keep_drew | apply keep_alloc | refine keep_far ?_ GW269.out _ | refine keep_far ?_ GW270.out _) | exact HK.out)) hk (.inl rfl)); have n3_ := Aside0.mk (hb); have n4_ := Aside0.mk (hi); clear BK269; clear BK270; clear HK; clear HB; clear HI0; have BK269 := n0_; have BK270 := n1_; have HK := n2_; have HB := n3_; have HI0 := n4_; clear n0_ n1_ n2_ n3_ n4_; (try clear hb); (try clear hb2); (try clear hk); (try clear hi)) | ((with_reducible refine gate_dst (N := 4) rfl ?_); refine box_event ?hg (N := 4) ?hd (cs := #[.int .i64 0, .int .i64 0, .int .i64 0, .int .i64 0]) (t := 40) ?hr ?_; (case hd => rfl); (case hg => rfl); (case hr => first | (go_simp; done) | (go_simp; rfl)); intro gb276 hg w64 hbox hb; have n0_ := Aside0.mk (IsS96.below (by repeat (first | (with_reducible first | exact HI0.out | apply IsS96.alloc | apply IsS96.drewN | apply IsS96.drew | apply IsS96.set_1 | refine IsS96.far ?_ NB0_269.out _ | refine IsS96.far ?_ NB0_270.out _) | exact HI0.out)) hb); have n1_ := Aside0.mk (ub_ (g := gb269) hb); have n2_ := Aside0.mk (ub_ (g := gb270) hb); have n3_ := Aside0.mk (KeepBut.trans (by repeat (first | (with_reducible first | exact HK.out | apply KeepBut.set_ | apply keep_drewN | apply keep_drew | apply keep_alloc | refine keep_far ?_ GW269.out _ | refine keep_far ?_ GW270.out _) | exact HK.out)) (KeepBut.of_below hb g none) (.inl rfl)); have n4_ := Aside0.mk (below_step (by repeat (first | (with_reducible first | exact HB.out | apply below_alloc | apply pw_below_drewN | apply below_drew1 | refine below_set ?_ (IsS96.ge HI0.out) | refine below_set ?_ GE269.out | refine below_set ?_ GE270.out) | exact HB.out)) hb); have n5_ := Aside0.mk (hbox); have n6_ := Aside0.mk ((by rw [hg]; exact (keep_size (w := w) (g := g) (row := none) (by repeat (first | (with_reducible first | exact HK.out | apply KeepBut.set_ | apply keep_drewN | apply keep_drew | apply keep_alloc | refine keep_far ?_ GW269.out _ | refine keep_far ?_ GW270.out _) | exact HK.out))) : w.heap.size ≤ gb276)); have n7_ := Aside0.mk ((Nat.le_trans HW0.out (by rw [hg]; exact (keep_size (w := w) (g := g) (row := none) (by repeat (first | (with_reducible first | exact HK.out | apply KeepBut.set_ | apply keep_drewN | apply keep_drew | apply keep_alloc | refine keep_far ?_ GW269.out _ | refine keep_far ?_ GW270.out _) | exact HK.out))) : w.heap.size ≤ gb276) : w0.heap.size ≤ gb276)); have n8_ := Aside0.mk ((by rw [hg]; exact Nat.ne_of_lt (blk_lt (g := gb269) (o := .cells #[.int .i64 0, .int .i64 0, .int .i64 0, .int .i64 0] 40 (0, 0)) uq_) : gb269 ≠ gb276)); have n9_ := Aside0.mk ((by rw [hg]; exact Nat.ne_of_gt (blk_lt (g := gb269) (o := .cells #[.int .i64 0, .int .i64 0, .int .i64 0, .int .i64 0] 40 (0, 0)) uq_) : gb276 ≠ gb269)); have n10_ := Aside0.mk ((by rw [hg]; exact Nat.ne_of_lt (blk_lt (g := gb270) (o := .cells #[.int .i64 0, .int .i64 0] 38 (0, 0)) uq_) : gb270 ≠ gb276)); have n11_ := Aside0.mk ((by rw [hg]; exact Nat.ne_of_gt (blk_lt (g := gb270) (o := .cells #[.int .i64 0, .int .i64 0] 38 (0, 0)) uq_) : gb276 ≠ gb270)); have n12_ := Aside0.mk ((by rw [hg]; exact Nat.ne_of_lt (IsS96.lt (show IsS96 w0 _ g s0_0 t275 from by repeat (first | (with_reducible first | exact HI0.out | apply IsS96.alloc | apply IsS96.drewN | apply IsS96.drew | apply IsS96.set_1 | refine IsS96.far ?_ NB0_269.out _ | refine IsS96.far ?_ NB0_270.out _) | exact HI0.out))) : g ≠ gb276)); have n13_ := Aside0.mk ((by rw [hg]; exact Nat.ne_of_gt (IsS96.lt (show IsS96 w0 _ g s0_0 t275 from by repeat (first | (with_reducible first | exact HI0.out | apply IsS96.alloc | apply IsS96.drewN | apply IsS96.drew | apply IsS96.set_1 | refine IsS96.far ?_ NB0_269.out _ | refine IsS96.far ?_ NB0_270.out _) | exact HI0.out))) : gb276 ≠ g)); clear HI0; clear BK269; clear BK270; clear HK; clear HB; have HI0 := n0_; have BK269 := n1_; have BK270 := n2_; have HK := n3_; have HB := n4_; have BK276 := n5_; have GW276 := n6_; have GE276 := n7_; have NB269_276 := n8_; have NB276_269 := n9_; have NB270_276 := n10_; have NB276_270 := n11_; have NB0_276 := n12_; have NB276_0 := n13_; clear n0_ n1_ n2_ n3_ n4_ n5_ n6_ n7_ n8_ n9_ n10_ n11_ n12_ n13_; clear hb hbox hg; have hnb65 := NB276_269.out; have hnc65 := NB269_276.out; have hnb66 := NB276_270.out; have hnc66 := NB270_276.out; have hnb67 := NB276_0.out; have hnc67 := NB0_276.out; have hcz68_0 : w64.cell? ⟨gb276, 0, none⟩ = some (.int .i64 0) := bc_; have hcz68_1 : w64.cell? ⟨gb276, 1, none⟩ = some (.int .i64 0) := bc_; have hcz68_2 : w64.cell? ⟨gb276, 2, none⟩ = some (.int .i64 0) := bc_; have hcz68_3 : w64.cell? ⟨gb276, 3, none⟩ = some (.int .i64 0) := bc_; have hfz68_0 := blk_frozen BK276.out 0; have hfz68_1 := blk_frozen BK276.out 1; have hfz68_2 := blk_frozen BK276.out 2; have hfz68_3 := blk_frozen BK276.out 3) | ((with_reducible refine gate_callee (f := 51) rfl ?_); refine goesL_ (some 11) rfl rfl Tryd.func51 (by kernel_rfl) rfl #[.pointer (some ⟨g, 0, none⟩)] rfl ma_ ?_; (with_reducible refine (spec_l71Pt.calls k g s0_0 t275 t277 t278 t279 w0 _ ?side1 ?side2 A3.out).mono ?_); (case side1 => repeat (first | (with_reducible first | exact HI0.out | apply IsS96.alloc | apply IsS96.drewN | apply IsS96.drew | apply IsS96.set_1 | refine IsS96.far ?_ NB0_269.out _ | refine IsS96.far ?_ NB0_270.out _ | refine IsS96.far ?_ NB0_276.out _) | exact HI0.out)); (case side2 => repeat (first | (with_reducible first | exact HB.out | apply below_alloc | apply pw_below_drewN | apply below_drew1 | refine below_set ?_ (IsS96.ge HI0.out) | refine below_set ?_ GE269.out | refine below_set ?_ GE270.out | refine below_set ?_ GE276.out) | exact HB.out)); rintro e w69 ⟨rfl, hi, hb, hk⟩; refine ⟨_, rfl, ?_⟩; have n0_ := Aside0.mk (KeepBut.blk hk (g' := gb269) (o := .cells #[.int .i64 0, .int .i64 0, .int .i64 0, .int .i64 0] 40 (0, 0)) (by (with_reducible repeat (first | refine blk_drewN ?_ _ | refine blk_drew ?_ | refine blk_alloc ?_ _)); refine blk_far ?_ NB269_276.out _; (with_reducible repeat (first | refine blk_drewN ?_ _ | refine blk_drew ?_ | refine blk_alloc ?_ _)); refine blk_far ?_ NB269_276.out _; (with_reducible repeat (first | refine blk_drewN ?_ _ | refine blk_drew ?_ | refine blk_alloc ?_ _)); refine blk_far ?_ NB269_276.out _; (with_reducible repeat (first | refine blk_drewN ?_ _ | refine blk_drew ?_ | refine blk_alloc ?_ _)); refine blk_far ?_ NB269_276.out _; (with_reducible repeat (first | refine blk_drewN ?_ _ | refine blk_drew ?_ | refine blk_alloc ?_ _)); exact BK269.out) NB269_0.out (by simp)); have n1_ := Aside0.mk (KeepBut.blk hk (g' := gb270) (o := .cells #[.int .i64 0, .int .i64 0] 38 (0, 0)) (by (with_reducible repeat (first | refine blk_drewN ?_ _ | refine blk_drew ?_ | refine blk_alloc ?_ _)); refine blk_far ?_ NB270_276.out _; (with_reducible repeat (first | refine blk_drewN ?_ _ | refine blk_drew ?_ | refine blk_alloc ?_ _)); refine blk_far ?_ NB270_276.out _; (with_reducible repeat (first | refine blk_drewN ?_ _ | refine blk_drew ?_ | refine blk_alloc ?_ _)); refine blk_far ?_ NB270_276.out _; (with_reducible repeat (first | refine blk_drewN ?_ _ | refine blk_drew ?_ | refine blk_alloc ?_ _)); refine blk_far ?_ NB270_276.out _; (with_reducible repeat (first | refine blk_drewN ?_ _ | refine blk_drew ?_ | refine blk_alloc ?_ _)); exact BK270.out) NB270_0.out (by simp)); have n2_ := Aside0.mk (KeepBut.blk hk (g' := gb276) (o := .cells #[.int .i64 t271, .int .i64 t272, .int .i64 t273, .int .i64 t274] 40 (0, 0)) (by (with_reducible repeat (first | refine blk_drewN ?_ _ | refine blk_drew ?_ | refine blk_alloc ?_ _)); refine blk_put (cs := #[.int .i64 t271, .int .i64 t272, .int .i64 t273, .int .i64 0]) ?_ 3 _ rfl; (with_reducible repeat (first | refine blk_drewN ?_ _ | refine blk_drew ?_ | refine blk_alloc ?_ _)); refine blk_put (cs := #[.int .i64 t271, .int .i64 t272, .int .i64 0, .int .i64 0]) ?_ 2 _ rfl; (with_reducible repeat (first | refine blk_drewN ?_ _ | refine blk_drew ?_ | refine blk_alloc ?_ _)); refine blk_put (cs := #[.int .i64 t271, .int .i64 0, .int .i64 0, .int .i64 0]) ?_ 1 _ rfl; (with_reducible repeat (first | refine blk_drewN ?_ _ | refine blk_drew ?_ | refine blk_alloc ?_ _)); refine blk_put (cs := #[.int .i64 0, .int .i64 0, .int .i64 0, .int .i64 0]) ?_ 0 _ rfl; (with_reducible repeat (first | refine blk_drewN ?_ _ | refine blk_drew ?_ | refine blk_alloc ?_ _)); exact BK276.out) NB276_0.out (by simp)); have n3_ := Aside0.mk (KeepBut.trans (by repeat (first | (with_reducible first | exact HK.out | apply KeepBut.set_ | apply keep_drewN | apply keep_drew | apply keep_alloc | refine keep_far ?_ GW269.out _ | refine keep_far ?_ GW270.out _ | refine keep_far ?_ GW276.out _) | exact HK.out)) hk (.inl rfl)); have n4_ := Aside0.mk (hb); have n5_ := Aside0.mk (hi); clear BK269; clear BK270; clear BK276; clear HK; clear HB; clear HI0; have BK269 := n0_; have BK270 := n1_; have BK276 := n2_; have HK := n3_; have HB := n4_; have HI0 := n5_; clear n0_ n1_ n2_ n3_ n4_ n5_; (try clear hb); (try clear hb2); (try clear hk); (try clear hi)) | ((with_reducible refine gate_dst (N := 5) rfl ?_); refine box_event ?hg (N := 5) ?hd (cs := #[.int .i64 0, .int .i64 0]) (t := 38) ?hr ?_; (case hd => rfl); (case hg => rfl); (case hr => first | (go_simp; done) | (go_simp; rfl)); intro gb280 hg w70 hbox hb; have n0_ := Aside0.mk (IsS96.below (by repeat (first | (with_reducible first | exact HI0.out | apply IsS96.alloc | apply IsS96.drewN | apply IsS96.drew | apply IsS96.set_1 | refine IsS96.far ?_ NB0_269.out _ | refine IsS96.far ?_ NB0_270.out _ | refine IsS96.far ?_ NB0_276.out _) | exact HI0.out)) hb); have n1_ := Aside0.mk (ub_ (g := gb269) hb); have n2_ := Aside0.mk (ub_ (g := gb270) hb); have n3_ := Aside0.mk (ub_ (g := gb276) hb); have n4_ := Aside0.mk (KeepBut.trans (by repeat (first | (with_reducible first | exact HK.out | apply KeepBut.set_ | apply keep_drewN | apply keep_drew | apply keep_alloc | refine keep_far ?_ GW269.out _ | refine keep_far ?_ GW270.out _ | refine keep_far ?_ GW276.out _) | exact HK.out)) (KeepBut.of_below hb g none) (.inl rfl)); have n5_ := Aside0.mk (below_step (by repeat (first | (with_reducible first | exact HB.out | apply below_alloc | apply pw_below_drewN | apply below_drew1 | refine below_set ?_ (IsS96.ge HI0.out) | refine below_set ?_ GE269.out | refine below_set ?_ GE270.out | refine below_set ?_ GE276.out) | exact HB.out)) hb); have n6_ := Aside0.mk (hbox); have n7_ := Aside0.mk ((by rw [hg]; exact (keep_size (w := w) (g := g) (row := none) (by repeat (first | (with_reducible first | exact HK.out | apply KeepBut.set_ | apply keep_drewN | apply keep_drew | apply keep_alloc | refine keep_far ?_ GW269.out _ | refine keep_far ?_ GW270.out _ | refine keep_far ?_ GW276.out _) | exact HK.out))) : w.heap.size ≤ gb280)); have n8_ := Aside0.mk ((Nat.le_trans HW0.out (by rw [hg]; exact (keep_size (w := w) (g := g) (row := none) (by repeat (first | (with_reducible first | exact HK.out | apply KeepBut.set_ | apply keep_drewN | apply keep_drew | apply keep_alloc | refine keep_far ?_ GW269.out _ | refine keep_far ?_ GW270.out _ | refine keep_far ?_ GW276.out _) | exact HK.out))) : w.heap.size ≤ gb280) : w0.heap.size ≤ gb280)); have n9_ := Aside0.mk ((by rw [hg]; exact Nat.ne_of_lt (blk_lt (g := gb269) (o := .cells #[.int .i64 0, .int .i64 0, .int .i64 0, .int .i64 0] 40 (0, 0)) uq_) : gb269 ≠ gb280)); have n10_ := Aside0.mk ((by rw [hg]; exact Nat.ne_of_gt (blk_lt (g := gb269) (o := .cells #[.int .i64 0, .int .i64 0, .int .i64 0, .int .i64 0] 40 (0, 0)) uq_) : gb280 ≠ gb269)); have n11_ := Aside0.mk ((by rw [hg]; exact Nat.ne_of_lt (blk_lt (g := gb270) (o := .cells #[.int .i64 0, .int .i64 0] 38 (0, 0)) uq_) : gb270 ≠ gb280)); have n12_ := Aside0.mk ((by rw [hg]; exact Nat.ne_of_gt (blk_lt (g := gb270) (o := .cells #[.int .i64 0, .int .i64 0] 38 (0, 0)) uq_) : gb280 ≠ gb270)); have n13_ := Aside0.mk ((by rw [hg]; exact Nat.ne_of_lt (blk_lt (g := gb276) (o := .cells #[.int .i64 t271, .int .i64 t272, .int .i64 t273, .int .i64 t274] 40 (0, 0)) uq_) : gb276 ≠ gb280)); have n14_ := Aside0.mk ((by rw [hg]; exact Nat.ne_of_gt (blk_lt (g := gb276) (o := .cells #[.int .i64 t271, .int .i64 t272, .int .i64 t273, .int .i64 t274] 40 (0, 0)) uq_) : gb280 ≠ gb276)); have n15_ := Aside0.mk ((by rw [hg]; exact Nat.ne_of_lt (IsS96.lt (show IsS96 w0 _ g s0_0 t279 from by repeat (first | (with_reducible first | exact HI0.out | apply IsS96.alloc | apply IsS96.drewN | apply IsS96.drew | apply IsS96.set_1 | refine IsS96.far ?_ NB0_269.out _ | refine IsS96.far ?_ NB0_270.out _ | refine IsS96.far ?_ NB0_276.out _) | exact HI0.out))) : g ≠ gb280)); have n16_ := Aside0.mk ((by rw [hg]; exact Nat.ne_of_gt (IsS96.lt (show IsS96 w0 _ g s0_0 t279 from by repeat (first | (with_reducible first | exact HI0.out | apply IsS96.alloc | apply IsS96.drewN | apply IsS96.drew | apply IsS96.set_1 | refine IsS96.far ?_ NB0_269.out _ | refine IsS96.far ?_ NB0_270.out _ | refine IsS96.far ?_ NB0_276.out _) | exact HI0.out))) : gb280 ≠ g)); clear HI0; clear BK269; clear BK270; clear BK276; clear HK; clear HB; have HI0 := n0_; have BK269 := n1_; have BK270 := n2_; have BK276 := n3_; have HK := n4_; have HB := n5_; have BK280 := n6_; have GW280 := n7_; have GE280 := n8_; have NB269_280 := n9_; have NB280_269 := n10_; have NB270_280 := n11_; have NB280_270 := n12_; have NB276_280 := n13_; have NB280_276 := n14_; have NB0_280 := n15_; have NB280_0 := n16_; clear n0_ n1_ n2_ n3_ n4_ n5_ n6_ n7_ n8_ n9_ n10_ n11_ n12_ n13_ n14_ n15_ n16_; clear hb hbox hg; have hnb71 := NB280_269.out; have hnc71 := NB269_280.out; have hnb72 := NB280_270.out; have hnc72 := NB270_280.out; have hnb73 := NB280_276.out; have hnc73 := NB276_280.out; have hnb74 := NB280_0.out; have hnc74 := NB0_280.out; have hcz75_0 : w70.cell? ⟨gb280, 0, none⟩ = some (.int .i64 0) := bc_; have hcz75_1 : w70.cell? ⟨gb280, 1, none⟩ = some (.int .i64 0) := bc_; have hfz75_0 := blk_frozen BK280.out 0; have hfz75_1 := blk_frozen BK280.out 1) | ((with_reducible refine gate_callee (f := 48) rfl ?_); refine goesL_ (some 13) rfl rfl Tryd.func48 (by kernel_rfl) rfl #[.pointer (some ⟨g, 0, none⟩), .int .i64 3] rfl ma_ ?_; (with_reducible refine (spec_l6Rd_pick.calls k g s0_0 t279 3 t281 t282 w0 _ ?side1 ?side2 A4.out).mono ?_); (case side1 => repeat (first | (with_reducible first | exact HI0.out | apply IsS96.alloc | apply IsS96.drewN | apply IsS96.drew | apply IsS96.set_1 | refine IsS96.far ?_ NB0_269.out _ | refine IsS96.far ?_ NB0_270.out _ | refine IsS96.far ?_ NB0_276.out _ | refine IsS96.far ?_ NB0_280.out _) | exact HI0.out)); (case side2 => repeat (first | (with_reducible first | exact HB.out | apply below_alloc | apply pw_below_drewN | apply below_drew1 | refine below_set ?_ (IsS96.ge HI0.out) | refine below_set ?_ GE269.out | refine below_set ?_ GE270.out | refine below_set ?_ GE276.out | refine below_set ?_ GE280.out) | exact HB.out)); rintro e w76 ⟨rfl, hi, hb, hk⟩; refine ⟨_, rfl, ?_⟩; have n0_ := Aside0.mk (KeepBut.blk hk (g' := gb269) (o := .cells #[.int .i64 0, .int .i64 0, .int .i64 0, .int .i64 0] 40 (0, 0)) (by (with_reducible repeat (first | refine blk_drewN ?_ _ | refine blk_drew ?_ | refine blk_alloc ?_ _)); refine blk_far ?_ NB269_280.out _; (with_reducible repeat (first | refine blk_drewN ?_ _ | refine blk_drew ?_ | refine blk_alloc ?_ _)); refine blk_far ?_ NB269_280.out _; (with_reducible repeat (first | refine blk_drewN ?_ _ | refine blk_drew ?_ | refine blk_alloc ?_ _)); exact BK269.out) NB269_0.out (by simp)); have n1_ := Aside0.mk (KeepBut.blk hk (g' := gb270) (o := .cells #[.int .i64 0, .int .i64 0] 38 (0, 0)) (by (with_reducible repeat (first | refine blk_drewN ?_ _ | refine blk_drew ?_ | refine blk_alloc ?_ _)); refine blk_far ?_ NB270_280.out _; (with_reducible repeat (first | refine blk_drewN ?_ _ | refine blk_drew ?_ | refine blk_alloc ?_ _)); refine blk_far ?_ NB270_280.out _; (with_reducible repeat (first | refine blk_drewN ?_ _ | refine blk_drew ?_ | refine blk_alloc ?_ _)); exact BK270.out) NB270_0.out (by simp)); have n2_ := Aside0.mk (KeepBut.blk hk (g' := gb276) (o := .cells #[.int .i64 t271, .int .i64 t272, .int .i64 t273, .int .i64 t274] 40 (0, 0)) (by (with_reducible repeat (first | refine blk_drewN ?_ _ | refine blk_drew ?_ | refine blk_alloc ?_ _)); refine blk_far ?_ NB276_280.out _; (with_reducible repeat (first | refine blk_drewN ?_ _ | refine blk_drew ?_ | refine blk_alloc ?_ _)); refine blk_far ?_ NB276_280.out _; (with_reducible repeat (first | refine blk_drewN ?_ _ | refine blk_drew ?_ | refine blk_alloc ?_ _)); exact BK276.out) NB276_0.out (by simp)); have n3_ := Aside0.mk (KeepBut.blk hk (g' := gb280) (o := .cells #[.int .i64 t277, .int .i64 t278] 38 (0, 0)) (by (with_reducible repeat (first | refine blk_drewN ?_ _ | refine blk_drew ?_ | refine blk_alloc ?_ _)); refine blk_put (cs := #[.int .i64 t277, .int .i64 0]) ?_ 1 _ rfl; (with_reducible repeat (first | refine blk_drewN ?_ _ | refine blk_drew ?_ | refine blk_alloc ?_ _)); refine blk_put (cs := #[.int .i64 0, .int .i64 0]) ?_ 0 _ rfl; (with_reducible repeat (first | refine blk_drewN ?_ _ | refine blk_drew ?_ | refine blk_alloc ?_ _)); exact BK280.out) NB280_0.out (by simp)); have n4_ := Aside0.mk (KeepBut.trans (by repeat (first | (with_reducible first | exact HK.out | apply KeepBut.set_ | apply keep_drewN | apply keep_drew | apply keep_alloc | refine keep_far ?_ GW269.out _ | refine keep_far ?_ GW270.out _ | refine keep_far ?_ GW276.out _ | refine keep_far ?_ GW280.out _) | exact HK.out)) hk (.inl rfl)); have n5_ := Aside0.mk (hb); have n6_ := Aside0.mk (hi); clear BK269; clear BK270; clear BK276; clear BK280; clear HK; clear HB; clear HI0; have BK269 := n0_; have BK270 := n1_; have BK276 := n2_; have BK280 := n3_; have HK := n4_; have HB := n5_; have HI0 := n6_; clear n0_ n1_ n2_ n3_ n4_ n5_ n6_; (try clear hb); (try clear hb2); (try clear hk); (try clear hi)) | ((with_reducible refine gate_callee (f := 48) rfl ?_); refine goesL_ (some 16) rfl rfl Tryd.func48 (by kernel_rfl) rfl #[.pointer (some ⟨g, 0, none⟩), .int .i64 5] rfl ma_ ?_; (with_reducible refine (spec_l6Rd_pick.calls k g s0_0 t282 5 t283 t284 w0 _ ?side1 ?side2 A6.out).mono ?_); (case side1 => repeat (first | (with_reducible first | exact HI0.out | apply IsS96.alloc | apply IsS96.drewN | apply IsS96.drew | apply IsS96.set_1 | refine IsS96.far ?_ NB0_269.out _ | refine IsS96.far ?_ NB0_270.out _ | refine IsS96.far ?_ NB0_276.out _ | refine IsS96.far ?_ NB0_280.out _) | exact HI0.out)); (case side2 => repeat (first | (with_reducible first | exact HB.out | apply below_alloc | apply pw_below_drewN | apply below_drew1 | refine below_set ?_ (IsS96.ge HI0.out) | refine below_set ?_ GE269.out | refine below_set ?_ GE270.out | refine below_set ?_ GE276.out | refine below_set ?_ GE280.out) | exact HB.out)); rintro e w77 ⟨rfl, hi, hb, hk⟩; refine ⟨_, rfl, ?_⟩; have n0_ := Aside0.mk (KeepBut.blk hk (g' := gb269) (o := .cells #[.int .i64 0, .int .i64 0, .int .i64 0, .int .i64 0] 40 (0, 0)) uq_ NB269_0.out (by simp)); have n1_ := Aside0.mk (KeepBut.blk hk (g' := gb270) (o := .cells #[.int .i64 0, .int .i64 0] 38 (0, 0)) uq_ NB270_0.out (by simp)); have n2_ := Aside0.mk (KeepBut.blk hk (g' := gb276) (o := .cells #[.int .i64 t271, .int .i64 t272, .int .i64 t273, .int .i64 t274] 40 (0, 0)) uq_ NB276_0.out (by simp)); have n3_ := Aside0.mk (KeepBut.blk hk (g' := gb280) (o := .cells #[.int .i64 t277, .int .i64 t278] 38 (0, 0)) uq_ NB280_0.out (by simp)); have n4_ := Aside0.mk (KeepBut.trans (by repeat (first | (with_reducible first | exact HK.out | apply KeepBut.set_ | apply keep_drewN | apply keep_drew | apply keep_alloc | refine keep_far ?_ GW269.out _ | refine keep_far ?_ GW270.out _ | refine keep_far ?_ GW276.out _ | refine keep_far ?_ GW280.out _) | exact HK.out)) hk (.inl rfl)); have n5_ := Aside0.mk (hb); have n6_ := Aside0.mk (hi); clear BK269; clear BK270; clear BK276; clear BK280; clear HK; clear HB; clear HI0; have BK269 := n0_; have BK270 := n1_; have BK276 := n2_; have BK280 := n3_; have HK := n4_; have HB := n5_; have HI0 := n6_; clear n0_ n1_ n2_ n3_ n4_ n5_ n6_; (try clear hb); (try clear hb2); (try clear hk); (try clear hi)) | ((with_reducible refine gate_callee (f := 48) rfl ?_); refine goesL_ (some 18) rfl rfl Tryd.func48 (by kernel_rfl) rfl #[.pointer (some ⟨g, 0, none⟩), .int .i64 5] rfl ma_ ?_; (with_reducible refine (spec_l6Rd_pick.calls k g s0_0 t284 5 t285 t286 w0 _ ?side1 ?side2 A7.out).mono ?_); (case side1 => repeat (first | (with_reducible first | exact HI0.out | apply IsS96.alloc | apply IsS96.drewN | apply IsS96.drew | apply IsS96.set_1 | refine IsS96.far ?_ NB0_269.out _ | refine IsS96.far ?_ NB0_270.out _ | refine IsS96.far ?_ NB0_276.out _ | refine IsS96.far ?_ NB0_280.out _) | exact HI0.out)); (case side2 => repeat (first | (with_reducible first | exact HB.out | apply below_alloc | apply pw_below_drewN | apply below_drew1 | refine below_set ?_ (IsS96.ge HI0.out) | refine below_set ?_ GE269.out | refine below_set ?_ GE270.out | refine below_set ?_ GE276.out | refine below_set ?_ GE280.out) | exact HB.out)); rintro e w78 ⟨rfl, hi, hb, hk⟩; refine ⟨_, rfl, ?_⟩; have n0_ := Aside0.mk (KeepBut.blk hk (g' := gb269) (o := .cells #[.int .i64 0, .int .i64 0, .int .i64 0, .int .i64 0] 40 (0, 0)) uq_ NB269_0.out (by simp)); have n1_ := Aside0.mk (KeepBut.blk hk (g' := gb270) (o := .cells #[.int .i64 0, .int .i64 0] 38 (0, 0)) uq_ NB270_0.out (by simp)); have n2_ := Aside0.mk (KeepBut.blk hk (g' := gb276) (o := .cells #[.int .i64 t271, .int .i64 t272, .int .i64 t273, .int .i64 t274] 40 (0, 0)) uq_ NB276_0.out (by simp)); have n3_ := Aside0.mk (KeepBut.blk hk (g' := gb280) (o := .cells #[.int .i64 t277, .int .i64 t278] 38 (0, 0)) uq_ NB280_0.out (by simp)); have n4_ := Aside0.mk (KeepBut.trans (by repeat (first | (with_reducible first | exact HK.out | apply KeepBut.set_ | apply keep_drewN | apply keep_drew | apply keep_alloc | refine keep_far ?_ GW269.out _ | refine keep_far ?_ GW270.out _ | refine keep_far ?_ GW276.out _ | refine keep_far ?_ GW280.out _) | exact HK.out)) hk (.inl rfl)); have n5_ := Aside0.mk (hb); have n6_ := Aside0.mk (hi); clear BK269; clear BK270; clear BK276; clear BK280; clear HK; clear HB; clear HI0; have BK269 := n0_; have BK270 := n1_; have BK276 := n2_; have BK280 := n3_; have HK := n4_; have HB := n5_; have HI0 := n6_; clear n0_ n1_ n2_ n3_ n4_ n5_ n6_; (try clear hb); (try clear hb2); (try clear hk); (try clear hi); have hcz79_0 : w78.cell? ⟨gb276, 0, none⟩ = some (.int .i64 t271) := bc_; have hcz79_1 : w78.cell? ⟨gb276, 1, none⟩ = some (.int .i64 t272) := bc_; have hcz79_2 : w78.cell? ⟨gb276, 2, none⟩ = some (.int .i64 t273) := bc_; have hcz79_3 : w78.cell? ⟨gb276, 3, none⟩ = some (.int .i64 t274) := bc_; have hfz79_0 := blk_frozen BK276.out 0; have hfz79_1 := blk_frozen BK276.out 1; have hfz79_2 := blk_frozen BK276.out 2; have hfz79_3 := blk_frozen BK276.out 3) | ((with_reducible refine gate_callee (f := 48) rfl ?_); refine goesL_ (some 22) rfl rfl Tryd.func48 (by kernel_rfl) rfl #[.pointer (some ⟨g, 0, none⟩), .int .i64 3] rfl ma_ ?_; (with_reducible refine (spec_l6Rd_pick.calls k g s0_0 t286 3 t287 t288 w0 _ ?side1 ?side2 A8.out).mono ?_); (case side1 => repeat (first | (with_reducible first | exact HI0.out | apply IsS96.alloc | apply IsS96.drewN | apply IsS96.drew | apply IsS96.set_1 | refine IsS96.far ?_ NB0_269.out _ | refine IsS96.far ?_ NB0_270.out _ | refine IsS96.far ?_ NB0_276.out _ | refine IsS96.far ?_ NB0_280.out _) | exact HI0.out)); (case side2 => repeat (first | (with_reducible first | exact HB.out | apply below_alloc | apply pw_below_drewN | apply below_drew1 | refine below_set ?_ (IsS96.ge HI0.out) | refine below_set ?_ GE269.out | refine below_set ?_ GE270.out | refine below_set ?_ GE276.out | refine below_set ?_ GE280.out) | exact HB.out)); rintro e w80 ⟨rfl, hi, hb, hk⟩; refine ⟨_, rfl, ?_⟩; have n0_ := Aside0.mk (KeepBut.blk hk (g' := gb269) (o := .cells #[.int .i64 0, .int .i64 0, .int .i64 0, .int .i64 0] 40 (0, 0)) (by (with_reducible repeat (first | refine blk_drewN ?_ _ | refine blk_drew ?_ | refine blk_alloc ?_ _)); refine blk_far ?_ NB269_276.out _; (with_reducible repeat (first | refine blk_drewN ?_ _ | refine blk_drew ?_ | refine blk_alloc ?_ _)); refine blk_far ?_ NB269_276.out _; (with_reducible repeat (first | refine blk_drewN ?_ _ | refine blk_drew ?_ | refine blk_alloc ?_ _)); exact BK269.out) NB269_0.out (by simp)); have n1_ := Aside0.mk (KeepBut.blk hk (g' := gb270) (o := .cells #[.int .i64 0, .int .i64 0] 38 (0, 0)) (by (with_reducible repeat (first | refine blk_drewN ?_ _ | refine blk_drew ?_ | refine blk_alloc ?_ _)); refine blk_far ?_ NB270_276.out _; (with_reducible repeat (first | refine blk_drewN ?_ _ | refine blk_drew ?_ | refine blk_alloc ?_ _)); refine blk_far ?_ NB270_276.out _; (with_reducible repeat (first | refine blk_drewN ?_ _ | refine blk_drew ?_ | refine blk_alloc ?_ _)); exact BK270.out) NB270_0.out (by simp)); have n2_ := Aside0.mk (KeepBut.blk hk (g' := gb276) (o := .cells #[.int .i64 t283, .int .i64 t285, .int .i64 t273, .int .i64 t274] 40 (0, 0)) (by (with_reducible repeat (first | refine blk_drewN ?_ _ | refine blk_drew ?_ | refine blk_alloc ?_ _)); refine blk_put (cs := #[.int .i64 t283, .int .i64 t272, .int .i64 t273, .int .i64 t274]) ?_ 1 _ rfl; (with_reducible repeat (first | refine blk_drewN ?_ _ | refine blk_drew ?_ | refine blk_alloc ?_ _)); refine blk_put (cs := #[.int .i64 t271, .int .i64 t272, .int .i64 t273, .int .i64 t274]) ?_ 0 _ rfl; (with_reducible repeat (first | refine blk_drewN ?_ _ | refine blk_drew ?_ | refine blk_alloc ?_ _)); exact BK276.out) NB276_0.out (by simp)); have n3_ := Aside0.mk (KeepBut.blk hk (g' := gb280) (o := .cells #[.int .i64 t277, .int .i64 t278] 38 (0, 0)) (by (with_reducible repeat (first | refine blk_drewN ?_ _ | refine blk_drew ?_ | refine blk_alloc ?_ _)); refine blk_far ?_ NB280_276.out _; (with_reducible repeat (first | refine blk_drewN ?_ _ | refine blk_drew ?_ | refine blk_alloc ?_ _)); refine blk_far ?_ NB280_276.out _; (with_reducible repeat (first | refine blk_drewN ?_ _ | refine blk_drew ?_ | refine blk_alloc ?_ _)); exact BK280.out) NB280_0.out (by simp)); have n4_ := Aside0.mk (KeepBut.trans (by repeat (first | (with_reducible first | exact HK.out | apply KeepBut.set_ | apply keep_drewN | apply keep_drew | apply keep_alloc | refine keep_far ?_ GW269.out _ | refine keep_far ?_ GW270.out _ | refine keep_far ?_ GW276.out _ | refine keep_far ?_ GW280.out _) | exact HK.out)) hk (.inl rfl)); have n5_ := Aside0.mk (hb); have n6_ := Aside0.mk (hi); clear BK269; clear BK270; clear BK276; clear BK280; clear HK; clear HB; clear HI0; have BK269 := n0_; have BK270 := n1_; have BK276 := n2_; have BK280 := n3_; have HK := n4_; have HB := n5_; have HI0 := n6_; clear n0_ n1_ n2_ n3_ n4_ n5_ n6_; (try clear hb); (try clear hb2); (try clear hk); (try clear hi)) | ((with_reducible refine gate_callee (f := 48) rfl ?_); refine goesL_ (some 24) rfl rfl Tryd.func48 (by kernel_rfl) rfl #[.pointer (some ⟨g, 0, none⟩), .int .i64 3] rfl ma_ ?_; (with_reducible refine (spec_l6Rd_pick.calls k g s0_0 t288 3 t289 t290 w0 _ ?side1 ?side2 A9.out).mono ?_); (case side1 => repeat (first | (with_reducible first | exact HI0.out | apply IsS96.alloc | apply IsS96.drewN | apply IsS96.drew | apply IsS96.set_1 | refine IsS96.far ?_ NB0_269.out _ | refine IsS96.far ?_ NB0_270.out _ | refine IsS96.far ?_ NB0_276.out _ | refine IsS96.far ?_ NB0_280.out _) | exact HI0.out)); (case side2 => repeat (first | (with_reducible first | exact HB.out | apply below_alloc | apply pw_below_drewN | apply below_drew1 | refine below_set ?_ (IsS96.ge HI0.out) | refine below_set ?_ GE269.out | refine below_set ?_ GE270.out | refine below_set ?_ GE276.out | refine below_set ?_ GE280.out) | exact HB.out)); rintro e w81 ⟨rfl, hi, hb, hk⟩; refine ⟨_, rfl, ?_⟩; have n0_ := Aside0.mk (KeepBut.blk hk (g' := gb269) (o := .cells #[.int .i64 0, .int .i64 0, .int .i64 0, .int .i64 0] 40 (0, 0)) uq_ NB269_0.out (by simp)); have n1_ := Aside0.mk (KeepBut.blk hk (g' := gb270) (o := .cells #[.int .i64 0, .int .i64 0] 38 (0, 0)) uq_ NB270_0.out (by simp)); have n2_ := Aside0.mk (KeepBut.blk hk (g' := gb276) (o := .cells #[.int .i64 t283, .int .i64 t285, .int .i64 t273, .int .i64 t274] 40 (0, 0)) uq_ NB276_0.out (by simp)); have n3_ := Aside0.mk (KeepBut.blk hk (g' := gb280) (o := .cells #[.int .i64 t277, .int .i64 t278] 38 (0, 0)) uq_ NB280_0.out (by simp)); have n4_ := Aside0.mk (KeepBut.trans (by repeat (first | (with_reducible first | exact HK.out | apply KeepBut.set_ | apply keep_drewN | apply keep_drew | apply keep_alloc | refine keep_far ?_ GW269.out _ | refine keep_far ?_ GW270.out _ | refine keep_far ?_ GW276.out _ | refine keep_far ?_ GW280.out _) | exact HK.out)) hk (.inl rfl)); have n5_ := Aside0.mk (hb); have n6_ := Aside0.mk (hi); clear BK269; clear BK270; clear BK276; clear BK280; clear HK; clear HB; clear HI0; have BK269 := n0_; have BK270 := n1_; have BK276 := n2_; have BK280 := n3_; have HK := n4_; have HB := n5_; have HI0 := n6_; clear n0_ n1_ n2_ n3_ n4_ n5_ n6_; (try clear hb); (try clear hb2); (try clear hk); (try clear hi)) | ((with_reducible refine gate_dst (N := 6) rfl ?_); refine box_event ?hg (N := 6) ?hd (cs := #[.int .i64 0, .int .i64 0]) (t := 38) ?hr ?_; (case hd => rfl); (case hg => rfl); (case hr => first | (go_simp; done) | (go_simp; rfl)); intro gb291 hg w82 hbox hb; have n0_ := Aside0.mk (IsS96.below (by repeat (first | (with_reducible first | exact HI0.out | apply IsS96.alloc | apply IsS96.drewN | apply IsS96.drew | apply IsS96.set_1 | refine IsS96.far ?_ NB0_269.out _ | refine IsS96.far ?_ NB0_270.out _ | refine IsS96.far ?_ NB0_276.out _ | refine IsS96.far ?_ NB0_280.out _) | exact HI0.out)) hb); have n1_ := Aside0.mk (ub_ (g := gb269) hb); have n2_ := Aside0.mk (ub_ (g := gb270) hb); have n3_ := Aside0.mk (ub_ (g := gb276) hb); have n4_ := Aside0.mk (ub_ (g := gb280) hb); have n5_ := Aside0.mk (KeepBut.trans (by repeat (first | (with_reducible first | exact HK.out | apply KeepBut.set_ | apply keep_drewN | apply keep_drew | apply keep_alloc | refine keep_far ?_ GW269.out _ | refine keep_far ?_ GW270.out _ | refine keep_far ?_ GW276.out _ | refine keep_far ?_ GW280.out _) | exact HK.out)) (KeepBut.of_below hb g none) (.inl rfl)); have n6_ := Aside0.mk (below_step (by repeat (first | (with_reducible first | exact HB.out | apply below_alloc | apply pw_below_drewN | apply below_drew1 | refine below_set ?_ (IsS96.ge HI0.out) | refine below_set ?_ GE269.out | refine below_set ?_ GE270.out | refine below_set ?_ GE276.out | refine below_set ?_ GE280.out) | exact HB.out)) hb); have n7_ := Aside0.mk (hbox); have n8_ := Aside0.mk ((by rw [hg]; exact (keep_size (w := w) (g := g) (row := none) (by repeat (first | (with_reducible first | exact HK.out | apply KeepBut.set_ | apply keep_drewN | apply keep_drew | apply keep_alloc | refine keep_far ?_ GW269.out _ | refine keep_far ?_ GW270.out _ | refine keep_far ?_ GW276.out _ | refine keep_far ?_ GW280.out _) | exact HK.out))) : w.heap.size ≤ gb291)); have n9_ := Aside0.mk ((Nat.le_trans HW0.out (by rw [hg]; exact (keep_size (w := w) (g := g) (row := none) (by repeat (first | (with_reducible first | exact HK.out | apply KeepBut.set_ | apply keep_drewN | apply keep_drew | apply keep_alloc | refine keep_far ?_ GW269.out _ | refine keep_far ?_ GW270.out _ | refine keep_far ?_ GW276.out _ | refine keep_far ?_ GW280.out _) | exact HK.out))) : w.heap.size ≤ gb291) : w0.heap.size ≤ gb291)); have n10_ := Aside0.mk ((by rw [hg]; exact Nat.ne_of_lt (blk_lt (g := gb269) (o := .cells #[.int .i64 0, .int .i64 0, .int .i64 0, .int .i64 0] 40 (0, 0)) uq_) : gb269 ≠ gb291)); have n11_ := Aside0.mk ((by rw [hg]; exact Nat.ne_of_gt (blk_lt (g := gb269) (o := .cells #[.int .i64 0, .int .i64 0, .int .i64 0, .int .i64 0] 40 (0, 0)) uq_) : gb291 ≠ gb269)); have n12_ := Aside0.mk ((by rw [hg]; exact Nat.ne_of_lt (blk_lt (g := gb270) (o := .cells #[.int .i64 0, .int .i64 0] 38 (0, 0)) uq_) : gb270 ≠ gb291)); have n13_ := Aside0.mk ((by rw [hg]; exact Nat.ne_of_gt (blk_lt (g := gb270) (o := .cells #[.int .i64 0, .int .i64 0] 38 (0, 0)) uq_) : gb291 ≠ gb270)); have n14_ := Aside0.mk ((by rw [hg]; exact Nat.ne_of_lt (blk_lt (g := gb276) (o := .cells #[.int .i64 t283, .int .i64 t285, .int .i64 t273, .int .i64 t274] 40 (0, 0)) uq_) : gb276 ≠ gb291)); have n15_ := Aside0.mk ((by rw [hg]; exact Nat.ne_of_gt (blk_lt (g := gb276) (o := .cells #[.int .i64 t283, .int .i64 t285, .int .i64 t273, .int .i64 t274] 40 (0, 0)) uq_) : gb291 ≠ gb276)); have n16_ := Aside0.mk ((by rw [hg]; exact Nat.ne_of_lt (blk_lt (g := gb280) (o := .cells #[.int .i64 t277, .int .i64 t278] 38 (0, 0)) uq_) : gb280 ≠ gb291)); have n17_ := Aside0.mk ((by rw [hg]; exact Nat.ne_of_gt (blk_lt (g := gb280) (o := .cells #[.int .i64 t277, .int .i64 t278] 38 (0, 0)) uq_) : gb291 ≠ gb280)); have n18_ := Aside0.mk ((by rw [hg]; exact Nat.ne_of_lt (IsS96.lt (show IsS96 w0 _ g s0_0 t290 from by repeat (first | (with_reducible first | exact HI0.out | apply IsS96.alloc | apply IsS96.drewN | apply IsS96.drew | apply IsS96.set_1 | refine IsS96.far ?_ NB0_269.out _ | refine IsS96.far ?_ NB0_270.out _ | refine IsS96.far ?_ NB0_276.out _ | refine IsS96.far ?_ NB0_280.out _) | exact HI0.out))) : g ≠ gb291)); have n19_ := Aside0.mk ((by rw [hg]; exact Nat.ne_of_gt (IsS96.lt (show IsS96 w0 _ g s0_0 t290 from by repeat (first | (with_reducible first | exact HI0.out | apply IsS96.alloc | apply IsS96.drewN | apply IsS96.drew | apply IsS96.set_1 | refine IsS96.far ?_ NB0_269.out _ | refine IsS96.far ?_ NB0_270.out _ | refine IsS96.far ?_ NB0_276.out _ | refine IsS96.far ?_ NB0_280.out _) | exact HI0.out))) : gb291 ≠ g)); clear HI0; clear BK269; clear BK270; clear BK276; clear BK280; clear HK; clear HB; have HI0 := n0_; have BK269 := n1_; have BK270 := n2_; have BK276 := n3_; have BK280 := n4_; have HK := n5_; have HB := n6_; have BK291 := n7_; have GW291 := n8_; have GE291 := n9_; have NB269_291 := n10_; have NB291_269 := n11_; have NB270_291 := n12_; have NB291_270 := n13_; have NB276_291 := n14_; have NB291_276 := n15_; have NB280_291 := n16_; have NB291_280 := n17_; have NB0_291 := n18_; have NB291_0 := n19_; clear n0_ n1_ n2_ n3_ n4_ n5_ n6_ n7_ n8_ n9_ n10_ n11_ n12_ n13_ n14_ n15_ n16_ n17_ n18_ n19_; clear hb hbox hg; have hnb83 := NB291_269.out; have hnc83 := NB269_291.out; have hnb84 := NB291_270.out; have hnc84 := NB270_291.out; have hnb85 := NB291_276.out; have hnc85 := NB276_291.out; have hnb86 := NB291_280.out; have hnc86 := NB280_291.out; have hnb87 := NB291_0.out; have hnc87 := NB0_291.out; have hcz88_0 : w82.cell? ⟨gb291, 0, none⟩ = some (.int .i64 0) := bc_; have hcz88_1 : w82.cell? ⟨gb291, 1, none⟩ = some (.int .i64 0) := bc_; have hfz88_0 := blk_frozen BK291.out 0; have hfz88_1 := blk_frozen BK291.out 1) | ((with_reducible refine gate_callee (f := 48) rfl ?_); refine goesL_ (some 27) rfl rfl Tryd.func48 (by kernel_rfl) rfl #[.pointer (some ⟨g, 0, none⟩), .int .i64 2] rfl ma_ ?_; (with_reducible refine (spec_l6Rd_pick.calls k g s0_0 t290 2 t292 t293 w0 _ ?side1 ?side2 A10.out).mono ?_); (case side1 => repeat (first | (with_reducible first | exact HI0.out | apply IsS96.alloc | apply IsS96.drewN | apply IsS96.drew | apply IsS96.set_1 | refine IsS96.far ?_ NB0_269.out _ | refine IsS96.far ?_ NB0_270.out _ | refine IsS96.far ?_ NB0_276.out _ | refine IsS96.far ?_ NB0_280.out _ | refine IsS96.far ?_ NB0_291.out _) | exact HI0.out)); (case side2 => repeat (first | (with_reducible first | exact HB.out | apply below_alloc | apply pw_below_drewN | apply below_drew1 | refine below_set ?_ (IsS96.ge HI0.out) | refine below_set ?_ GE269.out | refine below_set ?_ GE270.out | refine below_set ?_ GE276.out | refine below_set ?_ GE280.out | refine below_set ?_ GE291.out) | exact HB.out)); rintro e w89 ⟨rfl, hi, hb, hk⟩; refine ⟨_, rfl, ?_⟩; have n0_ := Aside0.mk (KeepBut.blk hk (g' := gb269) (o := .cells #[.int .i64 0, .int .i64 0, .int .i64 0, .int .i64 0] 40 (0, 0)) (by (with_reducible repeat (first | refine blk_drewN ?_ _ | refine blk_drew ?_ | refine blk_alloc ?_ _)); refine blk_far ?_ NB269_291.out _; (with_reducible repeat (first | refine blk_drewN ?_ _ | refine blk_drew ?_ | refine blk_alloc ?_ _)); refine blk_far ?_ NB269_291.out _; (with_reducible repeat (first | refine blk_drewN ?_ _ | refine blk_drew ?_ | refine blk_alloc ?_ _)); exact BK269.out) NB269_0.out (by simp)); have n1_ := Aside0.mk (KeepBut.blk hk (g' := gb270) (o := .cells #[.int .i64 0, .int .i64 0] 38 (0, 0)) (by (with_reducible repeat (first | refine blk_drewN ?_ _ | refine blk_drew ?_ | refine blk_alloc ?_ _)); refine blk_far ?_ NB270_291.out _; (with_reducible repeat (first | refine blk_drewN ?_ _ | refine blk_drew ?_ | refine blk_alloc ?_ _)); refine blk_far ?_ NB270_291.out _; (with_reducible repeat (first | refine blk_drewN ?_ _ | refine blk_drew ?_ | refine blk_alloc ?_ _)); exact BK270.out) NB270_0.out (by simp)); have n2_ := Aside0.mk (KeepBut.blk hk (g' := gb276) (o := .cells #[.int .i64 t283, .int .i64 t285, .int .i64 t273, .int .i64 t274] 40 (0, 0)) (by (with_reducible repeat (first | refine blk_drewN ?_ _ | refine blk_drew ?_ | refine blk_alloc ?_ _)); refine blk_far ?_ NB276_291.out _; (with_reducible repeat (first | refine blk_drewN ?_ _ | refine blk_drew ?_ | refine blk_alloc ?_ _)); refine blk_far ?_ NB276_291.out _; (with_reducible repeat (first | refine blk_drewN ?_ _ | refine blk_drew ?_ | refine blk_alloc ?_ _)); exact BK276.out) NB276_0.out (by simp)); have n3_ := Aside0.mk (KeepBut.blk hk (g' := gb280) (o := .cells #[.int .i64 t277, .int .i64 t278] 38 (0, 0)) (by (with_reducible repeat (first | refine blk_drewN ?_ _ | refine blk_drew ?_ | refine blk_alloc ?_ _)); refine blk_far ?_ NB280_291.out _; (with_reducible repeat (first | refine blk_drewN ?_ _ | refine blk_drew ?_ | refine blk_alloc ?_ _)); refine blk_far ?_ NB280_291.out _; (with_reducible repeat (first | refine blk_drewN ?_ _ | refine blk_drew ?_ | refine blk_alloc ?_ _)); exact BK280.out) NB280_0.out (by simp)); have n4_ := Aside0.mk (KeepBut.blk hk (g' := gb291) (o := .cells #[.int .i64 t287, .int .i64 t289] 38 (0, 0)) (by (with_reducible repeat (first | refine blk_drewN ?_ _ | refine blk_drew ?_ | refine blk_alloc ?_ _)); refine blk_put (cs := #[.int .i64 t287, .int .i64 0]) ?_ 1 _ rfl; (with_reducible repeat (first | refine blk_drewN ?_ _ | refine blk_drew ?_ | refine blk_alloc ?_ _)); refine blk_put (cs := #[.int .i64 0, .int .i64 0]) ?_ 0 _ rfl; (with_reducible repeat (first | refine blk_drewN ?_ _ | refine blk_drew ?_ | refine blk_alloc ?_ _)); exact BK291.out) NB291_0.out (by simp)); have n5_ := Aside0.mk (KeepBut.trans (by repeat (first | (with_reducible first | exact HK.out | apply KeepBut.set_ | apply keep_drewN | apply keep_drew | apply keep_alloc | refine keep_far ?_ GW269.out _ | refine keep_far ?_ GW270.out _ | refine keep_far ?_ GW276.out _ | refine keep_far ?_ GW280.out _ | refine keep_far ?_ GW291.out _) | exact HK.out)) hk (.inl rfl)); have n6_ := Aside0.mk (hb); have n7_ := Aside0.mk (hi); clear BK269; clear BK270; clear BK276; clear BK280; clear BK291; clear HK; clear HB; clear HI0; have BK269 := n0_; have BK270 := n1_; have BK276 := n2_; have BK280 := n3_; have BK291 := n4_; have HK := n5_; have HB := n6_; have HI0 := n7_; clear n0_ n1_ n2_ n3_ n4_ n5_ n6_ n7_; (try clear hb); (try clear hb2); (try clear hk); (try clear hi)))
   have n0_ := Aside0.mk (blk_drew BK269.out)
   have n1_ := Aside0.mk (blk_drew BK270.out)
   have n2_ := Aside0.mk (blk_drew BK276.out)
   have n3_ := Aside0.mk (blk_drew BK280.out)
   have n4_ := Aside0.mk (blk_drew BK291.out)
   have n5_ := Aside0.mk (IsS96.drew HI0.out)
   have n6_ := Aside0.mk (keep_drew HK.out)
   have n7_ := Aside0.mk (below_drew1 HB.out)
   clear BK269 BK270 BK276 BK280 BK291 HI0 HK HB
   have BK269 := n0_
   have BK270 := n1_
   have BK276 := n2_
   have BK280 := n3_
   have BK291 := n4_
   have HI0 := n5_
   have HK := n6_
   have HB := n7_
   clear n0_ n1_ n2_ n3_ n4_ n5_ n6_ n7_
   refine start_ (n := 24) (S := fun w' => w'.cell? ⟨gb276, 0, none⟩ = some (.int .i64 t283) ∧ w'.cell? ⟨gb276, 1, none⟩ = some (.int .i64 t285) ∧ w'.cell? ⟨gb276, 2, none⟩ = some (.int .i64 t273) ∧ w'.cell? ⟨gb276, 3, none⟩ = some (.int .i64 t274) ∧ w'.cell? ⟨gb291, 0, none⟩ = some (.int .i64 t287) ∧ w'.cell? ⟨gb291, 1, none⟩ = some (.int .i64 t289)) (ds := []) #[false, false, false, false, false, false, false, false, false, false, false, false, false, false, false, false, false, false, false, false, false, false, false, false] (by kernel_rfl) rfl rfl ⟨bc_, bc_, bc_, bc_, bc_, bc_⟩ (fun hHeld => ?_); refine with_tabW spec_l71On.tab7 spec_l71On.bits7 (fun HT_ HW_ => ?_)
   generalize w89.drew = w90 at BK269 BK270 BK276 BK280 BK291 HI0 HK HB hHeld ⊢
   refine pure_ (i := 0) (N := some 29) (v := ?_) (a' := ?_) (bm 24 1) rfl rfl (any_of HT_.out (by kernel_rfl)) (fun _ _ _ h => h) (Or.inl ⟨by rfl, ?_⟩) ?_ ?_
   rotate_left
   ·
    intro w'
    go_simp
    with_reducible rfl
   rotate_left
   ·
    simp only [Act.put, List.setIfInBounds_toArray, List.set_cons_zero, List.set_cons_succ, i64_w, i32_w]
    rfl
   refine pure_ (i := 1) (N := some 30) (v := ?_) (a' := ?_) (bm 24 3) rfl rfl (any_of HT_.out (by kernel_rfl)) (fun _ _ _ h => h) (Or.inl ⟨by rfl, ?_⟩) ?_ ?_
   rotate_left
   ·
    intro w'
    go_simp
    with_reducible rfl
   rotate_left
   ·
    simp only [Act.put, List.setIfInBounds_toArray, List.set_cons_zero, List.set_cons_succ, i64_w, i32_w]
    rfl
   refine pure_ (i := 3) (N := some 32) (v := ?_) (a' := ?_) (bm 24 11) rfl rfl (any_of HT_.out (by kernel_rfl)) (fun _ _ _ h => h) (Or.inl ⟨by rfl, ?_⟩) ?_ ?_
   rotate_left
   ·
    intro w'
    go_simp
    with_reducible rfl
   rotate_left
   ·
    simp only [Act.put, List.setIfInBounds_toArray, List.set_cons_zero, List.set_cons_succ, i64_w, i32_w]
    rfl
   refine pure_ (i := 5) (N := some 34) (v := ?_) (a' := ?_) (bm 24 43) rfl rfl (any_of HT_.out (by kernel_rfl)) (fun _ _ _ h => h) (Or.inl ⟨by rfl, ?_⟩) ?_ ?_
   rotate_left
   ·
    intro w'
    go_simp
    with_reducible rfl
   rotate_left
   ·
    simp only [Act.put, List.setIfInBounds_toArray, List.set_cons_zero, List.set_cons_succ, i64_w, i32_w]
    rfl
   refine pure_ (i := 6) (N := some 35) (v := ?_) (a' := ?_) (bm 24 107) rfl rfl (any_of HT_.out (by kernel_rfl)) (fun _ _ _ h => h) (Or.inl ⟨by rfl, ?_⟩) ?_ ?_
   rotate_left
   ·
    intro w'
    go_simp
    with_reducible rfl
   rotate_left
   ·
    simp only [Act.put, List.setIfInBounds_toArray, List.set_cons_zero, List.set_cons_succ, i64_w, i32_w]
    rfl
   refine pure_ (i := 7) (N := some 36) (v := ?_) (a' := ?_) (bm 24 235) rfl rfl (any_of HT_.out (by kernel_rfl)) (fun _ _ _ h => h) (Or.inl ⟨by rfl, ?_⟩) ?_ ?_
   rotate_left
   ·
    intro w'
    go_simp
    with_reducible rfl
   rotate_left
   ·
    simp only [Act.put, List.setIfInBounds_toArray, List.set_cons_zero, List.set_cons_succ, i64_w, i32_w]
    rfl
   refine pure_ (i := 11) (N := some 40) (v := ?_) (a' := ?_) (bm 24 2283) rfl rfl (any_of HT_.out (by kernel_rfl)) (fun _ _ _ h => h) (Or.inl ⟨by rfl, ?_⟩) ?_ ?_
   rotate_left
   ·
    intro w'
    go_simp
    with_reducible rfl
   rotate_left
   ·
    simp only [Act.put, List.setIfInBounds_toArray, List.set_cons_zero, List.set_cons_succ, i64_w, i32_w]
    rfl
   refine pure_ (i := 12) (N := some 41) (v := ?_) (a' := ?_) (bm 24 6379) rfl rfl (any_of HT_.out (by kernel_rfl)) (fun _ _ _ h => h) (Or.inl ⟨by rfl, ?_⟩) ?_ ?_
   rotate_left
   ·
    intro w'
    go_simp
    with_reducible rfl
   rotate_left
   ·
    simp only [Act.put, List.setIfInBounds_toArray, List.set_cons_zero, List.set_cons_succ, i64_w, i32_w]
    rfl
   refine pure_ (i := 14) (N := some 43) (v := ?_) (a' := ?_) (bm 24 22763) rfl rfl (any_of HT_.out (by kernel_rfl)) (fun _ _ _ h => h) (Or.inl ⟨by rfl, ?_⟩) ?_ ?_
   rotate_left
   ·
    intro w'
    go_simp
    with_reducible rfl
   rotate_left
   ·
    simp only [Act.put, List.setIfInBounds_toArray, List.set_cons_zero, List.set_cons_succ, i64_w, i32_w]
    rfl
   refine pure_ (i := 16) (N := some 45) (v := ?_) (a' := ?_) (bm 24 88299) rfl rfl (any_of HT_.out (by kernel_rfl)) (fun _ _ _ h => h) (Or.inl ⟨by rfl, ?_⟩) ?_ ?_
   rotate_left
   ·
    intro w'
    go_simp
    with_reducible rfl
   rotate_left
   ·
    simp only [Act.put, List.setIfInBounds_toArray, List.set_cons_zero, List.set_cons_succ, i64_w, i32_w]
    rfl
   refine pure_ (i := 17) (N := some 46) (v := ?_) (a' := ?_) (bm 24 219371) rfl rfl (any_of HT_.out (by kernel_rfl)) (fun _ _ _ h => h) (Or.inl ⟨by rfl, ?_⟩) ?_ ?_
   rotate_left
   ·
    intro w'
    go_simp
    with_reducible rfl
   rotate_left
   ·
    simp only [Act.put, List.setIfInBounds_toArray, List.set_cons_zero, List.set_cons_succ, i64_w, i32_w]
    rfl
   refine pure_ (i := 18) (N := some 47) (v := ?_) (a' := ?_) (bm 24 481515) rfl rfl (any_of HT_.out (by kernel_rfl)) (fun _ _ _ h => h) (Or.inl ⟨by rfl, ?_⟩) ?_ ?_
   rotate_left
   ·
    intro w'
    go_simp
    with_reducible rfl
   rotate_left
   ·
    simp only [Act.put, List.setIfInBounds_toArray, List.set_cons_zero, List.set_cons_succ, i64_w, i32_w]
    rfl
   refine take_ (i := 2) (N := some 31) (v := ?_) (a' := ?_) (bm 24 481519) rfl rfl (take_ofW HT_.out HW_.out (by kernel_rfl)) (fun _ _ _ h => h) (Or.inl ⟨by rfl, ?_⟩) hHeld ?_ ?_
   rotate_left
   ·
    rintro w' ⟨s0, s1, s2, s3, s4, s5⟩
    go_simp
    with_reducible rfl
   rotate_left
   ·
    simp only [Act.put, List.setIfInBounds_toArray, List.set_cons_zero, List.set_cons_succ, i64_w, i32_w]
    rfl
   refine take_ (i := 4) (N := some 33) (v := ?_) (a' := ?_) (bm 24 481535) rfl rfl (take_ofW HT_.out HW_.out (by kernel_rfl)) (fun _ _ _ h => h) (Or.inl ⟨by rfl, ?_⟩) hHeld ?_ ?_
   rotate_left
   ·
    rintro w' ⟨s0, s1, s2, s3, s4, s5⟩
    go_simp
    with_reducible rfl
   rotate_left
   ·
    simp only [Act.put, List.setIfInBounds_toArray, List.set_cons_zero, List.set_cons_succ, i64_w, i32_w]
    rfl
   refine take_ (i := 13) (N := some 42) (v := ?_) (a' := ?_) (bm 24 489727) rfl rfl (take_ofW HT_.out HW_.out (by kernel_rfl)) (fun _ _ _ h => h) (Or.inl ⟨by rfl, ?_⟩) hHeld ?_ ?_
   rotate_left
   ·
    rintro w' ⟨s0, s1, s2, s3, s4, s5⟩
    go_simp
    with_reducible rfl
   rotate_left
   ·
    simp only [Act.put, List.setIfInBounds_toArray, List.set_cons_zero, List.set_cons_succ, i64_w, i32_w]
    rfl
   refine take_ (i := 15) (N := some 44) (v := ?_) (a' := ?_) (bm 24 522495) rfl rfl (take_ofW HT_.out HW_.out (by kernel_rfl)) (fun _ _ _ h => h) (Or.inl ⟨by rfl, ?_⟩) hHeld ?_ ?_
   rotate_left
   ·
    rintro w' ⟨s0, s1, s2, s3, s4, s5⟩
    go_simp
    with_reducible rfl
   rotate_left
   ·
    simp only [Act.put, List.setIfInBounds_toArray, List.set_cons_zero, List.set_cons_succ, i64_w, i32_w]
    rfl
   refine one_ (i := 8) (N := some 37) (bm 24 522751) rfl rfl (one_of HT_.out (by kernel_rfl)) (by decide) (fun K hK => ?_)
   refine goes_ Tryd.func48 (by kernel_rfl) rfl #[.pointer (some ⟨g, 0, none⟩), .int .i64 (wrap64 ((wrap64 (1 + t292)) + 1))] (by rfl) rfl rfl ma_ ?_
   with_reducible refine (spec_l6Rd_pick.calls k g s0_0 t293 (wrap64 ((wrap64 (1 + t292)) + 1)) t294 t295 w0 _ ?side1 ?side2 A11.out).mono ?_
   (case side1 => repeat (first | (with_reducible first | exact HI0.out | apply IsS96.alloc | apply IsS96.drewN | apply IsS96.drew | apply IsS96.set_1 | refine IsS96.far ?_ NB0_269.out _ | refine IsS96.far ?_ NB0_270.out _ | refine IsS96.far ?_ NB0_276.out _ | refine IsS96.far ?_ NB0_280.out _ | refine IsS96.far ?_ NB0_291.out _) | exact HI0.out))
   (case side2 => repeat (first | (with_reducible first | exact HB.out | apply below_alloc | apply pw_below_drewN | apply below_drew1 | refine below_set ?_ (IsS96.ge HI0.out) | refine below_set ?_ GE269.out | refine below_set ?_ GE270.out | refine below_set ?_ GE276.out | refine below_set ?_ GE280.out | refine below_set ?_ GE291.out) | exact HB.out))
   rintro e w91 ⟨rfl, hi, hb, hk⟩
   refine ⟨_, rfl, ?_⟩
   have n0_ := Aside0.mk (KeepBut.blk hk (g' := gb269) (o := .cells #[.int .i64 0, .int .i64 0, .int .i64 0, .int .i64 0] 40 (0, 0)) uq_ NB269_0.out (by simp))
   have n1_ := Aside0.mk (KeepBut.blk hk (g' := gb270) (o := .cells #[.int .i64 0, .int .i64 0] 38 (0, 0)) uq_ NB270_0.out (by simp))
   have n2_ := Aside0.mk (KeepBut.blk hk (g' := gb276) (o := .cells #[.int .i64 t283, .int .i64 t285, .int .i64 t273, .int .i64 t274] 40 (0, 0)) uq_ NB276_0.out (by simp))
   have n3_ := Aside0.mk (KeepBut.blk hk (g' := gb280) (o := .cells #[.int .i64 t277, .int .i64 t278] 38 (0, 0)) uq_ NB280_0.out (by simp))
   have n4_ := Aside0.mk (KeepBut.blk hk (g' := gb291) (o := .cells #[.int .i64 t287, .int .i64 t289] 38 (0, 0)) uq_ NB291_0.out (by simp))
   have n5_ := Aside0.mk (KeepBut.trans (by repeat (first | (with_reducible first | exact HK.out | apply KeepBut.set_ | apply keep_drewN | apply keep_drew | apply keep_alloc | refine keep_far ?_ GW269.out _ | refine keep_far ?_ GW270.out _ | refine keep_far ?_ GW276.out _ | refine keep_far ?_ GW280.out _ | refine keep_far ?_ GW291.out _) | exact HK.out)) hk (.inl rfl))
   have n6_ := Aside0.mk (hb)
   have n7_ := Aside0.mk (hi)
   clear BK269 BK270 BK276 BK280 BK291 HK HB HI0
   have BK269 := n0_
   have BK270 := n1_
   have BK276 := n2_
   have BK280 := n3_
   have BK291 := n4_
   have HK := n5_
   have HB := n6_
   have HI0 := n7_
   clear n0_ n1_ n2_ n3_ n4_ n5_ n6_ n7_
   (try clear hb)
   (try clear hb2)
   (try clear hk)
   (try clear hi)
   refine hK.out _ _ ⟨bc_, bc_, bc_, bc_, bc_, bc_⟩ (fun hHeld => ?_)
   clear hK K
   refine norm_ (a' := ?_) ?_ ?_
   rotate_left
   ·
    show Act.put _ (some 37) _ = _
    simp only [Act.put, List.setIfInBounds_toArray, List.set_cons_zero, List.set_cons_succ, i64_w, i32_w]
    rfl
   refine pure_ (i := 9) (N := some 38) (v := ?_) (a' := ?_) (bm 24 523263) rfl rfl (any_of HT_.out (by kernel_rfl)) (fun _ _ _ h => h) (Or.inl ⟨by rfl, ?_⟩) ?_ ?_
   rotate_left
   ·
    intro w'
    go_simp
    with_reducible rfl
   rotate_left
   ·
    simp only [Act.put, List.setIfInBounds_toArray, List.set_cons_zero, List.set_cons_succ, i64_w, i32_w]
    rfl
   refine pure_ (i := 10) (N := some 39) (v := ?_) (a' := ?_) (bm 24 524287) rfl rfl (any_of HT_.out (by kernel_rfl)) (fun _ _ _ h => h) (Or.inl ⟨by rfl, ?_⟩) ?_ ?_
   rotate_left
   ·
    intro w'
    go_simp
    with_reducible rfl
   rotate_left
   ·
    simp only [Act.put, List.setIfInBounds_toArray, List.set_cons_zero, List.set_cons_succ, i64_w, i32_w]
    rfl
   refine one_ (i := 19) (N := some 48) (bm 24 1048575) rfl rfl (one_of HT_.out (by kernel_rfl)) (by decide) (fun K hK => ?_)
   refine goes_ Tryd.func48 (by kernel_rfl) rfl #[.pointer (some ⟨g, 0, none⟩), .int .i64 (wrap64 ((wrap64 (1 + t292)) + 1))] (by rfl) rfl rfl ma_ ?_
   with_reducible refine (spec_l6Rd_pick.calls k g s0_0 t295 (wrap64 ((wrap64 (1 + t292)) + 1)) t296 t297 w0 _ ?side1 ?side2 A12.out).mono ?_
   (case side1 => repeat (first | (with_reducible first | exact HI0.out | apply IsS96.alloc | apply IsS96.drewN | apply IsS96.drew | apply IsS96.set_1 | refine IsS96.far ?_ NB0_269.out _ | refine IsS96.far ?_ NB0_270.out _ | refine IsS96.far ?_ NB0_276.out _ | refine IsS96.far ?_ NB0_280.out _ | refine IsS96.far ?_ NB0_291.out _) | exact HI0.out))
   (case side2 => repeat (first | (with_reducible first | exact HB.out | apply below_alloc | apply pw_below_drewN | apply below_drew1 | refine below_set ?_ (IsS96.ge HI0.out) | refine below_set ?_ GE269.out | refine below_set ?_ GE270.out | refine below_set ?_ GE276.out | refine below_set ?_ GE280.out | refine below_set ?_ GE291.out) | exact HB.out))
   rintro e w92 ⟨rfl, hi, hb, hk⟩
   refine ⟨_, rfl, ?_⟩
   have n0_ := Aside0.mk (KeepBut.blk hk (g' := gb269) (o := .cells #[.int .i64 0, .int .i64 0, .int .i64 0, .int .i64 0] 40 (0, 0)) uq_ NB269_0.out (by simp))
   have n1_ := Aside0.mk (KeepBut.blk hk (g' := gb270) (o := .cells #[.int .i64 0, .int .i64 0] 38 (0, 0)) uq_ NB270_0.out (by simp))
   have n2_ := Aside0.mk (KeepBut.blk hk (g' := gb276) (o := .cells #[.int .i64 t283, .int .i64 t285, .int .i64 t273, .int .i64 t274] 40 (0, 0)) uq_ NB276_0.out (by simp))
   have n3_ := Aside0.mk (KeepBut.blk hk (g' := gb280) (o := .cells #[.int .i64 t277, .int .i64 t278] 38 (0, 0)) uq_ NB280_0.out (by simp))
   have n4_ := Aside0.mk (KeepBut.blk hk (g' := gb291) (o := .cells #[.int .i64 t287, .int .i64 t289] 38 (0, 0)) uq_ NB291_0.out (by simp))
   have n5_ := Aside0.mk (KeepBut.trans (by repeat (first | (with_reducible first | exact HK.out | apply KeepBut.set_ | apply keep_drewN | apply keep_drew | apply keep_alloc | refine keep_far ?_ GW269.out _ | refine keep_far ?_ GW270.out _ | refine keep_far ?_ GW276.out _ | refine keep_far ?_ GW280.out _ | refine keep_far ?_ GW291.out _) | exact HK.out)) hk (.inl rfl))
   have n6_ := Aside0.mk (hb)
   have n7_ := Aside0.mk (hi)
   clear BK269 BK270 BK276 BK280 BK291 HK HB HI0
   have BK269 := n0_
   have BK270 := n1_
   have BK276 := n2_
   have BK280 := n3_
   have BK291 := n4_
   have HK := n5_
   have HB := n6_
   have HI0 := n7_
   clear n0_ n1_ n2_ n3_ n4_ n5_ n6_ n7_
   (try clear hb)
   (try clear hb2)
   (try clear hk)
   (try clear hi)
   refine hK.out _ _ ⟨bc_, bc_, bc_, bc_, bc_, bc_⟩ (fun hHeld => ?_)
   clear hK K
   refine norm_ (a' := ?_) ?_ ?_
   rotate_left
   ·
    show Act.put _ (some 48) _ = _
    simp only [Act.put, List.setIfInBounds_toArray, List.set_cons_zero, List.set_cons_succ, i64_w, i32_w]
    rfl
   refine pure_ (i := 20) (N := some 49) (v := ?_) (a' := ?_) (bm 24 2097151) rfl rfl (any_of HT_.out (by kernel_rfl)) (fun _ _ _ h => h) (Or.inl ⟨by rfl, ?_⟩) ?_ ?_
   rotate_left
   ·
    intro w'
    go_simp
    with_reducible rfl
   rotate_left
   ·
    simp only [Act.put, List.setIfInBounds_toArray, List.set_cons_zero, List.set_cons_succ, i64_w, i32_w]
    rfl
   refine pure_ (i := 21) (N := some 50) (v := ?_) (a' := ?_) (bm 24 4194303) rfl rfl (any_of HT_.out (by kernel_rfl)) (fun _ _ _ h => h) (Or.inl ⟨by rfl, ?_⟩) ?_ ?_
   rotate_left
   ·
    intro w'
    go_simp
    with_reducible rfl
   rotate_left
   ·
    simp only [Act.put, List.setIfInBounds_toArray, List.set_cons_zero, List.set_cons_succ, i64_w, i32_w]
    rfl
   refine pure_ (i := 22) (N := some 51) (v := ?_) (a' := ?_) (bm 24 8388607) rfl rfl (any_of HT_.out (by kernel_rfl)) (fun _ _ _ h => h) (Or.inl ⟨by rfl, ?_⟩) ?_ ?_
   rotate_left
   ·
    intro w'
    go_simp
    with_reducible rfl
   rotate_left
   ·
    simp only [Act.put, List.setIfInBounds_toArray, List.set_cons_zero, List.set_cons_succ, i64_w, i32_w]
    rfl
   refine one_ (i := 23) (N := none) (bm 24 16777215) rfl rfl (one_of HT_.out (by kernel_rfl)) (by decide) (fun K hK => ?_)
   have hs93 : w92.cell? ⟨gb280, 0, none⟩ = some (.int .i64 t277) := bc_
   have hfs93 := blk_frozen BK280.out 0
   have hns93_0 := NB269_280.out
   have hns93_1 := NB270_280.out
   have hns93_2 := NB276_280.out
   have hns93_4 := NB291_280.out
   have hms93_0 := NB280_269.out
   have hms93_1 := NB280_270.out
   have hms93_2 := NB280_276.out
   have hms93_4 := NB280_291.out
   have hs94 : w92.cell? ⟨gb280, 1, none⟩ = some (.int .i64 t278) := bc_
   have hfs94 := blk_frozen BK280.out 1
   have hns94_0 := NB269_280.out
   have hns94_1 := NB270_280.out
   have hns94_2 := NB276_280.out
   have hns94_4 := NB291_280.out
   have hms94_0 := NB280_269.out
   have hms94_1 := NB280_270.out
   have hms94_2 := NB280_276.out
   have hms94_4 := NB280_291.out
   refine skip_ (w1 := ?_) (by rfl) rfl ?_ ?_
   rotate_left
   ·
    go_simp
    rfl
   refine hK.out _ _ ⟨((cell_far (p := ⟨gb280, _, none⟩) NB276_280.out _).trans (((cell_far (p := ⟨gb280, _, none⟩) NB276_280.out _).trans (hHeld.1)))), ((cell_far (p := ⟨gb280, _, none⟩) NB276_280.out _).trans (((cell_far (p := ⟨gb280, _, none⟩) NB276_280.out _).trans (hHeld.2.1)))), ((cell_far (p := ⟨gb280, _, none⟩) NB276_280.out _).trans (((cell_far (p := ⟨gb280, _, none⟩) NB276_280.out _).trans (hHeld.2.2.1)))), ((cell_far (p := ⟨gb280, _, none⟩) NB276_280.out _).trans (((cell_far (p := ⟨gb280, _, none⟩) NB276_280.out _).trans (hHeld.2.2.2.1)))), ((cell_far (p := ⟨gb280, _, none⟩) NB291_280.out _).trans (((cell_far (p := ⟨gb280, _, none⟩) NB291_280.out _).trans (hHeld.2.2.2.2.1)))), ((cell_far (p := ⟨gb280, _, none⟩) NB291_280.out _).trans (((cell_far (p := ⟨gb280, _, none⟩) NB291_280.out _).trans (hHeld.2.2.2.2.2))))⟩ (fun hHeld => ?_)
   clear hK K
   refine done_ (done_of HT_.out (by kernel_rfl)) ?_
   have hcz95_0 : w92.cell? ⟨gb276, 0, none⟩ = some (.int .i64 t283) := bc_
   have hcz95_1 : w92.cell? ⟨gb276, 1, none⟩ = some (.int .i64 t285) := bc_
   have hcz95_2 : w92.cell? ⟨gb276, 2, none⟩ = some (.int .i64 t273) := bc_
   have hcz95_3 : w92.cell? ⟨gb276, 3, none⟩ = some (.int .i64 t274) := bc_
   have hfz95_0 := blk_frozen BK276.out 0
   have hfz95_1 := blk_frozen BK276.out 1
   have hfz95_2 := blk_frozen BK276.out 2
   have hfz95_3 := blk_frozen BK276.out 3
   have hcz96_0 : w92.cell? ⟨gb291, 0, none⟩ = some (.int .i64 t287) := bc_
   have hcz96_1 : w92.cell? ⟨gb291, 1, none⟩ = some (.int .i64 t289) := bc_
   have hfz96_0 := blk_frozen BK291.out 0
   have hfz96_1 := blk_frozen BK291.out 1
   try go_wp2_with (first | ((with_reducible refine gate_callee (f := 48) rfl ?_); refine goesL_ (some 71) rfl rfl Tryd.func48 (by kernel_rfl) rfl #[.pointer (some ⟨g, 0, none⟩), .int .i64 2] rfl ma_ ?_; (with_reducible refine (spec_l6Rd_pick.calls k g s0_0 t297 2 t298 t299 w0 _ ?side1 ?side2 A13.out).mono ?_); (case side1 => repeat (first | (with_reducible first | exact HI0.out | apply IsS96.alloc | apply IsS96.drewN | apply IsS96.drew | apply IsS96.set_1 | refine IsS96.far ?_ NB0_269.out _ | refine IsS96.far ?_ NB0_270.out _ | refine IsS96.far ?_ NB0_276.out _ | refine IsS96.far ?_ NB0_280.out _ | refine IsS96.far ?_ NB0_291.out _) | exact HI0.out)); (case side2 => repeat (first | (with_reducible first | exact HB.out | apply below_alloc | apply pw_below_drewN | apply below_drew1 | refine below_set ?_ (IsS96.ge HI0.out) | refine below_set ?_ GE269.out | refine below_set ?_ GE270.out | refine below_set ?_ GE276.out | refine below_set ?_ GE280.out | refine below_set ?_ GE291.out) | exact HB.out)); rintro e w97 ⟨rfl, hi, hb, hk⟩; refine ⟨_, rfl, ?_⟩; have n0_ := Aside0.mk (KeepBut.blk hk (g' := gb269) (o := .cells #[.int .i64 0, .int .i64 0, .int .i64 0, .int .i64 0] 40 (0, 0)) (by (with_reducible repeat (first | refine blk_drewN ?_ _ | refine blk_drew ?_ | refine blk_alloc ?_ _)); refine blk_far ?_ NB269_276.out _; (with_reducible repeat (first | refine blk_drewN ?_ _ | refine blk_drew ?_ | refine blk_alloc ?_ _)); refine blk_far ?_ NB269_276.out _; (with_reducible repeat (first | refine blk_drewN ?_ _ | refine blk_drew ?_ | refine blk_alloc ?_ _)); refine blk_far ?_ NB269_280.out _; (with_reducible repeat (first | refine blk_drewN ?_ _ | refine blk_drew ?_ | refine blk_alloc ?_ _)); refine blk_far ?_ NB269_280.out _; (with_reducible repeat (first | refine blk_drewN ?_ _ | refine blk_drew ?_ | refine blk_alloc ?_ _)); exact BK269.out) NB269_0.out (by simp)); have n1_ := Aside0.mk (KeepBut.blk hk (g' := gb270) (o := .cells #[.int .i64 0, .int .i64 0] 38 (0, 0)) (by (with_reducible repeat (first | refine blk_drewN ?_ _ | refine blk_drew ?_ | refine blk_alloc ?_ _)); refine blk_far ?_ NB270_276.out _; (with_reducible repeat (first | refine blk_drewN ?_ _ | refine blk_drew ?_ | refine blk_alloc ?_ _)); refine blk_far ?_ NB270_276.out _; (with_reducible repeat (first | refine blk_drewN ?_ _ | refine blk_drew ?_ | refine blk_alloc ?_ _)); refine blk_far ?_ NB270_280.out _; (with_reducible repeat (first | refine blk_drewN ?_ _ | refine blk_drew ?_ | refine blk_alloc ?_ _)); refine blk_far ?_ NB270_280.out _; (with_reducible repeat (first | refine blk_drewN ?_ _ | refine blk_drew ?_ | refine blk_alloc ?_ _)); exact BK270.out) NB270_0.out (by simp)); have n2_ := Aside0.mk (KeepBut.blk hk (g' := gb276) (o := .cells #[.int .i64 t283, .int .i64 t285, .int .i64 (wrap64 (t283 + (wrap64 (t287 * (wrap64 (1 + t292)))))), .int .i64 (wrap64 (t285 + (wrap64 (t289 * (wrap64 (1 + t292))))))] 40 (0, 0)) (by (with_reducible repeat (first | refine blk_drewN ?_ _ | refine blk_drew ?_ | refine blk_alloc ?_ _)); refine blk_put (cs := #[.int .i64 t283, .int .i64 t285, .int .i64 (wrap64 (t283 + (wrap64 (t287 * (wrap64 (1 + t292)))))), .int .i64 t274]) ?_ 3 _ rfl; (with_reducible repeat (first | refine blk_drewN ?_ _ | refine blk_drew ?_ | refine blk_alloc ?_ _)); refine blk_put (cs := #[.int .i64 t283, .int .i64 t285, .int .i64 t273, .int .i64 t274]) ?_ 2 _ rfl; (with_reducible repeat (first | refine blk_drewN ?_ _ | refine blk_drew ?_ | refine blk_alloc ?_ _)); refine blk_far ?_ NB276_280.out _; (with_reducible repeat (first | refine blk_drewN ?_ _ | refine blk_drew ?_ | refine blk_alloc ?_ _)); refine blk_far ?_ NB276_280.out _; (with_reducible repeat (first | refine blk_drewN ?_ _ | refine blk_drew ?_ | refine blk_alloc ?_ _)); exact BK276.out) NB276_0.out (by simp)); have n3_ := Aside0.mk (KeepBut.blk hk (g' := gb280) (o := .cells #[.int .i64 (wrap64 (t283 + (wrap64 (t287 * t294)))), .int .i64 (wrap64 (t285 + (wrap64 (t289 * t296))))] 38 (0, 0)) (by (with_reducible repeat (first | refine blk_drewN ?_ _ | refine blk_drew ?_ | refine blk_alloc ?_ _)); refine blk_far ?_ NB280_276.out _; (with_reducible repeat (first | refine blk_drewN ?_ _ | refine blk_drew ?_ | refine blk_alloc ?_ _)); refine blk_far ?_ NB280_276.out _; (with_reducible repeat (first | refine blk_drewN ?_ _ | refine blk_drew ?_ | refine blk_alloc ?_ _)); refine blk_put (cs := #[.int .i64 (wrap64 (t283 + (wrap64 (t287 * t294)))), .int .i64 t278]) ?_ 1 _ rfl; (with_reducible repeat (first | refine blk_drewN ?_ _ | refine blk_drew ?_ | refine blk_alloc ?_ _)); refine blk_put (cs := #[.int .i64 t277, .int .i64 t278]) ?_ 0 _ rfl; (with_reducible repeat (first | refine blk_drewN ?_ _ | refine blk_drew ?_ | refine blk_alloc ?_ _)); exact BK280.out) NB280_0.out (by simp)); have n4_ := Aside0.mk (KeepBut.blk hk (g' := gb291) (o := .cells #[.int .i64 t287, .int .i64 t289] 38 (0, 0)) (by (with_reducible repeat (first | refine blk_drewN ?_ _ | refine blk_drew ?_ | refine blk_alloc ?_ _)); refine blk_far ?_ NB291_276.out _; (with_reducible repeat (first | refine blk_drewN ?_ _ | refine blk_drew ?_ | refine blk_alloc ?_ _)); refine blk_far ?_ NB291_276.out _; (with_reducible repeat (first | refine blk_drewN ?_ _ | refine blk_drew ?_ | refine blk_alloc ?_ _)); refine blk_far ?_ NB291_280.out _; (with_reducible repeat (first | refine blk_drewN ?_ _ | refine blk_drew ?_ | refine blk_alloc ?_ _)); refine blk_far ?_ NB291_280.out _; (with_reducible repeat (first | refine blk_drewN ?_ _ | refine blk_drew ?_ | refine blk_alloc ?_ _)); exact BK291.out) NB291_0.out (by simp)); have n5_ := Aside0.mk (KeepBut.trans (by repeat (first | (with_reducible first | exact HK.out | apply KeepBut.set_ | apply keep_drewN | apply keep_drew | apply keep_alloc | refine keep_far ?_ GW269.out _ | refine keep_far ?_ GW270.out _ | refine keep_far ?_ GW276.out _ | refine keep_far ?_ GW280.out _ | refine keep_far ?_ GW291.out _) | exact HK.out)) hk (.inl rfl)); have n6_ := Aside0.mk (hb); have n7_ := Aside0.mk (hi); clear BK269; clear BK270; clear BK276; clear BK280; clear BK291; clear HK; clear HB; clear HI0; have BK269 := n0_; have BK270 := n1_; have BK276 := n2_; have BK280 := n3_; have BK291 := n4_; have HK := n5_; have HB := n6_; have HI0 := n7_; clear n0_ n1_ n2_ n3_ n4_ n5_ n6_ n7_; (try clear hb); (try clear hb2); (try clear hk); (try clear hi)))
   have n0_ := Aside0.mk (blk_drew BK269.out)
   have n1_ := Aside0.mk (blk_drew BK270.out)
   have n2_ := Aside0.mk (blk_drew BK276.out)
   have n3_ := Aside0.mk (blk_drew BK280.out)
   have n4_ := Aside0.mk (blk_drew BK291.out)
   have n5_ := Aside0.mk (IsS96.drew HI0.out)
   have n6_ := Aside0.mk (keep_drew HK.out)
   have n7_ := Aside0.mk (below_drew1 HB.out)
   clear BK269 BK270 BK276 BK280 BK291 HI0 HK HB
   have BK269 := n0_
   have BK270 := n1_
   have BK276 := n2_
   have BK280 := n3_
   have BK291 := n4_
   have HI0 := n5_
   have HK := n6_
   have HB := n7_
   clear n0_ n1_ n2_ n3_ n4_ n5_ n6_ n7_
   refine start_ (n := 4) (S := fun w' => w'.cell? ⟨gb276, 0, none⟩ = some (.int .i64 t283) ∧ w'.cell? ⟨gb276, 1, none⟩ = some (.int .i64 t285) ∧ w'.cell? ⟨gb276, 2, none⟩ = some (.int .i64 (wrap64 (t283 + (wrap64 (t287 * (wrap64 (1 + t292))))))) ∧ w'.cell? ⟨gb276, 3, none⟩ = some (.int .i64 (wrap64 (t285 + (wrap64 (t289 * (wrap64 (1 + t292))))))) ∧ w'.cell? ⟨gb280, 0, none⟩ = some (.int .i64 (wrap64 (t283 + (wrap64 (t287 * t294))))) ∧ w'.cell? ⟨gb280, 1, none⟩ = some (.int .i64 (wrap64 (t285 + (wrap64 (t289 * t296)))))) (ds := []) #[false, false, false, false] (by kernel_rfl) rfl rfl ⟨bc_, bc_, bc_, bc_, bc_, bc_⟩ (fun hHeld => ?_)
   generalize w97.drew = w98 at BK269 BK270 BK276 BK280 BK291 HI0 HK HB hHeld ⊢
   refine take_ (i := 0) (N := some 78) (v := ?_) (a' := ?_) #[true, false, false, false] rfl rfl (by kernel_rfl) (fun _ _ _ h => h) (Or.inl ⟨by rfl, ?_⟩) hHeld ?_ ?_
   rotate_left
   ·
    rintro w' ⟨s0, s1, s2, s3, s4, s5⟩
    go_simp
    with_reducible rfl
   rotate_left
   ·
    simp only [Act.put, List.setIfInBounds_toArray, List.set_cons_zero, List.set_cons_succ, i64_w, i32_w]
    rfl
   refine take_ (i := 1) (N := some 79) (v := ?_) (a' := ?_) #[true, true, false, false] rfl rfl (by kernel_rfl) (fun _ _ _ h => h) (Or.inl ⟨by rfl, ?_⟩) hHeld ?_ ?_
   rotate_left
   ·
    rintro w' ⟨s0, s1, s2, s3, s4, s5⟩
    go_simp
    with_reducible rfl
   rotate_left
   ·
    simp only [Act.put, List.setIfInBounds_toArray, List.set_cons_zero, List.set_cons_succ, i64_w, i32_w]
    rfl
   refine one_ (i := 2) (N := none) #[true, true, true, false] rfl rfl (by kernel_rfl) (by decide) (fun K hK => ?_)
   have hs99 : w98.cell? ⟨gb269, 0, none⟩ = some (.int .i64 0) := bc_
   have hfs99 := blk_frozen BK269.out 0
   have hns99_1 := NB270_269.out
   have hns99_2 := NB276_269.out
   have hns99_3 := NB280_269.out
   have hns99_4 := NB291_269.out
   have hms99_1 := NB269_270.out
   have hms99_2 := NB269_276.out
   have hms99_3 := NB269_280.out
   have hms99_4 := NB269_291.out
   have hs100 : w98.cell? ⟨gb269, 1, none⟩ = some (.int .i64 0) := bc_
   have hfs100 := blk_frozen BK269.out 1
   have hns100_1 := NB270_269.out
   have hns100_2 := NB276_269.out
   have hns100_3 := NB280_269.out
   have hns100_4 := NB291_269.out
   have hms100_1 := NB269_270.out
   have hms100_2 := NB269_276.out
   have hms100_3 := NB269_280.out
   have hms100_4 := NB269_291.out
   have hs101 : w98.cell? ⟨gb269, 2, none⟩ = some (.int .i64 0) := bc_
   have hfs101 := blk_frozen BK269.out 2
   have hns101_1 := NB270_269.out
   have hns101_2 := NB276_269.out
   have hns101_3 := NB280_269.out
   have hns101_4 := NB291_269.out
   have hms101_1 := NB269_270.out
   have hms101_2 := NB269_276.out
   have hms101_3 := NB269_280.out
   have hms101_4 := NB269_291.out
   have hs102 : w98.cell? ⟨gb269, 3, none⟩ = some (.int .i64 0) := bc_
   have hfs102 := blk_frozen BK269.out 3
   have hns102_1 := NB270_269.out
   have hns102_2 := NB276_269.out
   have hns102_3 := NB280_269.out
   have hns102_4 := NB291_269.out
   have hms102_1 := NB269_270.out
   have hms102_2 := NB269_276.out
   have hms102_3 := NB269_280.out
   have hms102_4 := NB269_291.out
   refine skip_ (w1 := ?_) (by rfl) rfl ?_ ?_
   rotate_left
   ·
    go_simp
    rfl
   refine hK.out _ _ ⟨((cell_far (p := ⟨gb269, _, none⟩) NB276_269.out _).trans (((cell_far (p := ⟨gb269, _, none⟩) NB276_269.out _).trans (((cell_far (p := ⟨gb269, _, none⟩) NB276_269.out _).trans (((cell_far (p := ⟨gb269, _, none⟩) NB276_269.out _).trans (hHeld.1)))))))), ((cell_far (p := ⟨gb269, _, none⟩) NB276_269.out _).trans (((cell_far (p := ⟨gb269, _, none⟩) NB276_269.out _).trans (((cell_far (p := ⟨gb269, _, none⟩) NB276_269.out _).trans (((cell_far (p := ⟨gb269, _, none⟩) NB276_269.out _).trans (hHeld.2.1)))))))), ((cell_far (p := ⟨gb269, _, none⟩) NB276_269.out _).trans (((cell_far (p := ⟨gb269, _, none⟩) NB276_269.out _).trans (((cell_far (p := ⟨gb269, _, none⟩) NB276_269.out _).trans (((cell_far (p := ⟨gb269, _, none⟩) NB276_269.out _).trans (hHeld.2.2.1)))))))), ((cell_far (p := ⟨gb269, _, none⟩) NB276_269.out _).trans (((cell_far (p := ⟨gb269, _, none⟩) NB276_269.out _).trans (((cell_far (p := ⟨gb269, _, none⟩) NB276_269.out _).trans (((cell_far (p := ⟨gb269, _, none⟩) NB276_269.out _).trans (hHeld.2.2.2.1)))))))), ((cell_far (p := ⟨gb269, _, none⟩) NB280_269.out _).trans (((cell_far (p := ⟨gb269, _, none⟩) NB280_269.out _).trans (((cell_far (p := ⟨gb269, _, none⟩) NB280_269.out _).trans (((cell_far (p := ⟨gb269, _, none⟩) NB280_269.out _).trans (hHeld.2.2.2.2.1)))))))), ((cell_far (p := ⟨gb269, _, none⟩) NB280_269.out _).trans (((cell_far (p := ⟨gb269, _, none⟩) NB280_269.out _).trans (((cell_far (p := ⟨gb269, _, none⟩) NB280_269.out _).trans (((cell_far (p := ⟨gb269, _, none⟩) NB280_269.out _).trans (hHeld.2.2.2.2.2))))))))⟩ (fun hHeld => ?_)
   clear hK K
   refine one_ (i := 3) (N := none) #[true, true, true, true] rfl rfl (by kernel_rfl) (by decide) (fun K hK => ?_)
   have hs103 : w98.cell? ⟨gb270, 0, none⟩ = some (.int .i64 0) := bc_
   have hfs103 := blk_frozen BK270.out 0
   have hns103_0 := NB269_270.out
   have hns103_2 := NB276_270.out
   have hns103_3 := NB280_270.out
   have hns103_4 := NB291_270.out
   have hms103_0 := NB270_269.out
   have hms103_2 := NB270_276.out
   have hms103_3 := NB270_280.out
   have hms103_4 := NB270_291.out
   have hs104 : w98.cell? ⟨gb270, 1, none⟩ = some (.int .i64 0) := bc_
   have hfs104 := blk_frozen BK270.out 1
   have hns104_0 := NB269_270.out
   have hns104_2 := NB276_270.out
   have hns104_3 := NB280_270.out
   have hns104_4 := NB291_270.out
   have hms104_0 := NB270_269.out
   have hms104_2 := NB270_276.out
   have hms104_3 := NB270_280.out
   have hms104_4 := NB270_291.out
   refine skip_ (w1 := ?_) (by rfl) rfl ?_ ?_
   rotate_left
   ·
    go_simp
    rfl
   refine hK.out _ _ ⟨((cell_far (p := ⟨gb270, _, none⟩) NB276_270.out _).trans (((cell_far (p := ⟨gb270, _, none⟩) NB276_270.out _).trans (hHeld.1)))), ((cell_far (p := ⟨gb270, _, none⟩) NB276_270.out _).trans (((cell_far (p := ⟨gb270, _, none⟩) NB276_270.out _).trans (hHeld.2.1)))), ((cell_far (p := ⟨gb270, _, none⟩) NB276_270.out _).trans (((cell_far (p := ⟨gb270, _, none⟩) NB276_270.out _).trans (hHeld.2.2.1)))), ((cell_far (p := ⟨gb270, _, none⟩) NB276_270.out _).trans (((cell_far (p := ⟨gb270, _, none⟩) NB276_270.out _).trans (hHeld.2.2.2.1)))), ((cell_far (p := ⟨gb270, _, none⟩) NB280_270.out _).trans (((cell_far (p := ⟨gb270, _, none⟩) NB280_270.out _).trans (hHeld.2.2.2.2.1)))), ((cell_far (p := ⟨gb270, _, none⟩) NB280_270.out _).trans (((cell_far (p := ⟨gb270, _, none⟩) NB280_270.out _).trans (hHeld.2.2.2.2.2))))⟩ (fun hHeld => ?_)
   clear hK K
   refine done_ (by kernel_rfl) ?_
   try go_wp2
   refine bodyPost_ret (results_cc rfl _ _ gb269 gb270 40 38 #[.int .i64 t283, .int .i64 t285, .int .i64 (wrap64 (t283 + (wrap64 (t287 * (wrap64 (1 + t292)))))), .int .i64 (wrap64 (t285 + (wrap64 (t289 * (wrap64 (1 + t292))))))] #[.int .i64 (wrap64 (t283 + (wrap64 (t287 * t294)))), .int .i64 (wrap64 (t285 + (wrap64 (t289 * t296))))] (0, 0) (0, 0) _ _ rfl (by (with_reducible repeat (first | refine blk_drewN ?_ _ | refine blk_drew ?_ | refine blk_alloc ?_ _)); refine blk_far ?_ NB269_270.out _; (with_reducible repeat (first | refine blk_drewN ?_ _ | refine blk_drew ?_ | refine blk_alloc ?_ _)); refine blk_far ?_ NB269_270.out _; (with_reducible repeat (first | refine blk_drewN ?_ _ | refine blk_drew ?_ | refine blk_alloc ?_ _)); refine blk_put (cs := #[.int .i64 t283, .int .i64 t285, .int .i64 (wrap64 (t283 + (wrap64 (t287 * (wrap64 (1 + t292)))))), .int .i64 0]) ?_ 3 _ rfl; (with_reducible repeat (first | refine blk_drewN ?_ _ | refine blk_drew ?_ | refine blk_alloc ?_ _)); refine blk_put (cs := #[.int .i64 t283, .int .i64 t285, .int .i64 0, .int .i64 0]) ?_ 2 _ rfl; (with_reducible repeat (first | refine blk_drewN ?_ _ | refine blk_drew ?_ | refine blk_alloc ?_ _)); refine blk_put (cs := #[.int .i64 t283, .int .i64 0, .int .i64 0, .int .i64 0]) ?_ 1 _ rfl; (with_reducible repeat (first | refine blk_drewN ?_ _ | refine blk_drew ?_ | refine blk_alloc ?_ _)); refine blk_put (cs := #[.int .i64 0, .int .i64 0, .int .i64 0, .int .i64 0]) ?_ 0 _ rfl; (with_reducible repeat (first | refine blk_drewN ?_ _ | refine blk_drew ?_ | refine blk_alloc ?_ _)); exact BK269.out) Tryd.underlying40 rfl (by kernel_rfl) rfl (by (with_reducible repeat (first | refine blk_drewN ?_ _ | refine blk_drew ?_ | refine blk_alloc ?_ _)); refine blk_put (cs := #[.int .i64 (wrap64 (t283 + (wrap64 (t287 * t294)))), .int .i64 0]) ?_ 1 _ rfl; (with_reducible repeat (first | refine blk_drewN ?_ _ | refine blk_drew ?_ | refine blk_alloc ?_ _)); refine blk_put (cs := #[.int .i64 0, .int .i64 0]) ?_ 0 _ rfl; (with_reducible repeat (first | refine blk_drewN ?_ _ | refine blk_drew ?_ | refine blk_alloc ?_ _)); refine blk_far ?_ NB270_269.out _; (with_reducible repeat (first | refine blk_drewN ?_ _ | refine blk_drew ?_ | refine blk_alloc ?_ _)); refine blk_far ?_ NB270_269.out _; (with_reducible repeat (first | refine blk_drewN ?_ _ | refine blk_drew ?_ | refine blk_alloc ?_ _)); refine blk_far ?_ NB270_269.out _; (with_reducible repeat (first | refine blk_drewN ?_ _ | refine blk_drew ?_ | refine blk_alloc ?_ _)); refine blk_far ?_ NB270_269.out _; (with_reducible repeat (first | refine blk_drewN ?_ _ | refine blk_drew ?_ | refine blk_alloc ?_ _)); exact BK270.out) Tryd.underlying38 rfl (by kernel_rfl)) rfl ?_
   exact ⟨by first | rfl | (simp [errW_none, errW_some] <;> rfl) | (simp [*, errW_none, errW_some] <;> rfl), by repeat (first | (with_reducible first | exact HI0.out | apply IsS96.alloc | apply IsS96.drewN | apply IsS96.drew | apply IsS96.set_1 | refine IsS96.far ?_ NB0_269.out _ | refine IsS96.far ?_ NB0_270.out _ | refine IsS96.far ?_ NB0_276.out _ | refine IsS96.far ?_ NB0_280.out _ | refine IsS96.far ?_ NB0_291.out _) | exact HI0.out), by repeat (first | (with_reducible first | exact HB.out | apply below_alloc | apply pw_below_drewN | apply below_drew1 | refine below_set ?_ (IsS96.ge HI0.out) | refine below_set ?_ GE269.out | refine below_set ?_ GE270.out | refine below_set ?_ GE276.out | refine below_set ?_ GE280.out | refine below_set ?_ GE291.out) | exact HB.out), by repeat (first | (with_reducible first | exact HK.out | apply KeepBut.set_ | apply keep_drewN | apply keep_drew | apply keep_alloc | refine keep_far ?_ GW269.out _ | refine keep_far ?_ GW270.out _ | refine keep_far ?_ GW276.out _ | refine keep_far ?_ GW280.out _ | refine keep_far ?_ GW291.out _) | exact HK.out)⟩
 ·
  rw [if_neg c5] at H
  have c5b0 : decide (0 < t281) = false := decide_eq_false c5
  clear c5
  simp only [Option.some.injEq, Prod.mk.injEq] at H
  obtain ⟨rfl, rfl, rfl, rfl, rfl, rfl, rfl⟩ := H
  go_enter Tryd.func49, Tryd.ntmps49
  try go_wp2_with (first | ((with_reducible refine gate_dst (N := 2) rfl ?_); refine box_event ?hg (N := 2) ?hd (cs := #[.int .i64 0, .int .i64 0, .int .i64 0, .int .i64 0]) (t := 40) ?hr ?_; (case hd => rfl); (case hg => rfl); (case hr => first | (go_simp; done) | (go_simp; rfl)); intro gb269 hg w105 hbox hb; have n0_ := Aside0.mk (IsS96.below (by repeat (first | (with_reducible first | exact HI0.out | apply IsS96.alloc | apply IsS96.drewN | apply IsS96.drew | apply IsS96.set_1) | exact HI0.out)) hb); have n1_ := Aside0.mk (KeepBut.trans (by repeat (first | (with_reducible first | exact HK.out | apply KeepBut.set_ | apply keep_drewN | apply keep_drew | apply keep_alloc) | exact HK.out)) (KeepBut.of_below hb g none) (.inl rfl)); have n2_ := Aside0.mk (below_step (by repeat (first | (with_reducible first | exact HB.out | apply below_alloc | apply pw_below_drewN | apply below_drew1 | refine below_set ?_ (IsS96.ge HI0.out)) | exact HB.out)) hb); have n3_ := Aside0.mk (hbox); have n4_ := Aside0.mk ((by rw [hg]; exact (keep_size (w := w) (g := g) (row := none) (by repeat (first | (with_reducible first | exact HK.out | apply KeepBut.set_ | apply keep_drewN | apply keep_drew | apply keep_alloc) | exact HK.out))) : w.heap.size ≤ gb269)); have n5_ := Aside0.mk ((Nat.le_trans HW0.out (by rw [hg]; exact (keep_size (w := w) (g := g) (row := none) (by repeat (first | (with_reducible first | exact HK.out | apply KeepBut.set_ | apply keep_drewN | apply keep_drew | apply keep_alloc) | exact HK.out))) : w.heap.size ≤ gb269) : w0.heap.size ≤ gb269)); have n6_ := Aside0.mk ((by rw [hg]; exact Nat.ne_of_lt (IsS96.lt (show IsS96 w0 _ g s0_0 s0_1 from by repeat (first | (with_reducible first | exact HI0.out | apply IsS96.alloc | apply IsS96.drewN | apply IsS96.drew | apply IsS96.set_1) | exact HI0.out))) : g ≠ gb269)); have n7_ := Aside0.mk ((by rw [hg]; exact Nat.ne_of_gt (IsS96.lt (show IsS96 w0 _ g s0_0 s0_1 from by repeat (first | (with_reducible first | exact HI0.out | apply IsS96.alloc | apply IsS96.drewN | apply IsS96.drew | apply IsS96.set_1) | exact HI0.out))) : gb269 ≠ g)); clear HI0; clear HK; clear HB; have HI0 := n0_; have HK := n1_; have HB := n2_; have BK269 := n3_; have GW269 := n4_; have GE269 := n5_; have NB0_269 := n6_; have NB269_0 := n7_; clear n0_ n1_ n2_ n3_ n4_ n5_ n6_ n7_; clear hb hbox hg) | ((with_reducible refine gate_dst (N := 3) rfl ?_); refine box_event ?hg (N := 3) ?hd (cs := #[.int .i64 0, .int .i64 0]) (t := 38) ?hr ?_; (case hd => rfl); (case hg => rfl); (case hr => first | (go_simp; done) | (go_simp; rfl)); intro gb270 hg w106 hbox hb; have n0_ := Aside0.mk (IsS96.below (by repeat (first | (with_reducible first | exact HI0.out | apply IsS96.alloc | apply IsS96.drewN | apply IsS96.drew | apply IsS96.set_1 | refine IsS96.far ?_ NB0_269.out _) | exact HI0.out)) hb); have n1_ := Aside0.mk (ub_ (g := gb269) hb); have n2_ := Aside0.mk (KeepBut.trans (by repeat (first | (with_reducible first | exact HK.out | apply KeepBut.set_ | apply keep_drewN | apply keep_drew | apply keep_alloc | refine keep_far ?_ GW269.out _) | exact HK.out)) (KeepBut.of_below hb g none) (.inl rfl)); have n3_ := Aside0.mk (below_step (by repeat (first | (with_reducible first | exact HB.out | apply below_alloc | apply pw_below_drewN | apply below_drew1 | refine below_set ?_ (IsS96.ge HI0.out) | refine below_set ?_ GE269.out) | exact HB.out)) hb); have n4_ := Aside0.mk (hbox); have n5_ := Aside0.mk ((by rw [hg]; exact (keep_size (w := w) (g := g) (row := none) (by repeat (first | (with_reducible first | exact HK.out | apply KeepBut.set_ | apply keep_drewN | apply keep_drew | apply keep_alloc | refine keep_far ?_ GW269.out _) | exact HK.out))) : w.heap.size ≤ gb270)); have n6_ := Aside0.mk ((Nat.le_trans HW0.out (by rw [hg]; exact (keep_size (w := w) (g := g) (row := none) (by repeat (first | (with_reducible first | exact HK.out | apply KeepBut.set_ | apply keep_drewN | apply keep_drew | apply keep_alloc | refine keep_far ?_ GW269.out _) | exact HK.out))) : w.heap.size ≤ gb270) : w0.heap.size ≤ gb270)); have n7_ := Aside0.mk ((by rw [hg]; exact Nat.ne_of_lt (blk_lt (g := gb269) (o := .cells #[.int .i64 0, .int .i64 0, .int .i64 0, .int .i64 0] 40 (0, 0)) uq_) : gb269 ≠ gb270)); have n8_ := Aside0.mk ((by rw [hg]; exact Nat.ne_of_gt (blk_lt (g := gb269) (o := .cells #[.int .i64 0, .int .i64 0, .int .i64 0, .int .i64 0] 40 (0, 0)) uq_) : gb270 ≠ gb269)); have n9_ := Aside0.mk ((by rw [hg]; exact Nat.ne_of_lt (IsS96.lt (show IsS96 w0 _ g s0_0 s0_1 from by repeat (first | (with_reducible first | exact HI0.out | apply IsS96.alloc | apply IsS96.drewN | apply IsS96.drew | apply IsS96.set_1 | refine IsS96.far ?_ NB0_269.out _) | exact HI0.out))) : g ≠ gb270)); have n10_ := Aside0.mk ((by rw [hg]; exact Nat.ne_of_gt (IsS96.lt (show IsS96 w0 _ g s0_0 s0_1 from by repeat (first | (with_reducible first | exact HI0.out | apply IsS96.alloc | apply IsS96.drewN | apply IsS96.drew | apply IsS96.set_1 | refine IsS96.far ?_ NB0_269.out _) | exact HI0.out))) : gb270 ≠ g)); clear HI0; clear BK269; clear HK; clear HB; have HI0 := n0_; have BK269 := n1_; have HK := n2_; have HB := n3_; have BK270 := n4_; have GW270 := n5_; have GE270 := n6_; have NB269_270 := n7_; have NB270_269 := n8_; have NB0_270 := n9_; have NB270_0 := n10_; clear n0_ n1_ n2_ n3_ n4_ n5_ n6_ n7_ n8_ n9_ n10_; clear hb hbox hg) | ((with_reducible refine gate_callee (f := 50) rfl ?_); refine goesL_ (some 9) rfl rfl Tryd.func50 (by kernel_rfl) rfl #[.pointer (some ⟨g, 0, none⟩)] rfl ma_ ?_; (with_reducible refine (spec_l71Seg.calls k g s0_0 s0_1 t271 t272 t273 t274 t275 w0 _ ?side1 ?side2 A2.out).mono ?_); (case side1 => repeat (first | (with_reducible first | exact HI0.out | apply IsS96.alloc | apply IsS96.drewN | apply IsS96.drew | apply IsS96.set_1 | refine IsS96.far ?_ NB0_269.out _ | refine IsS96.far ?_ NB0_270.out _) | exact HI0.out)); (case side2 => repeat (first | (with_reducible first | exact HB.out | apply below_alloc | apply pw_below_drewN | apply below_drew1 | refine below_set ?_ (IsS96.ge HI0.out) | refine below_set ?_ GE269.out | refine below_set ?_ GE270.out) | exact HB.out)); rintro e w107 ⟨rfl, hi, hb, hk⟩; refine ⟨_, rfl, ?_⟩; have n0_ := Aside0.mk (KeepBut.blk hk (g' := gb269) (o := .cells #[.int .i64 0, .int .i64 0, .int .i64 0, .int .i64 0] 40 (0, 0)) uq_ NB269_0.out (by simp)); have n1_ := Aside0.mk (KeepBut.blk hk (g' := gb270) (o := .cells #[.int .i64 0, .int .i64 0] 38 (0, 0)) uq_ NB270_0.out (by simp)); have n2_ := Aside0.mk (KeepBut.trans (by repeat (first | (with_reducible first | exact HK.out | apply KeepBut.set_ | apply keep_drewN | apply keep_drew | apply keep_alloc | refine keep_far ?_ GW269.out _ | refine keep_far ?_ GW270.out _) | exact HK.out)) hk (.inl rfl)); have n3_ := Aside0.mk (hb); have n4_ := Aside0.mk (hi); clear BK269; clear BK270; clear HK; clear HB; clear HI0; have BK269 := n0_; have BK270 := n1_; have HK := n2_; have HB := n3_; have HI0 := n4_; clear n0_ n1_ n2_ n3_ n4_; (try clear hb); (try clear hb2); (try clear hk); (try clear hi)) | ((with_reducible refine gate_dst (N := 4) rfl ?_); refine box_event ?hg (N := 4) ?hd (cs := #[.int .i64 0, .int .i64 0, .int .i64 0, .int .i64 0]) (t := 40) ?hr ?_; (case hd => rfl); (case hg => rfl); (case hr => first | (go_simp; done) | (go_simp; rfl)); intro gb276 hg w108 hbox hb; have n0_ := Aside0.mk (IsS96.below (by repeat (first | (with_reducible first | exact HI0.out | apply IsS96.alloc | apply IsS96.drewN | apply IsS96.drew | apply IsS96.set_1 | refine IsS96.far ?_ NB0_269.out _ | refine IsS96.far ?_ NB0_270.out _) | exact HI0.out)) hb); have n1_ := Aside0.mk (ub_ (g := gb269) hb); have n2_ := Aside0.mk (ub_ (g := gb270) hb); have n3_ := Aside0.mk (KeepBut.trans (by repeat (first | (with_reducible first | exact HK.out | apply KeepBut.set_ | apply keep_drewN | apply keep_drew | apply keep_alloc | refine keep_far ?_ GW269.out _ | refine keep_far ?_ GW270.out _) | exact HK.out)) (KeepBut.of_below hb g none) (.inl rfl)); have n4_ := Aside0.mk (below_step (by repeat (first | (with_reducible first | exact HB.out | apply below_alloc | apply pw_below_drewN | apply below_drew1 | refine below_set ?_ (IsS96.ge HI0.out) | refine below_set ?_ GE269.out | refine below_set ?_ GE270.out) | exact HB.out)) hb); have n5_ := Aside0.mk (hbox); have n6_ := Aside0.mk ((by rw [hg]; exact (keep_size (w := w) (g := g) (row := none) (by repeat (first | (with_reducible first | exact HK.out | apply KeepBut.set_ | apply keep_drewN | apply keep_drew | apply keep_alloc | refine keep_far ?_ GW269.out _ | refine keep_far ?_ GW270.out _) | exact HK.out))) : w.heap.size ≤ gb276)); have n7_ := Aside0.mk ((Nat.le_trans HW0.out (by rw [hg]; exact (keep_size (w := w) (g := g) (row := none) (by repeat (first | (with_reducible first | exact HK.out | apply KeepBut.set_ | apply keep_drewN | apply keep_drew | apply keep_alloc | refine keep_far ?_ GW269.out _ | refine keep_far ?_ GW270.out _) | exact HK.out))) : w.heap.size ≤ gb276) : w0.heap.size ≤ gb276)); have n8_ := Aside0.mk ((by rw [hg]; exact Nat.ne_of_lt (blk_lt (g := gb269) (o := .cells #[.int .i64 0, .int .i64 0, .int .i64 0, .int .i64 0] 40 (0, 0)) uq_) : gb269 ≠ gb276)); have n9_ := Aside0.mk ((by rw [hg]; exact Nat.ne_of_gt (blk_lt (g := gb269) (o := .cells #[.int .i64 0, .int .i64 0, .int .i64 0, .int .i64 0] 40 (0, 0)) uq_) : gb276 ≠ gb269)); have n10_ := Aside0.mk ((by rw [hg]; exact Nat.ne_of_lt (blk_lt (g := gb270) (o := .cells #[.int .i64 0, .int .i64 0] 38 (0, 0)) uq_) : gb270 ≠ gb276)); have n11_ := Aside0.mk ((by rw [hg]; exact Nat.ne_of_gt (blk_lt (g := gb270) (o := .cells #[.int .i64 0, .int .i64 0] 38 (0, 0)) uq_) : gb276 ≠ gb270)); have n12_ := Aside0.mk ((by rw [hg]; exact Nat.ne_of_lt (IsS96.lt (show IsS96 w0 _ g s0_0 t275 from by repeat (first | (with_reducible first | exact HI0.out | apply IsS96.alloc | apply IsS96.drewN | apply IsS96.drew | apply IsS96.set_1 | refine IsS96.far ?_ NB0_269.out _ | refine IsS96.far ?_ NB0_270.out _) | exact HI0.out))) : g ≠ gb276)); have n13_ := Aside0.mk ((by rw [hg]; exact Nat.ne_of_gt (IsS96.lt (show IsS96 w0 _ g s0_0 t275 from by repeat (first | (with_reducible first | exact HI0.out | apply IsS96.alloc | apply IsS96.drewN | apply IsS96.drew | apply IsS96.set_1 | refine IsS96.far ?_ NB0_269.out _ | refine IsS96.far ?_ NB0_270.out _) | exact HI0.out))) : gb276 ≠ g)); clear HI0; clear BK269; clear BK270; clear HK; clear HB; have HI0 := n0_; have BK269 := n1_; have BK270 := n2_; have HK := n3_; have HB := n4_; have BK276 := n5_; have GW276 := n6_; have GE276 := n7_; have NB269_276 := n8_; have NB276_269 := n9_; have NB270_276 := n10_; have NB276_270 := n11_; have NB0_276 := n12_; have NB276_0 := n13_; clear n0_ n1_ n2_ n3_ n4_ n5_ n6_ n7_ n8_ n9_ n10_ n11_ n12_ n13_; clear hb hbox hg; have hnb109 := NB276_269.out; have hnc109 := NB269_276.out; have hnb110 := NB276_270.out; have hnc110 := NB270_276.out; have hnb111 := NB276_0.out; have hnc111 := NB0_276.out; have hcz112_0 : w108.cell? ⟨gb276, 0, none⟩ = some (.int .i64 0) := bc_; have hcz112_1 : w108.cell? ⟨gb276, 1, none⟩ = some (.int .i64 0) := bc_; have hcz112_2 : w108.cell? ⟨gb276, 2, none⟩ = some (.int .i64 0) := bc_; have hcz112_3 : w108.cell? ⟨gb276, 3, none⟩ = some (.int .i64 0) := bc_; have hfz112_0 := blk_frozen BK276.out 0; have hfz112_1 := blk_frozen BK276.out 1; have hfz112_2 := blk_frozen BK276.out 2; have hfz112_3 := blk_frozen BK276.out 3) | ((with_reducible refine gate_callee (f := 51) rfl ?_); refine goesL_ (some 11) rfl rfl Tryd.func51 (by kernel_rfl) rfl #[.pointer (some ⟨g, 0, none⟩)] rfl ma_ ?_; (with_reducible refine (spec_l71Pt.calls k g s0_0 t275 t277 t278 t279 w0 _ ?side1 ?side2 A3.out).mono ?_); (case side1 => repeat (first | (with_reducible first | exact HI0.out | apply IsS96.alloc | apply IsS96.drewN | apply IsS96.drew | apply IsS96.set_1 | refine IsS96.far ?_ NB0_269.out _ | refine IsS96.far ?_ NB0_270.out _ | refine IsS96.far ?_ NB0_276.out _) | exact HI0.out)); (case side2 => repeat (first | (with_reducible first | exact HB.out | apply below_alloc | apply pw_below_drewN | apply below_drew1 | refine below_set ?_ (IsS96.ge HI0.out) | refine below_set ?_ GE269.out | refine below_set ?_ GE270.out | refine below_set ?_ GE276.out) | exact HB.out)); rintro e w113 ⟨rfl, hi, hb, hk⟩; refine ⟨_, rfl, ?_⟩; have n0_ := Aside0.mk (KeepBut.blk hk (g' := gb269) (o := .cells #[.int .i64 0, .int .i64 0, .int .i64 0, .int .i64 0] 40 (0, 0)) (by (with_reducible repeat (first | refine blk_drewN ?_ _ | refine blk_drew ?_ | refine blk_alloc ?_ _)); refine blk_far ?_ NB269_276.out _; (with_reducible repeat (first | refine blk_drewN ?_ _ | refine blk_drew ?_ | refine blk_alloc ?_ _)); refine blk_far ?_ NB269_276.out _; (with_reducible repeat (first | refine blk_drewN ?_ _ | refine blk_drew ?_ | refine blk_alloc ?_ _)); refine blk_far ?_ NB269_276.out _; (with_reducible repeat (first | refine blk_drewN ?_ _ | refine blk_drew ?_ | refine blk_alloc ?_ _)); refine blk_far ?_ NB269_276.out _; (with_reducible repeat (first | refine blk_drewN ?_ _ | refine blk_drew ?_ | refine blk_alloc ?_ _)); exact BK269.out) NB269_0.out (by simp)); have n1_ := Aside0.mk (KeepBut.blk hk (g' := gb270) (o := .cells #[.int .i64 0, .int .i64 0] 38 (0, 0)) (by (with_reducible repeat (first | refine blk_drewN ?_ _ | refine blk_drew ?_ | refine blk_alloc ?_ _)); refine blk_far ?_ NB270_276.out _; (with_reducible repeat (first | refine blk_drewN ?_ _ | refine blk_drew ?_ | refine blk_alloc ?_ _)); refine blk_far ?_ NB270_276.out _; (with_reducible repeat (first | refine blk_drewN ?_ _ | refine blk_drew ?_ | refine blk_alloc ?_ _)); refine blk_far ?_ NB270_276.out _; (with_reducible repeat (first | refine blk_drewN ?_ _ | refine blk_drew ?_ | refine blk_alloc ?_ _)); refine blk_far ?_ NB270_276.out _; (with_reducible repeat (first | refine blk_drewN ?_ _ | refine blk_drew ?_ | refine blk_alloc ?_ _)); exact BK270.out) NB270_0.out (by simp)); have n2_ := Aside0.mk (KeepBut.blk hk (g' := gb276) (o := .cells #[.int .i64 t271, .int .i64 t272, .int .i64 t273, .int .i64 t274] 40 (0, 0)) (by (with_reducible repeat (first | refine blk_drewN ?_ _ | refine blk_drew ?_ | refine blk_alloc ?_ _)); refine blk_put (cs := #[.int .i64 t271, .int .i64 t272, .int .i64 t273, .int .i64 0]) ?_ 3 _ rfl; (with_reducible repeat (first | refine blk_drewN ?_ _ | refine blk_drew ?_ | refine blk_alloc ?_ _)); refine blk_put (cs := #[.int .i64 t271, .int .i64 t272, .int .i64 0, .int .i64 0]) ?_ 2 _ rfl; (with_reducible repeat (first | refine blk_drewN ?_ _ | refine blk_drew ?_ | refine blk_alloc ?_ _)); refine blk_put (cs := #[.int .i64 t271, .int .i64 0, .int .i64 0, .int .i64 0]) ?_ 1 _ rfl; (with_reducible repeat (first | refine blk_drewN ?_ _ | refine blk_drew ?_ | refine blk_alloc ?_ _)); refine blk_put (cs := #[.int .i64 0, .int .i64 0, .int .i64 0, .int .i64 0]) ?_ 0 _ rfl; (with_reducible repeat (first | refine blk_drewN ?_ _ | refine blk_drew ?_ | refine blk_alloc ?_ _)); exact BK276.out) NB276_0.out (by simp)); have n3_ := Aside0.mk (KeepBut.trans (by repeat (first | (with_reducible first | exact HK.out | apply KeepBut.set_ | apply keep_drewN | apply keep_drew | apply keep_alloc | refine keep_far ?_ GW269.out _ | refine keep_far ?_ GW270.out _ | refine keep_far ?_ GW276.out _) | exact HK.out)) hk (.inl rfl)); have n4_ := Aside0.mk (hb); have n5_ := Aside0.mk (hi); clear BK269; clear BK270; clear BK276; clear HK; clear HB; clear HI0; have BK269 := n0_; have BK270 := n1_; have BK276 := n2_; have HK := n3_; have HB := n4_; have HI0 := n5_; clear n0_ n1_ n2_ n3_ n4_ n5_; (try clear hb); (try clear hb2); (try clear hk); (try clear hi)) | ((with_reducible refine gate_dst (N := 5) rfl ?_); refine box_event ?hg (N := 5) ?hd (cs := #[.int .i64 0, .int .i64 0]) (t := 38) ?hr ?_; (case hd => rfl); (case hg => rfl); (case hr => first | (go_simp; done) | (go_simp; rfl)); intro gb280 hg w114 hbox hb; have n0_ := Aside0.mk (IsS96.below (by repeat (first | (with_reducible first | exact HI0.out | apply IsS96.alloc | apply IsS96.drewN | apply IsS96.drew | apply IsS96.set_1 | refine IsS96.far ?_ NB0_269.out _ | refine IsS96.far ?_ NB0_270.out _ | refine IsS96.far ?_ NB0_276.out _) | exact HI0.out)) hb); have n1_ := Aside0.mk (ub_ (g := gb269) hb); have n2_ := Aside0.mk (ub_ (g := gb270) hb); have n3_ := Aside0.mk (ub_ (g := gb276) hb); have n4_ := Aside0.mk (KeepBut.trans (by repeat (first | (with_reducible first | exact HK.out | apply KeepBut.set_ | apply keep_drewN | apply keep_drew | apply keep_alloc | refine keep_far ?_ GW269.out _ | refine keep_far ?_ GW270.out _ | refine keep_far ?_ GW276.out _) | exact HK.out)) (KeepBut.of_below hb g none) (.inl rfl)); have n5_ := Aside0.mk (below_step (by repeat (first | (with_reducible first | exact HB.out | apply below_alloc | apply pw_below_drewN | apply below_drew1 | refine below_set ?_ (IsS96.ge HI0.out) | refine below_set ?_ GE269.out | refine below_set ?_ GE270.out | refine below_set ?_ GE276.out) | exact HB.out)) hb); have n6_ := Aside0.mk (hbox); have n7_ := Aside0.mk ((by rw [hg]; exact (keep_size (w := w) (g := g) (row := none) (by repeat (first | (with_reducible first | exact HK.out | apply KeepBut.set_ | apply keep_drewN | apply keep_drew | apply keep_alloc | refine keep_far ?_ GW269.out _ | refine keep_far ?_ GW270.out _ | refine keep_far ?_ GW276.out _) | exact HK.out))) : w.heap.size ≤ gb280)); have n8_ := Aside0.mk ((Nat.le_trans HW0.out (by rw [hg]; exact (keep_size (w := w) (g := g) (row := none) (by repeat (first | (with_reducible first | exact HK.out | apply KeepBut.set_ | apply keep_drewN | apply keep_drew | apply keep_alloc | refine keep_far ?_ GW269.out _ | refine keep_far ?_ GW270.out _ | refine keep_far ?_ GW276.out _) | exact HK.out))) : w.heap.size ≤ gb280) : w0.heap.size ≤ gb280)); have n9_ := Aside0.mk ((by rw [hg]; exact Nat.ne_of_lt (blk_lt (g := gb269) (o := .cells #[.int .i64 0, .int .i64 0, .int .i64 0, .int .i64 0] 40 (0, 0)) uq_) : gb269 ≠ gb280)); have n10_ := Aside0.mk ((by rw [hg]; exact Nat.ne_of_gt (blk_lt (g := gb269) (o := .cells #[.int .i64 0, .int .i64 0, .int .i64 0, .int .i64 0] 40 (0, 0)) uq_) : gb280 ≠ gb269)); have n11_ := Aside0.mk ((by rw [hg]; exact Nat.ne_of_lt (blk_lt (g := gb270) (o := .cells #[.int .i64 0, .int .i64 0] 38 (0, 0)) uq_) : gb270 ≠ gb280)); have n12_ := Aside0.mk ((by rw [hg]; exact Nat.ne_of_gt (blk_lt (g := gb270) (o := .cells #[.int .i64 0, .int .i64 0] 38 (0, 0)) uq_) : gb280 ≠ gb270)); have n13_ := Aside0.mk ((by rw [hg]; exact Nat.ne_of_lt (blk_lt (g := gb276) (o := .cells #[.int .i64 t271, .int .i64 t272, .int .i64 t273, .int .i64 t274] 40 (0, 0)) uq_) : gb276 ≠ gb280)); have n14_ := Aside0.mk ((by rw [hg]; exact Nat.ne_of_gt (blk_lt (g := gb276) (o := .cells #[.int .i64 t271, .int .i64 t272, .int .i64 t273, .int .i64 t274] 40 (0, 0)) uq_) : gb280 ≠ gb276)); have n15_ := Aside0.mk ((by rw [hg]; exact Nat.ne_of_lt (IsS96.lt (show IsS96 w0 _ g s0_0 t279 from by repeat (first | (with_reducible first | exact HI0.out | apply IsS96.alloc | apply IsS96.drewN | apply IsS96.drew | apply IsS96.set_1 | refine IsS96.far ?_ NB0_269.out _ | refine IsS96.far ?_ NB0_270.out _ | refine IsS96.far ?_ NB0_276.out _) | exact HI0.out))) : g ≠ gb280)); have n16_ := Aside0.mk ((by rw [hg]; exact Nat.ne_of_gt (IsS96.lt (show IsS96 w0 _ g s0_0 t279 from by repeat (first | (with_reducible first | exact HI0.out | apply IsS96.alloc | apply IsS96.drewN | apply IsS96.drew | apply IsS96.set_1 | refine IsS96.far ?_ NB0_269.out _ | refine IsS96.far ?_ NB0_270.out _ | refine IsS96.far ?_ NB0_276.out _) | exact HI0.out))) : gb280 ≠ g)); clear HI0; clear BK269; clear BK270; clear BK276; clear HK; clear HB; have HI0 := n0_; have BK269 := n1_; have BK270 := n2_; have BK276 := n3_; have HK := n4_; have HB := n5_; have BK280 := n6_; have GW280 := n7_; have GE280 := n8_; have NB269_280 := n9_; have NB280_269 := n10_; have NB270_280 := n11_; have NB280_270 := n12_; have NB276_280 := n13_; have NB280_276 := n14_; have NB0_280 := n15_; have NB280_0 := n16_; clear n0_ n1_ n2_ n3_ n4_ n5_ n6_ n7_ n8_ n9_ n10_ n11_ n12_ n13_ n14_ n15_ n16_; clear hb hbox hg; have hnb115 := NB280_269.out; have hnc115 := NB269_280.out; have hnb116 := NB280_270.out; have hnc116 := NB270_280.out; have hnb117 := NB280_276.out; have hnc117 := NB276_280.out; have hnb118 := NB280_0.out; have hnc118 := NB0_280.out; have hcz119_0 : w114.cell? ⟨gb280, 0, none⟩ = some (.int .i64 0) := bc_; have hcz119_1 : w114.cell? ⟨gb280, 1, none⟩ = some (.int .i64 0) := bc_; have hfz119_0 := blk_frozen BK280.out 0; have hfz119_1 := blk_frozen BK280.out 1) | ((with_reducible refine gate_callee (f := 48) rfl ?_); refine goesL_ (some 13) rfl rfl Tryd.func48 (by kernel_rfl) rfl #[.pointer (some ⟨g, 0, none⟩), .int .i64 3] rfl ma_ ?_; (with_reducible refine (spec_l6Rd_pick.calls k g s0_0 t279 3 t281 t282 w0 _ ?side1 ?side2 A4.out).mono ?_); (case side1 => repeat (first | (with_reducible first | exact HI0.out | apply IsS96.alloc | apply IsS96.drewN | apply IsS96.drew | apply IsS96.set_1 | refine IsS96.far ?_ NB0_269.out _ | refine IsS96.far ?_ NB0_270.out _ | refine IsS96.far ?_ NB0_276.out _ | refine IsS96.far ?_ NB0_280.out _) | exact HI0.out)); (case side2 => repeat (first | (with_reducible first | exact HB.out | apply below_alloc | apply pw_below_drewN | apply below_drew1 | refine below_set ?_ (IsS96.ge HI0.out) | refine below_set ?_ GE269.out | refine below_set ?_ GE270.out | refine below_set ?_ GE276.out | refine below_set ?_ GE280.out) | exact HB.out)); rintro e w120 ⟨rfl, hi, hb, hk⟩; refine ⟨_, rfl, ?_⟩; have n0_ := Aside0.mk (KeepBut.blk hk (g' := gb269) (o := .cells #[.int .i64 0, .int .i64 0, .int .i64 0, .int .i64 0] 40 (0, 0)) (by (with_reducible repeat (first | refine blk_drewN ?_ _ | refine blk_drew ?_ | refine blk_alloc ?_ _)); refine blk_far ?_ NB269_280.out _; (with_reducible repeat (first | refine blk_drewN ?_ _ | refine blk_drew ?_ | refine blk_alloc ?_ _)); refine blk_far ?_ NB269_280.out _; (with_reducible repeat (first | refine blk_drewN ?_ _ | refine blk_drew ?_ | refine blk_alloc ?_ _)); exact BK269.out) NB269_0.out (by simp)); have n1_ := Aside0.mk (KeepBut.blk hk (g' := gb270) (o := .cells #[.int .i64 0, .int .i64 0] 38 (0, 0)) (by (with_reducible repeat (first | refine blk_drewN ?_ _ | refine blk_drew ?_ | refine blk_alloc ?_ _)); refine blk_far ?_ NB270_280.out _; (with_reducible repeat (first | refine blk_drewN ?_ _ | refine blk_drew ?_ | refine blk_alloc ?_ _)); refine blk_far ?_ NB270_280.out _; (with_reducible repeat (first | refine blk_drewN ?_ _ | refine blk_drew ?_ | refine blk_alloc ?_ _)); exact BK270.out) NB270_0.out (by simp)); have n2_ := Aside0.mk (KeepBut.blk hk (g' := gb276) (o := .cells #[.int .i64 t271, .int .i64 t272, .int .i64 t273, .int .i64 t274] 40 (0, 0)) (by (with_reducible repeat (first | refine blk_drewN ?_ _ | refine blk_drew ?_ | refine blk_alloc ?_ _)); refine blk_far ?_ NB276_280.out _; (with_reducible repeat (first | refine blk_drewN ?_ _ | refine blk_drew ?_ | refine blk_alloc ?_ _)); refine blk_far ?_ NB276_280.out _; (with_reducible repeat (first | refine blk_drewN ?_ _ | refine blk_drew ?_ | refine blk_alloc ?_ _)); exact BK276.out) NB276_0.out (by simp)); have n3_ := Aside0.mk (KeepBut.blk hk (g' := gb280) (o := .cells #[.int .i64 t277, .int .i64 t278] 38 (0, 0)) (by (with_reducible repeat (first | refine blk_drewN ?_ _ | refine blk_drew ?_ | refine blk_alloc ?_ _)); refine blk_put (cs := #[.int .i64 t277, .int .i64 0]) ?_ 1 _ rfl; (with_reducible repeat (first | refine blk_drewN ?_ _ | refine blk_drew ?_ | refine blk_alloc ?_ _)); refine blk_put (cs := #[.int .i64 0, .int .i64 0]) ?_ 0 _ rfl; (with_reducible repeat (first | refine blk_drewN ?_ _ | refine blk_drew ?_ | refine blk_alloc ?_ _)); exact BK280.out) NB280_0.out (by simp)); have n4_ := Aside0.mk (KeepBut.trans (by repeat (first | (with_reducible first | exact HK.out | apply KeepBut.set_ | apply keep_drewN | apply keep_drew | apply keep_alloc | refine keep_far ?_ GW269.out _ | refine keep_far ?_ GW270.out _ | refine keep_far ?_ GW276.out _ | refine keep_far ?_ GW280.out _) | exact HK.out)) hk (.inl rfl)); have n5_ := Aside0.mk (hb); have n6_ := Aside0.mk (hi); clear BK269; clear BK270; clear BK276; clear BK280; clear HK; clear HB; clear HI0; have BK269 := n0_; have BK270 := n1_; have BK276 := n2_; have BK280 := n3_; have HK := n4_; have HB := n5_; have HI0 := n6_; clear n0_ n1_ n2_ n3_ n4_ n5_ n6_; (try clear hb); (try clear hb2); (try clear hk); (try clear hi)))
  have n0_ := Aside0.mk (blk_drew BK269.out)
  have n1_ := Aside0.mk (blk_drew BK270.out)
  have n2_ := Aside0.mk (blk_drew BK276.out)
  have n3_ := Aside0.mk (blk_drew BK280.out)
  have n4_ := Aside0.mk (IsS96.drew HI0.out)
  have n5_ := Aside0.mk (keep_drew HK.out)
  have n6_ := Aside0.mk (below_drew1 HB.out)
  clear BK269 BK270 BK276 BK280 HI0 HK HB
  have BK269 := n0_
  have BK270 := n1_
  have BK276 := n2_
  have BK280 := n3_
  have HI0 := n4_
  have HK := n5_
  have HB := n6_
  clear n0_ n1_ n2_ n3_ n4_ n5_ n6_
  refine start_ (n := 4) (S := fun w' => w'.cell? ⟨gb276, 0, none⟩ = some (.int .i64 t271) ∧ w'.cell? ⟨gb276, 1, none⟩ = some (.int .i64 t272) ∧ w'.cell? ⟨gb276, 2, none⟩ = some (.int .i64 t273) ∧ w'.cell? ⟨gb276, 3, none⟩ = some (.int .i64 t274) ∧ w'.cell? ⟨gb280, 0, none⟩ = some (.int .i64 t277) ∧ w'.cell? ⟨gb280, 1, none⟩ = some (.int .i64 t278)) (ds := []) #[false, false, false, false] (by kernel_rfl) rfl rfl ⟨bc_, bc_, bc_, bc_, bc_, bc_⟩ (fun hHeld => ?_)
  generalize w120.drew = w121 at BK269 BK270 BK276 BK280 HI0 HK HB hHeld ⊢
  refine take_ (i := 0) (N := some 78) (v := ?_) (a' := ?_) #[true, false, false, false] rfl rfl (by kernel_rfl) (fun _ _ _ h => h) (Or.inl ⟨by rfl, ?_⟩) hHeld ?_ ?_
  rotate_left
  ·
   rintro w' ⟨s0, s1, s2, s3, s4, s5⟩
   go_simp
   with_reducible rfl
  rotate_left
  ·
   simp only [Act.put, List.setIfInBounds_toArray, List.set_cons_zero, List.set_cons_succ, i64_w, i32_w]
   rfl
  refine take_ (i := 1) (N := some 79) (v := ?_) (a' := ?_) #[true, true, false, false] rfl rfl (by kernel_rfl) (fun _ _ _ h => h) (Or.inl ⟨by rfl, ?_⟩) hHeld ?_ ?_
  rotate_left
  ·
   rintro w' ⟨s0, s1, s2, s3, s4, s5⟩
   go_simp
   with_reducible rfl
  rotate_left
  ·
   simp only [Act.put, List.setIfInBounds_toArray, List.set_cons_zero, List.set_cons_succ, i64_w, i32_w]
   rfl
  refine one_ (i := 2) (N := none) #[true, true, true, false] rfl rfl (by kernel_rfl) (by decide) (fun K hK => ?_)
  have hs122 : w121.cell? ⟨gb269, 0, none⟩ = some (.int .i64 0) := bc_
  have hfs122 := blk_frozen BK269.out 0
  have hns122_1 := NB270_269.out
  have hns122_2 := NB276_269.out
  have hns122_3 := NB280_269.out
  have hms122_1 := NB269_270.out
  have hms122_2 := NB269_276.out
  have hms122_3 := NB269_280.out
  have hs123 : w121.cell? ⟨gb269, 1, none⟩ = some (.int .i64 0) := bc_
  have hfs123 := blk_frozen BK269.out 1
  have hns123_1 := NB270_269.out
  have hns123_2 := NB276_269.out
  have hns123_3 := NB280_269.out
  have hms123_1 := NB269_270.out
  have hms123_2 := NB269_276.out
  have hms123_3 := NB269_280.out
  have hs124 : w121.cell? ⟨gb269, 2, none⟩ = some (.int .i64 0) := bc_
  have hfs124 := blk_frozen BK269.out 2
  have hns124_1 := NB270_269.out
  have hns124_2 := NB276_269.out
  have hns124_3 := NB280_269.out
  have hms124_1 := NB269_270.out
  have hms124_2 := NB269_276.out
  have hms124_3 := NB269_280.out
  have hs125 : w121.cell? ⟨gb269, 3, none⟩ = some (.int .i64 0) := bc_
  have hfs125 := blk_frozen BK269.out 3
  have hns125_1 := NB270_269.out
  have hns125_2 := NB276_269.out
  have hns125_3 := NB280_269.out
  have hms125_1 := NB269_270.out
  have hms125_2 := NB269_276.out
  have hms125_3 := NB269_280.out
  refine skip_ (w1 := ?_) (by rfl) rfl ?_ ?_
  rotate_left
  ·
   go_simp
   rfl
  refine hK.out _ _ ⟨((cell_far (p := ⟨gb269, _, none⟩) NB276_269.out _).trans (((cell_far (p := ⟨gb269, _, none⟩) NB276_269.out _).trans (((cell_far (p := ⟨gb269, _, none⟩) NB276_269.out _).trans (((cell_far (p := ⟨gb269, _, none⟩) NB276_269.out _).trans (hHeld.1)))))))), ((cell_far (p := ⟨gb269, _, none⟩) NB276_269.out _).trans (((cell_far (p := ⟨gb269, _, none⟩) NB276_269.out _).trans (((cell_far (p := ⟨gb269, _, none⟩) NB276_269.out _).trans (((cell_far (p := ⟨gb269, _, none⟩) NB276_269.out _).trans (hHeld.2.1)))))))), ((cell_far (p := ⟨gb269, _, none⟩) NB276_269.out _).trans (((cell_far (p := ⟨gb269, _, none⟩) NB276_269.out _).trans (((cell_far (p := ⟨gb269, _, none⟩) NB276_269.out _).trans (((cell_far (p := ⟨gb269, _, none⟩) NB276_269.out _).trans (hHeld.2.2.1)))))))), ((cell_far (p := ⟨gb269, _, none⟩) NB276_269.out _).trans (((cell_far (p := ⟨gb269, _, none⟩) NB276_269.out _).trans (((cell_far (p := ⟨gb269, _, none⟩) NB276_269.out _).trans (((cell_far (p := ⟨gb269, _, none⟩) NB276_269.out _).trans (hHeld.2.2.2.1)))))))), ((cell_far (p := ⟨gb269, _, none⟩) NB280_269.out _).trans (((cell_far (p := ⟨gb269, _, none⟩) NB280_269.out _).trans (((cell_far (p := ⟨gb269, _, none⟩) NB280_269.out _).trans (((cell_far (p := ⟨gb269, _, none⟩) NB280_269.out _).trans (hHeld.2.2.2.2.1)))))))), ((cell_far (p := ⟨gb269, _, none⟩) NB280_269.out _).trans (((cell_far (p := ⟨gb269, _, none⟩) NB280_269.out _).trans (((cell_far (p := ⟨gb269, _, none⟩) NB280_269.out _).trans (((cell_far (p := ⟨gb269, _, none⟩) NB280_269.out _).trans (hHeld.2.2.2.2.2))))))))⟩ (fun hHeld => ?_)
  clear hK K
  refine one_ (i := 3) (N := none) #[true, true, true, true] rfl rfl (by kernel_rfl) (by decide) (fun K hK => ?_)
  have hs126 : w121.cell? ⟨gb270, 0, none⟩ = some (.int .i64 0) := bc_
  have hfs126 := blk_frozen BK270.out 0
  have hns126_0 := NB269_270.out
  have hns126_2 := NB276_270.out
  have hns126_3 := NB280_270.out
  have hms126_0 := NB270_269.out
  have hms126_2 := NB270_276.out
  have hms126_3 := NB270_280.out
  have hs127 : w121.cell? ⟨gb270, 1, none⟩ = some (.int .i64 0) := bc_
  have hfs127 := blk_frozen BK270.out 1
  have hns127_0 := NB269_270.out
  have hns127_2 := NB276_270.out
  have hns127_3 := NB280_270.out
  have hms127_0 := NB270_269.out
  have hms127_2 := NB270_276.out
  have hms127_3 := NB270_280.out
  refine skip_ (w1 := ?_) (by rfl) rfl ?_ ?_
  rotate_left
  ·
   go_simp
   rfl
  refine hK.out _ _ ⟨((cell_far (p := ⟨gb270, _, none⟩) NB276_270.out _).trans (((cell_far (p := ⟨gb270, _, none⟩) NB276_270.out _).trans (hHeld.1)))), ((cell_far (p := ⟨gb270, _, none⟩) NB276_270.out _).trans (((cell_far (p := ⟨gb270, _, none⟩) NB276_270.out _).trans (hHeld.2.1)))), ((cell_far (p := ⟨gb270, _, none⟩) NB276_270.out _).trans (((cell_far (p := ⟨gb270, _, none⟩) NB276_270.out _).trans (hHeld.2.2.1)))), ((cell_far (p := ⟨gb270, _, none⟩) NB276_270.out _).trans (((cell_far (p := ⟨gb270, _, none⟩) NB276_270.out _).trans (hHeld.2.2.2.1)))), ((cell_far (p := ⟨gb270, _, none⟩) NB280_270.out _).trans (((cell_far (p := ⟨gb270, _, none⟩) NB280_270.out _).trans (hHeld.2.2.2.2.1)))), ((cell_far (p := ⟨gb270, _, none⟩) NB280_270.out _).trans (((cell_far (p := ⟨gb270, _, none⟩) NB280_270.out _).trans (hHeld.2.2.2.2.2))))⟩ (fun hHeld => ?_)
  clear hK K
  refine done_ (by kernel_rfl) ?_
  try go_wp2
  refine bodyPost_ret (results_cc rfl _ _ gb269 gb270 40 38 #[.int .i64 t271, .int .i64 t272, .int .i64 t273, .int .i64 t274] #[.int .i64 t277, .int .i64 t278] (0, 0) (0, 0) _ _ rfl (by (with_reducible repeat (first | refine blk_drewN ?_ _ | refine blk_drew ?_ | refine blk_alloc ?_ _)); refine blk_far ?_ NB269_270.out _; (with_reducible repeat (first | refine blk_drewN ?_ _ | refine blk_drew ?_ | refine blk_alloc ?_ _)); refine blk_far ?_ NB269_270.out _; (with_reducible repeat (first | refine blk_drewN ?_ _ | refine blk_drew ?_ | refine blk_alloc ?_ _)); refine blk_put (cs := #[.int .i64 t271, .int .i64 t272, .int .i64 t273, .int .i64 0]) ?_ 3 _ rfl; (with_reducible repeat (first | refine blk_drewN ?_ _ | refine blk_drew ?_ | refine blk_alloc ?_ _)); refine blk_put (cs := #[.int .i64 t271, .int .i64 t272, .int .i64 0, .int .i64 0]) ?_ 2 _ rfl; (with_reducible repeat (first | refine blk_drewN ?_ _ | refine blk_drew ?_ | refine blk_alloc ?_ _)); refine blk_put (cs := #[.int .i64 t271, .int .i64 0, .int .i64 0, .int .i64 0]) ?_ 1 _ rfl; (with_reducible repeat (first | refine blk_drewN ?_ _ | refine blk_drew ?_ | refine blk_alloc ?_ _)); refine blk_put (cs := #[.int .i64 0, .int .i64 0, .int .i64 0, .int .i64 0]) ?_ 0 _ rfl; (with_reducible repeat (first | refine blk_drewN ?_ _ | refine blk_drew ?_ | refine blk_alloc ?_ _)); exact BK269.out) Tryd.underlying40 rfl (by kernel_rfl) rfl (by (with_reducible repeat (first | refine blk_drewN ?_ _ | refine blk_drew ?_ | refine blk_alloc ?_ _)); refine blk_put (cs := #[.int .i64 t277, .int .i64 0]) ?_ 1 _ rfl; (with_reducible repeat (first | refine blk_drewN ?_ _ | refine blk_drew ?_ | refine blk_alloc ?_ _)); refine blk_put (cs := #[.int .i64 0, .int .i64 0]) ?_ 0 _ rfl; (with_reducible repeat (first | refine blk_drewN ?_ _ | refine blk_drew ?_ | refine blk_alloc ?_ _)); refine blk_far ?_ NB270_269.out _; (with_reducible repeat (first | refine blk_drewN ?_ _ | refine blk_drew ?_ | refine blk_alloc ?_ _)); refine blk_far ?_ NB270_269.out _; (with_reducible repeat (first | refine blk_drewN ?_ _ | refine blk_drew ?_ | refine blk_alloc ?_ _)); refine blk_far ?_ NB270_269.out _; (with_reducible repeat (first | refine blk_drewN ?_ _ | refine blk_drew ?_ | refine blk_alloc ?_ _)); refine blk_far ?_ NB270_269.out _; (with_reducible repeat (first | refine blk_drewN ?_ _ | refine blk_drew ?_ | refine blk_alloc ?_ _)); exact BK270.out) Tryd.underlying38 rfl (by kernel_rfl)) rfl ?_
  exact ⟨by first | rfl | (simp [errW_none, errW_some] <;> rfl) | (simp [*, errW_none, errW_some] <;> rfl), by repeat (first | (with_reducible first | exact HI0.out | apply IsS96.alloc | apply IsS96.drewN | apply IsS96.drew | apply IsS96.set_1 | refine IsS96.far ?_ NB0_269.out _ | refine IsS96.far ?_ NB0_270.out _ | refine IsS96.far ?_ NB0_276.out _ | refine IsS96.far ?_ NB0_280.out _) | exact HI0.out), by repeat (first | (with_reducible first | exact HB.out | apply below_alloc | apply pw_below_drewN | apply below_drew1 | refine below_set ?_ (IsS96.ge HI0.out) | refine below_set ?_ GE269.out | refine below_set ?_ GE270.out | refine below_set ?_ GE276.out | refine below_set ?_ GE280.out) | exact HB.out), by repeat (first | (with_reducible first | exact HK.out | apply KeepBut.set_ | apply keep_drewN | apply keep_drew | apply keep_alloc | refine keep_far ?_ GW269.out _ | refine keep_far ?_ GW270.out _ | refine keep_far ?_ GW276.out _ | refine keep_far ?_ GW280.out _) | exact HK.out)⟩
end Go.Proofs.YtnponnkcfgjeoaaDoor.X
end
