/- FnFarEnds: the law returns true for every input, and each input reads behind the call as before; part 7 of 7. No condition. Merged by program out of: EvDraw, PureFnFarEnds, WSized, LawFnFarEnds. -/
import Derived.Test.YtnponnkcfgjeoaaDoorMFnFarEnds6
import Derived.SizedLaws
import Derived.ChangeSlices
import Derived.WalkKit
import Derived.ProofKit
import Derived.OpenShut
import Derived.ShutString
import Derived.ChangeOld
import Derived.Below
import Derived.SevenTiedAt
section
set_option linter.unusedVariables false
set_option linter.unusedSimpArgs false
namespace Go.Proofs.YtnponnkcfgjeoaaDoor.X
open Go.RowKit Go.Proofs.YtnponnkcfgjeoaaDoorW.PrintWords Go.Proofs.YtnponnkcfgjeoaaDoorW.PrintLast Go.Proofs.YtnponnkcfgjeoaaDoorW.PrintMore
open Mort
def small (x : Int) : Prop := -100 ≤ x ∧ x ≤ 100
theorem l71Pt_told {l : List Int} (hl : Bytes l) {p : Int} (hp : 0 ≤ p) (hp' : p ≤ 900000) :
    ∃ x y q, (∀ k, 1 ≤ k → spec_l71Pt.f k l p = some (x, y, q)) ∧ p ≤ q ∧ q ≤ p + 10 ∧ small x ∧ small y := by
  obtain ⟨r1, h1, a1, b1⟩ := pick_told hl (p := p) (n := 10) hp (by omega) (by omega) (by omega)
  obtain ⟨r2, h2, a2, b2⟩ := pick_told hl (p := p + 1) (n := 10) (by omega) (by omega) (by omega) (by omega)
  obtain ⟨r3, h3, a3, b3⟩ := pick_told hl (p := p + 1 + 1) (n := 40) (by omega) (by omega) (by omega) (by omega)
  obtain ⟨r4, h4, a4, b4⟩ := pick_told hl (p := p + 1 + 1 + 1) (n := 2) (by omega) (by omega) (by omega) (by omega)
  have hr : -1 ≤ rd [(-1), 10] r4 ∧ rd [(-1), 10] r4 ≤ 10 := by
    have : r4 = 0 ∨ r4 = 1 := by omega
    rcases this with rfl | rfl <;> decide
  unfold small
  by_cases z0 : r3 = 0
  · refine ⟨rd [(-1), 10] r4, r2, p + 1 + 1 + 1 + 1, fun k hk => ?_, by omega, by omega, by omega, by omega⟩
    unfold spec_l71Pt.f
    rw [h1 k hk]; simp only [Option.bind_some]
    rw [h2 k hk]; simp only [Option.bind_some]
    rw [h3 k hk]; simp only [Option.bind_some]
    rw [if_pos z0, h4 k hk]; simp only [Option.bind_some]
    rw [if_pos a4, if_pos (by simpa using b4)]
  · by_cases z1 : r3 = 1
    · refine ⟨r1, rd [(-1), 10] r4, p + 1 + 1 + 1 + 1, fun k hk => ?_, by omega, by omega, by omega, by omega⟩
      unfold spec_l71Pt.f
      rw [h1 k hk]; simp only [Option.bind_some]
      rw [h2 k hk]; simp only [Option.bind_some]
      rw [h3 k hk]; simp only [Option.bind_some]
      rw [if_neg z0, if_pos z1, h4 k hk]; simp only [Option.bind_some]
      rw [if_pos a4, if_pos (by simpa using b4)]
    · refine ⟨r1, r2, p + 1 + 1 + 1, fun k hk => ?_, by omega, by omega, by omega, by omega⟩
      unfold spec_l71Pt.f
      rw [h1 k hk]; simp only [Option.bind_some]
      rw [h2 k hk]; simp only [Option.bind_some]
      rw [h3 k hk]; simp only [Option.bind_some]
      rw [if_neg z0, if_neg z1]
theorem l71Seg_told {l : List Int} (hl : Bytes l) {p : Int} (hp : 0 ≤ p) (hp' : p ≤ 800000) :
    ∃ a b c d q, (∀ k, 1 ≤ k → spec_l71Seg.f k l p = some (a, b, c, d, q)) ∧ p ≤ q ∧ q ≤ p + 30 ∧ small a ∧ small b ∧ small c ∧ small d := by
  obtain ⟨a, b, q1, h1, c1, d1, s1, t1⟩ := l71Pt_told hl (p := p) hp (by omega)
  obtain ⟨c, d, q2, h2, c2, d2, s2, t2⟩ := l71Pt_told hl (p := q1) (by omega) (by omega)
  obtain ⟨r, h3, a3, b3⟩ := pick_told hl (p := q2) (n := 4) (by omega) (by omega) (by omega) (by omega)
  by_cases z : r = 0
  · refine ⟨a, b, c, b, q2 + 1, fun k hk => ?_, by omega, by omega, s1, t1, s2, t1⟩
    unfold spec_l71Seg.f
    rw [h1 k hk]; simp only [Option.bind_some]
    rw [h2 k hk]; simp only [Option.bind_some]
    rw [h3 k hk]; simp only [Option.bind_some]
    rw [if_pos z]
  · refine ⟨a, b, c, d, q2 + 1, fun k hk => ?_, by omega, by omega, s1, t1, s2, t2⟩
    unfold spec_l71Seg.f
    rw [h1 k hk]; simp only [Option.bind_some]
    rw [h2 k hk]; simp only [Option.bind_some]
    rw [h3 k hk]; simp only [Option.bind_some]
    rw [if_neg z]
theorem l71On_told {l : List Int} (hl : Bytes l) {p : Int} (hp : 0 ≤ p) (hp' : p ≤ 700000) :
    ∃ a b c d e f q, (∀ k, 1 ≤ k → spec_l71On.f k l p = some (a, b, c, d, e, f, q)) ∧ p ≤ q ∧ q ≤ p + 100 := by
  obtain ⟨a, b, c, d, q1, h1, c1, d1, _⟩ := l71Seg_told hl (p := p) hp (by omega)
  obtain ⟨e, f, q2, h2, c2, d2, _⟩ := l71Pt_told hl (p := q1) (by omega) (by omega)
  obtain ⟨r3, h3, a3, b3⟩ := pick_told hl (p := q2) (n := 3) (by omega) (by omega) (by omega) (by omega)
  by_cases z : r3 > 0
  · obtain ⟨r4, h4, a4, b4⟩ := pick_told hl (p := q2 + 1) (n := 5) (by omega) (by omega) (by omega) (by omega)
    obtain ⟨r5, h5, a5, b5⟩ := pick_told hl (p := q2 + 1 + 1) (n := 5) (by omega) (by omega) (by omega) (by omega)
    obtain ⟨r6, h6, a6, b6⟩ := pick_told hl (p := q2 + 1 + 1 + 1) (n := 3) (by omega) (by omega) (by omega) (by omega)
    obtain ⟨r7, h7, a7, b7⟩ := pick_told hl (p := q2 + 1 + 1 + 1 + 1) (n := 3) (by omega) (by omega) (by omega) (by omega)
    obtain ⟨r8, h8, a8, b8⟩ := pick_told hl (p := q2 + 1 + 1 + 1 + 1 + 1) (n := 2) (by omega) (by omega) (by omega) (by omega)
    have e8 : wrap64 (wrap64 (1 + r8) + 1) = 1 + r8 + 1 := by rw [w64 (x := 1 + r8) (by omega) (by omega), w64 (by omega) (by omega)]
    obtain ⟨r9, h9, a9, b9⟩ := pick_told hl (p := q2 + 1 + 1 + 1 + 1 + 1 + 1) (n := 1 + r8 + 1) (by omega) (by omega) (by omega) (by omega)
    obtain ⟨ra, ha, aa, ba⟩ := pick_told hl (p := q2 + 1 + 1 + 1 + 1 + 1 + 1 + 1) (n := 1 + r8 + 1) (by omega) (by omega) (by omega) (by omega)
    obtain ⟨rb, hb, ab, bb⟩ := pick_told hl (p := q2 + 1 + 1 + 1 + 1 + 1 + 1 + 1 + 1) (n := 2) (by omega) (by omega) (by omega) (by omega)
    have go : ∀ k, 1 ≤ k → spec_l71On.f k l p = if rb = 0 then _ else _ := fun k hk => by
      unfold spec_l71On.f
      rw [h1 k hk]; simp only [Option.bind_some]
      rw [h2 k hk]; simp only [Option.bind_some]
      rw [h3 k hk]; simp only [Option.bind_some]
      rw [if_pos z, h4 k hk]; simp only [Option.bind_some]
      rw [h5 k hk]; simp only [Option.bind_some]
      rw [h6 k hk]; simp only [Option.bind_some]
      rw [h7 k hk]; simp only [Option.bind_some]
      rw [h8 k hk]; simp only [Option.bind_some]
      rw [e8, h9 k hk]; simp only [Option.bind_some]
      rw [ha k hk]; simp only [Option.bind_some]
      rw [hb k hk]; simp only [Option.bind_some]
      rfl
    by_cases y : rb = 0
    · exact ⟨_, _, _, _, _, _, _, fun k hk => by rw [go k hk, if_pos y], by omega, by omega⟩
    · exact ⟨_, _, _, _, _, _, _, fun k hk => by rw [go k hk, if_neg y], by omega, by omega⟩
  · refine ⟨a, b, c, d, e, f, q2 + 1, fun k hk => ?_, by omega, by omega⟩
    unfold spec_l71On.f
    rw [h1 k hk]; simp only [Option.bind_some]
    rw [h2 k hk]; simp only [Option.bind_some]
    rw [h3 k hk]; simp only [Option.bind_some]
    rw [if_neg z]
theorem drawSegFar_told (l : List Int) (h : ∀ x ∈ l, (Lit.int .u8 x).wf = true) :
    ∃ a b c d e f : Int, ∀ k, 1 ≤ k → spec_DrawSegFar.f k l = some (a, b, c, d, e, f) := by
  obtain ⟨m, ho, hm⟩ := open_told l h
  obtain ⟨r, h1, a1, b1⟩ := pick_told hm (p := 0) (n := 3) (by omega) (by omega) (by omega) (by omega)
  by_cases z : r = 0
  · obtain ⟨a, b, c, d, e, f, q, h2, _⟩ := l71On_told hm (p := 0 + 1) (by omega) (by omega)
    refine ⟨a, b, c, d, e, f, fun k hk => ?_⟩
    unfold spec_DrawSegFar.f
    rw [ho]; simp only [Option.bind_some]
    rw [h1 k hk]; simp only [Option.bind_some]
    rw [if_pos z, h2 k hk]; simp only [Option.bind_some]
  · obtain ⟨a, b, c, d, q1, h2, c2, d2, _⟩ := l71Seg_told hm (p := 0 + 1) (by omega) (by omega)
    obtain ⟨e, f, q2, h3, c3, d3, _⟩ := l71Pt_told hm (p := q1) (by omega) (by omega)
    refine ⟨a, b, c, d, e, f, fun k hk => ?_⟩
    unfold spec_DrawSegFar.f
    rw [ho]; simp only [Option.bind_some]
    rw [h1 k hk]; simp only [Option.bind_some]
    rw [if_neg z, h2 k hk]; simp only [Option.bind_some]
    rw [h3 k hk]; simp only [Option.bind_some]
end Go.Proofs.YtnponnkcfgjeoaaDoor.X
end
section
set_option linter.unusedVariables false
namespace Go.Proofs.YtnponnkcfgjeoaaDoor.Pure
open Go.RowKit Go.Proofs.YtnponnkcfgjeoaaDoor.X Go.Proofs.YtnponnkcfgjeoaaDoorW.PrintWords Go.Proofs.YtnponnkcfgjeoaaDoorW.PrintLast
open Mort
theorem luSq_told {a b e f : Int} (h1 : ptOk (a, b) = true) (h2 : ptOk (e, f) = true) : laws_luSq.f a b e f = some (dot (a, b) (e, f) (e, f)) := by
  have h1 := (ptOk_iff _).1 h1
  have h2 := (ptOk_iff _).1 h2
  simp only at h1 h2
  unfold laws_luSq.f dot
  rw [w64 (x := a - e) (by omega) (by omega), w64 (x := b - f) (by omega) (by omega)]
  have b1 := mul_bound (x := a - e) (y := a - e) (by omega) (by omega) (by omega) (by omega)
  have b2 := mul_bound (x := b - f) (y := b - f) (by omega) (by omega) (by omega) (by omega)
  rw [w64 (x := (a - e) * (a - e)) (by omega) (by omega), w64 (x := (b - f) * (b - f)) (by omega) (by omega), w64 (by omega) (by omega)]
  simp only [Option.some.injEq]
  grind
theorem FnFarEnds : laws_FnFarEnds.Pure := by
  intro l _ _ hw
  obtain ⟨a, b, c, d, e, f, hd⟩ := drawSegFar_told l hw
  refine ⟨100000 + 1, ?_⟩
  unfold laws_FnFarEnds.f
  split
  · rfl
  rw [hd _ (by omega)]; simp only [Option.bind_some]
  rw [sSegFar (by omega)]
  unfold impl_SegFar.f
  simp only [Option.bind_some, beq_self_eq_true, Bool.not_true, Bool.or_self, Bool.false_eq_true, if_false, sSegOk, sPtOk]
  have bad : laws_FnFarEnds.j0 (100000 + 1) true a b c d e f (segFar ((a, b), (c, d)) (e, f)).1 (segFar ((a, b), (c, d)) (e, f)).2 = some true := by
    simp only [laws_FnFarEnds.j0, if_true, sSegFar (Nat.le_refl 100000), Option.bind_some, beq_self_eq_true, Bool.and_self]
  cases hs : segOk ((a, b), (c, d)) with
  | false => exact bad
  | true =>
    simp only [if_true]
    cases hp : ptOk (e, f) with
    | false => exact bad
    | true =>
      obtain ⟨o1, o2⟩ := segOk_ends hs
      have h := far_ends hs hp
      have ok := (segFar_ok hs hp).1
      have hb : segFar ((c, d), (a, b)) (e, f) = segFar ((a, b), (c, d)) (e, f) := segFar_back (s := ((a, b), (c, d))) hs hp
      simp only [laws_FnFarEnds.j0, Bool.not_true, Bool.false_eq_true, if_false, luSq_told o1 hp, luSq_told o2 hp, Option.bind_some,
        iFracOf1 (Nat.le_refl 100000) (dot_self_nn (a, b) (e, f)) (Int.le_trans (dot_bound o1 hp hp).2 (by decide)), iFracOf1 (Nat.le_refl 100000) (dot_self_nn (c, d) (e, f)) (Int.le_trans (dot_bound o2 hp hp).2 (by decide)), fracCmp_f]
      rw [if_pos h.1, if_pos h.2, fracOk_f]
      simp only [Option.bind_some]
      rw [if_pos ok]
      simp only [laws_luBack.f, impl_SegFar.f, Option.bind_some, hb, beq_self_eq_true, Bool.and_self]
end Go.Proofs.YtnponnkcfgjeoaaDoor.Pure
end
section
namespace Go.Proofs.YtnponnkcfgjeoaaDoorW.PrintWords
open Go.ChangeShapes Go.WideShapes
/-- A row's slice of whole numbers is no longer than its weight allows. -/
theorem sized_ints {H : Type} {enc : TypeId × Value → H} {P : Program} {W : World} {base : Nat} {spare : Nat → Bool} {held : Bool} {t e : TypeId} {k : IntKind} {a : Option Addr} {len cap : Nat} {d : DataW H} {ps : List MemPlace} {ts : List TypeId} {ds : List (DataW H)} {j : Nat}
    (hsz : (DataW.weightsEach P ts ds).all (· ≤ reachBytes) = true) (ht : ts[j]? = some t) (hd : ds[j]? = some d) (hu : P.underlying t = some (.slice e)) (he : P.underlying e = some (.int k)) (hc : P.cellsOf e = 1) {B : Nat} (hB : P.bytesOf e = B)
    (h : DataW.Trod enc P W base spare held t (.slice a len cap) d ps) : len * B ≤ 140737488351232 := by
  obtain ⟨fuel, hf⟩ := h
  rcases open_ints hu he hc hf with ⟨hcs, _⟩ | ⟨x, l, c, zs, hcs, _, hl, _, hz, hx, _, _⟩
  · simp [Value.cells] at hcs
    obtain ⟨rfl, rfl, rfl⟩ := hcs
    simp
  · simp [Value.cells] at hcs
    obtain ⟨rfl, rfl, rfl⟩ := hcs
    obtain ⟨hx, _⟩ := Prod.mk.inj hx
    subst hx
    have z := sized_slice hsz ht hd hu
    rw [hB] at z
    have hl2 : len ≤ zs.length := by
      rw [hz]
      split
      · exact hl
      · exact Nat.le_refl _
    have h1 : (lits (H := H) k (zs.take len)).length + (lits (H := H) k (zs.drop len)).length = zs.length := by
      simp [lits]
      omega
    rw [h1] at z
    exact Nat.le_trans (Nat.mul_le_mul_right _ hl2) z
end Go.Proofs.YtnponnkcfgjeoaaDoorW.PrintWords
end
section
set_option linter.unusedVariables false
namespace Go.Proofs.YtnponnkcfgjeoaaDoor.fnFarEnds
open Go Go.ChangeShapes Go.WideShapes Go.ChangeAt Go.RowKit Go.Proofs.YtnponnkcfgjeoaaDoorW
open Go.ChangeMaps (open_string shut_string)
def IsRow (k : IntKind) (w : World) (a : Option Addr) (len cap : Nat) (zs : List Int) : Prop :=
  (a = none ∧ len = 0 ∧ cap = 0 ∧ zs = []) ∨
  ∃ x, a = some x ∧ len ≤ cap ∧ cap ≤ maxLen ∧ zs.length = cap ∧ (∀ i, i < zs.length → w.cell? (x.add i) = some (.int k (zs.getD i 0))) ∧ ∀ n ∈ zs, (Lit.int k n).wf = true
set_option maxRecDepth 100000 in
theorem lifted (os : Os) (started : os.Started) (H : Type) (enc : TypeId × Value → H) :
    ReturnsInHanded {} Tryd.checked os 11 .any (fun w args => (Rows.fnFarEndsSpec.pre enc Tryd.prog Tryd.f11 [] false w args ∧ laidMet Tryd.prog laidErr w) ∧ sizedMet enc Tryd.prog Tryd.f11 (OpenSpec.ofChange Rows.fnFarEndsSpec) false w args) (Rows.fnFarEndsSpec.post enc Tryd.prog Tryd.f11 false true false false) := by
  refine returnsInHanded_of_change_and (C := Tryd.checked) (X := fun w _ => laidMet Tryd.prog laidErr w) (fun _ _ _ hh h => h.of_heap hh) own started (by kernel_rfl) Tryd.func11
    (ChangeSpec.witness_at (enc := enc) (C := Tryd.checked) (os := os) (X := fun w _ => laidMet Tryd.prog laidErr w) false (laidWorld os) #[.slice none 0 0] 8 rfl (by kernel_rfl) (by kernel_rfl) (by kernel_rfl) (by kernel_rfl) (by kernel_rfl) (laidWorld_met os _)) ?_
  intro W base args ds gs before hval0 hW hcnd hsz0 hL _
  have hsz : (DataW.weightsEach Tryd.prog (Tryd.f11.params.toList ++ Rows.fnFarEndsSpec.plain.varTypes Tryd.prog) (ds ++ gs)).all (· ≤ reachBytes) = true := hsz0
  have hval : ∀ (j : Nat) t v, Tryd.f11.params[j]? = some t → args[j]? = some v → Value.okWide Tryd.prog W .any base t v := hval0
  have hW' := hW
  obtain ⟨p, q, hA0, hV0, rfl, hfz, hnd⟩ := hW
  have hA : DataW.TrodAll enc Tryd.prog W 0 (fun _ => true) true Tryd.f11.params.toList args.toList ds p := hA0
  have hV : DataW.TrodVars enc Tryd.prog W (fun _ => true) ["loop.example/mortiser/impl.errNoFrac"] gs q := hV0
  rw [Tryd.params11] at hA hval hsz
  obtain ⟨v0, vs0, d0, ds0, p0, q0, hargs, rfl, rfl, h0, r0⟩ := trodAll_cons hA
  obtain ⟨rfl, rfl, rfl⟩ := trodAll_nil r0
  obtain rfl : args = #[v0] := by cases args; simp_all
  obtain ⟨a, st, hv, hcs, hs0, hz0⟩ := err_of_laid hL
  obtain ⟨rfl, rfl⟩ := hV.unique (errVars enc hv trivial _)
  have hE : ErrW W := ErrW.of_var hv
  obtain ⟨a0, len0, cap0, rfl⟩ := okWide_slice Tryd.underlying28 (hval 0 28 v0 rfl rfl)
  have k0 := h0
  have lt0 : ∀ x ∈ p0, x.block < W.heap.size := by obtain ⟨m, hm⟩ := k0; exact DataW.trod_lt m _ _ _ hm
  obtain ⟨z0, w0⟩ : ∃ zs, IsRow .u8 W a0 len0 cap0 zs := by
    obtain ⟨fuel, hf⟩ := h0
    rcases open_ints Tryd.underlying28 Tryd.underlying5 (by kernel_rfl) hf with ⟨hcs, _⟩ | ⟨x, l, c, zs, hcs, _, hl, hm, hz, _, hcell, hwz⟩
    · simp [Value.cells] at hcs
      obtain ⟨rfl, rfl, rfl⟩ := hcs
      exact ⟨[], .inl ⟨rfl, rfl, rfl, rfl⟩⟩
    · simp [Value.cells] at hcs
      obtain ⟨rfl, rfl, rfl⟩ := hcs
      exact ⟨zs, .inr ⟨_, rfl, hl, hm, by simpa using hz, hcell, hwz⟩⟩
  have y0 : len0 * 1 ≤ 140737488351232 := PrintWords.sized_ints hsz (j := 0) (t := 28) rfl rfl Tryd.underlying28 Tryd.underlying5 (by kernel_rfl) (by kernel_rfl) h0
  clear hA0 hval0 hsz0 hsz
  refine (X.laws_FnFarEnds.walk Pure.FnFarEnds a0 len0 cap0 z0 W hE w0 y0).mono fun e W' ⟨he, bel⟩ => ?_
  subst he
  exact ⟨_, rfl, _, _, _, [], _, [.cell 0 0], hW', trodAll_mk1 (shut_bool Tryd.underlying4 _), (trodAll_cons_mk (Below.trod laidOut (by kernel_rfl) (of_decide_eq_true (by kernel_rfl)) k0 bel lt0) trodAll_mk0), errVars enc (errBelow bel hv) trivial _, bel.frame _, fun h => by cases h⟩
theorem over : Rows.fnFarEndsRow.holds Tryd.pinned (OpenSpec.ofChange Rows.fnFarEndsSpec) :=
  OpenClaim.holds_of_wide 11 Tryd.f11 rfl rfl rfl rfl rfl rfl rfl ⟨rfl, rfl, rfl, rfl, rfl⟩ rfl rfl rfl rfl rfl (by kernel_rfl) Tryd.func11 (by kernel_rfl)
    (of_decide_eq_true (by kernel_rfl)) (by unfold Func.isWrapper; first | (rw [if_pos (by decide +kernel)]; kernel_rfl) | (rw [if_neg (by decide +kernel)]; exact ⟨rfl, rfl⟩))
    (fun os started H enc _ => lifted os started H enc)
theorem proved : Rows.FnFarEndsCardSaid :=
  Claim7.holds_tied_plain_at .later [] [.sentinel] true (true, "367200faf2c18a8d3acd0cadfc4f4a0300d2711da9ddbae6489321d2dd8a2082") true
    over (fun _ h => by cases h) (by kernel_rfl) (fun _ h => by cases h) fnFarEnds_row_tie rfl ⟨rfl, rfl⟩ (by kernel_rfl) rfl
    (fun f fn hf hfn => by
      obtain rfl : f = 11 := Option.some.inj ((show Tryd.prog.funcNamed "loop.example/mortiser/laws.FnFarEnds" = some 11 by kernel_rfl).symm.trans hf) |>.symm
      obtain rfl : fn = Tryd.f11 := (Option.some.inj (Tryd.func11.symm.trans hfn)).symm
      exact ⟨by kernel_rfl, fun j t ht => by
        rw [Tryd.params11] at ht
        have h3 : t = 28 := by
          rcases j with _ | j
          · simpa using ht.symm
          · simp at ht
        subst h3
        exact (show Tryd.prog.wantsStandIn 28 = false by kernel_rfl)⟩)
    (by kernel_rfl)
end Go.Proofs.YtnponnkcfgjeoaaDoor.fnFarEnds
namespace Go.Proofs.YtnponnkcfgjeoaaDoor
/-- The card, under a short name, for the claim. -/
theorem fnFarEnds_holds : Rows.FnFarEndsCardSaid := fnFarEnds.proved
end Go.Proofs.YtnponnkcfgjeoaaDoor
end
