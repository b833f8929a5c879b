/- The law FnExactFracCmp: for every input it returns true, each input reads behind the call as before; its one listed variable is tied to the program's text. -/
import Derived.Test.YtnponnkcfgjeoaaDoorLaid
import Derived.Test.YtnponnkcfgjeoaaDoorFLawsFnExactFracCmp
import Derived.Test.YtnponnkcfgjeoaaDoorPureFnExactFracCmp
import Derived.Test.YtnponnkcfgjeoaaDoorWSized
import Derived.WalkKit
import Derived.ProofKit
import Derived.OpenShut
import Derived.ShutString
import Derived.ChangeOld
import Derived.Below
import Derived.SizedLaws
import Derived.SevenTiedAt
import Derived.Lib.SmallJoins
set_option linter.unusedVariables false
namespace Go.Proofs.YtnponnkcfgjeoaaDoor.fnExactFracCmp
open Go Go.ChangeShapes Go.WideShapes Go.ChangeAt Go.RowKit Go.Joins Go.Proofs.YtnponnkcfgjeoaaDoorW
theorem cellsFrac : Tryd.prog.cellsOf 23 = 2 := by kernel_rfl
theorem shut_frac {H : Type} {enc : TypeId × Value → H} {W : World} {base : Nat} {held : Bool} {spare : Nat → Bool} {a b : Int} (wa : (Lit.int .i64 a).wf = true) (wb : (Lit.int .i64 b).wf = true) :
    DataW.Trod enc Tryd.prog W base spare held 23 (.agg #[.int .i64 a, .int .i64 b]) (.agg [.lit (.int .i64 a), .lit (.int .i64 b)]) [] :=
  shut_agg2 (y0 := (.lit (.int .i64 a), [])) (y1 := (.lit (.int .i64 b), [])) Tryd.underlying23 (by kernel_rfl) cellsFrac ⟨1, by simp [DataW.trod, Tryd.underlying3, wa]⟩ ⟨1, by simp [DataW.trod, Tryd.underlying3, wb]⟩
set_option maxRecDepth 100000 in
theorem lifted (os : Os) (started : os.Started) (H : Type) (enc : TypeId × Value → H) :
    ReturnsInHanded {} Tryd.checked os 3 .any (fun w args => (Rows.fnExactFracCmpSpec.pre enc Tryd.prog Tryd.f3 [] false w args ∧ laidMet Tryd.prog laidErr w) ∧ sizedMet enc Tryd.prog Tryd.f3 (OpenSpec.ofChange Rows.fnExactFracCmpSpec) false w args) (Rows.fnExactFracCmpSpec.post enc Tryd.prog Tryd.f3 false true false false) := by
  refine returnsInHanded_of_change_and (C := Tryd.checked) (X := fun w _ => laidMet Tryd.prog laidErr w) (fun _ _ _ hh h => h.of_heap hh) own started (by kernel_rfl) Tryd.func3
    (ChangeSpec.witness_at (enc := enc) (C := Tryd.checked) (os := os) (X := fun w _ => laidMet Tryd.prog laidErr w) false (laidWorld os) #[.agg #[.int .i64 0, .int .i64 0], .agg #[.int .i64 0, .int .i64 0]] 8 rfl (by kernel_rfl) (by kernel_rfl) (by kernel_rfl) (by kernel_rfl) (by kernel_rfl) (laidWorld_met os _)) ?_
  intro W base args ds gs before hval0 hW hcnd hsz0 hL _
  have hval : ∀ (j : Nat) t v, Tryd.f3.params[j]? = some t → args[j]? = some v → Value.okWide Tryd.prog W .any base t v := hval0
  have hW' := hW
  obtain ⟨p, q, hA0, hV0, rfl, hfz, hnd⟩ := hW
  have hA : DataW.TrodAll enc Tryd.prog W 0 (fun _ => true) true Tryd.f3.params.toList args.toList ds p := hA0
  have hV : DataW.TrodVars enc Tryd.prog W (fun _ => true) ["loop.example/mortiser/impl.errNoFrac"] gs q := hV0
  rw [Tryd.params3] at hA hval
  obtain ⟨v0, vs0, d0, ds0, p0, q0, hargs, rfl, rfl, h0, r0⟩ := trodAll_cons hA
  obtain ⟨v1, vs1, d1, ds1, p1, q1, rfl, rfl, rfl, h1, r1⟩ := trodAll_cons r0
  obtain ⟨rfl, rfl, rfl⟩ := trodAll_nil r1
  obtain rfl : args = #[v0, v1] := by cases args; simp_all
  obtain ⟨a, st, hv, hcs, hs0, hz0⟩ := err_of_laid hL
  obtain ⟨rfl, rfl⟩ := hV.unique (errVars enc hv trivial _)
  have hE : ErrW W := ErrW.of_var hv
  obtain ⟨c0_0, c0_1, z0_0, z0_1, m0, rfl, rfl, rfl, hy0_0, hy0_1⟩ := open_agg2 Tryd.underlying23 (by kernel_rfl) cellsFrac (hval 0 23 v0 rfl rfl) h0
  obtain ⟨x0_0, e0_0, rfl, w0_0⟩ := DataW.trod_int Tryd.underlying3 hy0_0
  obtain ⟨x0_1, e0_1, rfl, w0_1⟩ := DataW.trod_int Tryd.underlying3 hy0_1
  simp at e0_0 e0_1
  subst e0_0 e0_1
  obtain ⟨c1_0, c1_1, z1_0, z1_1, m1, rfl, rfl, rfl, hy1_0, hy1_1⟩ := open_agg2 Tryd.underlying23 (by kernel_rfl) cellsFrac (hval 1 23 v1 rfl rfl) h1
  obtain ⟨x1_0, e1_0, rfl, w1_0⟩ := DataW.trod_int Tryd.underlying3 hy1_0
  obtain ⟨x1_1, e1_1, rfl, w1_1⟩ := DataW.trod_int Tryd.underlying3 hy1_1
  simp at e1_0 e1_1
  subst e1_0 e1_1
  clear hA0 hval0 hsz0
  obtain ⟨k, hk⟩ := Pure.FnExactFracCmp x0_0 x0_1 x1_0 x1_1
  refine (X.laws_FnExactFracCmp.calls k x0_0 x0_1 x1_0 x1_1 true W hE hk).mono fun e W' ⟨he, bel⟩ => ?_
  subst he
  exact ⟨_, rfl, _, _, _, [], _, [.cell 0 0], hW', trodAll_mk1 (shut_bool Tryd.underlying4 _), (trodAll_cons_mk (shut_frac w0_0 w0_1) (trodAll_cons_mk (shut_frac w1_0 w1_1) trodAll_mk0)), errVars enc (errBelow bel hv) trivial _, bel.frame _, fun h => by cases h⟩
theorem over : Rows.fnExactFracCmpRow.holds Tryd.pinned (OpenSpec.ofChange Rows.fnExactFracCmpSpec) :=
  OpenClaim.holds_of_wide 3 Tryd.f3 rfl rfl rfl rfl rfl rfl rfl ⟨rfl, rfl, rfl, rfl, rfl⟩ rfl rfl rfl rfl rfl (by kernel_rfl) Tryd.func3 (by kernel_rfl)
    (of_decide_eq_true (by kernel_rfl)) (by unfold Func.isWrapper; first | (rw [if_pos (by decide +kernel)]; kernel_rfl) | (rw [if_neg (by decide +kernel)]; exact ⟨rfl, rfl⟩))
    (fun os started H enc _ => lifted os started H enc)
theorem proved : Rows.FnExactFracCmpCardSaid :=
  Claim7.holds_tied_plain_at .later [] [.sentinel] true (true, "367200faf2c18a8d3acd0cadfc4f4a0300d2711da9ddbae6489321d2dd8a2082") true
    over (fun _ h => by cases h) (by kernel_rfl) (fun _ h => by cases h) fnExactFracCmp_row_tie rfl ⟨rfl, rfl⟩ (by kernel_rfl) rfl
    (fun f fn hf hfn => by
      obtain rfl : f = 3 := Option.some.inj ((show Tryd.prog.funcNamed "loop.example/mortiser/laws.FnExactFracCmp" = some 3 by kernel_rfl).symm.trans hf) |>.symm
      obtain rfl : fn = Tryd.f3 := (Option.some.inj (Tryd.func3.symm.trans hfn)).symm
      exact ⟨by kernel_rfl, fun j t ht => by
        rw [Tryd.params3] at ht
        have h3 : t = 23 := by
          rcases j with _ | _ | j
          · simpa using ht.symm
          · simpa using ht.symm
          · simp at ht
        subst h3
        exact (show Tryd.prog.wantsStandIn 23 = false by kernel_rfl)⟩)
    (by kernel_rfl)
#print axioms proved
end Go.Proofs.YtnponnkcfgjeoaaDoor.fnExactFracCmp
namespace Go.Proofs.YtnponnkcfgjeoaaDoor
/-- The card, under a short name, for the claim. -/
theorem fnExactFracCmp_holds : Rows.FnExactFracCmpCardSaid := fnExactFracCmp.proved
end Go.Proofs.YtnponnkcfgjeoaaDoor
