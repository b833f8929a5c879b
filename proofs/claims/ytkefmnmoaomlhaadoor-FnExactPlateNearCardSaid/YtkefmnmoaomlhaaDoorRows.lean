/-
  NARROWER THAN 'FOR EVERY INPUT', by the rows' own cells (each row's printed sentence says how): FnPlateStep: ifaces, laid · FnExactToolFits: ifaces, laid · FnPlateLess: ifaces, laid · FnExactPlateFar: ifaces, laid · FnFitsLess: ifaces, laid · FnPlateShift: ifaces, laid · FnFits: ifaces, laid · FnPlateFar: ifaces, laid · FnFitsMost: ifaces, laid · FnPlateNear: ifaces, laid · FnPlateInOver: ifaces, laid · FnExactPlateNear: ifaces, laid.
  DERIVED. THE GIVEN ROWS OF THIS SEAT. 12 by the template 'for every input the law returns true; each argument reads behind the call as it read before'; 0 by the template 'total and deterministic' (their statements: YtkefmnmoaomlhaaDoorTotals.lean).
  GIVEN WITH THE SEED: the statements are not yours to turn. If you find one false, say at which input.
  Laid BY PROGRAM, IN A SANDBOX (cutbox-rows.mjs): the forced cells as the released guide's own fill.sh prints them over the translation a5a7c72ad8b4a018… (all of the seat's roots in one cut). By AI agents, Wed Nov 11 2026. No macro, syntax, notation, axiom, sorry.
-/
import Derived.Test.YtkefmnmoaomlhaaDoorChecked
import GoSem.Claim
import GoSem.ClaimJoined
import GoSem.ClaimMapViews
import Derived.JoinedTies
import Derived.KernelRfl
namespace Go.Proofs.YtkefmnmoaomlhaaDoor
/- THE CELL 'sum', in the pinned program and in every row, IS THE sha256 OF THE DUMP (.gsa) THAT YtkefmnmoaomlhaaDoorProg.lean LOADS. Nothing in Lean hashes anything: it is a label: what it is worth is what the hold of that sum in a sandbox is worth. -/
noncomputable def Tryd.pinned : Pinned := { name := "ytkefmnmoaomlhaadoor", sum := "a5a7c72ad8b4a018ecee06c12e80c7c97c98d7450147243d87811bfbe1ac832f", checked := Tryd.checked }
namespace Rows
def none {H : Type} : Left H := { results := [], args := [] }

/- WHAT THE LISTED PACKAGE-LEVEL VARIABLES READ AS WHEN THE CALL BEGINS. Each datum BY PROGRAM (the guide's laid-datum.mjs) off the statement by which the dump's own 'gosem.cut.vars' lays the variable. In a bare row this is a premise. The card (YtkefmnmoaomlhaaDoorCards.lean) ties it to the program's text. -/
def laid_loop_example_mortiser_impl_errNoFrac {H : Type} : DataW H := .iface "*errors.errorString" (.ptr (.agg [.lit (.string [110, 111, 32, 102, 114, 97, 99, 116, 105, 111, 110])]))

/-- 'laws.FnPlateStep': WHATEVER THE INPUT: true; the input reads as it did. -/
def fnPlateStepSpec : ChangeSpec := { name := "fnPlateStep", vars := ["loop.example/mortiser/impl.errNoFrac"], fn := fun _ => fun
  | [d1, d2, g1] => { results := [.lit (.bool true)], args := [d1, d2], vars := [g1] }
  | _ => none }
def fnPlateStepRow : OpenClaim := { program := "ytkefmnmoaomlhaadoor", sum := "a5a7c72ad8b4a018ecee06c12e80c7c97c98d7450147243d87811bfbe1ac832f", func := "loop.example/mortiser/laws.FnPlateStep", spec := "fnPlateStep", inPlace := ["internal/reflectlite.TypeOf"], unfollowed := true, recurses := true, named := ["loop.example/mortiser/impl.errNoFrac"], ifaces := true, apart := false, laid := [("loop.example/mortiser/impl.errNoFrac", laid_loop_example_mortiser_impl_errNoFrac)] }
def FnPlateStepSaid : Prop := fnPlateStepRow.holds Tryd.pinned (OpenSpec.ofChange fnPlateStepSpec)

/-- ITS FALSE NEIGHBOUR: 'it returns false'. Refute it at one input. -/
def fnPlateStepWrong : ChangeSpec := { name := "fnPlateStep", vars := ["loop.example/mortiser/impl.errNoFrac"], fn := fun _ => fun
  | [d1, d2, g1] => { results := [.lit (.bool false)], args := [d1, d2], vars := [g1] }
  | _ => none }
def FnPlateStepWrongFalsely : Prop := fnPlateStepRow.holds Tryd.pinned (OpenSpec.ofChange fnPlateStepWrong)

/-- 'laws.FnExactToolFits': WHATEVER THE INPUT: true; the input reads as it did. -/
def fnExactToolFitsSpec : ChangeSpec := { name := "fnExactToolFits", vars := ["loop.example/mortiser/impl.errNoFrac"], fn := fun _ => fun
  | [d1, d2, d3, g1] => { results := [.lit (.bool true)], args := [d1, d2, d3], vars := [g1] }
  | _ => none }
def fnExactToolFitsRow : OpenClaim := { program := "ytkefmnmoaomlhaadoor", sum := "a5a7c72ad8b4a018ecee06c12e80c7c97c98d7450147243d87811bfbe1ac832f", func := "loop.example/mortiser/laws.FnExactToolFits", spec := "fnExactToolFits", inPlace := ["internal/reflectlite.TypeOf"], unfollowed := true, recurses := true, named := ["loop.example/mortiser/impl.errNoFrac"], ifaces := true, apart := false, laid := [("loop.example/mortiser/impl.errNoFrac", laid_loop_example_mortiser_impl_errNoFrac)] }
def FnExactToolFitsSaid : Prop := fnExactToolFitsRow.holds Tryd.pinned (OpenSpec.ofChange fnExactToolFitsSpec)

/-- ITS FALSE NEIGHBOUR: 'it returns false'. Refute it at one input. -/
def fnExactToolFitsWrong : ChangeSpec := { name := "fnExactToolFits", vars := ["loop.example/mortiser/impl.errNoFrac"], fn := fun _ => fun
  | [d1, d2, d3, g1] => { results := [.lit (.bool false)], args := [d1, d2, d3], vars := [g1] }
  | _ => none }
def FnExactToolFitsWrongFalsely : Prop := fnExactToolFitsRow.holds Tryd.pinned (OpenSpec.ofChange fnExactToolFitsWrong)

/-- 'laws.FnPlateLess': WHATEVER THE INPUT: true; the input reads as it did. -/
def fnPlateLessSpec : ChangeSpec := { name := "fnPlateLess", vars := ["loop.example/mortiser/impl.errNoFrac"], fn := fun _ => fun
  | [d, g1] => { results := [.lit (.bool true)], args := [d], vars := [g1] }
  | _ => none }
def fnPlateLessRow : OpenClaim := { program := "ytkefmnmoaomlhaadoor", sum := "a5a7c72ad8b4a018ecee06c12e80c7c97c98d7450147243d87811bfbe1ac832f", func := "loop.example/mortiser/laws.FnPlateLess", spec := "fnPlateLess", inPlace := ["internal/reflectlite.TypeOf"], unfollowed := true, recurses := true, named := ["loop.example/mortiser/impl.errNoFrac"], ifaces := true, apart := false, laid := [("loop.example/mortiser/impl.errNoFrac", laid_loop_example_mortiser_impl_errNoFrac)] }
def FnPlateLessSaid : Prop := fnPlateLessRow.holds Tryd.pinned (OpenSpec.ofChange fnPlateLessSpec)

/-- ITS FALSE NEIGHBOUR: 'it returns false'. Refute it at one input. -/
def fnPlateLessWrong : ChangeSpec := { name := "fnPlateLess", vars := ["loop.example/mortiser/impl.errNoFrac"], fn := fun _ => fun
  | [d, g1] => { results := [.lit (.bool false)], args := [d], vars := [g1] }
  | _ => none }
def FnPlateLessWrongFalsely : Prop := fnPlateLessRow.holds Tryd.pinned (OpenSpec.ofChange fnPlateLessWrong)

/-- 'laws.FnExactPlateFar': WHATEVER THE INPUT: true; the input reads as it did. -/
def fnExactPlateFarSpec : ChangeSpec := { name := "fnExactPlateFar", vars := ["loop.example/mortiser/impl.errNoFrac"], fn := fun _ => fun
  | [d1, d2, g1] => { results := [.lit (.bool true)], args := [d1, d2], vars := [g1] }
  | _ => none }
def fnExactPlateFarRow : OpenClaim := { program := "ytkefmnmoaomlhaadoor", sum := "a5a7c72ad8b4a018ecee06c12e80c7c97c98d7450147243d87811bfbe1ac832f", func := "loop.example/mortiser/laws.FnExactPlateFar", spec := "fnExactPlateFar", inPlace := ["internal/reflectlite.TypeOf"], unfollowed := true, recurses := true, named := ["loop.example/mortiser/impl.errNoFrac"], ifaces := true, apart := false, laid := [("loop.example/mortiser/impl.errNoFrac", laid_loop_example_mortiser_impl_errNoFrac)] }
def FnExactPlateFarSaid : Prop := fnExactPlateFarRow.holds Tryd.pinned (OpenSpec.ofChange fnExactPlateFarSpec)

/-- ITS FALSE NEIGHBOUR: 'it returns false'. Refute it at one input. -/
def fnExactPlateFarWrong : ChangeSpec := { name := "fnExactPlateFar", vars := ["loop.example/mortiser/impl.errNoFrac"], fn := fun _ => fun
  | [d1, d2, g1] => { results := [.lit (.bool false)], args := [d1, d2], vars := [g1] }
  | _ => none }
def FnExactPlateFarWrongFalsely : Prop := fnExactPlateFarRow.holds Tryd.pinned (OpenSpec.ofChange fnExactPlateFarWrong)

/-- 'laws.FnFitsLess': WHATEVER THE INPUT: true; the input reads as it did. -/
def fnFitsLessSpec : ChangeSpec := { name := "fnFitsLess", vars := ["loop.example/mortiser/impl.errNoFrac"], fn := fun _ => fun
  | [d1, d2, g1] => { results := [.lit (.bool true)], args := [d1, d2], vars := [g1] }
  | _ => none }
def fnFitsLessRow : OpenClaim := { program := "ytkefmnmoaomlhaadoor", sum := "a5a7c72ad8b4a018ecee06c12e80c7c97c98d7450147243d87811bfbe1ac832f", func := "loop.example/mortiser/laws.FnFitsLess", spec := "fnFitsLess", inPlace := ["internal/reflectlite.TypeOf"], unfollowed := true, recurses := true, named := ["loop.example/mortiser/impl.errNoFrac"], ifaces := true, apart := false, laid := [("loop.example/mortiser/impl.errNoFrac", laid_loop_example_mortiser_impl_errNoFrac)] }
def FnFitsLessSaid : Prop := fnFitsLessRow.holds Tryd.pinned (OpenSpec.ofChange fnFitsLessSpec)

/-- ITS FALSE NEIGHBOUR: 'it returns false'. Refute it at one input. -/
def fnFitsLessWrong : ChangeSpec := { name := "fnFitsLess", vars := ["loop.example/mortiser/impl.errNoFrac"], fn := fun _ => fun
  | [d1, d2, g1] => { results := [.lit (.bool false)], args := [d1, d2], vars := [g1] }
  | _ => none }
def FnFitsLessWrongFalsely : Prop := fnFitsLessRow.holds Tryd.pinned (OpenSpec.ofChange fnFitsLessWrong)

/-- 'laws.FnPlateShift': WHATEVER THE INPUT: true; the input reads as it did. -/
def fnPlateShiftSpec : ChangeSpec := { name := "fnPlateShift", vars := ["loop.example/mortiser/impl.errNoFrac"], fn := fun _ => fun
  | [d, g1] => { results := [.lit (.bool true)], args := [d], vars := [g1] }
  | _ => none }
def fnPlateShiftRow : OpenClaim := { program := "ytkefmnmoaomlhaadoor", sum := "a5a7c72ad8b4a018ecee06c12e80c7c97c98d7450147243d87811bfbe1ac832f", func := "loop.example/mortiser/laws.FnPlateShift", spec := "fnPlateShift", inPlace := ["internal/reflectlite.TypeOf"], unfollowed := true, recurses := true, named := ["loop.example/mortiser/impl.errNoFrac"], ifaces := true, apart := false, laid := [("loop.example/mortiser/impl.errNoFrac", laid_loop_example_mortiser_impl_errNoFrac)] }
def FnPlateShiftSaid : Prop := fnPlateShiftRow.holds Tryd.pinned (OpenSpec.ofChange fnPlateShiftSpec)

/-- ITS FALSE NEIGHBOUR: 'it returns false'. Refute it at one input. -/
def fnPlateShiftWrong : ChangeSpec := { name := "fnPlateShift", vars := ["loop.example/mortiser/impl.errNoFrac"], fn := fun _ => fun
  | [d, g1] => { results := [.lit (.bool false)], args := [d], vars := [g1] }
  | _ => none }
def FnPlateShiftWrongFalsely : Prop := fnPlateShiftRow.holds Tryd.pinned (OpenSpec.ofChange fnPlateShiftWrong)

/-- 'laws.FnFits': WHATEVER THE INPUT: true; the input reads as it did. -/
def fnFitsSpec : ChangeSpec := { name := "fnFits", vars := ["loop.example/mortiser/impl.errNoFrac"], fn := fun _ => fun
  | [d, g1] => { results := [.lit (.bool true)], args := [d], vars := [g1] }
  | _ => none }
def fnFitsRow : OpenClaim := { program := "ytkefmnmoaomlhaadoor", sum := "a5a7c72ad8b4a018ecee06c12e80c7c97c98d7450147243d87811bfbe1ac832f", func := "loop.example/mortiser/laws.FnFits", spec := "fnFits", inPlace := ["internal/reflectlite.TypeOf"], unfollowed := true, recurses := true, named := ["loop.example/mortiser/impl.errNoFrac"], ifaces := true, apart := false, laid := [("loop.example/mortiser/impl.errNoFrac", laid_loop_example_mortiser_impl_errNoFrac)] }
def FnFitsSaid : Prop := fnFitsRow.holds Tryd.pinned (OpenSpec.ofChange fnFitsSpec)

/-- ITS FALSE NEIGHBOUR: 'it returns false'. Refute it at one input. -/
def fnFitsWrong : ChangeSpec := { name := "fnFits", vars := ["loop.example/mortiser/impl.errNoFrac"], fn := fun _ => fun
  | [d, g1] => { results := [.lit (.bool false)], args := [d], vars := [g1] }
  | _ => none }
def FnFitsWrongFalsely : Prop := fnFitsRow.holds Tryd.pinned (OpenSpec.ofChange fnFitsWrong)

/-- 'laws.FnPlateFar': WHATEVER THE INPUT: true; the input reads as it did. -/
def fnPlateFarSpec : ChangeSpec := { name := "fnPlateFar", vars := ["loop.example/mortiser/impl.errNoFrac"], fn := fun _ => fun
  | [d, g1] => { results := [.lit (.bool true)], args := [d], vars := [g1] }
  | _ => none }
def fnPlateFarRow : OpenClaim := { program := "ytkefmnmoaomlhaadoor", sum := "a5a7c72ad8b4a018ecee06c12e80c7c97c98d7450147243d87811bfbe1ac832f", func := "loop.example/mortiser/laws.FnPlateFar", spec := "fnPlateFar", inPlace := ["internal/reflectlite.TypeOf"], unfollowed := true, recurses := true, named := ["loop.example/mortiser/impl.errNoFrac"], ifaces := true, apart := false, laid := [("loop.example/mortiser/impl.errNoFrac", laid_loop_example_mortiser_impl_errNoFrac)] }
def FnPlateFarSaid : Prop := fnPlateFarRow.holds Tryd.pinned (OpenSpec.ofChange fnPlateFarSpec)

/-- ITS FALSE NEIGHBOUR: 'it returns false'. Refute it at one input. -/
def fnPlateFarWrong : ChangeSpec := { name := "fnPlateFar", vars := ["loop.example/mortiser/impl.errNoFrac"], fn := fun _ => fun
  | [d, g1] => { results := [.lit (.bool false)], args := [d], vars := [g1] }
  | _ => none }
def FnPlateFarWrongFalsely : Prop := fnPlateFarRow.holds Tryd.pinned (OpenSpec.ofChange fnPlateFarWrong)

/-- 'laws.FnFitsMost': WHATEVER THE INPUT: true; the input reads as it did. -/
def fnFitsMostSpec : ChangeSpec := { name := "fnFitsMost", vars := ["loop.example/mortiser/impl.errNoFrac"], fn := fun _ => fun
  | [d, g1] => { results := [.lit (.bool true)], args := [d], vars := [g1] }
  | _ => none }
def fnFitsMostRow : OpenClaim := { program := "ytkefmnmoaomlhaadoor", sum := "a5a7c72ad8b4a018ecee06c12e80c7c97c98d7450147243d87811bfbe1ac832f", func := "loop.example/mortiser/laws.FnFitsMost", spec := "fnFitsMost", inPlace := ["internal/reflectlite.TypeOf"], unfollowed := true, recurses := true, named := ["loop.example/mortiser/impl.errNoFrac"], ifaces := true, apart := false, laid := [("loop.example/mortiser/impl.errNoFrac", laid_loop_example_mortiser_impl_errNoFrac)] }
def FnFitsMostSaid : Prop := fnFitsMostRow.holds Tryd.pinned (OpenSpec.ofChange fnFitsMostSpec)

/-- ITS FALSE NEIGHBOUR: 'it returns false'. Refute it at one input. -/
def fnFitsMostWrong : ChangeSpec := { name := "fnFitsMost", vars := ["loop.example/mortiser/impl.errNoFrac"], fn := fun _ => fun
  | [d, g1] => { results := [.lit (.bool false)], args := [d], vars := [g1] }
  | _ => none }
def FnFitsMostWrongFalsely : Prop := fnFitsMostRow.holds Tryd.pinned (OpenSpec.ofChange fnFitsMostWrong)

/-- 'laws.FnPlateNear': WHATEVER THE INPUT: true; the input reads as it did. -/
def fnPlateNearSpec : ChangeSpec := { name := "fnPlateNear", vars := ["loop.example/mortiser/impl.errNoFrac"], fn := fun _ => fun
  | [d, g1] => { results := [.lit (.bool true)], args := [d], vars := [g1] }
  | _ => none }
def fnPlateNearRow : OpenClaim := { program := "ytkefmnmoaomlhaadoor", sum := "a5a7c72ad8b4a018ecee06c12e80c7c97c98d7450147243d87811bfbe1ac832f", func := "loop.example/mortiser/laws.FnPlateNear", spec := "fnPlateNear", inPlace := ["internal/reflectlite.TypeOf"], unfollowed := true, recurses := true, named := ["loop.example/mortiser/impl.errNoFrac"], ifaces := true, apart := false, laid := [("loop.example/mortiser/impl.errNoFrac", laid_loop_example_mortiser_impl_errNoFrac)] }
def FnPlateNearSaid : Prop := fnPlateNearRow.holds Tryd.pinned (OpenSpec.ofChange fnPlateNearSpec)

/-- ITS FALSE NEIGHBOUR: 'it returns false'. Refute it at one input. -/
def fnPlateNearWrong : ChangeSpec := { name := "fnPlateNear", vars := ["loop.example/mortiser/impl.errNoFrac"], fn := fun _ => fun
  | [d, g1] => { results := [.lit (.bool false)], args := [d], vars := [g1] }
  | _ => none }
def FnPlateNearWrongFalsely : Prop := fnPlateNearRow.holds Tryd.pinned (OpenSpec.ofChange fnPlateNearWrong)

/-- 'laws.FnPlateInOver': WHATEVER THE INPUT: true; the input reads as it did. -/
def fnPlateInOverSpec : ChangeSpec := { name := "fnPlateInOver", vars := ["loop.example/mortiser/impl.errNoFrac"], fn := fun _ => fun
  | [d, g1] => { results := [.lit (.bool true)], args := [d], vars := [g1] }
  | _ => none }
def fnPlateInOverRow : OpenClaim := { program := "ytkefmnmoaomlhaadoor", sum := "a5a7c72ad8b4a018ecee06c12e80c7c97c98d7450147243d87811bfbe1ac832f", func := "loop.example/mortiser/laws.FnPlateInOver", spec := "fnPlateInOver", inPlace := ["internal/reflectlite.TypeOf"], unfollowed := true, recurses := true, named := ["loop.example/mortiser/impl.errNoFrac"], ifaces := true, apart := false, laid := [("loop.example/mortiser/impl.errNoFrac", laid_loop_example_mortiser_impl_errNoFrac)] }
def FnPlateInOverSaid : Prop := fnPlateInOverRow.holds Tryd.pinned (OpenSpec.ofChange fnPlateInOverSpec)

/-- ITS FALSE NEIGHBOUR: 'it returns false'. Refute it at one input. -/
def fnPlateInOverWrong : ChangeSpec := { name := "fnPlateInOver", vars := ["loop.example/mortiser/impl.errNoFrac"], fn := fun _ => fun
  | [d, g1] => { results := [.lit (.bool false)], args := [d], vars := [g1] }
  | _ => none }
def FnPlateInOverWrongFalsely : Prop := fnPlateInOverRow.holds Tryd.pinned (OpenSpec.ofChange fnPlateInOverWrong)

/-- 'laws.FnExactPlateNear': WHATEVER THE INPUT: true; the input reads as it did. -/
def fnExactPlateNearSpec : ChangeSpec := { name := "fnExactPlateNear", vars := ["loop.example/mortiser/impl.errNoFrac"], fn := fun _ => fun
  | [d1, d2, g1] => { results := [.lit (.bool true)], args := [d1, d2], vars := [g1] }
  | _ => none }
def fnExactPlateNearRow : OpenClaim := { program := "ytkefmnmoaomlhaadoor", sum := "a5a7c72ad8b4a018ecee06c12e80c7c97c98d7450147243d87811bfbe1ac832f", func := "loop.example/mortiser/laws.FnExactPlateNear", spec := "fnExactPlateNear", inPlace := ["internal/reflectlite.TypeOf"], unfollowed := true, recurses := true, named := ["loop.example/mortiser/impl.errNoFrac"], ifaces := true, apart := false, laid := [("loop.example/mortiser/impl.errNoFrac", laid_loop_example_mortiser_impl_errNoFrac)] }
def FnExactPlateNearSaid : Prop := fnExactPlateNearRow.holds Tryd.pinned (OpenSpec.ofChange fnExactPlateNearSpec)

/-- ITS FALSE NEIGHBOUR: 'it returns false'. Refute it at one input. -/
def fnExactPlateNearWrong : ChangeSpec := { name := "fnExactPlateNear", vars := ["loop.example/mortiser/impl.errNoFrac"], fn := fun _ => fun
  | [d1, d2, g1] => { results := [.lit (.bool false)], args := [d1, d2], vars := [g1] }
  | _ => none }
def FnExactPlateNearWrongFalsely : Prop := fnExactPlateNearRow.holds Tryd.pinned (OpenSpec.ofChange fnExactPlateNearWrong)

/- THE SECOND FORM. 'bulk': how many values and letters a reading holds, each counted each time it is reached (what is shared counts as often as it is met; a slice's spare places count too). A statement '..UptoSaid' is the law's where the arguments, and the package variables that the reading takes, are together of bulk at most 1048576: NARROWER than '..Said'. Prove '..Said' where nothing that the law and all that it calls make is longer than what came in: it says more and counts as full. Else prove '..UptoSaid'. A law counts once. -/
mutual
def uptoBulk {H : Type} : DataW H → Nat
  | .lit (.string bytes) => bytes.length + 1
  | .lit _ => 1
  | .nil => 1
  | .ptr d => uptoBulk d + 1
  | .slice elems spare => uptoBulkAll elems + uptoBulkAll spare + 1
  | .agg parts => uptoBulkAll parts + 1
  | .iface _ d => uptoBulk d + 1
  | .map entries => uptoBulkEntries entries + 1
  | .held _ => 1
def uptoBulkAll {H : Type} : List (DataW H) → Nat
  | [] => 0
  | d :: r => uptoBulk d + uptoBulkAll r
def uptoBulkEntries {H : Type} : List (Lit × DataW H) → Nat
  | [] => 0
  | x :: r => uptoBulkEntry x + uptoBulkEntries r
def uptoBulkEntry {H : Type} : Lit × DataW H → Nat
  | (.string bytes, d) => bytes.length + uptoBulk d + 1
  | (_, d) => uptoBulk d + 1
 end
def uptoSmall : (H : Type) → List (DataW H) → Bool := fun _ ds => decide (uptoBulkAll ds ≤ 1048576)
def OpenSpec.upto (s : _root_.Go.ChangeSpec) : _root_.Go.OpenSpec := { _root_.Go.OpenSpec.ofChange s with cond := some uptoSmall }

/-- 'laws.FnPlateStep', WHERE WHAT IT READS IS OF BULK AT MOST 1048576: true; the input reads as it did. -/
def fnPlateStepUptoRow : OpenClaim := { program := "ytkefmnmoaomlhaadoor", sum := "a5a7c72ad8b4a018ecee06c12e80c7c97c98d7450147243d87811bfbe1ac832f", func := "loop.example/mortiser/laws.FnPlateStep", spec := "fnPlateStep", inPlace := ["internal/reflectlite.TypeOf"], unfollowed := true, recurses := true, named := ["loop.example/mortiser/impl.errNoFrac"], ifaces := true, apart := false, laid := [("loop.example/mortiser/impl.errNoFrac", laid_loop_example_mortiser_impl_errNoFrac)], narrowed := true }
def FnPlateStepUptoSaid : Prop := fnPlateStepUptoRow.holds Tryd.pinned (OpenSpec.upto fnPlateStepSpec)

/-- 'laws.FnExactToolFits', WHERE WHAT IT READS IS OF BULK AT MOST 1048576: true; the input reads as it did. -/
def fnExactToolFitsUptoRow : OpenClaim := { program := "ytkefmnmoaomlhaadoor", sum := "a5a7c72ad8b4a018ecee06c12e80c7c97c98d7450147243d87811bfbe1ac832f", func := "loop.example/mortiser/laws.FnExactToolFits", spec := "fnExactToolFits", inPlace := ["internal/reflectlite.TypeOf"], unfollowed := true, recurses := true, named := ["loop.example/mortiser/impl.errNoFrac"], ifaces := true, apart := false, laid := [("loop.example/mortiser/impl.errNoFrac", laid_loop_example_mortiser_impl_errNoFrac)], narrowed := true }
def FnExactToolFitsUptoSaid : Prop := fnExactToolFitsUptoRow.holds Tryd.pinned (OpenSpec.upto fnExactToolFitsSpec)

/-- 'laws.FnPlateLess', WHERE WHAT IT READS IS OF BULK AT MOST 1048576: true; the input reads as it did. -/
def fnPlateLessUptoRow : OpenClaim := { program := "ytkefmnmoaomlhaadoor", sum := "a5a7c72ad8b4a018ecee06c12e80c7c97c98d7450147243d87811bfbe1ac832f", func := "loop.example/mortiser/laws.FnPlateLess", spec := "fnPlateLess", inPlace := ["internal/reflectlite.TypeOf"], unfollowed := true, recurses := true, named := ["loop.example/mortiser/impl.errNoFrac"], ifaces := true, apart := false, laid := [("loop.example/mortiser/impl.errNoFrac", laid_loop_example_mortiser_impl_errNoFrac)], narrowed := true }
def FnPlateLessUptoSaid : Prop := fnPlateLessUptoRow.holds Tryd.pinned (OpenSpec.upto fnPlateLessSpec)

/-- 'laws.FnExactPlateFar', WHERE WHAT IT READS IS OF BULK AT MOST 1048576: true; the input reads as it did. -/
def fnExactPlateFarUptoRow : OpenClaim := { program := "ytkefmnmoaomlhaadoor", sum := "a5a7c72ad8b4a018ecee06c12e80c7c97c98d7450147243d87811bfbe1ac832f", func := "loop.example/mortiser/laws.FnExactPlateFar", spec := "fnExactPlateFar", inPlace := ["internal/reflectlite.TypeOf"], unfollowed := true, recurses := true, named := ["loop.example/mortiser/impl.errNoFrac"], ifaces := true, apart := false, laid := [("loop.example/mortiser/impl.errNoFrac", laid_loop_example_mortiser_impl_errNoFrac)], narrowed := true }
def FnExactPlateFarUptoSaid : Prop := fnExactPlateFarUptoRow.holds Tryd.pinned (OpenSpec.upto fnExactPlateFarSpec)

/-- 'laws.FnFitsLess', WHERE WHAT IT READS IS OF BULK AT MOST 1048576: true; the input reads as it did. -/
def fnFitsLessUptoRow : OpenClaim := { program := "ytkefmnmoaomlhaadoor", sum := "a5a7c72ad8b4a018ecee06c12e80c7c97c98d7450147243d87811bfbe1ac832f", func := "loop.example/mortiser/laws.FnFitsLess", spec := "fnFitsLess", inPlace := ["internal/reflectlite.TypeOf"], unfollowed := true, recurses := true, named := ["loop.example/mortiser/impl.errNoFrac"], ifaces := true, apart := false, laid := [("loop.example/mortiser/impl.errNoFrac", laid_loop_example_mortiser_impl_errNoFrac)], narrowed := true }
def FnFitsLessUptoSaid : Prop := fnFitsLessUptoRow.holds Tryd.pinned (OpenSpec.upto fnFitsLessSpec)

/-- 'laws.FnPlateShift', WHERE WHAT IT READS IS OF BULK AT MOST 1048576: true; the input reads as it did. -/
def fnPlateShiftUptoRow : OpenClaim := { program := "ytkefmnmoaomlhaadoor", sum := "a5a7c72ad8b4a018ecee06c12e80c7c97c98d7450147243d87811bfbe1ac832f", func := "loop.example/mortiser/laws.FnPlateShift", spec := "fnPlateShift", inPlace := ["internal/reflectlite.TypeOf"], unfollowed := true, recurses := true, named := ["loop.example/mortiser/impl.errNoFrac"], ifaces := true, apart := false, laid := [("loop.example/mortiser/impl.errNoFrac", laid_loop_example_mortiser_impl_errNoFrac)], narrowed := true }
def FnPlateShiftUptoSaid : Prop := fnPlateShiftUptoRow.holds Tryd.pinned (OpenSpec.upto fnPlateShiftSpec)

/-- 'laws.FnFits', WHERE WHAT IT READS IS OF BULK AT MOST 1048576: true; the input reads as it did. -/
def fnFitsUptoRow : OpenClaim := { program := "ytkefmnmoaomlhaadoor", sum := "a5a7c72ad8b4a018ecee06c12e80c7c97c98d7450147243d87811bfbe1ac832f", func := "loop.example/mortiser/laws.FnFits", spec := "fnFits", inPlace := ["internal/reflectlite.TypeOf"], unfollowed := true, recurses := true, named := ["loop.example/mortiser/impl.errNoFrac"], ifaces := true, apart := false, laid := [("loop.example/mortiser/impl.errNoFrac", laid_loop_example_mortiser_impl_errNoFrac)], narrowed := true }
def FnFitsUptoSaid : Prop := fnFitsUptoRow.holds Tryd.pinned (OpenSpec.upto fnFitsSpec)

/-- 'laws.FnPlateFar', WHERE WHAT IT READS IS OF BULK AT MOST 1048576: true; the input reads as it did. -/
def fnPlateFarUptoRow : OpenClaim := { program := "ytkefmnmoaomlhaadoor", sum := "a5a7c72ad8b4a018ecee06c12e80c7c97c98d7450147243d87811bfbe1ac832f", func := "loop.example/mortiser/laws.FnPlateFar", spec := "fnPlateFar", inPlace := ["internal/reflectlite.TypeOf"], unfollowed := true, recurses := true, named := ["loop.example/mortiser/impl.errNoFrac"], ifaces := true, apart := false, laid := [("loop.example/mortiser/impl.errNoFrac", laid_loop_example_mortiser_impl_errNoFrac)], narrowed := true }
def FnPlateFarUptoSaid : Prop := fnPlateFarUptoRow.holds Tryd.pinned (OpenSpec.upto fnPlateFarSpec)

/-- 'laws.FnFitsMost', WHERE WHAT IT READS IS OF BULK AT MOST 1048576: true; the input reads as it did. -/
def fnFitsMostUptoRow : OpenClaim := { program := "ytkefmnmoaomlhaadoor", sum := "a5a7c72ad8b4a018ecee06c12e80c7c97c98d7450147243d87811bfbe1ac832f", func := "loop.example/mortiser/laws.FnFitsMost", spec := "fnFitsMost", inPlace := ["internal/reflectlite.TypeOf"], unfollowed := true, recurses := true, named := ["loop.example/mortiser/impl.errNoFrac"], ifaces := true, apart := false, laid := [("loop.example/mortiser/impl.errNoFrac", laid_loop_example_mortiser_impl_errNoFrac)], narrowed := true }
def FnFitsMostUptoSaid : Prop := fnFitsMostUptoRow.holds Tryd.pinned (OpenSpec.upto fnFitsMostSpec)

/-- 'laws.FnPlateNear', WHERE WHAT IT READS IS OF BULK AT MOST 1048576: true; the input reads as it did. -/
def fnPlateNearUptoRow : OpenClaim := { program := "ytkefmnmoaomlhaadoor", sum := "a5a7c72ad8b4a018ecee06c12e80c7c97c98d7450147243d87811bfbe1ac832f", func := "loop.example/mortiser/laws.FnPlateNear", spec := "fnPlateNear", inPlace := ["internal/reflectlite.TypeOf"], unfollowed := true, recurses := true, named := ["loop.example/mortiser/impl.errNoFrac"], ifaces := true, apart := false, laid := [("loop.example/mortiser/impl.errNoFrac", laid_loop_example_mortiser_impl_errNoFrac)], narrowed := true }
def FnPlateNearUptoSaid : Prop := fnPlateNearUptoRow.holds Tryd.pinned (OpenSpec.upto fnPlateNearSpec)

/-- 'laws.FnPlateInOver', WHERE WHAT IT READS IS OF BULK AT MOST 1048576: true; the input reads as it did. -/
def fnPlateInOverUptoRow : OpenClaim := { program := "ytkefmnmoaomlhaadoor", sum := "a5a7c72ad8b4a018ecee06c12e80c7c97c98d7450147243d87811bfbe1ac832f", func := "loop.example/mortiser/laws.FnPlateInOver", spec := "fnPlateInOver", inPlace := ["internal/reflectlite.TypeOf"], unfollowed := true, recurses := true, named := ["loop.example/mortiser/impl.errNoFrac"], ifaces := true, apart := false, laid := [("loop.example/mortiser/impl.errNoFrac", laid_loop_example_mortiser_impl_errNoFrac)], narrowed := true }
def FnPlateInOverUptoSaid : Prop := fnPlateInOverUptoRow.holds Tryd.pinned (OpenSpec.upto fnPlateInOverSpec)

/-- 'laws.FnExactPlateNear', WHERE WHAT IT READS IS OF BULK AT MOST 1048576: true; the input reads as it did. -/
def fnExactPlateNearUptoRow : OpenClaim := { program := "ytkefmnmoaomlhaadoor", sum := "a5a7c72ad8b4a018ecee06c12e80c7c97c98d7450147243d87811bfbe1ac832f", func := "loop.example/mortiser/laws.FnExactPlateNear", spec := "fnExactPlateNear", inPlace := ["internal/reflectlite.TypeOf"], unfollowed := true, recurses := true, named := ["loop.example/mortiser/impl.errNoFrac"], ifaces := true, apart := false, laid := [("loop.example/mortiser/impl.errNoFrac", laid_loop_example_mortiser_impl_errNoFrac)], narrowed := true }
def FnExactPlateNearUptoSaid : Prop := fnExactPlateNearUptoRow.holds Tryd.pinned (OpenSpec.upto fnExactPlateNearSpec)

end Rows
end Go.Proofs.YtkefmnmoaomlhaaDoor
