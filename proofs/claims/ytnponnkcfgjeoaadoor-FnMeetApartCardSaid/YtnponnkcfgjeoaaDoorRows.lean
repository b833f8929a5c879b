/-
  NARROWER THAN 'FOR EVERY INPUT', by the rows' own cells (each row's printed sentence says how): FnExactFracCmp: ifaces, laid · FnFracBad: ifaces, laid · FnFracWhole: ifaces, laid · FnFracOrder: ifaces, laid · FnFracThree: ifaces, laid · FnFarLonger: ifaces, laid · FnFarAll: ifaces, laid · FnExactSegApart: ifaces, laid · FnFarEnds: ifaces, laid · FnApartEnds: ifaces, laid · FnApartFar: ifaces, laid · FnMeetApart: ifaces, laid.
  DERIVED. THE GIVEN ROWS OF THIS SEAT. 12 by the template 'for every input the law returns true; each argument reads behind the call as it read before'; 0 by the template 'total and deterministic' (their statements: YtnponnkcfgjeoaaDoorTotals.lean).
  GIVEN WITH THE SEED: the statements are not yours to turn. If you find one false, say at which input.
  Laid BY PROGRAM, IN A SANDBOX (cutbox-rows.mjs): the forced cells as the released guide's own fill.sh prints them over the translation 52aa298b635313c6… (all of the seat's roots in one cut). By AI agents, Wed Nov 11 2026. No macro, syntax, notation, axiom, sorry.
-/
import Derived.Test.YtnponnkcfgjeoaaDoorChecked
import GoSem.Claim
import GoSem.ClaimJoined
import GoSem.ClaimMapViews
import Derived.JoinedTies
import Derived.KernelRfl
namespace Go.Proofs.YtnponnkcfgjeoaaDoor
/- THE CELL 'sum', in the pinned program and in every row, IS THE sha256 OF THE DUMP (.gsa) THAT YtnponnkcfgjeoaaDoorProg.lean LOADS. Nothing in Lean hashes anything: it is a label: what it is worth is what the hold of that sum in a sandbox is worth. -/
noncomputable def Tryd.pinned : Pinned := { name := "ytnponnkcfgjeoaadoor", sum := "52aa298b635313c64a30a0f462da4435c0f855a3bcfa1f5681f11f8ed45b79a8", checked := Tryd.checked }
namespace Rows
def none {H : Type} : Left H := { results := [], args := [] }

/- WHAT THE LISTED PACKAGE-LEVEL VARIABLES READ AS WHEN THE CALL BEGINS. Each datum BY PROGRAM (the guide's laid-datum.mjs) off the statement by which the dump's own 'gosem.cut.vars' lays the variable. In a bare row this is a premise. The card (YtnponnkcfgjeoaaDoorCards.lean) ties it to the program's text. -/
def laid_loop_example_mortiser_impl_errNoFrac {H : Type} : DataW H := .iface "*errors.errorString" (.ptr (.agg [.lit (.string [110, 111, 32, 102, 114, 97, 99, 116, 105, 111, 110])]))

/-- 'laws.FnExactFracCmp': WHATEVER THE INPUT: true; the input reads as it did. -/
def fnExactFracCmpSpec : ChangeSpec := { name := "fnExactFracCmp", vars := ["loop.example/mortiser/impl.errNoFrac"], fn := fun _ => fun
  | [d1, d2, g1] => { results := [.lit (.bool true)], args := [d1, d2], vars := [g1] }
  | _ => none }
def fnExactFracCmpRow : OpenClaim := { program := "ytnponnkcfgjeoaadoor", sum := "52aa298b635313c64a30a0f462da4435c0f855a3bcfa1f5681f11f8ed45b79a8", func := "loop.example/mortiser/laws.FnExactFracCmp", spec := "fnExactFracCmp", inPlace := ["internal/reflectlite.TypeOf"], unfollowed := true, recurses := true, named := ["loop.example/mortiser/impl.errNoFrac"], ifaces := true, apart := false, laid := [("loop.example/mortiser/impl.errNoFrac", laid_loop_example_mortiser_impl_errNoFrac)] }
def FnExactFracCmpSaid : Prop := fnExactFracCmpRow.holds Tryd.pinned (OpenSpec.ofChange fnExactFracCmpSpec)

/-- ITS FALSE NEIGHBOUR: 'it returns false'. Refute it at one input. -/
def fnExactFracCmpWrong : ChangeSpec := { name := "fnExactFracCmp", vars := ["loop.example/mortiser/impl.errNoFrac"], fn := fun _ => fun
  | [d1, d2, g1] => { results := [.lit (.bool false)], args := [d1, d2], vars := [g1] }
  | _ => none }
def FnExactFracCmpWrongFalsely : Prop := fnExactFracCmpRow.holds Tryd.pinned (OpenSpec.ofChange fnExactFracCmpWrong)

/-- 'laws.FnFracBad': WHATEVER THE INPUT: true; the input reads as it did. -/
def fnFracBadSpec : ChangeSpec := { name := "fnFracBad", vars := ["loop.example/mortiser/impl.errNoFrac"], fn := fun _ => fun
  | [d1, d2, g1] => { results := [.lit (.bool true)], args := [d1, d2], vars := [g1] }
  | _ => none }
def fnFracBadRow : OpenClaim := { program := "ytnponnkcfgjeoaadoor", sum := "52aa298b635313c64a30a0f462da4435c0f855a3bcfa1f5681f11f8ed45b79a8", func := "loop.example/mortiser/laws.FnFracBad", spec := "fnFracBad", inPlace := ["internal/reflectlite.TypeOf"], unfollowed := true, recurses := true, named := ["loop.example/mortiser/impl.errNoFrac"], ifaces := true, apart := false, laid := [("loop.example/mortiser/impl.errNoFrac", laid_loop_example_mortiser_impl_errNoFrac)] }
def FnFracBadSaid : Prop := fnFracBadRow.holds Tryd.pinned (OpenSpec.ofChange fnFracBadSpec)

/-- ITS FALSE NEIGHBOUR: 'it returns false'. Refute it at one input. -/
def fnFracBadWrong : ChangeSpec := { name := "fnFracBad", vars := ["loop.example/mortiser/impl.errNoFrac"], fn := fun _ => fun
  | [d1, d2, g1] => { results := [.lit (.bool false)], args := [d1, d2], vars := [g1] }
  | _ => none }
def FnFracBadWrongFalsely : Prop := fnFracBadRow.holds Tryd.pinned (OpenSpec.ofChange fnFracBadWrong)

/-- 'laws.FnFracWhole': WHATEVER THE INPUT: true; the input reads as it did. -/
def fnFracWholeSpec : ChangeSpec := { name := "fnFracWhole", vars := ["loop.example/mortiser/impl.errNoFrac"], fn := fun _ => fun
  | [d, g1] => { results := [.lit (.bool true)], args := [d], vars := [g1] }
  | _ => none }
def fnFracWholeRow : OpenClaim := { program := "ytnponnkcfgjeoaadoor", sum := "52aa298b635313c64a30a0f462da4435c0f855a3bcfa1f5681f11f8ed45b79a8", func := "loop.example/mortiser/laws.FnFracWhole", spec := "fnFracWhole", inPlace := ["internal/reflectlite.TypeOf"], unfollowed := true, recurses := true, named := ["loop.example/mortiser/impl.errNoFrac"], ifaces := true, apart := false, laid := [("loop.example/mortiser/impl.errNoFrac", laid_loop_example_mortiser_impl_errNoFrac)] }
def FnFracWholeSaid : Prop := fnFracWholeRow.holds Tryd.pinned (OpenSpec.ofChange fnFracWholeSpec)

/-- ITS FALSE NEIGHBOUR: 'it returns false'. Refute it at one input. -/
def fnFracWholeWrong : ChangeSpec := { name := "fnFracWhole", vars := ["loop.example/mortiser/impl.errNoFrac"], fn := fun _ => fun
  | [d, g1] => { results := [.lit (.bool false)], args := [d], vars := [g1] }
  | _ => none }
def FnFracWholeWrongFalsely : Prop := fnFracWholeRow.holds Tryd.pinned (OpenSpec.ofChange fnFracWholeWrong)

/-- 'laws.FnFracOrder': WHATEVER THE INPUT: true; the input reads as it did. -/
def fnFracOrderSpec : ChangeSpec := { name := "fnFracOrder", vars := ["loop.example/mortiser/impl.errNoFrac"], fn := fun _ => fun
  | [d, g1] => { results := [.lit (.bool true)], args := [d], vars := [g1] }
  | _ => none }
def fnFracOrderRow : OpenClaim := { program := "ytnponnkcfgjeoaadoor", sum := "52aa298b635313c64a30a0f462da4435c0f855a3bcfa1f5681f11f8ed45b79a8", func := "loop.example/mortiser/laws.FnFracOrder", spec := "fnFracOrder", inPlace := ["internal/reflectlite.TypeOf"], unfollowed := true, recurses := true, named := ["loop.example/mortiser/impl.errNoFrac"], ifaces := true, apart := false, laid := [("loop.example/mortiser/impl.errNoFrac", laid_loop_example_mortiser_impl_errNoFrac)] }
def FnFracOrderSaid : Prop := fnFracOrderRow.holds Tryd.pinned (OpenSpec.ofChange fnFracOrderSpec)

/-- ITS FALSE NEIGHBOUR: 'it returns false'. Refute it at one input. -/
def fnFracOrderWrong : ChangeSpec := { name := "fnFracOrder", vars := ["loop.example/mortiser/impl.errNoFrac"], fn := fun _ => fun
  | [d, g1] => { results := [.lit (.bool false)], args := [d], vars := [g1] }
  | _ => none }
def FnFracOrderWrongFalsely : Prop := fnFracOrderRow.holds Tryd.pinned (OpenSpec.ofChange fnFracOrderWrong)

/-- 'laws.FnFracThree': WHATEVER THE INPUT: true; the input reads as it did. -/
def fnFracThreeSpec : ChangeSpec := { name := "fnFracThree", vars := ["loop.example/mortiser/impl.errNoFrac"], fn := fun _ => fun
  | [d1, d2, g1] => { results := [.lit (.bool true)], args := [d1, d2], vars := [g1] }
  | _ => none }
def fnFracThreeRow : OpenClaim := { program := "ytnponnkcfgjeoaadoor", sum := "52aa298b635313c64a30a0f462da4435c0f855a3bcfa1f5681f11f8ed45b79a8", func := "loop.example/mortiser/laws.FnFracThree", spec := "fnFracThree", inPlace := ["internal/reflectlite.TypeOf"], unfollowed := true, recurses := true, named := ["loop.example/mortiser/impl.errNoFrac"], ifaces := true, apart := false, laid := [("loop.example/mortiser/impl.errNoFrac", laid_loop_example_mortiser_impl_errNoFrac)] }
def FnFracThreeSaid : Prop := fnFracThreeRow.holds Tryd.pinned (OpenSpec.ofChange fnFracThreeSpec)

/-- ITS FALSE NEIGHBOUR: 'it returns false'. Refute it at one input. -/
def fnFracThreeWrong : ChangeSpec := { name := "fnFracThree", vars := ["loop.example/mortiser/impl.errNoFrac"], fn := fun _ => fun
  | [d1, d2, g1] => { results := [.lit (.bool false)], args := [d1, d2], vars := [g1] }
  | _ => none }
def FnFracThreeWrongFalsely : Prop := fnFracThreeRow.holds Tryd.pinned (OpenSpec.ofChange fnFracThreeWrong)

/-- 'laws.FnFarLonger': WHATEVER THE INPUT: true; the input reads as it did. -/
def fnFarLongerSpec : ChangeSpec := { name := "fnFarLonger", vars := ["loop.example/mortiser/impl.errNoFrac"], fn := fun _ => fun
  | [d, g1] => { results := [.lit (.bool true)], args := [d], vars := [g1] }
  | _ => none }
def fnFarLongerRow : OpenClaim := { program := "ytnponnkcfgjeoaadoor", sum := "52aa298b635313c64a30a0f462da4435c0f855a3bcfa1f5681f11f8ed45b79a8", func := "loop.example/mortiser/laws.FnFarLonger", spec := "fnFarLonger", inPlace := ["internal/reflectlite.TypeOf"], unfollowed := true, recurses := true, named := ["loop.example/mortiser/impl.errNoFrac"], ifaces := true, apart := false, laid := [("loop.example/mortiser/impl.errNoFrac", laid_loop_example_mortiser_impl_errNoFrac)] }
def FnFarLongerSaid : Prop := fnFarLongerRow.holds Tryd.pinned (OpenSpec.ofChange fnFarLongerSpec)

/-- ITS FALSE NEIGHBOUR: 'it returns false'. Refute it at one input. -/
def fnFarLongerWrong : ChangeSpec := { name := "fnFarLonger", vars := ["loop.example/mortiser/impl.errNoFrac"], fn := fun _ => fun
  | [d, g1] => { results := [.lit (.bool false)], args := [d], vars := [g1] }
  | _ => none }
def FnFarLongerWrongFalsely : Prop := fnFarLongerRow.holds Tryd.pinned (OpenSpec.ofChange fnFarLongerWrong)

/-- 'laws.FnFarAll': WHATEVER THE INPUT: true; the input reads as it did. -/
def fnFarAllSpec : ChangeSpec := { name := "fnFarAll", vars := ["loop.example/mortiser/impl.errNoFrac"], fn := fun _ => fun
  | [d, g1] => { results := [.lit (.bool true)], args := [d], vars := [g1] }
  | _ => none }
def fnFarAllRow : OpenClaim := { program := "ytnponnkcfgjeoaadoor", sum := "52aa298b635313c64a30a0f462da4435c0f855a3bcfa1f5681f11f8ed45b79a8", func := "loop.example/mortiser/laws.FnFarAll", spec := "fnFarAll", inPlace := ["internal/reflectlite.TypeOf"], unfollowed := true, recurses := true, named := ["loop.example/mortiser/impl.errNoFrac"], ifaces := true, apart := false, laid := [("loop.example/mortiser/impl.errNoFrac", laid_loop_example_mortiser_impl_errNoFrac)] }
def FnFarAllSaid : Prop := fnFarAllRow.holds Tryd.pinned (OpenSpec.ofChange fnFarAllSpec)

/-- ITS FALSE NEIGHBOUR: 'it returns false'. Refute it at one input. -/
def fnFarAllWrong : ChangeSpec := { name := "fnFarAll", vars := ["loop.example/mortiser/impl.errNoFrac"], fn := fun _ => fun
  | [d, g1] => { results := [.lit (.bool false)], args := [d], vars := [g1] }
  | _ => none }
def FnFarAllWrongFalsely : Prop := fnFarAllRow.holds Tryd.pinned (OpenSpec.ofChange fnFarAllWrong)

/-- 'laws.FnExactSegApart': WHATEVER THE INPUT: true; the input reads as it did. -/
def fnExactSegApartSpec : ChangeSpec := { name := "fnExactSegApart", vars := ["loop.example/mortiser/impl.errNoFrac"], fn := fun _ => fun
  | [d1, d2, g1] => { results := [.lit (.bool true)], args := [d1, d2], vars := [g1] }
  | _ => none }
def fnExactSegApartRow : OpenClaim := { program := "ytnponnkcfgjeoaadoor", sum := "52aa298b635313c64a30a0f462da4435c0f855a3bcfa1f5681f11f8ed45b79a8", func := "loop.example/mortiser/laws.FnExactSegApart", spec := "fnExactSegApart", inPlace := ["internal/reflectlite.TypeOf"], unfollowed := true, recurses := true, named := ["loop.example/mortiser/impl.errNoFrac"], ifaces := true, apart := false, laid := [("loop.example/mortiser/impl.errNoFrac", laid_loop_example_mortiser_impl_errNoFrac)] }
def FnExactSegApartSaid : Prop := fnExactSegApartRow.holds Tryd.pinned (OpenSpec.ofChange fnExactSegApartSpec)

/-- ITS FALSE NEIGHBOUR: 'it returns false'. Refute it at one input. -/
def fnExactSegApartWrong : ChangeSpec := { name := "fnExactSegApart", vars := ["loop.example/mortiser/impl.errNoFrac"], fn := fun _ => fun
  | [d1, d2, g1] => { results := [.lit (.bool false)], args := [d1, d2], vars := [g1] }
  | _ => none }
def FnExactSegApartWrongFalsely : Prop := fnExactSegApartRow.holds Tryd.pinned (OpenSpec.ofChange fnExactSegApartWrong)

/-- 'laws.FnFarEnds': WHATEVER THE INPUT: true; the input reads as it did. -/
def fnFarEndsSpec : ChangeSpec := { name := "fnFarEnds", vars := ["loop.example/mortiser/impl.errNoFrac"], fn := fun _ => fun
  | [d, g1] => { results := [.lit (.bool true)], args := [d], vars := [g1] }
  | _ => none }
def fnFarEndsRow : OpenClaim := { program := "ytnponnkcfgjeoaadoor", sum := "52aa298b635313c64a30a0f462da4435c0f855a3bcfa1f5681f11f8ed45b79a8", func := "loop.example/mortiser/laws.FnFarEnds", spec := "fnFarEnds", inPlace := ["internal/reflectlite.TypeOf"], unfollowed := true, recurses := true, named := ["loop.example/mortiser/impl.errNoFrac"], ifaces := true, apart := false, laid := [("loop.example/mortiser/impl.errNoFrac", laid_loop_example_mortiser_impl_errNoFrac)] }
def FnFarEndsSaid : Prop := fnFarEndsRow.holds Tryd.pinned (OpenSpec.ofChange fnFarEndsSpec)

/-- ITS FALSE NEIGHBOUR: 'it returns false'. Refute it at one input. -/
def fnFarEndsWrong : ChangeSpec := { name := "fnFarEnds", vars := ["loop.example/mortiser/impl.errNoFrac"], fn := fun _ => fun
  | [d, g1] => { results := [.lit (.bool false)], args := [d], vars := [g1] }
  | _ => none }
def FnFarEndsWrongFalsely : Prop := fnFarEndsRow.holds Tryd.pinned (OpenSpec.ofChange fnFarEndsWrong)

/-- 'laws.FnApartEnds': WHATEVER THE INPUT: true; the input reads as it did. -/
def fnApartEndsSpec : ChangeSpec := { name := "fnApartEnds", vars := ["loop.example/mortiser/impl.errNoFrac"], fn := fun _ => fun
  | [d, g1] => { results := [.lit (.bool true)], args := [d], vars := [g1] }
  | _ => none }
def fnApartEndsRow : OpenClaim := { program := "ytnponnkcfgjeoaadoor", sum := "52aa298b635313c64a30a0f462da4435c0f855a3bcfa1f5681f11f8ed45b79a8", func := "loop.example/mortiser/laws.FnApartEnds", spec := "fnApartEnds", inPlace := ["internal/reflectlite.TypeOf"], unfollowed := true, recurses := true, named := ["loop.example/mortiser/impl.errNoFrac"], ifaces := true, apart := false, laid := [("loop.example/mortiser/impl.errNoFrac", laid_loop_example_mortiser_impl_errNoFrac)] }
def FnApartEndsSaid : Prop := fnApartEndsRow.holds Tryd.pinned (OpenSpec.ofChange fnApartEndsSpec)

/-- ITS FALSE NEIGHBOUR: 'it returns false'. Refute it at one input. -/
def fnApartEndsWrong : ChangeSpec := { name := "fnApartEnds", vars := ["loop.example/mortiser/impl.errNoFrac"], fn := fun _ => fun
  | [d, g1] => { results := [.lit (.bool false)], args := [d], vars := [g1] }
  | _ => none }
def FnApartEndsWrongFalsely : Prop := fnApartEndsRow.holds Tryd.pinned (OpenSpec.ofChange fnApartEndsWrong)

/-- 'laws.FnApartFar': WHATEVER THE INPUT: true; the input reads as it did. -/
def fnApartFarSpec : ChangeSpec := { name := "fnApartFar", vars := ["loop.example/mortiser/impl.errNoFrac"], fn := fun _ => fun
  | [d, g1] => { results := [.lit (.bool true)], args := [d], vars := [g1] }
  | _ => none }
def fnApartFarRow : OpenClaim := { program := "ytnponnkcfgjeoaadoor", sum := "52aa298b635313c64a30a0f462da4435c0f855a3bcfa1f5681f11f8ed45b79a8", func := "loop.example/mortiser/laws.FnApartFar", spec := "fnApartFar", inPlace := ["internal/reflectlite.TypeOf"], unfollowed := true, recurses := true, named := ["loop.example/mortiser/impl.errNoFrac"], ifaces := true, apart := false, laid := [("loop.example/mortiser/impl.errNoFrac", laid_loop_example_mortiser_impl_errNoFrac)] }
def FnApartFarSaid : Prop := fnApartFarRow.holds Tryd.pinned (OpenSpec.ofChange fnApartFarSpec)

/-- ITS FALSE NEIGHBOUR: 'it returns false'. Refute it at one input. -/
def fnApartFarWrong : ChangeSpec := { name := "fnApartFar", vars := ["loop.example/mortiser/impl.errNoFrac"], fn := fun _ => fun
  | [d, g1] => { results := [.lit (.bool false)], args := [d], vars := [g1] }
  | _ => none }
def FnApartFarWrongFalsely : Prop := fnApartFarRow.holds Tryd.pinned (OpenSpec.ofChange fnApartFarWrong)

/-- 'laws.FnMeetApart': WHATEVER THE INPUT: true; the input reads as it did. -/
def fnMeetApartSpec : ChangeSpec := { name := "fnMeetApart", vars := ["loop.example/mortiser/impl.errNoFrac"], fn := fun _ => fun
  | [d, g1] => { results := [.lit (.bool true)], args := [d], vars := [g1] }
  | _ => none }
def fnMeetApartRow : OpenClaim := { program := "ytnponnkcfgjeoaadoor", sum := "52aa298b635313c64a30a0f462da4435c0f855a3bcfa1f5681f11f8ed45b79a8", func := "loop.example/mortiser/laws.FnMeetApart", spec := "fnMeetApart", inPlace := ["internal/reflectlite.TypeOf"], unfollowed := true, recurses := true, named := ["loop.example/mortiser/impl.errNoFrac"], ifaces := true, apart := false, laid := [("loop.example/mortiser/impl.errNoFrac", laid_loop_example_mortiser_impl_errNoFrac)] }
def FnMeetApartSaid : Prop := fnMeetApartRow.holds Tryd.pinned (OpenSpec.ofChange fnMeetApartSpec)

/-- ITS FALSE NEIGHBOUR: 'it returns false'. Refute it at one input. -/
def fnMeetApartWrong : ChangeSpec := { name := "fnMeetApart", vars := ["loop.example/mortiser/impl.errNoFrac"], fn := fun _ => fun
  | [d, g1] => { results := [.lit (.bool false)], args := [d], vars := [g1] }
  | _ => none }
def FnMeetApartWrongFalsely : Prop := fnMeetApartRow.holds Tryd.pinned (OpenSpec.ofChange fnMeetApartWrong)

/- THE SECOND FORM. 'bulk': how many values and letters a reading holds, each counted each time it is reached (what is shared counts as often as it is met; a slice's spare places count too). A statement '..UptoSaid' is the law's where the arguments, and the package variables that the reading takes, are together of bulk at most 1048576: NARROWER than '..Said'. Prove '..Said' where nothing that the law and all that it calls make is longer than what came in: it says more and counts as full. Else prove '..UptoSaid'. A law counts once. -/
mutual
def uptoBulk {H : Type} : DataW H → Nat
  | .lit (.string bytes) => bytes.length + 1
  | .lit _ => 1
  | .nil => 1
  | .ptr d => uptoBulk d + 1
  | .slice elems spare => uptoBulkAll elems + uptoBulkAll spare + 1
  | .agg parts => uptoBulkAll parts + 1
  | .iface _ d => uptoBulk d + 1
  | .map entries => uptoBulkEntries entries + 1
  | .held _ => 1
def uptoBulkAll {H : Type} : List (DataW H) → Nat
  | [] => 0
  | d :: r => uptoBulk d + uptoBulkAll r
def uptoBulkEntries {H : Type} : List (Lit × DataW H) → Nat
  | [] => 0
  | x :: r => uptoBulkEntry x + uptoBulkEntries r
def uptoBulkEntry {H : Type} : Lit × DataW H → Nat
  | (.string bytes, d) => bytes.length + uptoBulk d + 1
  | (_, d) => uptoBulk d + 1
 end
def uptoSmall : (H : Type) → List (DataW H) → Bool := fun _ ds => decide (uptoBulkAll ds ≤ 1048576)
def OpenSpec.upto (s : _root_.Go.ChangeSpec) : _root_.Go.OpenSpec := { _root_.Go.OpenSpec.ofChange s with cond := some uptoSmall }

/-- 'laws.FnExactFracCmp', WHERE WHAT IT READS IS OF BULK AT MOST 1048576: true; the input reads as it did. -/
def fnExactFracCmpUptoRow : OpenClaim := { program := "ytnponnkcfgjeoaadoor", sum := "52aa298b635313c64a30a0f462da4435c0f855a3bcfa1f5681f11f8ed45b79a8", func := "loop.example/mortiser/laws.FnExactFracCmp", spec := "fnExactFracCmp", inPlace := ["internal/reflectlite.TypeOf"], unfollowed := true, recurses := true, named := ["loop.example/mortiser/impl.errNoFrac"], ifaces := true, apart := false, laid := [("loop.example/mortiser/impl.errNoFrac", laid_loop_example_mortiser_impl_errNoFrac)], narrowed := true }
def FnExactFracCmpUptoSaid : Prop := fnExactFracCmpUptoRow.holds Tryd.pinned (OpenSpec.upto fnExactFracCmpSpec)

/-- 'laws.FnFracBad', WHERE WHAT IT READS IS OF BULK AT MOST 1048576: true; the input reads as it did. -/
def fnFracBadUptoRow : OpenClaim := { program := "ytnponnkcfgjeoaadoor", sum := "52aa298b635313c64a30a0f462da4435c0f855a3bcfa1f5681f11f8ed45b79a8", func := "loop.example/mortiser/laws.FnFracBad", spec := "fnFracBad", inPlace := ["internal/reflectlite.TypeOf"], unfollowed := true, recurses := true, named := ["loop.example/mortiser/impl.errNoFrac"], ifaces := true, apart := false, laid := [("loop.example/mortiser/impl.errNoFrac", laid_loop_example_mortiser_impl_errNoFrac)], narrowed := true }
def FnFracBadUptoSaid : Prop := fnFracBadUptoRow.holds Tryd.pinned (OpenSpec.upto fnFracBadSpec)

/-- 'laws.FnFracWhole', WHERE WHAT IT READS IS OF BULK AT MOST 1048576: true; the input reads as it did. -/
def fnFracWholeUptoRow : OpenClaim := { program := "ytnponnkcfgjeoaadoor", sum := "52aa298b635313c64a30a0f462da4435c0f855a3bcfa1f5681f11f8ed45b79a8", func := "loop.example/mortiser/laws.FnFracWhole", spec := "fnFracWhole", inPlace := ["internal/reflectlite.TypeOf"], unfollowed := true, recurses := true, named := ["loop.example/mortiser/impl.errNoFrac"], ifaces := true, apart := false, laid := [("loop.example/mortiser/impl.errNoFrac", laid_loop_example_mortiser_impl_errNoFrac)], narrowed := true }
def FnFracWholeUptoSaid : Prop := fnFracWholeUptoRow.holds Tryd.pinned (OpenSpec.upto fnFracWholeSpec)

/-- 'laws.FnFracOrder', WHERE WHAT IT READS IS OF BULK AT MOST 1048576: true; the input reads as it did. -/
def fnFracOrderUptoRow : OpenClaim := { program := "ytnponnkcfgjeoaadoor", sum := "52aa298b635313c64a30a0f462da4435c0f855a3bcfa1f5681f11f8ed45b79a8", func := "loop.example/mortiser/laws.FnFracOrder", spec := "fnFracOrder", inPlace := ["internal/reflectlite.TypeOf"], unfollowed := true, recurses := true, named := ["loop.example/mortiser/impl.errNoFrac"], ifaces := true, apart := false, laid := [("loop.example/mortiser/impl.errNoFrac", laid_loop_example_mortiser_impl_errNoFrac)], narrowed := true }
def FnFracOrderUptoSaid : Prop := fnFracOrderUptoRow.holds Tryd.pinned (OpenSpec.upto fnFracOrderSpec)

/-- 'laws.FnFracThree', WHERE WHAT IT READS IS OF BULK AT MOST 1048576: true; the input reads as it did. -/
def fnFracThreeUptoRow : OpenClaim := { program := "ytnponnkcfgjeoaadoor", sum := "52aa298b635313c64a30a0f462da4435c0f855a3bcfa1f5681f11f8ed45b79a8", func := "loop.example/mortiser/laws.FnFracThree", spec := "fnFracThree", inPlace := ["internal/reflectlite.TypeOf"], unfollowed := true, recurses := true, named := ["loop.example/mortiser/impl.errNoFrac"], ifaces := true, apart := false, laid := [("loop.example/mortiser/impl.errNoFrac", laid_loop_example_mortiser_impl_errNoFrac)], narrowed := true }
def FnFracThreeUptoSaid : Prop := fnFracThreeUptoRow.holds Tryd.pinned (OpenSpec.upto fnFracThreeSpec)

/-- 'laws.FnFarLonger', WHERE WHAT IT READS IS OF BULK AT MOST 1048576: true; the input reads as it did. -/
def fnFarLongerUptoRow : OpenClaim := { program := "ytnponnkcfgjeoaadoor", sum := "52aa298b635313c64a30a0f462da4435c0f855a3bcfa1f5681f11f8ed45b79a8", func := "loop.example/mortiser/laws.FnFarLonger", spec := "fnFarLonger", inPlace := ["internal/reflectlite.TypeOf"], unfollowed := true, recurses := true, named := ["loop.example/mortiser/impl.errNoFrac"], ifaces := true, apart := false, laid := [("loop.example/mortiser/impl.errNoFrac", laid_loop_example_mortiser_impl_errNoFrac)], narrowed := true }
def FnFarLongerUptoSaid : Prop := fnFarLongerUptoRow.holds Tryd.pinned (OpenSpec.upto fnFarLongerSpec)

/-- 'laws.FnFarAll', WHERE WHAT IT READS IS OF BULK AT MOST 1048576: true; the input reads as it did. -/
def fnFarAllUptoRow : OpenClaim := { program := "ytnponnkcfgjeoaadoor", sum := "52aa298b635313c64a30a0f462da4435c0f855a3bcfa1f5681f11f8ed45b79a8", func := "loop.example/mortiser/laws.FnFarAll", spec := "fnFarAll", inPlace := ["internal/reflectlite.TypeOf"], unfollowed := true, recurses := true, named := ["loop.example/mortiser/impl.errNoFrac"], ifaces := true, apart := false, laid := [("loop.example/mortiser/impl.errNoFrac", laid_loop_example_mortiser_impl_errNoFrac)], narrowed := true }
def FnFarAllUptoSaid : Prop := fnFarAllUptoRow.holds Tryd.pinned (OpenSpec.upto fnFarAllSpec)

/-- 'laws.FnExactSegApart', WHERE WHAT IT READS IS OF BULK AT MOST 1048576: true; the input reads as it did. -/
def fnExactSegApartUptoRow : OpenClaim := { program := "ytnponnkcfgjeoaadoor", sum := "52aa298b635313c64a30a0f462da4435c0f855a3bcfa1f5681f11f8ed45b79a8", func := "loop.example/mortiser/laws.FnExactSegApart", spec := "fnExactSegApart", inPlace := ["internal/reflectlite.TypeOf"], unfollowed := true, recurses := true, named := ["loop.example/mortiser/impl.errNoFrac"], ifaces := true, apart := false, laid := [("loop.example/mortiser/impl.errNoFrac", laid_loop_example_mortiser_impl_errNoFrac)], narrowed := true }
def FnExactSegApartUptoSaid : Prop := fnExactSegApartUptoRow.holds Tryd.pinned (OpenSpec.upto fnExactSegApartSpec)

/-- 'laws.FnFarEnds', WHERE WHAT IT READS IS OF BULK AT MOST 1048576: true; the input reads as it did. -/
def fnFarEndsUptoRow : OpenClaim := { program := "ytnponnkcfgjeoaadoor", sum := "52aa298b635313c64a30a0f462da4435c0f855a3bcfa1f5681f11f8ed45b79a8", func := "loop.example/mortiser/laws.FnFarEnds", spec := "fnFarEnds", inPlace := ["internal/reflectlite.TypeOf"], unfollowed := true, recurses := true, named := ["loop.example/mortiser/impl.errNoFrac"], ifaces := true, apart := false, laid := [("loop.example/mortiser/impl.errNoFrac", laid_loop_example_mortiser_impl_errNoFrac)], narrowed := true }
def FnFarEndsUptoSaid : Prop := fnFarEndsUptoRow.holds Tryd.pinned (OpenSpec.upto fnFarEndsSpec)

/-- 'laws.FnApartEnds', WHERE WHAT IT READS IS OF BULK AT MOST 1048576: true; the input reads as it did. -/
def fnApartEndsUptoRow : OpenClaim := { program := "ytnponnkcfgjeoaadoor", sum := "52aa298b635313c64a30a0f462da4435c0f855a3bcfa1f5681f11f8ed45b79a8", func := "loop.example/mortiser/laws.FnApartEnds", spec := "fnApartEnds", inPlace := ["internal/reflectlite.TypeOf"], unfollowed := true, recurses := true, named := ["loop.example/mortiser/impl.errNoFrac"], ifaces := true, apart := false, laid := [("loop.example/mortiser/impl.errNoFrac", laid_loop_example_mortiser_impl_errNoFrac)], narrowed := true }
def FnApartEndsUptoSaid : Prop := fnApartEndsUptoRow.holds Tryd.pinned (OpenSpec.upto fnApartEndsSpec)

/-- 'laws.FnApartFar', WHERE WHAT IT READS IS OF BULK AT MOST 1048576: true; the input reads as it did. -/
def fnApartFarUptoRow : OpenClaim := { program := "ytnponnkcfgjeoaadoor", sum := "52aa298b635313c64a30a0f462da4435c0f855a3bcfa1f5681f11f8ed45b79a8", func := "loop.example/mortiser/laws.FnApartFar", spec := "fnApartFar", inPlace := ["internal/reflectlite.TypeOf"], unfollowed := true, recurses := true, named := ["loop.example/mortiser/impl.errNoFrac"], ifaces := true, apart := false, laid := [("loop.example/mortiser/impl.errNoFrac", laid_loop_example_mortiser_impl_errNoFrac)], narrowed := true }
def FnApartFarUptoSaid : Prop := fnApartFarUptoRow.holds Tryd.pinned (OpenSpec.upto fnApartFarSpec)

/-- 'laws.FnMeetApart', WHERE WHAT IT READS IS OF BULK AT MOST 1048576: true; the input reads as it did. -/
def fnMeetApartUptoRow : OpenClaim := { program := "ytnponnkcfgjeoaadoor", sum := "52aa298b635313c64a30a0f462da4435c0f855a3bcfa1f5681f11f8ed45b79a8", func := "loop.example/mortiser/laws.FnMeetApart", spec := "fnMeetApart", inPlace := ["internal/reflectlite.TypeOf"], unfollowed := true, recurses := true, named := ["loop.example/mortiser/impl.errNoFrac"], ifaces := true, apart := false, laid := [("loop.example/mortiser/impl.errNoFrac", laid_loop_example_mortiser_impl_errNoFrac)], narrowed := true }
def FnMeetApartUptoSaid : Prop := fnMeetApartUptoRow.holds Tryd.pinned (OpenSpec.upto fnMeetApartSpec)

end Rows
end Go.Proofs.YtnponnkcfgjeoaaDoor
