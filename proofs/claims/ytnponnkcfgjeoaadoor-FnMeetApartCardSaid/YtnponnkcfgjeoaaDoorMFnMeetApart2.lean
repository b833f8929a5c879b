/- FnMeetApart: the law returns true for every input, and each input reads behind the call as before; part 2 of 7. No condition. Merged by program out of: Squeeze, Is, Err, Laid, K, Q, FImplAlong, FImplBetween, FImplCross, FImplPtOk, FImplSegOk, FImplSegHas, FImplSegTurn, FImplSegMeet, FLawsLuMirror, FLawsLuSwap, FLawsLuSeg, FLawsLuZero, FSpecL6RdPick, FSpecL6Open. -/
import Derived.Test.YtnponnkcfgjeoaaDoorMFnMeetApart1
import Derived.WalkKit
import Derived.LaidEql
import Derived.Stop.Asserts
import Derived.RowKitTokens
import Derived.Test.YtnponnkcfgjeoaaDoorChecked
import Derived.ChangeSame
import Derived.ChangeVars
import Derived.JoinedOf
import Derived.RowKit
import Derived.LaidLaws
import Derived.Stop.ErrReads
import Derived.Stop.LaidErr
import Derived.WalkSmall
import Derived.Test.YtnponnkcfgjeoaaDoorRows
import Derived.Test.YtnponnkcfgjeoaaDoorCards
import Derived.Test.YtnponnkcfgjeoaaDoorTie
import Derived.Below
import Derived.Deep.Draws
import Derived.Deep.AppendLies
import Derived.Maps.AppendAt
import Derived.OwnWalk
import Derived.Laws.BytesArg
import Derived.Laws.MakeOwn
import Derived.Laws.OwnMore
import Derived.Deep.OwnRows
import Derived.Tactics
import Derived.Lib.ConvBytes
import Derived.Laws.Slices
import Derived.KernelRfl
import Derived.RowKit3
import Derived.Deep.LoopGhost
import Derived.Deep.QuietTactic
import Derived.BigQuiet
import Derived.WideLaws
import Derived.Deep.DeepCutAuto
import Derived.Deep.CutBlock
import Derived.Deep.RegionHeld3
import Derived.Laws.Rows
import Derived.Lib.AppendStr
import Derived.ArgAppend
import Derived.Laws.IdiomCopy
import Derived.OrdersHeld
import Derived.Laws.BitsLemmas
import Derived.Test.YtnponnkcfgjeoaaDoorProg
import Derived.RegionTactic
import Derived.ChangeAlike
import Derived.Outline
import Derived.Deep.RegionWith
import Derived.WalkLawsBesides
import Derived.Laws.Bits64
import Derived.LoopN
import Derived.SizedLaws
import Derived.ChangeSlices
import Derived.ProofKit
import Derived.OpenShut
import Derived.ShutString
import Derived.ChangeOld
import Derived.SevenTiedAt
section
set_option linter.unusedVariables false
namespace Go.Proofs.YtnponnkcfgjeoaaDoor.X
open Go.RowKit Go.Proofs.YtnponnkcfgjeoaaDoorW.PrintWords Go.Proofs.YtnponnkcfgjeoaaDoorW.PrintLast Go.Proofs.YtnponnkcfgjeoaaDoorW.PrintMore
/-! What the walks below leave out: a fact looked up among the facts laid aside; a block of tactics that stands at many places is a default argument here. -/
theorem uq_ {P : Prop} (h : P := by (with_reducible repeat (first | refine blk_drewN ?_ _ | refine blk_drew ?_ | refine blk_alloc ?_ _)); refine Aside0.out ?_; assumption) : P := h
theorem ub_ {w w' : World} {g : Nat} {o : Obj} (hb : Below w.heap.size w w') (h : w.heap[g]? = some o := by (with_reducible repeat (first | refine blk_drewN ?_ _ | refine blk_drew ?_ | refine blk_alloc ?_ _)); refine Aside0.out ?_; assumption) : w'.heap[g]? = some o := blk_below h hb
theorem hB_ {P : Prop} (h : P := by repeat (first | (with_reducible first | exact HB.out | apply below_alloc | apply pw_below_drewN | apply below_drew1 | refine below_set ?_ (Aside0.out (by assumption))) | exact HB.out)) : P := h
theorem ma_ {P : Prop} (h : P := by (try simp only [List.map_toArray, List.map_cons, List.map_nil]); first | done | rfl | (simp only [List.length_drop, List.length_take]; rfl)) : P := h
theorem bc_ {w : World} {g i : Nat} {t : TypeId} {cs : Array Value} {v : Value} (h : w.heap[g]? = some (.cells cs t (0, 0)) := by refine Aside0.out ?_; assumption) (e : cs[i]? = some v := by rfl) : w.cell? ⟨g, i, none⟩ = some v := (blk_cell h i).trans e
def bmL : Nat → Nat → List Bool
  | 0, _ => []
  | n + 1, m => (m % 2 == 1) :: bmL n (m / 2)
def bm (n m : Nat) : Array Bool := ⟨bmL n m⟩
end Go.Proofs.YtnponnkcfgjeoaaDoor.X
end
section
set_option linter.unusedVariables false
namespace Go.Proofs.YtnponnkcfgjeoaaDoor
open Go.RowKit Go.Extern.Stop Go.Stop Go.Extern
theorem isTypeOf (v : Value) (w : World) : (Extern.ReflectliteType.typeOf #[.iface 109 v]).run Tryd.prog w = .ok (.iface 99 (.agg #[.pointer (some ⟨1, 109, none⟩)])) w := by kernel_rfl
def cmpExt : Array Value → Sem Value := Extern.ReflectliteType.method fun t => do Extern.Rtype.noPackHeld "Comparable" t; pure (.bool (← typeInfo t).comparable)
theorem isComparable (w : World) : (cmpExt #[.agg #[.pointer (some ⟨1, 109, none⟩)]]).run Tryd.prog w = .ok (.bool true) w := by kernel_rfl
theorem isMethodComparable (v : Value) (w : World) : (Go.method 249 99 v "Comparable").run Tryd.prog w = .ok (97, v) w := by kernel_rfl
theorem isComp : (Tryd.prog.info? 109).map (·.comparable) = some true := by kernel_rfl
theorem isSize : (Tryd.prog.info? 137).map (·.size) = some 1 := by kernel_rfl
set_option maxRecDepth 100000 in
/-- errors.Is(x, x), x a pointer to an errors.errorString. -/
theorem is_same (a : Addr) (w : World) :
    Calls Tryd.prog 42 #[.iface 109 (.pointer (some a)), .iface 109 (.pointer (some a))] w fun e w' => e = .returned (.bool true) ∧ w = w' := by
  obtain ⟨i, hi, hcmp⟩ := Option.map_eq_some_iff.1 isComp
  obtain ⟨j, hj, hjs⟩ := Option.map_eq_some_iff.1 isSize
  have h8 := @run_callFunc_extern Tryd.prog 67 _ Extern.ReflectliteType.typeOf Tryd.func67 (by kernel_rfl) (by kernel_rfl) (by kernel_rfl) (by kernel_rfl)
  have h32 := @run_callFunc_extern Tryd.prog 97 _ cmpExt Tryd.func97 (by kernel_rfl) (by kernel_rfl) (by kernel_rfl) (by kernel_rfl)
  have tT := isTypeOf
  have cT := isComparable
  have mR := isMethodComparable
  have heq := run_eql_iface_ptr_same (P := Tryd.prog) w a Tryd.underlying64 Tryd.underlying109 hi hcmp hj
  go_enter Tryd.func42, Tryd.ntmps42
  go_wp2
  refine wp_loop_rounds 1 ?_
  rw [rounds_succ]
  go_wp2
  go_ret
  exact ⟨rfl, rfl⟩
/-- errors.Is(nil, x). -/
theorem is_nil (b : Addr) (w : World) :
    Calls Tryd.prog 42 #[.nilIface, .iface 109 (.pointer (some b))] w fun e w' => e = .returned (.bool false) ∧ w = w' := by
  have hn := run_eql_iface_nil_left (P := Tryd.prog) w 109 (.pointer (some b)) Tryd.underlying64
  go_enter Tryd.func42, Tryd.ntmps42
  go_wp2
  go_ret
  exact ⟨rfl, rfl⟩
end Go.Proofs.YtnponnkcfgjeoaaDoor
end
section
set_option linter.unusedVariables false
namespace Go.Proofs.YtnponnkcfgjeoaaDoor
open Go.RowKit Go.Proofs.YtnponnkcfgjeoaaDoorW.PrintWords
/-- errNoFrac's cell. -/
def ErrW (w : World) : Prop := ∃ a : Addr, w.cell? ⟨0, 0, none⟩ = some (.iface 109 (.pointer (some a)))
theorem ErrW.below {w w' : World} (h : ErrW w) (hb : Below w.heap.size w w') : ErrW w' := by
  obtain ⟨a, ha⟩ := h
  exact ⟨a, pw_cell_below hb ha⟩
end Go.Proofs.YtnponnkcfgjeoaaDoor
end
section
set_option linter.unusedVariables false
namespace Go.Proofs.YtnponnkcfgjeoaaDoor
open Go.ChangeShapes Go.WideShapes Go.RowKit Go.Proofs.YtnponnkcfgjeoaaDoorW.PrintWords
theorem own : ownKnob Tryd.prog.godebug = none := by kernel_rfl
theorem errGlobal : Tryd.prog.globalNamed "loop.example/mortiser/impl.errNoFrac" = some 0 := by kernel_rfl
theorem errType : (Tryd.prog.globals[0]?).map (·.type) = some 64 := by kernel_rfl
theorem errCells : Tryd.prog.cellsOf 137 = 1 := by kernel_rfl
theorem strCells : Tryd.prog.cellsOf 9 = 1 := by kernel_rfl
theorem errStar : "*" ++ "errors.errorString" = "*errors.errorString" := by decide
theorem errRow (u : TypeId) (h : Tryd.prog.typeName? 3 u = some "*errors.errorString") : u = 109 :=
  typeName_ptr_named (nm := "errors.errorString") (by rw [errStar]; kernel_rfl) (by kernel_rfl) (by decide) u (by rw [errStar]; exact h)
abbrev laidErr : List (String × DataW Unit) := [("loop.example/mortiser/impl.errNoFrac", Rows.laid_loop_example_mortiser_impl_errNoFrac)]
theorem err_of_laid {W : World} (h : laidMet Tryd.prog laidErr W) :
    ∃ (a : Addr) (s : ByteArray), W.var? Tryd.prog "loop.example/mortiser/impl.errNoFrac" = some #[.iface 109 (.pointer (some a))] ∧ W.cell? a = some (.string s) ∧ s.data.toList = [110, 111, 32, 102, 114, 97, 99, 116, 105, 111, 110] ∧ s.size ≤ maxLen :=
  laid_sentinel h errGlobal errType Tryd.underlying64 errRow Tryd.underlying109 Tryd.underlying137 rfl rfl Tryd.underlying9 errCells strCells
theorem ErrW.of_var {W : World} {a : Addr} (h : W.var? Tryd.prog "loop.example/mortiser/impl.errNoFrac" = some #[.iface 109 (.pointer (some a))]) : ErrW W :=
  ⟨a, by simpa using World.var?_cell errGlobal h 0⟩
theorem errBelow {W W' : World} {cs : Array Value} (hb : Below W.heap.size W W') (h : W.var? Tryd.prog "loop.example/mortiser/impl.errNoFrac" = some cs) : W'.var? Tryd.prog "loop.example/mortiser/impl.errNoFrac" = some cs := by
  have hlt : 0 < W.heap.size := by
    rcases Nat.lt_or_ge 0 W.heap.size with h' | h'
    · exact h'
    · unfold World.var? at h; rw [errGlobal] at h; simp [Array.getElem?_eq_none h'] at h
  exact var?_below hb errGlobal hlt h
abbrev errS : ByteArray := { data := #[110, 111, 32, 102, 114, 97, 99, 116, 105, 111, 110] }
noncomputable def low : Nat := (World.holding Tryd.prog default ⟨#[], #[], []⟩).heap.size
noncomputable def laidWorld (os : Os) : World :=
  let w0 := World.holding Tryd.prog os ⟨#[.cells #[.string errS] 137], #[], []⟩
  { w0 with heap := w0.heap.modify 0 fun
      | .cells _ t frozen => .cells #[.iface 109 (.pointer (some ⟨low, 0, none⟩))] t frozen
      | o => o }
theorem laidWorld_met (os : Os) (args : Array Value) : laidMet Tryd.prog laidErr ((laidWorld os).forCall (fun _ _ => 0) ⟨#[], args, []⟩).memory :=
  laidMet_of_run (ps := [.cell 0 0, .cell low 0]) 8 (by kernel_rfl) (by kernel_rfl) (by kernel_rfl)
theorem errVars {H : Type} (enc : TypeId × Value → H) {W : World} {x : Value} (h : W.var? Tryd.prog "loop.example/mortiser/impl.errNoFrac" = some #[x]) (ix : IsIface x) (sp : Nat → Bool) :
    DataW.TrodVars enc Tryd.prog W sp ["loop.example/mortiser/impl.errNoFrac"] [tok enc x] [.cell 0 0] :=
  vars_read1 enc errGlobal errType Tryd.underlying64 h ix sp
theorem laidOut : laidOutB Tryd.prog = true := by kernel_rfl
end Go.Proofs.YtnponnkcfgjeoaaDoor
end
section
namespace Go.Proofs.YtnponnkcfgjeoaaDoor.X
open Go.RowKit Go.Proofs.YtnponnkcfgjeoaaDoorW.PrintWords Go.Proofs.YtnponnkcfgjeoaaDoorW.PrintLast Go.Proofs.YtnponnkcfgjeoaaDoorW.PrintMore
attribute [local go_sem] max2_int min2_int max_two min_two max_three min_three max_four min_four
set_option linter.unusedVariables false
set_option linter.unusedSimpArgs false
def errW : Option Int → Value
  | none => .nilIface
  | some c => .iface 0 (.int .i64 c)
theorem errW_none : errW none = .nilIface := rfl
theorem errW_some (c : Int) : errW (some c) = .iface 0 (.int .i64 c) := rfl
theorem info5 : (Tryd.prog.info? 5).map (fun i => (i.zero, i.size, i.bytes)) = some (some (.int .u8 0), 1, 1) := by kernel_rfl
end Go.Proofs.YtnponnkcfgjeoaaDoor.X
end
section
namespace Go.Proofs.YtnponnkcfgjeoaaDoor.X
open Go.RowKit Go.Proofs.YtnponnkcfgjeoaaDoorW.PrintWords Go.Proofs.YtnponnkcfgjeoaaDoorW.PrintLast Go.Proofs.YtnponnkcfgjeoaaDoorW.PrintMore
attribute [local go_sem] max2_int min2_int max_two min_two max_three min_three max_four min_four
set_option linter.unusedVariables false
set_option linter.unusedSimpArgs false
theorem eqA25 (d : Nat) (w : World) (x0 y0 : Int) (x1 y1 : Int) :
    (Op.equalIn (d + 2) 25 (.agg #[.int .i64 x0, .int .i64 x1]) (.agg #[.int .i64 y0, .int .i64 y1])).run Tryd.prog w = .ok (x0 == y0 && (x1 == y1)) w := by
  refine eqA_of Tryd.underlying25 (by kernel_rfl) ?_
  refine eqf_cons (by rfl) (by go_simp; rfl) (by go_simp; rfl) (by go_simp) ?_
  exact eqf_last (by rfl) (by go_simp; rfl) (by go_simp; rfl) (by go_simp)
theorem eqA38 (d : Nat) (w : World) (x0 y0 : Int) (x1 y1 : Int) :
    (Op.equalIn (d + 2) 38 (.agg #[.int .i64 x0, .int .i64 x1]) (.agg #[.int .i64 y0, .int .i64 y1])).run Tryd.prog w = .ok (x0 == y0 && (x1 == y1)) w := by
  refine eqA_of Tryd.underlying38 (by kernel_rfl) ?_
  refine eqf_cons (by rfl) (by go_simp; rfl) (by go_simp; rfl) (by go_simp) ?_
  exact eqf_last (by rfl) (by go_simp; rfl) (by go_simp; rfl) (by go_simp)
end Go.Proofs.YtnponnkcfgjeoaaDoor.X
end
section
namespace Go.Proofs.YtnponnkcfgjeoaaDoor.X
open Go.RowKit Go.Proofs.YtnponnkcfgjeoaaDoorW.PrintWords Go.Proofs.YtnponnkcfgjeoaaDoorW.PrintLast Go.Proofs.YtnponnkcfgjeoaaDoorW.PrintMore
attribute [local go_sem] max2_int min2_int max_two min_two max_three min_three max_four min_four
set_option linter.unusedVariables false
set_option linter.unusedSimpArgs false
def impl_along.f (a0_0 : Int) (a0_1 : Int) (a1_0 : Int) (a1_1 : Int) (a2_0 : Int) (a2_1 : Int) : Option (Int) := some (wrap64 ((wrap64 ((wrap64 (a1_0 - a0_0)) * (wrap64 (a2_0 - a0_0)))) + (wrap64 ((wrap64 (a1_1 - a0_1)) * (wrap64 (a2_1 - a0_1))))))
set_option maxHeartbeats 8000000 in
set_option maxRecDepth 100000 in
theorem impl_along.calls (a0_0 : Int) (a0_1 : Int) (a1_0 : Int) (a1_1 : Int) (a2_0 : Int) (a2_1 : Int) (r : Int) (w : World) (h : impl_along.f a0_0 a0_1 a1_0 a1_1 a2_0 a2_1 = some r) :
  Calls Tryd.prog 60 #[.agg #[.int .i64 a0_0, .int .i64 a0_1], .agg #[.int .i64 a1_0, .int .i64 a1_1], .agg #[.int .i64 a2_0, .int .i64 a2_1]] w fun e w' => e = .returned (.int .i64 r) ∧ Below w.heap.size w w' := by
 have hu38 := Tryd.underlying38
 have HB := Aside0.mk (Below.refl w.heap.size w)
 have H : (some (wrap64 ((wrap64 ((wrap64 (a1_0 - a0_0)) * (wrap64 (a2_0 - a0_0)))) + (wrap64 ((wrap64 (a1_1 - a0_1)) * (wrap64 (a2_1 - a0_1))))))) = some r := h
 clear h
 obtain rfl := Option.some.inj H
 go_enter Tryd.func60, Tryd.ntmps60
 go_wp2_with (first | ((with_reducible refine gate_dst (N := 3) rfl ?_); refine box_event ?hg (N := 3) ?hd (cs := #[.int .i64 a0_0, .int .i64 a0_1]) (t := 38) ?hr ?_; (case hd => rfl); (case hg => rfl); (case hr => first | (go_simp; done) | (go_simp; rfl)); intro gb326 hg w4 hbox hb; have n0_ := Aside0.mk (below_step hB_ hb); have n1_ := Aside0.mk (hbox); have n2_ := Aside0.mk ((by rw [hg]; exact (below_size hB_) : w.heap.size ≤ gb326)); have n3_ := Aside0.mk ((by rw [hg]; exact (below_size hB_) : w.heap.size ≤ gb326)); clear HB; have HB := n0_; have BK326 := n1_; have GW326 := n2_; have GE326 := n3_; clear n0_ n1_ n2_ n3_; clear hb hbox hg) | ((with_reducible refine gate_dst (N := 4) rfl ?_); refine box_event ?hg (N := 4) ?hd (cs := #[.int .i64 a1_0, .int .i64 a1_1]) (t := 38) ?hr ?_; (case hd => rfl); (case hg => rfl); (case hr => first | (go_simp; done) | (go_simp; rfl)); intro gb327 hg w5 hbox hb; have n0_ := Aside0.mk (ub_ (g := gb326) hb); have n1_ := Aside0.mk (below_step hB_ hb); have n2_ := Aside0.mk (hbox); have n3_ := Aside0.mk ((by rw [hg]; exact (below_size hB_) : w.heap.size ≤ gb327)); have n4_ := Aside0.mk ((by rw [hg]; exact (below_size hB_) : w.heap.size ≤ gb327)); have n5_ := Aside0.mk ((by rw [hg]; exact Nat.ne_of_lt (blk_lt (g := gb326) (o := .cells #[.int .i64 a0_0, .int .i64 a0_1] 38 (0, 0)) uq_) : gb326 ≠ gb327)); have n6_ := Aside0.mk ((by rw [hg]; exact Nat.ne_of_gt (blk_lt (g := gb326) (o := .cells #[.int .i64 a0_0, .int .i64 a0_1] 38 (0, 0)) uq_) : gb327 ≠ gb326)); clear BK326; clear HB; have BK326 := n0_; have HB := n1_; have BK327 := n2_; have GW327 := n3_; have GE327 := n4_; have NB326_327 := n5_; have NB327_326 := n6_; clear n0_ n1_ n2_ n3_ n4_ n5_ n6_; clear hb hbox hg) | ((with_reducible refine gate_dst (N := 5) rfl ?_); refine box_event ?hg (N := 5) ?hd (cs := #[.int .i64 a2_0, .int .i64 a2_1]) (t := 38) ?hr ?_; (case hd => rfl); (case hg => rfl); (case hr => first | (go_simp; done) | (go_simp; rfl)); intro gb328 hg w6 hbox hb; have n0_ := Aside0.mk (ub_ (g := gb326) hb); have n1_ := Aside0.mk (ub_ (g := gb327) hb); have n2_ := Aside0.mk (below_step hB_ hb); have n3_ := Aside0.mk (hbox); have n4_ := Aside0.mk ((by rw [hg]; exact (below_size hB_) : w.heap.size ≤ gb328)); have n5_ := Aside0.mk ((by rw [hg]; exact (below_size hB_) : w.heap.size ≤ gb328)); have n6_ := Aside0.mk ((by rw [hg]; exact Nat.ne_of_lt (blk_lt (g := gb326) (o := .cells #[.int .i64 a0_0, .int .i64 a0_1] 38 (0, 0)) uq_) : gb326 ≠ gb328)); have n7_ := Aside0.mk ((by rw [hg]; exact Nat.ne_of_gt (blk_lt (g := gb326) (o := .cells #[.int .i64 a0_0, .int .i64 a0_1] 38 (0, 0)) uq_) : gb328 ≠ gb326)); have n8_ := Aside0.mk ((by rw [hg]; exact Nat.ne_of_lt (blk_lt (g := gb327) (o := .cells #[.int .i64 a1_0, .int .i64 a1_1] 38 (0, 0)) uq_) : gb327 ≠ gb328)); have n9_ := Aside0.mk ((by rw [hg]; exact Nat.ne_of_gt (blk_lt (g := gb327) (o := .cells #[.int .i64 a1_0, .int .i64 a1_1] 38 (0, 0)) uq_) : gb328 ≠ gb327)); clear BK326; clear BK327; clear HB; have BK326 := n0_; have BK327 := n1_; have HB := n2_; have BK328 := n3_; have GW328 := n4_; have GE328 := n5_; have NB326_328 := n6_; have NB328_326 := n7_; have NB327_328 := n8_; have NB328_327 := n9_; clear n0_ n1_ n2_ n3_ n4_ n5_ n6_ n7_ n8_ n9_; clear hb hbox hg; have hnb7 := NB327_326.out; have hnc7 := NB326_327.out; have hnb8 := NB327_328.out; have hnc8 := NB328_327.out; have hcz9_0 : w6.cell? ⟨gb327, 0, none⟩ = some (.int .i64 a1_0) := bc_; have hcz9_1 : w6.cell? ⟨gb327, 1, none⟩ = some (.int .i64 a1_1) := bc_; have hfz9_0 := blk_frozen BK327.out 0; have hfz9_1 := blk_frozen BK327.out 1; have hnb10 := NB326_328.out; have hnc10 := NB328_326.out; have hcz11_0 : w6.cell? ⟨gb326, 0, none⟩ = some (.int .i64 a0_0) := bc_; have hcz11_1 : w6.cell? ⟨gb326, 1, none⟩ = some (.int .i64 a0_1) := bc_; have hfz11_0 := blk_frozen BK326.out 0; have hfz11_1 := blk_frozen BK326.out 1; have hcz12_0 : w6.cell? ⟨gb328, 0, none⟩ = some (.int .i64 a2_0) := bc_; have hcz12_1 : w6.cell? ⟨gb328, 1, none⟩ = some (.int .i64 a2_1) := bc_; have hfz12_0 := blk_frozen BK328.out 0; have hfz12_1 := blk_frozen BK328.out 1))
 go_ret
 exact ⟨by first | rfl | (simp [errW_none, errW_some] <;> rfl) | (simp [*, errW_none, errW_some] <;> rfl), hB_⟩
end Go.Proofs.YtnponnkcfgjeoaaDoor.X
end
section
namespace Go.Proofs.YtnponnkcfgjeoaaDoor.X
open Go.RowKit Go.Proofs.YtnponnkcfgjeoaaDoorW.PrintWords Go.Proofs.YtnponnkcfgjeoaaDoorW.PrintLast Go.Proofs.YtnponnkcfgjeoaaDoorW.PrintMore
attribute [local go_sem] max2_int min2_int max_two min_two max_three min_three max_four min_four
set_option linter.unusedVariables false
set_option linter.unusedSimpArgs false
def impl_between.f (a0_0 : Int) (a0_1 : Int) (a1_0 : Int) (a1_1 : Int) : Option (Int) := (impl_along.f a0_0 a0_1 a1_0 a1_1 a1_0 a1_1).bind fun t331 => (some t331)
set_option maxHeartbeats 8000000 in
set_option maxRecDepth 100000 in
theorem impl_between.calls (a0_0 : Int) (a0_1 : Int) (a1_0 : Int) (a1_1 : Int) (r : Int) (w : World) (h : impl_between.f a0_0 a0_1 a1_0 a1_1 = some r) :
  Calls Tryd.prog 54 #[.agg #[.int .i64 a0_0, .int .i64 a0_1], .agg #[.int .i64 a1_0, .int .i64 a1_1]] w fun e w' => e = .returned (.int .i64 r) ∧ Below w.heap.size w w' := by
 have hu38 := Tryd.underlying38
 have HB := Aside0.mk (Below.refl w.heap.size w)
 have H : ((impl_along.f a0_0 a0_1 a1_0 a1_1 a1_0 a1_1).bind fun t331 => (some t331)) = some r := h
 clear h
 replace H := Option.bind_eq_some_iff.mp H
 obtain ⟨t331, A30, H⟩ := H
 replace H : (some t331) = some r := H
 have A3 := Aside0.mk A30
 clear A30
 obtain rfl := Option.some.inj H
 go_enter Tryd.func54, Tryd.ntmps54
 go_wp2_with (first | ((with_reducible refine gate_dst (N := 2) rfl ?_); refine box_event ?hg (N := 2) ?hd (cs := #[.int .i64 a0_0, .int .i64 a0_1]) (t := 38) ?hr ?_; (case hd => rfl); (case hg => rfl); (case hr => first | (go_simp; done) | (go_simp; rfl)); intro gb329 hg w4 hbox hb; have n0_ := Aside0.mk (below_step hB_ hb); have n1_ := Aside0.mk (hbox); have n2_ := Aside0.mk ((by rw [hg]; exact (below_size hB_) : w.heap.size ≤ gb329)); have n3_ := Aside0.mk ((by rw [hg]; exact (below_size hB_) : w.heap.size ≤ gb329)); clear HB; have HB := n0_; have BK329 := n1_; have GW329 := n2_; have GE329 := n3_; clear n0_ n1_ n2_ n3_; clear hb hbox hg) | ((with_reducible refine gate_dst (N := 3) rfl ?_); refine box_event ?hg (N := 3) ?hd (cs := #[.int .i64 a1_0, .int .i64 a1_1]) (t := 38) ?hr ?_; (case hd => rfl); (case hg => rfl); (case hr => first | (go_simp; done) | (go_simp; rfl)); intro gb330 hg w5 hbox hb; have n0_ := Aside0.mk (ub_ (g := gb329) hb); have n1_ := Aside0.mk (below_step hB_ hb); have n2_ := Aside0.mk (hbox); have n3_ := Aside0.mk ((by rw [hg]; exact (below_size hB_) : w.heap.size ≤ gb330)); have n4_ := Aside0.mk ((by rw [hg]; exact (below_size hB_) : w.heap.size ≤ gb330)); have n5_ := Aside0.mk ((by rw [hg]; exact Nat.ne_of_lt (blk_lt (g := gb329) (o := .cells #[.int .i64 a0_0, .int .i64 a0_1] 38 (0, 0)) uq_) : gb329 ≠ gb330)); have n6_ := Aside0.mk ((by rw [hg]; exact Nat.ne_of_gt (blk_lt (g := gb329) (o := .cells #[.int .i64 a0_0, .int .i64 a0_1] 38 (0, 0)) uq_) : gb330 ≠ gb329)); clear BK329; clear HB; have BK329 := n0_; have HB := n1_; have BK330 := n2_; have GW330 := n3_; have GE330 := n4_; have NB329_330 := n5_; have NB330_329 := n6_; clear n0_ n1_ n2_ n3_ n4_ n5_ n6_; clear hb hbox hg; have hnb6 := NB329_330.out; have hnc6 := NB330_329.out; have hcz7_0 : w5.cell? ⟨gb329, 0, none⟩ = some (.int .i64 a0_0) := bc_; have hcz7_1 : w5.cell? ⟨gb329, 1, none⟩ = some (.int .i64 a0_1) := bc_; have hfz7_0 := blk_frozen BK329.out 0; have hfz7_1 := blk_frozen BK329.out 1; have hcz8_0 : w5.cell? ⟨gb330, 0, none⟩ = some (.int .i64 a1_0) := bc_; have hcz8_1 : w5.cell? ⟨gb330, 1, none⟩ = some (.int .i64 a1_1) := bc_; have hfz8_0 := blk_frozen BK330.out 0; have hfz8_1 := blk_frozen BK330.out 1) | ((with_reducible refine gate_callee (f := 60) rfl ?_); refine goesL_ (some 8) rfl rfl Tryd.func60 (by kernel_rfl) rfl #[.agg #[.int .i64 a0_0, .int .i64 a0_1], .agg #[.int .i64 a1_0, .int .i64 a1_1], .agg #[.int .i64 a1_0, .int .i64 a1_1]] rfl ma_ ?_; (with_reducible refine (impl_along.calls a0_0 a0_1 a1_0 a1_1 a1_0 a1_1 t331 _ A3.out).mono ?_); rintro e w9 ⟨rfl, hb⟩; refine ⟨_, rfl, ?_⟩; have n0_ := Aside0.mk (ub_ (g := gb329) hb); have n1_ := Aside0.mk (ub_ (g := gb330) hb); have n2_ := Aside0.mk (below_step hB_ hb); clear BK329; clear BK330; clear HB; have BK329 := n0_; have BK330 := n1_; have HB := n2_; clear n0_ n1_ n2_; (try clear hb); (try clear hb2); (try clear hk); (try clear hi)))
 go_ret
 exact ⟨by first | rfl | (simp [errW_none, errW_some] <;> rfl) | (simp [*, errW_none, errW_some] <;> rfl), hB_⟩
end Go.Proofs.YtnponnkcfgjeoaaDoor.X
end
section
namespace Go.Proofs.YtnponnkcfgjeoaaDoor.X
open Go.RowKit Go.Proofs.YtnponnkcfgjeoaaDoorW.PrintWords Go.Proofs.YtnponnkcfgjeoaaDoorW.PrintLast Go.Proofs.YtnponnkcfgjeoaaDoorW.PrintMore
attribute [local go_sem] max2_int min2_int max_two min_two max_three min_three max_four min_four
set_option linter.unusedVariables false
set_option linter.unusedSimpArgs false
def impl_cross.f (a0_0 : Int) (a0_1 : Int) (a1_0 : Int) (a1_1 : Int) (a2_0 : Int) (a2_1 : Int) : Option (Int) := some (wrap64 ((wrap64 ((wrap64 (a1_0 - a0_0)) * (wrap64 (a2_1 - a0_1)))) - (wrap64 ((wrap64 (a1_1 - a0_1)) * (wrap64 (a2_0 - a0_0))))))
set_option maxHeartbeats 8000000 in
set_option maxRecDepth 100000 in
theorem impl_cross.calls (a0_0 : Int) (a0_1 : Int) (a1_0 : Int) (a1_1 : Int) (a2_0 : Int) (a2_1 : Int) (r : Int) (w : World) (h : impl_cross.f a0_0 a0_1 a1_0 a1_1 a2_0 a2_1 = some r) :
  Calls Tryd.prog 56 #[.agg #[.int .i64 a0_0, .int .i64 a0_1], .agg #[.int .i64 a1_0, .int .i64 a1_1], .agg #[.int .i64 a2_0, .int .i64 a2_1]] w fun e w' => e = .returned (.int .i64 r) ∧ Below w.heap.size w w' := by
 have hu38 := Tryd.underlying38
 have HB := Aside0.mk (Below.refl w.heap.size w)
 have H : (some (wrap64 ((wrap64 ((wrap64 (a1_0 - a0_0)) * (wrap64 (a2_1 - a0_1)))) - (wrap64 ((wrap64 (a1_1 - a0_1)) * (wrap64 (a2_0 - a0_0))))))) = some r := h
 clear h
 obtain rfl := Option.some.inj H
 go_enter Tryd.func56, Tryd.ntmps56
 go_wp2_with (first | ((with_reducible refine gate_dst (N := 3) rfl ?_); refine box_event ?hg (N := 3) ?hd (cs := #[.int .i64 a0_0, .int .i64 a0_1]) (t := 38) ?hr ?_; (case hd => rfl); (case hg => rfl); (case hr => first | (go_simp; done) | (go_simp; rfl)); intro gb365 hg w4 hbox hb; have n0_ := Aside0.mk (below_step hB_ hb); have n1_ := Aside0.mk (hbox); have n2_ := Aside0.mk ((by rw [hg]; exact (below_size hB_) : w.heap.size ≤ gb365)); have n3_ := Aside0.mk ((by rw [hg]; exact (below_size hB_) : w.heap.size ≤ gb365)); clear HB; have HB := n0_; have BK365 := n1_; have GW365 := n2_; have GE365 := n3_; clear n0_ n1_ n2_ n3_; clear hb hbox hg) | ((with_reducible refine gate_dst (N := 4) rfl ?_); refine box_event ?hg (N := 4) ?hd (cs := #[.int .i64 a1_0, .int .i64 a1_1]) (t := 38) ?hr ?_; (case hd => rfl); (case hg => rfl); (case hr => first | (go_simp; done) | (go_simp; rfl)); intro gb366 hg w5 hbox hb; have n0_ := Aside0.mk (ub_ (g := gb365) hb); have n1_ := Aside0.mk (below_step hB_ hb); have n2_ := Aside0.mk (hbox); have n3_ := Aside0.mk ((by rw [hg]; exact (below_size hB_) : w.heap.size ≤ gb366)); have n4_ := Aside0.mk ((by rw [hg]; exact (below_size hB_) : w.heap.size ≤ gb366)); have n5_ := Aside0.mk ((by rw [hg]; exact Nat.ne_of_lt (blk_lt (g := gb365) (o := .cells #[.int .i64 a0_0, .int .i64 a0_1] 38 (0, 0)) uq_) : gb365 ≠ gb366)); have n6_ := Aside0.mk ((by rw [hg]; exact Nat.ne_of_gt (blk_lt (g := gb365) (o := .cells #[.int .i64 a0_0, .int .i64 a0_1] 38 (0, 0)) uq_) : gb366 ≠ gb365)); clear BK365; clear HB; have BK365 := n0_; have HB := n1_; have BK366 := n2_; have GW366 := n3_; have GE366 := n4_; have NB365_366 := n5_; have NB366_365 := n6_; clear n0_ n1_ n2_ n3_ n4_ n5_ n6_; clear hb hbox hg) | ((with_reducible refine gate_dst (N := 5) rfl ?_); refine box_event ?hg (N := 5) ?hd (cs := #[.int .i64 a2_0, .int .i64 a2_1]) (t := 38) ?hr ?_; (case hd => rfl); (case hg => rfl); (case hr => first | (go_simp; done) | (go_simp; rfl)); intro gb367 hg w6 hbox hb; have n0_ := Aside0.mk (ub_ (g := gb365) hb); have n1_ := Aside0.mk (ub_ (g := gb366) hb); have n2_ := Aside0.mk (below_step hB_ hb); have n3_ := Aside0.mk (hbox); have n4_ := Aside0.mk ((by rw [hg]; exact (below_size hB_) : w.heap.size ≤ gb367)); have n5_ := Aside0.mk ((by rw [hg]; exact (below_size hB_) : w.heap.size ≤ gb367)); have n6_ := Aside0.mk ((by rw [hg]; exact Nat.ne_of_lt (blk_lt (g := gb365) (o := .cells #[.int .i64 a0_0, .int .i64 a0_1] 38 (0, 0)) uq_) : gb365 ≠ gb367)); have n7_ := Aside0.mk ((by rw [hg]; exact Nat.ne_of_gt (blk_lt (g := gb365) (o := .cells #[.int .i64 a0_0, .int .i64 a0_1] 38 (0, 0)) uq_) : gb367 ≠ gb365)); have n8_ := Aside0.mk ((by rw [hg]; exact Nat.ne_of_lt (blk_lt (g := gb366) (o := .cells #[.int .i64 a1_0, .int .i64 a1_1] 38 (0, 0)) uq_) : gb366 ≠ gb367)); have n9_ := Aside0.mk ((by rw [hg]; exact Nat.ne_of_gt (blk_lt (g := gb366) (o := .cells #[.int .i64 a1_0, .int .i64 a1_1] 38 (0, 0)) uq_) : gb367 ≠ gb366)); clear BK365; clear BK366; clear HB; have BK365 := n0_; have BK366 := n1_; have HB := n2_; have BK367 := n3_; have GW367 := n4_; have GE367 := n5_; have NB365_367 := n6_; have NB367_365 := n7_; have NB366_367 := n8_; have NB367_366 := n9_; clear n0_ n1_ n2_ n3_ n4_ n5_ n6_ n7_ n8_ n9_; clear hb hbox hg; have hnb7 := NB366_365.out; have hnc7 := NB365_366.out; have hnb8 := NB366_367.out; have hnc8 := NB367_366.out; have hcz9_0 : w6.cell? ⟨gb366, 0, none⟩ = some (.int .i64 a1_0) := bc_; have hcz9_1 : w6.cell? ⟨gb366, 1, none⟩ = some (.int .i64 a1_1) := bc_; have hfz9_0 := blk_frozen BK366.out 0; have hfz9_1 := blk_frozen BK366.out 1; have hnb10 := NB365_367.out; have hnc10 := NB367_365.out; have hcz11_0 : w6.cell? ⟨gb365, 0, none⟩ = some (.int .i64 a0_0) := bc_; have hcz11_1 : w6.cell? ⟨gb365, 1, none⟩ = some (.int .i64 a0_1) := bc_; have hfz11_0 := blk_frozen BK365.out 0; have hfz11_1 := blk_frozen BK365.out 1; have hcz12_0 : w6.cell? ⟨gb367, 0, none⟩ = some (.int .i64 a2_0) := bc_; have hcz12_1 : w6.cell? ⟨gb367, 1, none⟩ = some (.int .i64 a2_1) := bc_; have hfz12_0 := blk_frozen BK367.out 0; have hfz12_1 := blk_frozen BK367.out 1))
 go_ret
 exact ⟨by first | rfl | (simp [errW_none, errW_some] <;> rfl) | (simp [*, errW_none, errW_some] <;> rfl), hB_⟩
end Go.Proofs.YtnponnkcfgjeoaaDoor.X
end
section
namespace Go.Proofs.YtnponnkcfgjeoaaDoor.X
open Go.RowKit Go.Proofs.YtnponnkcfgjeoaaDoorW.PrintWords Go.Proofs.YtnponnkcfgjeoaaDoorW.PrintLast Go.Proofs.YtnponnkcfgjeoaaDoorW.PrintMore
attribute [local go_sem] max2_int min2_int max_two min_two max_three min_three max_four min_four
set_option linter.unusedVariables false
set_option linter.unusedSimpArgs false
def impl_PtOk.f (a0_0 : Int) (a0_1 : Int) : Option (Bool) := if a0_0 ≥ 0 then (if a0_0 ≤ 9 then (if a0_1 ≥ 0 then (some (decide (a0_1 ≤ 9))) else (some false)) else (some false)) else (some false)
set_option maxHeartbeats 8000000 in
set_option maxRecDepth 100000 in
theorem impl_PtOk.calls (a0_0 : Int) (a0_1 : Int) (r : Bool) (w : World) (h : impl_PtOk.f a0_0 a0_1 = some r) :
  Calls Tryd.prog 52 #[.agg #[.int .i64 a0_0, .int .i64 a0_1]] w fun e w' => e = .returned (.bool r) ∧ Below w.heap.size w w' := by
 have hu38 := Tryd.underlying38
 have HB := Aside0.mk (Below.refl w.heap.size w)
 have H : (if a0_0 ≥ 0 then (if a0_0 ≤ 9 then (if a0_1 ≥ 0 then (some (decide (a0_1 ≤ 9))) else (some false)) else (some false)) else (some false)) = some r := h
 clear h
 by_cases c2 : a0_0 ≥ 0
 ·
  rw [if_pos c2] at H
  have c2b0 : decide (0 ≤ a0_0) = true := decide_eq_true c2
  clear c2
  by_cases c3 : a0_0 ≤ 9
  ·
   rw [if_pos c3] at H
   have c3b0 : decide (a0_0 ≤ 9) = true := decide_eq_true c3
   clear c3
   by_cases c4 : a0_1 ≥ 0
   ·
    rw [if_pos c4] at H
    have c4b0 : decide (0 ≤ a0_1) = true := decide_eq_true c4
    clear c4
    obtain rfl := Option.some.inj H
    go_enter Tryd.func52, Tryd.ntmps52
    go_wp2_with (first | ((with_reducible refine gate_dst (N := 1) rfl ?_); refine box_event ?hg (N := 1) ?hd (cs := #[.int .i64 a0_0, .int .i64 a0_1]) (t := 38) ?hr ?_; (case hd => rfl); (case hg => rfl); (case hr => first | (go_simp; done) | (go_simp; rfl)); intro gb322 hg w5 hbox hb; have n0_ := Aside0.mk (below_step hB_ hb); have n1_ := Aside0.mk (hbox); have n2_ := Aside0.mk ((by rw [hg]; exact (below_size hB_) : w.heap.size ≤ gb322)); have n3_ := Aside0.mk ((by rw [hg]; exact (below_size hB_) : w.heap.size ≤ gb322)); clear HB; have HB := n0_; have BK322 := n1_; have GW322 := n2_; have GE322 := n3_; clear n0_ n1_ n2_ n3_; clear hb hbox hg; have hcz6_0 : w5.cell? ⟨gb322, 0, none⟩ = some (.int .i64 a0_0) := bc_; have hcz6_1 : w5.cell? ⟨gb322, 1, none⟩ = some (.int .i64 a0_1) := bc_; have hfz6_0 := blk_frozen BK322.out 0; have hfz6_1 := blk_frozen BK322.out 1))
    go_ret
    exact ⟨by first | rfl | (simp [errW_none, errW_some] <;> rfl) | (simp [*, errW_none, errW_some] <;> rfl), hB_⟩
   ·
    rw [if_neg c4] at H
    have c4b0 : decide (0 ≤ a0_1) = false := decide_eq_false c4
    clear c4
    obtain rfl := Option.some.inj H
    go_enter Tryd.func52, Tryd.ntmps52
    go_wp2_with (first | ((with_reducible refine gate_dst (N := 1) rfl ?_); refine box_event ?hg (N := 1) ?hd (cs := #[.int .i64 a0_0, .int .i64 a0_1]) (t := 38) ?hr ?_; (case hd => rfl); (case hg => rfl); (case hr => first | (go_simp; done) | (go_simp; rfl)); intro gb322 hg w7 hbox hb; have n0_ := Aside0.mk (below_step hB_ hb); have n1_ := Aside0.mk (hbox); have n2_ := Aside0.mk ((by rw [hg]; exact (below_size hB_) : w.heap.size ≤ gb322)); have n3_ := Aside0.mk ((by rw [hg]; exact (below_size hB_) : w.heap.size ≤ gb322)); clear HB; have HB := n0_; have BK322 := n1_; have GW322 := n2_; have GE322 := n3_; clear n0_ n1_ n2_ n3_; clear hb hbox hg; have hcz8_0 : w7.cell? ⟨gb322, 0, none⟩ = some (.int .i64 a0_0) := bc_; have hcz8_1 : w7.cell? ⟨gb322, 1, none⟩ = some (.int .i64 a0_1) := bc_; have hfz8_0 := blk_frozen BK322.out 0; have hfz8_1 := blk_frozen BK322.out 1))
    go_ret
    exact ⟨by first | rfl | (simp [errW_none, errW_some] <;> rfl) | (simp [*, errW_none, errW_some] <;> rfl), hB_⟩
  ·
   rw [if_neg c3] at H
   have c3b0 : decide (a0_0 ≤ 9) = false := decide_eq_false c3
   clear c3
   obtain rfl := Option.some.inj H
   go_enter Tryd.func52, Tryd.ntmps52
   go_wp2_with (first | ((with_reducible refine gate_dst (N := 1) rfl ?_); refine box_event ?hg (N := 1) ?hd (cs := #[.int .i64 a0_0, .int .i64 a0_1]) (t := 38) ?hr ?_; (case hd => rfl); (case hg => rfl); (case hr => first | (go_simp; done) | (go_simp; rfl)); intro gb322 hg w9 hbox hb; have n0_ := Aside0.mk (below_step hB_ hb); have n1_ := Aside0.mk (hbox); have n2_ := Aside0.mk ((by rw [hg]; exact (below_size hB_) : w.heap.size ≤ gb322)); have n3_ := Aside0.mk ((by rw [hg]; exact (below_size hB_) : w.heap.size ≤ gb322)); clear HB; have HB := n0_; have BK322 := n1_; have GW322 := n2_; have GE322 := n3_; clear n0_ n1_ n2_ n3_; clear hb hbox hg; have hcz10_0 : w9.cell? ⟨gb322, 0, none⟩ = some (.int .i64 a0_0) := bc_; have hcz10_1 : w9.cell? ⟨gb322, 1, none⟩ = some (.int .i64 a0_1) := bc_; have hfz10_0 := blk_frozen BK322.out 0; have hfz10_1 := blk_frozen BK322.out 1))
   go_ret
   exact ⟨by first | rfl | (simp [errW_none, errW_some] <;> rfl) | (simp [*, errW_none, errW_some] <;> rfl), hB_⟩
 ·
  rw [if_neg c2] at H
  have c2b0 : decide (0 ≤ a0_0) = false := decide_eq_false c2
  clear c2
  obtain rfl := Option.some.inj H
  go_enter Tryd.func52, Tryd.ntmps52
  go_wp2_with (first | ((with_reducible refine gate_dst (N := 1) rfl ?_); refine box_event ?hg (N := 1) ?hd (cs := #[.int .i64 a0_0, .int .i64 a0_1]) (t := 38) ?hr ?_; (case hd => rfl); (case hg => rfl); (case hr => first | (go_simp; done) | (go_simp; rfl)); intro gb322 hg w11 hbox hb; have n0_ := Aside0.mk (below_step hB_ hb); have n1_ := Aside0.mk (hbox); have n2_ := Aside0.mk ((by rw [hg]; exact (below_size hB_) : w.heap.size ≤ gb322)); have n3_ := Aside0.mk ((by rw [hg]; exact (below_size hB_) : w.heap.size ≤ gb322)); clear HB; have HB := n0_; have BK322 := n1_; have GW322 := n2_; have GE322 := n3_; clear n0_ n1_ n2_ n3_; clear hb hbox hg; have hcz12_0 : w11.cell? ⟨gb322, 0, none⟩ = some (.int .i64 a0_0) := bc_; have hcz12_1 : w11.cell? ⟨gb322, 1, none⟩ = some (.int .i64 a0_1) := bc_; have hfz12_0 := blk_frozen BK322.out 0; have hfz12_1 := blk_frozen BK322.out 1))
  go_ret
  exact ⟨by first | rfl | (simp [errW_none, errW_some] <;> rfl) | (simp [*, errW_none, errW_some] <;> rfl), hB_⟩
end Go.Proofs.YtnponnkcfgjeoaaDoor.X
end
section
namespace Go.Proofs.YtnponnkcfgjeoaaDoor.X
open Go.RowKit Go.Proofs.YtnponnkcfgjeoaaDoorW.PrintWords Go.Proofs.YtnponnkcfgjeoaaDoorW.PrintLast Go.Proofs.YtnponnkcfgjeoaaDoorW.PrintMore
attribute [local go_sem] max2_int min2_int max_two min_two max_three min_three max_four min_four
set_option linter.unusedVariables false
set_option linter.unusedSimpArgs false
attribute [local go_sem high] eqA38
def impl_SegOk.f (a0_0 : Int) (a0_1 : Int) (a0_2 : Int) (a0_3 : Int) : Option (Bool) := (impl_PtOk.f a0_0 a0_1).bind fun t324 => (if t324 = true then ((impl_PtOk.f a0_2 a0_3).bind fun t325 => (if t325 = true then (some (!(a0_0 == a0_2) || (!(a0_1 == a0_3)))) else (some false))) else (some false))
set_option maxHeartbeats 8000000 in
set_option maxRecDepth 100000 in
theorem impl_SegOk.calls (a0_0 : Int) (a0_1 : Int) (a0_2 : Int) (a0_3 : Int) (r : Bool) (w : World) (h : impl_SegOk.f a0_0 a0_1 a0_2 a0_3 = some r) :
  Calls Tryd.prog 28 #[.agg #[.int .i64 a0_0, .int .i64 a0_1, .int .i64 a0_2, .int .i64 a0_3]] w fun e w' => e = .returned (.bool r) ∧ Below w.heap.size w w' := by
 have hu40 := Tryd.underlying40
 have hu38 := Tryd.underlying38
 have HB := Aside0.mk (Below.refl w.heap.size w)
 have H : ((impl_PtOk.f a0_0 a0_1).bind fun t324 => (if t324 = true then ((impl_PtOk.f a0_2 a0_3).bind fun t325 => (if t325 = true then (some (!(a0_0 == a0_2) || (!(a0_1 == a0_3)))) else (some false))) else (some false))) = some r := h
 clear h
 replace H := Option.bind_eq_some_iff.mp H
 obtain ⟨t324, A20, H⟩ := H
 replace H : (if t324 = true then ((impl_PtOk.f a0_2 a0_3).bind fun t325 => (if t325 = true then (some (!(a0_0 == a0_2) || (!(a0_1 == a0_3)))) else (some false))) else (some false)) = some r := H
 have A2 := Aside0.mk A20
 clear A20
 by_cases c3 : t324 = true
 ·
  subst c3
  have H1 : ((impl_PtOk.f a0_2 a0_3).bind fun t325 => (if t325 = true then (some (!(a0_0 == a0_2) || (!(a0_1 == a0_3)))) else (some false))) = some r := by rw [if_pos rfl] at H; exact H
  clear H
  have H := H1
  clear H1
  replace H := Option.bind_eq_some_iff.mp H
  obtain ⟨t325, A40, H⟩ := H
  replace H : (if t325 = true then (some (!(a0_0 == a0_2) || (!(a0_1 == a0_3)))) else (some false)) = some r := H
  have A4 := Aside0.mk A40
  clear A40
  by_cases c5 : t325 = true
  ·
   subst c5
   have H1 : (some (!(a0_0 == a0_2) || (!(a0_1 == a0_3)))) = some r := by rw [if_pos rfl] at H; exact H
   clear H
   have H := H1
   clear H1
   obtain rfl := Option.some.inj H
   go_enter Tryd.func28, Tryd.ntmps28
   go_wp2_with (first | ((with_reducible refine gate_dst (N := 1) rfl ?_); refine box_event ?hg (N := 1) ?hd (cs := #[.int .i64 a0_0, .int .i64 a0_1, .int .i64 a0_2, .int .i64 a0_3]) (t := 40) ?hr ?_; (case hd => rfl); (case hg => rfl); (case hr => first | (go_simp; done) | (go_simp; rfl)); intro gb323 hg w6 hbox hb; have n0_ := Aside0.mk (below_step hB_ hb); have n1_ := Aside0.mk (hbox); have n2_ := Aside0.mk ((by rw [hg]; exact (below_size hB_) : w.heap.size ≤ gb323)); have n3_ := Aside0.mk ((by rw [hg]; exact (below_size hB_) : w.heap.size ≤ gb323)); clear HB; have HB := n0_; have BK323 := n1_; have GW323 := n2_; have GE323 := n3_; clear n0_ n1_ n2_ n3_; clear hb hbox hg; have hcz7_0 : w6.cell? ⟨gb323, 0, none⟩ = some (.int .i64 a0_0) := bc_; have hcz7_1 : w6.cell? ⟨gb323, 1, none⟩ = some (.int .i64 a0_1) := bc_; have hcz7_2 : w6.cell? ⟨gb323, 2, none⟩ = some (.int .i64 a0_2) := bc_; have hcz7_3 : w6.cell? ⟨gb323, 3, none⟩ = some (.int .i64 a0_3) := bc_; have hfz7_0 := blk_frozen BK323.out 0; have hfz7_1 := blk_frozen BK323.out 1; have hfz7_2 := blk_frozen BK323.out 2; have hfz7_3 := blk_frozen BK323.out 3) | ((with_reducible refine gate_callee (f := 52) rfl ?_); refine goesL_ (some 5) rfl rfl Tryd.func52 (by kernel_rfl) rfl #[.agg #[.int .i64 a0_0, .int .i64 a0_1]] rfl ma_ ?_; (with_reducible refine (impl_PtOk.calls a0_0 a0_1 true _ A2.out).mono ?_); rintro e w8 ⟨rfl, hb⟩; refine ⟨_, rfl, ?_⟩; have n0_ := Aside0.mk (ub_ (g := gb323) hb); have n1_ := Aside0.mk (below_step hB_ hb); clear BK323; clear HB; have BK323 := n0_; have HB := n1_; clear n0_ n1_; (try clear hb); (try clear hb2); (try clear hk); (try clear hi); have hcz9_0 : w8.cell? ⟨gb323, 0, none⟩ = some (.int .i64 a0_0) := bc_; have hcz9_1 : w8.cell? ⟨gb323, 1, none⟩ = some (.int .i64 a0_1) := bc_; have hcz9_2 : w8.cell? ⟨gb323, 2, none⟩ = some (.int .i64 a0_2) := bc_; have hcz9_3 : w8.cell? ⟨gb323, 3, none⟩ = some (.int .i64 a0_3) := bc_; have hfz9_0 := blk_frozen BK323.out 0; have hfz9_1 := blk_frozen BK323.out 1; have hfz9_2 := blk_frozen BK323.out 2; have hfz9_3 := blk_frozen BK323.out 3) | (go_at_call 52; (with_reducible refine (impl_PtOk.calls a0_2 a0_3 true _ A4.out).mono ?_); rintro e w10 ⟨rfl, hb⟩; have n0_ := Aside0.mk (ub_ (g := gb323) hb); have n1_ := Aside0.mk (below_step hB_ hb); clear BK323; clear HB; have BK323 := n0_; have HB := n1_; clear n0_ n1_; (try clear hb); (try clear hb2); (try clear hk); (try clear hi); have hcz11_0 : w10.cell? ⟨gb323, 0, none⟩ = some (.int .i64 a0_0) := bc_; have hcz11_1 : w10.cell? ⟨gb323, 1, none⟩ = some (.int .i64 a0_1) := bc_; have hcz11_2 : w10.cell? ⟨gb323, 2, none⟩ = some (.int .i64 a0_2) := bc_; have hcz11_3 : w10.cell? ⟨gb323, 3, none⟩ = some (.int .i64 a0_3) := bc_; have hfz11_0 := blk_frozen BK323.out 0; have hfz11_1 := blk_frozen BK323.out 1; have hfz11_2 := blk_frozen BK323.out 2; have hfz11_3 := blk_frozen BK323.out 3))
   go_ret
   exact ⟨by first | rfl | (simp [errW_none, errW_some] <;> rfl) | (simp [*, errW_none, errW_some] <;> rfl), hB_⟩
  ·
   replace c5 := Bool.eq_false_iff.mpr c5
   subst c5
   have H1 : (some false) = some r := by rw [if_neg (show ¬ (false = true) by decide)] at H; exact H
   clear H
   have H := H1
   clear H1
   obtain rfl := Option.some.inj H
   go_enter Tryd.func28, Tryd.ntmps28
   go_wp2_with (first | ((with_reducible refine gate_dst (N := 1) rfl ?_); refine box_event ?hg (N := 1) ?hd (cs := #[.int .i64 a0_0, .int .i64 a0_1, .int .i64 a0_2, .int .i64 a0_3]) (t := 40) ?hr ?_; (case hd => rfl); (case hg => rfl); (case hr => first | (go_simp; done) | (go_simp; rfl)); intro gb323 hg w12 hbox hb; have n0_ := Aside0.mk (below_step hB_ hb); have n1_ := Aside0.mk (hbox); have n2_ := Aside0.mk ((by rw [hg]; exact (below_size hB_) : w.heap.size ≤ gb323)); have n3_ := Aside0.mk ((by rw [hg]; exact (below_size hB_) : w.heap.size ≤ gb323)); clear HB; have HB := n0_; have BK323 := n1_; have GW323 := n2_; have GE323 := n3_; clear n0_ n1_ n2_ n3_; clear hb hbox hg; have hcz13_0 : w12.cell? ⟨gb323, 0, none⟩ = some (.int .i64 a0_0) := bc_; have hcz13_1 : w12.cell? ⟨gb323, 1, none⟩ = some (.int .i64 a0_1) := bc_; have hcz13_2 : w12.cell? ⟨gb323, 2, none⟩ = some (.int .i64 a0_2) := bc_; have hcz13_3 : w12.cell? ⟨gb323, 3, none⟩ = some (.int .i64 a0_3) := bc_; have hfz13_0 := blk_frozen BK323.out 0; have hfz13_1 := blk_frozen BK323.out 1; have hfz13_2 := blk_frozen BK323.out 2; have hfz13_3 := blk_frozen BK323.out 3) | ((with_reducible refine gate_callee (f := 52) rfl ?_); refine goesL_ (some 5) rfl rfl Tryd.func52 (by kernel_rfl) rfl #[.agg #[.int .i64 a0_0, .int .i64 a0_1]] rfl ma_ ?_; (with_reducible refine (impl_PtOk.calls a0_0 a0_1 true _ A2.out).mono ?_); rintro e w14 ⟨rfl, hb⟩; refine ⟨_, rfl, ?_⟩; have n0_ := Aside0.mk (ub_ (g := gb323) hb); have n1_ := Aside0.mk (below_step hB_ hb); clear BK323; clear HB; have BK323 := n0_; have HB := n1_; clear n0_ n1_; (try clear hb); (try clear hb2); (try clear hk); (try clear hi); have hcz15_0 : w14.cell? ⟨gb323, 0, none⟩ = some (.int .i64 a0_0) := bc_; have hcz15_1 : w14.cell? ⟨gb323, 1, none⟩ = some (.int .i64 a0_1) := bc_; have hcz15_2 : w14.cell? ⟨gb323, 2, none⟩ = some (.int .i64 a0_2) := bc_; have hcz15_3 : w14.cell? ⟨gb323, 3, none⟩ = some (.int .i64 a0_3) := bc_; have hfz15_0 := blk_frozen BK323.out 0; have hfz15_1 := blk_frozen BK323.out 1; have hfz15_2 := blk_frozen BK323.out 2; have hfz15_3 := blk_frozen BK323.out 3) | (go_at_call 52; (with_reducible refine (impl_PtOk.calls a0_2 a0_3 false _ A4.out).mono ?_); rintro e w16 ⟨rfl, hb⟩; have n0_ := Aside0.mk (ub_ (g := gb323) hb); have n1_ := Aside0.mk (below_step hB_ hb); clear BK323; clear HB; have BK323 := n0_; have HB := n1_; clear n0_ n1_; (try clear hb); (try clear hb2); (try clear hk); (try clear hi)))
   go_ret
   exact ⟨by first | rfl | (simp [errW_none, errW_some] <;> rfl) | (simp [*, errW_none, errW_some] <;> rfl), hB_⟩
 ·
  replace c3 := Bool.eq_false_iff.mpr c3
  subst c3
  have H1 : (some false) = some r := by rw [if_neg (show ¬ (false = true) by decide)] at H; exact H
  clear H
  have H := H1
  clear H1
  obtain rfl := Option.some.inj H
  go_enter Tryd.func28, Tryd.ntmps28
  go_wp2_with (first | ((with_reducible refine gate_dst (N := 1) rfl ?_); refine box_event ?hg (N := 1) ?hd (cs := #[.int .i64 a0_0, .int .i64 a0_1, .int .i64 a0_2, .int .i64 a0_3]) (t := 40) ?hr ?_; (case hd => rfl); (case hg => rfl); (case hr => first | (go_simp; done) | (go_simp; rfl)); intro gb323 hg w17 hbox hb; have n0_ := Aside0.mk (below_step hB_ hb); have n1_ := Aside0.mk (hbox); have n2_ := Aside0.mk ((by rw [hg]; exact (below_size hB_) : w.heap.size ≤ gb323)); have n3_ := Aside0.mk ((by rw [hg]; exact (below_size hB_) : w.heap.size ≤ gb323)); clear HB; have HB := n0_; have BK323 := n1_; have GW323 := n2_; have GE323 := n3_; clear n0_ n1_ n2_ n3_; clear hb hbox hg; have hcz18_0 : w17.cell? ⟨gb323, 0, none⟩ = some (.int .i64 a0_0) := bc_; have hcz18_1 : w17.cell? ⟨gb323, 1, none⟩ = some (.int .i64 a0_1) := bc_; have hcz18_2 : w17.cell? ⟨gb323, 2, none⟩ = some (.int .i64 a0_2) := bc_; have hcz18_3 : w17.cell? ⟨gb323, 3, none⟩ = some (.int .i64 a0_3) := bc_; have hfz18_0 := blk_frozen BK323.out 0; have hfz18_1 := blk_frozen BK323.out 1; have hfz18_2 := blk_frozen BK323.out 2; have hfz18_3 := blk_frozen BK323.out 3) | ((with_reducible refine gate_callee (f := 52) rfl ?_); refine goesL_ (some 5) rfl rfl Tryd.func52 (by kernel_rfl) rfl #[.agg #[.int .i64 a0_0, .int .i64 a0_1]] rfl ma_ ?_; (with_reducible refine (impl_PtOk.calls a0_0 a0_1 false _ A2.out).mono ?_); rintro e w19 ⟨rfl, hb⟩; refine ⟨_, rfl, ?_⟩; have n0_ := Aside0.mk (ub_ (g := gb323) hb); have n1_ := Aside0.mk (below_step hB_ hb); clear BK323; clear HB; have BK323 := n0_; have HB := n1_; clear n0_ n1_; (try clear hb); (try clear hb2); (try clear hk); (try clear hi)))
  go_ret
  exact ⟨by first | rfl | (simp [errW_none, errW_some] <;> rfl) | (simp [*, errW_none, errW_some] <;> rfl), hB_⟩
end Go.Proofs.YtnponnkcfgjeoaaDoor.X
end
section
namespace Go.Proofs.YtnponnkcfgjeoaaDoor.X
open Go.RowKit Go.Proofs.YtnponnkcfgjeoaaDoorW.PrintWords Go.Proofs.YtnponnkcfgjeoaaDoorW.PrintLast Go.Proofs.YtnponnkcfgjeoaaDoorW.PrintMore
attribute [local go_sem] max2_int min2_int max_two min_two max_three min_three max_four min_four
set_option linter.unusedVariables false
set_option linter.unusedSimpArgs false
def impl_SegHas.j0 : Nat → Bool → Int → Int → Int → Int → Int → Int → Option (Bool)
 | 0, _, _, _, _, _, _, _ => none
 | k + 1, x22, x369000, x369001, x369002, x369003, x370000, x370001 => if x22 = true then (some false) else ((impl_along.f x369000 x369001 x369002 x369003 x370000 x370001).bind fun t373 => (if t373 ≥ 0 then ((impl_between.f x369000 x369001 x369002 x369003).bind fun t374 => (some (decide (t373 ≤ t374)))) else (some false)))
def impl_SegHas.f (k : Nat) (a0_0 : Int) (a0_1 : Int) (a0_2 : Int) (a0_3 : Int) (a1_0 : Int) (a1_1 : Int) : Option (Bool) := (impl_SegOk.f a0_0 a0_1 a0_2 a0_3).bind fun t370 => (if t370 = true then ((impl_PtOk.f a1_0 a1_1).bind fun t371 => (if t371 = true then ((impl_cross.f a0_0 a0_1 a0_2 a0_3 a1_0 a1_1).bind fun t372 => (impl_SegHas.j0 k (t372 != 0) a0_0 a0_1 a0_2 a0_3 a1_0 a1_1)) else (impl_SegHas.j0 k true a0_0 a0_1 a0_2 a0_3 a1_0 a1_1))) else (impl_SegHas.j0 k true a0_0 a0_1 a0_2 a0_3 a1_0 a1_1))
set_option maxHeartbeats 8000000 in
set_option maxRecDepth 100000 in
theorem impl_SegHas.calls (k : Nat) (a0_0 : Int) (a0_1 : Int) (a0_2 : Int) (a0_3 : Int) (a1_0 : Int) (a1_1 : Int) (r : Bool) (w : World) (h : impl_SegHas.f k a0_0 a0_1 a0_2 a0_3 a1_0 a1_1 = some r) :
  Calls Tryd.prog 29 #[.agg #[.int .i64 a0_0, .int .i64 a0_1, .int .i64 a0_2, .int .i64 a0_3], .agg #[.int .i64 a1_0, .int .i64 a1_1]] w fun e w' => e = .returned (.bool r) ∧ Below w.heap.size w w' := by
 have hu40 := Tryd.underlying40
 have hu38 := Tryd.underlying38
 have HB := Aside0.mk (Below.refl w.heap.size w)
 have H : ((impl_SegOk.f a0_0 a0_1 a0_2 a0_3).bind fun t370 => (if t370 = true then ((impl_PtOk.f a1_0 a1_1).bind fun t371 => (if t371 = true then ((impl_cross.f a0_0 a0_1 a0_2 a0_3 a1_0 a1_1).bind fun t372 => (impl_SegHas.j0 k (t372 != 0) a0_0 a0_1 a0_2 a0_3 a1_0 a1_1)) else (impl_SegHas.j0 k true a0_0 a0_1 a0_2 a0_3 a1_0 a1_1))) else (impl_SegHas.j0 k true a0_0 a0_1 a0_2 a0_3 a1_0 a1_1))) = some r := h
 clear h
 have HC3 := Aside0.mk H
 clear H
 go_enter Tryd.func29, Tryd.ntmps29
 go_upto_region 1 with (first | ((with_reducible refine gate_dst (N := 2) rfl ?_); refine box_event ?hg (N := 2) ?hd (cs := #[.int .i64 a0_0, .int .i64 a0_1, .int .i64 a0_2, .int .i64 a0_3]) (t := 40) ?hr ?_; (case hd => rfl); (case hg => rfl); (case hr => first | (go_simp; done) | (go_simp; rfl)); intro gb368 hg w4 hbox hb; have n0_ := Aside0.mk (below_step hB_ hb); have n1_ := Aside0.mk (hbox); have n2_ := Aside0.mk ((by rw [hg]; exact (below_size hB_) : w.heap.size ≤ gb368)); have n3_ := Aside0.mk ((by rw [hg]; exact (below_size hB_) : w.heap.size ≤ gb368)); clear HB; have HB := n0_; have BK368 := n1_; have GW368 := n2_; have GE368 := n3_; clear n0_ n1_ n2_ n3_; clear hb hbox hg) | ((with_reducible refine gate_dst (N := 3) rfl ?_); refine box_event ?hg (N := 3) ?hd (cs := #[.int .i64 a1_0, .int .i64 a1_1]) (t := 38) ?hr ?_; (case hd => rfl); (case hg => rfl); (case hr => first | (go_simp; done) | (go_simp; rfl)); intro gb369 hg w5 hbox hb; have n0_ := Aside0.mk (ub_ (g := gb368) hb); have n1_ := Aside0.mk (below_step hB_ hb); have n2_ := Aside0.mk (hbox); have n3_ := Aside0.mk ((by rw [hg]; exact (below_size hB_) : w.heap.size ≤ gb369)); have n4_ := Aside0.mk ((by rw [hg]; exact (below_size hB_) : w.heap.size ≤ gb369)); have n5_ := Aside0.mk ((by rw [hg]; exact Nat.ne_of_lt (blk_lt (g := gb368) (o := .cells #[.int .i64 a0_0, .int .i64 a0_1, .int .i64 a0_2, .int .i64 a0_3] 40 (0, 0)) uq_) : gb368 ≠ gb369)); have n6_ := Aside0.mk ((by rw [hg]; exact Nat.ne_of_gt (blk_lt (g := gb368) (o := .cells #[.int .i64 a0_0, .int .i64 a0_1, .int .i64 a0_2, .int .i64 a0_3] 40 (0, 0)) uq_) : gb369 ≠ gb368)); clear BK368; clear HB; have BK368 := n0_; have HB := n1_; have BK369 := n2_; have GW369 := n3_; have GE369 := n4_; have NB368_369 := n5_; have NB369_368 := n6_; clear n0_ n1_ n2_ n3_ n4_ n5_ n6_; clear hb hbox hg))
 (try simp only [Act.put, List.setIfInBounds_toArray, List.set_cons_zero, List.set_cons_succ])
 go_cut [22] (fun v22 wc => ∃ (kq : Nat) (x22_2 : Bool), v22 = .bool x22_2 ∧ Aside0 (impl_SegHas.j0 kq x22_2 a0_0 a0_1 a0_2 a0_3 a1_0 a1_1 = some r) ∧ Aside0 (kq ≤ k) ∧ Aside0 (wc.heap[gb368]? = some (.cells #[.int .i64 a0_0, .int .i64 a0_1, .int .i64 a0_2, .int .i64 a0_3] 40 (0, 0))) ∧ Aside0 (wc.heap[gb369]? = some (.cells #[.int .i64 a1_0, .int .i64 a1_1] 38 (0, 0))) ∧ Aside0 (Below w.heap.size w wc))
 case first =>
  have H := HC3.out
  clear HC3
  replace H := Option.bind_eq_some_iff.mp H
  obtain ⟨t370, A60, H⟩ := H
  replace H : (if t370 = true then ((impl_PtOk.f a1_0 a1_1).bind fun t371 => (if t371 = true then ((impl_cross.f a0_0 a0_1 a0_2 a0_3 a1_0 a1_1).bind fun t372 => (impl_SegHas.j0 k (t372 != 0) a0_0 a0_1 a0_2 a0_3 a1_0 a1_1)) else (impl_SegHas.j0 k true a0_0 a0_1 a0_2 a0_3 a1_0 a1_1))) else (impl_SegHas.j0 k true a0_0 a0_1 a0_2 a0_3 a1_0 a1_1)) = some r := H
  have A6 := Aside0.mk A60
  clear A60
  by_cases c7 : t370 = true
  ·
   subst c7
   have H1 : ((impl_PtOk.f a1_0 a1_1).bind fun t371 => (if t371 = true then ((impl_cross.f a0_0 a0_1 a0_2 a0_3 a1_0 a1_1).bind fun t372 => (impl_SegHas.j0 k (t372 != 0) a0_0 a0_1 a0_2 a0_3 a1_0 a1_1)) else (impl_SegHas.j0 k true a0_0 a0_1 a0_2 a0_3 a1_0 a1_1))) = some r := by rw [if_pos rfl] at H; exact H
   clear H
   have H := H1
   clear H1
   replace H := Option.bind_eq_some_iff.mp H
   obtain ⟨t371, A80, H⟩ := H
   replace H : (if t371 = true then ((impl_cross.f a0_0 a0_1 a0_2 a0_3 a1_0 a1_1).bind fun t372 => (impl_SegHas.j0 k (t372 != 0) a0_0 a0_1 a0_2 a0_3 a1_0 a1_1)) else (impl_SegHas.j0 k true a0_0 a0_1 a0_2 a0_3 a1_0 a1_1)) = some r := H
   have A8 := Aside0.mk A80
   clear A80
   by_cases c9 : t371 = true
   ·
    subst c9
    have H1 : ((impl_cross.f a0_0 a0_1 a0_2 a0_3 a1_0 a1_1).bind fun t372 => (impl_SegHas.j0 k (t372 != 0) a0_0 a0_1 a0_2 a0_3 a1_0 a1_1)) = some r := by rw [if_pos rfl] at H; exact H
    clear H
    have H := H1
    clear H1
    replace H := Option.bind_eq_some_iff.mp H
    obtain ⟨t372, A100, H⟩ := H
    replace H : (impl_SegHas.j0 k (t372 != 0) a0_0 a0_1 a0_2 a0_3 a1_0 a1_1) = some r := H
    have A10 := Aside0.mk A100
    clear A100
    have H' := Aside0.mk H
    clear H
    have hnb11 := NB368_369.out
    have hnc11 := NB369_368.out
    have hcz12_0 : w5.cell? ⟨gb368, 0, none⟩ = some (.int .i64 a0_0) := bc_
    have hcz12_1 : w5.cell? ⟨gb368, 1, none⟩ = some (.int .i64 a0_1) := bc_
    have hcz12_2 : w5.cell? ⟨gb368, 2, none⟩ = some (.int .i64 a0_2) := bc_
    have hcz12_3 : w5.cell? ⟨gb368, 3, none⟩ = some (.int .i64 a0_3) := bc_
    have hfz12_0 := blk_frozen BK368.out 0
    have hfz12_1 := blk_frozen BK368.out 1
    have hfz12_2 := blk_frozen BK368.out 2
    have hfz12_3 := blk_frozen BK368.out 3
    go_wp2_with (first | ((with_reducible refine gate_callee (f := 28) rfl ?_); refine goesL_ (some 7) rfl rfl Tryd.func28 (by kernel_rfl) rfl #[.agg #[.int .i64 a0_0, .int .i64 a0_1, .int .i64 a0_2, .int .i64 a0_3]] rfl ma_ ?_; (with_reducible refine (impl_SegOk.calls a0_0 a0_1 a0_2 a0_3 true _ A6.out).mono ?_); rintro e w13 ⟨rfl, hb⟩; refine ⟨_, rfl, ?_⟩; have n0_ := Aside0.mk (ub_ (g := gb368) hb); have n1_ := Aside0.mk (ub_ (g := gb369) hb); have n2_ := Aside0.mk (below_step hB_ hb); clear BK368; clear BK369; clear HB; have BK368 := n0_; have BK369 := n1_; have HB := n2_; clear n0_ n1_ n2_; (try clear hb); (try clear hb2); (try clear hk); (try clear hi); have hcz14_0 : w13.cell? ⟨gb369, 0, none⟩ = some (.int .i64 a1_0) := bc_; have hcz14_1 : w13.cell? ⟨gb369, 1, none⟩ = some (.int .i64 a1_1) := bc_; have hfz14_0 := blk_frozen BK369.out 0; have hfz14_1 := blk_frozen BK369.out 1) | (go_at_call 52; (with_reducible refine (impl_PtOk.calls a1_0 a1_1 true _ A8.out).mono ?_); rintro e w15 ⟨rfl, hb⟩; have n0_ := Aside0.mk (ub_ (g := gb368) hb); have n1_ := Aside0.mk (ub_ (g := gb369) hb); have n2_ := Aside0.mk (below_step hB_ hb); clear BK368; clear BK369; clear HB; have BK368 := n0_; have BK369 := n1_; have HB := n2_; clear n0_ n1_ n2_; (try clear hb); (try clear hb2); (try clear hk); (try clear hi); have hcz16_0 : w15.cell? ⟨gb368, 0, none⟩ = some (.int .i64 a0_0) := bc_; have hcz16_1 : w15.cell? ⟨gb368, 1, none⟩ = some (.int .i64 a0_1) := bc_; have hcz16_2 : w15.cell? ⟨gb368, 2, none⟩ = some (.int .i64 a0_2) := bc_; have hcz16_3 : w15.cell? ⟨gb368, 3, none⟩ = some (.int .i64 a0_3) := bc_; have hfz16_0 := blk_frozen BK368.out 0; have hfz16_1 := blk_frozen BK368.out 1; have hfz16_2 := blk_frozen BK368.out 2; have hfz16_3 := blk_frozen BK368.out 3; have hcz17_0 : w15.cell? ⟨gb369, 0, none⟩ = some (.int .i64 a1_0) := bc_; have hcz17_1 : w15.cell? ⟨gb369, 1, none⟩ = some (.int .i64 a1_1) := bc_; have hfz17_0 := blk_frozen BK369.out 0; have hfz17_1 := blk_frozen BK369.out 1) | (go_at_call 56; (with_reducible refine (impl_cross.calls a0_0 a0_1 a0_2 a0_3 a1_0 a1_1 t372 _ A10.out).mono ?_); rintro e w18 ⟨rfl, hb⟩; have n0_ := Aside0.mk (ub_ (g := gb368) hb); have n1_ := Aside0.mk (ub_ (g := gb369) hb); have n2_ := Aside0.mk (below_step hB_ hb); clear BK368; clear BK369; clear HB; have BK368 := n0_; have BK369 := n1_; have HB := n2_; clear n0_ n1_ n2_; (try clear hb); (try clear hb2); (try clear hk); (try clear hi)))
    go_meet
    case rel => exact ⟨_, ((t372 != 0)), (by first | rfl | (simp; done) | (simp [*]; done)), H', ⟨by first | omega | exact Nat.le_refl _⟩, ⟨uq_⟩, ⟨uq_⟩, ⟨hB_⟩⟩
   ·
    replace c9 := Bool.eq_false_iff.mpr c9
    subst c9
    have H1 : (impl_SegHas.j0 k true a0_0 a0_1 a0_2 a0_3 a1_0 a1_1) = some r := by rw [if_neg (show ¬ (false = true) by decide)] at H; exact H
    clear H
    have H := H1
    clear H1
    have H' := Aside0.mk H
    clear H
    have hnb19 := NB368_369.out
    have hnc19 := NB369_368.out
    have hcz20_0 : w5.cell? ⟨gb368, 0, none⟩ = some (.int .i64 a0_0) := bc_
    have hcz20_1 : w5.cell? ⟨gb368, 1, none⟩ = some (.int .i64 a0_1) := bc_
    have hcz20_2 : w5.cell? ⟨gb368, 2, none⟩ = some (.int .i64 a0_2) := bc_
    have hcz20_3 : w5.cell? ⟨gb368, 3, none⟩ = some (.int .i64 a0_3) := bc_
    have hfz20_0 := blk_frozen BK368.out 0
    have hfz20_1 := blk_frozen BK368.out 1
    have hfz20_2 := blk_frozen BK368.out 2
    have hfz20_3 := blk_frozen BK368.out 3
    go_wp2_with (first | ((with_reducible refine gate_callee (f := 28) rfl ?_); refine goesL_ (some 7) rfl rfl Tryd.func28 (by kernel_rfl) rfl #[.agg #[.int .i64 a0_0, .int .i64 a0_1, .int .i64 a0_2, .int .i64 a0_3]] rfl ma_ ?_; (with_reducible refine (impl_SegOk.calls a0_0 a0_1 a0_2 a0_3 true _ A6.out).mono ?_); rintro e w21 ⟨rfl, hb⟩; refine ⟨_, rfl, ?_⟩; have n0_ := Aside0.mk (ub_ (g := gb368) hb); have n1_ := Aside0.mk (ub_ (g := gb369) hb); have n2_ := Aside0.mk (below_step hB_ hb); clear BK368; clear BK369; clear HB; have BK368 := n0_; have BK369 := n1_; have HB := n2_; clear n0_ n1_ n2_; (try clear hb); (try clear hb2); (try clear hk); (try clear hi); have hcz22_0 : w21.cell? ⟨gb369, 0, none⟩ = some (.int .i64 a1_0) := bc_; have hcz22_1 : w21.cell? ⟨gb369, 1, none⟩ = some (.int .i64 a1_1) := bc_; have hfz22_0 := blk_frozen BK369.out 0; have hfz22_1 := blk_frozen BK369.out 1) | (go_at_call 52; (with_reducible refine (impl_PtOk.calls a1_0 a1_1 false _ A8.out).mono ?_); rintro e w23 ⟨rfl, hb⟩; have n0_ := Aside0.mk (ub_ (g := gb368) hb); have n1_ := Aside0.mk (ub_ (g := gb369) hb); have n2_ := Aside0.mk (below_step hB_ hb); clear BK368; clear BK369; clear HB; have BK368 := n0_; have BK369 := n1_; have HB := n2_; clear n0_ n1_ n2_; (try clear hb); (try clear hb2); (try clear hk); (try clear hi)))
    go_meet
    case rel => exact ⟨_, (true), (by first | rfl | (simp; done) | (simp [*]; done)), H', ⟨by first | omega | exact Nat.le_refl _⟩, ⟨uq_⟩, ⟨uq_⟩, ⟨hB_⟩⟩
  ·
   replace c7 := Bool.eq_false_iff.mpr c7
   subst c7
   have H1 : (impl_SegHas.j0 k true a0_0 a0_1 a0_2 a0_3 a1_0 a1_1) = some r := by rw [if_neg (show ¬ (false = true) by decide)] at H; exact H
   clear H
   have H := H1
   clear H1
   have H' := Aside0.mk H
   clear H
   have hnb24 := NB368_369.out
   have hnc24 := NB369_368.out
   have hcz25_0 : w5.cell? ⟨gb368, 0, none⟩ = some (.int .i64 a0_0) := bc_
   have hcz25_1 : w5.cell? ⟨gb368, 1, none⟩ = some (.int .i64 a0_1) := bc_
   have hcz25_2 : w5.cell? ⟨gb368, 2, none⟩ = some (.int .i64 a0_2) := bc_
   have hcz25_3 : w5.cell? ⟨gb368, 3, none⟩ = some (.int .i64 a0_3) := bc_
   have hfz25_0 := blk_frozen BK368.out 0
   have hfz25_1 := blk_frozen BK368.out 1
   have hfz25_2 := blk_frozen BK368.out 2
   have hfz25_3 := blk_frozen BK368.out 3
   go_wp2_with (first | ((with_reducible refine gate_callee (f := 28) rfl ?_); refine goesL_ (some 7) rfl rfl Tryd.func28 (by kernel_rfl) rfl #[.agg #[.int .i64 a0_0, .int .i64 a0_1, .int .i64 a0_2, .int .i64 a0_3]] rfl ma_ ?_; (with_reducible refine (impl_SegOk.calls a0_0 a0_1 a0_2 a0_3 false _ A6.out).mono ?_); rintro e w26 ⟨rfl, hb⟩; refine ⟨_, rfl, ?_⟩; have n0_ := Aside0.mk (ub_ (g := gb368) hb); have n1_ := Aside0.mk (ub_ (g := gb369) hb); have n2_ := Aside0.mk (below_step hB_ hb); clear BK368; clear BK369; clear HB; have BK368 := n0_; have BK369 := n1_; have HB := n2_; clear n0_ n1_ n2_; (try clear hb); (try clear hb2); (try clear hk); (try clear hi)))
   go_meet
   case rel => exact ⟨_, (true), (by first | rfl | (simp; done) | (simp [*]; done)), H', ⟨by first | omega | exact Nat.le_refl _⟩, ⟨uq_⟩, ⟨uq_⟩, ⟨hB_⟩⟩
 case rest =>
  clear HC3
  try clear c1
  try clear c2
  try clear p2
  try clear c7
  try clear c9
  try clear c11
  try clear c19
  try clear c24
  try clear hcz12_0
  try clear hcz12_1
  try clear hcz12_2
  try clear hcz12_3
  try clear hcz14_0
  try clear hcz14_1
  try clear hcz16_0
  try clear hcz16_1
  try clear hcz16_2
  try clear hcz16_3
  try clear hcz17_0
  try clear hcz17_1
  try clear hcz20_0
  try clear hcz20_1
  try clear hcz20_2
  try clear hcz20_3
  try clear hcz22_0
  try clear hcz22_1
  try clear hcz25_0
  try clear hcz25_1
  try clear hcz25_2
  try clear hcz25_3
  try clear hfz12_0
  try clear hfz12_1
  try clear hfz12_2
  try clear hfz12_3
  try clear hfz14_0
  try clear hfz14_1
  try clear hfz16_0
  try clear hfz16_1
  try clear hfz16_2
  try clear hfz16_3
  try clear hfz17_0
  try clear hfz17_1
  try clear hfz20_0
  try clear hfz20_1
  try clear hfz20_2
  try clear hfz20_3
  try clear hfz22_0
  try clear hfz22_1
  try clear hfz25_0
  try clear hfz25_1
  try clear hfz25_2
  try clear hfz25_3
  obtain ⟨kq, x22_2, rfl, HA, HJ2, BK368, BK369, HB⟩ := hcut
  cases kq with
  | zero => exact absurd HA.out (by simp [impl_SegHas.j0])
  | succ kj2 =>
   have H := HA.out
   clear HA
   simp only [impl_SegHas.j0] at H
   by_cases c27 : x22_2 = true
   ·
    subst c27
    have H1 : (some false) = some r := by rw [if_pos rfl] at H; exact H
    clear H
    have H := H1
    clear H1
    obtain rfl := Option.some.inj H
    go_wp2
    go_ret
    exact ⟨by first | rfl | (simp [errW_none, errW_some] <;> rfl) | (simp [*, errW_none, errW_some] <;> rfl), hB_⟩
   ·
    replace c27 := Bool.eq_false_iff.mpr c27
    subst c27
    have H1 : ((impl_along.f a0_0 a0_1 a0_2 a0_3 a1_0 a1_1).bind fun t373 => (if t373 ≥ 0 then ((impl_between.f a0_0 a0_1 a0_2 a0_3).bind fun t374 => (some (decide (t373 ≤ t374)))) else (some false))) = some r := by rw [if_neg (show ¬ (false = true) by decide)] at H; exact H
    clear H
    have H := H1
    clear H1
    replace H := Option.bind_eq_some_iff.mp H
    obtain ⟨t373, A280, H⟩ := H
    replace H : (if t373 ≥ 0 then ((impl_between.f a0_0 a0_1 a0_2 a0_3).bind fun t374 => (some (decide (t373 ≤ t374)))) else (some false)) = some r := H
    have A28 := Aside0.mk A280
    clear A280
    by_cases c29 : t373 ≥ 0
    ·
     rw [if_pos c29] at H
     have c29b0 : decide (0 ≤ t373) = true := decide_eq_true c29
     clear c29
     replace H := Option.bind_eq_some_iff.mp H
     obtain ⟨t374, A300, H⟩ := H
     replace H : (some (decide (t373 ≤ t374))) = some r := H
     have A30 := Aside0.mk A300
     clear A300
     obtain rfl := Option.some.inj H
     have hnb31 := NB368_369.out
     have hnc31 := NB369_368.out
     have hcz32_0 : wc.cell? ⟨gb368, 0, none⟩ = some (.int .i64 a0_0) := bc_
     have hcz32_1 : wc.cell? ⟨gb368, 1, none⟩ = some (.int .i64 a0_1) := bc_
     have hcz32_2 : wc.cell? ⟨gb368, 2, none⟩ = some (.int .i64 a0_2) := bc_
     have hcz32_3 : wc.cell? ⟨gb368, 3, none⟩ = some (.int .i64 a0_3) := bc_
     have hfz32_0 := blk_frozen BK368.out 0
     have hfz32_1 := blk_frozen BK368.out 1
     have hfz32_2 := blk_frozen BK368.out 2
     have hfz32_3 := blk_frozen BK368.out 3
     have hcz33_0 : wc.cell? ⟨gb369, 0, none⟩ = some (.int .i64 a1_0) := bc_
     have hcz33_1 : wc.cell? ⟨gb369, 1, none⟩ = some (.int .i64 a1_1) := bc_
     have hfz33_0 := blk_frozen BK369.out 0
     have hfz33_1 := blk_frozen BK369.out 1
     go_wp2_with (first | ((with_reducible refine gate_callee (f := 60) rfl ?_); refine goesL_ (some 28) rfl rfl Tryd.func60 (by kernel_rfl) rfl #[.agg #[.int .i64 a0_0, .int .i64 a0_1], .agg #[.int .i64 a0_2, .int .i64 a0_3], .agg #[.int .i64 a1_0, .int .i64 a1_1]] rfl ma_ ?_; (with_reducible refine (impl_along.calls a0_0 a0_1 a0_2 a0_3 a1_0 a1_1 t373 _ A28.out).mono ?_); rintro e w34 ⟨rfl, hb⟩; refine ⟨_, rfl, ?_⟩; have n0_ := Aside0.mk (ub_ (g := gb368) hb); have n1_ := Aside0.mk (ub_ (g := gb369) hb); have n2_ := Aside0.mk (below_step hB_ hb); clear BK368; clear BK369; clear HB; have BK368 := n0_; have BK369 := n1_; have HB := n2_; clear n0_ n1_ n2_; (try clear hb); (try clear hb2); (try clear hk); (try clear hi); have hcz35_0 : w34.cell? ⟨gb368, 0, none⟩ = some (.int .i64 a0_0) := bc_; have hcz35_1 : w34.cell? ⟨gb368, 1, none⟩ = some (.int .i64 a0_1) := bc_; have hcz35_2 : w34.cell? ⟨gb368, 2, none⟩ = some (.int .i64 a0_2) := bc_; have hcz35_3 : w34.cell? ⟨gb368, 3, none⟩ = some (.int .i64 a0_3) := bc_; have hfz35_0 := blk_frozen BK368.out 0; have hfz35_1 := blk_frozen BK368.out 1; have hfz35_2 := blk_frozen BK368.out 2; have hfz35_3 := blk_frozen BK368.out 3) | (go_at_call 54; (with_reducible refine (impl_between.calls a0_0 a0_1 a0_2 a0_3 t374 _ A30.out).mono ?_); rintro e w36 ⟨rfl, hb⟩; have n0_ := Aside0.mk (ub_ (g := gb368) hb); have n1_ := Aside0.mk (ub_ (g := gb369) hb); have n2_ := Aside0.mk (below_step hB_ hb); clear BK368; clear BK369; clear HB; have BK368 := n0_; have BK369 := n1_; have HB := n2_; clear n0_ n1_ n2_; (try clear hb); (try clear hb2); (try clear hk); (try clear hi)))
     go_ret
     exact ⟨by first | rfl | (simp [errW_none, errW_some] <;> rfl) | (simp [*, errW_none, errW_some] <;> rfl), hB_⟩
    ·
     rw [if_neg c29] at H
     have c29b0 : decide (0 ≤ t373) = false := decide_eq_false c29
     clear c29
     obtain rfl := Option.some.inj H
     have hnb37 := NB368_369.out
     have hnc37 := NB369_368.out
     have hcz38_0 : wc.cell? ⟨gb368, 0, none⟩ = some (.int .i64 a0_0) := bc_
     have hcz38_1 : wc.cell? ⟨gb368, 1, none⟩ = some (.int .i64 a0_1) := bc_
     have hcz38_2 : wc.cell? ⟨gb368, 2, none⟩ = some (.int .i64 a0_2) := bc_
     have hcz38_3 : wc.cell? ⟨gb368, 3, none⟩ = some (.int .i64 a0_3) := bc_
     have hfz38_0 := blk_frozen BK368.out 0
     have hfz38_1 := blk_frozen BK368.out 1
     have hfz38_2 := blk_frozen BK368.out 2
     have hfz38_3 := blk_frozen BK368.out 3
     have hcz39_0 : wc.cell? ⟨gb369, 0, none⟩ = some (.int .i64 a1_0) := bc_
     have hcz39_1 : wc.cell? ⟨gb369, 1, none⟩ = some (.int .i64 a1_1) := bc_
     have hfz39_0 := blk_frozen BK369.out 0
     have hfz39_1 := blk_frozen BK369.out 1
     go_wp2_with (first | ((with_reducible refine gate_callee (f := 60) rfl ?_); refine goesL_ (some 28) rfl rfl Tryd.func60 (by kernel_rfl) rfl #[.agg #[.int .i64 a0_0, .int .i64 a0_1], .agg #[.int .i64 a0_2, .int .i64 a0_3], .agg #[.int .i64 a1_0, .int .i64 a1_1]] rfl ma_ ?_; (with_reducible refine (impl_along.calls a0_0 a0_1 a0_2 a0_3 a1_0 a1_1 t373 _ A28.out).mono ?_); rintro e w40 ⟨rfl, hb⟩; refine ⟨_, rfl, ?_⟩; have n0_ := Aside0.mk (ub_ (g := gb368) hb); have n1_ := Aside0.mk (ub_ (g := gb369) hb); have n2_ := Aside0.mk (below_step hB_ hb); clear BK368; clear BK369; clear HB; have BK368 := n0_; have BK369 := n1_; have HB := n2_; clear n0_ n1_ n2_; (try clear hb); (try clear hb2); (try clear hk); (try clear hi)))
     go_ret
     exact ⟨by first | rfl | (simp [errW_none, errW_some] <;> rfl) | (simp [*, errW_none, errW_some] <;> rfl), hB_⟩
end Go.Proofs.YtnponnkcfgjeoaaDoor.X
end
section
namespace Go.Proofs.YtnponnkcfgjeoaaDoor.X
open Go.RowKit Go.Proofs.YtnponnkcfgjeoaaDoorW.PrintWords Go.Proofs.YtnponnkcfgjeoaaDoorW.PrintLast Go.Proofs.YtnponnkcfgjeoaaDoorW.PrintMore
attribute [local go_sem] max2_int min2_int max_two min_two max_three min_three max_four min_four
set_option linter.unusedVariables false
set_option linter.unusedSimpArgs false
def impl_SegTurn.j0 : Nat → Bool → Int → Int → Int → Int → Int → Int → Option (Int)
 | 0, _, _, _, _, _, _, _ => none
 | k + 1, x20, x471000, x471001, x472000, x472001, x473000, x473001 => if x20 = true then (some 0) else ((impl_cross.f x471000 x471001 x472000 x472001 x473000 x473001).bind fun t476 => (if t476 > 0 then (some 1) else (if t476 < 0 then (some (-1)) else (some 0))))
def impl_SegTurn.f (k : Nat) (a0_0 : Int) (a0_1 : Int) (a1_0 : Int) (a1_1 : Int) (a2_0 : Int) (a2_1 : Int) : Option (Int) := (impl_PtOk.f a0_0 a0_1).bind fun t473 => (if t473 = true then ((impl_PtOk.f a1_0 a1_1).bind fun t474 => (if t474 = true then ((impl_PtOk.f a2_0 a2_1).bind fun t475 => (impl_SegTurn.j0 k (!t475) a0_0 a0_1 a1_0 a1_1 a2_0 a2_1)) else (impl_SegTurn.j0 k true a0_0 a0_1 a1_0 a1_1 a2_0 a2_1))) else (impl_SegTurn.j0 k true a0_0 a0_1 a1_0 a1_1 a2_0 a2_1))
set_option maxHeartbeats 8000000 in
set_option maxRecDepth 100000 in
theorem impl_SegTurn.calls (k : Nat) (a0_0 : Int) (a0_1 : Int) (a1_0 : Int) (a1_1 : Int) (a2_0 : Int) (a2_1 : Int) (r : Int) (w : World) (h : impl_SegTurn.f k a0_0 a0_1 a1_0 a1_1 a2_0 a2_1 = some r) :
  Calls Tryd.prog 64 #[.agg #[.int .i64 a0_0, .int .i64 a0_1], .agg #[.int .i64 a1_0, .int .i64 a1_1], .agg #[.int .i64 a2_0, .int .i64 a2_1]] w fun e w' => e = .returned (.int .i64 r) ∧ Below w.heap.size w w' := by
 have hu38 := Tryd.underlying38
 have HB := Aside0.mk (Below.refl w.heap.size w)
 have H : ((impl_PtOk.f a0_0 a0_1).bind fun t473 => (if t473 = true then ((impl_PtOk.f a1_0 a1_1).bind fun t474 => (if t474 = true then ((impl_PtOk.f a2_0 a2_1).bind fun t475 => (impl_SegTurn.j0 k (!t475) a0_0 a0_1 a1_0 a1_1 a2_0 a2_1)) else (impl_SegTurn.j0 k true a0_0 a0_1 a1_0 a1_1 a2_0 a2_1))) else (impl_SegTurn.j0 k true a0_0 a0_1 a1_0 a1_1 a2_0 a2_1))) = some r := h
 clear h
 have HC4 := Aside0.mk H
 clear H
 go_enter Tryd.func64, Tryd.ntmps64
 go_upto_region 1 with (first | ((with_reducible refine gate_dst (N := 3) rfl ?_); refine box_event ?hg (N := 3) ?hd (cs := #[.int .i64 a0_0, .int .i64 a0_1]) (t := 38) ?hr ?_; (case hd => rfl); (case hg => rfl); (case hr => first | (go_simp; done) | (go_simp; rfl)); intro gb470 hg w5 hbox hb; have n0_ := Aside0.mk (below_step hB_ hb); have n1_ := Aside0.mk (hbox); have n2_ := Aside0.mk ((by rw [hg]; exact (below_size hB_) : w.heap.size ≤ gb470)); have n3_ := Aside0.mk ((by rw [hg]; exact (below_size hB_) : w.heap.size ≤ gb470)); clear HB; have HB := n0_; have BK470 := n1_; have GW470 := n2_; have GE470 := n3_; clear n0_ n1_ n2_ n3_; clear hb hbox hg) | ((with_reducible refine gate_dst (N := 4) rfl ?_); refine box_event ?hg (N := 4) ?hd (cs := #[.int .i64 a1_0, .int .i64 a1_1]) (t := 38) ?hr ?_; (case hd => rfl); (case hg => rfl); (case hr => first | (go_simp; done) | (go_simp; rfl)); intro gb471 hg w6 hbox hb; have n0_ := Aside0.mk (ub_ (g := gb470) hb); have n1_ := Aside0.mk (below_step hB_ hb); have n2_ := Aside0.mk (hbox); have n3_ := Aside0.mk ((by rw [hg]; exact (below_size hB_) : w.heap.size ≤ gb471)); have n4_ := Aside0.mk ((by rw [hg]; exact (below_size hB_) : w.heap.size ≤ gb471)); have n5_ := Aside0.mk ((by rw [hg]; exact Nat.ne_of_lt (blk_lt (g := gb470) (o := .cells #[.int .i64 a0_0, .int .i64 a0_1] 38 (0, 0)) uq_) : gb470 ≠ gb471)); have n6_ := Aside0.mk ((by rw [hg]; exact Nat.ne_of_gt (blk_lt (g := gb470) (o := .cells #[.int .i64 a0_0, .int .i64 a0_1] 38 (0, 0)) uq_) : gb471 ≠ gb470)); clear BK470; clear HB; have BK470 := n0_; have HB := n1_; have BK471 := n2_; have GW471 := n3_; have GE471 := n4_; have NB470_471 := n5_; have NB471_470 := n6_; clear n0_ n1_ n2_ n3_ n4_ n5_ n6_; clear hb hbox hg) | ((with_reducible refine gate_dst (N := 5) rfl ?_); refine box_event ?hg (N := 5) ?hd (cs := #[.int .i64 a2_0, .int .i64 a2_1]) (t := 38) ?hr ?_; (case hd => rfl); (case hg => rfl); (case hr => first | (go_simp; done) | (go_simp; rfl)); intro gb472 hg w7 hbox hb; have n0_ := Aside0.mk (ub_ (g := gb470) hb); have n1_ := Aside0.mk (ub_ (g := gb471) hb); have n2_ := Aside0.mk (below_step hB_ hb); have n3_ := Aside0.mk (hbox); have n4_ := Aside0.mk ((by rw [hg]; exact (below_size hB_) : w.heap.size ≤ gb472)); have n5_ := Aside0.mk ((by rw [hg]; exact (below_size hB_) : w.heap.size ≤ gb472)); have n6_ := Aside0.mk ((by rw [hg]; exact Nat.ne_of_lt (blk_lt (g := gb470) (o := .cells #[.int .i64 a0_0, .int .i64 a0_1] 38 (0, 0)) uq_) : gb470 ≠ gb472)); have n7_ := Aside0.mk ((by rw [hg]; exact Nat.ne_of_gt (blk_lt (g := gb470) (o := .cells #[.int .i64 a0_0, .int .i64 a0_1] 38 (0, 0)) uq_) : gb472 ≠ gb470)); have n8_ := Aside0.mk ((by rw [hg]; exact Nat.ne_of_lt (blk_lt (g := gb471) (o := .cells #[.int .i64 a1_0, .int .i64 a1_1] 38 (0, 0)) uq_) : gb471 ≠ gb472)); have n9_ := Aside0.mk ((by rw [hg]; exact Nat.ne_of_gt (blk_lt (g := gb471) (o := .cells #[.int .i64 a1_0, .int .i64 a1_1] 38 (0, 0)) uq_) : gb472 ≠ gb471)); clear BK470; clear BK471; clear HB; have BK470 := n0_; have BK471 := n1_; have HB := n2_; have BK472 := n3_; have GW472 := n4_; have GE472 := n5_; have NB470_472 := n6_; have NB472_470 := n7_; have NB471_472 := n8_; have NB472_471 := n9_; clear n0_ n1_ n2_ n3_ n4_ n5_ n6_ n7_ n8_ n9_; clear hb hbox hg))
 (try simp only [Act.put, List.setIfInBounds_toArray, List.set_cons_zero, List.set_cons_succ])
 go_cut [20] (fun v20 wc => ∃ (kq : Nat) (x20_3 : Bool), v20 = .bool x20_3 ∧ Aside0 (impl_SegTurn.j0 kq x20_3 a0_0 a0_1 a1_0 a1_1 a2_0 a2_1 = some r) ∧ Aside0 (kq ≤ k) ∧ Aside0 (wc.heap[gb470]? = some (.cells #[.int .i64 a0_0, .int .i64 a0_1] 38 (0, 0))) ∧ Aside0 (wc.heap[gb471]? = some (.cells #[.int .i64 a1_0, .int .i64 a1_1] 38 (0, 0))) ∧ Aside0 (wc.heap[gb472]? = some (.cells #[.int .i64 a2_0, .int .i64 a2_1] 38 (0, 0))) ∧ Aside0 (Below w.heap.size w wc))
 case first =>
  have H := HC4.out
  clear HC4
  replace H := Option.bind_eq_some_iff.mp H
  obtain ⟨t473, A80, H⟩ := H
  replace H : (if t473 = true then ((impl_PtOk.f a1_0 a1_1).bind fun t474 => (if t474 = true then ((impl_PtOk.f a2_0 a2_1).bind fun t475 => (impl_SegTurn.j0 k (!t475) a0_0 a0_1 a1_0 a1_1 a2_0 a2_1)) else (impl_SegTurn.j0 k true a0_0 a0_1 a1_0 a1_1 a2_0 a2_1))) else (impl_SegTurn.j0 k true a0_0 a0_1 a1_0 a1_1 a2_0 a2_1)) = some r := H
  have A8 := Aside0.mk A80
  clear A80
  by_cases c9 : t473 = true
  ·
   subst c9
   have H1 : ((impl_PtOk.f a1_0 a1_1).bind fun t474 => (if t474 = true then ((impl_PtOk.f a2_0 a2_1).bind fun t475 => (impl_SegTurn.j0 k (!t475) a0_0 a0_1 a1_0 a1_1 a2_0 a2_1)) else (impl_SegTurn.j0 k true a0_0 a0_1 a1_0 a1_1 a2_0 a2_1))) = some r := by rw [if_pos rfl] at H; exact H
   clear H
   have H := H1
   clear H1
   replace H := Option.bind_eq_some_iff.mp H
   obtain ⟨t474, A100, H⟩ := H
   replace H : (if t474 = true then ((impl_PtOk.f a2_0 a2_1).bind fun t475 => (impl_SegTurn.j0 k (!t475) a0_0 a0_1 a1_0 a1_1 a2_0 a2_1)) else (impl_SegTurn.j0 k true a0_0 a0_1 a1_0 a1_1 a2_0 a2_1)) = some r := H
   have A10 := Aside0.mk A100
   clear A100
   by_cases c11 : t474 = true
   ·
    subst c11
    have H1 : ((impl_PtOk.f a2_0 a2_1).bind fun t475 => (impl_SegTurn.j0 k (!t475) a0_0 a0_1 a1_0 a1_1 a2_0 a2_1)) = some r := by rw [if_pos rfl] at H; exact H
    clear H
    have H := H1
    clear H1
    replace H := Option.bind_eq_some_iff.mp H
    obtain ⟨t475, A120, H⟩ := H
    replace H : (impl_SegTurn.j0 k (!t475) a0_0 a0_1 a1_0 a1_1 a2_0 a2_1) = some r := H
    have A12 := Aside0.mk A120
    clear A120
    have H' := Aside0.mk H
    clear H
    have hnb13 := NB470_471.out
    have hnc13 := NB471_470.out
    have hnb14 := NB470_472.out
    have hnc14 := NB472_470.out
    have hcz15_0 : w7.cell? ⟨gb470, 0, none⟩ = some (.int .i64 a0_0) := bc_
    have hcz15_1 : w7.cell? ⟨gb470, 1, none⟩ = some (.int .i64 a0_1) := bc_
    have hfz15_0 := blk_frozen BK470.out 0
    have hfz15_1 := blk_frozen BK470.out 1
    go_wp2_with (first | ((with_reducible refine gate_callee (f := 52) rfl ?_); refine goesL_ (some 9) rfl rfl Tryd.func52 (by kernel_rfl) rfl #[.agg #[.int .i64 a0_0, .int .i64 a0_1]] rfl ma_ ?_; (with_reducible refine (impl_PtOk.calls a0_0 a0_1 true _ A8.out).mono ?_); rintro e w16 ⟨rfl, hb⟩; refine ⟨_, rfl, ?_⟩; have n0_ := Aside0.mk (ub_ (g := gb470) hb); have n1_ := Aside0.mk (ub_ (g := gb471) hb); have n2_ := Aside0.mk (ub_ (g := gb472) hb); have n3_ := Aside0.mk (below_step hB_ hb); clear BK470; clear BK471; clear BK472; clear HB; have BK470 := n0_; have BK471 := n1_; have BK472 := n2_; have HB := n3_; clear n0_ n1_ n2_ n3_; (try clear hb); (try clear hb2); (try clear hk); (try clear hi); have hnb17 := NB471_472.out; have hnc17 := NB472_471.out; have hcz18_0 : w16.cell? ⟨gb471, 0, none⟩ = some (.int .i64 a1_0) := bc_; have hcz18_1 : w16.cell? ⟨gb471, 1, none⟩ = some (.int .i64 a1_1) := bc_; have hfz18_0 := blk_frozen BK471.out 0; have hfz18_1 := blk_frozen BK471.out 1) | (go_at_call 52; (with_reducible refine (impl_PtOk.calls a1_0 a1_1 true _ A10.out).mono ?_); rintro e w19 ⟨rfl, hb⟩; have n0_ := Aside0.mk (ub_ (g := gb470) hb); have n1_ := Aside0.mk (ub_ (g := gb471) hb); have n2_ := Aside0.mk (ub_ (g := gb472) hb); have n3_ := Aside0.mk (below_step hB_ hb); clear BK470; clear BK471; clear BK472; clear HB; have BK470 := n0_; have BK471 := n1_; have BK472 := n2_; have HB := n3_; clear n0_ n1_ n2_ n3_; (try clear hb); (try clear hb2); (try clear hk); (try clear hi); have hcz20_0 : w19.cell? ⟨gb472, 0, none⟩ = some (.int .i64 a2_0) := bc_; have hcz20_1 : w19.cell? ⟨gb472, 1, none⟩ = some (.int .i64 a2_1) := bc_; have hfz20_0 := blk_frozen BK472.out 0; have hfz20_1 := blk_frozen BK472.out 1) | (go_at_call 52; (with_reducible refine (impl_PtOk.calls a2_0 a2_1 t475 _ A12.out).mono ?_); rintro e w21 ⟨rfl, hb⟩; have n0_ := Aside0.mk (ub_ (g := gb470) hb); have n1_ := Aside0.mk (ub_ (g := gb471) hb); have n2_ := Aside0.mk (ub_ (g := gb472) hb); have n3_ := Aside0.mk (below_step hB_ hb); clear BK470; clear BK471; clear BK472; clear HB; have BK470 := n0_; have BK471 := n1_; have BK472 := n2_; have HB := n3_; clear n0_ n1_ n2_ n3_; (try clear hb); (try clear hb2); (try clear hk); (try clear hi)))
    go_meet
    case rel => exact ⟨_, (!t475), (by first | rfl | (simp; done) | (simp [*]; done)), H', ⟨by first | omega | exact Nat.le_refl _⟩, ⟨uq_⟩, ⟨uq_⟩, ⟨uq_⟩, ⟨hB_⟩⟩
   ·
    replace c11 := Bool.eq_false_iff.mpr c11
    subst c11
    have H1 : (impl_SegTurn.j0 k true a0_0 a0_1 a1_0 a1_1 a2_0 a2_1) = some r := by rw [if_neg (show ¬ (false = true) by decide)] at H; exact H
    clear H
    have H := H1
    clear H1
    have H' := Aside0.mk H
    clear H
    have hnb22 := NB470_471.out
    have hnc22 := NB471_470.out
    have hnb23 := NB470_472.out
    have hnc23 := NB472_470.out
    have hcz24_0 : w7.cell? ⟨gb470, 0, none⟩ = some (.int .i64 a0_0) := bc_
    have hcz24_1 : w7.cell? ⟨gb470, 1, none⟩ = some (.int .i64 a0_1) := bc_
    have hfz24_0 := blk_frozen BK470.out 0
    have hfz24_1 := blk_frozen BK470.out 1
    go_wp2_with (first | ((with_reducible refine gate_callee (f := 52) rfl ?_); refine goesL_ (some 9) rfl rfl Tryd.func52 (by kernel_rfl) rfl #[.agg #[.int .i64 a0_0, .int .i64 a0_1]] rfl ma_ ?_; (with_reducible refine (impl_PtOk.calls a0_0 a0_1 true _ A8.out).mono ?_); rintro e w25 ⟨rfl, hb⟩; refine ⟨_, rfl, ?_⟩; have n0_ := Aside0.mk (ub_ (g := gb470) hb); have n1_ := Aside0.mk (ub_ (g := gb471) hb); have n2_ := Aside0.mk (ub_ (g := gb472) hb); have n3_ := Aside0.mk (below_step hB_ hb); clear BK470; clear BK471; clear BK472; clear HB; have BK470 := n0_; have BK471 := n1_; have BK472 := n2_; have HB := n3_; clear n0_ n1_ n2_ n3_; (try clear hb); (try clear hb2); (try clear hk); (try clear hi); have hnb26 := NB471_472.out; have hnc26 := NB472_471.out; have hcz27_0 : w25.cell? ⟨gb471, 0, none⟩ = some (.int .i64 a1_0) := bc_; have hcz27_1 : w25.cell? ⟨gb471, 1, none⟩ = some (.int .i64 a1_1) := bc_; have hfz27_0 := blk_frozen BK471.out 0; have hfz27_1 := blk_frozen BK471.out 1) | (go_at_call 52; (with_reducible refine (impl_PtOk.calls a1_0 a1_1 false _ A10.out).mono ?_); rintro e w28 ⟨rfl, hb⟩; have n0_ := Aside0.mk (ub_ (g := gb470) hb); have n1_ := Aside0.mk (ub_ (g := gb471) hb); have n2_ := Aside0.mk (ub_ (g := gb472) hb); have n3_ := Aside0.mk (below_step hB_ hb); clear BK470; clear BK471; clear BK472; clear HB; have BK470 := n0_; have BK471 := n1_; have BK472 := n2_; have HB := n3_; clear n0_ n1_ n2_ n3_; (try clear hb); (try clear hb2); (try clear hk); (try clear hi)))
    go_meet
    case rel => exact ⟨_, (true), (by first | rfl | (simp; done) | (simp [*]; done)), H', ⟨by first | omega | exact Nat.le_refl _⟩, ⟨uq_⟩, ⟨uq_⟩, ⟨uq_⟩, ⟨hB_⟩⟩
  ·
   replace c9 := Bool.eq_false_iff.mpr c9
   subst c9
   have H1 : (impl_SegTurn.j0 k true a0_0 a0_1 a1_0 a1_1 a2_0 a2_1) = some r := by rw [if_neg (show ¬ (false = true) by decide)] at H; exact H
   clear H
   have H := H1
   clear H1
   have H' := Aside0.mk H
   clear H
   have hnb29 := NB470_471.out
   have hnc29 := NB471_470.out
   have hnb30 := NB470_472.out
   have hnc30 := NB472_470.out
   have hcz31_0 : w7.cell? ⟨gb470, 0, none⟩ = some (.int .i64 a0_0) := bc_
   have hcz31_1 : w7.cell? ⟨gb470, 1, none⟩ = some (.int .i64 a0_1) := bc_
   have hfz31_0 := blk_frozen BK470.out 0
   have hfz31_1 := blk_frozen BK470.out 1
   go_wp2_with (first | ((with_reducible refine gate_callee (f := 52) rfl ?_); refine goesL_ (some 9) rfl rfl Tryd.func52 (by kernel_rfl) rfl #[.agg #[.int .i64 a0_0, .int .i64 a0_1]] rfl ma_ ?_; (with_reducible refine (impl_PtOk.calls a0_0 a0_1 false _ A8.out).mono ?_); rintro e w32 ⟨rfl, hb⟩; refine ⟨_, rfl, ?_⟩; have n0_ := Aside0.mk (ub_ (g := gb470) hb); have n1_ := Aside0.mk (ub_ (g := gb471) hb); have n2_ := Aside0.mk (ub_ (g := gb472) hb); have n3_ := Aside0.mk (below_step hB_ hb); clear BK470; clear BK471; clear BK472; clear HB; have BK470 := n0_; have BK471 := n1_; have BK472 := n2_; have HB := n3_; clear n0_ n1_ n2_ n3_; (try clear hb); (try clear hb2); (try clear hk); (try clear hi)))
   go_meet
   case rel => exact ⟨_, (true), (by first | rfl | (simp; done) | (simp [*]; done)), H', ⟨by first | omega | exact Nat.le_refl _⟩, ⟨uq_⟩, ⟨uq_⟩, ⟨uq_⟩, ⟨hB_⟩⟩
 case rest =>
  clear HC4
  try clear c1
  try clear c2
  try clear p2
  try clear c3
  try clear c5
  try clear c6
  try clear c9
  try clear c11
  try clear c13
  try clear c14
  try clear c17
  try clear c22
  try clear c23
  try clear c26
  try clear c29
  try clear c30
  try clear hcz15_0
  try clear hcz15_1
  try clear hcz18_0
  try clear hcz18_1
  try clear hcz20_0
  try clear hcz20_1
  try clear hcz24_0
  try clear hcz24_1
  try clear hcz27_0
  try clear hcz27_1
  try clear hcz31_0
  try clear hcz31_1
  try clear hfz15_0
  try clear hfz15_1
  try clear hfz18_0
  try clear hfz18_1
  try clear hfz20_0
  try clear hfz20_1
  try clear hfz24_0
  try clear hfz24_1
  try clear hfz27_0
  try clear hfz27_1
  try clear hfz31_0
  try clear hfz31_1
  obtain ⟨kq, x20_3, rfl, HA, HJ3, BK470, BK471, BK472, HB⟩ := hcut
  cases kq with
  | zero => exact absurd HA.out (by simp [impl_SegTurn.j0])
  | succ kj3 =>
   have H := HA.out
   clear HA
   simp only [impl_SegTurn.j0] at H
   by_cases c33 : x20_3 = true
   ·
    subst c33
    have H1 : (some 0) = some r := by rw [if_pos rfl] at H; exact H
    clear H
    have H := H1
    clear H1
    obtain rfl := Option.some.inj H
    go_wp2
    go_ret
    exact ⟨by first | rfl | (simp [errW_none, errW_some] <;> rfl) | (simp [*, errW_none, errW_some] <;> rfl), hB_⟩
   ·
    replace c33 := Bool.eq_false_iff.mpr c33
    subst c33
    have H1 : ((impl_cross.f a0_0 a0_1 a1_0 a1_1 a2_0 a2_1).bind fun t476 => (if t476 > 0 then (some 1) else (if t476 < 0 then (some (-1)) else (some 0)))) = some r := by rw [if_neg (show ¬ (false = true) by decide)] at H; exact H
    clear H
    have H := H1
    clear H1
    replace H := Option.bind_eq_some_iff.mp H
    obtain ⟨t476, A340, H⟩ := H
    replace H : (if t476 > 0 then (some 1) else (if t476 < 0 then (some (-1)) else (some 0))) = some r := H
    have A34 := Aside0.mk A340
    clear A340
    by_cases c35 : t476 > 0
    ·
     rw [if_pos c35] at H
     have c35b0 : decide (0 < t476) = true := decide_eq_true c35
     clear c35
     obtain rfl := Option.some.inj H
     have hnb36 := NB470_471.out
     have hnc36 := NB471_470.out
     have hnb37 := NB470_472.out
     have hnc37 := NB472_470.out
     have hcz38_0 : wc.cell? ⟨gb470, 0, none⟩ = some (.int .i64 a0_0) := bc_
     have hcz38_1 : wc.cell? ⟨gb470, 1, none⟩ = some (.int .i64 a0_1) := bc_
     have hfz38_0 := blk_frozen BK470.out 0
     have hfz38_1 := blk_frozen BK470.out 1
     have hnb39 := NB471_472.out
     have hnc39 := NB472_471.out
     have hcz40_0 : wc.cell? ⟨gb471, 0, none⟩ = some (.int .i64 a1_0) := bc_
     have hcz40_1 : wc.cell? ⟨gb471, 1, none⟩ = some (.int .i64 a1_1) := bc_
     have hfz40_0 := blk_frozen BK471.out 0
     have hfz40_1 := blk_frozen BK471.out 1
     have hcz41_0 : wc.cell? ⟨gb472, 0, none⟩ = some (.int .i64 a2_0) := bc_
     have hcz41_1 : wc.cell? ⟨gb472, 1, none⟩ = some (.int .i64 a2_1) := bc_
     have hfz41_0 := blk_frozen BK472.out 0
     have hfz41_1 := blk_frozen BK472.out 1
     go_wp2_with (first | ((with_reducible refine gate_callee (f := 56) rfl ?_); refine goesL_ (some 24) rfl rfl Tryd.func56 (by kernel_rfl) rfl #[.agg #[.int .i64 a0_0, .int .i64 a0_1], .agg #[.int .i64 a1_0, .int .i64 a1_1], .agg #[.int .i64 a2_0, .int .i64 a2_1]] rfl ma_ ?_; (with_reducible refine (impl_cross.calls a0_0 a0_1 a1_0 a1_1 a2_0 a2_1 t476 _ A34.out).mono ?_); rintro e w42 ⟨rfl, hb⟩; refine ⟨_, rfl, ?_⟩; have n0_ := Aside0.mk (ub_ (g := gb470) hb); have n1_ := Aside0.mk (ub_ (g := gb471) hb); have n2_ := Aside0.mk (ub_ (g := gb472) hb); have n3_ := Aside0.mk (below_step hB_ hb); clear BK470; clear BK471; clear BK472; clear HB; have BK470 := n0_; have BK471 := n1_; have BK472 := n2_; have HB := n3_; clear n0_ n1_ n2_ n3_; (try clear hb); (try clear hb2); (try clear hk); (try clear hi)))
     go_ret
     exact ⟨by first | rfl | (simp [errW_none, errW_some] <;> rfl) | (simp [*, errW_none, errW_some] <;> rfl), hB_⟩
    ·
     rw [if_neg c35] at H
     have c35b0 : decide (0 < t476) = false := decide_eq_false c35
     clear c35
     by_cases c43 : t476 < 0
     ·
      rw [if_pos c43] at H
      have c43b0 : decide (t476 < 0) = true := decide_eq_true c43
      clear c43
      obtain rfl := Option.some.inj H
      have hnb44 := NB470_471.out
      have hnc44 := NB471_470.out
      have hnb45 := NB470_472.out
      have hnc45 := NB472_470.out
      have hcz46_0 : wc.cell? ⟨gb470, 0, none⟩ = some (.int .i64 a0_0) := bc_
      have hcz46_1 : wc.cell? ⟨gb470, 1, none⟩ = some (.int .i64 a0_1) := bc_
      have hfz46_0 := blk_frozen BK470.out 0
      have hfz46_1 := blk_frozen BK470.out 1
      have hnb47 := NB471_472.out
      have hnc47 := NB472_471.out
      have hcz48_0 : wc.cell? ⟨gb471, 0, none⟩ = some (.int .i64 a1_0) := bc_
      have hcz48_1 : wc.cell? ⟨gb471, 1, none⟩ = some (.int .i64 a1_1) := bc_
      have hfz48_0 := blk_frozen BK471.out 0
      have hfz48_1 := blk_frozen BK471.out 1
      have hcz49_0 : wc.cell? ⟨gb472, 0, none⟩ = some (.int .i64 a2_0) := bc_
      have hcz49_1 : wc.cell? ⟨gb472, 1, none⟩ = some (.int .i64 a2_1) := bc_
      have hfz49_0 := blk_frozen BK472.out 0
      have hfz49_1 := blk_frozen BK472.out 1
      go_wp2_with (first | ((with_reducible refine gate_callee (f := 56) rfl ?_); refine goesL_ (some 24) rfl rfl Tryd.func56 (by kernel_rfl) rfl #[.agg #[.int .i64 a0_0, .int .i64 a0_1], .agg #[.int .i64 a1_0, .int .i64 a1_1], .agg #[.int .i64 a2_0, .int .i64 a2_1]] rfl ma_ ?_; (with_reducible refine (impl_cross.calls a0_0 a0_1 a1_0 a1_1 a2_0 a2_1 t476 _ A34.out).mono ?_); rintro e w50 ⟨rfl, hb⟩; refine ⟨_, rfl, ?_⟩; have n0_ := Aside0.mk (ub_ (g := gb470) hb); have n1_ := Aside0.mk (ub_ (g := gb471) hb); have n2_ := Aside0.mk (ub_ (g := gb472) hb); have n3_ := Aside0.mk (below_step hB_ hb); clear BK470; clear BK471; clear BK472; clear HB; have BK470 := n0_; have BK471 := n1_; have BK472 := n2_; have HB := n3_; clear n0_ n1_ n2_ n3_; (try clear hb); (try clear hb2); (try clear hk); (try clear hi)))
      go_ret
      exact ⟨by first | rfl | (simp [errW_none, errW_some] <;> rfl) | (simp [*, errW_none, errW_some] <;> rfl), hB_⟩
     ·
      rw [if_neg c43] at H
      have c43b0 : decide (t476 < 0) = false := decide_eq_false c43
      clear c43
      obtain rfl := Option.some.inj H
      have hnb51 := NB470_471.out
      have hnc51 := NB471_470.out
      have hnb52 := NB470_472.out
      have hnc52 := NB472_470.out
      have hcz53_0 : wc.cell? ⟨gb470, 0, none⟩ = some (.int .i64 a0_0) := bc_
      have hcz53_1 : wc.cell? ⟨gb470, 1, none⟩ = some (.int .i64 a0_1) := bc_
      have hfz53_0 := blk_frozen BK470.out 0
      have hfz53_1 := blk_frozen BK470.out 1
      have hnb54 := NB471_472.out
      have hnc54 := NB472_471.out
      have hcz55_0 : wc.cell? ⟨gb471, 0, none⟩ = some (.int .i64 a1_0) := bc_
      have hcz55_1 : wc.cell? ⟨gb471, 1, none⟩ = some (.int .i64 a1_1) := bc_
      have hfz55_0 := blk_frozen BK471.out 0
      have hfz55_1 := blk_frozen BK471.out 1
      have hcz56_0 : wc.cell? ⟨gb472, 0, none⟩ = some (.int .i64 a2_0) := bc_
      have hcz56_1 : wc.cell? ⟨gb472, 1, none⟩ = some (.int .i64 a2_1) := bc_
      have hfz56_0 := blk_frozen BK472.out 0
      have hfz56_1 := blk_frozen BK472.out 1
      go_wp2_with (first | ((with_reducible refine gate_callee (f := 56) rfl ?_); refine goesL_ (some 24) rfl rfl Tryd.func56 (by kernel_rfl) rfl #[.agg #[.int .i64 a0_0, .int .i64 a0_1], .agg #[.int .i64 a1_0, .int .i64 a1_1], .agg #[.int .i64 a2_0, .int .i64 a2_1]] rfl ma_ ?_; (with_reducible refine (impl_cross.calls a0_0 a0_1 a1_0 a1_1 a2_0 a2_1 t476 _ A34.out).mono ?_); rintro e w57 ⟨rfl, hb⟩; refine ⟨_, rfl, ?_⟩; have n0_ := Aside0.mk (ub_ (g := gb470) hb); have n1_ := Aside0.mk (ub_ (g := gb471) hb); have n2_ := Aside0.mk (ub_ (g := gb472) hb); have n3_ := Aside0.mk (below_step hB_ hb); clear BK470; clear BK471; clear BK472; clear HB; have BK470 := n0_; have BK471 := n1_; have BK472 := n2_; have HB := n3_; clear n0_ n1_ n2_ n3_; (try clear hb); (try clear hb2); (try clear hk); (try clear hi)))
      go_ret
      exact ⟨by first | rfl | (simp [errW_none, errW_some] <;> rfl) | (simp [*, errW_none, errW_some] <;> rfl), hB_⟩
end Go.Proofs.YtnponnkcfgjeoaaDoor.X
end
section
namespace Go.Proofs.YtnponnkcfgjeoaaDoor.X
open Go.RowKit Go.Proofs.YtnponnkcfgjeoaaDoorW.PrintWords Go.Proofs.YtnponnkcfgjeoaaDoorW.PrintLast Go.Proofs.YtnponnkcfgjeoaaDoorW.PrintMore
attribute [local go_sem] max2_int min2_int max_two min_two max_three min_three max_four min_four
set_option linter.unusedVariables false
set_option linter.unusedSimpArgs false
mutual
def impl_SegMeet.j0 : Nat → Bool → Int → Int → Int → Int → Int → Int → Int → Int → Option (Bool)
 | 0, _, _, _, _, _, _, _, _, _ => none
 | k + 1, x12, x478000, x478001, x478002, x478003, x479000, x479001, x479002, x479003 => if x12 = true then (some false) else ((impl_SegHas.f k x478000 x478001 x478002 x478003 x479000 x479001).bind fun t481 => (if t481 = true then (impl_SegMeet.j1 k true x478000 x478001 x478002 x478003 x479000 x479001 x479002 x479003) else ((impl_SegHas.f k x478000 x478001 x478002 x478003 x479002 x479003).bind fun t482 => (if t482 = true then (impl_SegMeet.j1 k true x478000 x478001 x478002 x478003 x479000 x479001 x479002 x479003) else ((impl_SegHas.f k x479000 x479001 x479002 x479003 x478000 x478001).bind fun t483 => (if t483 = true then (impl_SegMeet.j1 k true x478000 x478001 x478002 x478003 x479000 x479001 x479002 x479003) else ((impl_SegHas.f k x479000 x479001 x479002 x479003 x478002 x478003).bind fun t484 => (impl_SegMeet.j1 k t484 x478000 x478001 x478002 x478003 x479000 x479001 x479002 x479003))))))))
def impl_SegMeet.j1 : Nat → Bool → Int → Int → Int → Int → Int → Int → Int → Int → Option (Bool)
 | 0, _, _, _, _, _, _, _, _, _ => none
 | k + 1, x34, x478000, x478001, x478002, x478003, x479000, x479001, x479002, x479003 => if x34 = true then (some true) else ((impl_SegTurn.f k x478000 x478001 x478002 x478003 x479000 x479001).bind fun t485 => ((impl_SegTurn.f k x478000 x478001 x478002 x478003 x479002 x479003).bind fun t486 => (if (wrap64 (t485 * t486)) < 0 then ((impl_SegTurn.f k x479000 x479001 x479002 x479003 x478000 x478001).bind fun t487 => ((impl_SegTurn.f k x479000 x479001 x479002 x479003 x478002 x478003).bind fun t488 => (some (decide ((wrap64 (t487 * t488)) < 0))))) else (some false))))
end
def impl_SegMeet.f (k : Nat) (a0_0 : Int) (a0_1 : Int) (a0_2 : Int) (a0_3 : Int) (a1_0 : Int) (a1_1 : Int) (a1_2 : Int) (a1_3 : Int) : Option (Bool) := (impl_SegOk.f a0_0 a0_1 a0_2 a0_3).bind fun t479 => (if t479 = true then ((impl_SegOk.f a1_0 a1_1 a1_2 a1_3).bind fun t480 => (impl_SegMeet.j0 k (!t480) a0_0 a0_1 a0_2 a0_3 a1_0 a1_1 a1_2 a1_3)) else (impl_SegMeet.j0 k true a0_0 a0_1 a0_2 a0_3 a1_0 a1_1 a1_2 a1_3))
def impl_SegMeet.T5 : Bool × List (List Nat × List Nat) := (true, [([], []), ([0], [0]), ([], []), ([2], [2]), ([], []), ([4], [4]), ([1, 3, 5], [1, 3, 5]), ([], []), ([7], [7]), ([], []), ([9], [9]), ([], []), ([11], [11]), ([8, 10, 12, 6], [8, 10, 12]), ([6, 13], [6, 13]), ([14], [14]), ([15, 13], [15]), ([16], [16]), ([17, 16], [16, 17]), ([16], [16]), ([19, 16], [16, 19]), ([16], [16]), ([21, 16], [16, 21]), ([18, 20, 22, 16, 16], [16, 18, 20, 22]), ([16], [16]), ([24, 16], [16, 24]), ([16], [16]), ([26, 16], [16, 26]), ([16], [16]), ([28, 16], [16, 28]), ([25, 27, 29, 23, 16], [16, 25, 27, 29]), ([23, 30, 16], [16, 23, 30]), ([31, 16], [16, 31]), ([16, 32], [16, 32]), ([33, 30, 0, 1, 2, 3, 4, 5, 6, 7, 8, 9, 10, 11, 12, 13, 14, 15, 16, 17, 18, 19, 20, 21, 22, 23, 24, 25, 26, 27, 28, 29, 30, 31, 32, 33], [33])])
def impl_SegMeet.B5 : List Nat := [0, 1, 0, 4, 0, 16, 63, 0, 128, 0, 512, 0, 2048, 8191, 16383, 32767, 65535, 131071, 262143, 131071, 655359, 131071, 2228223, 8388607, 131071, 16908287, 131071, 67239935, 131071, 268566527, 1073741823, 2147483647, 4294967295, 8589934591, 17179869183]
theorem impl_SegMeet.tab5 : rtab .any (opsOf Tryd.f37 5) = impl_SegMeet.T5 := by kernel_rfl
theorem impl_SegMeet.bits5 : waitsOk impl_SegMeet.T5.2 impl_SegMeet.B5 = true := by kernel_rfl
set_option maxHeartbeats 8000000 in
set_option maxRecDepth 100000 in
theorem impl_SegMeet.calls (k : Nat) (a0_0 : Int) (a0_1 : Int) (a0_2 : Int) (a0_3 : Int) (a1_0 : Int) (a1_1 : Int) (a1_2 : Int) (a1_3 : Int) (r : Bool) (w : World) (h : impl_SegMeet.f k a0_0 a0_1 a0_2 a0_3 a1_0 a1_1 a1_2 a1_3 = some r) :
  Calls Tryd.prog 37 #[.agg #[.int .i64 a0_0, .int .i64 a0_1, .int .i64 a0_2, .int .i64 a0_3], .agg #[.int .i64 a1_0, .int .i64 a1_1, .int .i64 a1_2, .int .i64 a1_3]] w fun e w' => e = .returned (.bool r) ∧ Below w.heap.size w w' := by
 have hu40 := Tryd.underlying40
 have hu38 := Tryd.underlying38
 have HB := Aside0.mk (Below.refl w.heap.size w)
 have H : ((impl_SegOk.f a0_0 a0_1 a0_2 a0_3).bind fun t479 => (if t479 = true then ((impl_SegOk.f a1_0 a1_1 a1_2 a1_3).bind fun t480 => (impl_SegMeet.j0 k (!t480) a0_0 a0_1 a0_2 a0_3 a1_0 a1_1 a1_2 a1_3)) else (impl_SegMeet.j0 k true a0_0 a0_1 a0_2 a0_3 a1_0 a1_1 a1_2 a1_3))) = some r := h
 clear h
 have HC3 := Aside0.mk H
 clear H
 go_enter Tryd.func37, Tryd.ntmps37
 go_upto_region 1 with (first | ((with_reducible refine gate_dst (N := 2) rfl ?_); refine box_event ?hg (N := 2) ?hd (cs := #[.int .i64 a0_0, .int .i64 a0_1, .int .i64 a0_2, .int .i64 a0_3]) (t := 40) ?hr ?_; (case hd => rfl); (case hg => rfl); (case hr => first | (go_simp; done) | (go_simp; rfl)); intro gb477 hg w4 hbox hb; have n0_ := Aside0.mk (below_step hB_ hb); have n1_ := Aside0.mk (hbox); have n2_ := Aside0.mk ((by rw [hg]; exact (below_size hB_) : w.heap.size ≤ gb477)); have n3_ := Aside0.mk ((by rw [hg]; exact (below_size hB_) : w.heap.size ≤ gb477)); clear HB; have HB := n0_; have BK477 := n1_; have GW477 := n2_; have GE477 := n3_; clear n0_ n1_ n2_ n3_; clear hb hbox hg) | ((with_reducible refine gate_dst (N := 3) rfl ?_); refine box_event ?hg (N := 3) ?hd (cs := #[.int .i64 a1_0, .int .i64 a1_1, .int .i64 a1_2, .int .i64 a1_3]) (t := 40) ?hr ?_; (case hd => rfl); (case hg => rfl); (case hr => first | (go_simp; done) | (go_simp; rfl)); intro gb478 hg w5 hbox hb; have n0_ := Aside0.mk (ub_ (g := gb477) hb); have n1_ := Aside0.mk (below_step hB_ hb); have n2_ := Aside0.mk (hbox); have n3_ := Aside0.mk ((by rw [hg]; exact (below_size hB_) : w.heap.size ≤ gb478)); have n4_ := Aside0.mk ((by rw [hg]; exact (below_size hB_) : w.heap.size ≤ gb478)); have n5_ := Aside0.mk ((by rw [hg]; exact Nat.ne_of_lt (blk_lt (g := gb477) (o := .cells #[.int .i64 a0_0, .int .i64 a0_1, .int .i64 a0_2, .int .i64 a0_3] 40 (0, 0)) uq_) : gb477 ≠ gb478)); have n6_ := Aside0.mk ((by rw [hg]; exact Nat.ne_of_gt (blk_lt (g := gb477) (o := .cells #[.int .i64 a0_0, .int .i64 a0_1, .int .i64 a0_2, .int .i64 a0_3] 40 (0, 0)) uq_) : gb478 ≠ gb477)); clear BK477; clear HB; have BK477 := n0_; have HB := n1_; have BK478 := n2_; have GW478 := n3_; have GE478 := n4_; have NB477_478 := n5_; have NB478_477 := n6_; clear n0_ n1_ n2_ n3_ n4_ n5_ n6_; clear hb hbox hg))
 (try simp only [Act.put, List.setIfInBounds_toArray, List.set_cons_zero, List.set_cons_succ])
 go_cut [12] (fun v12 wc => ∃ (kq : Nat) (x12_2 : Bool), v12 = .bool x12_2 ∧ Aside0 (impl_SegMeet.j0 kq x12_2 a0_0 a0_1 a0_2 a0_3 a1_0 a1_1 a1_2 a1_3 = some r) ∧ Aside0 (kq ≤ k) ∧ Aside0 (wc.heap[gb477]? = some (.cells #[.int .i64 a0_0, .int .i64 a0_1, .int .i64 a0_2, .int .i64 a0_3] 40 (0, 0))) ∧ Aside0 (wc.heap[gb478]? = some (.cells #[.int .i64 a1_0, .int .i64 a1_1, .int .i64 a1_2, .int .i64 a1_3] 40 (0, 0))) ∧ Aside0 (Below w.heap.size w wc))
 case first =>
  have H := HC3.out
  clear HC3
  replace H := Option.bind_eq_some_iff.mp H
  obtain ⟨t479, A60, H⟩ := H
  replace H : (if t479 = true then ((impl_SegOk.f a1_0 a1_1 a1_2 a1_3).bind fun t480 => (impl_SegMeet.j0 k (!t480) a0_0 a0_1 a0_2 a0_3 a1_0 a1_1 a1_2 a1_3)) else (impl_SegMeet.j0 k true a0_0 a0_1 a0_2 a0_3 a1_0 a1_1 a1_2 a1_3)) = some r := H
  have A6 := Aside0.mk A60
  clear A60
  by_cases c7 : t479 = true
  ·
   subst c7
   have H1 : ((impl_SegOk.f a1_0 a1_1 a1_2 a1_3).bind fun t480 => (impl_SegMeet.j0 k (!t480) a0_0 a0_1 a0_2 a0_3 a1_0 a1_1 a1_2 a1_3)) = some r := by rw [if_pos rfl] at H; exact H
   clear H
   have H := H1
   clear H1
   replace H := Option.bind_eq_some_iff.mp H
   obtain ⟨t480, A80, H⟩ := H
   replace H : (impl_SegMeet.j0 k (!t480) a0_0 a0_1 a0_2 a0_3 a1_0 a1_1 a1_2 a1_3) = some r := H
   have A8 := Aside0.mk A80
   clear A80
   have H' := Aside0.mk H
   clear H
   have hnb9 := NB477_478.out
   have hnc9 := NB478_477.out
   have hcz10_0 : w5.cell? ⟨gb477, 0, none⟩ = some (.int .i64 a0_0) := bc_
   have hcz10_1 : w5.cell? ⟨gb477, 1, none⟩ = some (.int .i64 a0_1) := bc_
   have hcz10_2 : w5.cell? ⟨gb477, 2, none⟩ = some (.int .i64 a0_2) := bc_
   have hcz10_3 : w5.cell? ⟨gb477, 3, none⟩ = some (.int .i64 a0_3) := bc_
   have hfz10_0 := blk_frozen BK477.out 0
   have hfz10_1 := blk_frozen BK477.out 1
   have hfz10_2 := blk_frozen BK477.out 2
   have hfz10_3 := blk_frozen BK477.out 3
   go_wp2_with (first | ((with_reducible refine gate_callee (f := 28) rfl ?_); refine goesL_ (some 6) rfl rfl Tryd.func28 (by kernel_rfl) rfl #[.agg #[.int .i64 a0_0, .int .i64 a0_1, .int .i64 a0_2, .int .i64 a0_3]] rfl ma_ ?_; (with_reducible refine (impl_SegOk.calls a0_0 a0_1 a0_2 a0_3 true _ A6.out).mono ?_); rintro e w11 ⟨rfl, hb⟩; refine ⟨_, rfl, ?_⟩; have n0_ := Aside0.mk (ub_ (g := gb477) hb); have n1_ := Aside0.mk (ub_ (g := gb478) hb); have n2_ := Aside0.mk (below_step hB_ hb); clear BK477; clear BK478; clear HB; have BK477 := n0_; have BK478 := n1_; have HB := n2_; clear n0_ n1_ n2_; (try clear hb); (try clear hb2); (try clear hk); (try clear hi); have hcz12_0 : w11.cell? ⟨gb478, 0, none⟩ = some (.int .i64 a1_0) := bc_; have hcz12_1 : w11.cell? ⟨gb478, 1, none⟩ = some (.int .i64 a1_1) := bc_; have hcz12_2 : w11.cell? ⟨gb478, 2, none⟩ = some (.int .i64 a1_2) := bc_; have hcz12_3 : w11.cell? ⟨gb478, 3, none⟩ = some (.int .i64 a1_3) := bc_; have hfz12_0 := blk_frozen BK478.out 0; have hfz12_1 := blk_frozen BK478.out 1; have hfz12_2 := blk_frozen BK478.out 2; have hfz12_3 := blk_frozen BK478.out 3) | (go_at_call 28; (with_reducible refine (impl_SegOk.calls a1_0 a1_1 a1_2 a1_3 t480 _ A8.out).mono ?_); rintro e w13 ⟨rfl, hb⟩; have n0_ := Aside0.mk (ub_ (g := gb477) hb); have n1_ := Aside0.mk (ub_ (g := gb478) hb); have n2_ := Aside0.mk (below_step hB_ hb); clear BK477; clear BK478; clear HB; have BK477 := n0_; have BK478 := n1_; have HB := n2_; clear n0_ n1_ n2_; (try clear hb); (try clear hb2); (try clear hk); (try clear hi)))
   go_meet
   case rel => exact ⟨_, (!t480), (by first | rfl | (simp; done) | (simp [*]; done)), H', ⟨by first | omega | exact Nat.le_refl _⟩, ⟨uq_⟩, ⟨uq_⟩, ⟨hB_⟩⟩
  ·
   replace c7 := Bool.eq_false_iff.mpr c7
   subst c7
   have H1 : (impl_SegMeet.j0 k true a0_0 a0_1 a0_2 a0_3 a1_0 a1_1 a1_2 a1_3) = some r := by rw [if_neg (show ¬ (false = true) by decide)] at H; exact H
   clear H
   have H := H1
   clear H1
   have H' := Aside0.mk H
   clear H
   have hnb14 := NB477_478.out
   have hnc14 := NB478_477.out
   have hcz15_0 : w5.cell? ⟨gb477, 0, none⟩ = some (.int .i64 a0_0) := bc_
   have hcz15_1 : w5.cell? ⟨gb477, 1, none⟩ = some (.int .i64 a0_1) := bc_
   have hcz15_2 : w5.cell? ⟨gb477, 2, none⟩ = some (.int .i64 a0_2) := bc_
   have hcz15_3 : w5.cell? ⟨gb477, 3, none⟩ = some (.int .i64 a0_3) := bc_
   have hfz15_0 := blk_frozen BK477.out 0
   have hfz15_1 := blk_frozen BK477.out 1
   have hfz15_2 := blk_frozen BK477.out 2
   have hfz15_3 := blk_frozen BK477.out 3
   go_wp2_with (first | ((with_reducible refine gate_callee (f := 28) rfl ?_); refine goesL_ (some 6) rfl rfl Tryd.func28 (by kernel_rfl) rfl #[.agg #[.int .i64 a0_0, .int .i64 a0_1, .int .i64 a0_2, .int .i64 a0_3]] rfl ma_ ?_; (with_reducible refine (impl_SegOk.calls a0_0 a0_1 a0_2 a0_3 false _ A6.out).mono ?_); rintro e w16 ⟨rfl, hb⟩; refine ⟨_, rfl, ?_⟩; have n0_ := Aside0.mk (ub_ (g := gb477) hb); have n1_ := Aside0.mk (ub_ (g := gb478) hb); have n2_ := Aside0.mk (below_step hB_ hb); clear BK477; clear BK478; clear HB; have BK477 := n0_; have BK478 := n1_; have HB := n2_; clear n0_ n1_ n2_; (try clear hb); (try clear hb2); (try clear hk); (try clear hi)))
   go_meet
   case rel => exact ⟨_, (true), (by first | rfl | (simp; done) | (simp [*]; done)), H', ⟨by first | omega | exact Nat.le_refl _⟩, ⟨uq_⟩, ⟨uq_⟩, ⟨hB_⟩⟩
 case rest =>
  clear HC3
  try clear c1
  try clear c2
  try clear p2
  try clear c3
  try clear c7
  try clear c9
  try clear c14
  try clear hcz10_0
  try clear hcz10_1
  try clear hcz10_2
  try clear hcz10_3
  try clear hcz12_0
  try clear hcz12_1
  try clear hcz12_2
  try clear hcz12_3
  try clear hcz15_0
  try clear hcz15_1
  try clear hcz15_2
  try clear hcz15_3
  try clear hfz10_0
  try clear hfz10_1
  try clear hfz10_2
  try clear hfz10_3
  try clear hfz12_0
  try clear hfz12_1
  try clear hfz12_2
  try clear hfz12_3
  try clear hfz15_0
  try clear hfz15_1
  try clear hfz15_2
  try clear hfz15_3
  obtain ⟨kq, x12_2, rfl, HA, HJ2, BK477, BK478, HB⟩ := hcut
  cases kq with
  | zero => exact absurd HA.out (by simp [impl_SegMeet.j0])
  | succ kj2 =>
   have H := HA.out
   clear HA
   simp only [impl_SegMeet.j0] at H
   by_cases c17 : x12_2 = true
   ·
    subst c17
    have H1 : (some false) = some r := by rw [if_pos rfl] at H; exact H
    clear H
    have H := H1
    clear H1
    obtain rfl := Option.some.inj H
    go_wp2
    go_ret
    exact ⟨by first | rfl | (simp [errW_none, errW_some] <;> rfl) | (simp [*, errW_none, errW_some] <;> rfl), hB_⟩
   ·
    replace c17 := Bool.eq_false_iff.mpr c17
    subst c17
    have H1 : ((impl_SegHas.f kj2 a0_0 a0_1 a0_2 a0_3 a1_0 a1_1).bind fun t481 => (if t481 = true then (impl_SegMeet.j1 kj2 true a0_0 a0_1 a0_2 a0_3 a1_0 a1_1 a1_2 a1_3) else ((impl_SegHas.f kj2 a0_0 a0_1 a0_2 a0_3 a1_2 a1_3).bind fun t482 => (if t482 = true then (impl_SegMeet.j1 kj2 true a0_0 a0_1 a0_2 a0_3 a1_0 a1_1 a1_2 a1_3) else ((impl_SegHas.f kj2 a1_0 a1_1 a1_2 a1_3 a0_0 a0_1).bind fun t483 => (if t483 = true then (impl_SegMeet.j1 kj2 true a0_0 a0_1 a0_2 a0_3 a1_0 a1_1 a1_2 a1_3) else ((impl_SegHas.f kj2 a1_0 a1_1 a1_2 a1_3 a0_2 a0_3).bind fun t484 => (impl_SegMeet.j1 kj2 t484 a0_0 a0_1 a0_2 a0_3 a1_0 a1_1 a1_2 a1_3)))))))) = some r := by rw [if_neg (show ¬ (false = true) by decide)] at H; exact H
    clear H
    have H := H1
    clear H1
    have HC18 := Aside0.mk H
    clear H
    go_upto_region 3 with (fail)
    go_cut [34] (fun v34 wc => ∃ (kq : Nat) (x34_17 : Bool), v34 = .bool x34_17 ∧ Aside0 (impl_SegMeet.j1 kq x34_17 a0_0 a0_1 a0_2 a0_3 a1_0 a1_1 a1_2 a1_3 = some r) ∧ Aside0 (kq ≤ kj2) ∧ Aside0 (wc.heap[gb477]? = some (.cells #[.int .i64 a0_0, .int .i64 a0_1, .int .i64 a0_2, .int .i64 a0_3] 40 (0, 0))) ∧ Aside0 (wc.heap[gb478]? = some (.cells #[.int .i64 a1_0, .int .i64 a1_1, .int .i64 a1_2, .int .i64 a1_3] 40 (0, 0))) ∧ Aside0 (Below w.heap.size w wc))
    case first =>
     have H := HC18.out
     clear HC18
     replace H := Option.bind_eq_some_iff.mp H
     obtain ⟨t481, A190, H⟩ := H
     replace H : (if t481 = true then (impl_SegMeet.j1 kj2 true a0_0 a0_1 a0_2 a0_3 a1_0 a1_1 a1_2 a1_3) else ((impl_SegHas.f kj2 a0_0 a0_1 a0_2 a0_3 a1_2 a1_3).bind fun t482 => (if t482 = true then (impl_SegMeet.j1 kj2 true a0_0 a0_1 a0_2 a0_3 a1_0 a1_1 a1_2 a1_3) else ((impl_SegHas.f kj2 a1_0 a1_1 a1_2 a1_3 a0_0 a0_1).bind fun t483 => (if t483 = true then (impl_SegMeet.j1 kj2 true a0_0 a0_1 a0_2 a0_3 a1_0 a1_1 a1_2 a1_3) else ((impl_SegHas.f kj2 a1_0 a1_1 a1_2 a1_3 a0_2 a0_3).bind fun t484 => (impl_SegMeet.j1 kj2 t484 a0_0 a0_1 a0_2 a0_3 a1_0 a1_1 a1_2 a1_3))))))) = some r := H
     have A19 := Aside0.mk A190
     clear A190
     by_cases c20 : t481 = true
     ·
      subst c20
      have H1 : (impl_SegMeet.j1 kj2 true a0_0 a0_1 a0_2 a0_3 a1_0 a1_1 a1_2 a1_3) = some r := by rw [if_pos rfl] at H; exact H
      clear H
      have H := H1
      clear H1
      have H' := Aside0.mk H
      clear H
      have hnb21 := NB477_478.out
      have hnc21 := NB478_477.out
      have hcz22_0 : wc.cell? ⟨gb477, 0, none⟩ = some (.int .i64 a0_0) := bc_
      have hcz22_1 : wc.cell? ⟨gb477, 1, none⟩ = some (.int .i64 a0_1) := bc_
      have hcz22_2 : wc.cell? ⟨gb477, 2, none⟩ = some (.int .i64 a0_2) := bc_
      have hcz22_3 : wc.cell? ⟨gb477, 3, none⟩ = some (.int .i64 a0_3) := bc_
      have hfz22_0 := blk_frozen BK477.out 0
      have hfz22_1 := blk_frozen BK477.out 1
      have hfz22_2 := blk_frozen BK477.out 2
      have hfz22_3 := blk_frozen BK477.out 3
      have hcz23_0 : wc.cell? ⟨gb478, 0, none⟩ = some (.int .i64 a1_0) := bc_
      have hcz23_1 : wc.cell? ⟨gb478, 1, none⟩ = some (.int .i64 a1_1) := bc_
      have hcz23_2 : wc.cell? ⟨gb478, 2, none⟩ = some (.int .i64 a1_2) := bc_
      have hcz23_3 : wc.cell? ⟨gb478, 3, none⟩ = some (.int .i64 a1_3) := bc_
      have hfz23_0 := blk_frozen BK478.out 0
      have hfz23_1 := blk_frozen BK478.out 1
      have hfz23_2 := blk_frozen BK478.out 2
      have hfz23_3 := blk_frozen BK478.out 3
      go_wp2_with (first | ((with_reducible refine gate_callee (f := 29) rfl ?_); refine goesL_ (some 16) rfl rfl Tryd.func29 (by kernel_rfl) rfl #[.agg #[.int .i64 a0_0, .int .i64 a0_1, .int .i64 a0_2, .int .i64 a0_3], .agg #[.int .i64 a1_0, .int .i64 a1_1]] rfl ma_ ?_; (with_reducible refine (impl_SegHas.calls kj2 a0_0 a0_1 a0_2 a0_3 a1_0 a1_1 true _ A19.out).mono ?_); rintro e w24 ⟨rfl, hb⟩; refine ⟨_, rfl, ?_⟩; have n0_ := Aside0.mk (ub_ (g := gb477) hb); have n1_ := Aside0.mk (ub_ (g := gb478) hb); have n2_ := Aside0.mk (below_step hB_ hb); clear BK477; clear BK478; clear HB; have BK477 := n0_; have BK478 := n1_; have HB := n2_; clear n0_ n1_ n2_; (try clear hb); (try clear hb2); (try clear hk); (try clear hi)))
      go_meet
      case rel => exact ⟨_, (true), (by first | rfl | (simp; done) | (simp [*]; done)), H', ⟨by have := HJ2.out; first | omega | exact Nat.le_refl _⟩, ⟨uq_⟩, ⟨uq_⟩, ⟨hB_⟩⟩
     ·
      replace c20 := Bool.eq_false_iff.mpr c20
      subst c20
      have H1 : ((impl_SegHas.f kj2 a0_0 a0_1 a0_2 a0_3 a1_2 a1_3).bind fun t482 => (if t482 = true then (impl_SegMeet.j1 kj2 true a0_0 a0_1 a0_2 a0_3 a1_0 a1_1 a1_2 a1_3) else ((impl_SegHas.f kj2 a1_0 a1_1 a1_2 a1_3 a0_0 a0_1).bind fun t483 => (if t483 = true then (impl_SegMeet.j1 kj2 true a0_0 a0_1 a0_2 a0_3 a1_0 a1_1 a1_2 a1_3) else ((impl_SegHas.f kj2 a1_0 a1_1 a1_2 a1_3 a0_2 a0_3).bind fun t484 => (impl_SegMeet.j1 kj2 t484 a0_0 a0_1 a0_2 a0_3 a1_0 a1_1 a1_2 a1_3)))))) = some r := by rw [if_neg (show ¬ (false = true) by decide)] at H; exact H
      clear H
      have H := H1
      clear H1
      replace H := Option.bind_eq_some_iff.mp H
      obtain ⟨t482, A250, H⟩ := H
      replace H : (if t482 = true then (impl_SegMeet.j1 kj2 true a0_0 a0_1 a0_2 a0_3 a1_0 a1_1 a1_2 a1_3) else ((impl_SegHas.f kj2 a1_0 a1_1 a1_2 a1_3 a0_0 a0_1).bind fun t483 => (if t483 = true then (impl_SegMeet.j1 kj2 true a0_0 a0_1 a0_2 a0_3 a1_0 a1_1 a1_2 a1_3) else ((impl_SegHas.f kj2 a1_0 a1_1 a1_2 a1_3 a0_2 a0_3).bind fun t484 => (impl_SegMeet.j1 kj2 t484 a0_0 a0_1 a0_2 a0_3 a1_0 a1_1 a1_2 a1_3))))) = some r := H
      have A25 := Aside0.mk A250
      clear A250
      by_cases c26 : t482 = true
      ·
       subst c26
       have H1 : (impl_SegMeet.j1 kj2 true a0_0 a0_1 a0_2 a0_3 a1_0 a1_1 a1_2 a1_3) = some r := by rw [if_pos rfl] at H; exact H
       clear H
       have H := H1
       clear H1
       have H' := Aside0.mk H
       clear H
       have hnb27 := NB477_478.out
       have hnc27 := NB478_477.out
       have hcz28_0 : wc.cell? ⟨gb477, 0, none⟩ = some (.int .i64 a0_0) := bc_
       have hcz28_1 : wc.cell? ⟨gb477, 1, none⟩ = some (.int .i64 a0_1) := bc_
       have hcz28_2 : wc.cell? ⟨gb477, 2, none⟩ = some (.int .i64 a0_2) := bc_
       have hcz28_3 : wc.cell? ⟨gb477, 3, none⟩ = some (.int .i64 a0_3) := bc_
       have hfz28_0 := blk_frozen BK477.out 0
       have hfz28_1 := blk_frozen BK477.out 1
       have hfz28_2 := blk_frozen BK477.out 2
       have hfz28_3 := blk_frozen BK477.out 3
       have hcz29_0 : wc.cell? ⟨gb478, 0, none⟩ = some (.int .i64 a1_0) := bc_
       have hcz29_1 : wc.cell? ⟨gb478, 1, none⟩ = some (.int .i64 a1_1) := bc_
       have hcz29_2 : wc.cell? ⟨gb478, 2, none⟩ = some (.int .i64 a1_2) := bc_
       have hcz29_3 : wc.cell? ⟨gb478, 3, none⟩ = some (.int .i64 a1_3) := bc_
       have hfz29_0 := blk_frozen BK478.out 0
       have hfz29_1 := blk_frozen BK478.out 1
       have hfz29_2 := blk_frozen BK478.out 2
       have hfz29_3 := blk_frozen BK478.out 3
       go_wp2_with (first | ((with_reducible refine gate_callee (f := 29) rfl ?_); refine goesL_ (some 16) rfl rfl Tryd.func29 (by kernel_rfl) rfl #[.agg #[.int .i64 a0_0, .int .i64 a0_1, .int .i64 a0_2, .int .i64 a0_3], .agg #[.int .i64 a1_0, .int .i64 a1_1]] rfl ma_ ?_; (with_reducible refine (impl_SegHas.calls kj2 a0_0 a0_1 a0_2 a0_3 a1_0 a1_1 false _ A19.out).mono ?_); rintro e w30 ⟨rfl, hb⟩; refine ⟨_, rfl, ?_⟩; have n0_ := Aside0.mk (ub_ (g := gb477) hb); have n1_ := Aside0.mk (ub_ (g := gb478) hb); have n2_ := Aside0.mk (below_step hB_ hb); clear BK477; clear BK478; clear HB; have BK477 := n0_; have BK478 := n1_; have HB := n2_; clear n0_ n1_ n2_; (try clear hb); (try clear hb2); (try clear hk); (try clear hi); have hcz31_0 : w30.cell? ⟨gb477, 0, none⟩ = some (.int .i64 a0_0) := bc_; have hcz31_1 : w30.cell? ⟨gb477, 1, none⟩ = some (.int .i64 a0_1) := bc_; have hcz31_2 : w30.cell? ⟨gb477, 2, none⟩ = some (.int .i64 a0_2) := bc_; have hcz31_3 : w30.cell? ⟨gb477, 3, none⟩ = some (.int .i64 a0_3) := bc_; have hfz31_0 := blk_frozen BK477.out 0; have hfz31_1 := blk_frozen BK477.out 1; have hfz31_2 := blk_frozen BK477.out 2; have hfz31_3 := blk_frozen BK477.out 3; have hcz32_0 : w30.cell? ⟨gb478, 0, none⟩ = some (.int .i64 a1_0) := bc_; have hcz32_1 : w30.cell? ⟨gb478, 1, none⟩ = some (.int .i64 a1_1) := bc_; have hcz32_2 : w30.cell? ⟨gb478, 2, none⟩ = some (.int .i64 a1_2) := bc_; have hcz32_3 : w30.cell? ⟨gb478, 3, none⟩ = some (.int .i64 a1_3) := bc_; have hfz32_0 := blk_frozen BK478.out 0; have hfz32_1 := blk_frozen BK478.out 1; have hfz32_2 := blk_frozen BK478.out 2; have hfz32_3 := blk_frozen BK478.out 3) | (go_at_call 29; (with_reducible refine (impl_SegHas.calls kj2 a0_0 a0_1 a0_2 a0_3 a1_2 a1_3 true _ A25.out).mono ?_); rintro e w33 ⟨rfl, hb⟩; have n0_ := Aside0.mk (ub_ (g := gb477) hb); have n1_ := Aside0.mk (ub_ (g := gb478) hb); have n2_ := Aside0.mk (below_step hB_ hb); clear BK477; clear BK478; clear HB; have BK477 := n0_; have BK478 := n1_; have HB := n2_; clear n0_ n1_ n2_; (try clear hb); (try clear hb2); (try clear hk); (try clear hi)))
       go_meet
       case rel => exact ⟨_, (true), (by first | rfl | (simp; done) | (simp [*]; done)), H', ⟨by have := HJ2.out; first | omega | exact Nat.le_refl _⟩, ⟨uq_⟩, ⟨uq_⟩, ⟨hB_⟩⟩
      ·
       replace c26 := Bool.eq_false_iff.mpr c26
       subst c26
       have H1 : ((impl_SegHas.f kj2 a1_0 a1_1 a1_2 a1_3 a0_0 a0_1).bind fun t483 => (if t483 = true then (impl_SegMeet.j1 kj2 true a0_0 a0_1 a0_2 a0_3 a1_0 a1_1 a1_2 a1_3) else ((impl_SegHas.f kj2 a1_0 a1_1 a1_2 a1_3 a0_2 a0_3).bind fun t484 => (impl_SegMeet.j1 kj2 t484 a0_0 a0_1 a0_2 a0_3 a1_0 a1_1 a1_2 a1_3)))) = some r := by rw [if_neg (show ¬ (false = true) by decide)] at H; exact H
       clear H
       have H := H1
       clear H1
       replace H := Option.bind_eq_some_iff.mp H
       obtain ⟨t483, A340, H⟩ := H
       replace H : (if t483 = true then (impl_SegMeet.j1 kj2 true a0_0 a0_1 a0_2 a0_3 a1_0 a1_1 a1_2 a1_3) else ((impl_SegHas.f kj2 a1_0 a1_1 a1_2 a1_3 a0_2 a0_3).bind fun t484 => (impl_SegMeet.j1 kj2 t484 a0_0 a0_1 a0_2 a0_3 a1_0 a1_1 a1_2 a1_3))) = some r := H
       have A34 := Aside0.mk A340
       clear A340
       by_cases c35 : t483 = true
       ·
        subst c35
        have H1 : (impl_SegMeet.j1 kj2 true a0_0 a0_1 a0_2 a0_3 a1_0 a1_1 a1_2 a1_3) = some r := by rw [if_pos rfl] at H; exact H
        clear H
        have H := H1
        clear H1
        have H' := Aside0.mk H
        clear H
        have hnb36 := NB477_478.out
        have hnc36 := NB478_477.out
        have hcz37_0 : wc.cell? ⟨gb477, 0, none⟩ = some (.int .i64 a0_0) := bc_
        have hcz37_1 : wc.cell? ⟨gb477, 1, none⟩ = some (.int .i64 a0_1) := bc_
        have hcz37_2 : wc.cell? ⟨gb477, 2, none⟩ = some (.int .i64 a0_2) := bc_
        have hcz37_3 : wc.cell? ⟨gb477, 3, none⟩ = some (.int .i64 a0_3) := bc_
        have hfz37_0 := blk_frozen BK477.out 0
        have hfz37_1 := blk_frozen BK477.out 1
        have hfz37_2 := blk_frozen BK477.out 2
        have hfz37_3 := blk_frozen BK477.out 3
        have hcz38_0 : wc.cell? ⟨gb478, 0, none⟩ = some (.int .i64 a1_0) := bc_
        have hcz38_1 : wc.cell? ⟨gb478, 1, none⟩ = some (.int .i64 a1_1) := bc_
        have hcz38_2 : wc.cell? ⟨gb478, 2, none⟩ = some (.int .i64 a1_2) := bc_
        have hcz38_3 : wc.cell? ⟨gb478, 3, none⟩ = some (.int .i64 a1_3) := bc_
        have hfz38_0 := blk_frozen BK478.out 0
        have hfz38_1 := blk_frozen BK478.out 1
        have hfz38_2 := blk_frozen BK478.out 2
        have hfz38_3 := blk_frozen BK478.out 3
        go_wp2_with (first | ((with_reducible refine gate_callee (f := 29) rfl ?_); refine goesL_ (some 16) rfl rfl Tryd.func29 (by kernel_rfl) rfl #[.agg #[.int .i64 a0_0, .int .i64 a0_1, .int .i64 a0_2, .int .i64 a0_3], .agg #[.int .i64 a1_0, .int .i64 a1_1]] rfl ma_ ?_; (with_reducible refine (impl_SegHas.calls kj2 a0_0 a0_1 a0_2 a0_3 a1_0 a1_1 false _ A19.out).mono ?_); rintro e w39 ⟨rfl, hb⟩; refine ⟨_, rfl, ?_⟩; have n0_ := Aside0.mk (ub_ (g := gb477) hb); have n1_ := Aside0.mk (ub_ (g := gb478) hb); have n2_ := Aside0.mk (below_step hB_ hb); clear BK477; clear BK478; clear HB; have BK477 := n0_; have BK478 := n1_; have HB := n2_; clear n0_ n1_ n2_; (try clear hb); (try clear hb2); (try clear hk); (try clear hi); have hcz40_0 : w39.cell? ⟨gb477, 0, none⟩ = some (.int .i64 a0_0) := bc_; have hcz40_1 : w39.cell? ⟨gb477, 1, none⟩ = some (.int .i64 a0_1) := bc_; have hcz40_2 : w39.cell? ⟨gb477, 2, none⟩ = some (.int .i64 a0_2) := bc_; have hcz40_3 : w39.cell? ⟨gb477, 3, none⟩ = some (.int .i64 a0_3) := bc_; have hfz40_0 := blk_frozen BK477.out 0; have hfz40_1 := blk_frozen BK477.out 1; have hfz40_2 := blk_frozen BK477.out 2; have hfz40_3 := blk_frozen BK477.out 3; have hcz41_0 : w39.cell? ⟨gb478, 0, none⟩ = some (.int .i64 a1_0) := bc_; have hcz41_1 : w39.cell? ⟨gb478, 1, none⟩ = some (.int .i64 a1_1) := bc_; have hcz41_2 : w39.cell? ⟨gb478, 2, none⟩ = some (.int .i64 a1_2) := bc_; have hcz41_3 : w39.cell? ⟨gb478, 3, none⟩ = some (.int .i64 a1_3) := bc_; have hfz41_0 := blk_frozen BK478.out 0; have hfz41_1 := blk_frozen BK478.out 1; have hfz41_2 := blk_frozen BK478.out 2; have hfz41_3 := blk_frozen BK478.out 3) | (go_at_call 29; (with_reducible refine (impl_SegHas.calls kj2 a0_0 a0_1 a0_2 a0_3 a1_2 a1_3 false _ A25.out).mono ?_); rintro e w42 ⟨rfl, hb⟩; have n0_ := Aside0.mk (ub_ (g := gb477) hb); have n1_ := Aside0.mk (ub_ (g := gb478) hb); have n2_ := Aside0.mk (below_step hB_ hb); clear BK477; clear BK478; clear HB; have BK477 := n0_; have BK478 := n1_; have HB := n2_; clear n0_ n1_ n2_; (try clear hb); (try clear hb2); (try clear hk); (try clear hi); have hcz43_0 : w42.cell? ⟨gb478, 0, none⟩ = some (.int .i64 a1_0) := bc_; have hcz43_1 : w42.cell? ⟨gb478, 1, none⟩ = some (.int .i64 a1_1) := bc_; have hcz43_2 : w42.cell? ⟨gb478, 2, none⟩ = some (.int .i64 a1_2) := bc_; have hcz43_3 : w42.cell? ⟨gb478, 3, none⟩ = some (.int .i64 a1_3) := bc_; have hfz43_0 := blk_frozen BK478.out 0; have hfz43_1 := blk_frozen BK478.out 1; have hfz43_2 := blk_frozen BK478.out 2; have hfz43_3 := blk_frozen BK478.out 3; have hcz44_0 : w42.cell? ⟨gb477, 0, none⟩ = some (.int .i64 a0_0) := bc_; have hcz44_1 : w42.cell? ⟨gb477, 1, none⟩ = some (.int .i64 a0_1) := bc_; have hcz44_2 : w42.cell? ⟨gb477, 2, none⟩ = some (.int .i64 a0_2) := bc_; have hcz44_3 : w42.cell? ⟨gb477, 3, none⟩ = some (.int .i64 a0_3) := bc_; have hfz44_0 := blk_frozen BK477.out 0; have hfz44_1 := blk_frozen BK477.out 1; have hfz44_2 := blk_frozen BK477.out 2; have hfz44_3 := blk_frozen BK477.out 3) | (go_at_call 29; (with_reducible refine (impl_SegHas.calls kj2 a1_0 a1_1 a1_2 a1_3 a0_0 a0_1 true _ A34.out).mono ?_); rintro e w45 ⟨rfl, hb⟩; have n0_ := Aside0.mk (ub_ (g := gb477) hb); have n1_ := Aside0.mk (ub_ (g := gb478) hb); have n2_ := Aside0.mk (below_step hB_ hb); clear BK477; clear BK478; clear HB; have BK477 := n0_; have BK478 := n1_; have HB := n2_; clear n0_ n1_ n2_; (try clear hb); (try clear hb2); (try clear hk); (try clear hi)))
        go_meet
        case rel => exact ⟨_, (true), (by first | rfl | (simp; done) | (simp [*]; done)), H', ⟨by have := HJ2.out; first | omega | exact Nat.le_refl _⟩, ⟨uq_⟩, ⟨uq_⟩, ⟨hB_⟩⟩
       ·
        replace c35 := Bool.eq_false_iff.mpr c35
        subst c35
        have H1 : ((impl_SegHas.f kj2 a1_0 a1_1 a1_2 a1_3 a0_2 a0_3).bind fun t484 => (impl_SegMeet.j1 kj2 t484 a0_0 a0_1 a0_2 a0_3 a1_0 a1_1 a1_2 a1_3)) = some r := by rw [if_neg (show ¬ (false = true) by decide)] at H; exact H
        clear H
        have H := H1
        clear H1
        replace H := Option.bind_eq_some_iff.mp H
        obtain ⟨t484, A460, H⟩ := H
        replace H : (impl_SegMeet.j1 kj2 t484 a0_0 a0_1 a0_2 a0_3 a1_0 a1_1 a1_2 a1_3) = some r := H
        have A46 := Aside0.mk A460
        clear A460
        have H' := Aside0.mk H
        clear H
        have hnb47 := NB477_478.out
        have hnc47 := NB478_477.out
        have hcz48_0 : wc.cell? ⟨gb477, 0, none⟩ = some (.int .i64 a0_0) := bc_
        have hcz48_1 : wc.cell? ⟨gb477, 1, none⟩ = some (.int .i64 a0_1) := bc_
        have hcz48_2 : wc.cell? ⟨gb477, 2, none⟩ = some (.int .i64 a0_2) := bc_
        have hcz48_3 : wc.cell? ⟨gb477, 3, none⟩ = some (.int .i64 a0_3) := bc_
        have hfz48_0 := blk_frozen BK477.out 0
        have hfz48_1 := blk_frozen BK477.out 1
        have hfz48_2 := blk_frozen BK477.out 2
        have hfz48_3 := blk_frozen BK477.out 3
        have hcz49_0 : wc.cell? ⟨gb478, 0, none⟩ = some (.int .i64 a1_0) := bc_
        have hcz49_1 : wc.cell? ⟨gb478, 1, none⟩ = some (.int .i64 a1_1) := bc_
        have hcz49_2 : wc.cell? ⟨gb478, 2, none⟩ = some (.int .i64 a1_2) := bc_
        have hcz49_3 : wc.cell? ⟨gb478, 3, none⟩ = some (.int .i64 a1_3) := bc_
        have hfz49_0 := blk_frozen BK478.out 0
        have hfz49_1 := blk_frozen BK478.out 1
        have hfz49_2 := blk_frozen BK478.out 2
        have hfz49_3 := blk_frozen BK478.out 3
        go_wp2_with (first | ((with_reducible refine gate_callee (f := 29) rfl ?_); refine goesL_ (some 16) rfl rfl Tryd.func29 (by kernel_rfl) rfl #[.agg #[.int .i64 a0_0, .int .i64 a0_1, .int .i64 a0_2, .int .i64 a0_3], .agg #[.int .i64 a1_0, .int .i64 a1_1]] rfl ma_ ?_; (with_reducible refine (impl_SegHas.calls kj2 a0_0 a0_1 a0_2 a0_3 a1_0 a1_1 false _ A19.out).mono ?_); rintro e w50 ⟨rfl, hb⟩; refine ⟨_, rfl, ?_⟩; have n0_ := Aside0.mk (ub_ (g := gb477) hb); have n1_ := Aside0.mk (ub_ (g := gb478) hb); have n2_ := Aside0.mk (below_step hB_ hb); clear BK477; clear BK478; clear HB; have BK477 := n0_; have BK478 := n1_; have HB := n2_; clear n0_ n1_ n2_; (try clear hb); (try clear hb2); (try clear hk); (try clear hi); have hcz51_0 : w50.cell? ⟨gb477, 0, none⟩ = some (.int .i64 a0_0) := bc_; have hcz51_1 : w50.cell? ⟨gb477, 1, none⟩ = some (.int .i64 a0_1) := bc_; have hcz51_2 : w50.cell? ⟨gb477, 2, none⟩ = some (.int .i64 a0_2) := bc_; have hcz51_3 : w50.cell? ⟨gb477, 3, none⟩ = some (.int .i64 a0_3) := bc_; have hfz51_0 := blk_frozen BK477.out 0; have hfz51_1 := blk_frozen BK477.out 1; have hfz51_2 := blk_frozen BK477.out 2; have hfz51_3 := blk_frozen BK477.out 3; have hcz52_0 : w50.cell? ⟨gb478, 0, none⟩ = some (.int .i64 a1_0) := bc_; have hcz52_1 : w50.cell? ⟨gb478, 1, none⟩ = some (.int .i64 a1_1) := bc_; have hcz52_2 : w50.cell? ⟨gb478, 2, none⟩ = some (.int .i64 a1_2) := bc_; have hcz52_3 : w50.cell? ⟨gb478, 3, none⟩ = some (.int .i64 a1_3) := bc_; have hfz52_0 := blk_frozen BK478.out 0; have hfz52_1 := blk_frozen BK478.out 1; have hfz52_2 := blk_frozen BK478.out 2; have hfz52_3 := blk_frozen BK478.out 3) | (go_at_call 29; (with_reducible refine (impl_SegHas.calls kj2 a0_0 a0_1 a0_2 a0_3 a1_2 a1_3 false _ A25.out).mono ?_); rintro e w53 ⟨rfl, hb⟩; have n0_ := Aside0.mk (ub_ (g := gb477) hb); have n1_ := Aside0.mk (ub_ (g := gb478) hb); have n2_ := Aside0.mk (below_step hB_ hb); clear BK477; clear BK478; clear HB; have BK477 := n0_; have BK478 := n1_; have HB := n2_; clear n0_ n1_ n2_; (try clear hb); (try clear hb2); (try clear hk); (try clear hi); have hcz54_0 : w53.cell? ⟨gb478, 0, none⟩ = some (.int .i64 a1_0) := bc_; have hcz54_1 : w53.cell? ⟨gb478, 1, none⟩ = some (.int .i64 a1_1) := bc_; have hcz54_2 : w53.cell? ⟨gb478, 2, none⟩ = some (.int .i64 a1_2) := bc_; have hcz54_3 : w53.cell? ⟨gb478, 3, none⟩ = some (.int .i64 a1_3) := bc_; have hfz54_0 := blk_frozen BK478.out 0; have hfz54_1 := blk_frozen BK478.out 1; have hfz54_2 := blk_frozen BK478.out 2; have hfz54_3 := blk_frozen BK478.out 3; have hcz55_0 : w53.cell? ⟨gb477, 0, none⟩ = some (.int .i64 a0_0) := bc_; have hcz55_1 : w53.cell? ⟨gb477, 1, none⟩ = some (.int .i64 a0_1) := bc_; have hcz55_2 : w53.cell? ⟨gb477, 2, none⟩ = some (.int .i64 a0_2) := bc_; have hcz55_3 : w53.cell? ⟨gb477, 3, none⟩ = some (.int .i64 a0_3) := bc_; have hfz55_0 := blk_frozen BK477.out 0; have hfz55_1 := blk_frozen BK477.out 1; have hfz55_2 := blk_frozen BK477.out 2; have hfz55_3 := blk_frozen BK477.out 3) | (go_at_call 29; (with_reducible refine (impl_SegHas.calls kj2 a1_0 a1_1 a1_2 a1_3 a0_0 a0_1 false _ A34.out).mono ?_); rintro e w56 ⟨rfl, hb⟩; have n0_ := Aside0.mk (ub_ (g := gb477) hb); have n1_ := Aside0.mk (ub_ (g := gb478) hb); have n2_ := Aside0.mk (below_step hB_ hb); clear BK477; clear BK478; clear HB; have BK477 := n0_; have BK478 := n1_; have HB := n2_; clear n0_ n1_ n2_; (try clear hb); (try clear hb2); (try clear hk); (try clear hi); have hcz57_0 : w56.cell? ⟨gb478, 0, none⟩ = some (.int .i64 a1_0) := bc_; have hcz57_1 : w56.cell? ⟨gb478, 1, none⟩ = some (.int .i64 a1_1) := bc_; have hcz57_2 : w56.cell? ⟨gb478, 2, none⟩ = some (.int .i64 a1_2) := bc_; have hcz57_3 : w56.cell? ⟨gb478, 3, none⟩ = some (.int .i64 a1_3) := bc_; have hfz57_0 := blk_frozen BK478.out 0; have hfz57_1 := blk_frozen BK478.out 1; have hfz57_2 := blk_frozen BK478.out 2; have hfz57_3 := blk_frozen BK478.out 3; have hcz58_0 : w56.cell? ⟨gb477, 0, none⟩ = some (.int .i64 a0_0) := bc_; have hcz58_1 : w56.cell? ⟨gb477, 1, none⟩ = some (.int .i64 a0_1) := bc_; have hcz58_2 : w56.cell? ⟨gb477, 2, none⟩ = some (.int .i64 a0_2) := bc_; have hcz58_3 : w56.cell? ⟨gb477, 3, none⟩ = some (.int .i64 a0_3) := bc_; have hfz58_0 := blk_frozen BK477.out 0; have hfz58_1 := blk_frozen BK477.out 1; have hfz58_2 := blk_frozen BK477.out 2; have hfz58_3 := blk_frozen BK477.out 3) | (go_at_call 29; (with_reducible refine (impl_SegHas.calls kj2 a1_0 a1_1 a1_2 a1_3 a0_2 a0_3 t484 _ A46.out).mono ?_); rintro e w59 ⟨rfl, hb⟩; have n0_ := Aside0.mk (ub_ (g := gb477) hb); have n1_ := Aside0.mk (ub_ (g := gb478) hb); have n2_ := Aside0.mk (below_step hB_ hb); clear BK477; clear BK478; clear HB; have BK477 := n0_; have BK478 := n1_; have HB := n2_; clear n0_ n1_ n2_; (try clear hb); (try clear hb2); (try clear hk); (try clear hi)))
        go_meet
        case rel => exact ⟨_, (t484), (by first | rfl | (simp; done) | (simp [*]; done)), H', ⟨by have := HJ2.out; first | omega | exact Nat.le_refl _⟩, ⟨uq_⟩, ⟨uq_⟩, ⟨hB_⟩⟩
    case rest =>
     clear HC18
     try clear c1
     try clear c2
     try clear p2
     try clear c3
     try clear c4
     try clear c7
     try clear c9
     try clear c14
     try clear c17
     try clear c20
     try clear c21
     try clear c26
     try clear c27
     try clear c28
     try clear c29
     try clear c35
     try clear c36
     try clear c37
     try clear c47
     try clear hcz10_0
     try clear hcz10_1
     try clear hcz10_2
     try clear hcz10_3
     try clear hcz12_0
     try clear hcz12_1
     try clear hcz12_2
     try clear hcz12_3
     try clear hcz15_0
     try clear hcz15_1
     try clear hcz15_2
     try clear hcz15_3
     try clear hcz22_0
     try clear hcz22_1
     try clear hcz22_2
     try clear hcz22_3
     try clear hcz23_0
     try clear hcz23_1
     try clear hcz23_2
     try clear hcz23_3
     try clear hcz28_0
     try clear hcz28_1
     try clear hcz28_2
     try clear hcz28_3
     try clear hcz29_0
     try clear hcz29_1
     try clear hcz29_2
     try clear hcz29_3
     try clear hcz31_0
     try clear hcz31_1
     try clear hcz31_2
     try clear hcz31_3
     try clear hcz32_0
     try clear hcz32_1
     try clear hcz32_2
     try clear hcz32_3
     try clear hcz37_0
     try clear hcz37_1
     try clear hcz37_2
     try clear hcz37_3
     try clear hcz38_0
     try clear hcz38_1
     try clear hcz38_2
     try clear hcz38_3
     try clear hcz40_0
     try clear hcz40_1
     try clear hcz40_2
     try clear hcz40_3
     try clear hcz41_0
     try clear hcz41_1
     try clear hcz41_2
     try clear hcz41_3
     try clear hcz43_0
     try clear hcz43_1
     try clear hcz43_2
     try clear hcz43_3
     try clear hcz44_0
     try clear hcz44_1
     try clear hcz44_2
     try clear hcz44_3
     try clear hcz48_0
     try clear hcz48_1
     try clear hcz48_2
     try clear hcz48_3
     try clear hcz49_0
     try clear hcz49_1
     try clear hcz49_2
     try clear hcz49_3
     try clear hcz51_0
     try clear hcz51_1
     try clear hcz51_2
     try clear hcz51_3
     try clear hcz52_0
     try clear hcz52_1
     try clear hcz52_2
     try clear hcz52_3
     try clear hcz54_0
     try clear hcz54_1
     try clear hcz54_2
     try clear hcz54_3
     try clear hcz55_0
     try clear hcz55_1
     try clear hcz55_2
     try clear hcz55_3
     try clear hcz57_0
     try clear hcz57_1
     try clear hcz57_2
     try clear hcz57_3
     try clear hcz58_0
     try clear hcz58_1
     try clear hcz58_2
     try clear hcz58_3
     try clear hfz10_0
     try clear hfz10_1
     try clear hfz10_2
     try clear hfz10_3
     try clear hfz12_0
     try clear hfz12_1
     try clear hfz12_2
     try clear hfz12_3
     try clear hfz15_0
     try clear hfz15_1
     try clear hfz15_2
     try clear hfz15_3
     try clear hfz22_0
     try clear hfz22_1
     try clear hfz22_2
     try clear hfz22_3
     try clear hfz23_0
     try clear hfz23_1
     try clear hfz23_2
     try clear hfz23_3
     try clear hfz28_0
     try clear hfz28_1
     try clear hfz28_2
     try clear hfz28_3
     try clear hfz29_0
     try clear hfz29_1
     try clear hfz29_2
     try clear hfz29_3
     try clear hfz31_0
     try clear hfz31_1
     try clear hfz31_2
     try clear hfz31_3
     try clear hfz32_0
     try clear hfz32_1
     try clear hfz32_2
     try clear hfz32_3
     try clear hfz37_0
     try clear hfz37_1
     try clear hfz37_2
     try clear hfz37_3
     try clear hfz38_0
     try clear hfz38_1
     try clear hfz38_2
     try clear hfz38_3
     try clear hfz40_0
     try clear hfz40_1
     try clear hfz40_2
     try clear hfz40_3
     try clear hfz41_0
     try clear hfz41_1
     try clear hfz41_2
     try clear hfz41_3
     try clear hfz43_0
     try clear hfz43_1
     try clear hfz43_2
     try clear hfz43_3
     try clear hfz44_0
     try clear hfz44_1
     try clear hfz44_2
     try clear hfz44_3
     try clear hfz48_0
     try clear hfz48_1
     try clear hfz48_2
     try clear hfz48_3
     try clear hfz49_0
     try clear hfz49_1
     try clear hfz49_2
     try clear hfz49_3
     try clear hfz51_0
     try clear hfz51_1
     try clear hfz51_2
     try clear hfz51_3
     try clear hfz52_0
     try clear hfz52_1
     try clear hfz52_2
     try clear hfz52_3
     try clear hfz54_0
     try clear hfz54_1
     try clear hfz54_2
     try clear hfz54_3
     try clear hfz55_0
     try clear hfz55_1
     try clear hfz55_2
     try clear hfz55_3
     try clear hfz57_0
     try clear hfz57_1
     try clear hfz57_2
     try clear hfz57_3
     try clear hfz58_0
     try clear hfz58_1
     try clear hfz58_2
     try clear hfz58_3
     try clear p2
     obtain ⟨kq, x34_17, rfl, HA, HJ17, BK477, BK478, HB⟩ := hcut
     cases kq with
     | zero => exact absurd HA.out (by simp [impl_SegMeet.j1])
     | succ kj17 =>
      have H := HA.out
      clear HA
      simp only [impl_SegMeet.j1] at H
      by_cases c60 : x34_17 = true
      ·
       subst c60
       have H1 : (some true) = some r := by rw [if_pos rfl] at H; exact H
       clear H
       have H := H1
       clear H1
       obtain rfl := Option.some.inj H
       go_wp2
       go_ret
       exact ⟨by first | rfl | (simp [errW_none, errW_some] <;> rfl) | (simp [*, errW_none, errW_some] <;> rfl), hB_⟩
      ·
       replace c60 := Bool.eq_false_iff.mpr c60
       subst c60
       have H1 : ((impl_SegTurn.f kj17 a0_0 a0_1 a0_2 a0_3 a1_0 a1_1).bind fun t485 => ((impl_SegTurn.f kj17 a0_0 a0_1 a0_2 a0_3 a1_2 a1_3).bind fun t486 => (if (wrap64 (t485 * t486)) < 0 then ((impl_SegTurn.f kj17 a1_0 a1_1 a1_2 a1_3 a0_0 a0_1).bind fun t487 => ((impl_SegTurn.f kj17 a1_0 a1_1 a1_2 a1_3 a0_2 a0_3).bind fun t488 => (some (decide ((wrap64 (t487 * t488)) < 0))))) else (some false)))) = some r := by rw [if_neg (show ¬ (false = true) by decide)] at H; exact H
       clear H
       have H := H1
       clear H1
       replace H := Option.bind_eq_some_iff.mp H
       obtain ⟨t485, A610, H⟩ := H
       replace H : ((impl_SegTurn.f kj17 a0_0 a0_1 a0_2 a0_3 a1_2 a1_3).bind fun t486 => (if (wrap64 (t485 * t486)) < 0 then ((impl_SegTurn.f kj17 a1_0 a1_1 a1_2 a1_3 a0_0 a0_1).bind fun t487 => ((impl_SegTurn.f kj17 a1_0 a1_1 a1_2 a1_3 a0_2 a0_3).bind fun t488 => (some (decide ((wrap64 (t487 * t488)) < 0))))) else (some false))) = some r := H
       have A61 := Aside0.mk A610
       clear A610
       replace H := Option.bind_eq_some_iff.mp H
       obtain ⟨t486, A620, H⟩ := H
       replace H : (if (wrap64 (t485 * t486)) < 0 then ((impl_SegTurn.f kj17 a1_0 a1_1 a1_2 a1_3 a0_0 a0_1).bind fun t487 => ((impl_SegTurn.f kj17 a1_0 a1_1 a1_2 a1_3 a0_2 a0_3).bind fun t488 => (some (decide ((wrap64 (t487 * t488)) < 0))))) else (some false)) = some r := H
       have A62 := Aside0.mk A620
       clear A620
       by_cases c63 : (wrap64 (t485 * t486)) < 0
       ·
        rw [if_pos c63] at H
        have c63b0 : decide ((wrap64 (t485 * t486)) < 0) = true := decide_eq_true c63
        clear c63
        replace H := Option.bind_eq_some_iff.mp H
        obtain ⟨t487, A640, H⟩ := H
        replace H : ((impl_SegTurn.f kj17 a1_0 a1_1 a1_2 a1_3 a0_2 a0_3).bind fun t488 => (some (decide ((wrap64 (t487 * t488)) < 0)))) = some r := H
        have A64 := Aside0.mk A640
        clear A640
        replace H := Option.bind_eq_some_iff.mp H
        obtain ⟨t488, A650, H⟩ := H
        replace H : (some (decide ((wrap64 (t487 * t488)) < 0))) = some r := H
        have A65 := Aside0.mk A650
        clear A650
        obtain rfl := Option.some.inj H
        try go_wp2
        have n0_ := Aside0.mk (blk_drew BK477.out)
        have n1_ := Aside0.mk (blk_drew BK478.out)
        have n2_ := Aside0.mk (below_drew1 HB.out)
        clear BK477 BK478 HB
        have BK477 := n0_
        have BK478 := n1_
        have HB := n2_
        clear n0_ n1_ n2_
        refine start_ (n := 35) (S := fun w' => w'.cell? ⟨gb477, 0, none⟩ = some (.int .i64 a0_0) ∧ w'.cell? ⟨gb477, 1, none⟩ = some (.int .i64 a0_1) ∧ w'.cell? ⟨gb477, 2, none⟩ = some (.int .i64 a0_2) ∧ w'.cell? ⟨gb477, 3, none⟩ = some (.int .i64 a0_3) ∧ w'.cell? ⟨gb478, 0, none⟩ = some (.int .i64 a1_0) ∧ w'.cell? ⟨gb478, 1, none⟩ = some (.int .i64 a1_1) ∧ w'.cell? ⟨gb478, 2, none⟩ = some (.int .i64 a1_2) ∧ w'.cell? ⟨gb478, 3, none⟩ = some (.int .i64 a1_3)) (ds := []) #[false, false, false, false, false, false, false, false, false, false, false, false, false, false, false, false, false, false, false, false, false, false, false, false, false, false, false, false, false, false, false, false, false, false, false] (by kernel_rfl) rfl rfl ⟨bc_, bc_, bc_, bc_, bc_, bc_, bc_, bc_⟩ (fun hHeld => ?_); refine with_tabW impl_SegMeet.tab5 impl_SegMeet.bits5 (fun HT_ HW_ => ?_)
        generalize wc.drew = w66 at BK477 BK478 HB hHeld ⊢
        refine pure_ (i := 0) (N := some 35) (v := ?_) (a' := ?_) (bm 35 1) rfl rfl (any_of HT_.out (by kernel_rfl)) (fun _ _ _ h => h) (Or.inl ⟨by rfl, ?_⟩) ?_ ?_
        rotate_left
        ·
         intro w'
         go_simp
         with_reducible rfl
        rotate_left
        ·
         simp only [Act.put, List.setIfInBounds_toArray, List.set_cons_zero, List.set_cons_succ, i64_w, i32_w]
         rfl
        refine pure_ (i := 2) (N := some 37) (v := ?_) (a' := ?_) (bm 35 5) rfl rfl (any_of HT_.out (by kernel_rfl)) (fun _ _ _ h => h) (Or.inl ⟨by rfl, ?_⟩) ?_ ?_
        rotate_left
        ·
         intro w'
         go_simp
         with_reducible rfl
        rotate_left
        ·
         simp only [Act.put, List.setIfInBounds_toArray, List.set_cons_zero, List.set_cons_succ, i64_w, i32_w]
         rfl
        refine pure_ (i := 4) (N := some 39) (v := ?_) (a' := ?_) (bm 35 21) rfl rfl (any_of HT_.out (by kernel_rfl)) (fun _ _ _ h => h) (Or.inl ⟨by rfl, ?_⟩) ?_ ?_
        rotate_left
        ·
         intro w'
         go_simp
         with_reducible rfl
        rotate_left
        ·
         simp only [Act.put, List.setIfInBounds_toArray, List.set_cons_zero, List.set_cons_succ, i64_w, i32_w]
         rfl
        refine pure_ (i := 7) (N := some 42) (v := ?_) (a' := ?_) (bm 35 149) rfl rfl (any_of HT_.out (by kernel_rfl)) (fun _ _ _ h => h) (Or.inl ⟨by rfl, ?_⟩) ?_ ?_
        rotate_left
        ·
         intro w'
         go_simp
         with_reducible rfl
        rotate_left
        ·
         simp only [Act.put, List.setIfInBounds_toArray, List.set_cons_zero, List.set_cons_succ, i64_w, i32_w]
         rfl
        refine pure_ (i := 9) (N := some 44) (v := ?_) (a' := ?_) (bm 35 661) rfl rfl (any_of HT_.out (by kernel_rfl)) (fun _ _ _ h => h) (Or.inl ⟨by rfl, ?_⟩) ?_ ?_
        rotate_left
        ·
         intro w'
         go_simp
         with_reducible rfl
        rotate_left
        ·
         simp only [Act.put, List.setIfInBounds_toArray, List.set_cons_zero, List.set_cons_succ, i64_w, i32_w]
         rfl
        refine pure_ (i := 11) (N := some 46) (v := ?_) (a' := ?_) (bm 35 2709) rfl rfl (any_of HT_.out (by kernel_rfl)) (fun _ _ _ h => h) (Or.inl ⟨by rfl, ?_⟩) ?_ ?_
        rotate_left
        ·
         intro w'
         go_simp
         with_reducible rfl
        rotate_left
        ·
         simp only [Act.put, List.setIfInBounds_toArray, List.set_cons_zero, List.set_cons_succ, i64_w, i32_w]
         rfl
        refine take_ (i := 1) (N := some 36) (v := ?_) (a' := ?_) (bm 35 2711) rfl rfl (take_ofW HT_.out HW_.out (by kernel_rfl)) (fun _ _ _ h => h) (Or.inl ⟨by rfl, ?_⟩) hHeld ?_ ?_
        rotate_left
        ·
         rintro w' ⟨s0, s1, s2, s3, s4, s5, s6, s7⟩
         go_simp
         with_reducible rfl
        rotate_left
        ·
         simp only [Act.put, List.setIfInBounds_toArray, List.set_cons_zero, List.set_cons_succ, i64_w, i32_w]
         rfl
        refine take_ (i := 3) (N := some 38) (v := ?_) (a' := ?_) (bm 35 2719) rfl rfl (take_ofW HT_.out HW_.out (by kernel_rfl)) (fun _ _ _ h => h) (Or.inl ⟨by rfl, ?_⟩) hHeld ?_ ?_
        rotate_left
        ·
         rintro w' ⟨s0, s1, s2, s3, s4, s5, s6, s7⟩
         go_simp
         with_reducible rfl
        rotate_left
        ·
         simp only [Act.put, List.setIfInBounds_toArray, List.set_cons_zero, List.set_cons_succ, i64_w, i32_w]
         rfl
        refine take_ (i := 5) (N := some 40) (v := ?_) (a' := ?_) (bm 35 2751) rfl rfl (take_ofW HT_.out HW_.out (by kernel_rfl)) (fun _ _ _ h => h) (Or.inl ⟨by rfl, ?_⟩) hHeld ?_ ?_
        rotate_left
        ·
         rintro w' ⟨s0, s1, s2, s3, s4, s5, s6, s7⟩
         go_simp
         with_reducible rfl
        rotate_left
        ·
         simp only [Act.put, List.setIfInBounds_toArray, List.set_cons_zero, List.set_cons_succ, i64_w, i32_w]
         rfl
        refine take_ (i := 8) (N := some 43) (v := ?_) (a' := ?_) (bm 35 3007) rfl rfl (take_ofW HT_.out HW_.out (by kernel_rfl)) (fun _ _ _ h => h) (Or.inl ⟨by rfl, ?_⟩) hHeld ?_ ?_
        rotate_left
        ·
         rintro w' ⟨s0, s1, s2, s3, s4, s5, s6, s7⟩
         go_simp
         with_reducible rfl
        rotate_left
        ·
         simp only [Act.put, List.setIfInBounds_toArray, List.set_cons_zero, List.set_cons_succ, i64_w, i32_w]
         rfl
        refine take_ (i := 10) (N := some 45) (v := ?_) (a' := ?_) (bm 35 4031) rfl rfl (take_ofW HT_.out HW_.out (by kernel_rfl)) (fun _ _ _ h => h) (Or.inl ⟨by rfl, ?_⟩) hHeld ?_ ?_
        rotate_left
        ·
         rintro w' ⟨s0, s1, s2, s3, s4, s5, s6, s7⟩
         go_simp
         with_reducible rfl
        rotate_left
        ·
         simp only [Act.put, List.setIfInBounds_toArray, List.set_cons_zero, List.set_cons_succ, i64_w, i32_w]
         rfl
        refine take_ (i := 12) (N := some 47) (v := ?_) (a' := ?_) (bm 35 8127) rfl rfl (take_ofW HT_.out HW_.out (by kernel_rfl)) (fun _ _ _ h => h) (Or.inl ⟨by rfl, ?_⟩) hHeld ?_ ?_
        rotate_left
        ·
         rintro w' ⟨s0, s1, s2, s3, s4, s5, s6, s7⟩
         go_simp
         with_reducible rfl
        rotate_left
        ·
         simp only [Act.put, List.setIfInBounds_toArray, List.set_cons_zero, List.set_cons_succ, i64_w, i32_w]
         rfl
        refine one_ (i := 6) (N := some 41) (bm 35 8191) rfl rfl (one_of HT_.out (by kernel_rfl)) (by decide) (fun K hK => ?_)
        refine goes_ Tryd.func64 (by kernel_rfl) rfl #[.agg #[.int .i64 a0_0, .int .i64 a0_1], .agg #[.int .i64 a0_2, .int .i64 a0_3], .agg #[.int .i64 a1_0, .int .i64 a1_1]] (by rfl) rfl rfl ma_ ?_
        with_reducible refine (impl_SegTurn.calls kj17 a0_0 a0_1 a0_2 a0_3 a1_0 a1_1 t485 _ A61.out).mono ?_
        rintro e w67 ⟨rfl, hb⟩
        refine ⟨_, rfl, ?_⟩
        have n0_ := Aside0.mk (ub_ (g := gb477) hb)
        have n1_ := Aside0.mk (ub_ (g := gb478) hb)
        have n2_ := Aside0.mk (below_step hB_ hb)
        clear BK477 BK478 HB
        have BK477 := n0_
        have BK478 := n1_
        have HB := n2_
        clear n0_ n1_ n2_
        (try clear hb)
        (try clear hb2)
        (try clear hk)
        (try clear hi)
        refine hK.out _ _ ⟨bc_, bc_, bc_, bc_, bc_, bc_, bc_, bc_⟩ (fun hHeld => ?_)
        clear hK K
        refine norm_ (a' := ?_) ?_ ?_
        rotate_left
        ·
         show Act.put _ (some 41) _ = _
         simp only [Act.put, List.setIfInBounds_toArray, List.set_cons_zero, List.set_cons_succ, i64_w, i32_w]
         rfl
        refine one_ (i := 13) (N := some 48) (bm 35 16383) rfl rfl (one_of HT_.out (by kernel_rfl)) (by decide) (fun K hK => ?_)
        refine goes_ Tryd.func64 (by kernel_rfl) rfl #[.agg #[.int .i64 a0_0, .int .i64 a0_1], .agg #[.int .i64 a0_2, .int .i64 a0_3], .agg #[.int .i64 a1_2, .int .i64 a1_3]] (by rfl) rfl rfl ma_ ?_
        with_reducible refine (impl_SegTurn.calls kj17 a0_0 a0_1 a0_2 a0_3 a1_2 a1_3 t486 _ A62.out).mono ?_
        rintro e w68 ⟨rfl, hb⟩
        refine ⟨_, rfl, ?_⟩
        have n0_ := Aside0.mk (ub_ (g := gb477) hb)
        have n1_ := Aside0.mk (ub_ (g := gb478) hb)
        have n2_ := Aside0.mk (below_step hB_ hb)
        clear BK477 BK478 HB
        have BK477 := n0_
        have BK478 := n1_
        have HB := n2_
        clear n0_ n1_ n2_
        (try clear hb)
        (try clear hb2)
        (try clear hk)
        (try clear hi)
        refine hK.out _ _ ⟨bc_, bc_, bc_, bc_, bc_, bc_, bc_, bc_⟩ (fun hHeld => ?_)
        clear hK K
        refine norm_ (a' := ?_) ?_ ?_
        rotate_left
        ·
         show Act.put _ (some 48) _ = _
         simp only [Act.put, List.setIfInBounds_toArray, List.set_cons_zero, List.set_cons_succ, i64_w, i32_w]
         rfl
        refine pure_ (i := 14) (N := some 49) (v := ?_) (a' := ?_) (bm 35 32767) rfl rfl (any_of HT_.out (by kernel_rfl)) (fun _ _ _ h => h) (Or.inl ⟨by rfl, ?_⟩) ?_ ?_
        rotate_left
        ·
         intro w'
         go_simp
         with_reducible rfl
        rotate_left
        ·
         simp only [Act.put, List.setIfInBounds_toArray, List.set_cons_zero, List.set_cons_succ, i64_w, i32_w]
         rfl
        refine pure_ (i := 15) (N := some 50) (v := ?_) (a' := ?_) (bm 35 65535) rfl rfl (any_of HT_.out (by kernel_rfl)) (fun _ _ _ h => h) (Or.inl ⟨by rfl, ?_⟩) ?_ ?_
        rotate_left
        ·
         intro w'
         go_simp
         with_reducible rfl
        rotate_left
        ·
         simp only [Act.put, List.setIfInBounds_toArray, List.set_cons_zero, List.set_cons_succ, i64_w, i32_w]
         rfl
        refine pure_ (i := 16) (N := some 51) (v := ?_) (a' := ?_) (bm 35 131071) rfl rfl (any_of HT_.out (by kernel_rfl)) (fun _ _ _ h => h) (Or.inl ⟨by rfl, ?_⟩) ?_ ?_
        rotate_left
        ·
         intro w'
         go_simp
         with_reducible rfl
        rotate_left
        ·
         simp only [Act.put, List.setIfInBounds_toArray, List.set_cons_zero, List.set_cons_succ, i64_w, i32_w]
         rfl
        refine pure_ (i := 17) (N := some 52) (v := ?_) (a' := ?_) (bm 35 262143) rfl rfl (any_of HT_.out (by kernel_rfl)) (fun _ _ _ h => h) (Or.inl ⟨by rfl, ?_⟩) ?_ ?_
        rotate_left
        ·
         intro w'
         go_simp
         with_reducible rfl
        rotate_left
        ·
         simp only [Act.put, List.setIfInBounds_toArray, List.set_cons_zero, List.set_cons_succ, i64_w, i32_w]
         rfl
        refine pure_ (i := 19) (N := some 54) (v := ?_) (a' := ?_) (bm 35 786431) rfl rfl (any_of HT_.out (by kernel_rfl)) (fun _ _ _ h => h) (Or.inl ⟨by rfl, ?_⟩) ?_ ?_
        rotate_left
        ·
         intro w'
         go_simp
         with_reducible rfl
        rotate_left
        ·
         simp only [Act.put, List.setIfInBounds_toArray, List.set_cons_zero, List.set_cons_succ, i64_w, i32_w]
         rfl
        refine pure_ (i := 21) (N := some 56) (v := ?_) (a' := ?_) (bm 35 2883583) rfl rfl (any_of HT_.out (by kernel_rfl)) (fun _ _ _ h => h) (Or.inl ⟨by rfl, ?_⟩) ?_ ?_
        rotate_left
        ·
         intro w'
         go_simp
         with_reducible rfl
        rotate_left
        ·
         simp only [Act.put, List.setIfInBounds_toArray, List.set_cons_zero, List.set_cons_succ, i64_w, i32_w]
         rfl
        refine pure_ (i := 24) (N := some 59) (v := ?_) (a' := ?_) (bm 35 19660799) rfl rfl (any_of HT_.out (by kernel_rfl)) (fun _ _ _ h => h) (Or.inl ⟨by rfl, ?_⟩) ?_ ?_
        rotate_left
        ·
         intro w'
         go_simp
         with_reducible rfl
        rotate_left
        ·
         simp only [Act.put, List.setIfInBounds_toArray, List.set_cons_zero, List.set_cons_succ, i64_w, i32_w]
         rfl
        refine pure_ (i := 26) (N := some 61) (v := ?_) (a' := ?_) (bm 35 86769663) rfl rfl (any_of HT_.out (by kernel_rfl)) (fun _ _ _ h => h) (Or.inl ⟨by rfl, ?_⟩) ?_ ?_
        rotate_left
        ·
         intro w'
         go_simp
         with_reducible rfl
        rotate_left
        ·
         simp only [Act.put, List.setIfInBounds_toArray, List.set_cons_zero, List.set_cons_succ, i64_w, i32_w]
         rfl
        refine pure_ (i := 28) (N := some 63) (v := ?_) (a' := ?_) (bm 35 355205119) rfl rfl (any_of HT_.out (by kernel_rfl)) (fun _ _ _ h => h) (Or.inl ⟨by rfl, ?_⟩) ?_ ?_
        rotate_left
        ·
         intro w'
         go_simp
         with_reducible rfl
        rotate_left
        ·
         simp only [Act.put, List.setIfInBounds_toArray, List.set_cons_zero, List.set_cons_succ, i64_w, i32_w]
         rfl
        refine take_ (i := 18) (N := some 53) (v := ?_) (a' := ?_) (bm 35 355467263) rfl rfl (take_ofW HT_.out HW_.out (by kernel_rfl)) (fun _ _ _ h => h) (Or.inl ⟨by rfl, ?_⟩) hHeld ?_ ?_
        rotate_left
        ·
         rintro w' ⟨s0, s1, s2, s3, s4, s5, s6, s7⟩
         go_simp
         with_reducible rfl
        rotate_left
        ·
         simp only [Act.put, List.setIfInBounds_toArray, List.set_cons_zero, List.set_cons_succ, i64_w, i32_w]
         rfl
        refine take_ (i := 20) (N := some 55) (v := ?_) (a' := ?_) (bm 35 356515839) rfl rfl (take_ofW HT_.out HW_.out (by kernel_rfl)) (fun _ _ _ h => h) (Or.inl ⟨by rfl, ?_⟩) hHeld ?_ ?_
        rotate_left
        ·
         rintro w' ⟨s0, s1, s2, s3, s4, s5, s6, s7⟩
         go_simp
         with_reducible rfl
        rotate_left
        ·
         simp only [Act.put, List.setIfInBounds_toArray, List.set_cons_zero, List.set_cons_succ, i64_w, i32_w]
         rfl
        refine take_ (i := 22) (N := some 57) (v := ?_) (a' := ?_) (bm 35 360710143) rfl rfl (take_ofW HT_.out HW_.out (by kernel_rfl)) (fun _ _ _ h => h) (Or.inl ⟨by rfl, ?_⟩) hHeld ?_ ?_
        rotate_left
        ·
         rintro w' ⟨s0, s1, s2, s3, s4, s5, s6, s7⟩
         go_simp
         with_reducible rfl
        rotate_left
        ·
         simp only [Act.put, List.setIfInBounds_toArray, List.set_cons_zero, List.set_cons_succ, i64_w, i32_w]
         rfl
        refine take_ (i := 25) (N := some 60) (v := ?_) (a' := ?_) (bm 35 394264575) rfl rfl (take_ofW HT_.out HW_.out (by kernel_rfl)) (fun _ _ _ h => h) (Or.inl ⟨by rfl, ?_⟩) hHeld ?_ ?_
        rotate_left
        ·
         rintro w' ⟨s0, s1, s2, s3, s4, s5, s6, s7⟩
         go_simp
         with_reducible rfl
        rotate_left
        ·
         simp only [Act.put, List.setIfInBounds_toArray, List.set_cons_zero, List.set_cons_succ, i64_w, i32_w]
         rfl
        refine take_ (i := 27) (N := some 62) (v := ?_) (a' := ?_) (bm 35 528482303) rfl rfl (take_ofW HT_.out HW_.out (by kernel_rfl)) (fun _ _ _ h => h) (Or.inl ⟨by rfl, ?_⟩) hHeld ?_ ?_
        rotate_left
        ·
         rintro w' ⟨s0, s1, s2, s3, s4, s5, s6, s7⟩
         go_simp
         with_reducible rfl
        rotate_left
        ·
         simp only [Act.put, List.setIfInBounds_toArray, List.set_cons_zero, List.set_cons_succ, i64_w, i32_w]
         rfl
        refine take_ (i := 29) (N := some 64) (v := ?_) (a' := ?_) (bm 35 1065353215) rfl rfl (take_ofW HT_.out HW_.out (by kernel_rfl)) (fun _ _ _ h => h) (Or.inl ⟨by rfl, ?_⟩) hHeld ?_ ?_
        rotate_left
        ·
         rintro w' ⟨s0, s1, s2, s3, s4, s5, s6, s7⟩
         go_simp
         with_reducible rfl
        rotate_left
        ·
         simp only [Act.put, List.setIfInBounds_toArray, List.set_cons_zero, List.set_cons_succ, i64_w, i32_w]
         rfl
        refine one_ (i := 23) (N := some 58) (bm 35 1073741823) rfl rfl (one_of HT_.out (by kernel_rfl)) (by decide) (fun K hK => ?_)
        refine goes_ Tryd.func64 (by kernel_rfl) rfl #[.agg #[.int .i64 a1_0, .int .i64 a1_1], .agg #[.int .i64 a1_2, .int .i64 a1_3], .agg #[.int .i64 a0_0, .int .i64 a0_1]] (by rfl) rfl rfl ma_ ?_
        with_reducible refine (impl_SegTurn.calls kj17 a1_0 a1_1 a1_2 a1_3 a0_0 a0_1 t487 _ A64.out).mono ?_
        rintro e w69 ⟨rfl, hb⟩
        refine ⟨_, rfl, ?_⟩
        have n0_ := Aside0.mk (ub_ (g := gb477) hb)
        have n1_ := Aside0.mk (ub_ (g := gb478) hb)
        have n2_ := Aside0.mk (below_step hB_ hb)
        clear BK477 BK478 HB
        have BK477 := n0_
        have BK478 := n1_
        have HB := n2_
        clear n0_ n1_ n2_
        (try clear hb)
        (try clear hb2)
        (try clear hk)
        (try clear hi)
        refine hK.out _ _ ⟨bc_, bc_, bc_, bc_, bc_, bc_, bc_, bc_⟩ (fun hHeld => ?_)
        clear hK K
        refine norm_ (a' := ?_) ?_ ?_
        rotate_left
        ·
         show Act.put _ (some 58) _ = _
         simp only [Act.put, List.setIfInBounds_toArray, List.set_cons_zero, List.set_cons_succ, i64_w, i32_w]
         rfl
        refine one_ (i := 30) (N := some 65) (bm 35 2147483647) rfl rfl (one_of HT_.out (by kernel_rfl)) (by decide) (fun K hK => ?_)
        refine goes_ Tryd.func64 (by kernel_rfl) rfl #[.agg #[.int .i64 a1_0, .int .i64 a1_1], .agg #[.int .i64 a1_2, .int .i64 a1_3], .agg #[.int .i64 a0_2, .int .i64 a0_3]] (by rfl) rfl rfl ma_ ?_
        with_reducible refine (impl_SegTurn.calls kj17 a1_0 a1_1 a1_2 a1_3 a0_2 a0_3 t488 _ A65.out).mono ?_
        rintro e w70 ⟨rfl, hb⟩
        refine ⟨_, rfl, ?_⟩
        have n0_ := Aside0.mk (ub_ (g := gb477) hb)
        have n1_ := Aside0.mk (ub_ (g := gb478) hb)
        have n2_ := Aside0.mk (below_step hB_ hb)
        clear BK477 BK478 HB
        have BK477 := n0_
        have BK478 := n1_
        have HB := n2_
        clear n0_ n1_ n2_
        (try clear hb)
        (try clear hb2)
        (try clear hk)
        (try clear hi)
        refine hK.out _ _ ⟨bc_, bc_, bc_, bc_, bc_, bc_, bc_, bc_⟩ (fun hHeld => ?_)
        clear hK K
        refine norm_ (a' := ?_) ?_ ?_
        rotate_left
        ·
         show Act.put _ (some 65) _ = _
         simp only [Act.put, List.setIfInBounds_toArray, List.set_cons_zero, List.set_cons_succ, i64_w, i32_w]
         rfl
        refine pure_ (i := 31) (N := some 66) (v := ?_) (a' := ?_) (bm 35 4294967295) rfl rfl (any_of HT_.out (by kernel_rfl)) (fun _ _ _ h => h) (Or.inl ⟨by rfl, ?_⟩) ?_ ?_
        rotate_left
        ·
         intro w'
         go_simp
         with_reducible rfl
        rotate_left
        ·
         simp only [Act.put, List.setIfInBounds_toArray, List.set_cons_zero, List.set_cons_succ, i64_w, i32_w]
         rfl
        refine pure_ (i := 32) (N := some 67) (v := ?_) (a' := ?_) (bm 35 8589934591) rfl rfl (any_of HT_.out (by kernel_rfl)) (fun _ _ _ h => h) (Or.inl ⟨by rfl, ?_⟩) ?_ ?_
        rotate_left
        ·
         intro w'
         go_simp
         with_reducible rfl
        rotate_left
        ·
         simp only [Act.put, List.setIfInBounds_toArray, List.set_cons_zero, List.set_cons_succ, i64_w, i32_w]
         rfl
        refine pure_ (i := 33) (N := some 68) (v := ?_) (a' := ?_) (bm 35 17179869183) rfl rfl (any_of HT_.out (by kernel_rfl)) (fun _ _ _ h => h) (Or.inl ⟨by rfl, ?_⟩) ?_ ?_
        rotate_left
        ·
         intro w'
         go_simp
         with_reducible rfl
        rotate_left
        ·
         simp only [Act.put, List.setIfInBounds_toArray, List.set_cons_zero, List.set_cons_succ, i64_w, i32_w]
         rfl
        refine pure_ (i := 34) (N := some 4) (v := ?_) (a' := ?_) (bm 35 34359738367) rfl rfl (any_of HT_.out (by kernel_rfl)) (fun _ _ _ h => h) (Or.inl ⟨by rfl, ?_⟩) ?_ ?_
        rotate_left
        ·
         intro w'
         go_simp
         with_reducible rfl
        rotate_left
        ·
         simp only [Act.put, List.setIfInBounds_toArray, List.set_cons_zero, List.set_cons_succ, i64_w, i32_w]
         rfl
        refine done_ (done_of HT_.out (by kernel_rfl)) ?_
        try go_wp2
        go_ret
        exact ⟨by first | rfl | (simp [errW_none, errW_some] <;> rfl) | (simp [*, errW_none, errW_some] <;> rfl), hB_⟩
       ·
        rw [if_neg c63] at H
        have c63b0 : decide ((wrap64 (t485 * t486)) < 0) = false := decide_eq_false c63
        clear c63
        obtain rfl := Option.some.inj H
        try go_wp2
        have n0_ := Aside0.mk (blk_drew BK477.out)
        have n1_ := Aside0.mk (blk_drew BK478.out)
        have n2_ := Aside0.mk (below_drew1 HB.out)
        clear BK477 BK478 HB
        have BK477 := n0_
        have BK478 := n1_
        have HB := n2_
        clear n0_ n1_ n2_
        refine start_ (n := 35) (S := fun w' => w'.cell? ⟨gb477, 0, none⟩ = some (.int .i64 a0_0) ∧ w'.cell? ⟨gb477, 1, none⟩ = some (.int .i64 a0_1) ∧ w'.cell? ⟨gb477, 2, none⟩ = some (.int .i64 a0_2) ∧ w'.cell? ⟨gb477, 3, none⟩ = some (.int .i64 a0_3) ∧ w'.cell? ⟨gb478, 0, none⟩ = some (.int .i64 a1_0) ∧ w'.cell? ⟨gb478, 1, none⟩ = some (.int .i64 a1_1) ∧ w'.cell? ⟨gb478, 2, none⟩ = some (.int .i64 a1_2) ∧ w'.cell? ⟨gb478, 3, none⟩ = some (.int .i64 a1_3)) (ds := []) #[false, false, false, false, false, false, false, false, false, false, false, false, false, false, false, false, false, false, false, false, false, false, false, false, false, false, false, false, false, false, false, false, false, false, false] (by kernel_rfl) rfl rfl ⟨bc_, bc_, bc_, bc_, bc_, bc_, bc_, bc_⟩ (fun hHeld => ?_); refine with_tabW impl_SegMeet.tab5 impl_SegMeet.bits5 (fun HT_ HW_ => ?_)
        generalize wc.drew = w71 at BK477 BK478 HB hHeld ⊢
        refine pure_ (i := 0) (N := some 35) (v := ?_) (a' := ?_) (bm 35 1) rfl rfl (any_of HT_.out (by kernel_rfl)) (fun _ _ _ h => h) (Or.inl ⟨by rfl, ?_⟩) ?_ ?_
        rotate_left
        ·
         intro w'
         go_simp
         with_reducible rfl
        rotate_left
        ·
         simp only [Act.put, List.setIfInBounds_toArray, List.set_cons_zero, List.set_cons_succ, i64_w, i32_w]
         rfl
        refine pure_ (i := 2) (N := some 37) (v := ?_) (a' := ?_) (bm 35 5) rfl rfl (any_of HT_.out (by kernel_rfl)) (fun _ _ _ h => h) (Or.inl ⟨by rfl, ?_⟩) ?_ ?_
        rotate_left
        ·
         intro w'
         go_simp
         with_reducible rfl
        rotate_left
        ·
         simp only [Act.put, List.setIfInBounds_toArray, List.set_cons_zero, List.set_cons_succ, i64_w, i32_w]
         rfl
        refine pure_ (i := 4) (N := some 39) (v := ?_) (a' := ?_) (bm 35 21) rfl rfl (any_of HT_.out (by kernel_rfl)) (fun _ _ _ h => h) (Or.inl ⟨by rfl, ?_⟩) ?_ ?_
        rotate_left
        ·
         intro w'
         go_simp
         with_reducible rfl
        rotate_left
        ·
         simp only [Act.put, List.setIfInBounds_toArray, List.set_cons_zero, List.set_cons_succ, i64_w, i32_w]
         rfl
        refine pure_ (i := 7) (N := some 42) (v := ?_) (a' := ?_) (bm 35 149) rfl rfl (any_of HT_.out (by kernel_rfl)) (fun _ _ _ h => h) (Or.inl ⟨by rfl, ?_⟩) ?_ ?_
        rotate_left
        ·
         intro w'
         go_simp
         with_reducible rfl
        rotate_left
        ·
         simp only [Act.put, List.setIfInBounds_toArray, List.set_cons_zero, List.set_cons_succ, i64_w, i32_w]
         rfl
        refine pure_ (i := 9) (N := some 44) (v := ?_) (a' := ?_) (bm 35 661) rfl rfl (any_of HT_.out (by kernel_rfl)) (fun _ _ _ h => h) (Or.inl ⟨by rfl, ?_⟩) ?_ ?_
        rotate_left
        ·
         intro w'
         go_simp
         with_reducible rfl
        rotate_left
        ·
         simp only [Act.put, List.setIfInBounds_toArray, List.set_cons_zero, List.set_cons_succ, i64_w, i32_w]
         rfl
        refine pure_ (i := 11) (N := some 46) (v := ?_) (a' := ?_) (bm 35 2709) rfl rfl (any_of HT_.out (by kernel_rfl)) (fun _ _ _ h => h) (Or.inl ⟨by rfl, ?_⟩) ?_ ?_
        rotate_left
        ·
         intro w'
         go_simp
         with_reducible rfl
        rotate_left
        ·
         simp only [Act.put, List.setIfInBounds_toArray, List.set_cons_zero, List.set_cons_succ, i64_w, i32_w]
         rfl
        refine take_ (i := 1) (N := some 36) (v := ?_) (a' := ?_) (bm 35 2711) rfl rfl (take_ofW HT_.out HW_.out (by kernel_rfl)) (fun _ _ _ h => h) (Or.inl ⟨by rfl, ?_⟩) hHeld ?_ ?_
        rotate_left
        ·
         rintro w' ⟨s0, s1, s2, s3, s4, s5, s6, s7⟩
         go_simp
         with_reducible rfl
        rotate_left
        ·
         simp only [Act.put, List.setIfInBounds_toArray, List.set_cons_zero, List.set_cons_succ, i64_w, i32_w]
         rfl
        refine take_ (i := 3) (N := some 38) (v := ?_) (a' := ?_) (bm 35 2719) rfl rfl (take_ofW HT_.out HW_.out (by kernel_rfl)) (fun _ _ _ h => h) (Or.inl ⟨by rfl, ?_⟩) hHeld ?_ ?_
        rotate_left
        ·
         rintro w' ⟨s0, s1, s2, s3, s4, s5, s6, s7⟩
         go_simp
         with_reducible rfl
        rotate_left
        ·
         simp only [Act.put, List.setIfInBounds_toArray, List.set_cons_zero, List.set_cons_succ, i64_w, i32_w]
         rfl
        refine take_ (i := 5) (N := some 40) (v := ?_) (a' := ?_) (bm 35 2751) rfl rfl (take_ofW HT_.out HW_.out (by kernel_rfl)) (fun _ _ _ h => h) (Or.inl ⟨by rfl, ?_⟩) hHeld ?_ ?_
        rotate_left
        ·
         rintro w' ⟨s0, s1, s2, s3, s4, s5, s6, s7⟩
         go_simp
         with_reducible rfl
        rotate_left
        ·
         simp only [Act.put, List.setIfInBounds_toArray, List.set_cons_zero, List.set_cons_succ, i64_w, i32_w]
         rfl
        refine take_ (i := 8) (N := some 43) (v := ?_) (a' := ?_) (bm 35 3007) rfl rfl (take_ofW HT_.out HW_.out (by kernel_rfl)) (fun _ _ _ h => h) (Or.inl ⟨by rfl, ?_⟩) hHeld ?_ ?_
        rotate_left
        ·
         rintro w' ⟨s0, s1, s2, s3, s4, s5, s6, s7⟩
         go_simp
         with_reducible rfl
        rotate_left
        ·
         simp only [Act.put, List.setIfInBounds_toArray, List.set_cons_zero, List.set_cons_succ, i64_w, i32_w]
         rfl
        refine take_ (i := 10) (N := some 45) (v := ?_) (a' := ?_) (bm 35 4031) rfl rfl (take_ofW HT_.out HW_.out (by kernel_rfl)) (fun _ _ _ h => h) (Or.inl ⟨by rfl, ?_⟩) hHeld ?_ ?_
        rotate_left
        ·
         rintro w' ⟨s0, s1, s2, s3, s4, s5, s6, s7⟩
         go_simp
         with_reducible rfl
        rotate_left
        ·
         simp only [Act.put, List.setIfInBounds_toArray, List.set_cons_zero, List.set_cons_succ, i64_w, i32_w]
         rfl
        refine take_ (i := 12) (N := some 47) (v := ?_) (a' := ?_) (bm 35 8127) rfl rfl (take_ofW HT_.out HW_.out (by kernel_rfl)) (fun _ _ _ h => h) (Or.inl ⟨by rfl, ?_⟩) hHeld ?_ ?_
        rotate_left
        ·
         rintro w' ⟨s0, s1, s2, s3, s4, s5, s6, s7⟩
         go_simp
         with_reducible rfl
        rotate_left
        ·
         simp only [Act.put, List.setIfInBounds_toArray, List.set_cons_zero, List.set_cons_succ, i64_w, i32_w]
         rfl
        refine one_ (i := 6) (N := some 41) (bm 35 8191) rfl rfl (one_of HT_.out (by kernel_rfl)) (by decide) (fun K hK => ?_)
        refine goes_ Tryd.func64 (by kernel_rfl) rfl #[.agg #[.int .i64 a0_0, .int .i64 a0_1], .agg #[.int .i64 a0_2, .int .i64 a0_3], .agg #[.int .i64 a1_0, .int .i64 a1_1]] (by rfl) rfl rfl ma_ ?_
        with_reducible refine (impl_SegTurn.calls kj17 a0_0 a0_1 a0_2 a0_3 a1_0 a1_1 t485 _ A61.out).mono ?_
        rintro e w72 ⟨rfl, hb⟩
        refine ⟨_, rfl, ?_⟩
        have n0_ := Aside0.mk (ub_ (g := gb477) hb)
        have n1_ := Aside0.mk (ub_ (g := gb478) hb)
        have n2_ := Aside0.mk (below_step hB_ hb)
        clear BK477 BK478 HB
        have BK477 := n0_
        have BK478 := n1_
        have HB := n2_
        clear n0_ n1_ n2_
        (try clear hb)
        (try clear hb2)
        (try clear hk)
        (try clear hi)
        refine hK.out _ _ ⟨bc_, bc_, bc_, bc_, bc_, bc_, bc_, bc_⟩ (fun hHeld => ?_)
        clear hK K
        refine norm_ (a' := ?_) ?_ ?_
        rotate_left
        ·
         show Act.put _ (some 41) _ = _
         simp only [Act.put, List.setIfInBounds_toArray, List.set_cons_zero, List.set_cons_succ, i64_w, i32_w]
         rfl
        refine one_ (i := 13) (N := some 48) (bm 35 16383) rfl rfl (one_of HT_.out (by kernel_rfl)) (by decide) (fun K hK => ?_)
        refine goes_ Tryd.func64 (by kernel_rfl) rfl #[.agg #[.int .i64 a0_0, .int .i64 a0_1], .agg #[.int .i64 a0_2, .int .i64 a0_3], .agg #[.int .i64 a1_2, .int .i64 a1_3]] (by rfl) rfl rfl ma_ ?_
        with_reducible refine (impl_SegTurn.calls kj17 a0_0 a0_1 a0_2 a0_3 a1_2 a1_3 t486 _ A62.out).mono ?_
        rintro e w73 ⟨rfl, hb⟩
        refine ⟨_, rfl, ?_⟩
        have n0_ := Aside0.mk (ub_ (g := gb477) hb)
        have n1_ := Aside0.mk (ub_ (g := gb478) hb)
        have n2_ := Aside0.mk (below_step hB_ hb)
        clear BK477 BK478 HB
        have BK477 := n0_
        have BK478 := n1_
        have HB := n2_
        clear n0_ n1_ n2_
        (try clear hb)
        (try clear hb2)
        (try clear hk)
        (try clear hi)
        refine hK.out _ _ ⟨bc_, bc_, bc_, bc_, bc_, bc_, bc_, bc_⟩ (fun hHeld => ?_)
        clear hK K
        refine norm_ (a' := ?_) ?_ ?_
        rotate_left
        ·
         show Act.put _ (some 48) _ = _
         simp only [Act.put, List.setIfInBounds_toArray, List.set_cons_zero, List.set_cons_succ, i64_w, i32_w]
         rfl
        refine pure_ (i := 14) (N := some 49) (v := ?_) (a' := ?_) (bm 35 32767) rfl rfl (any_of HT_.out (by kernel_rfl)) (fun _ _ _ h => h) (Or.inl ⟨by rfl, ?_⟩) ?_ ?_
        rotate_left
        ·
         intro w'
         go_simp
         with_reducible rfl
        rotate_left
        ·
         simp only [Act.put, List.setIfInBounds_toArray, List.set_cons_zero, List.set_cons_succ, i64_w, i32_w]
         rfl
        refine pure_ (i := 15) (N := some 50) (v := ?_) (a' := ?_) (bm 35 65535) rfl rfl (any_of HT_.out (by kernel_rfl)) (fun _ _ _ h => h) (Or.inl ⟨by rfl, ?_⟩) ?_ ?_
        rotate_left
        ·
         intro w'
         go_simp
         with_reducible rfl
        rotate_left
        ·
         simp only [Act.put, List.setIfInBounds_toArray, List.set_cons_zero, List.set_cons_succ, i64_w, i32_w]
         rfl
        refine pure_ (i := 16) (N := some 51) (v := ?_) (a' := ?_) (bm 35 131071) rfl rfl (any_of HT_.out (by kernel_rfl)) (fun _ _ _ h => h) (Or.inl ⟨by rfl, ?_⟩) ?_ ?_
        rotate_left
        ·
         intro w'
         go_simp
         with_reducible rfl
        rotate_left
        ·
         simp only [Act.put, List.setIfInBounds_toArray, List.set_cons_zero, List.set_cons_succ, i64_w, i32_w]
         rfl
        refine pure_ (i := 17) (N := some 52) (v := undef) (a' := ?_) (bm 35 262143) rfl rfl (any_of HT_.out (by kernel_rfl)) (fun _ _ _ h => h) (Or.inr ⟨by rfl, rfl⟩) ?_ ?_
        rotate_left
        ·
         simp only [Act.put, List.setIfInBounds_toArray, List.set_cons_zero, List.set_cons_succ, i64_w, i32_w]
         rfl
        refine pure_ (i := 18) (N := some 53) (v := undef) (a' := ?_) (bm 35 524287) rfl rfl (any_of HT_.out (by kernel_rfl)) (fun _ _ _ h => h) (Or.inr ⟨by rfl, rfl⟩) ?_ ?_
        rotate_left
        ·
         simp only [Act.put, List.setIfInBounds_toArray, List.set_cons_zero, List.set_cons_succ, i64_w, i32_w]
         rfl
        refine pure_ (i := 19) (N := some 54) (v := undef) (a' := ?_) (bm 35 1048575) rfl rfl (any_of HT_.out (by kernel_rfl)) (fun _ _ _ h => h) (Or.inr ⟨by rfl, rfl⟩) ?_ ?_
        rotate_left
        ·
         simp only [Act.put, List.setIfInBounds_toArray, List.set_cons_zero, List.set_cons_succ, i64_w, i32_w]
         rfl
        refine pure_ (i := 20) (N := some 55) (v := undef) (a' := ?_) (bm 35 2097151) rfl rfl (any_of HT_.out (by kernel_rfl)) (fun _ _ _ h => h) (Or.inr ⟨by rfl, rfl⟩) ?_ ?_
        rotate_left
        ·
         simp only [Act.put, List.setIfInBounds_toArray, List.set_cons_zero, List.set_cons_succ, i64_w, i32_w]
         rfl
        refine pure_ (i := 21) (N := some 56) (v := undef) (a' := ?_) (bm 35 4194303) rfl rfl (any_of HT_.out (by kernel_rfl)) (fun _ _ _ h => h) (Or.inr ⟨by rfl, rfl⟩) ?_ ?_
        rotate_left
        ·
         simp only [Act.put, List.setIfInBounds_toArray, List.set_cons_zero, List.set_cons_succ, i64_w, i32_w]
         rfl
        refine pure_ (i := 22) (N := some 57) (v := undef) (a' := ?_) (bm 35 8388607) rfl rfl (any_of HT_.out (by kernel_rfl)) (fun _ _ _ h => h) (Or.inr ⟨by rfl, rfl⟩) ?_ ?_
        rotate_left
        ·
         simp only [Act.put, List.setIfInBounds_toArray, List.set_cons_zero, List.set_cons_succ, i64_w, i32_w]
         rfl
        refine pure_ (i := 23) (N := some 58) (v := undef) (a' := ?_) (bm 35 16777215) rfl rfl (any_of HT_.out (by kernel_rfl)) (fun _ _ _ h => h) (Or.inr ⟨by rfl, rfl⟩) ?_ ?_
        rotate_left
        ·
         simp only [Act.put, List.setIfInBounds_toArray, List.set_cons_zero, List.set_cons_succ, i64_w, i32_w]
         rfl
        refine pure_ (i := 24) (N := some 59) (v := undef) (a' := ?_) (bm 35 33554431) rfl rfl (any_of HT_.out (by kernel_rfl)) (fun _ _ _ h => h) (Or.inr ⟨by rfl, rfl⟩) ?_ ?_
        rotate_left
        ·
         simp only [Act.put, List.setIfInBounds_toArray, List.set_cons_zero, List.set_cons_succ, i64_w, i32_w]
         rfl
        refine pure_ (i := 25) (N := some 60) (v := undef) (a' := ?_) (bm 35 67108863) rfl rfl (any_of HT_.out (by kernel_rfl)) (fun _ _ _ h => h) (Or.inr ⟨by rfl, rfl⟩) ?_ ?_
        rotate_left
        ·
         simp only [Act.put, List.setIfInBounds_toArray, List.set_cons_zero, List.set_cons_succ, i64_w, i32_w]
         rfl
        refine pure_ (i := 26) (N := some 61) (v := undef) (a' := ?_) (bm 35 134217727) rfl rfl (any_of HT_.out (by kernel_rfl)) (fun _ _ _ h => h) (Or.inr ⟨by rfl, rfl⟩) ?_ ?_
        rotate_left
        ·
         simp only [Act.put, List.setIfInBounds_toArray, List.set_cons_zero, List.set_cons_succ, i64_w, i32_w]
         rfl
        refine pure_ (i := 27) (N := some 62) (v := undef) (a' := ?_) (bm 35 268435455) rfl rfl (any_of HT_.out (by kernel_rfl)) (fun _ _ _ h => h) (Or.inr ⟨by rfl, rfl⟩) ?_ ?_
        rotate_left
        ·
         simp only [Act.put, List.setIfInBounds_toArray, List.set_cons_zero, List.set_cons_succ, i64_w, i32_w]
         rfl
        refine pure_ (i := 28) (N := some 63) (v := undef) (a' := ?_) (bm 35 536870911) rfl rfl (any_of HT_.out (by kernel_rfl)) (fun _ _ _ h => h) (Or.inr ⟨by rfl, rfl⟩) ?_ ?_
        rotate_left
        ·
         simp only [Act.put, List.setIfInBounds_toArray, List.set_cons_zero, List.set_cons_succ, i64_w, i32_w]
         rfl
        refine pure_ (i := 29) (N := some 64) (v := undef) (a' := ?_) (bm 35 1073741823) rfl rfl (any_of HT_.out (by kernel_rfl)) (fun _ _ _ h => h) (Or.inr ⟨by rfl, rfl⟩) ?_ ?_
        rotate_left
        ·
         simp only [Act.put, List.setIfInBounds_toArray, List.set_cons_zero, List.set_cons_succ, i64_w, i32_w]
         rfl
        refine pure_ (i := 30) (N := some 65) (v := undef) (a' := ?_) (bm 35 2147483647) rfl rfl (any_of HT_.out (by kernel_rfl)) (fun _ _ _ h => h) (Or.inr ⟨by rfl, rfl⟩) ?_ ?_
        rotate_left
        ·
         simp only [Act.put, List.setIfInBounds_toArray, List.set_cons_zero, List.set_cons_succ, i64_w, i32_w]
         rfl
        refine pure_ (i := 31) (N := some 66) (v := undef) (a' := ?_) (bm 35 4294967295) rfl rfl (any_of HT_.out (by kernel_rfl)) (fun _ _ _ h => h) (Or.inr ⟨by rfl, rfl⟩) ?_ ?_
        rotate_left
        ·
         simp only [Act.put, List.setIfInBounds_toArray, List.set_cons_zero, List.set_cons_succ, i64_w, i32_w]
         rfl
        refine pure_ (i := 32) (N := some 67) (v := undef) (a' := ?_) (bm 35 8589934591) rfl rfl (any_of HT_.out (by kernel_rfl)) (fun _ _ _ h => h) (Or.inr ⟨by rfl, rfl⟩) ?_ ?_
        rotate_left
        ·
         simp only [Act.put, List.setIfInBounds_toArray, List.set_cons_zero, List.set_cons_succ, i64_w, i32_w]
         rfl
        refine pure_ (i := 33) (N := some 68) (v := ?_) (a' := ?_) (bm 35 17179869183) rfl rfl (any_of HT_.out (by kernel_rfl)) (fun _ _ _ h => h) (Or.inl ⟨by rfl, ?_⟩) ?_ ?_
        rotate_left
        ·
         intro w'
         go_simp
         with_reducible rfl
        rotate_left
        ·
         simp only [Act.put, List.setIfInBounds_toArray, List.set_cons_zero, List.set_cons_succ, i64_w, i32_w]
         rfl
        refine pure_ (i := 34) (N := some 4) (v := ?_) (a' := ?_) (bm 35 34359738367) rfl rfl (any_of HT_.out (by kernel_rfl)) (fun _ _ _ h => h) (Or.inl ⟨by rfl, ?_⟩) ?_ ?_
        rotate_left
        ·
         intro w'
         go_simp
         with_reducible rfl
        rotate_left
        ·
         simp only [Act.put, List.setIfInBounds_toArray, List.set_cons_zero, List.set_cons_succ, i64_w, i32_w]
         rfl
        refine done_ (done_of HT_.out (by kernel_rfl)) ?_
        try go_wp2
        go_ret
        exact ⟨by first | rfl | (simp [errW_none, errW_some] <;> rfl) | (simp [*, errW_none, errW_some] <;> rfl), hB_⟩
end Go.Proofs.YtnponnkcfgjeoaaDoor.X
end
section
namespace Go.Proofs.YtnponnkcfgjeoaaDoor.X
open Go.RowKit Go.Proofs.YtnponnkcfgjeoaaDoorW.PrintWords Go.Proofs.YtnponnkcfgjeoaaDoorW.PrintLast Go.Proofs.YtnponnkcfgjeoaaDoorW.PrintMore
attribute [local go_sem] max2_int min2_int max_two min_two max_three min_three max_four min_four
set_option linter.unusedVariables false
set_option linter.unusedSimpArgs false
def laws_luMirror.f (a0_0 : Int) (a0_1 : Int) : Option (Int × Int) := some (wrap64 (9 - a0_0), a0_1)
set_option maxHeartbeats 8000000 in
set_option maxRecDepth 100000 in
theorem laws_luMirror.calls (a0_0 : Int) (a0_1 : Int) (r1 : Int) (r2 : Int) (w : World) (h : laws_luMirror.f a0_0 a0_1 = some (r1, r2)) :
  Calls Tryd.prog 66 #[.agg #[.int .i64 a0_0, .int .i64 a0_1]] w fun e w' => e = .returned (.agg #[.int .i64 r1, .int .i64 r2]) ∧ Below w.heap.size w w' := by
 have hu38 := Tryd.underlying38
 have HB := Aside0.mk (Below.refl w.heap.size w)
 have H : (some (wrap64 (9 - a0_0), a0_1)) = some (r1, r2) := h
 clear h
 simp only [Option.some.injEq, Prod.mk.injEq] at H
 obtain ⟨rfl, rfl⟩ := H
 go_enter Tryd.func66, Tryd.ntmps66
 go_wp2_with (first | ((with_reducible refine gate_dst (N := 1) rfl ?_); refine box_event ?hg (N := 1) ?hd (cs := #[.int .i64 a0_0, .int .i64 a0_1]) (t := 38) ?hr ?_; (case hd => rfl); (case hg => rfl); (case hr => first | (go_simp; done) | (go_simp; rfl)); intro gb648 hg w2 hbox hb; have n0_ := Aside0.mk (below_step hB_ hb); have n1_ := Aside0.mk (hbox); have n2_ := Aside0.mk ((by rw [hg]; exact (below_size hB_) : w.heap.size ≤ gb648)); have n3_ := Aside0.mk ((by rw [hg]; exact (below_size hB_) : w.heap.size ≤ gb648)); clear HB; have HB := n0_; have BK648 := n1_; have GW648 := n2_; have GE648 := n3_; clear n0_ n1_ n2_ n3_; clear hb hbox hg) | ((with_reducible refine gate_dst (N := 2) rfl ?_); refine box_event ?hg (N := 2) ?hd (cs := #[.int .i64 0, .int .i64 0]) (t := 38) ?hr ?_; (case hd => rfl); (case hg => rfl); (case hr => first | (go_simp; done) | (go_simp; rfl)); intro gb649 hg w3 hbox hb; have n0_ := Aside0.mk (ub_ (g := gb648) hb); have n1_ := Aside0.mk (below_step hB_ hb); have n2_ := Aside0.mk (hbox); have n3_ := Aside0.mk ((by rw [hg]; exact (below_size hB_) : w.heap.size ≤ gb649)); have n4_ := Aside0.mk ((by rw [hg]; exact (below_size hB_) : w.heap.size ≤ gb649)); have n5_ := Aside0.mk ((by rw [hg]; exact Nat.ne_of_lt (blk_lt (g := gb648) (o := .cells #[.int .i64 a0_0, .int .i64 a0_1] 38 (0, 0)) uq_) : gb648 ≠ gb649)); have n6_ := Aside0.mk ((by rw [hg]; exact Nat.ne_of_gt (blk_lt (g := gb648) (o := .cells #[.int .i64 a0_0, .int .i64 a0_1] 38 (0, 0)) uq_) : gb649 ≠ gb648)); clear BK648; clear HB; have BK648 := n0_; have HB := n1_; have BK649 := n2_; have GW649 := n3_; have GE649 := n4_; have NB648_649 := n5_; have NB649_648 := n6_; clear n0_ n1_ n2_ n3_ n4_ n5_ n6_; clear hb hbox hg; have hnb4 := NB648_649.out; have hnc4 := NB649_648.out; have hcz5_0 : w3.cell? ⟨gb648, 0, none⟩ = some (.int .i64 a0_0) := bc_; have hcz5_1 : w3.cell? ⟨gb648, 1, none⟩ = some (.int .i64 a0_1) := bc_; have hfz5_0 := blk_frozen BK648.out 0; have hfz5_1 := blk_frozen BK648.out 1; have hcz6_0 : w3.cell? ⟨gb649, 0, none⟩ = some (.int .i64 0) := bc_; have hcz6_1 : w3.cell? ⟨gb649, 1, none⟩ = some (.int .i64 0) := bc_; have hfz6_0 := blk_frozen BK649.out 0; have hfz6_1 := blk_frozen BK649.out 1))
 refine bodyPost_ret (results_cell_row rfl _ _ gb649 38 #[.int .i64 (wrap64 (9 - a0_0)), .int .i64 a0_1] (0, 0) _ rfl (by (with_reducible repeat (first | refine blk_drewN ?_ _ | refine blk_drew ?_ | refine blk_alloc ?_ _)); refine blk_put (cs := #[.int .i64 (wrap64 (9 - a0_0)), .int .i64 0]) ?_ 1 _ rfl; (with_reducible repeat (first | refine blk_drewN ?_ _ | refine blk_drew ?_ | refine blk_alloc ?_ _)); refine blk_put (cs := #[.int .i64 0, .int .i64 0]) ?_ 0 _ rfl; (with_reducible repeat (first | refine blk_drewN ?_ _ | refine blk_drew ?_ | refine blk_alloc ?_ _)); exact BK649.out) Tryd.underlying38 rfl (by kernel_rfl)) rfl ?_
 exact ⟨by first | rfl | (simp [errW_none, errW_some] <;> rfl) | (simp [*, errW_none, errW_some] <;> rfl), hB_⟩
end Go.Proofs.YtnponnkcfgjeoaaDoor.X
end
section
namespace Go.Proofs.YtnponnkcfgjeoaaDoor.X
open Go.RowKit Go.Proofs.YtnponnkcfgjeoaaDoorW.PrintWords Go.Proofs.YtnponnkcfgjeoaaDoorW.PrintLast Go.Proofs.YtnponnkcfgjeoaaDoorW.PrintMore
attribute [local go_sem] max2_int min2_int max_two min_two max_three min_three max_four min_four
set_option linter.unusedVariables false
set_option linter.unusedSimpArgs false
def laws_luSwap.f (a0_0 : Int) (a0_1 : Int) : Option (Int × Int) := some (a0_1, a0_0)
set_option maxHeartbeats 8000000 in
set_option maxRecDepth 100000 in
theorem laws_luSwap.calls (a0_0 : Int) (a0_1 : Int) (r1 : Int) (r2 : Int) (w : World) (h : laws_luSwap.f a0_0 a0_1 = some (r1, r2)) :
  Calls Tryd.prog 65 #[.agg #[.int .i64 a0_0, .int .i64 a0_1]] w fun e w' => e = .returned (.agg #[.int .i64 r1, .int .i64 r2]) ∧ Below w.heap.size w w' := by
 have hu38 := Tryd.underlying38
 have HB := Aside0.mk (Below.refl w.heap.size w)
 have H : (some (a0_1, a0_0)) = some (r1, r2) := h
 clear h
 simp only [Option.some.injEq, Prod.mk.injEq] at H
 obtain ⟨rfl, rfl⟩ := H
 go_enter Tryd.func65, Tryd.ntmps65
 go_wp2_with (first | ((with_reducible refine gate_dst (N := 1) rfl ?_); refine box_event ?hg (N := 1) ?hd (cs := #[.int .i64 a0_0, .int .i64 a0_1]) (t := 38) ?hr ?_; (case hd => rfl); (case hg => rfl); (case hr => first | (go_simp; done) | (go_simp; rfl)); intro gb646 hg w2 hbox hb; have n0_ := Aside0.mk (below_step hB_ hb); have n1_ := Aside0.mk (hbox); have n2_ := Aside0.mk ((by rw [hg]; exact (below_size hB_) : w.heap.size ≤ gb646)); have n3_ := Aside0.mk ((by rw [hg]; exact (below_size hB_) : w.heap.size ≤ gb646)); clear HB; have HB := n0_; have BK646 := n1_; have GW646 := n2_; have GE646 := n3_; clear n0_ n1_ n2_ n3_; clear hb hbox hg) | ((with_reducible refine gate_dst (N := 2) rfl ?_); refine box_event ?hg (N := 2) ?hd (cs := #[.int .i64 0, .int .i64 0]) (t := 38) ?hr ?_; (case hd => rfl); (case hg => rfl); (case hr => first | (go_simp; done) | (go_simp; rfl)); intro gb647 hg w3 hbox hb; have n0_ := Aside0.mk (ub_ (g := gb646) hb); have n1_ := Aside0.mk (below_step hB_ hb); have n2_ := Aside0.mk (hbox); have n3_ := Aside0.mk ((by rw [hg]; exact (below_size hB_) : w.heap.size ≤ gb647)); have n4_ := Aside0.mk ((by rw [hg]; exact (below_size hB_) : w.heap.size ≤ gb647)); have n5_ := Aside0.mk ((by rw [hg]; exact Nat.ne_of_lt (blk_lt (g := gb646) (o := .cells #[.int .i64 a0_0, .int .i64 a0_1] 38 (0, 0)) uq_) : gb646 ≠ gb647)); have n6_ := Aside0.mk ((by rw [hg]; exact Nat.ne_of_gt (blk_lt (g := gb646) (o := .cells #[.int .i64 a0_0, .int .i64 a0_1] 38 (0, 0)) uq_) : gb647 ≠ gb646)); clear BK646; clear HB; have BK646 := n0_; have HB := n1_; have BK647 := n2_; have GW647 := n3_; have GE647 := n4_; have NB646_647 := n5_; have NB647_646 := n6_; clear n0_ n1_ n2_ n3_ n4_ n5_ n6_; clear hb hbox hg; have hnb4 := NB646_647.out; have hnc4 := NB647_646.out; have hcz5_0 : w3.cell? ⟨gb646, 0, none⟩ = some (.int .i64 a0_0) := bc_; have hcz5_1 : w3.cell? ⟨gb646, 1, none⟩ = some (.int .i64 a0_1) := bc_; have hfz5_0 := blk_frozen BK646.out 0; have hfz5_1 := blk_frozen BK646.out 1; have hcz6_0 : w3.cell? ⟨gb647, 0, none⟩ = some (.int .i64 0) := bc_; have hcz6_1 : w3.cell? ⟨gb647, 1, none⟩ = some (.int .i64 0) := bc_; have hfz6_0 := blk_frozen BK647.out 0; have hfz6_1 := blk_frozen BK647.out 1))
 refine bodyPost_ret (results_cell_row rfl _ _ gb647 38 #[.int .i64 a0_1, .int .i64 a0_0] (0, 0) _ rfl (by (with_reducible repeat (first | refine blk_drewN ?_ _ | refine blk_drew ?_ | refine blk_alloc ?_ _)); refine blk_put (cs := #[.int .i64 a0_1, .int .i64 0]) ?_ 1 _ rfl; (with_reducible repeat (first | refine blk_drewN ?_ _ | refine blk_drew ?_ | refine blk_alloc ?_ _)); refine blk_put (cs := #[.int .i64 0, .int .i64 0]) ?_ 0 _ rfl; (with_reducible repeat (first | refine blk_drewN ?_ _ | refine blk_drew ?_ | refine blk_alloc ?_ _)); exact BK647.out) Tryd.underlying38 rfl (by kernel_rfl)) rfl ?_
 exact ⟨by first | rfl | (simp [errW_none, errW_some] <;> rfl) | (simp [*, errW_none, errW_some] <;> rfl), hB_⟩
end Go.Proofs.YtnponnkcfgjeoaaDoor.X
end
section
namespace Go.Proofs.YtnponnkcfgjeoaaDoor.X
open Go.RowKit Go.Proofs.YtnponnkcfgjeoaaDoorW.PrintWords Go.Proofs.YtnponnkcfgjeoaaDoorW.PrintLast Go.Proofs.YtnponnkcfgjeoaaDoorW.PrintMore
attribute [local go_sem] max2_int min2_int max_two min_two max_three min_three max_four min_four
set_option linter.unusedVariables false
set_option linter.unusedSimpArgs false
def laws_luSeg.f (a0_0 : Int) (a0_1 : Int) (a0_2 : Int) (a0_3 : Int) (a1 : Bool) : Option (Int × Int × Int × Int) := if a1 = true then ((laws_luSwap.f a0_0 a0_1).bind fun bt652 => ((laws_luSwap.f a0_2 a0_3).bind fun bt654 => (some (bt652.1, bt652.2, bt654.1, bt654.2)))) else ((laws_luMirror.f a0_0 a0_1).bind fun bt656 => ((laws_luMirror.f a0_2 a0_3).bind fun bt658 => (some (bt656.1, bt656.2, bt658.1, bt658.2))))
def laws_luSeg.T2 : Bool × List (List Nat × List Nat) := (true, [([], []), ([0], [0]), ([1], [1]), ([], []), ([3], [3]), ([4, 2], [4]), ([2, 5], [2, 5]), ([6, 5, 0, 1, 2, 3, 4, 5, 6], [6])])
def laws_luSeg.B2 : List Nat := [0, 1, 3, 0, 8, 31, 63, 127]
theorem laws_luSeg.tab2 : rtab .any (opsOf Tryd.f39 2) = laws_luSeg.T2 := by kernel_rfl
theorem laws_luSeg.bits2 : waitsOk laws_luSeg.T2.2 laws_luSeg.B2 = true := by kernel_rfl
def laws_luSeg.T3 : Bool × List (List Nat × List Nat) := (true, [([], []), ([0], [0]), ([1], [1]), ([], []), ([3], [3]), ([4, 2], [4]), ([2, 5], [2, 5]), ([6, 5, 0, 1, 2, 3, 4, 5, 6], [6])])
def laws_luSeg.B3 : List Nat := [0, 1, 3, 0, 8, 31, 63, 127]
theorem laws_luSeg.tab3 : rtab .any (opsOf Tryd.f39 3) = laws_luSeg.T3 := by kernel_rfl
theorem laws_luSeg.bits3 : waitsOk laws_luSeg.T3.2 laws_luSeg.B3 = true := by kernel_rfl
set_option maxHeartbeats 8000000 in
set_option maxRecDepth 100000 in
theorem laws_luSeg.calls (a0_0 : Int) (a0_1 : Int) (a0_2 : Int) (a0_3 : Int) (a1 : Bool) (r1 : Int) (r2 : Int) (r3 : Int) (r4 : Int) (w : World) (h : laws_luSeg.f a0_0 a0_1 a0_2 a0_3 a1 = some (r1, r2, r3, r4)) :
  Calls Tryd.prog 39 #[.agg #[.int .i64 a0_0, .int .i64 a0_1, .int .i64 a0_2, .int .i64 a0_3], .bool a1] w fun e w' => e = .returned (.agg #[.int .i64 r1, .int .i64 r2, .int .i64 r3, .int .i64 r4]) ∧ Below w.heap.size w w' := by
 have hu40 := Tryd.underlying40
 have hu38 := Tryd.underlying38
 have HB := Aside0.mk (Below.refl w.heap.size w)
 have H : (if a1 = true then ((laws_luSwap.f a0_0 a0_1).bind fun bt652 => ((laws_luSwap.f a0_2 a0_3).bind fun bt654 => (some (bt652.1, bt652.2, bt654.1, bt654.2)))) else ((laws_luMirror.f a0_0 a0_1).bind fun bt656 => ((laws_luMirror.f a0_2 a0_3).bind fun bt658 => (some (bt656.1, bt656.2, bt658.1, bt658.2))))) = some (r1, r2, r3, r4) := h
 clear h
 by_cases c3 : a1 = true
 ·
  subst c3
  have H1 : ((laws_luSwap.f a0_0 a0_1).bind fun bt652 => ((laws_luSwap.f a0_2 a0_3).bind fun bt654 => (some (bt652.1, bt652.2, bt654.1, bt654.2)))) = some (r1, r2, r3, r4) := by rw [if_pos rfl] at H; exact H
  clear H
  have H := H1
  clear H1
  replace H := Option.bind_eq_some_iff.mp H
  obtain ⟨⟨t652, t653⟩, A40, H⟩ := H
  replace H : ((laws_luSwap.f a0_2 a0_3).bind fun bt654 => (some (t652, t653, bt654.1, bt654.2))) = some (r1, r2, r3, r4) := H
  have A4 := Aside0.mk A40
  clear A40
  replace H := Option.bind_eq_some_iff.mp H
  obtain ⟨⟨t654, t655⟩, A50, H⟩ := H
  replace H : (some (t652, t653, t654, t655)) = some (r1, r2, r3, r4) := H
  have A5 := Aside0.mk A50
  clear A50
  simp only [Option.some.injEq, Prod.mk.injEq] at H
  obtain ⟨rfl, rfl, rfl, rfl⟩ := H
  go_enter Tryd.func39, Tryd.ntmps39
  try go_wp2_with (first | ((with_reducible refine gate_dst (N := 2) rfl ?_); refine box_event ?hg (N := 2) ?hd (cs := #[.int .i64 a0_0, .int .i64 a0_1, .int .i64 a0_2, .int .i64 a0_3]) (t := 40) ?hr ?_; (case hd => rfl); (case hg => rfl); (case hr => first | (go_simp; done) | (go_simp; rfl)); intro gb650 hg w6 hbox hb; have n0_ := Aside0.mk (below_step hB_ hb); have n1_ := Aside0.mk (hbox); have n2_ := Aside0.mk ((by rw [hg]; exact (below_size hB_) : w.heap.size ≤ gb650)); have n3_ := Aside0.mk ((by rw [hg]; exact (below_size hB_) : w.heap.size ≤ gb650)); clear HB; have HB := n0_; have BK650 := n1_; have GW650 := n2_; have GE650 := n3_; clear n0_ n1_ n2_ n3_; clear hb hbox hg) | ((with_reducible refine gate_dst (N := 4) rfl ?_); refine box_event ?hg (N := 4) ?hd (cs := #[.int .i64 0, .int .i64 0, .int .i64 0, .int .i64 0]) (t := 40) ?hr ?_; (case hd => rfl); (case hg => rfl); (case hr => first | (go_simp; done) | (go_simp; rfl)); intro gb651 hg w7 hbox hb; have n0_ := Aside0.mk (ub_ (g := gb650) hb); have n1_ := Aside0.mk (below_step hB_ hb); have n2_ := Aside0.mk (hbox); have n3_ := Aside0.mk ((by rw [hg]; exact (below_size hB_) : w.heap.size ≤ gb651)); have n4_ := Aside0.mk ((by rw [hg]; exact (below_size hB_) : w.heap.size ≤ gb651)); have n5_ := Aside0.mk ((by rw [hg]; exact Nat.ne_of_lt (blk_lt (g := gb650) (o := .cells #[.int .i64 a0_0, .int .i64 a0_1, .int .i64 a0_2, .int .i64 a0_3] 40 (0, 0)) uq_) : gb650 ≠ gb651)); have n6_ := Aside0.mk ((by rw [hg]; exact Nat.ne_of_gt (blk_lt (g := gb650) (o := .cells #[.int .i64 a0_0, .int .i64 a0_1, .int .i64 a0_2, .int .i64 a0_3] 40 (0, 0)) uq_) : gb651 ≠ gb650)); clear BK650; clear HB; have BK650 := n0_; have HB := n1_; have BK651 := n2_; have GW651 := n3_; have GE651 := n4_; have NB650_651 := n5_; have NB651_650 := n6_; clear n0_ n1_ n2_ n3_ n4_ n5_ n6_; clear hb hbox hg))
  have n0_ := Aside0.mk (blk_drew BK650.out)
  have n1_ := Aside0.mk (blk_drew BK651.out)
  have n2_ := Aside0.mk (below_drew1 HB.out)
  clear BK650 BK651 HB
  have BK650 := n0_
  have BK651 := n1_
  have HB := n2_
  clear n0_ n1_ n2_
  refine start_ (n := 8) (S := fun w' => w'.cell? ⟨gb650, 0, none⟩ = some (.int .i64 a0_0) ∧ w'.cell? ⟨gb650, 1, none⟩ = some (.int .i64 a0_1) ∧ w'.cell? ⟨gb650, 2, none⟩ = some (.int .i64 a0_2) ∧ w'.cell? ⟨gb650, 3, none⟩ = some (.int .i64 a0_3)) (ds := []) #[false, false, false, false, false, false, false, false] (by kernel_rfl) rfl rfl ⟨bc_, bc_, bc_, bc_⟩ (fun hHeld => ?_); refine with_tabW laws_luSeg.tab2 laws_luSeg.bits2 (fun HT_ HW_ => ?_)
  generalize w7.drew = w8 at BK650 BK651 HB hHeld ⊢
  refine pure_ (i := 0) (N := some 6) (v := ?_) (a' := ?_) (bm 8 1) rfl rfl (any_of HT_.out (by kernel_rfl)) (fun _ _ _ h => h) (Or.inl ⟨by rfl, ?_⟩) ?_ ?_
  rotate_left
  ·
   intro w'
   go_simp
   with_reducible rfl
  rotate_left
  ·
   simp only [Act.put, List.setIfInBounds_toArray, List.set_cons_zero, List.set_cons_succ, i64_w, i32_w]
   rfl
  refine pure_ (i := 3) (N := some 9) (v := ?_) (a' := ?_) (bm 8 9) rfl rfl (any_of HT_.out (by kernel_rfl)) (fun _ _ _ h => h) (Or.inl ⟨by rfl, ?_⟩) ?_ ?_
  rotate_left
  ·
   intro w'
   go_simp
   with_reducible rfl
  rotate_left
  ·
   simp only [Act.put, List.setIfInBounds_toArray, List.set_cons_zero, List.set_cons_succ, i64_w, i32_w]
   rfl
  refine take_ (i := 1) (N := some 7) (v := ?_) (a' := ?_) (bm 8 11) rfl rfl (take_ofW HT_.out HW_.out (by kernel_rfl)) (fun _ _ _ h => h) (Or.inl ⟨by rfl, ?_⟩) hHeld ?_ ?_
  rotate_left
  ·
   rintro w' ⟨s0, s1, s2, s3⟩
   go_simp
   with_reducible rfl
  rotate_left
  ·
   simp only [Act.put, List.setIfInBounds_toArray, List.set_cons_zero, List.set_cons_succ, i64_w, i32_w]
   rfl
  refine take_ (i := 4) (N := some 10) (v := ?_) (a' := ?_) (bm 8 27) rfl rfl (take_ofW HT_.out HW_.out (by kernel_rfl)) (fun _ _ _ h => h) (Or.inl ⟨by rfl, ?_⟩) hHeld ?_ ?_
  rotate_left
  ·
   rintro w' ⟨s0, s1, s2, s3⟩
   go_simp
   with_reducible rfl
  rotate_left
  ·
   simp only [Act.put, List.setIfInBounds_toArray, List.set_cons_zero, List.set_cons_succ, i64_w, i32_w]
   rfl
  refine one_ (i := 2) (N := some 8) (bm 8 31) rfl rfl (one_of HT_.out (by kernel_rfl)) (by decide) (fun K hK => ?_)
  refine goes_ Tryd.func65 (by kernel_rfl) rfl #[.agg #[.int .i64 a0_0, .int .i64 a0_1]] (by rfl) rfl rfl ma_ ?_
  with_reducible refine (laws_luSwap.calls a0_0 a0_1 t652 t653 _ A4.out).mono ?_
  rintro e w9 ⟨rfl, hb⟩
  refine ⟨_, rfl, ?_⟩
  have n0_ := Aside0.mk (ub_ (g := gb650) hb)
  have n1_ := Aside0.mk (ub_ (g := gb651) hb)
  have n2_ := Aside0.mk (below_step hB_ hb)
  clear BK650 BK651 HB
  have BK650 := n0_
  have BK651 := n1_
  have HB := n2_
  clear n0_ n1_ n2_
  (try clear hb)
  (try clear hb2)
  (try clear hk)
  (try clear hi)
  refine hK.out _ _ ⟨bc_, bc_, bc_, bc_⟩ (fun hHeld => ?_)
  clear hK K
  refine norm_ (a' := ?_) ?_ ?_
  rotate_left
  ·
   show Act.put _ (some 8) _ = _
   simp only [Act.put, List.setIfInBounds_toArray, List.set_cons_zero, List.set_cons_succ, i64_w, i32_w]
   rfl
  refine one_ (i := 5) (N := some 11) (bm 8 63) rfl rfl (one_of HT_.out (by kernel_rfl)) (by decide) (fun K hK => ?_)
  refine goes_ Tryd.func65 (by kernel_rfl) rfl #[.agg #[.int .i64 a0_2, .int .i64 a0_3]] (by rfl) rfl rfl ma_ ?_
  with_reducible refine (laws_luSwap.calls a0_2 a0_3 t654 t655 _ A5.out).mono ?_
  rintro e w10 ⟨rfl, hb⟩
  refine ⟨_, rfl, ?_⟩
  have n0_ := Aside0.mk (ub_ (g := gb650) hb)
  have n1_ := Aside0.mk (ub_ (g := gb651) hb)
  have n2_ := Aside0.mk (below_step hB_ hb)
  clear BK650 BK651 HB
  have BK650 := n0_
  have BK651 := n1_
  have HB := n2_
  clear n0_ n1_ n2_
  (try clear hb)
  (try clear hb2)
  (try clear hk)
  (try clear hi)
  refine hK.out _ _ ⟨bc_, bc_, bc_, bc_⟩ (fun hHeld => ?_)
  clear hK K
  refine norm_ (a' := ?_) ?_ ?_
  rotate_left
  ·
   show Act.put _ (some 11) _ = _
   simp only [Act.put, List.setIfInBounds_toArray, List.set_cons_zero, List.set_cons_succ, i64_w, i32_w]
   rfl
  refine pure_ (i := 6) (N := some 12) (v := ?_) (a' := ?_) (bm 8 127) rfl rfl (any_of HT_.out (by kernel_rfl)) (fun _ _ _ h => h) (Or.inl ⟨by rfl, ?_⟩) ?_ ?_
  rotate_left
  ·
   intro w'
   go_simp
   with_reducible rfl
  rotate_left
  ·
   simp only [Act.put, List.setIfInBounds_toArray, List.set_cons_zero, List.set_cons_succ, i64_w, i32_w]
   rfl
  refine one_ (i := 7) (N := none) (bm 8 255) rfl rfl (one_of HT_.out (by kernel_rfl)) (by decide) (fun K hK => ?_)
  have hs11 : w10.cell? ⟨gb651, 0, none⟩ = some (.int .i64 0) := bc_
  have hfs11 := blk_frozen BK651.out 0
  have hns11_0 := NB650_651.out
  have hms11_0 := NB651_650.out
  have hs12 : w10.cell? ⟨gb651, 1, none⟩ = some (.int .i64 0) := bc_
  have hfs12 := blk_frozen BK651.out 1
  have hns12_0 := NB650_651.out
  have hms12_0 := NB651_650.out
  have hs13 : w10.cell? ⟨gb651, 2, none⟩ = some (.int .i64 0) := bc_
  have hfs13 := blk_frozen BK651.out 2
  have hns13_0 := NB650_651.out
  have hms13_0 := NB651_650.out
  have hs14 : w10.cell? ⟨gb651, 3, none⟩ = some (.int .i64 0) := bc_
  have hfs14 := blk_frozen BK651.out 3
  have hns14_0 := NB650_651.out
  have hms14_0 := NB651_650.out
  refine skip_ (w1 := ?_) (by rfl) rfl ?_ ?_
  rotate_left
  ·
   go_simp
   rfl
  refine hK.out _ _ ⟨((cell_far (p := ⟨gb651, _, none⟩) NB650_651.out _).trans (((cell_far (p := ⟨gb651, _, none⟩) NB650_651.out _).trans (((cell_far (p := ⟨gb651, _, none⟩) NB650_651.out _).trans (((cell_far (p := ⟨gb651, _, none⟩) NB650_651.out _).trans (hHeld.1)))))))), ((cell_far (p := ⟨gb651, _, none⟩) NB650_651.out _).trans (((cell_far (p := ⟨gb651, _, none⟩) NB650_651.out _).trans (((cell_far (p := ⟨gb651, _, none⟩) NB650_651.out _).trans (((cell_far (p := ⟨gb651, _, none⟩) NB650_651.out _).trans (hHeld.2.1)))))))), ((cell_far (p := ⟨gb651, _, none⟩) NB650_651.out _).trans (((cell_far (p := ⟨gb651, _, none⟩) NB650_651.out _).trans (((cell_far (p := ⟨gb651, _, none⟩) NB650_651.out _).trans (((cell_far (p := ⟨gb651, _, none⟩) NB650_651.out _).trans (hHeld.2.2.1)))))))), ((cell_far (p := ⟨gb651, _, none⟩) NB650_651.out _).trans (((cell_far (p := ⟨gb651, _, none⟩) NB650_651.out _).trans (((cell_far (p := ⟨gb651, _, none⟩) NB650_651.out _).trans (((cell_far (p := ⟨gb651, _, none⟩) NB650_651.out _).trans (hHeld.2.2.2))))))))⟩ (fun hHeld => ?_)
  clear hK K
  refine done_ (done_of HT_.out (by kernel_rfl)) ?_
  try go_wp2
  refine bodyPost_ret (results_cell_row rfl _ _ gb651 40 #[.int .i64 t652, .int .i64 t653, .int .i64 t654, .int .i64 t655] (0, 0) _ rfl (by (with_reducible repeat (first | refine blk_drewN ?_ _ | refine blk_drew ?_ | refine blk_alloc ?_ _)); refine blk_put (cs := #[.int .i64 t652, .int .i64 t653, .int .i64 t654, .int .i64 0]) ?_ 3 _ rfl; (with_reducible repeat (first | refine blk_drewN ?_ _ | refine blk_drew ?_ | refine blk_alloc ?_ _)); refine blk_put (cs := #[.int .i64 t652, .int .i64 t653, .int .i64 0, .int .i64 0]) ?_ 2 _ rfl; (with_reducible repeat (first | refine blk_drewN ?_ _ | refine blk_drew ?_ | refine blk_alloc ?_ _)); refine blk_put (cs := #[.int .i64 t652, .int .i64 0, .int .i64 0, .int .i64 0]) ?_ 1 _ rfl; (with_reducible repeat (first | refine blk_drewN ?_ _ | refine blk_drew ?_ | refine blk_alloc ?_ _)); refine blk_put (cs := #[.int .i64 0, .int .i64 0, .int .i64 0, .int .i64 0]) ?_ 0 _ rfl; (with_reducible repeat (first | refine blk_drewN ?_ _ | refine blk_drew ?_ | refine blk_alloc ?_ _)); exact BK651.out) Tryd.underlying40 rfl (by kernel_rfl)) rfl ?_
  exact ⟨by first | rfl | (simp [errW_none, errW_some] <;> rfl) | (simp [*, errW_none, errW_some] <;> rfl), hB_⟩
 ·
  replace c3 := Bool.eq_false_iff.mpr c3
  subst c3
  have H1 : ((laws_luMirror.f a0_0 a0_1).bind fun bt656 => ((laws_luMirror.f a0_2 a0_3).bind fun bt658 => (some (bt656.1, bt656.2, bt658.1, bt658.2)))) = some (r1, r2, r3, r4) := by rw [if_neg (show ¬ (false = true) by decide)] at H; exact H
  clear H
  have H := H1
  clear H1
  replace H := Option.bind_eq_some_iff.mp H
  obtain ⟨⟨t656, t657⟩, A150, H⟩ := H
  replace H : ((laws_luMirror.f a0_2 a0_3).bind fun bt658 => (some (t656, t657, bt658.1, bt658.2))) = some (r1, r2, r3, r4) := H
  have A15 := Aside0.mk A150
  clear A150
  replace H := Option.bind_eq_some_iff.mp H
  obtain ⟨⟨t658, t659⟩, A160, H⟩ := H
  replace H : (some (t656, t657, t658, t659)) = some (r1, r2, r3, r4) := H
  have A16 := Aside0.mk A160
  clear A160
  simp only [Option.some.injEq, Prod.mk.injEq] at H
  obtain ⟨rfl, rfl, rfl, rfl⟩ := H
  go_enter Tryd.func39, Tryd.ntmps39
  try go_wp2_with (first | ((with_reducible refine gate_dst (N := 2) rfl ?_); refine box_event ?hg (N := 2) ?hd (cs := #[.int .i64 a0_0, .int .i64 a0_1, .int .i64 a0_2, .int .i64 a0_3]) (t := 40) ?hr ?_; (case hd => rfl); (case hg => rfl); (case hr => first | (go_simp; done) | (go_simp; rfl)); intro gb650 hg w17 hbox hb; have n0_ := Aside0.mk (below_step hB_ hb); have n1_ := Aside0.mk (hbox); have n2_ := Aside0.mk ((by rw [hg]; exact (below_size hB_) : w.heap.size ≤ gb650)); have n3_ := Aside0.mk ((by rw [hg]; exact (below_size hB_) : w.heap.size ≤ gb650)); clear HB; have HB := n0_; have BK650 := n1_; have GW650 := n2_; have GE650 := n3_; clear n0_ n1_ n2_ n3_; clear hb hbox hg) | ((with_reducible refine gate_dst (N := 4) rfl ?_); refine box_event ?hg (N := 4) ?hd (cs := #[.int .i64 0, .int .i64 0, .int .i64 0, .int .i64 0]) (t := 40) ?hr ?_; (case hd => rfl); (case hg => rfl); (case hr => first | (go_simp; done) | (go_simp; rfl)); intro gb651 hg w18 hbox hb; have n0_ := Aside0.mk (ub_ (g := gb650) hb); have n1_ := Aside0.mk (below_step hB_ hb); have n2_ := Aside0.mk (hbox); have n3_ := Aside0.mk ((by rw [hg]; exact (below_size hB_) : w.heap.size ≤ gb651)); have n4_ := Aside0.mk ((by rw [hg]; exact (below_size hB_) : w.heap.size ≤ gb651)); have n5_ := Aside0.mk ((by rw [hg]; exact Nat.ne_of_lt (blk_lt (g := gb650) (o := .cells #[.int .i64 a0_0, .int .i64 a0_1, .int .i64 a0_2, .int .i64 a0_3] 40 (0, 0)) uq_) : gb650 ≠ gb651)); have n6_ := Aside0.mk ((by rw [hg]; exact Nat.ne_of_gt (blk_lt (g := gb650) (o := .cells #[.int .i64 a0_0, .int .i64 a0_1, .int .i64 a0_2, .int .i64 a0_3] 40 (0, 0)) uq_) : gb651 ≠ gb650)); clear BK650; clear HB; have BK650 := n0_; have HB := n1_; have BK651 := n2_; have GW651 := n3_; have GE651 := n4_; have NB650_651 := n5_; have NB651_650 := n6_; clear n0_ n1_ n2_ n3_ n4_ n5_ n6_; clear hb hbox hg))
  have n0_ := Aside0.mk (blk_drew BK650.out)
  have n1_ := Aside0.mk (blk_drew BK651.out)
  have n2_ := Aside0.mk (below_drew1 HB.out)
  clear BK650 BK651 HB
  have BK650 := n0_
  have BK651 := n1_
  have HB := n2_
  clear n0_ n1_ n2_
  refine start_ (n := 8) (S := fun w' => w'.cell? ⟨gb650, 0, none⟩ = some (.int .i64 a0_0) ∧ w'.cell? ⟨gb650, 1, none⟩ = some (.int .i64 a0_1) ∧ w'.cell? ⟨gb650, 2, none⟩ = some (.int .i64 a0_2) ∧ w'.cell? ⟨gb650, 3, none⟩ = some (.int .i64 a0_3)) (ds := []) #[false, false, false, false, false, false, false, false] (by kernel_rfl) rfl rfl ⟨bc_, bc_, bc_, bc_⟩ (fun hHeld => ?_); refine with_tabW laws_luSeg.tab3 laws_luSeg.bits3 (fun HT_ HW_ => ?_)
  generalize w18.drew = w19 at BK650 BK651 HB hHeld ⊢
  refine pure_ (i := 0) (N := some 13) (v := ?_) (a' := ?_) (bm 8 1) rfl rfl (any_of HT_.out (by kernel_rfl)) (fun _ _ _ h => h) (Or.inl ⟨by rfl, ?_⟩) ?_ ?_
  rotate_left
  ·
   intro w'
   go_simp
   with_reducible rfl
  rotate_left
  ·
   simp only [Act.put, List.setIfInBounds_toArray, List.set_cons_zero, List.set_cons_succ, i64_w, i32_w]
   rfl
  refine pure_ (i := 3) (N := some 16) (v := ?_) (a' := ?_) (bm 8 9) rfl rfl (any_of HT_.out (by kernel_rfl)) (fun _ _ _ h => h) (Or.inl ⟨by rfl, ?_⟩) ?_ ?_
  rotate_left
  ·
   intro w'
   go_simp
   with_reducible rfl
  rotate_left
  ·
   simp only [Act.put, List.setIfInBounds_toArray, List.set_cons_zero, List.set_cons_succ, i64_w, i32_w]
   rfl
  refine take_ (i := 1) (N := some 14) (v := ?_) (a' := ?_) (bm 8 11) rfl rfl (take_ofW HT_.out HW_.out (by kernel_rfl)) (fun _ _ _ h => h) (Or.inl ⟨by rfl, ?_⟩) hHeld ?_ ?_
  rotate_left
  ·
   rintro w' ⟨s0, s1, s2, s3⟩
   go_simp
   with_reducible rfl
  rotate_left
  ·
   simp only [Act.put, List.setIfInBounds_toArray, List.set_cons_zero, List.set_cons_succ, i64_w, i32_w]
   rfl
  refine take_ (i := 4) (N := some 17) (v := ?_) (a' := ?_) (bm 8 27) rfl rfl (take_ofW HT_.out HW_.out (by kernel_rfl)) (fun _ _ _ h => h) (Or.inl ⟨by rfl, ?_⟩) hHeld ?_ ?_
  rotate_left
  ·
   rintro w' ⟨s0, s1, s2, s3⟩
   go_simp
   with_reducible rfl
  rotate_left
  ·
   simp only [Act.put, List.setIfInBounds_toArray, List.set_cons_zero, List.set_cons_succ, i64_w, i32_w]
   rfl
  refine one_ (i := 2) (N := some 15) (bm 8 31) rfl rfl (one_of HT_.out (by kernel_rfl)) (by decide) (fun K hK => ?_)
  refine goes_ Tryd.func66 (by kernel_rfl) rfl #[.agg #[.int .i64 a0_0, .int .i64 a0_1]] (by rfl) rfl rfl ma_ ?_
  with_reducible refine (laws_luMirror.calls a0_0 a0_1 t656 t657 _ A15.out).mono ?_
  rintro e w20 ⟨rfl, hb⟩
  refine ⟨_, rfl, ?_⟩
  have n0_ := Aside0.mk (ub_ (g := gb650) hb)
  have n1_ := Aside0.mk (ub_ (g := gb651) hb)
  have n2_ := Aside0.mk (below_step hB_ hb)
  clear BK650 BK651 HB
  have BK650 := n0_
  have BK651 := n1_
  have HB := n2_
  clear n0_ n1_ n2_
  (try clear hb)
  (try clear hb2)
  (try clear hk)
  (try clear hi)
  refine hK.out _ _ ⟨bc_, bc_, bc_, bc_⟩ (fun hHeld => ?_)
  clear hK K
  refine norm_ (a' := ?_) ?_ ?_
  rotate_left
  ·
   show Act.put _ (some 15) _ = _
   simp only [Act.put, List.setIfInBounds_toArray, List.set_cons_zero, List.set_cons_succ, i64_w, i32_w]
   rfl
  refine one_ (i := 5) (N := some 18) (bm 8 63) rfl rfl (one_of HT_.out (by kernel_rfl)) (by decide) (fun K hK => ?_)
  refine goes_ Tryd.func66 (by kernel_rfl) rfl #[.agg #[.int .i64 a0_2, .int .i64 a0_3]] (by rfl) rfl rfl ma_ ?_
  with_reducible refine (laws_luMirror.calls a0_2 a0_3 t658 t659 _ A16.out).mono ?_
  rintro e w21 ⟨rfl, hb⟩
  refine ⟨_, rfl, ?_⟩
  have n0_ := Aside0.mk (ub_ (g := gb650) hb)
  have n1_ := Aside0.mk (ub_ (g := gb651) hb)
  have n2_ := Aside0.mk (below_step hB_ hb)
  clear BK650 BK651 HB
  have BK650 := n0_
  have BK651 := n1_
  have HB := n2_
  clear n0_ n1_ n2_
  (try clear hb)
  (try clear hb2)
  (try clear hk)
  (try clear hi)
  refine hK.out _ _ ⟨bc_, bc_, bc_, bc_⟩ (fun hHeld => ?_)
  clear hK K
  refine norm_ (a' := ?_) ?_ ?_
  rotate_left
  ·
   show Act.put _ (some 18) _ = _
   simp only [Act.put, List.setIfInBounds_toArray, List.set_cons_zero, List.set_cons_succ, i64_w, i32_w]
   rfl
  refine pure_ (i := 6) (N := some 19) (v := ?_) (a' := ?_) (bm 8 127) rfl rfl (any_of HT_.out (by kernel_rfl)) (fun _ _ _ h => h) (Or.inl ⟨by rfl, ?_⟩) ?_ ?_
  rotate_left
  ·
   intro w'
   go_simp
   with_reducible rfl
  rotate_left
  ·
   simp only [Act.put, List.setIfInBounds_toArray, List.set_cons_zero, List.set_cons_succ, i64_w, i32_w]
   rfl
  refine one_ (i := 7) (N := none) (bm 8 255) rfl rfl (one_of HT_.out (by kernel_rfl)) (by decide) (fun K hK => ?_)
  have hs22 : w21.cell? ⟨gb651, 0, none⟩ = some (.int .i64 0) := bc_
  have hfs22 := blk_frozen BK651.out 0
  have hns22_0 := NB650_651.out
  have hms22_0 := NB651_650.out
  have hs23 : w21.cell? ⟨gb651, 1, none⟩ = some (.int .i64 0) := bc_
  have hfs23 := blk_frozen BK651.out 1
  have hns23_0 := NB650_651.out
  have hms23_0 := NB651_650.out
  have hs24 : w21.cell? ⟨gb651, 2, none⟩ = some (.int .i64 0) := bc_
  have hfs24 := blk_frozen BK651.out 2
  have hns24_0 := NB650_651.out
  have hms24_0 := NB651_650.out
  have hs25 : w21.cell? ⟨gb651, 3, none⟩ = some (.int .i64 0) := bc_
  have hfs25 := blk_frozen BK651.out 3
  have hns25_0 := NB650_651.out
  have hms25_0 := NB651_650.out
  refine skip_ (w1 := ?_) (by rfl) rfl ?_ ?_
  rotate_left
  ·
   go_simp
   rfl
  refine hK.out _ _ ⟨((cell_far (p := ⟨gb651, _, none⟩) NB650_651.out _).trans (((cell_far (p := ⟨gb651, _, none⟩) NB650_651.out _).trans (((cell_far (p := ⟨gb651, _, none⟩) NB650_651.out _).trans (((cell_far (p := ⟨gb651, _, none⟩) NB650_651.out _).trans (hHeld.1)))))))), ((cell_far (p := ⟨gb651, _, none⟩) NB650_651.out _).trans (((cell_far (p := ⟨gb651, _, none⟩) NB650_651.out _).trans (((cell_far (p := ⟨gb651, _, none⟩) NB650_651.out _).trans (((cell_far (p := ⟨gb651, _, none⟩) NB650_651.out _).trans (hHeld.2.1)))))))), ((cell_far (p := ⟨gb651, _, none⟩) NB650_651.out _).trans (((cell_far (p := ⟨gb651, _, none⟩) NB650_651.out _).trans (((cell_far (p := ⟨gb651, _, none⟩) NB650_651.out _).trans (((cell_far (p := ⟨gb651, _, none⟩) NB650_651.out _).trans (hHeld.2.2.1)))))))), ((cell_far (p := ⟨gb651, _, none⟩) NB650_651.out _).trans (((cell_far (p := ⟨gb651, _, none⟩) NB650_651.out _).trans (((cell_far (p := ⟨gb651, _, none⟩) NB650_651.out _).trans (((cell_far (p := ⟨gb651, _, none⟩) NB650_651.out _).trans (hHeld.2.2.2))))))))⟩ (fun hHeld => ?_)
  clear hK K
  refine done_ (done_of HT_.out (by kernel_rfl)) ?_
  try go_wp2
  refine bodyPost_ret (results_cell_row rfl _ _ gb651 40 #[.int .i64 t656, .int .i64 t657, .int .i64 t658, .int .i64 t659] (0, 0) _ rfl (by (with_reducible repeat (first | refine blk_drewN ?_ _ | refine blk_drew ?_ | refine blk_alloc ?_ _)); refine blk_put (cs := #[.int .i64 t656, .int .i64 t657, .int .i64 t658, .int .i64 0]) ?_ 3 _ rfl; (with_reducible repeat (first | refine blk_drewN ?_ _ | refine blk_drew ?_ | refine blk_alloc ?_ _)); refine blk_put (cs := #[.int .i64 t656, .int .i64 t657, .int .i64 0, .int .i64 0]) ?_ 2 _ rfl; (with_reducible repeat (first | refine blk_drewN ?_ _ | refine blk_drew ?_ | refine blk_alloc ?_ _)); refine blk_put (cs := #[.int .i64 t656, .int .i64 0, .int .i64 0, .int .i64 0]) ?_ 1 _ rfl; (with_reducible repeat (first | refine blk_drewN ?_ _ | refine blk_drew ?_ | refine blk_alloc ?_ _)); refine blk_put (cs := #[.int .i64 0, .int .i64 0, .int .i64 0, .int .i64 0]) ?_ 0 _ rfl; (with_reducible repeat (first | refine blk_drewN ?_ _ | refine blk_drew ?_ | refine blk_alloc ?_ _)); exact BK651.out) Tryd.underlying40 rfl (by kernel_rfl)) rfl ?_
  exact ⟨by first | rfl | (simp [errW_none, errW_some] <;> rfl) | (simp [*, errW_none, errW_some] <;> rfl), hB_⟩
end Go.Proofs.YtnponnkcfgjeoaaDoor.X
end
section
namespace Go.Proofs.YtnponnkcfgjeoaaDoor.X
open Go.RowKit Go.Proofs.YtnponnkcfgjeoaaDoorW.PrintWords Go.Proofs.YtnponnkcfgjeoaaDoorW.PrintLast Go.Proofs.YtnponnkcfgjeoaaDoorW.PrintMore
attribute [local go_sem] max2_int min2_int max_two min_two max_three min_three max_four min_four
set_option linter.unusedVariables false
set_option linter.unusedSimpArgs false
attribute [local go_sem high] eqA25
def laws_luZero.f (a0_0 : Int) (a0_1 : Int) : Option (Bool) := some (a0_0 == 0 && (a0_1 == 1))
set_option maxHeartbeats 8000000 in
set_option maxRecDepth 100000 in
theorem laws_luZero.calls (a0_0 : Int) (a0_1 : Int) (r : Bool) (w : World) (h : laws_luZero.f a0_0 a0_1 = some r) :
  Calls Tryd.prog 38 #[.agg #[.int .i64 a0_0, .int .i64 a0_1]] w fun e w' => e = .returned (.bool r) ∧ Below w.heap.size w w' := by
 have hu25 := Tryd.underlying25
 have HB := Aside0.mk (Below.refl w.heap.size w)
 have H : (some (a0_0 == 0 && (a0_1 == 1))) = some r := h
 clear h
 obtain rfl := Option.some.inj H
 go_enter Tryd.func38, Tryd.ntmps38
 go_wp2_with (first | ((with_reducible refine gate_dst (N := 1) rfl ?_); refine box_event ?hg (N := 1) ?hd (cs := #[.int .i64 a0_0, .int .i64 a0_1]) (t := 25) ?hr ?_; (case hd => rfl); (case hg => rfl); (case hr => first | (go_simp; done) | (go_simp; rfl)); intro gb645 hg w2 hbox hb; have n0_ := Aside0.mk (below_step hB_ hb); have n1_ := Aside0.mk (hbox); have n2_ := Aside0.mk ((by rw [hg]; exact (below_size hB_) : w.heap.size ≤ gb645)); have n3_ := Aside0.mk ((by rw [hg]; exact (below_size hB_) : w.heap.size ≤ gb645)); clear HB; have HB := n0_; have BK645 := n1_; have GW645 := n2_; have GE645 := n3_; clear n0_ n1_ n2_ n3_; clear hb hbox hg; have hcz3_0 : w2.cell? ⟨gb645, 0, none⟩ = some (.int .i64 a0_0) := bc_; have hcz3_1 : w2.cell? ⟨gb645, 1, none⟩ = some (.int .i64 a0_1) := bc_; have hfz3_0 := blk_frozen BK645.out 0; have hfz3_1 := blk_frozen BK645.out 1))
 go_ret
 exact ⟨by first | rfl | (simp [errW_none, errW_some] <;> rfl) | (simp [*, errW_none, errW_some] <;> rfl), hB_⟩
end Go.Proofs.YtnponnkcfgjeoaaDoor.X
end
section
namespace Go.Proofs.YtnponnkcfgjeoaaDoor.X
open Go.RowKit Go.Proofs.YtnponnkcfgjeoaaDoorW.PrintWords Go.Proofs.YtnponnkcfgjeoaaDoorW.PrintLast Go.Proofs.YtnponnkcfgjeoaaDoorW.PrintMore
attribute [local go_sem] max2_int min2_int max_two min_two max_three min_three max_four min_four
set_option linter.unusedVariables false
set_option linter.unusedSimpArgs false
/-- A state of type 96 at block g of W; what its slices lead to came in by w0. -/
def IsS96 (w0 W : World) (g : Nat) (f0 : List Int) (f1 : Int) : Prop := ∃ A0 c0, W.heap[g]? = some (.cells #[.slice A0 f0.length c0, .int .i64 f1] 96 (0, 0)) ∧ w0.heap.size ≤ g ∧ Kd.C (Kd.int .u8) w0 A0 f0.length f0
theorem IsS96.grown {w0 W : World} {g : Nat} {f0 : List Int} {f1 : Int} {W1 : World} {row : Option Nat} (h : IsS96 w0 W g f0 f1) (hw : W.grownBy W1 row) (hne : some g ≠ row) : IsS96 w0 W1 g f0 f1 := by
 obtain ⟨A0, c0, hb, hg, hr0⟩ := h
 exact ⟨A0, c0, blk_grown hb hw hne, hg, hr0⟩
theorem IsS96.kept {w0 W : World} {g : Nat} {f0 : List Int} {f1 : Int} {W1 : World} {S : Nat → Prop} (h : IsS96 w0 W g f0 f1) (hk : Kept W W1 S) (hne : ¬ S g) : IsS96 w0 W1 g f0 f1 := by
 obtain ⟨A0, c0, hb, hg, hr0⟩ := h
 exact ⟨A0, c0, blk_kept hb hk hne, hg, hr0⟩
theorem IsS96.below {w0 W : World} {g : Nat} {f0 : List Int} {f1 : Int} {W1 : World} (h : IsS96 w0 W g f0 f1) (hw : Below W.heap.size W W1) : IsS96 w0 W1 g f0 f1 := h.grown (grown_of_below hw none) (by simp)
theorem IsS96.alloc {w0 W : World} {g : Nat} {f0 : List Int} {f1 : Int} (h : IsS96 w0 W g f0 f1) (o : Obj) : IsS96 w0 (W.alloc o) g f0 f1 := h.below (below_alloc (Below.refl _ _) o)
theorem IsS96.drewN {w0 W : World} {g : Nat} {f0 : List Int} {f1 : Int} (h : IsS96 w0 W g f0 f1) (m : Nat) : IsS96 w0 (W.drewN m) g f0 f1 := h
theorem IsS96.drew {w0 W : World} {g : Nat} {f0 : List Int} {f1 : Int} (h : IsS96 w0 W g f0 f1) : IsS96 w0 W.drew g f0 f1 := h
theorem IsS96.at_ {w0 W : World} {g : Nat} {f0 : List Int} {f1 : Int} {w' : World} {m : Nat} (hq : W.drewN m = w') (h : IsS96 w0 W g f0 f1) : IsS96 w0 w' g f0 f1 := by subst hq; exact IsS96.drewN h m
theorem IsS96.apart {w0 W : World} {g : Nat} {f0 : List Int} {f1 : Int} {α : Type} {d : Kd α} {e : Nat} {base : Nat} {ok : Nat → Prop} {v : Value} {xs : List α} (h : IsS96 w0 W g f0 f1) (ho : d.R e W base ok v xs) (ht : ∀ q, q ∈ e :: d.E → q ≠ 96) : d.R e W base (fun k => ok k ∧ k ≠ g) v xs := by
 obtain ⟨A0, c0, hb, hg, hr0⟩ := h
 exact Kd.R_types ho hb ht
theorem IsS96.lt {w0 W : World} {g : Nat} {f0 : List Int} {f1 : Int} (h : IsS96 w0 W g f0 f1) : g < W.heap.size := by
 obtain ⟨A0, c0, hb, hg, hr0⟩ := h
 exact blk_lt hb
theorem IsS96.ge {w0 W : World} {g : Nat} {f0 : List Int} {f1 : Int} (h : IsS96 w0 W g f0 f1) : w0.heap.size ≤ g := by
 obtain ⟨A0, c0, hb, hg, hr0⟩ := h
 exact hg
theorem IsS96.ne_blk {w0 W : World} {g : Nat} {f0 : List Int} {f1 : Int} {a : Nat} {cs : Array Value} {t : TypeId} {fr : Nat × Nat} (h : IsS96 w0 W g f0 f1) (hb2 : W.heap[a]? = some (.cells cs t fr)) (ht : t ≠ 96) : g ≠ a := by
 obtain ⟨A0, c0, hb, hg, hr0⟩ := h
 rintro rfl
 rw [hb] at hb2
 injection hb2 with hb2
 injection hb2 with _ ht2
 exact ht ht2.symm
theorem IsS96.far {w0 W : World} {g : Nat} {f0 : List Int} {f1 : Int} {p : Addr} (h : IsS96 w0 W g f0 f1) (hne : g ≠ p.block) (u : Value) : IsS96 w0 (W.setCell p u) g f0 f1 := by
 obtain ⟨A0, c0, hb, hg, hr0⟩ := h
 exact ⟨A0, c0, blk_far hb hne u, hg, hr0⟩
theorem cellS96_0 {W : World} {g : Nat} {A0 : Option Addr} {c0 : Nat} {f0 : List Int} {f1 : Int} (h : W.heap[g]? = some (.cells #[.slice A0 f0.length c0, .int .i64 f1] 96 (0, 0))) : W.cell? ⟨g, 0, none⟩ = some (.slice A0 f0.length c0) := (blk_cell h 0).trans rfl
theorem cellS96_1 {W : World} {g : Nat} {A0 : Option Addr} {c0 : Nat} {f0 : List Int} {f1 : Int} (h : W.heap[g]? = some (.cells #[.slice A0 f0.length c0, .int .i64 f1] 96 (0, 0))) : W.cell? ⟨g, 1, none⟩ = some (.int .i64 f1) := (blk_cell h 1).trans rfl
theorem IsS96.set_1 {w0 W : World} {g : Nat} {f0 : List Int} {f1 : Int} (h : IsS96 w0 W g f0 f1) (x : Int) : IsS96 w0 (W.setCell ⟨g, 1, none⟩ (.int .i64 x)) g f0 x := by
 obtain ⟨A0, c0, hb, hg, hr0⟩ := h
 exact ⟨A0, c0, by simpa using blk_set hb 1 (.int .i64 x), hg, hr0⟩
def spec_l6Rd_pick.j0 : Nat → Int → Bool → List Int → Int → Option (Int × Int)
 | 0, _, _, _, _ => none
 | k + 1, x1, x24, x1000, x1001 => if x24 = true then (some (0, x1001)) else (if (wrap64 (x1001 - 1)) < (x1000.length : Int) then (if 0 ≤ (wrap64 (x1001 - 1)) then (if x1 = 0 then (none) else (some (Int.tmod (wrap64 (rd x1000 (wrap64 (x1001 - 1)))) x1, x1001))) else (none)) else (if (x1000.length : Int) = 0 then (none) else (if 0 ≤ (Int.tmod (wrap64 (x1001 - 1)) (x1000.length : Int)) then (if (Int.tmod (wrap64 (x1001 - 1)) (x1000.length : Int)) < (x1000.length : Int) then (if 0 ≤ (Int.tmod (wrap64 ((wrap64 ((wrap64 (x1001 - 1)) * 7)) + 3)) (x1000.length : Int)) then (if (Int.tmod (wrap64 ((wrap64 ((wrap64 (x1001 - 1)) * 7)) + 3)) (x1000.length : Int)) < (x1000.length : Int) then (if x1 = 0 then (none) else (some (Int.tmod (Go.bits .xor .i64 (wrap64 ((wrap64 ((wrap64 ((wrap64 ((wrap64 (rd x1000 (Int.tmod (wrap64 (x1001 - 1)) (x1000.length : Int)))) * 131)) + (wrap64 ((wrap64 (rd x1000 (Int.tmod (wrap64 ((wrap64 ((wrap64 (x1001 - 1)) * 7)) + 3)) (x1000.length : Int)))) * 1117)))) + (wrap64 ((wrap64 (x1001 - 1)) * 29)))) + (wrap64 ((wrap64 (Int.tdiv (wrap64 (x1001 - 1)) (x1000.length : Int))) * 53)))) (wrap64 (Int.tdiv (wrap64 ((wrap64 ((wrap64 ((wrap64 ((wrap64 (rd x1000 (Int.tmod (wrap64 (x1001 - 1)) (x1000.length : Int)))) * 131)) + (wrap64 ((wrap64 (rd x1000 (Int.tmod (wrap64 ((wrap64 ((wrap64 (x1001 - 1)) * 7)) + 3)) (x1000.length : Int)))) * 1117)))) + (wrap64 ((wrap64 (x1001 - 1)) * 29)))) + (wrap64 ((wrap64 (Int.tdiv (wrap64 (x1001 - 1)) (x1000.length : Int))) * 53)))) 64))) x1, x1001))) else (none)) else (none)) else (none)) else (none))))
def spec_l6Rd_pick.f (k : Nat) (s0_0 : List Int) (s0_1 : Int) (a1 : Int) : Option (Int × Int) := if a1 < 1 then (spec_l6Rd_pick.j0 k a1 true s0_0 (wrap64 (s0_1 + 1))) else (spec_l6Rd_pick.j0 k a1 ((s0_0.length : Int) == 0) s0_0 (wrap64 (s0_1 + 1)))
set_option maxHeartbeats 8000000 in
set_option maxRecDepth 100000 in
theorem spec_l6Rd_pick.calls (k : Nat) (g : Nat) (s0_0 : List Int) (s0_1 : Int) (a1 : Int) (r1 : Int) (r2 : Int) (w0 w : World) (hI : IsS96 w0 w g s0_0 s0_1) (hB : Below w0.heap.size w0 w) (h : spec_l6Rd_pick.f k s0_0 s0_1 a1 = some (r1, r2)) :
  Calls Tryd.prog 48 #[.pointer (some ⟨g, 0, none⟩), .int .i64 a1] w fun e w' => e = .returned (.int .i64 r1) ∧ IsS96 w0 w' g s0_0 r2 ∧ Below w0.heap.size w0 w' ∧ KeepBut w w' g none := by
 have HI0 := Aside0.mk hI
 have HK := Aside0.mk (KeepBut.refl w g none)
 have HL := Aside0.mk hB.size
 clear hI
 have HW0 := Aside0.mk hB.size
 have HB := Aside0.mk hB
 clear hB
 have H : (if a1 < 1 then (spec_l6Rd_pick.j0 k a1 true s0_0 (wrap64 (s0_1 + 1))) else (spec_l6Rd_pick.j0 k a1 ((s0_0.length : Int) == 0) s0_0 (wrap64 (s0_1 + 1)))) = some (r1, r2) := h
 clear h
 have HC3 := Aside0.mk H
 clear H
 obtain ⟨ASz4_0, cSz4_0, HGz4, hgz4, HSz4_0⟩ := HI0.out
 have hcz4_0 := cellS96_0 HGz4
 have hcz4_1 := cellS96_1 HGz4
 have hfz4_1 := blk_frozen HGz4 1
 clear HGz4 hgz4
 go_enter Tryd.func48, Tryd.ntmps48
 go_upto_region 2 with (fail)
 repeat (go_quiet (fail); go_upto_region 2 with (fail))
 go_cut [24] (fun v24 wc => ∃ (kq : Nat) (x24_2 : Bool), v24 = .bool x24_2 ∧ Aside0 (spec_l6Rd_pick.j0 kq a1 x24_2 s0_0 (wrap64 (s0_1 + 1)) = some (r1, r2)) ∧ Aside0 (kq ≤ k) ∧ Aside0 (IsS96 w0 wc g s0_0 (wrap64 (s0_1 + 1))) ∧ Aside0 (KeepBut w wc g none) ∧ Aside0 (Below w0.heap.size w0 wc))
 case first =>
  have H := HC3.out
  clear HC3
  by_cases c5 : a1 < 1
  ·
   rw [if_pos c5] at H
   have c5b0 : decide (a1 < 1) = true := decide_eq_true c5
   clear c5
   (first | rw [c5b0] | (simp only [i64_w, i32_w]; rw [c5b0]) | skip)
   have H' := Aside0.mk H
   clear H
   go_wp2
   repeat (go_quiet (fail); try go_wp2)
   go_meet
   case rel => exact ⟨_, (true), (by first | rfl | (simp; done) | (simp [*]; done)), H', ⟨by first | omega | exact Nat.le_refl _⟩, ⟨by repeat (first | (with_reducible first | exact HI0.out | apply IsS96.alloc | apply IsS96.drewN | apply IsS96.drew | apply IsS96.set_1) | exact HI0.out)⟩, ⟨by repeat (first | (with_reducible first | exact HK.out | apply KeepBut.set_ | apply keep_drewN | apply keep_drew | apply keep_alloc) | exact HK.out)⟩, ⟨by repeat (first | (with_reducible first | exact HB.out | apply below_alloc | apply pw_below_drewN | apply below_drew1 | refine below_set ?_ (IsS96.ge HI0.out)) | exact HB.out)⟩⟩
  ·
   rw [if_neg c5] at H
   have c5b0 : decide (a1 < 1) = false := decide_eq_false c5
   clear c5
   (first | rw [c5b0] | (simp only [i64_w, i32_w]; rw [c5b0]) | skip)
   have H' := Aside0.mk H
   clear H
   obtain ⟨ASz6_0, cSz6_0, HGz6, hgz6, HSz6_0⟩ := HI0.out
   have hcz6_0 := cellS96_0 HGz6
   have hcz6_1 := cellS96_1 HGz6
   have hfz6_1 := blk_frozen HGz6 1
   clear HGz6 hgz6
   go_wp2
   repeat (go_quiet (fail); try go_wp2)
   go_meet
   case rel => exact ⟨_, (((s0_0.length : Int) == 0)), (by first | rfl | (simp; done) | (simp [*]; done)), H', ⟨by first | omega | exact Nat.le_refl _⟩, ⟨by repeat (first | (with_reducible first | exact HI0.out | apply IsS96.alloc | apply IsS96.drewN | apply IsS96.drew | apply IsS96.set_1) | exact HI0.out)⟩, ⟨by repeat (first | (with_reducible first | exact HK.out | apply KeepBut.set_ | apply keep_drewN | apply keep_drew | apply keep_alloc) | exact HK.out)⟩, ⟨by repeat (first | (with_reducible first | exact HB.out | apply below_alloc | apply pw_below_drewN | apply below_drew1 | refine below_set ?_ (IsS96.ge HI0.out)) | exact HB.out)⟩⟩
 case rest =>
  clear HC3
  try clear p2
  try clear c4
  try clear c5
  try clear c5b0
  try clear p6
  try clear hcz4_0
  try clear hcz4_1
  try clear hcz6_0
  try clear hcz6_1
  try clear hfz4_1
  try clear hfz6_1
  obtain ⟨kq, x24_2, rfl, HA, HJ2, HI0, HK, HB⟩ := hcut
  cases kq with
  | zero => exact absurd HA.out (by simp [spec_l6Rd_pick.j0])
  | succ kj2 =>
   have H := HA.out
   clear HA
   simp only [spec_l6Rd_pick.j0] at H
   by_cases c7 : x24_2 = true
   ·
    subst c7
    have H1 : (some (0, (wrap64 (s0_1 + 1)))) = some (r1, r2) := by rw [if_pos rfl] at H; exact H
    clear H
    have H := H1
    clear H1
    simp only [Option.some.injEq, Prod.mk.injEq] at H
    obtain ⟨rfl, rfl⟩ := H
    go_wp2
    repeat (go_quiet (fail); try go_wp2)
    go_ret
    exact ⟨by first | rfl | (simp [errW_none, errW_some] <;> rfl) | (simp [*, errW_none, errW_some] <;> rfl), by repeat (first | (with_reducible first | exact HI0.out | apply IsS96.alloc | apply IsS96.drewN | apply IsS96.drew | apply IsS96.set_1) | exact HI0.out), by repeat (first | (with_reducible first | exact HB.out | apply below_alloc | apply pw_below_drewN | apply below_drew1 | refine below_set ?_ (IsS96.ge HI0.out)) | exact HB.out), by repeat (first | (with_reducible first | exact HK.out | apply KeepBut.set_ | apply keep_drewN | apply keep_drew | apply keep_alloc) | exact HK.out)⟩
   ·
    replace c7 := Bool.eq_false_iff.mpr c7
    subst c7
    have H1 : (if (wrap64 ((wrap64 (s0_1 + 1)) - 1)) < (s0_0.length : Int) then (if 0 ≤ (wrap64 ((wrap64 (s0_1 + 1)) - 1)) then (if a1 = 0 then (none) else (some (Int.tmod (wrap64 (rd s0_0 (wrap64 ((wrap64 (s0_1 + 1)) - 1)))) a1, (wrap64 (s0_1 + 1))))) else (none)) else (if (s0_0.length : Int) = 0 then (none) else (if 0 ≤ (Int.tmod (wrap64 ((wrap64 (s0_1 + 1)) - 1)) (s0_0.length : Int)) then (if (Int.tmod (wrap64 ((wrap64 (s0_1 + 1)) - 1)) (s0_0.length : Int)) < (s0_0.length : Int) then (if 0 ≤ (Int.tmod (wrap64 ((wrap64 ((wrap64 ((wrap64 (s0_1 + 1)) - 1)) * 7)) + 3)) (s0_0.length : Int)) then (if (Int.tmod (wrap64 ((wrap64 ((wrap64 ((wrap64 (s0_1 + 1)) - 1)) * 7)) + 3)) (s0_0.length : Int)) < (s0_0.length : Int) then (if a1 = 0 then (none) else (some (Int.tmod (Go.bits .xor .i64 (wrap64 ((wrap64 ((wrap64 ((wrap64 ((wrap64 (rd s0_0 (Int.tmod (wrap64 ((wrap64 (s0_1 + 1)) - 1)) (s0_0.length : Int)))) * 131)) + (wrap64 ((wrap64 (rd s0_0 (Int.tmod (wrap64 ((wrap64 ((wrap64 ((wrap64 (s0_1 + 1)) - 1)) * 7)) + 3)) (s0_0.length : Int)))) * 1117)))) + (wrap64 ((wrap64 ((wrap64 (s0_1 + 1)) - 1)) * 29)))) + (wrap64 ((wrap64 (Int.tdiv (wrap64 ((wrap64 (s0_1 + 1)) - 1)) (s0_0.length : Int))) * 53)))) (wrap64 (Int.tdiv (wrap64 ((wrap64 ((wrap64 ((wrap64 ((wrap64 (rd s0_0 (Int.tmod (wrap64 ((wrap64 (s0_1 + 1)) - 1)) (s0_0.length : Int)))) * 131)) + (wrap64 ((wrap64 (rd s0_0 (Int.tmod (wrap64 ((wrap64 ((wrap64 ((wrap64 (s0_1 + 1)) - 1)) * 7)) + 3)) (s0_0.length : Int)))) * 1117)))) + (wrap64 ((wrap64 ((wrap64 (s0_1 + 1)) - 1)) * 29)))) + (wrap64 ((wrap64 (Int.tdiv (wrap64 ((wrap64 (s0_1 + 1)) - 1)) (s0_0.length : Int))) * 53)))) 64))) a1, (wrap64 (s0_1 + 1))))) else (none)) else (none)) else (none)) else (none)))) = some (r1, r2) := by rw [if_neg (show ¬ (false = true) by decide)] at H; exact H
    clear H
    have H := H1
    clear H1
    by_cases c8 : (wrap64 ((wrap64 (s0_1 + 1)) - 1)) < (s0_0.length : Int)
    ·
     rw [if_pos c8] at H
     have c8b0 : decide ((wrap64 ((wrap64 (s0_1 + 1)) - 1)) < (s0_0.length : Int)) = true := decide_eq_true c8
     clear c8
     obtain ⟨ji9, hji9⟩ : ∃ j_ : Int, (wrap64 ((wrap64 (s0_1 + 1)) - 1)) = j_ := ⟨_, rfl⟩
     replace H : (if 0 ≤ (ji9) then (if a1 = 0 then (none) else (some (Int.tmod (wrap64 (rd s0_0 (ji9))) a1, (wrap64 (s0_1 + 1))))) else (none)) = some (r1, r2) := by first | (rw [hji9] at H; exact H) | (simp only [hji9] at H ⊢; exact H)
     (try rw [hji9] at c8b0)
     have hji9w : (IntKind.i64.wrap ((wrap64 (s0_1 + 1)) - 1)) = ji9 := (i64_w _).trans hji9
     by_cases c10 : 0 ≤ (ji9)
     ·
      rw [if_pos c10] at H
      have c10b0 : decide (0 ≤ (ji9)) = true := decide_eq_true c10
      clear c10
      by_cases c11 : a1 = 0
      ·
       rw [if_pos c11] at H
       exact absurd H (by simp)
      ·
       rw [if_neg c11] at H
       have c11b0 : (a1 == 0) = false := beq_eq_false_iff_ne.mpr c11
       have c11b1 : (a1 != 0) = true := bne_iff_ne.mpr c11
       simp only [Option.some.injEq, Prod.mk.injEq] at H
       obtain ⟨rfl, rfl⟩ := H
       obtain ⟨ASz12_0, cSz12_0, HGz12, hgz12, HSz12_0⟩ := HI0.out
       have hcz12_0 := cellS96_0 HGz12
       have hcz12_1 := cellS96_1 HGz12
       have hfz12_1 := blk_frozen HGz12 1
       clear HGz12 hgz12
       have p129 : 0 ≤ ((ji9) : Int) := of_decide_eq_true (by first | (with_reducible assumption) | assumption)
       have q129 : (ji9) < (s0_0.length : Int) := of_decide_eq_true (by first | (with_reducible assumption) | assumption)
       obtain ⟨ad129, e129, hx129_0⟩ := Kd.at_int HSz12_0 (ji9) p129 q129
       cases e129
       replace hx129_0 := pw_cell_below HB.out hx129_0
       replace p129 := eq_true p129
       replace q129 := eq_true q129
       go_wp2
       repeat (go_quiet (fail); try go_wp2)
       go_ret
       exact ⟨by first | rfl | (simp [errW_none, errW_some] <;> rfl) | (simp only [← hji9]; first | rfl | (simp [errW_none, errW_some] <;> rfl)) | (simp [*, errW_none, errW_some] <;> rfl), by repeat (first | (with_reducible first | exact HI0.out | apply IsS96.alloc | apply IsS96.drewN | apply IsS96.drew | apply IsS96.set_1) | exact HI0.out), by repeat (first | (with_reducible first | exact HB.out | apply below_alloc | apply pw_below_drewN | apply below_drew1 | refine below_set ?_ (IsS96.ge HI0.out)) | exact HB.out), by repeat (first | (with_reducible first | exact HK.out | apply KeepBut.set_ | apply keep_drewN | apply keep_drew | apply keep_alloc) | exact HK.out)⟩
     ·
      rw [if_neg c10] at H
      exact absurd H (by simp)
    ·
     rw [if_neg c8] at H
     have c8b0 : decide ((wrap64 ((wrap64 (s0_1 + 1)) - 1)) < (s0_0.length : Int)) = false := decide_eq_false c8
     clear c8
     by_cases c13 : (s0_0.length : Int) = 0
     ·
      rw [if_pos c13] at H
      exact absurd H (by simp)
     ·
      rw [if_neg c13] at H
      have c13b0 : ((s0_0.length : Int) == 0) = false := beq_eq_false_iff_ne.mpr c13
      have c13b1 : ((s0_0.length : Int) != 0) = true := bne_iff_ne.mpr c13
      have c13b2 : ¬ (s0_0 = []) := fun h_ => c13 (by rw [h_]; rfl)
      obtain ⟨ji14, hji14⟩ : ∃ j_ : Int, (Int.tmod (wrap64 ((wrap64 (s0_1 + 1)) - 1)) (s0_0.length : Int)) = j_ := ⟨_, rfl⟩
      replace H : (if 0 ≤ (ji14) then (if (ji14) < (s0_0.length : Int) then (if 0 ≤ (Int.tmod (wrap64 ((wrap64 ((wrap64 ((wrap64 (s0_1 + 1)) - 1)) * 7)) + 3)) (s0_0.length : Int)) then (if (Int.tmod (wrap64 ((wrap64 ((wrap64 ((wrap64 (s0_1 + 1)) - 1)) * 7)) + 3)) (s0_0.length : Int)) < (s0_0.length : Int) then (if a1 = 0 then (none) else (some (Int.tmod (Go.bits .xor .i64 (wrap64 ((wrap64 ((wrap64 ((wrap64 ((wrap64 (rd s0_0 (ji14))) * 131)) + (wrap64 ((wrap64 (rd s0_0 (Int.tmod (wrap64 ((wrap64 ((wrap64 ((wrap64 (s0_1 + 1)) - 1)) * 7)) + 3)) (s0_0.length : Int)))) * 1117)))) + (wrap64 ((wrap64 ((wrap64 (s0_1 + 1)) - 1)) * 29)))) + (wrap64 ((wrap64 (Int.tdiv (wrap64 ((wrap64 (s0_1 + 1)) - 1)) (s0_0.length : Int))) * 53)))) (wrap64 (Int.tdiv (wrap64 ((wrap64 ((wrap64 ((wrap64 ((wrap64 (rd s0_0 (ji14))) * 131)) + (wrap64 ((wrap64 (rd s0_0 (Int.tmod (wrap64 ((wrap64 ((wrap64 ((wrap64 (s0_1 + 1)) - 1)) * 7)) + 3)) (s0_0.length : Int)))) * 1117)))) + (wrap64 ((wrap64 ((wrap64 (s0_1 + 1)) - 1)) * 29)))) + (wrap64 ((wrap64 (Int.tdiv (wrap64 ((wrap64 (s0_1 + 1)) - 1)) (s0_0.length : Int))) * 53)))) 64))) a1, (wrap64 (s0_1 + 1))))) else (none)) else (none)) else (none)) else (none)) = some (r1, r2) := by first | (rw [hji14] at H; exact H) | (simp only [hji14] at H ⊢; exact H)
      by_cases c15 : 0 ≤ (ji14)
      ·
       rw [if_pos c15] at H
       have c15b0 : decide (0 ≤ (ji14)) = true := decide_eq_true c15
       clear c15
       by_cases c16 : (ji14) < (s0_0.length : Int)
       ·
        rw [if_pos c16] at H
        have c16b0 : decide ((ji14) < (s0_0.length : Int)) = true := decide_eq_true c16
        clear c16
        obtain ⟨ji17, hji17⟩ : ∃ j_ : Int, (Int.tmod (wrap64 ((wrap64 ((wrap64 ((wrap64 (s0_1 + 1)) - 1)) * 7)) + 3)) (s0_0.length : Int)) = j_ := ⟨_, rfl⟩
        replace H : (if 0 ≤ (ji17) then (if (ji17) < (s0_0.length : Int) then (if a1 = 0 then (none) else (some (Int.tmod (Go.bits .xor .i64 (wrap64 ((wrap64 ((wrap64 ((wrap64 ((wrap64 (rd s0_0 (ji14))) * 131)) + (wrap64 ((wrap64 (rd s0_0 (ji17))) * 1117)))) + (wrap64 ((wrap64 ((wrap64 (s0_1 + 1)) - 1)) * 29)))) + (wrap64 ((wrap64 (Int.tdiv (wrap64 ((wrap64 (s0_1 + 1)) - 1)) (s0_0.length : Int))) * 53)))) (wrap64 (Int.tdiv (wrap64 ((wrap64 ((wrap64 ((wrap64 ((wrap64 (rd s0_0 (ji14))) * 131)) + (wrap64 ((wrap64 (rd s0_0 (ji17))) * 1117)))) + (wrap64 ((wrap64 ((wrap64 (s0_1 + 1)) - 1)) * 29)))) + (wrap64 ((wrap64 (Int.tdiv (wrap64 ((wrap64 (s0_1 + 1)) - 1)) (s0_0.length : Int))) * 53)))) 64))) a1, (wrap64 (s0_1 + 1))))) else (none)) else (none)) = some (r1, r2) := by first | (rw [hji17] at H; exact H) | (simp only [hji17] at H ⊢; exact H)
        by_cases c18 : 0 ≤ (ji17)
        ·
         rw [if_pos c18] at H
         have c18b0 : decide (0 ≤ (ji17)) = true := decide_eq_true c18
         clear c18
         by_cases c19 : (ji17) < (s0_0.length : Int)
         ·
          rw [if_pos c19] at H
          have c19b0 : decide ((ji17) < (s0_0.length : Int)) = true := decide_eq_true c19
          clear c19
          by_cases c20 : a1 = 0
          ·
           rw [if_pos c20] at H
           exact absurd H (by simp)
          ·
           rw [if_neg c20] at H
           have c20b0 : (a1 == 0) = false := beq_eq_false_iff_ne.mpr c20
           have c20b1 : (a1 != 0) = true := bne_iff_ne.mpr c20
           simp only [Option.some.injEq, Prod.mk.injEq] at H
           obtain ⟨rfl, rfl⟩ := H
           obtain ⟨ASz21_0, cSz21_0, HGz21, hgz21, HSz21_0⟩ := HI0.out
           have hcz21_0 := cellS96_0 HGz21
           have hcz21_1 := cellS96_1 HGz21
           have hfz21_1 := blk_frozen HGz21 1
           clear HGz21 hgz21
           have p130 : 0 ≤ ((ji14) : Int) := of_decide_eq_true (by first | (with_reducible assumption) | assumption)
           have q130 : (ji14) < (s0_0.length : Int) := of_decide_eq_true (by first | (with_reducible assumption) | assumption)
           obtain ⟨ad130, e130, hx130_0⟩ := Kd.at_int HSz21_0 (ji14) p130 q130
           cases e130
           replace hx130_0 := pw_cell_below HB.out hx130_0
           replace p130 := eq_true p130
           replace q130 := eq_true q130
           have p131 : 0 ≤ ((ji17) : Int) := of_decide_eq_true (by first | (with_reducible assumption) | assumption)
           have q131 : (ji17) < (s0_0.length : Int) := of_decide_eq_true (by first | (with_reducible assumption) | assumption)
           obtain ⟨ad131, e131, hx131_0⟩ := Kd.at_int HSz21_0 (ji17) p131 q131
           obtain rfl : ad130 = ad131 := (by injection e131)
           replace hx131_0 := pw_cell_below HB.out hx131_0
           replace p131 := eq_true p131
           replace q131 := eq_true q131
           go_wp2
           repeat (go_quiet (fail); try go_wp2)
           go_ret
           exact ⟨by first | rfl | (simp [errW_none, errW_some] <;> rfl) | (simp only [← hji14, ← hji17]; first | rfl | (simp [errW_none, errW_some] <;> rfl)) | (simp [*, errW_none, errW_some] <;> rfl), by repeat (first | (with_reducible first | exact HI0.out | apply IsS96.alloc | apply IsS96.drewN | apply IsS96.drew | apply IsS96.set_1) | exact HI0.out), by repeat (first | (with_reducible first | exact HB.out | apply below_alloc | apply pw_below_drewN | apply below_drew1 | refine below_set ?_ (IsS96.ge HI0.out)) | exact HB.out), by repeat (first | (with_reducible first | exact HK.out | apply KeepBut.set_ | apply keep_drewN | apply keep_drew | apply keep_alloc) | exact HK.out)⟩
         ·
          rw [if_neg c19] at H
          exact absurd H (by simp)
        ·
         rw [if_neg c18] at H
         exact absurd H (by simp)
       ·
        rw [if_neg c16] at H
        exact absurd H (by simp)
      ·
       rw [if_neg c15] at H
       exact absurd H (by simp)
end Go.Proofs.YtnponnkcfgjeoaaDoor.X
end
section
namespace Go.Proofs.YtnponnkcfgjeoaaDoor.X
open Go.RowKit Go.Proofs.YtnponnkcfgjeoaaDoorW.PrintWords Go.Proofs.YtnponnkcfgjeoaaDoorW.PrintLast Go.Proofs.YtnponnkcfgjeoaaDoorW.PrintMore
attribute [local go_sem] max2_int min2_int max_two min_two max_three min_three max_four min_four
set_option linter.unusedVariables false
set_option linter.unusedSimpArgs false
def spec_l6Open.f (l0 : List Int) : Option (List Int × Int) := if (l0.length : Int) > 2000 then (if 2000 ≤ (l0.length : Int) then (some (l0.take 2000, 0)) else (none)) else (some (l0, 0))
set_option maxHeartbeats 8000000 in
set_option maxRecDepth 100000 in
theorem spec_l6Open.calls (A0 : Option Addr) (c0 : Nat) (l0 : List Int) (r1 : List Int) (r2 : Int) (w0 w : World) (hB : Below w0.heap.size w0 w) (hr0 : Kd.C (Kd.int .u8) w0 A0 l0.length l0) (hc0 : l0.length ≤ c0) (h : spec_l6Open.f l0 = some (r1, r2)) :
  Calls Tryd.prog 44 #[.slice A0 l0.length c0] w fun e w' => ∃ g_ : Nat, e = .returned (.pointer (some ⟨g_, 0, none⟩)) ∧ IsS96 w0 w' g_ r1 r2 ∧ Below w0.heap.size w0 w' ∧ Below w.heap.size w w' := by
 have hu96 := Tryd.underlying96
 have HR0 := Aside0.mk hr0
 have HC0 := Aside0.mk hc0
 clear hr0 hc0
 have HBW := Aside0.mk (Below.refl w.heap.size w)
 have HW0 := Aside0.mk hB.size
 have HB := Aside0.mk hB
 clear hB
 have H : (if (l0.length : Int) > 2000 then (if 2000 ≤ (l0.length : Int) then (some (l0.take 2000, 0)) else (none)) else (some (l0, 0))) = some (r1, r2) := h
 clear h
 by_cases c2 : (l0.length : Int) > 2000
 ·
  rw [if_pos c2] at H
  have c2b0 : decide (2000 < (l0.length : Int)) = true := decide_eq_true c2
  have c2b1 : decide (2000 < l0.length) = true := decide_eq_true (by omega)
  clear c2
  by_cases c3 : 2000 ≤ (l0.length : Int)
  ·
   rw [if_pos c3] at H
   have c3b0 := eq_true c3
   have c3b1 : decide (2000 ≤ (l0.length : Int)) = true := decide_eq_true c3
   clear c3
   simp only [Option.some.injEq, Prod.mk.injEq] at H
   obtain ⟨rfl, rfl⟩ := H
   obtain ⟨i04, hi04, _, hsz4, _⟩ := info_parts info5
   obtain ⟨hcut4, hA4, hC4⟩ := print_take_of (P := Tryd.prog) (Value.int .u8) 0 28 5 .i64 Tryd.underlying28 hi04 hsz4 A0 c0 l0 2000 (by omega) (of_decide_eq_true (by first | (with_reducible assumption) | assumption)) HC0.out
   have HR156 := Aside0.mk (Kd.C_of_reads (h1 := fun _ => rfl) (hA4 _ (Kd.reads_of_C HR0.out)))
   have HC156 := Aside0.mk hC4
   clear hA4 hC4 hi04 hsz4
   go_enter Tryd.func44, Tryd.ntmps44
   go_wp2_with (first | ((with_reducible refine gate_dst (N := 10) rfl ?_); refine box_event ?hg (N := 10) ?hd (cs := #[.slice A0 (l0.take 2000).length c0, .int .i64 0]) (t := 96) ?hr ?_; (case hd => rfl); (case hg => rfl); (case hr => first | (go_simp; done) | (go_simp; rfl)); intro gb157 hg w5 hbox hb; have n0_ := Aside0.mk (below_step HBW.out hb); have n1_ := Aside0.mk (below_step hB_ hb); have n2_ := Aside0.mk (hbox); have n3_ := Aside0.mk ((by rw [hg]; exact (below_size (by repeat (first | (with_reducible first | exact HBW.out | apply below_alloc | apply pw_below_drewN | apply below_drew1) | exact HBW.out))) : w.heap.size ≤ gb157)); have n4_ := Aside0.mk ((Nat.le_trans HW0.out (by rw [hg]; exact (below_size (by repeat (first | (with_reducible first | exact HBW.out | apply below_alloc | apply pw_below_drewN | apply below_drew1) | exact HBW.out))) : w.heap.size ≤ gb157) : w0.heap.size ≤ gb157)); clear HBW; clear HB; have HBW := n0_; have HB := n1_; have BK157 := n2_; have GW157 := n3_; have GE157 := n4_; clear n0_ n1_ n2_ n3_ n4_; clear hb hbox hg))
   go_ret
   exact ⟨_, rfl, (show IsS96 w0 _ gb157 (l0.take 2000) 0 from ⟨_, _, by (with_reducible repeat (first | refine blk_drewN ?_ _ | refine blk_drew ?_ | refine blk_alloc ?_ _)); exact BK157.out, GE157.out, HR156.out⟩), by repeat (first | (with_reducible first | exact HB.out | apply below_alloc | apply pw_below_drewN | apply below_drew1 | refine below_set ?_ GE157.out) | exact HB.out), by repeat (first | (with_reducible first | exact HBW.out | apply below_alloc | apply pw_below_drewN | apply below_drew1 | refine below_set ?_ GW157.out) | exact HBW.out)⟩
  ·
   rw [if_neg c3] at H
   exact absurd H (by simp)
 ·
  rw [if_neg c2] at H
  have c2b0 : decide (2000 < (l0.length : Int)) = false := decide_eq_false c2
  have c2b1 : decide (2000 < l0.length) = false := decide_eq_false (by omega)
  clear c2
  simp only [Option.some.injEq, Prod.mk.injEq] at H
  obtain ⟨rfl, rfl⟩ := H
  go_enter Tryd.func44, Tryd.ntmps44
  go_wp2_with (first | ((with_reducible refine gate_dst (N := 10) rfl ?_); refine box_event ?hg (N := 10) ?hd (cs := #[.slice A0 l0.length c0, .int .i64 0]) (t := 96) ?hr ?_; (case hd => rfl); (case hg => rfl); (case hr => first | (go_simp; done) | (go_simp; rfl)); intro gb158 hg w6 hbox hb; have n0_ := Aside0.mk (below_step HBW.out hb); have n1_ := Aside0.mk (below_step hB_ hb); have n2_ := Aside0.mk (hbox); have n3_ := Aside0.mk ((by rw [hg]; exact (below_size (by repeat (first | (with_reducible first | exact HBW.out | apply below_alloc | apply pw_below_drewN | apply below_drew1) | exact HBW.out))) : w.heap.size ≤ gb158)); have n4_ := Aside0.mk ((Nat.le_trans HW0.out (by rw [hg]; exact (below_size (by repeat (first | (with_reducible first | exact HBW.out | apply below_alloc | apply pw_below_drewN | apply below_drew1) | exact HBW.out))) : w.heap.size ≤ gb158) : w0.heap.size ≤ gb158)); clear HBW; clear HB; have HBW := n0_; have HB := n1_; have BK158 := n2_; have GW158 := n3_; have GE158 := n4_; clear n0_ n1_ n2_ n3_ n4_; clear hb hbox hg))
  go_ret
  exact ⟨_, rfl, (show IsS96 w0 _ gb158 l0 0 from ⟨_, _, by (with_reducible repeat (first | refine blk_drewN ?_ _ | refine blk_drew ?_ | refine blk_alloc ?_ _)); exact BK158.out, GE158.out, HR0.out⟩), by repeat (first | (with_reducible first | exact HB.out | apply below_alloc | apply pw_below_drewN | apply below_drew1 | refine below_set ?_ GE158.out) | exact HB.out), by repeat (first | (with_reducible first | exact HBW.out | apply below_alloc | apply pw_below_drewN | apply below_drew1 | refine below_set ?_ GW158.out) | exact HBW.out)⟩
end Go.Proofs.YtnponnkcfgjeoaaDoor.X
end
