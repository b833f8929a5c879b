/- What the listed variable errNoFrac gives a walk, and a world that meets the condition (turned from the guide's worked text on listed sentinels). -/
import Derived.Test.YtnponnkcfgjeoaaDoorErr
import Derived.Test.YtnponnkcfgjeoaaDoorRows
import Derived.Test.YtnponnkcfgjeoaaDoorCards
import Derived.Test.YtnponnkcfgjeoaaDoorTie
import Derived.ChangeSame
import Derived.ChangeVars
import Derived.JoinedOf
import Derived.RowKit
import Derived.RowKitTokens
import Derived.LaidLaws
import Derived.Stop.ErrReads
import Derived.Stop.LaidErr
import Derived.WalkSmall
set_option linter.unusedVariables false
namespace Go.Proofs.YtnponnkcfgjeoaaDoor
open Go.ChangeShapes Go.WideShapes Go.RowKit Go.Proofs.YtnponnkcfgjeoaaDoorW.PrintWords

theorem own : ownKnob Tryd.prog.godebug = none := by kernel_rfl
theorem errGlobal : Tryd.prog.globalNamed "loop.example/mortiser/impl.errNoFrac" = some 0 := by kernel_rfl
theorem errType : (Tryd.prog.globals[0]?).map (·.type) = some 64 := by kernel_rfl
theorem errName : Tryd.prog.typeName? 3 109 = some "*errors.errorString" := by kernel_rfl
theorem errCells : Tryd.prog.cellsOf 137 = 1 := by kernel_rfl
theorem strCells : Tryd.prog.cellsOf 9 = 1 := by kernel_rfl
theorem errStar : "*" ++ "errors.errorString" = "*errors.errorString" := by decide
theorem errRow (u : TypeId) (h : Tryd.prog.typeName? 3 u = some "*errors.errorString") : u = 109 :=
  typeName_ptr_named (nm := "errors.errorString") (by rw [errStar]; kernel_rfl) (by kernel_rfl) (by decide) u (by rw [errStar]; exact h)
abbrev laidErr : List (String × DataW Unit) := [("loop.example/mortiser/impl.errNoFrac", Rows.laid_loop_example_mortiser_impl_errNoFrac)]
theorem err_of_laid {W : World} (h : laidMet Tryd.prog laidErr W) :
    ∃ (a : Addr) (s : ByteArray), W.var? Tryd.prog "loop.example/mortiser/impl.errNoFrac" = some #[.iface 109 (.pointer (some a))] ∧ W.cell? a = some (.string s) ∧ s.data.toList = [110, 111, 32, 102, 114, 97, 99, 116, 105, 111, 110] ∧ s.size ≤ maxLen :=
  laid_sentinel h errGlobal errType Tryd.underlying64 errRow Tryd.underlying109 Tryd.underlying137 rfl rfl Tryd.underlying9 errCells strCells
theorem ErrW.of_var {W : World} {a : Addr} (h : W.var? Tryd.prog "loop.example/mortiser/impl.errNoFrac" = some #[.iface 109 (.pointer (some a))]) : ErrW W :=
  ⟨a, by simpa using World.var?_cell errGlobal h 0⟩
theorem errBelow {W W' : World} {cs : Array Value} (hb : Below W.heap.size W W') (h : W.var? Tryd.prog "loop.example/mortiser/impl.errNoFrac" = some cs) : W'.var? Tryd.prog "loop.example/mortiser/impl.errNoFrac" = some cs := by
  have hlt : 0 < W.heap.size := by
    rcases Nat.lt_or_ge 0 W.heap.size with h' | h'
    · exact h'
    · unfold World.var? at h; rw [errGlobal] at h; simp [Array.getElem?_eq_none h'] at h
  exact var?_below hb errGlobal hlt h

abbrev errS : ByteArray := { data := #[110, 111, 32, 102, 114, 97, 99, 116, 105, 111, 110] }
noncomputable def low : Nat := (World.holding Tryd.prog default ⟨#[], #[], []⟩).heap.size
noncomputable def laidWorld (os : Os) : World :=
  let w0 := World.holding Tryd.prog os ⟨#[.cells #[.string errS] 137], #[], []⟩
  { w0 with heap := w0.heap.modify 0 fun
      | .cells _ t frozen => .cells #[.iface 109 (.pointer (some ⟨low, 0, none⟩))] t frozen
      | o => o }
theorem laidWorld_met (os : Os) (args : Array Value) : laidMet Tryd.prog laidErr ((laidWorld os).forCall (fun _ _ => 0) ⟨#[], args, []⟩).memory :=
  laidMet_of_run (ps := [.cell 0 0, .cell low 0]) 8 (by kernel_rfl) (by kernel_rfl) (by kernel_rfl)
theorem errVars {H : Type} (enc : TypeId × Value → H) {W : World} {x : Value} (h : W.var? Tryd.prog "loop.example/mortiser/impl.errNoFrac" = some #[x]) (ix : IsIface x) (sp : Nat → Bool) :
    DataW.TrodVars enc Tryd.prog W sp ["loop.example/mortiser/impl.errNoFrac"] [tok enc x] [.cell 0 0] :=
  vars_read1 enc errGlobal errType Tryd.underlying64 h ix sp
theorem laidOut : laidOutB Tryd.prog = true := by kernel_rfl
end Go.Proofs.YtnponnkcfgjeoaaDoor
