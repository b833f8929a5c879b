/- FnPlateBack: the law returns true for every input, and each input reads behind the call as before; part 2 of 6. No condition. Merged by program out of: Squeeze, LaidT, K, HEdges, Geo, FSpecL6In, State, FSpecL6Open, EvFrac, Q, EvSeg, FImplJoined, HLoop, HLoopA, Txt, Step, Shelf, HText, FImplLoopText. -/
import Derived.Test.YtailkppkjhkjpaaDoorMFnPlateBack1
import Derived.ChangeSame
import Derived.ChangeVars
import Derived.JoinedOf
import Derived.RowKit
import Derived.RowKitTokens
import Derived.LaidLaws
import Derived.WalkSmall
import Derived.Test.YtailkppkjhkjpaaDoorRows
import Derived.Test.YtailkppkjhkjpaaDoorCards
import Derived.Test.YtailkppkjhkjpaaDoorTie
import Derived.Below
import Derived.Deep.Draws
import Derived.Deep.AppendLies
import Derived.Maps.AppendAt
import Derived.OwnWalk
import Derived.Laws.BytesArg
import Derived.Laws.MakeOwn
import Derived.Laws.OwnMore
import Derived.Deep.OwnRows
import Derived.Tactics
import Derived.Lib.ConvBytes
import Derived.Laws.Slices
import Derived.WalkKit
import Derived.KernelRfl
import Derived.RowKit3
import Derived.Deep.LoopGhost
import Derived.Deep.QuietTactic
import Derived.BigQuiet
import Derived.WideLaws
import Derived.Deep.DeepCutAuto
import Derived.Deep.CutBlock
import Derived.Deep.RegionHeld3
import Derived.Laws.Rows
import Derived.Lib.AppendStr
import Derived.ArgAppend
import Derived.Laws.IdiomCopy
import Derived.OrdersHeld
import Derived.Laws.BitsLemmas
import Derived.Test.YtailkppkjhkjpaaDoorProg
import Derived.RangeFuncNested
import Derived.RangeFuncBound
import Derived.RangeFuncLeaves
import Derived.Shelf.Abstract
import Derived.OwnWalkIn
import Derived.TacticsInMore
import Derived.LoopNIn
import Derived.LoopIn
import Derived.BigRegionIn
import Derived.Stop.RegionWithIn
import Derived.IntWalk
import Derived.Laws.Bits64
import Derived.Lib.SplitLaws
import Derived.Lib.Join
import Derived.Lib.Strings
import Derived.Shelf.Strings.OnBuilder
import Derived.Shelf.Strings.BuilderK
import Derived.Shelf.LaysM
import Derived.Shelf.Strconv.Itoa3
import Derived.Shelf.Strings.Prefix
import Derived.Shelf.Strings.Split
import Derived.LaidEqlPtr
import Derived.RegionTactic
import Derived.BigRegion
import Derived.BigGuard
import Derived.SizedLaws
import Derived.ChangeSlices
import Derived.ProofKit
import Derived.OpenShut
import Derived.ShutString
import Derived.ChangeOld
import Derived.SevenTiedAt
set_option linter.all false
section
set_option linter.unusedVariables false
namespace Go.Proofs.YtailkppkjhkjpaaDoor.X
open Go.RowKit Go.Proofs.YtailkppkjhkjpaaDoorW.PrintWords Go.Proofs.YtailkppkjhkjpaaDoorW.PrintLast Go.Proofs.YtailkppkjhkjpaaDoorW.PrintMore
theorem uq_ {P:Prop}(h:P:=by (with_reducible repeat (first | refine blk_drewN ?_ _ | refine blk_drew ?_ | refine blk_alloc ?_ _));refine Aside0.out ?_;assumption):P:=h
theorem hB_ {P:Prop}(h:P:=by repeat (first | (with_reducible first | exact HB.out | apply below_alloc | apply pw_below_drewN | apply below_drew1 | refine below_set ?_ (Aside0.out (by assumption))) | exact HB.out)):P:=h
theorem ma_ {P:Prop}(h:P:=by (try simp only [List.map_toArray,List.map_cons,List.map_nil]);first | done | rfl | (simp only [List.length_drop,List.length_take];rfl)):P:=h
theorem bc_ {w:World}{g i:Nat}{t:TypeId}{cs:Array Value}{v:Value}(h:w.heap[g]?=some (.cells cs t (0,0)):=by refine Aside0.out ?_;assumption)(e:cs[i]?=some v:=by rfl):w.cell? ⟨g,i,none⟩=some v:=(blk_cell h i).trans e
def bmL:Nat→Nat→List Bool
  | 0,_=>[]
  | n+1,m=>(m % 2==1)::bmL n (m / 2)
def bm (n m:Nat):Array Bool:=⟨bmL n m⟩
theorem pu_ {P:Program}{ops:Array Oper}{Q:Exit→Act→World→Prop}{md:Region.Mode}{S:World→Prop}{ds:List Nat}{T:Bool × List (List Nat × List Nat)}{oi:Oper}{v:Value}{fuel:Nat}{l:Array Bool}{a a':Act}{w:World}(HT:Aside0 (rtab md ops=T))(i N:Nat)(l':Array Bool)(h:wpAnyLast P md ops Q S ds fuel l' a' w)(hi:ops[i]?=some oi:=by rfl)(hN:oi.dst=some N:=by rfl)(hc:anyT T l.toList l'.toList i=true:=by kernel_rfl)(hw:Region.wanted oi (yielded ops a.tmps)=true:=by rfl)(hr:∀ w',(execOp a.eval oi).run P w'=.ok (.value v) w':=by (intro w';go_simp;with_reducible rfl))(ha:a.put (some N) v=a':=by (simp only [Act.put,List.setIfInBounds_toArray,List.set_cons_zero,List.set_cons_succ,i64_w,i32_w];rfl))(hQ:∀ c a w,Q (.panic c) (a.put oi.dst v) w→Q (.panic c) a w:=by exact fun _ _ _ h=>h):wpAnyLast P md ops Q S ds (fuel+1) l a w:=pure_ l' hi hN (any_of HT.out hc) hQ (Or.inl ⟨hw,hr⟩) ha h
theorem pv_ {P:Program}{ops:Array Oper}{Q:Exit→Act→World→Prop}{md:Region.Mode}{S:World→Prop}{ds:List Nat}{oi:Oper}{v:Value}{fuel:Nat}{l:Array Bool}{a a':Act}{w:World}(i N:Nat)(l':Array Bool)(h:wpAnyLast P md ops Q S ds fuel l' a' w)(hi:ops[i]?=some oi:=by rfl)(hN:oi.dst=some N:=by rfl)(hc:anyB md ops l l' i=true:=by kernel_rfl)(hw:Region.wanted oi (yielded ops a.tmps)=true:=by rfl)(hr:∀ w',(execOp a.eval oi).run P w'=.ok (.value v) w':=by (intro w';go_simp;with_reducible rfl))(ha:a.put (some N) v=a':=by (simp only [Act.put,List.setIfInBounds_toArray,List.set_cons_zero,List.set_cons_succ,i64_w,i32_w];rfl))(hQ:∀ c a w,Q (.panic c) (a.put oi.dst v) w→Q (.panic c) a w:=by exact fun _ _ _ h=>h):wpAnyLast P md ops Q S ds (fuel+1) l a w:=pure_ l' hi hN hc hQ (Or.inl ⟨hw,hr⟩) ha h
theorem pz_ {P:Program}{ops:Array Oper}{Q:Exit→Act→World→Prop}{md:Region.Mode}{S:World→Prop}{ds:List Nat}{T:Bool × List (List Nat × List Nat)}{oi:Oper}{fuel:Nat}{l:Array Bool}{a a':Act}{w:World}(HT:Aside0 (rtab md ops=T))(i N:Nat)(l':Array Bool)(h:wpAnyLast P md ops Q S ds fuel l' a' w)(hi:ops[i]?=some oi:=by rfl)(hN:oi.dst=some N:=by rfl)(hc:anyT T l.toList l'.toList i=true:=by kernel_rfl)(hw:Region.wanted oi (yielded ops a.tmps)=false:=by rfl)(ha:a.put (some N) undef=a':=by (simp only [Act.put,List.setIfInBounds_toArray,List.set_cons_zero,List.set_cons_succ,i64_w,i32_w];rfl))(hQ:∀ c a w,Q (.panic c) (a.put oi.dst undef) w→Q (.panic c) a w:=by exact fun _ _ _ h=>h):wpAnyLast P md ops Q S ds (fuel+1) l a w:=pure_ l' hi hN (any_of HT.out hc) hQ (Or.inr ⟨hw,rfl⟩) ha h
theorem ta2_ {P:Program}{ops:Array Oper}{Q:Exit→Act→World→Prop}{md:Region.Mode}{S:World→Prop}{ds:List Nat}{T:Bool × List (List Nat × List Nat)}{B:List Nat}{oi:Oper}{v:Value}{fuel:Nat}{l:Array Bool}{a a':Act}{w:World}(HT:Aside0 (rtab md ops=T))(HW:Aside0 (waitsOk T.2 B=true))(i N:Nat)(l':Array Bool)(hS:S w)(h:wpAnyLast P md ops Q S ds fuel l' a' w)(hi:ops[i]?=some oi:=by rfl)(hN:oi.dst=some N:=by rfl)(hc:takeW T B ds l.toList l'.toList i=true:=by kernel_rfl)(hw:Region.wanted oi (yielded ops a.tmps)=true:=by rfl)(hr:∀ w',S w'→(execOp a.eval oi).run P w'=.ok (.value v) w':=by (rintro w' ⟨s0,s1⟩;go_simp;with_reducible rfl))(ha:a.put (some N) v=a':=by (simp only [Act.put,List.setIfInBounds_toArray,List.set_cons_zero,List.set_cons_succ,i64_w,i32_w];rfl))(hQ:∀ c a w,Q (.panic c) (a.put oi.dst v) w→Q (.panic c) a w:=by exact fun _ _ _ h=>h):wpAnyLast P md ops Q S ds (fuel+1) l a w:=take_ l' hi hN (take_ofW HT.out HW.out hc) hQ (Or.inl ⟨hw,hr⟩) hS ha h
theorem ta3_ {P:Program}{ops:Array Oper}{Q:Exit→Act→World→Prop}{md:Region.Mode}{S:World→Prop}{ds:List Nat}{T:Bool × List (List Nat × List Nat)}{B:List Nat}{oi:Oper}{v:Value}{fuel:Nat}{l:Array Bool}{a a':Act}{w:World}(HT:Aside0 (rtab md ops=T))(HW:Aside0 (waitsOk T.2 B=true))(i N:Nat)(l':Array Bool)(hS:S w)(h:wpAnyLast P md ops Q S ds fuel l' a' w)(hi:ops[i]?=some oi:=by rfl)(hN:oi.dst=some N:=by rfl)(hc:takeW T B ds l.toList l'.toList i=true:=by kernel_rfl)(hw:Region.wanted oi (yielded ops a.tmps)=true:=by rfl)(hr:∀ w',S w'→(execOp a.eval oi).run P w'=.ok (.value v) w':=by (rintro w' ⟨s0,s1,s2⟩;go_simp;with_reducible rfl))(ha:a.put (some N) v=a':=by (simp only [Act.put,List.setIfInBounds_toArray,List.set_cons_zero,List.set_cons_succ,i64_w,i32_w];rfl))(hQ:∀ c a w,Q (.panic c) (a.put oi.dst v) w→Q (.panic c) a w:=by exact fun _ _ _ h=>h):wpAnyLast P md ops Q S ds (fuel+1) l a w:=take_ l' hi hN (take_ofW HT.out HW.out hc) hQ (Or.inl ⟨hw,hr⟩) hS ha h
theorem ta4_ {P:Program}{ops:Array Oper}{Q:Exit→Act→World→Prop}{md:Region.Mode}{S:World→Prop}{ds:List Nat}{T:Bool × List (List Nat × List Nat)}{B:List Nat}{oi:Oper}{v:Value}{fuel:Nat}{l:Array Bool}{a a':Act}{w:World}(HT:Aside0 (rtab md ops=T))(HW:Aside0 (waitsOk T.2 B=true))(i N:Nat)(l':Array Bool)(hS:S w)(h:wpAnyLast P md ops Q S ds fuel l' a' w)(hi:ops[i]?=some oi:=by rfl)(hN:oi.dst=some N:=by rfl)(hc:takeW T B ds l.toList l'.toList i=true:=by kernel_rfl)(hw:Region.wanted oi (yielded ops a.tmps)=true:=by rfl)(hr:∀ w',S w'→(execOp a.eval oi).run P w'=.ok (.value v) w':=by (rintro w' ⟨s0,s1,s2,s3⟩;go_simp;with_reducible rfl))(ha:a.put (some N) v=a':=by (simp only [Act.put,List.setIfInBounds_toArray,List.set_cons_zero,List.set_cons_succ,i64_w,i32_w];rfl))(hQ:∀ c a w,Q (.panic c) (a.put oi.dst v) w→Q (.panic c) a w:=by exact fun _ _ _ h=>h):wpAnyLast P md ops Q S ds (fuel+1) l a w:=take_ l' hi hN (take_ofW HT.out HW.out hc) hQ (Or.inl ⟨hw,hr⟩) hS ha h
theorem ta6_ {P:Program}{ops:Array Oper}{Q:Exit→Act→World→Prop}{md:Region.Mode}{S:World→Prop}{ds:List Nat}{T:Bool × List (List Nat × List Nat)}{B:List Nat}{oi:Oper}{v:Value}{fuel:Nat}{l:Array Bool}{a a':Act}{w:World}(HT:Aside0 (rtab md ops=T))(HW:Aside0 (waitsOk T.2 B=true))(i N:Nat)(l':Array Bool)(hS:S w)(h:wpAnyLast P md ops Q S ds fuel l' a' w)(hi:ops[i]?=some oi:=by rfl)(hN:oi.dst=some N:=by rfl)(hc:takeW T B ds l.toList l'.toList i=true:=by kernel_rfl)(hw:Region.wanted oi (yielded ops a.tmps)=true:=by rfl)(hr:∀ w',S w'→(execOp a.eval oi).run P w'=.ok (.value v) w':=by (rintro w' ⟨s0,s1,s2,s3,s4,s5⟩;go_simp;with_reducible rfl))(ha:a.put (some N) v=a':=by (simp only [Act.put,List.setIfInBounds_toArray,List.set_cons_zero,List.set_cons_succ,i64_w,i32_w];rfl))(hQ:∀ c a w,Q (.panic c) (a.put oi.dst v) w→Q (.panic c) a w:=by exact fun _ _ _ h=>h):wpAnyLast P md ops Q S ds (fuel+1) l a w:=take_ l' hi hN (take_ofW HT.out HW.out hc) hQ (Or.inl ⟨hw,hr⟩) hS ha h
theorem tb6_ {P:Program}{ops:Array Oper}{Q:Exit→Act→World→Prop}{md:Region.Mode}{S:World→Prop}{ds:List Nat}{oi:Oper}{v:Value}{fuel:Nat}{l:Array Bool}{a a':Act}{w:World}(i N:Nat)(l':Array Bool)(hS:S w)(h:wpAnyLast P md ops Q S ds fuel l' a' w)(hi:ops[i]?=some oi:=by rfl)(hN:oi.dst=some N:=by rfl)(hc:takeB md ops ds l l' i=true:=by kernel_rfl)(hw:Region.wanted oi (yielded ops a.tmps)=true:=by rfl)(hr:∀ w',S w'→(execOp a.eval oi).run P w'=.ok (.value v) w':=by (rintro w' ⟨s0,s1,s2,s3,s4,s5⟩;go_simp;with_reducible rfl))(ha:a.put (some N) v=a':=by (simp only [Act.put,List.setIfInBounds_toArray,List.set_cons_zero,List.set_cons_succ,i64_w,i32_w];rfl))(hQ:∀ c a w,Q (.panic c) (a.put oi.dst v) w→Q (.panic c) a w:=by exact fun _ _ _ h=>h):wpAnyLast P md ops Q S ds (fuel+1) l a w:=take_ l' hi hN hc hQ (Or.inl ⟨hw,hr⟩) hS ha h
theorem ta8_ {P:Program}{ops:Array Oper}{Q:Exit→Act→World→Prop}{md:Region.Mode}{S:World→Prop}{ds:List Nat}{T:Bool × List (List Nat × List Nat)}{B:List Nat}{oi:Oper}{v:Value}{fuel:Nat}{l:Array Bool}{a a':Act}{w:World}(HT:Aside0 (rtab md ops=T))(HW:Aside0 (waitsOk T.2 B=true))(i N:Nat)(l':Array Bool)(hS:S w)(h:wpAnyLast P md ops Q S ds fuel l' a' w)(hi:ops[i]?=some oi:=by rfl)(hN:oi.dst=some N:=by rfl)(hc:takeW T B ds l.toList l'.toList i=true:=by kernel_rfl)(hw:Region.wanted oi (yielded ops a.tmps)=true:=by rfl)(hr:∀ w',S w'→(execOp a.eval oi).run P w'=.ok (.value v) w':=by (rintro w' ⟨s0,s1,s2,s3,s4,s5,s6,s7⟩;go_simp;with_reducible rfl))(ha:a.put (some N) v=a':=by (simp only [Act.put,List.setIfInBounds_toArray,List.set_cons_zero,List.set_cons_succ,i64_w,i32_w];rfl))(hQ:∀ c a w,Q (.panic c) (a.put oi.dst v) w→Q (.panic c) a w:=by exact fun _ _ _ h=>h):wpAnyLast P md ops Q S ds (fuel+1) l a w:=take_ l' hi hN (take_ofW HT.out HW.out hc) hQ (Or.inl ⟨hw,hr⟩) hS ha h
theorem ta9_ {P:Program}{ops:Array Oper}{Q:Exit→Act→World→Prop}{md:Region.Mode}{S:World→Prop}{ds:List Nat}{T:Bool × List (List Nat × List Nat)}{B:List Nat}{oi:Oper}{v:Value}{fuel:Nat}{l:Array Bool}{a a':Act}{w:World}(HT:Aside0 (rtab md ops=T))(HW:Aside0 (waitsOk T.2 B=true))(i N:Nat)(l':Array Bool)(hS:S w)(h:wpAnyLast P md ops Q S ds fuel l' a' w)(hi:ops[i]?=some oi:=by rfl)(hN:oi.dst=some N:=by rfl)(hc:takeW T B ds l.toList l'.toList i=true:=by kernel_rfl)(hw:Region.wanted oi (yielded ops a.tmps)=true:=by rfl)(hr:∀ w',S w'→(execOp a.eval oi).run P w'=.ok (.value v) w':=by (rintro w' ⟨s0,s1,s2,s3,s4,s5,s6,s7,s8⟩;go_simp;with_reducible rfl))(ha:a.put (some N) v=a':=by (simp only [Act.put,List.setIfInBounds_toArray,List.set_cons_zero,List.set_cons_succ,i64_w,i32_w];rfl))(hQ:∀ c a w,Q (.panic c) (a.put oi.dst v) w→Q (.panic c) a w:=by exact fun _ _ _ h=>h):wpAnyLast P md ops Q S ds (fuel+1) l a w:=take_ l' hi hN (take_ofW HT.out HW.out hc) hQ (Or.inl ⟨hw,hr⟩) hS ha h
theorem ta16_ {P:Program}{ops:Array Oper}{Q:Exit→Act→World→Prop}{md:Region.Mode}{S:World→Prop}{ds:List Nat}{T:Bool × List (List Nat × List Nat)}{B:List Nat}{oi:Oper}{v:Value}{fuel:Nat}{l:Array Bool}{a a':Act}{w:World}(HT:Aside0 (rtab md ops=T))(HW:Aside0 (waitsOk T.2 B=true))(i N:Nat)(l':Array Bool)(hS:S w)(h:wpAnyLast P md ops Q S ds fuel l' a' w)(hi:ops[i]?=some oi:=by rfl)(hN:oi.dst=some N:=by rfl)(hc:takeW T B ds l.toList l'.toList i=true:=by kernel_rfl)(hw:Region.wanted oi (yielded ops a.tmps)=true:=by rfl)(hr:∀ w',S w'→(execOp a.eval oi).run P w'=.ok (.value v) w':=by (rintro w' ⟨s0,s1,s2,s3,s4,s5,s6,s7,s8,s9,s10,s11,s12,s13,s14,s15⟩;go_simp;with_reducible rfl))(ha:a.put (some N) v=a':=by (simp only [Act.put,List.setIfInBounds_toArray,List.set_cons_zero,List.set_cons_succ,i64_w,i32_w];rfl))(hQ:∀ c a w,Q (.panic c) (a.put oi.dst v) w→Q (.panic c) a w:=by exact fun _ _ _ h=>h):wpAnyLast P md ops Q S ds (fuel+1) l a w:=take_ l' hi hN (take_ofW HT.out HW.out hc) hQ (Or.inl ⟨hw,hr⟩) hS ha h
theorem no_ {P:Program}{ops:Array Oper}{Q:Exit→Act→World→Prop}{md:Region.Mode}{S:World→Prop}{ds:List Nat}{fuel:Nat}{l:Array Bool}{a a':Act}{w:World}(ha:a=a':=by (show Act.put _ (some _) _=_;simp only [Act.put,List.setIfInBounds_toArray,List.set_cons_zero,List.set_cons_succ,i64_w,i32_w];rfl))(h:wpAnyLast P md ops Q S ds fuel l a' w):wpAnyLast P md ops Q S ds fuel l a w:=norm_ ha h
theorem bx_ {P:Program}{ops:Array Oper}{rest:List Oper}{o:Oper}{a:Act}{Q:Exit→Act→World→Prop}{W:World}{N:Tmp}{cs:Array Value}{t:TypeId}(hgd:o.guard=none:=by rfl)(hd:o.dst=some N:=by rfl)
    (hr:(execOp a.eval o).run P W=.ok (.value (.pointer (some ⟨W.heap.size,0,none⟩))) (W.alloc (.cells cs t (0,0))):=by first | (go_simp;done) | (go_simp;rfl))
    (h:∀ g,g=W.heap.size→∀ w1,w1.heap[g]?=some (.cells cs t (0,0))→Below W.heap.size W w1→wpList P ops Q rest (a.put o.dst (.pointer (some ⟨g,0,none⟩))) w1):wpList P ops Q (o::rest) a W:=box_event hgd hd hr h
theorem hK_ {w W W':World}{g:Nat}{row row':Option Nat}(_:Aside0 (KeepBut w W g row'))(h:KeepBut w W' g row:=by repeat (first | (with_reducible first | exact HK.out | apply KeepBut.set_ | apply keep_drewN | apply keep_drew | apply keep_alloc | refine keep_far ?_ (Aside0.out (by assumption)) _) | exact HK.out)):KeepBut w W' g row:=h
theorem a0_ {P:Prop}(h:P):Aside0 P:=⟨h⟩
theorem ce_ {w W:World}{p:Addr}{v:Value}(HB:Aside0 (Below w.heap.size w W))(h:w.cell? p=some v):W.cell? p=some v:=pw_cell_below HB.out h
theorem od_ {p:Prop}[Decidable p](h:decide p=true:=by first | (with_reducible assumption) | assumption):p:=of_decide_eq_true h
theorem rr_ {P:Prop}(h:P:=by first | rfl | (simp [errW_none,errW_some] <;> rfl) | (simp [*,errW_none,errW_some] <;> rfl)):P:=h
theorem gw_ {w W W':World}{g gb:Nat}{row':Option Nat}(_:Aside0 (KeepBut w W g row'))(hg:gb=W'.heap.size)(h:KeepBut w W' g none:=by repeat (first | (with_reducible first | exact HK.out | apply KeepBut.set_ | apply keep_drewN | apply keep_drew | apply keep_alloc | refine keep_far ?_ (Aside0.out (by assumption)) _) | exact HK.out)):Aside0 (w.heap.size≤gb):=⟨by rw [hg];exact h.1⟩
theorem gh_ {w W W':World}{gb:Nat}(_:Aside0 (Below w.heap.size w W))(hg:gb=W'.heap.size)(h:Below w.heap.size w W':=by repeat (first | (with_reducible first | exact HB.out | apply below_alloc | apply pw_below_drewN | apply below_drew1 | refine below_set ?_ (Aside0.out (by assumption))) | exact HB.out)):Aside0 (w.heap.size≤gb):=⟨by rw [hg];exact below_size h⟩
theorem nl_ {W W':World}{g gb:Nat}{o:Obj}(_:Aside0 (W.heap[g]?=some o))(hg:gb=W'.heap.size)(h:W'.heap[g]?=some o:=by (with_reducible repeat (first | refine blk_drewN ?_ _ | refine blk_drew ?_ | refine blk_alloc ?_ _));refine Aside0.out ?_;assumption):Aside0 (g≠gb):=⟨by rw [hg];exact Nat.ne_of_lt (blk_lt h)⟩
theorem nr_ {W W':World}{g gb:Nat}{o:Obj}(_:Aside0 (W.heap[g]?=some o))(hg:gb=W'.heap.size)(h:W'.heap[g]?=some o:=by (with_reducible repeat (first | refine blk_drewN ?_ _ | refine blk_drew ?_ | refine blk_alloc ?_ _));refine Aside0.out ?_;assumption):Aside0 (gb≠g):=⟨by rw [hg];exact Nat.ne_of_gt (blk_lt h)⟩
theorem c20_ {W:World}{g t:Nat}{x y:Value}(h:Aside0 (W.heap[g]?=some (.cells #[x,y] t (0,0)))):W.cell? ⟨g,0,none⟩=some x:=(blk_cell h.out 0).trans rfl
theorem c21_ {W:World}{g t:Nat}{x y:Value}(h:Aside0 (W.heap[g]?=some (.cells #[x,y] t (0,0)))):W.cell? ⟨g,1,none⟩=some y:=(blk_cell h.out 1).trans rfl
theorem c40_ {W:World}{g t:Nat}{x y u v:Value}(h:Aside0 (W.heap[g]?=some (.cells #[x,y,u,v] t (0,0)))):W.cell? ⟨g,0,none⟩=some x:=(blk_cell h.out 0).trans rfl
theorem c41_ {W:World}{g t:Nat}{x y u v:Value}(h:Aside0 (W.heap[g]?=some (.cells #[x,y,u,v] t (0,0)))):W.cell? ⟨g,1,none⟩=some y:=(blk_cell h.out 1).trans rfl
theorem c42_ {W:World}{g t:Nat}{x y u v:Value}(h:Aside0 (W.heap[g]?=some (.cells #[x,y,u,v] t (0,0)))):W.cell? ⟨g,2,none⟩=some u:=(blk_cell h.out 2).trans rfl
theorem c43_ {W:World}{g t:Nat}{x y u v:Value}(h:Aside0 (W.heap[g]?=some (.cells #[x,y,u,v] t (0,0)))):W.cell? ⟨g,3,none⟩=some v:=(blk_cell h.out 3).trans rfl
theorem sb_ {w W W' w':World}(_:Aside0 (Below w.heap.size w W))(hb:Below W'.heap.size W' w')(h:Below w.heap.size w W':=by repeat (first | (with_reducible first | exact HB.out | apply below_alloc | apply pw_below_drewN | apply below_drew1 | refine below_set ?_ (Aside0.out (by assumption))) | exact HB.out)):Aside0 (Below w.heap.size w w'):=⟨below_step h hb⟩
theorem kb_ {w W W' w':World}{g:Nat}{row':Option Nat}(_:Aside0 (KeepBut w W g row'))(hb:Below W'.heap.size W' w')(h:KeepBut w W' g none:=by repeat (first | (with_reducible first | exact HK.out | apply KeepBut.set_ | apply keep_drewN | apply keep_drew | apply keep_alloc | refine keep_far ?_ (Aside0.out (by assumption)) _) | exact HK.out)):Aside0 (KeepBut w w' g none):=⟨KeepBut.trans h (KeepBut.of_below hb g none) (.inl rfl)⟩
theorem kk_ {w W W' w':World}{g:Nat}{row':Option Nat}(_:Aside0 (KeepBut w W g row'))(hk:KeepBut W' w' g none)(h:KeepBut w W' g none:=by repeat (first | (with_reducible first | exact HK.out | apply KeepBut.set_ | apply keep_drewN | apply keep_drew | apply keep_alloc | refine keep_far ?_ (Aside0.out (by assumption)) _) | exact HK.out)):Aside0 (KeepBut w w' g none):=⟨KeepBut.trans h hk (.inl rfl)⟩
theorem rb_ {α:Type}{d:Kd α}{e b:Nat}{w W' w':World}{ok:Nat→Prop}{u:Value}{xs:List α}(_:Aside0 (d.R e w b ok u xs))(hb:Below W'.heap.size W' w')(h:d.R e W' b ok u xs:=by (with_reducible repeat (first | apply Kd.R_alloc | apply Kd.R_drewN | apply Kd.R_drew));refine Aside0.out ?_;assumption):Aside0 (d.R e w' b ok u xs):=⟨Kd.R_below h hb⟩
theorem nb_ {α:Type}{d:Kd α}{e b:Nat}{w W' w':World}{ok:Nat→Prop}{u:Value}{xs:List α}(_:Aside0 (Kd.N d e w b ok u xs))(hb:Below W'.heap.size W' w')(h:Kd.N d e W' b ok u xs:=by (with_reducible repeat (first | apply Kd.N_alloc | apply Kd.N_drewN | apply Kd.N_drew));refine Aside0.out ?_;assumption):Aside0 (Kd.N d e w' b ok u xs):=⟨Kd.N_below h hb⟩
theorem fz_ {W:World}{g t:Nat}{cs:Array Value}(h:Aside0 (W.heap[g]?=some (.cells cs t (0,0))))(i:Nat):W.frozen? ⟨g,i,none⟩=false:=blk_frozen h.out i
theorem gL_ {P:Program}{ops:Array Oper}{Q:Exit→Act→World→Prop}{rest:List Oper}{oi:Oper}{a:Act}{w:World}(N:Option Tmp){f:FuncId}{fn:Func}{as0:Array Operand}{ts:Array TypeId}(hf:P.funcs[f]?=some fn)(args:Array Value)(hd:oi.dst=N:=by rfl)(hg:oi.guard=none:=by rfl)(hname:(fn.name == "runtime.NumGoroutine")=false:=by kernel_rfl) (hb:fn.body.isSome=true:=by rfl)
    (hop:oi.op=.call { callee:=.value (.func f),args:=as0,argTypes:=ts }:=by rfl) (hargs:as0.map a.eval=args:=by (try simp only [List.map_toArray,List.map_cons,List.map_nil]);first | done | rfl | (simp only [List.length_drop,List.length_take];rfl))
    (h:Calls P f args w fun e w'=>∃ v,e=.returned v∧wpList P ops Q rest (a.put N v) w'):wpList P ops Q (oi::rest) a w:=goesL_ N hd hg hf hname hb args hop hargs h
theorem vb_ {W W' w':World}{g:Nat}{o:Obj}(_:Aside0 (W.heap[g]?=some o))(hb:Below W'.heap.size W' w')(h:W'.heap[g]?=some o:=by (with_reducible repeat (first | refine blk_drewN ?_ _ | refine blk_drew ?_ | refine blk_alloc ?_ _));refine Aside0.out ?_;assumption):Aside0 (w'.heap[g]?=some o):=⟨blk_below h hb⟩
theorem uf_ {P:Prop}(h:P:=by (repeat (first | (with_reducible refine blk_drewN ?_ _) | (with_reducible refine blk_drew ?_) | (with_reducible refine blk_alloc ?_ _) | (with_reducible refine blk_far ?_ (Aside0.out (by assumption)) _)));refine Aside0.out ?_;assumption):P:=h
theorem uR_ {α:Type}{d:Kd α}{e b:Nat}{w w':World}{ok:Nat→Prop}{u:Value}{xs:List α}(_:Aside0 (d.R e w b ok u xs))(h:d.R e w' b ok u xs:=by (with_reducible repeat (first | apply Kd.R_alloc | apply Kd.R_drewN | apply Kd.R_drew));refine Aside0.out ?_;assumption):d.R e w' b ok u xs:=h
theorem uN_ {α:Type}{d:Kd α}{e b:Nat}{w w':World}{ok:Nat→Prop}{u:Value}{xs:List α}(_:Aside0 (Kd.N d e w b ok u xs))(h:Kd.N d e w' b ok u xs:=by (with_reducible repeat (first | apply Kd.N_alloc | apply Kd.N_drewN | apply Kd.N_drew));refine Aside0.out ?_;assumption):Kd.N d e w' b ok u xs:=h
end Go.Proofs.YtailkppkjhkjpaaDoor.X
end
section
set_option linter.unusedVariables false
namespace Go.Proofs.YtailkppkjhkjpaaDoor
open Go.ChangeShapes Go.WideShapes Go.RowKit
theorem own:ownKnob Tryd.prog.godebug=none:=by kernel_rfl
theorem laidOut:laidOutB Tryd.prog=true:=by kernel_rfl
def litsOf:DataW Unit→List Value
 | .agg l=>l.map fun d=>match d with | .lit (.int k z)=>.int k z | _=>.nilFunc
 | _=>[]
def litsOf2:DataW Unit→List Value
 | .agg l=>(l.map litsOf).flatten
 | _=>[]
noncomputable def putTab (l:List Value):Obj→Obj:=fun
 | .cells _ t frozen=>.cells l.toArray t frozen
 | o=>o
noncomputable def laidWorld (os:Os):World:=
 let w0:=World.holding Tryd.prog os ⟨#[],#[],[]⟩
 { w0 with heap:=((w0.heap.modify 3 (putTab (litsOf Rows.laid_internal_strconv_uint64pow10))).modify 4 (putTab (litsOf Rows.laid_math_bits_deBruijn32tab))).modify 5 (putTab (litsOf Rows.laid_math_bits_deBruijn64tab)) }
noncomputable def laidWorld2 (os:Os):World:=
 let w0:=laidWorld os
 { w0 with heap:=(w0.heap.modify 2 (putTab (litsOf2 Rows.laid_unicode_utf8_acceptRanges))).modify 1 (putTab (litsOf Rows.laid_unicode_utf8_first)) }
set_option maxRecDepth 100000 in
theorem back_met (os:Os)(args:Array Value):laidMet Tryd.prog Rows.fnPlateBackRow.laid ((laidWorld2 os).forCall (fun _ _=>0) ⟨#[],args,[]⟩).memory:=
 laidMet_of_run' 8 (by kernel_rfl) (by kernel_rfl)
end Go.Proofs.YtailkppkjhkjpaaDoor
end
section
namespace Go.Proofs.YtailkppkjhkjpaaDoor.X
open Go.RowKit Go.Proofs.YtailkppkjhkjpaaDoorW.PrintWords Go.Proofs.YtailkppkjhkjpaaDoorW.PrintLast Go.Proofs.YtailkppkjhkjpaaDoorW.PrintMore
attribute [local go_sem] max2_int min2_int max_two min_two max_three min_three max_four min_four
set_option linter.unusedVariables false
set_option linter.unusedSimpArgs false
def errW:Option Int→Value
 | none=>.nilIface
 | some c=>.iface 0 (.int .i64 c)
theorem errW_none:errW none=.nilIface:=rfl
theorem errW_some (c:Int):errW (some c)=.iface 0 (.int .i64 c):=rfl
theorem info5:(Tryd.prog.info? 5).map (fun i=>(i.zero,i.size,i.bytes))=some (some (.int .u8 0),1,1):=by kernel_rfl
theorem info23:(Tryd.prog.info? 23).map (fun i=>(i.zero,i.size,i.bytes))=some (some (.slice none 0 0),1,24):=by kernel_rfl
theorem info37:(Tryd.prog.info? 37).map (fun i=>(i.zero,i.size,i.bytes))=some (some (.agg #[(.int .i64 0),(.int .i64 0)]),2,16):=by kernel_rfl
theorem info89:(Tryd.prog.info? 89).map (fun i=>(i.zero,i.size,i.bytes))=some (some (.agg #[(.int .i64 0),(.int .i64 0),(.int .i64 0),(.int .i64 0)]),4,32):=by kernel_rfl
structure S37 where
 f0:Int
 f1:Int
def z37:S37:=⟨(0:Int),(0:Int)⟩
def k37:Kd S37:=Kd.iso (Kd.pair (Kd.int .i64) (Kd.int .i64)) (fun x:S37=>(x.f0,x.f1))
theorem k37_open {w:World}{x:S37}{cs:List Value}(h:k37.K w x cs):cs=[.int .i64 x.f0,.int .i64 x.f1]:=by
 obtain⟨_,_,rfl,rfl,rfl⟩:=h;exact rfl
theorem k37_openM {w:World}{base:Nat}{ok:Nat→Prop}{x:S37}{cs:List Value}(h:k37.M w base ok x cs):cs=[.int .i64 x.f0,.int .i64 x.f1]:=by
 obtain⟨_,_,rfl,rfl,rfl⟩:=h;exact rfl
theorem k37_mkM (w:World)(base:Nat)(ok:Nat→Prop)(x:S37)  : k37.M w base ok x [.int .i64 x.f0,.int .i64 x.f1]:=⟨[.int .i64 x.f0],[.int .i64 x.f1],rfl,rfl,rfl⟩
def rd_T37 (xs:List S37)(i:Int):S37:=xs.getD i.toNat z37
theorem at_T37 {w:World}{A:Option Addr}{n:Nat}{xs:List S37}(h:Kd.C k37 w A n xs)(i:Int)(h0:0≤i)(h1:i<n):∃ ad ,A=some ad∧w.cell? (ad.add (i.toNat*2))=some (.int .i64 (rd_T37 xs i).f0)∧w.cell? ⟨(ad.add (i.toNat*2)).block,(ad.add (i.toNat*2)).off+1,none⟩=some (.int .i64 (rd_T37 xs i).f1):=by
 obtain⟨ad,c,e,_,hK,hc0⟩:=Kd.C_get h z37 i h0 h1;have hc:∀ j u,c[j]?=some u→w.cell? (ad.add (i.toNat*2+j))=some u:=hc0;obtain rfl:=k37_open hK;exact⟨ad,e,hc 0 _ rfl,by rw [← add_field _ _ 1 (by omega)];exact hc 1 _ rfl⟩
structure S89 where
 f0:S37
 f1:S37
def z89:S89:=⟨z37,z37⟩
def k89:Kd S89:=Kd.iso (Kd.pair k37 k37) (fun x:S89=>(x.f0,x.f1))
theorem k89_open {w:World}{x:S89}{cs:List Value}(h:k89.K w x cs):cs=[.int .i64 x.f0.f0,.int .i64 x.f0.f1,.int .i64 x.f1.f0,.int .i64 x.f1.f1]:=by
 obtain⟨_,_,rfl,s0,s2⟩:=h;obtain rfl:=k37_open s0;obtain rfl:=k37_open s2;exact rfl
theorem k89_mkM (w:World)(base:Nat)(ok:Nat→Prop)(x:S89)  : k89.M w base ok x [.int .i64 x.f0.f0,.int .i64 x.f0.f1,.int .i64 x.f1.f0,.int .i64 x.f1.f1]:=⟨[.int .i64 x.f0.f0,.int .i64 x.f0.f1],[.int .i64 x.f1.f0,.int .i64 x.f1.f1],rfl,(k37_mkM w base ok x.f0 ),(k37_mkM w base ok x.f1 )⟩
def rd_T89 (xs:List S89)(i:Int):S89:=xs.getD i.toNat z89
theorem at_T89 {w:World}{A:Option Addr}{n:Nat}{xs:List S89}(h:Kd.C k89 w A n xs)(i:Int)(h0:0≤i)(h1:i<n):∃ ad ,A=some ad∧w.cell? (ad.add (i.toNat*4))=some (.int .i64 (rd_T89 xs i).f0.f0)∧w.cell? ⟨(ad.add (i.toNat*4)).block,(ad.add (i.toNat*4)).off+1,none⟩=some (.int .i64 (rd_T89 xs i).f0.f1)∧w.cell? ⟨(ad.add (i.toNat*4)).block,(ad.add (i.toNat*4)).off+2,none⟩=some (.int .i64 (rd_T89 xs i).f1.f0)∧w.cell? ⟨(ad.add (i.toNat*4)).block,(ad.add (i.toNat*4)).off+3,none⟩=some (.int .i64 (rd_T89 xs i).f1.f1):=by
 obtain⟨ad,c,e,_,hK,hc0⟩:=Kd.C_get h z89 i h0 h1;have hc:∀ j u,c[j]?=some u→w.cell? (ad.add (i.toNat*4+j))=some u:=hc0;obtain rfl:=k89_open hK;exact⟨ad,e,hc 0 _ rfl,by rw [← add_field _ _ 1 (by omega)];exact hc 1 _ rfl,by rw [← add_field _ _ 2 (by omega)];exact hc 2 _ rfl,by rw [← add_field _ _ 3 (by omega)];exact hc 3 _ rfl⟩
def rd_L5 (xs:List (List S37))(i:Int):(List S37):=xs.getD i.toNat ([]:List S37)
theorem at_L5 {w:World}{A:Option Addr}{n:Nat}{xs:List (List S37)}(h:Kd.C (Kd.slice 37 k37) w A n xs)(i:Int)(h0:0≤i)(h1:i<n):∃ ad A0 c0,A=some ad∧w.cell? (ad.add i.toNat)=some (.slice A0 (rd_L5 xs i).length c0)∧(rd_L5 xs i).length≤c0∧k37.C w A0 (rd_L5 xs i).length (rd_L5 xs i):=by
 obtain⟨ad,c,e,_,hK,hc0⟩:=Kd.C_get h ([]:List S37) i h0 h1;have hc:∀ j u,c[j]?=some u→w.cell? (ad.add (i.toNat*1+j))=some u:=hc0;obtain⟨A0,c0,rfl,l0,g0⟩:=hK;exact⟨ad,A0,c0,e,by have hq:=hc 0 _ rfl;rwa [Nat.mul_one,Nat.add_zero] at hq,l0,g0⟩
end Go.Proofs.YtailkppkjhkjpaaDoor.X
end
section
set_option linter.unusedVariables false
set_option linter.unusedSimpArgs false
namespace Go.Proofs.YtailkppkjhkjpaaDoor.X
open Go.RowKit Go.Shelf Go.Proofs.YtailkppkjhkjpaaDoorW.PrintWords Go.Proofs.YtailkppkjhkjpaaDoorW.PrintLast Go.Proofs.YtailkppkjhkjpaaDoorW.PrintMore
attribute [local go_sem] Oper.semAt_some
def KpE (n₀ Bs:Nat)(A B:World):Prop:=A.heap.size≤B.heap.size∧∀ k,(k<n₀∨k=Bs)→k<A.heap.size→B.heap[k]?=A.heap[k]?
theorem KpE.refl (n₀ Bs:Nat)(A:World):KpE n₀ Bs A A:=⟨Nat.le_refl _,fun _ _ _=>rfl⟩
theorem KpE.trans {n₀ Bs:Nat}{A B C:World}(h:KpE n₀ Bs A B)(k:KpE n₀ Bs B C):KpE n₀ Bs A C:=
 ⟨Nat.le_trans h.1 k.1,fun i hi hl=>(k.2 i hi (Nat.lt_of_lt_of_le hl h.1)).trans (h.2 i hi hl)⟩
theorem KpE.below {n₀ Bs:Nat}{A B:World}(h:Below A.heap.size A B):KpE n₀ Bs A B:=⟨h.size,fun k _ hl=>h.block k hl⟩
theorem KpE.alloc (n₀ Bs:Nat)(A:World)(o:Obj):KpE n₀ Bs A (A.alloc o):=KpE.below (below_alloc (Below.refl _ _) o)
theorem KpE.set {n₀ Bs:Nat}(A:World){p:Addr}(h1:n₀≤p.block)(h2:p.block≠Bs)(u:Value):KpE n₀ Bs A (A.setCell p u):=
 ⟨by simp [World.setCell],fun k hk _=>Below.heap_setCell A p u k (by omega)⟩
theorem KpE.cell {n₀ Bs:Nat}{A B:World}(h:KpE n₀ Bs A B){p:Addr}(hp:p.block<n₀∨p.block=Bs)(hl:p.block<A.heap.size):B.cell? p=A.cell? p:=World.cell?_of_block (w:=A) (h.2 p.block hp hl)
theorem KpE.putObj {n₀ Bs:Nat}(W:World)(l:Nat)(o':Obj)(h1:n₀≤l)(h2:l≠Bs):KpE n₀ Bs W (W.putObj l o'):=
 ⟨by simp [World.putObj],fun k hk _=>World.putObj_heap_other (by omega)⟩
def edS (zs:List S37)(j:Nat):S89:=⟨zs.getD j z37,zs.getD ((j+1) % zs.length) z37⟩
def edV (x:S89):Value:=.agg #[.int .i64 x.f0.f0,.int .i64 x.f0.f1,.int .i64 x.f1.f0,.int .i64 x.f1.f1]
theorem blk_add (ad:Addr)(n:Nat):(ad.add n).block=ad.block:=by unfold Addr.add;split <;> rfl
theorem at_pt {W:World}{A:Option Addr}{zs:List S37}(hC:Kd.C k37 W A zs.length zs)(k:Nat)(h:k<zs.length):
  ∃ ad,A=some ad∧W.cell? (ad.add (k*2))=some (.int .i64 (zs.getD k z37).f0)∧W.cell? ⟨(ad.add (k*2)).block,(ad.add (k*2)).off+1,none⟩=some (.int .i64 (zs.getD k z37).f1):=
 at_T37 hC (k:Int) (by omega) (by omega)
set_option maxRecDepth 100000 in
set_option maxHeartbeats 2000000 in
theorem edges1_in (n:Nat)(hn:1≤n)(l Bs n₀:Nat)(A:Option Addr)(c:Nat)(zs:List S37)(hreach:zs.length≤1000000)
  (hAb:∀ ad,A=some ad→ad.block<n₀) (J Jx:Nat→World→Prop)
  (hJ:∀ k A B,J k A→Below A.heap.size A B→J k B)
  (hY:∀ k W,k<zs.length→J k W→YieldAt Fence.wide (n-1) Tryd.prog l #[.int .i64 (k:Int),edV (edS zs k)] W fun e W' =>
   (e=.returned (.bool true)∧J (k+1) W'∧KpE n₀ Bs W W')∨(e=.returned (.bool false)∧Jx (k+1) W'))
  (W:World) (hBl:Bs<W.heap.size) (hn₀:n₀≤W.heap.size) (hBs:W.cell? ⟨Bs,0,none⟩=some (.slice A zs.length c)) (hC0:Kd.C k37 W A zs.length zs) (h0:J 0 W) :
  CallsIn Fence.wide n Tryd.prog 81 #[.func (.yield l) #[] #[],.pointer (some ⟨Bs,0,none⟩)] W fun e W'=>(∃ v,e=.returned v) ∧
   (J zs.length W'∨∃ k,k≤zs.length∧Jx k W'):=by
 refine callsIn_of_wp Tryd.func81 rfl trivial ?_ rfl;simp only [Tryd.ntmps81,List.size_toArray,List.length_cons,List.length_nil,Nat.reduceAdd,Nat.reduceSub,Array.replicate_succ,Array.replicate_zero,List.push_toArray,List.append_toArray,List.nil_append,List.cons_append];gi_wp2;gi_loopw [7] (fun i wr=>∃ k:Nat,k≤zs.length∧i=.int .i64 k∧J k wr∧KpE n₀ Bs W wr)
  (fun i _=>zs.length-(intOf i).toNat)
 case atStart=>exact⟨0,Nat.zero_le _,rfl,h0,KpE.refl _ _ _⟩
 case round =>
  obtain⟨k,hk,rfl,hJ0,hnx⟩:=hrel;by_cases hlt:k<zs.length
  ·
   have hm:(k+1) % zs.length<zs.length:=Nat.mod_lt _ (by omega);obtain⟨ad,hA,hx0,hx1⟩:=at_pt hC0 k hlt;obtain⟨ad',hA',hy0,hy1⟩:=at_pt hC0 ((k+1) % zs.length) hm;obtain rfl:ad=ad':=by rw [hA] at hA';exact Option.some.inj hA'
   clear hA';have hE0:edV (edS zs k)=.agg #[.int .i64 (zs.getD k z37).f0,.int .i64 (zs.getD k z37).f1,.int .i64 (zs.getD ((k+1) % zs.length) z37).f0,.int .i64 (zs.getD ((k+1) % zs.length) z37).f1]:=rfl;have hE:=Aside0.mk hE0;clear hE0;have hT:Int.tmod ((k:Int)+1) (zs.length:Int)=(((k+1) % zs.length:Nat):Int):=rfl;have hT':=Aside0.mk hT;clear hT;generalize (k+1) % zs.length=m at *;have cBs:wr.cell? ⟨Bs,0,none⟩=some (.slice A zs.length c):=(hnx.cell (.inr rfl) hBl).trans hBs;subst hA;have hadb:ad.block<n₀:=hAb ad rfl;have old:∀ (o:Nat),wr.cell? ⟨ad.block,o,none⟩=W.cell? ⟨ad.block,o,none⟩:=fun o=>hnx.cell (p:=⟨ad.block,o,none⟩) (.inl hadb) (Nat.lt_of_lt_of_le hadb hn₀)
   have old':∀ (o:Nat),wr.cell? (ad.add o)=W.cell? (ad.add o):=fun o=>hnx.cell (p:=ad.add o) (.inl (by rw [blk_add];exact hadb)) (by rw [blk_add];exact Nat.lt_of_lt_of_le hadb hn₀)
   rw [← old'] at hx0 hy0;rw [blk_add,← old] at hx1 hy1;rw [← blk_add ad (k*2)] at hx1;rw [← blk_add ad (m*2)] at hy1;clear old old';generalize (zs.getD k z37).f0=px at *;generalize (zs.getD k z37).f1=py at *;generalize (zs.getD m z37).f0=qx at *;generalize (zs.getD m z37).f1=qy at *;have hu28:=Tryd.underlying37;gi_wp2;have hJ2:=hJ _ _ _ hJ0 (below_drew1 (below_alloc (Below.refl _ wr) (.cells #[.int .i64 px,.int .i64 py] 37)));obtain⟨fn,tmps,assign,body,hy,hR⟩:=YieldAt.mono (R':=fun e W'=>∃ b,e=.returned (.bool b)∧Aside0 ((b=true∧J (k+1) W'∧KpE n₀ Bs ((wr.alloc (.cells #[.int .i64 px,.int .i64 py] 37)).drew) W')∨(b=false∧Jx (k+1) W')))
    (hY k _ hlt hJ2) (fun e W' h=>by
    rcases h with ⟨rfl,h1,h2⟩ | ⟨rfl,h1⟩
    ·
     exact⟨true,rfl,⟨.inl ⟨rfl,h1,h2⟩⟩⟩
    ·
     exact⟨false,rfl,⟨.inr ⟨rfl,h1⟩⟩⟩)
   rw [hE.out] at hy;have later:∀ a v,wr.cell? a=some v→((wr.alloc (.cells #[.int .i64 px,.int .i64 py] 37)).drew).cell? a=some v:=fun a v h=>pw_cell_below (below_drew1 (below_alloc (Below.refl _ wr) _)) h
   have cBs2:=later _ _ cBs;have hy0':=later _ _ hy0;have hy1':=later _ _ hy1;clear later;have hT:=hT'.out;have hw:IntKind.i64.wrap ((k:Int)+1)=(k:Int)+1:=IntWalk.i64_in _ (by omega);have hz:¬ zs.length=0:=by omega
   have hz2:¬ ((zs.length:Int)=0):=by omega
   have hz3:((zs.length:Int)==0)=false:=by simpa using hz2
   gi_region_with (refine hR.mono ?_;rintro e W3 ⟨b,rfl,hb⟩)
   all_goals
    have hb':=hb.out;clear hb;have hn1:KpE n₀ Bs W (wr.alloc (.cells #[.int .i64 px,.int .i64 py] 37)).drew:=hnx.trans (KpE.below (below_drew1 (below_alloc (Below.refl _ wr) _)))
    rcases hb' with ⟨rfl,hj3,hk3⟩ | ⟨rfl,hjx⟩
    ·
     gi_wp2;go_roundw
     case rel=>exact⟨k+1,by omega,by simp,hj3,hn1.trans hk3⟩
     case measure=>simp [intOf];omega
    ·
     gi_wp2;refine bodyPost_ret (results_none rfl _ _ _) rfl ?_;exact⟨⟨_,rfl⟩,.inr ⟨k+1,by omega,hjx⟩⟩
  ·
   obtain rfl:k=zs.length:=by omega
   gi_wp2;go_end0;exact⟨⟨_,rfl⟩,.inl hJ0⟩
end Go.Proofs.YtailkppkjhkjpaaDoor.X
end
section
set_option linter.unusedVariables false
set_option linter.unusedSimpArgs false
namespace Mort
abbrev Pt:=Int × Int
abbrev Seg:=Pt × Pt
def ptOk (p:Pt):Bool:=decide (0≤p.1∧p.1≤9∧0≤p.2∧p.2≤9)
def segOk (s:Seg):Bool:=ptOk s.1 && (ptOk s.2 && !(s.1.1==s.2.1 && s.1.2==s.2.2))
def cross (a b c:Pt):Int:=(b.1-a.1)*(c.2-a.2)-(b.2-a.2)*(c.1-a.1)
def dot (a b c:Pt):Int:=(b.1-a.1)*(c.1-a.1)+(b.2-a.2)*(c.2-a.2)
def sgn (n:Int):Int:=if n<0 then -1 else if n>0 then 1 else 0
def has (s:Seg)(p:Pt):Bool:=cross s.1 s.2 p==0 && (decide (0≤dot s.1 s.2 p) && decide (dot s.1 s.2 p≤dot s.1 s.2 s.2))
def meet (s t:Seg):Bool:=
 (decide (sgn (cross s.1 s.2 t.1)*sgn (cross s.1 s.2 t.2)<0) && decide (sgn (cross t.1 t.2 s.1)*sgn (cross t.1 t.2 s.2)<0)) ||
 (has s t.1 || (has s t.2 || (has t s.1 || has t s.2)))
def segTurn (a b c:Pt):Int:=if ptOk a && (ptOk b && ptOk c) then sgn (cross a b c) else 0
def segHas (s:Seg)(p:Pt):Bool:=segOk s && (ptOk p && has s p)
def segMeet (s t:Seg):Bool:=segOk s && (segOk t && meet s t)
def far (s:Seg)(p:Pt):Int × Int:=
 if dot s.1 s.2 p≤0 then (dot s.1 p p,1) else if dot s.1 s.2 s.2≤dot s.1 s.2 p then (dot s.2 p p,1)
 else (cross s.1 s.2 p*cross s.1 s.2 p,dot s.1 s.2 s.2)
def val (f:Int × Int):Rat:=(f.1:Rat) / (f.2:Rat)
theorem cast_cross (a b c:Pt):((cross a b c:Int):Rat)=((b.1:Rat)-a.1)*(c.2-a.2)-(b.2-a.2)*(c.1-a.1):=by
 unfold cross;push_cast;rfl
theorem cast_le {a b:Int}:(a:Rat)≤(b:Rat) ↔ a≤b:=Rat.intCast_le_intCast
theorem cast_lt {a b:Int}:(a:Rat)<(b:Rat) ↔ a<b:=Rat.intCast_lt_intCast
def px (a b:Pt)(t:Rat):Rat:=a.1+t*(b.1-a.1)
def py (a b:Pt)(t:Rat):Rat:=a.2+t*(b.2-a.2)
theorem meet_iff (s t:Seg):meet s t=true ↔ (sgn (cross s.1 s.2 t.1)*sgn (cross s.1 s.2 t.2)<0∧sgn (cross t.1 t.2 s.1)*sgn (cross t.1 t.2 s.2)<0) ∨
  has s t.1=true∨has s t.2=true∨has t s.1=true∨has t s.2=true:=by
 unfold meet;simp
def nearEnds (s t:Seg)(x:Rat):Prop:=val (far s t.1)≤x∨val (far s t.2)≤x∨val (far t s.1)≤x∨val (far t s.2)≤x
theorem nearEnds.mono {s t:Seg}{x y:Rat}(h:nearEnds s t x)(k:x≤y):nearEnds s t y:=by
 rcases h with h | h | h | h
 ·
  exact .inl (Rat.le_trans h k)
 ·
  exact .inr (.inl (Rat.le_trans h k))
 ·
  exact .inr (.inr (.inl (Rat.le_trans h k)))
 ·
  exact .inr (.inr (.inr (Rat.le_trans h k)))
def rc (ax ay bx cy x y:Rat):Rat:=(bx-ax)*(y-ay)-(cy-ay)*(x-ax)
def crsQ (ax ay bx cy x y:Rat):Bool:=
 (decide (ay≤y) && (decide (y<cy) && decide (0<rc ax ay bx cy x y))) || (decide (cy≤y) && (decide (y<ay) && decide (rc ax ay bx cy x y<0)))
def xorAll:List Bool→Bool
 | []=>false
 | b::l=>b ^^ xorAll l
theorem xorAll_append (l m:List Bool):xorAll (l++m)=(xorAll l ^^ xorAll m):=by
 induction l with
 | nil=>simp [xorAll]
 | cons b l ih=>simp [xorAll,ih]
theorem xorAll_map {α:Type}(l:List α)(f g:α→Bool):xorAll (l.map fun x=>f x ^^ g x)=(xorAll (l.map f) ^^ xorAll (l.map g)):=by
 induction l with
 | nil=>rfl
 | cons x l ih =>
  simp only [List.map_cons,xorAll,ih];cases f x <;> cases g x <;> cases xorAll (l.map f) <;> cases xorAll (l.map g) <;> rfl
def turned (l:List Pt):List Pt:=l.drop 1++l.take 1
def edges (l:List Pt):List Seg:=l.zip (turned l)
theorem turned_length (l:List Pt):(turned l).length=l.length:=by
 unfold turned;simp;omega
theorem edges_length (l:List Pt):(edges l).length=l.length:=by
 unfold edges;simp [turned_length]
theorem edges_fst (l:List Pt):(edges l).map Prod.fst=l:=by
 unfold edges;exact List.map_fst_zip (by rw [turned_length];exact Nat.le_refl _)
theorem edges_snd (l:List Pt):(edges l).map Prod.snd=turned l:=by
 unfold edges;exact List.map_snd_zip (by rw [turned_length];exact Nat.le_refl _)
theorem closed (l:List Pt)(g:Pt→Bool):xorAll ((edges l).map fun e=>g e.1 ^^ g e.2)=false:=by
 rw [xorAll_map (edges l) (fun e=>g e.1) (fun e=>g e.2)];have h1:(edges l).map (fun e=>g e.1)=l.map g:=by
  rw [show (fun e:Seg=>g e.1)=g ∘ Prod.fst from rfl,← List.map_map,edges_fst]
 have h2:(edges l).map (fun e=>g e.2)=(turned l).map g:=by
  rw [show (fun e:Seg=>g e.2)=g ∘ Prod.snd from rfl,← List.map_map,edges_snd]
 rw [h1,h2];unfold turned;rw [List.map_append,xorAll_append,Bool.xor_comm (xorAll ((l.drop 1).map g)),← xorAll_append,← List.map_append,List.take_append_drop];cases xorAll (l.map g) <;> rfl
def par (l:List Pt)(x y:Rat):Bool:=xorAll ((edges l).map fun e=>crsQ e.1.1 e.1.2 e.2.1 e.2.2 x y)
theorem np {x y:Rat}(hx:x≤0)(hy:0≤y):x*y≤0:=by
 have:=Rat.mul_nonneg (by grind:0 ≤ -x) hy;grind
def nd (s:Seg):Prop:=0<dot s.1 s.2 s.2
theorem segOk_iff (s:Seg):segOk s=true ↔ ptOk s.1=true∧ptOk s.2=true∧¬ (s.1.1=s.2.1∧s.1.2=s.2.2):=by
 unfold segOk;by_cases a:s.1.1=s.2.1 <;> by_cases b:s.1.2=s.2.2 <;> simp [a,b]
theorem ptOk_iff (p:Pt):ptOk p=true ↔ 0≤p.1∧p.1≤9∧0≤p.2∧p.2≤9:=by unfold ptOk;simp
def joined (s t:Seg):Bool := !has s t.2 && !has t s.1
def ed (l:List Pt)(i:Nat):Seg:=(l.getD i (0,0),l.getD ((i+1) % l.length) (0,0))
theorem edges_getElem? (l:List Pt)(i:Nat)(h:i<l.length):(edges l)[i]?=some (ed l i):=by
 have h2:(turned l)[i]?=some (l.getD ((i+1) % l.length) (0,0)):=by
  unfold turned;by_cases k:i+1<l.length
  ·
   rw [Nat.mod_eq_of_lt k,List.getElem?_append_left (by simp;omega),List.getElem?_drop,Nat.add_comm 1 i];rw [List.getD_eq_getElem?_getD,List.getElem?_eq_getElem k];rfl
  ·
   have e:i+1=l.length:=by omega
   rw [e,Nat.mod_self,List.getElem?_append_right (by simp;omega)];have:i-(l.drop 1).length=0:=by simp;omega
   rw [this,List.getElem?_take_of_lt (by omega),List.getD_eq_getElem?_getD,List.getElem?_eq_getElem (by omega)];rfl
 unfold edges;rw [List.getElem?_zip_eq_some];refine⟨?_,h2⟩;unfold ed;simp only;rw [List.getD_eq_getElem?_getD,List.getElem?_eq_getElem h];rfl
theorem mem_edges {l:List Pt}{e:Seg}:e∈edges l ↔ ∃ i,i<l.length∧e=ed l i:=by
 rw [List.mem_iff_getElem?];constructor
 ·
  rintro⟨i,hi⟩;have hlt:=(List.getElem?_eq_some_iff.1 hi).1;rw [edges_length] at hlt;rw [edges_getElem? l i hlt] at hi;exact⟨i,hlt,by injection hi with hi;exact hi.symm⟩
 ·
  rintro⟨i,hi,rfl⟩;exact⟨i,edges_getElem? l i hi⟩
def pairOk (l:List Pt)(i j:Nat):Bool:=
 if j≤i then true else if j=i+1 then joined (ed l i) (ed l j) else if i=0∧j+1=l.length then joined (ed l j) (ed l i) else !meet (ed l i) (ed l j)
def loopOk (l:List Pt):Bool:=
 (decide (3≤l.length) && decide (l.length≤8)) && ((edges l).all segOk && (List.range l.length).all fun i=>(List.range l.length).all fun j=>pairOk l i j)
def onB (l:List Pt)(p:Pt):Bool:=(edges l).any fun e=>has e p
def inOf (l:List Pt)(p:Pt):Int:=if onB l p then 0 else if par l p.1 p.2 then 1 else -1
def apartB (a b:List Pt):Bool:=(edges a).all fun e=>(edges b).all fun f => !meet e f
theorem loopOk_iff (l:List Pt):loopOk l=true ↔ 3≤l.length∧l.length≤8∧(∀ e∈edges l,segOk e=true)∧∀ i j,i<l.length→j<l.length→pairOk l i j=true:=by
 unfold loopOk;simp only [Bool.and_eq_true,decide_eq_true_eq,List.all_eq_true,List.mem_range];constructor
 ·
  rintro⟨⟨h1,h2⟩,h3,h4⟩;exact⟨h1,h2,h3,fun i j hi hj=>h4 i hi j hj⟩
 ·
  rintro⟨h1,h2,h3,h4⟩;exact⟨⟨h1,h2⟩,h3,fun i hi j hj=>h4 i j hi hj⟩
theorem onB_iff (l:List Pt)(p:Pt):onB l p=true ↔ ∃ e∈edges l,has e p=true:=by unfold onB;simp
theorem onB_false (l:List Pt)(p:Pt):onB l p=false ↔ ∀ e∈edges l,has e p=false:=by unfold onB;simp
theorem apartB_iff (a b:List Pt):apartB a b=true ↔ ∀ e∈edges a,∀ f∈edges b,meet e f=false:=by unfold apartB;simp
structure Motion (f:Pt→Pt) (s:Int):Prop where
 sq:s*s=1
 dot:∀ a b c,dot (f a) (f b) (f c)=Mort.dot a b c
 cross:∀ a b c,cross (f a) (f b) (f c)=s*Mort.cross a b c
def segMap (f:Pt→Pt)(s:Seg):Seg:=(f s.1,f s.2)
theorem Motion.sign {f:Pt→Pt}{s:Int}(h:Motion f s):s=1∨s = -1:=by
 have:=h.sq;have:(s-1)*(s+1)=0:=by grind
 rcases Int.mul_eq_zero.1 this with k | k
 ·
  left;omega
 ·
  right;omega
theorem Motion.has {f:Pt→Pt}{s:Int}(h:Motion f s)(e:Seg)(p:Pt):has (segMap f e) (f p)=has e p:=by
 unfold Mort.has segMap;simp only [h.dot,h.cross]
 rcases h.sign with rfl | rfl
 ·
  simp
 ·
  have:(-1*Mort.cross e.1 e.2 p==0)=(Mort.cross e.1 e.2 p==0):=by
   rw [Bool.eq_iff_iff];simp
  rw [this]
theorem Motion.far {f:Pt→Pt}{s:Int}(h:Motion f s)(e:Seg)(p:Pt):far (segMap f e) (f p)=far e p:=by
 unfold Mort.far segMap;simp only [h.dot,h.cross];have:s*Mort.cross e.1 e.2 p*(s*Mort.cross e.1 e.2 p)=Mort.cross e.1 e.2 p*Mort.cross e.1 e.2 p:=by
  have:=h.sq;have k:s*Mort.cross e.1 e.2 p*(s*Mort.cross e.1 e.2 p)=(s*s)*(Mort.cross e.1 e.2 p*Mort.cross e.1 e.2 p):=by grind
  rw [k,this,Int.one_mul]
 rw [this]
theorem Motion.inj {f:Pt→Pt}{s:Int}(h:Motion f s){a b:Pt}(hf:nd (a,b)):¬ ((f a).1=(f b).1∧(f a).2=(f b).2):=by
 rintro⟨e1,e2⟩;have:=h.dot a b b;unfold nd at hf;simp only at hf;rw [← this] at hf;unfold Mort.dot at hf;rw [e1,e2] at hf;simp at hf
abbrev Plate:=List Pt × List (List Pt)
def nested (o:List Pt)(hs:List (List Pt)):Bool:=
 hs.all fun h=>inOf o (h.getD 0 (0,0))==1
def plateOk (P:Plate):Bool:=
 (decide (P.2.length≤2) && loopOk P.1) && (P.2.all loopOk && (P.2.all (apartB P.1) && (nested P.1 P.2 && match P.2 with
  | [a,b]=>apartB a b && (inOf b (a.getD 0 (0,0)) == -1 && inOf a (b.getD 0 (0,0)) == -1)
  | _=>true)))
theorem mul_bound {x y:Int}(hx : -9≤x)(hx':x≤9)(hy : -9≤y)(hy':y≤9): -81≤x*y∧x*y≤81:=by
 have h1:0≤(9-x)*(9+y):=Int.mul_nonneg (by omega) (by omega);have h2:0≤(9+x)*(9-y):=Int.mul_nonneg (by omega) (by omega);have h3:0≤(9-x)*(9-y):=Int.mul_nonneg (by omega) (by omega);have h4:0≤(9+x)*(9+y):=Int.mul_nonneg (by omega) (by omega);constructor <;> grind
theorem cross_rev (a b p:Pt):cross b a p = - cross a b p:=by unfold cross;grind
theorem meet_comm (s t:Seg):meet s t=meet t s:=by
 rw [Bool.eq_iff_iff,meet_iff,meet_iff];constructor
 ·
  rintro (⟨a,b⟩ | a | a | a | a)
  ·
   exact .inl ⟨b,a⟩
  ·
   exact .inr (.inr (.inr (.inl a)))
  ·
   exact .inr (.inr (.inr (.inr a)))
  ·
   exact .inr (.inl a)
  ·
   exact .inr (.inr (.inl a))
 ·
  rintro (⟨a,b⟩ | a | a | a | a)
  ·
   exact .inl ⟨b,a⟩
  ·
   exact .inr (.inr (.inr (.inl a)))
  ·
   exact .inr (.inr (.inr (.inr a)))
  ·
   exact .inr (.inl a)
  ·
   exact .inr (.inr (.inl a))
def ndl (l:List Pt):Prop:=∀ e∈edges l,nd e
section
variable {l h:List Pt} (hl:ndl l) (hh:ndl h) (ap:apartB l h=true)
include hl hh ap
end
theorem inOf_zero (l:List Pt)(p:Pt):inOf l p=0 ↔ onB l p=true:=by
 unfold inOf;split
 ·
  simp [*]
 ·
  split <;> simp [*]
theorem apartB_comm (a b:List Pt):apartB a b=apartB b a:=by
 rw [Bool.eq_iff_iff,apartB_iff,apartB_iff];constructor
 ·
  intro h e he f hf;rw [meet_comm];exact h f hf e he
 ·
  intro h e he f hf;rw [meet_comm];exact h f hf e he
theorem loop_pos {l:List Pt}(h:loopOk l=true):0<l.length:=by have:=((loopOk_iff l).1 h).1;omega
def back (s:Seg):Seg:=(s.2,s.1)
theorem segMeet_iff (s t:Seg):segMeet s t=true ↔ segOk s=true∧segOk t=true∧meet s t=true:=by unfold segMeet;simp
end Mort
end
section
namespace Go.Proofs.YtailkppkjhkjpaaDoor.X
open Go.RowKit Go.Proofs.YtailkppkjhkjpaaDoorW.PrintWords Go.Proofs.YtailkppkjhkjpaaDoorW.PrintLast Go.Proofs.YtailkppkjhkjpaaDoorW.PrintMore
attribute [local go_sem] max2_int min2_int max_two min_two max_three min_three max_four min_four
set_option linter.unusedVariables false
set_option linter.unusedSimpArgs false
def spec_l6In.f (a0:Int)(a1:Int)(a2:Int):Option (Bool):=if a0≥a1 then (some (decide (a0≤a2))) else (some false)
set_option maxHeartbeats 8000000 in
set_option maxRecDepth 100000 in
theorem spec_l6In.calls (a0:Int)(a1:Int)(a2:Int)(r:Bool)(w:World)(h:spec_l6In.f a0 a1 a2=some r):
  Calls Tryd.prog 52 #[.int .i64 a0,.int .i64 a1,.int .i64 a2] w fun e w'=>e=.returned (.bool r)∧Drawn0 w w':=by
 have H:(if a0≥a1 then (some (decide (a0≤a2))) else (some false))=some r:=h;clear h;by_cases c4:a0≥a1
 ·
  rw [if_pos c4] at H;have c4b0:decide (a1≤a0)=true:=decide_eq_true c4;clear c4;obtain rfl:=Option.some.inj H;go_enter Tryd.func52,Tryd.ntmps52;go_wp2;go_ret;exact⟨by first | rfl | (simp;done) | (simp [*];done),by repeat (first | exact Drawn0.refl _ | apply Drawn0.step)⟩
 ·
  rw [if_neg c4] at H;have c4b0:decide (a1≤a0)=false:=decide_eq_false c4;clear c4;obtain rfl:=Option.some.inj H;go_enter Tryd.func52,Tryd.ntmps52;go_wp2;go_ret;exact⟨by first | rfl | (simp;done) | (simp [*];done),by repeat (first | exact Drawn0.refl _ | apply Drawn0.step)⟩
def IsS83 (w0 W:World)(g:Nat)(f0:List Int)(f1:Int):Prop:=∃ A0 c0,W.heap[g]?=some (.cells #[.slice A0 f0.length c0,.int .i64 f1] 83 (0,0))∧w0.heap.size≤g∧Kd.C (Kd.int .u8) w0 A0 f0.length f0
theorem IsS83.grown {w0 W:World}{g:Nat}{f0:List Int}{f1:Int}{W1:World}{row:Option Nat}(h:IsS83 w0 W g f0 f1)(hw:W.grownBy W1 row)(hne:some g≠row):IsS83 w0 W1 g f0 f1:=by
 obtain⟨A0,c0,hb,hg,hr0⟩:=h;exact⟨A0,c0,blk_grown hb hw hne,hg,hr0⟩
theorem IsS83.own_neN {w0 W:World}{g:Nat}{f0:List Int}{f1:Int}{α:Type}{d:Kd α}{e:Nat}{base:Nat}{ok:Nat→Prop}{v:Value}{xs:List α}(h:IsS83 w0 W g f0 f1)(ho:Kd.N d e W base ok v xs)(ht:e≠83):some g≠v.ownBlock:=by
 obtain⟨A0,c0,hb,hg,hr0⟩:=h;exact Kd.N_ne ho hb ht
theorem IsS83.fresh {w0 W:World}{g:Nat}{f0:List Int}{f1:Int}(h:IsS83 w0 W g f0 f1):∀ k,W.heap.size≤k→k≠g:=by
 obtain⟨A0,c0,hb,hg,hr0⟩:=h;exact Kd.freshB hb
theorem IsS83.kept {w0 W:World}{g:Nat}{f0:List Int}{f1:Int}{W1:World}{S:Nat→Prop}(h:IsS83 w0 W g f0 f1)(hk:Kept W W1 S)(hne:¬ S g):IsS83 w0 W1 g f0 f1:=by
 obtain⟨A0,c0,hb,hg,hr0⟩:=h;exact⟨A0,c0,blk_kept hb hk hne,hg,hr0⟩
theorem IsS83.below {w0 W:World}{g:Nat}{f0:List Int}{f1:Int}{W1:World}(h:IsS83 w0 W g f0 f1)(hw:Below W.heap.size W W1):IsS83 w0 W1 g f0 f1:=h.grown (grown_of_below hw none) (by simp)
theorem IsS83.alloc {w0 W:World}{g:Nat}{f0:List Int}{f1:Int}(h:IsS83 w0 W g f0 f1)(o:Obj):IsS83 w0 (W.alloc o) g f0 f1:=h.below (below_alloc (Below.refl _ _) o)
theorem IsS83.drewN {w0 W:World}{g:Nat}{f0:List Int}{f1:Int}(h:IsS83 w0 W g f0 f1)(m:Nat):IsS83 w0 (W.drewN m) g f0 f1:=h
theorem IsS83.drew {w0 W:World}{g:Nat}{f0:List Int}{f1:Int}(h:IsS83 w0 W g f0 f1):IsS83 w0 W.drew g f0 f1:=h
theorem IsS83.at_ {w0 W:World}{g:Nat}{f0:List Int}{f1:Int}{w':World}{m:Nat}(hq:W.drewN m=w')(h:IsS83 w0 W g f0 f1):IsS83 w0 w' g f0 f1:=by subst hq;exact IsS83.drewN h m
theorem IsS83.apart {w0 W:World}{g:Nat}{f0:List Int}{f1:Int}{α:Type}{d:Kd α}{e:Nat}{base:Nat}{ok:Nat→Prop}{v:Value}{xs:List α}(h:IsS83 w0 W g f0 f1)(ho:d.R e W base ok v xs)(ht:∀ q,q∈e::d.E→q≠83):d.R e W base (fun k=>ok k∧k≠g) v xs:=by
 obtain⟨A0,c0,hb,hg,hr0⟩:=h;exact Kd.R_types ho hb ht
theorem IsS83.own_ne {w0 W:World}{g:Nat}{f0:List Int}{f1:Int}{α:Type}{d:Kd α}{e:Nat}{base:Nat}{ok:Nat→Prop}{v:Value}{xs:List α}(h:IsS83 w0 W g f0 f1)(ho:d.R e W base ok v xs)(ht:e≠83):some g≠v.ownBlock:=by
 obtain⟨A0,c0,hb,hg,hr0⟩:=h;exact Kd.R_ne ho hb ht
theorem IsS83.lt {w0 W:World}{g:Nat}{f0:List Int}{f1:Int}(h:IsS83 w0 W g f0 f1):g<W.heap.size:=by
 obtain⟨A0,c0,hb,hg,hr0⟩:=h;exact blk_lt hb
theorem IsS83.ge {w0 W:World}{g:Nat}{f0:List Int}{f1:Int}(h:IsS83 w0 W g f0 f1):w0.heap.size≤g:=by
 obtain⟨A0,c0,hb,hg,hr0⟩:=h;exact hg
theorem IsS83.ne_blk {w0 W:World}{g:Nat}{f0:List Int}{f1:Int}{a:Nat}{cs:Array Value}{t:TypeId}{fr:Nat × Nat}(h:IsS83 w0 W g f0 f1)(hb2:W.heap[a]?=some (.cells cs t fr))(ht:t≠83):g≠a:=by
 obtain⟨A0,c0,hb,hg,hr0⟩:=h;rintro rfl;rw [hb] at hb2;injection hb2 with hb2;injection hb2 with _ ht2;exact ht ht2.symm
theorem IsS83.far {w0 W:World}{g:Nat}{f0:List Int}{f1:Int}{p:Addr}(h:IsS83 w0 W g f0 f1)(hne:g≠p.block)(u:Value):IsS83 w0 (W.setCell p u) g f0 f1:=by
 obtain⟨A0,c0,hb,hg,hr0⟩:=h;exact⟨A0,c0,blk_far hb hne u,hg,hr0⟩
theorem cellS83_0 {W:World}{g:Nat}{A0:Option Addr}{c0:Nat}{f0:List Int}{f1:Int}(h:W.heap[g]?=some (.cells #[.slice A0 f0.length c0,.int .i64 f1] 83 (0,0))):W.cell? ⟨g,0,none⟩=some (.slice A0 f0.length c0):=(blk_cell h 0).trans rfl
theorem cellS83_1 {W:World}{g:Nat}{A0:Option Addr}{c0:Nat}{f0:List Int}{f1:Int}(h:W.heap[g]?=some (.cells #[.slice A0 f0.length c0,.int .i64 f1] 83 (0,0))):W.cell? ⟨g,1,none⟩=some (.int .i64 f1):=(blk_cell h 1).trans rfl
theorem IsS83.set_1 {w0 W:World}{g:Nat}{f0:List Int}{f1:Int}(h:IsS83 w0 W g f0 f1)(x:Int):IsS83 w0 (W.setCell ⟨g,1,none⟩ (.int .i64 x)) g f0 x:=by
 obtain⟨A0,c0,hb,hg,hr0⟩:=h;exact⟨A0,c0,by simpa using blk_set hb 1 (.int .i64 x),hg,hr0⟩
theorem IsS83.new (w0 W:World)(A0:Option Addr)(c0:Nat)(f0:List Int)(f1:Int)(hB:Below w0.heap.size w0 W)(hr0:Kd.C (Kd.int .u8) w0 A0 f0.length f0):IsS83 w0 (W.alloc (.cells #[.slice A0 f0.length c0,.int .i64 f1] 83)) W.heap.size f0 f1:=⟨A0,c0,by simpa using heap_alloc_new W _,hB.size,hr0⟩
def spec_l6Rd_pick.j0:Nat→Int→Bool→List Int→Int→Option (Int × Int)
 | 0,_,_,_,_=>none
 | k+1,x1,x24,x1000,x1001=>if x24=true then (some (0,x1001)) else (if (wrap64 (x1001-1))<(x1000.length:Int) then (if 0≤(wrap64 (x1001-1)) then (if x1=0 then (none) else (some (Int.tmod (wrap64 (rd x1000 (wrap64 (x1001-1)))) x1,x1001))) else (none)) else (if (x1000.length:Int)=0 then (none) else (if 0≤(Int.tmod (wrap64 (x1001-1)) (x1000.length:Int)) then (if (Int.tmod (wrap64 (x1001-1)) (x1000.length:Int))<(x1000.length:Int) then (if 0≤(Int.tmod (wrap64 ((wrap64 ((wrap64 (x1001-1))*7))+3)) (x1000.length:Int)) then (if (Int.tmod (wrap64 ((wrap64 ((wrap64 (x1001-1))*7))+3)) (x1000.length:Int))<(x1000.length:Int) then (if x1=0 then (none) else (some (Int.tmod (Go.bits .xor .i64 (wrap64 ((wrap64 ((wrap64 ((wrap64 ((wrap64 (rd x1000 (Int.tmod (wrap64 (x1001-1)) (x1000.length:Int))))*131))+(wrap64 ((wrap64 (rd x1000 (Int.tmod (wrap64 ((wrap64 ((wrap64 (x1001-1))*7))+3)) (x1000.length:Int))))*1117))))+(wrap64 ((wrap64 (x1001-1))*29))))+(wrap64 ((wrap64 (Int.tdiv (wrap64 (x1001-1)) (x1000.length:Int)))*53)))) (wrap64 (Int.tdiv (wrap64 ((wrap64 ((wrap64 ((wrap64 ((wrap64 (rd x1000 (Int.tmod (wrap64 (x1001-1)) (x1000.length:Int))))*131))+(wrap64 ((wrap64 (rd x1000 (Int.tmod (wrap64 ((wrap64 ((wrap64 (x1001-1))*7))+3)) (x1000.length:Int))))*1117))))+(wrap64 ((wrap64 (x1001-1))*29))))+(wrap64 ((wrap64 (Int.tdiv (wrap64 (x1001-1)) (x1000.length:Int)))*53)))) 64))) x1,x1001))) else (none)) else (none)) else (none)) else (none))))
def spec_l6Rd_pick.f (k:Nat)(s0_0:List Int)(s0_1:Int)(a1:Int):Option (Int × Int):=if a1<1 then (spec_l6Rd_pick.j0 k a1 true s0_0 (wrap64 (s0_1+1))) else (spec_l6Rd_pick.j0 k a1 ((s0_0.length:Int)==0) s0_0 (wrap64 (s0_1+1)))
set_option maxHeartbeats 8000000 in
set_option maxRecDepth 100000 in
theorem spec_l6Rd_pick.calls (k:Nat)(g:Nat)(s0_0:List Int)(s0_1:Int)(a1:Int)(r1:Int)(r2:Int)(w0 w:World)(hI:IsS83 w0 w g s0_0 s0_1)(hB:Below w0.heap.size w0 w)(h:spec_l6Rd_pick.f k s0_0 s0_1 a1=some (r1,r2)):
  Calls Tryd.prog 55 #[.pointer (some ⟨g,0,none⟩),.int .i64 a1] w fun e w'=>e=.returned (.int .i64 r1)∧IsS83 w0 w' g s0_0 r2∧Below w0.heap.size w0 w'∧KeepBut w w' g none:=by
 have HI0:=Aside0.mk hI;have HK:=a0_ (KeepBut.refl w g none);have HL:=Aside0.mk hB.size;clear hI;have HW0:=Aside0.mk hB.size;have HB:=Aside0.mk hB;clear hB;have H:(if a1<1 then (spec_l6Rd_pick.j0 k a1 true s0_0 (wrap64 (s0_1+1))) else (spec_l6Rd_pick.j0 k a1 ((s0_0.length:Int)==0) s0_0 (wrap64 (s0_1+1))))=some (r1,r2):=h;clear h;have HC3:=Aside0.mk H;clear H;obtain⟨ASz4_0,cSz4_0,HGz4,hgz4,HSz4_0⟩:=HI0.out;have hcz4_0:=cellS83_0 HGz4;have hcz4_1:=cellS83_1 HGz4;have hfz4_1:=blk_frozen HGz4 1;clear HGz4 hgz4;go_enter Tryd.func55,Tryd.ntmps55;go_upto_region 2 with (fail)
 repeat (go_quiet (fail);go_upto_region 2 with (fail))
 go_cut [24] (fun v24 wc=>∃ (kq:Nat) (x24_2:Bool),v24=.bool x24_2∧Aside0 (spec_l6Rd_pick.j0 kq a1 x24_2 s0_0 (wrap64 (s0_1+1))=some (r1,r2))∧Aside0 (kq≤k)∧Aside0 (IsS83 w0 wc g s0_0 (wrap64 (s0_1+1)))∧Aside0 (KeepBut w wc g none)∧Aside0 (Below w0.heap.size w0 wc))
 case first =>
  have H:=HC3.out;clear HC3;by_cases c5:a1<1
  ·
   rw [if_pos c5] at H;have c5b0:decide (a1<1)=true:=decide_eq_true c5;clear c5
   (first | rw [c5b0] | (simp only [i64_w,i32_w];rw [c5b0]) | skip)
   have H':=Aside0.mk H;clear H;go_wp2
   repeat (go_quiet (fail);try go_wp2)
   go_meet
   case rel=>exact⟨_,(true),(by first | rfl | (simp;done) | (simp [*];done)),H',⟨by first | omega | exact Nat.le_refl _⟩,⟨by repeat (first | (with_reducible first | exact HI0.out | apply IsS83.alloc | apply IsS83.drewN | apply IsS83.drew | apply IsS83.set_1) | exact HI0.out)⟩,⟨by repeat (first | (with_reducible first | exact HK.out | apply KeepBut.set_ | apply keep_drewN | apply keep_drew | apply keep_alloc) | exact HK.out)⟩,⟨by repeat (first | (with_reducible first | exact HB.out | apply below_alloc | apply pw_below_drewN | apply below_drew1 | refine below_set ?_ (IsS83.ge HI0.out)) | exact HB.out)⟩⟩
  ·
   rw [if_neg c5] at H;have c5b0:decide (a1<1)=false:=decide_eq_false c5;clear c5
   (first | rw [c5b0] | (simp only [i64_w,i32_w];rw [c5b0]) | skip)
   have H':=Aside0.mk H;clear H;obtain⟨ASz6_0,cSz6_0,HGz6,hgz6,HSz6_0⟩:=HI0.out;have hcz6_0:=cellS83_0 HGz6;have hcz6_1:=cellS83_1 HGz6;have hfz6_1:=blk_frozen HGz6 1;clear HGz6 hgz6;go_wp2
   repeat (go_quiet (fail);try go_wp2)
   go_meet
   case rel=>exact⟨_,(((s0_0.length:Int)==0)),(by first | rfl | (simp;done) | (simp [*];done)),H',⟨by first | omega | exact Nat.le_refl _⟩,⟨by repeat (first | (with_reducible first | exact HI0.out | apply IsS83.alloc | apply IsS83.drewN | apply IsS83.drew | apply IsS83.set_1) | exact HI0.out)⟩,⟨by repeat (first | (with_reducible first | exact HK.out | apply KeepBut.set_ | apply keep_drewN | apply keep_drew | apply keep_alloc) | exact HK.out)⟩,⟨by repeat (first | (with_reducible first | exact HB.out | apply below_alloc | apply pw_below_drewN | apply below_drew1 | refine below_set ?_ (IsS83.ge HI0.out)) | exact HB.out)⟩⟩
 case rest =>
  clear HC3;obtain⟨kq,x24_2,rfl,HA,HJ2,HI0,HK,HB⟩:=hcut
  cases kq with
  | zero=>exact absurd HA.out (by simp [spec_l6Rd_pick.j0])
  | succ kj2 =>
   have H:=HA.out;clear HA;simp only [spec_l6Rd_pick.j0] at H;by_cases c7:x24_2=true
   ·
    subst c7;rw [if_pos rfl] at H
    (try dsimp only at H)
    simp only [Option.some.injEq,Prod.mk.injEq] at H;obtain⟨rfl,rfl⟩:=H;go_wp2
    repeat (go_quiet (fail);try go_wp2)
    go_ret;exact⟨rr_,by repeat (first | (with_reducible first | exact HI0.out | apply IsS83.alloc | apply IsS83.drewN | apply IsS83.drew | apply IsS83.set_1) | exact HI0.out),by repeat (first | (with_reducible first | exact HB.out | apply below_alloc | apply pw_below_drewN | apply below_drew1 | refine below_set ?_ (IsS83.ge HI0.out)) | exact HB.out),by repeat (first | (with_reducible first | exact HK.out | apply KeepBut.set_ | apply keep_drewN | apply keep_drew | apply keep_alloc) | exact HK.out)⟩
   ·
    replace c7:=Bool.eq_false_iff.mpr c7;subst c7;rw [if_neg (show ¬ (false=true) by decide)] at H
    (try dsimp only at H)
    by_cases c8:(wrap64 ((wrap64 (s0_1+1))-1))<(s0_0.length:Int)
    ·
     rw [if_pos c8] at H;have c8b0:decide ((wrap64 ((wrap64 (s0_1+1))-1))<(s0_0.length:Int))=true:=decide_eq_true c8;clear c8;obtain⟨ji9,hji9⟩:∃ j_:Int,(wrap64 ((wrap64 (s0_1+1))-1))=j_:=⟨_,rfl⟩;replace H:(if 0≤(ji9) then (if a1=0 then (none) else (some (Int.tmod (wrap64 (rd s0_0 (ji9))) a1,(wrap64 (s0_1+1))))) else (none))=some (r1,r2):=by first | (rw [hji9] at H;exact H) | (simp only [hji9] at H ⊢;exact H)
     (try rw [hji9] at c8b0)
     have hji9w:(IntKind.i64.wrap ((wrap64 (s0_1+1))-1))=ji9:=(i64_w _).trans hji9;by_cases c10:0≤(ji9)
     ·
      rw [if_pos c10] at H;have c10b0:decide (0≤(ji9))=true:=decide_eq_true c10;clear c10;by_cases c11:a1=0
      ·
       rw [if_pos c11] at H;exact absurd H (by simp)
      ·
       rw [if_neg c11] at H;have c11b0:(a1==0)=false:=beq_eq_false_iff_ne.mpr c11;have c11b1:(a1 != 0)=true:=bne_iff_ne.mpr c11;simp only [Option.some.injEq,Prod.mk.injEq] at H;obtain⟨rfl,rfl⟩:=H;obtain⟨ASz12_0,cSz12_0,HGz12,hgz12,HSz12_0⟩:=HI0.out;have hcz12_0:=cellS83_0 HGz12;have hcz12_1:=cellS83_1 HGz12;have hfz12_1:=blk_frozen HGz12 1;clear HGz12 hgz12;have p101:0≤((ji9):Int):=od_;have q101:(ji9)<(s0_0.length:Int):=od_;obtain⟨ad101,e101,hx101_0⟩:=Kd.at_int HSz12_0 (ji9) p101 q101;cases e101;replace hx101_0:=pw_cell_below HB.out hx101_0;replace p101:=eq_true p101;replace q101:=eq_true q101;go_wp2
       repeat (go_quiet (fail);try go_wp2)
       go_ret;exact⟨by first | rfl | (simp [errW_none,errW_some] <;> rfl) | (simp only [← hji9];first | rfl | (simp [errW_none,errW_some] <;> rfl)) | (simp [*,errW_none,errW_some] <;> rfl),by repeat (first | (with_reducible first | exact HI0.out | apply IsS83.alloc | apply IsS83.drewN | apply IsS83.drew | apply IsS83.set_1) | exact HI0.out),by repeat (first | (with_reducible first | exact HB.out | apply below_alloc | apply pw_below_drewN | apply below_drew1 | refine below_set ?_ (IsS83.ge HI0.out)) | exact HB.out),by repeat (first | (with_reducible first | exact HK.out | apply KeepBut.set_ | apply keep_drewN | apply keep_drew | apply keep_alloc) | exact HK.out)⟩
     ·
      rw [if_neg c10] at H;exact absurd H (by simp)
    ·
     rw [if_neg c8] at H;have c8b0:decide ((wrap64 ((wrap64 (s0_1+1))-1))<(s0_0.length:Int))=false:=decide_eq_false c8;clear c8;by_cases c13:(s0_0.length:Int)=0
     ·
      rw [if_pos c13] at H;exact absurd H (by simp)
     ·
      rw [if_neg c13] at H;have c13b0:((s0_0.length:Int)==0)=false:=beq_eq_false_iff_ne.mpr c13;have c13b1:((s0_0.length:Int) != 0)=true:=bne_iff_ne.mpr c13;have c13b2:¬ (s0_0=[]):=fun h_=>c13 (by rw [h_];rfl)
      obtain⟨ji14,hji14⟩:∃ j_:Int,(Int.tmod (wrap64 ((wrap64 (s0_1+1))-1)) (s0_0.length:Int))=j_:=⟨_,rfl⟩;replace H:(if 0≤(ji14) then (if (ji14)<(s0_0.length:Int) then (if 0≤(Int.tmod (wrap64 ((wrap64 ((wrap64 ((wrap64 (s0_1+1))-1))*7))+3)) (s0_0.length:Int)) then (if (Int.tmod (wrap64 ((wrap64 ((wrap64 ((wrap64 (s0_1+1))-1))*7))+3)) (s0_0.length:Int))<(s0_0.length:Int) then (if a1=0 then (none) else (some (Int.tmod (Go.bits .xor .i64 (wrap64 ((wrap64 ((wrap64 ((wrap64 ((wrap64 (rd s0_0 (ji14)))*131))+(wrap64 ((wrap64 (rd s0_0 (Int.tmod (wrap64 ((wrap64 ((wrap64 ((wrap64 (s0_1+1))-1))*7))+3)) (s0_0.length:Int))))*1117))))+(wrap64 ((wrap64 ((wrap64 (s0_1+1))-1))*29))))+(wrap64 ((wrap64 (Int.tdiv (wrap64 ((wrap64 (s0_1+1))-1)) (s0_0.length:Int)))*53)))) (wrap64 (Int.tdiv (wrap64 ((wrap64 ((wrap64 ((wrap64 ((wrap64 (rd s0_0 (ji14)))*131))+(wrap64 ((wrap64 (rd s0_0 (Int.tmod (wrap64 ((wrap64 ((wrap64 ((wrap64 (s0_1+1))-1))*7))+3)) (s0_0.length:Int))))*1117))))+(wrap64 ((wrap64 ((wrap64 (s0_1+1))-1))*29))))+(wrap64 ((wrap64 (Int.tdiv (wrap64 ((wrap64 (s0_1+1))-1)) (s0_0.length:Int)))*53)))) 64))) a1,(wrap64 (s0_1+1))))) else (none)) else (none)) else (none)) else (none))=some (r1,r2):=by first | (rw [hji14] at H;exact H) | (simp only [hji14] at H ⊢;exact H)
      by_cases c15:0≤(ji14)
      ·
       rw [if_pos c15] at H;have c15b0:decide (0≤(ji14))=true:=decide_eq_true c15;clear c15;by_cases c16:(ji14)<(s0_0.length:Int)
       ·
        rw [if_pos c16] at H;have c16b0:decide ((ji14)<(s0_0.length:Int))=true:=decide_eq_true c16;clear c16;obtain⟨ji17,hji17⟩:∃ j_:Int,(Int.tmod (wrap64 ((wrap64 ((wrap64 ((wrap64 (s0_1+1))-1))*7))+3)) (s0_0.length:Int))=j_:=⟨_,rfl⟩;replace H:(if 0≤(ji17) then (if (ji17)<(s0_0.length:Int) then (if a1=0 then (none) else (some (Int.tmod (Go.bits .xor .i64 (wrap64 ((wrap64 ((wrap64 ((wrap64 ((wrap64 (rd s0_0 (ji14)))*131))+(wrap64 ((wrap64 (rd s0_0 (ji17)))*1117))))+(wrap64 ((wrap64 ((wrap64 (s0_1+1))-1))*29))))+(wrap64 ((wrap64 (Int.tdiv (wrap64 ((wrap64 (s0_1+1))-1)) (s0_0.length:Int)))*53)))) (wrap64 (Int.tdiv (wrap64 ((wrap64 ((wrap64 ((wrap64 ((wrap64 (rd s0_0 (ji14)))*131))+(wrap64 ((wrap64 (rd s0_0 (ji17)))*1117))))+(wrap64 ((wrap64 ((wrap64 (s0_1+1))-1))*29))))+(wrap64 ((wrap64 (Int.tdiv (wrap64 ((wrap64 (s0_1+1))-1)) (s0_0.length:Int)))*53)))) 64))) a1,(wrap64 (s0_1+1))))) else (none)) else (none))=some (r1,r2):=by first | (rw [hji17] at H;exact H) | (simp only [hji17] at H ⊢;exact H)
        by_cases c18:0≤(ji17)
        ·
         rw [if_pos c18] at H;have c18b0:decide (0≤(ji17))=true:=decide_eq_true c18;clear c18;by_cases c19:(ji17)<(s0_0.length:Int)
         ·
          rw [if_pos c19] at H;have c19b0:decide ((ji17)<(s0_0.length:Int))=true:=decide_eq_true c19;clear c19;by_cases c20:a1=0
          ·
           rw [if_pos c20] at H;exact absurd H (by simp)
          ·
           rw [if_neg c20] at H;have c20b0:(a1==0)=false:=beq_eq_false_iff_ne.mpr c20;have c20b1:(a1 != 0)=true:=bne_iff_ne.mpr c20;simp only [Option.some.injEq,Prod.mk.injEq] at H;obtain⟨rfl,rfl⟩:=H;obtain⟨ASz21_0,cSz21_0,HGz21,hgz21,HSz21_0⟩:=HI0.out;have hcz21_0:=cellS83_0 HGz21;have hcz21_1:=cellS83_1 HGz21;have hfz21_1:=blk_frozen HGz21 1;clear HGz21 hgz21;have p102:0≤((ji14):Int):=od_;have q102:(ji14)<(s0_0.length:Int):=od_;obtain⟨ad102,e102,hx102_0⟩:=Kd.at_int HSz21_0 (ji14) p102 q102;cases e102;replace hx102_0:=pw_cell_below HB.out hx102_0;replace p102:=eq_true p102;replace q102:=eq_true q102;have p103:0≤((ji17):Int):=od_;have q103:(ji17)<(s0_0.length:Int):=od_;obtain⟨ad103,e103,hx103_0⟩:=Kd.at_int HSz21_0 (ji17) p103 q103;obtain rfl:ad102=ad103:=(by injection e103);replace hx103_0:=pw_cell_below HB.out hx103_0;replace p103:=eq_true p103;replace q103:=eq_true q103;go_wp2
           repeat (go_quiet (fail);try go_wp2)
           go_ret;exact⟨by first | rfl | (simp [errW_none,errW_some] <;> rfl) | (simp only [← hji14,← hji17];first | rfl | (simp [errW_none,errW_some] <;> rfl)) | (simp [*,errW_none,errW_some] <;> rfl),by repeat (first | (with_reducible first | exact HI0.out | apply IsS83.alloc | apply IsS83.drewN | apply IsS83.drew | apply IsS83.set_1) | exact HI0.out),by repeat (first | (with_reducible first | exact HB.out | apply below_alloc | apply pw_below_drewN | apply below_drew1 | refine below_set ?_ (IsS83.ge HI0.out)) | exact HB.out),by repeat (first | (with_reducible first | exact HK.out | apply KeepBut.set_ | apply keep_drewN | apply keep_drew | apply keep_alloc) | exact HK.out)⟩
         ·
          rw [if_neg c19] at H;exact absurd H (by simp)
        ·
         rw [if_neg c18] at H;exact absurd H (by simp)
       ·
        rw [if_neg c16] at H;exact absurd H (by simp)
      ·
       rw [if_neg c15] at H;exact absurd H (by simp)
end Go.Proofs.YtailkppkjhkjpaaDoor.X
end
section
set_option linter.unusedVariables false
namespace Go.Proofs.YtailkppkjhkjpaaDoor.X
open Go.RowKit Go.Proofs.YtailkppkjhkjpaaDoorW.PrintWords Go.Proofs.YtailkppkjhkjpaaDoorW.PrintLast Go.Proofs.YtailkppkjhkjpaaDoorW.PrintMore
theorem hI_ {P:Prop}(h:P:=by repeat (first | (with_reducible first | exact HI0.out | apply IsS83.alloc | apply IsS83.drewN | apply IsS83.drew | apply IsS83.set_1 | refine IsS83.far ?_ (Aside0.out (by assumption)) _) | exact HI0.out)):P:=h
theorem hBs_ {P:Prop}(h:P:=by repeat (first | (with_reducible first | exact HB.out | apply below_alloc | apply pw_below_drewN | apply below_drew1 | refine below_set ?_ (IsS83.ge HI0.out) | refine below_set ?_ (Aside0.out (by assumption))) | exact HB.out)):P:=h
theorem sl_ {w0 W W':World}{g gb:Nat}{b:List Int}{p:Int}(_:Aside0 (IsS83 w0 W g b p))(hg:gb=W'.heap.size)(h:IsS83 w0 W' g b p:=by repeat (first | (with_reducible first | exact HI0.out | apply IsS83.alloc | apply IsS83.drewN | apply IsS83.drew | apply IsS83.set_1 | refine IsS83.far ?_ (Aside0.out (by assumption)) _) | exact HI0.out)):Aside0 (g≠gb):=⟨by rw [hg];exact Nat.ne_of_lt (IsS83.lt h)⟩
theorem sr_ {w0 W W':World}{g gb:Nat}{b:List Int}{p:Int}(_:Aside0 (IsS83 w0 W g b p))(hg:gb=W'.heap.size)(h:IsS83 w0 W' g b p:=by repeat (first | (with_reducible first | exact HI0.out | apply IsS83.alloc | apply IsS83.drewN | apply IsS83.drew | apply IsS83.set_1 | refine IsS83.far ?_ (Aside0.out (by assumption)) _) | exact HI0.out)):Aside0 (gb≠g):=⟨by rw [hg];exact Nat.ne_of_gt (IsS83.lt h)⟩
end Go.Proofs.YtailkppkjhkjpaaDoor.X
end
section
namespace Go.Proofs.YtailkppkjhkjpaaDoor.X
open Go.RowKit Go.Proofs.YtailkppkjhkjpaaDoorW.PrintWords Go.Proofs.YtailkppkjhkjpaaDoorW.PrintLast Go.Proofs.YtailkppkjhkjpaaDoorW.PrintMore
attribute [local go_sem] max2_int min2_int max_two min_two max_three min_three max_four min_four
set_option linter.unusedVariables false
set_option linter.unusedSimpArgs false
def spec_l6Open.f (l0:List Int):Option (List Int × Int):=if (l0.length:Int)>2000 then (if 2000≤(l0.length:Int) then (some (l0.take 2000,0)) else (none)) else (some (l0,0))
set_option maxHeartbeats 8000000 in
set_option maxRecDepth 100000 in
theorem spec_l6Open.calls (A0:Option Addr)(c0:Nat)(l0:List Int)(r1:List Int)(r2:Int)(w0 w:World)(hB:Below w0.heap.size w0 w)(hr0:Kd.C (Kd.int .u8) w0 A0 l0.length l0)(hc0:l0.length≤c0)(h:spec_l6Open.f l0=some (r1,r2)):
  Calls Tryd.prog 23 #[.slice A0 l0.length c0] w fun e w'=>∃ g_:Nat,e=.returned (.pointer (some ⟨g_,0,none⟩))∧IsS83 w0 w' g_ r1 r2∧Below w0.heap.size w0 w'∧Below w.heap.size w w':=by
 have hu83:=Tryd.underlying83;have HR0:=Aside0.mk hr0;have HC0:=Aside0.mk hc0;clear hr0 hc0;have HBW:=Aside0.mk (Below.refl w.heap.size w);have HW0:=Aside0.mk hB.size;have HB:=Aside0.mk hB;clear hB;have H:(if (l0.length:Int)>2000 then (if 2000≤(l0.length:Int) then (some (l0.take 2000,0)) else (none)) else (some (l0,0)))=some (r1,r2):=h;clear h;by_cases c2:(l0.length:Int)>2000
 ·
  rw [if_pos c2] at H;have c2b0:decide (2000<(l0.length:Int))=true:=decide_eq_true c2;have c2b1:decide (2000<l0.length)=true:=decide_eq_true (by omega);clear c2;by_cases c3:2000≤(l0.length:Int)
  ·
   rw [if_pos c3] at H;have c3b0:=eq_true c3;have c3b1:decide (2000≤(l0.length:Int))=true:=decide_eq_true c3;clear c3;simp only [Option.some.injEq,Prod.mk.injEq] at H;obtain⟨rfl,rfl⟩:=H;obtain⟨i04,hi04,_,hsz4,_⟩:=info_parts info5;obtain⟨hcut4,hA4,hC4⟩:=print_take_of (P:=Tryd.prog) (Value.int .u8) 0 22 5 .i64 Tryd.underlying22 hi04 hsz4 A0 c0 l0 2000 (by omega) (of_decide_eq_true (by first | (with_reducible assumption) | assumption)) HC0.out;have HR331:=Aside0.mk (Kd.C_of_reads (h1:=fun _=>rfl) (hA4 _ (Kd.reads_of_C HR0.out)));have HC331:=Aside0.mk hC4;clear hA4 hC4 hi04 hsz4;go_enter Tryd.func23,Tryd.ntmps23;go_wp2_with (first | ((with_reducible refine gate_dst (N:=10) rfl ?_);refine box_event ?hg (N:=10) ?hd (cs:=#[.slice A0 (l0.take 2000).length c0,.int .i64 0]) (t:=83) ?hr ?_;(case hd=>rfl);(case hg=>rfl);(case hr=>first | (go_simp;done) | (go_simp;rfl));intro gb332 hg w5 hbox hb;have n0_:=Aside0.mk (below_step HBW.out hb);have n1_:=Aside0.mk (below_step (by repeat (first | (with_reducible first | exact HB.out | apply below_alloc | apply pw_below_drewN | apply below_drew1) | exact HB.out)) hb);have n2_:=Aside0.mk (hbox);have n3_:=Aside0.mk ((by rw [hg];exact (below_size (by repeat (first | (with_reducible first | exact HBW.out | apply below_alloc | apply pw_below_drewN | apply below_drew1) | exact HBW.out))):w.heap.size≤gb332));have n4_:=Aside0.mk ((Nat.le_trans HW0.out (by rw [hg];exact (below_size (by repeat (first | (with_reducible first | exact HBW.out | apply below_alloc | apply pw_below_drewN | apply below_drew1) | exact HBW.out))):w.heap.size≤gb332):w0.heap.size≤gb332));clear HBW;clear HB;have HBW:=n0_;have HB:=n1_;have BK332:=n2_;have GW332:=n3_;have GE332:=n4_;clear n0_ n1_ n2_ n3_ n4_;clear hb hbox hg));go_ret
   exact⟨_,rfl,(show IsS83 w0 _ gb332 (l0.take 2000) 0 from ⟨_,_,by (with_reducible repeat (first | refine blk_drewN ?_ _ | refine blk_drew ?_ | refine blk_alloc ?_ _));exact BK332.out,GE332.out,HR331.out⟩),by repeat (first | (with_reducible first | exact HB.out | apply below_alloc | apply pw_below_drewN | apply below_drew1 | refine below_set ?_ GE332.out) | exact HB.out),by repeat (first | (with_reducible first | exact HBW.out | apply below_alloc | apply pw_below_drewN | apply below_drew1 | refine below_set ?_ GW332.out) | exact HBW.out)⟩
  ·
   rw [if_neg c3] at H;exact absurd H (by simp)
 ·
  rw [if_neg c2] at H;have c2b0:decide (2000<(l0.length:Int))=false:=decide_eq_false c2;have c2b1:decide (2000<l0.length)=false:=decide_eq_false (by omega);clear c2;simp only [Option.some.injEq,Prod.mk.injEq] at H;obtain⟨rfl,rfl⟩:=H;go_enter Tryd.func23,Tryd.ntmps23;go_wp2_with (first | ((with_reducible refine gate_dst (N:=10) rfl ?_);refine box_event ?hg (N:=10) ?hd (cs:=#[.slice A0 l0.length c0,.int .i64 0]) (t:=83) ?hr ?_;(case hd=>rfl);(case hg=>rfl);(case hr=>first | (go_simp;done) | (go_simp;rfl));intro gb333 hg w6 hbox hb;have n0_:=Aside0.mk (below_step HBW.out hb);have n1_:=Aside0.mk (below_step (by repeat (first | (with_reducible first | exact HB.out | apply below_alloc | apply pw_below_drewN | apply below_drew1) | exact HB.out)) hb);have n2_:=Aside0.mk (hbox);have n3_:=Aside0.mk ((by rw [hg];exact (below_size (by repeat (first | (with_reducible first | exact HBW.out | apply below_alloc | apply pw_below_drewN | apply below_drew1) | exact HBW.out))):w.heap.size≤gb333));have n4_:=Aside0.mk ((Nat.le_trans HW0.out (by rw [hg];exact (below_size (by repeat (first | (with_reducible first | exact HBW.out | apply below_alloc | apply pw_below_drewN | apply below_drew1) | exact HBW.out))):w.heap.size≤gb333):w0.heap.size≤gb333));clear HBW;clear HB;have HBW:=n0_;have HB:=n1_;have BK333:=n2_;have GW333:=n3_;have GE333:=n4_;clear n0_ n1_ n2_ n3_ n4_;clear hb hbox hg));go_ret
  exact⟨_,rfl,(show IsS83 w0 _ gb333 l0 0 from ⟨_,_,by (with_reducible repeat (first | refine blk_drewN ?_ _ | refine blk_drew ?_ | refine blk_alloc ?_ _));exact BK333.out,GE333.out,HR0.out⟩),by repeat (first | (with_reducible first | exact HB.out | apply below_alloc | apply pw_below_drewN | apply below_drew1 | refine below_set ?_ GE333.out) | exact HB.out),by repeat (first | (with_reducible first | exact HBW.out | apply below_alloc | apply pw_below_drewN | apply below_drew1 | refine below_set ?_ GW333.out) | exact HBW.out)⟩
end Go.Proofs.YtailkppkjhkjpaaDoor.X
end
section
set_option linter.unusedVariables false
set_option linter.unusedSimpArgs false
namespace Go.Proofs.YtailkppkjhkjpaaDoor.X
open Go.RowKit Go.Proofs.YtailkppkjhkjpaaDoorW.PrintWords Go.Proofs.YtailkppkjhkjpaaDoorW.PrintLast Go.Proofs.YtailkppkjhkjpaaDoorW.PrintMore
open Mort
theorem w64 {x:Int}(h : -9223372036854775808≤x)(h':x≤9223372036854775807):wrap64 x=x:=by unfold wrap64;omega
theorem l6In_told (n a b:Int):spec_l6In.f n a b=some (decide (a≤n) && decide (n≤b)):=by
 unfold spec_l6In.f;by_cases h:n≥a
 ·
  rw [if_pos h,decide_eq_true (show a≤n from h)];rfl
 ·
  rw [if_neg h,decide_eq_false (show ¬ a≤n from h)];rfl
def Bytes (l:List Int):Prop:=(∀ x∈l,0≤x∧x≤255)∧l.length≤2000
theorem rd_byte {l:List Int}(h:Bytes l)(i:Int):0≤rd l i∧rd l i≤255:=by
 unfold rd;by_cases hi:i.toNat<l.length
 ·
  rw [List.getD_eq_getElem?_getD,List.getElem?_eq_getElem hi];exact h.1 _ (List.getElem_mem hi)
 ·
  rw [List.getD_eq_getElem?_getD,List.getElem?_eq_none (by omega)];simp
theorem xor_nn {a b:Int}(ha:0≤a)(ha':a<4294967296)(hb:0≤b)(hb':b<4294967296):0≤Go.bits .xor .i64 a b:=by
 obtain⟨x,rfl⟩:=Int.eq_ofNat_of_zero_le ha;obtain⟨y,rfl⟩:=Int.eq_ofNat_of_zero_le hb;have hx:x ^^^ y<2 ^ 32:=Nat.xor_lt_two_pow (by omega) (by omega);have h1:(BitVec.ofInt 64 (x:Int)).toNat=x:=by
  rw [BitVec.ofInt_natCast,BitVec.toNat_ofNat];exact Nat.mod_eq_of_lt (by omega)
 have h2:(BitVec.ofInt 64 (y:Int)).toNat=y:=by
  rw [BitVec.ofInt_natCast,BitVec.toNat_ofNat];exact Nat.mod_eq_of_lt (by omega)
 show 0≤IntKind.i64.wrap ((BitVec.ofInt 64 (x:Int) ^^^ BitVec.ofInt 64 (y:Int)).toNat:Int)
 rw [BitVec.toNat_xor,h1,h2];have:IntKind.i64.wrap ((x ^^^ y:Nat):Int)=wrap64 ((x ^^^ y:Nat):Int):=by
  simp [IntKind.wrap,IntKind.bits,IntKind.signed,wrap64]
  split <;> omega
 rw [this,w64 (by omega) (by omega)];omega
theorem tmod_in {a b:Int}(ha:0≤a)(hb:1≤b):0≤Int.tmod a b∧Int.tmod a b<b:=by
 rw [Int.tmod_eq_emod_of_nonneg ha];exact⟨Int.emod_nonneg _ (by omega),Int.emod_lt_of_pos _ (by omega)⟩
theorem tdiv_in {a b:Int}(ha:0≤a)(hb:1≤b):0≤Int.tdiv a b∧Int.tdiv a b≤a:=by
 rw [Int.tdiv_eq_ediv_of_nonneg ha];exact⟨Int.ediv_nonneg ha (by omega),Int.ediv_le_self _ ha⟩
theorem pick_told {l:List Int}(hl:Bytes l){p n:Int}(hp:0≤p)(hp':p≤1000000)(hn:1≤n)(hn':n≤1000000):
  ∃ r,(∀ k,1≤k→spec_l6Rd_pick.f k l p n=some (r,p+1))∧0≤r∧r<n:=by
 have e1:wrap64 (p+1)=p+1:=w64 (by omega) (by omega);have e2:wrap64 (p+1-1)=p:=by rw [w64 (by omega) (by omega)];omega
 have hlen:=hl.2;by_cases h0:(l.length:Int)=0
 ·
  refine⟨0,fun k hk=>?_,by omega,by omega⟩;obtain⟨k,rfl⟩:∃ m,k=m+1:=⟨k-1,by omega⟩;unfold spec_l6Rd_pick.f;rw [if_neg (by omega),e1];simp only [h0,beq_self_eq_true,spec_l6Rd_pick.j0,if_true]
 ·
  have hb:((l.length:Int)==0)=false:=beq_eq_false_iff_ne.mpr h0;by_cases h1:p<(l.length:Int)
  ·
   have hr:=rd_byte hl p;have e3:wrap64 (rd l p)=rd l p:=w64 (by omega) (by omega);obtain⟨t1,t2⟩:=tmod_in (b:=n) hr.1 hn;refine⟨Int.tmod (rd l p) n,fun k hk=>?_,t1,t2⟩;obtain⟨k,rfl⟩:∃ m,k=m+1:=⟨k-1,by omega⟩;unfold spec_l6Rd_pick.f;rw [if_neg (by omega),e1,hb];simp only [spec_l6Rd_pick.j0,Bool.false_eq_true,if_false];rw [e2,if_pos h1,if_pos hp,if_neg (by omega),e3]
  ·
   have hl1:1≤(l.length:Int):=by omega
   obtain⟨a1,a2⟩:=tmod_in (b:=(l.length:Int)) hp hl1;have e7:wrap64 (p*7)=p*7:=w64 (by omega) (by omega);have e8:wrap64 (p*7+3)=p*7+3:=w64 (by omega) (by omega);obtain⟨b1,b2⟩:=tmod_in (a:=p*7+3) (b:=(l.length:Int)) (by omega) hl1;obtain⟨d1,d2⟩:=tdiv_in (b:=(l.length:Int)) hp hl1;have r1:=rd_byte hl (Int.tmod p (l.length:Int));have r2:=rd_byte hl (Int.tmod (p*7+3) (l.length:Int));have key:∃ X:Int,0≤X∧X<4294967296∧(wrap64 ((wrap64 ((wrap64 ((wrap64 ((wrap64 (rd l (Int.tmod p (l.length:Int))))*131))+(wrap64 ((wrap64 (rd l (Int.tmod (p*7+3) (l.length:Int))))*1117))))+(wrap64 (p*29))))+(wrap64 ((wrap64 (Int.tdiv p (l.length:Int)))*53))))=X:=by
    generalize rd l (Int.tmod p (l.length:Int))=u at *;generalize rd l (Int.tmod (p*7+3) (l.length:Int))=v at *;generalize Int.tdiv p (l.length:Int)=q at *;refine⟨u*131+v*1117+p*29+q*53,by omega,by omega,?_⟩;rw [w64 (x:=u) (by omega) (by omega),w64 (x:=v) (by omega) (by omega),w64 (x:=q) (by omega) (by omega),w64 (x:=u*131) (by omega) (by omega),w64 (x:=v*1117) (by omega) (by omega),w64 (x:=p*29) (by omega) (by omega),w64 (x:=q*53) (by omega) (by omega),w64 (x:=u*131+v*1117) (by omega) (by omega),w64 (x:=u*131+v*1117+p*29) (by omega) (by omega),w64 (by omega) (by omega)]
   obtain⟨X,x1,x2,hX⟩:=key;obtain⟨y1,y2⟩:=tdiv_in (a:=X) (b:=64) x1 (by omega);have e9:wrap64 (Int.tdiv X 64)=Int.tdiv X 64:=w64 (by omega) (by omega);obtain⟨t1,t2⟩:=tmod_in (b:=n) (xor_nn x1 x2 y1 (by omega)) hn;refine⟨Int.tmod (Go.bits .xor .i64 X (Int.tdiv X 64)) n,fun k hk=>?_,t1,t2⟩;obtain⟨k,rfl⟩:∃ m,k=m+1:=⟨k-1,by omega⟩;unfold spec_l6Rd_pick.f;rw [if_neg (by omega),e1,hb];simp only [spec_l6Rd_pick.j0,Bool.false_eq_true,if_false];rw [e2,if_neg h1,if_neg h0,if_pos a1,if_pos a2,e7,e8,if_pos b1,if_pos b2,if_neg (by omega),hX,e9]
theorem open_told (l:List Int)(h:∀ x∈l,(Lit.int .u8 x).wf=true):∃ m,spec_l6Open.f l=some (m,0)∧Bytes m:=by
 have hb:∀ x∈l,0≤x∧x≤255:=fun x hx=>by
  have:=h x hx;simp [Lit.wf,IntKind.min,IntKind.max,IntKind.bits,IntKind.signed] at this;omega
 unfold spec_l6Open.f;by_cases hl:(l.length:Int)>2000
 ·
  rw [if_pos hl,if_pos (by omega)];exact⟨l.take 2000,rfl,fun x hx=>hb x (List.mem_of_mem_take hx),by rw [List.length_take];omega⟩
 ·
  rw [if_neg hl];exact⟨l,rfl,hb,by omega⟩
end Go.Proofs.YtailkppkjhkjpaaDoor.X
end
section
namespace Go.Proofs.YtailkppkjhkjpaaDoor.X
open Go.RowKit Go.Proofs.YtailkppkjhkjpaaDoorW.PrintWords Go.Proofs.YtailkppkjhkjpaaDoorW.PrintLast Go.Proofs.YtailkppkjhkjpaaDoorW.PrintMore
attribute [local go_sem] max2_int min2_int max_two min_two max_three min_three max_four min_four
set_option linter.unusedVariables false
set_option linter.unusedSimpArgs false
theorem eqA37 (d:Nat)(w:World)(x0 y0:Int)(x1 y1:Int):
  (Op.equalIn (d+2) 37 (.agg #[.int .i64 x0,.int .i64 x1]) (.agg #[.int .i64 y0,.int .i64 y1])).run Tryd.prog w=.ok (x0==y0 && (x1==y1)) w:=by
 refine eqA_of Tryd.underlying37 (by kernel_rfl) ?_;refine eqf_cons (by rfl) (by go_simp;rfl) (by go_simp;rfl) (by go_simp) ?_;exact eqf_last (by rfl) (by go_simp;rfl) (by go_simp;rfl) (by go_simp)
def spec_PtOk.f (a0_0:Int)(a0_1:Int):Option (Bool):=(spec_l6In.f a0_0 0 9).bind fun t133=>(if t133=true then ((spec_l6In.f a0_1 0 9).bind fun t134=>(some t134)) else (some false))
set_option maxHeartbeats 8000000 in
set_option maxRecDepth 100000 in
theorem spec_PtOk.calls (a0_0:Int)(a0_1:Int)(r:Bool)(w:World)(h:spec_PtOk.f a0_0 a0_1=some r):
  Calls Tryd.prog 20 #[.agg #[.int .i64 a0_0,.int .i64 a0_1]] w fun e w'=>e=.returned (.bool r)∧Below w.heap.size w w':=by
 have hu37:=Tryd.underlying37;have HB:=a0_ (Below.refl w.heap.size w);have H:((spec_l6In.f a0_0 0 9).bind fun t133=>(if t133=true then ((spec_l6In.f a0_1 0 9).bind fun t134=>(some t134)) else (some false)))=some r:=h;clear h;replace H:=Option.bind_eq_some_iff.mp H;obtain⟨t133,A20,H⟩:=H
 (try dsimp only at H)
 have A2:=Aside0.mk A20;clear A20;by_cases c3:t133=true
 ·
  subst c3;rw [if_pos rfl] at H
  (try dsimp only at H)
  replace H:=Option.bind_eq_some_iff.mp H;obtain⟨t134,A40,H⟩:=H
  (try dsimp only at H)
  have A4:=Aside0.mk A40;clear A40;obtain rfl:=Option.some.inj H;go_enter Tryd.func20,Tryd.ntmps20;go_wp2_with (first | ((with_reducible refine gate_dst (N:=1) rfl ?_);refine bx_ (N:=1) (cs:=#[.int .i64 a0_0,.int .i64 a0_1]) (t:=37) (h:=?_);intro gb132 hg w5 hbox hb;have BK132:=a0_ (hbox);have GW132:=gh_ HB hg;have GE132:=gh_ HB hg;replace HB:=sb_ HB hb;clear hb hbox hg;have hcz6_0:=c20_ BK132;have hcz6_1:=c21_ BK132;have hfz6_0:=fz_ BK132 0;have hfz6_1:=fz_ BK132 1) | ((with_reducible refine gate_callee (f:=52) rfl ?_);refine gL_ (some 5) Tryd.func52 #[.int .i64 a0_0,.int .i64 0,.int .i64 9] (h:=?_);(with_reducible refine (spec_l6In.calls a0_0 0 9 true _ A2.out).mono ?_);rintro e w' ⟨rfl,⟨nd,rfl⟩⟩;refine⟨_,rfl,?_⟩) | (go_at_call 52;(with_reducible refine (spec_l6In.calls a0_1 0 9 t134 _ A4.out).mono ?_);rintro e w' ⟨rfl,⟨nd,rfl⟩⟩));go_ret;exact⟨rr_,hB_⟩
 ·
  replace c3:=Bool.eq_false_iff.mpr c3;subst c3;rw [if_neg (show ¬ (false=true) by decide)] at H
  (try dsimp only at H)
  obtain rfl:=Option.some.inj H;go_enter Tryd.func20,Tryd.ntmps20;go_wp2_with (first | ((with_reducible refine gate_dst (N:=1) rfl ?_);refine bx_ (N:=1) (cs:=#[.int .i64 a0_0,.int .i64 a0_1]) (t:=37) (h:=?_);intro gb132 hg w7 hbox hb;have BK132:=a0_ (hbox);have GW132:=gh_ HB hg;have GE132:=gh_ HB hg;replace HB:=sb_ HB hb;clear hb hbox hg;have hcz8_0:=c20_ BK132;have hcz8_1:=c21_ BK132;have hfz8_0:=fz_ BK132 0;have hfz8_1:=fz_ BK132 1) | ((with_reducible refine gate_callee (f:=52) rfl ?_);refine gL_ (some 5) Tryd.func52 #[.int .i64 a0_0,.int .i64 0,.int .i64 9] (h:=?_);(with_reducible refine (spec_l6In.calls a0_0 0 9 false _ A2.out).mono ?_);rintro e w' ⟨rfl,⟨nd,rfl⟩⟩;refine⟨_,rfl,?_⟩));go_ret;exact⟨rr_,hB_⟩
attribute [local go_sem high] eqA37
def spec_SegOk.f (a0_0:Int)(a0_1:Int)(a0_2:Int)(a0_3:Int):Option (Bool):=(spec_PtOk.f a0_0 a0_1).bind fun t136=>(if t136=true then ((spec_PtOk.f a0_2 a0_3).bind fun t137=>(if t137=true then (some (!(a0_0==a0_2) || (!(a0_1==a0_3)))) else (some false))) else (some false))
set_option maxHeartbeats 8000000 in
set_option maxRecDepth 100000 in
theorem spec_SegOk.calls (a0_0:Int)(a0_1:Int)(a0_2:Int)(a0_3:Int)(r:Bool)(w:World)(h:spec_SegOk.f a0_0 a0_1 a0_2 a0_3=some r):
  Calls Tryd.prog 73 #[.agg #[.int .i64 a0_0,.int .i64 a0_1,.int .i64 a0_2,.int .i64 a0_3]] w fun e w'=>e=.returned (.bool r)∧Below w.heap.size w w':=by
 have hu89:=Tryd.underlying89;have hu37:=Tryd.underlying37;have HB:=a0_ (Below.refl w.heap.size w);have H:((spec_PtOk.f a0_0 a0_1).bind fun t136=>(if t136=true then ((spec_PtOk.f a0_2 a0_3).bind fun t137=>(if t137=true then (some (!(a0_0==a0_2) || (!(a0_1==a0_3)))) else (some false))) else (some false)))=some r:=h;clear h;replace H:=Option.bind_eq_some_iff.mp H;obtain⟨t136,A20,H⟩:=H
 (try dsimp only at H)
 have A2:=Aside0.mk A20;clear A20;by_cases c3:t136=true
 ·
  subst c3;rw [if_pos rfl] at H
  (try dsimp only at H)
  replace H:=Option.bind_eq_some_iff.mp H;obtain⟨t137,A40,H⟩:=H
  (try dsimp only at H)
  have A4:=Aside0.mk A40;clear A40;by_cases c5:t137=true
  ·
   subst c5;rw [if_pos rfl] at H
   (try dsimp only at H)
   obtain rfl:=Option.some.inj H;go_enter Tryd.func73,Tryd.ntmps73;go_wp2_with (first | ((with_reducible refine gate_dst (N:=1) rfl ?_);refine bx_ (N:=1) (cs:=#[.int .i64 a0_0,.int .i64 a0_1,.int .i64 a0_2,.int .i64 a0_3]) (t:=89) (h:=?_);intro gb135 hg w6 hbox hb;have BK135:=a0_ (hbox);have GW135:=gh_ HB hg;have GE135:=gh_ HB hg;replace HB:=sb_ HB hb;clear hb hbox hg;have hcz7_0:=c40_ BK135;have hcz7_1:=c41_ BK135;have hcz7_2:=c42_ BK135;have hcz7_3:=c43_ BK135;have hfz7_0:=fz_ BK135 0;have hfz7_1:=fz_ BK135 1;have hfz7_2:=fz_ BK135 2;have hfz7_3:=fz_ BK135 3) | ((with_reducible refine gate_callee (f:=20) rfl ?_);refine gL_ (some 5) Tryd.func20 #[.agg #[.int .i64 a0_0,.int .i64 a0_1]] (h:=?_);(with_reducible refine (spec_PtOk.calls a0_0 a0_1 true _ A2.out).mono ?_);rintro e w8 ⟨rfl,hb⟩;refine⟨_,rfl,?_⟩;replace BK135:=vb_ BK135 hb;replace HB:=sb_ HB hb;(try clear hb);have hcz9_0:=c40_ BK135;have hcz9_1:=c41_ BK135;have hcz9_2:=c42_ BK135;have hcz9_3:=c43_ BK135;have hfz9_0:=fz_ BK135 0;have hfz9_1:=fz_ BK135 1;have hfz9_2:=fz_ BK135 2;have hfz9_3:=fz_ BK135 3) | (go_at_call 20;(with_reducible refine (spec_PtOk.calls a0_2 a0_3 true _ A4.out).mono ?_);rintro e w10 ⟨rfl,hb⟩;replace BK135:=vb_ BK135 hb;replace HB:=sb_ HB hb;(try clear hb);have hcz11_0:=c40_ BK135;have hcz11_1:=c41_ BK135;have hcz11_2:=c42_ BK135;have hcz11_3:=c43_ BK135;have hfz11_0:=fz_ BK135 0;have hfz11_1:=fz_ BK135 1;have hfz11_2:=fz_ BK135 2;have hfz11_3:=fz_ BK135 3));go_ret;exact⟨rr_,hB_⟩
  ·
   replace c5:=Bool.eq_false_iff.mpr c5;subst c5;rw [if_neg (show ¬ (false=true) by decide)] at H
   (try dsimp only at H)
   obtain rfl:=Option.some.inj H;go_enter Tryd.func73,Tryd.ntmps73;go_wp2_with (first | ((with_reducible refine gate_dst (N:=1) rfl ?_);refine bx_ (N:=1) (cs:=#[.int .i64 a0_0,.int .i64 a0_1,.int .i64 a0_2,.int .i64 a0_3]) (t:=89) (h:=?_);intro gb135 hg w12 hbox hb;have BK135:=a0_ (hbox);have GW135:=gh_ HB hg;have GE135:=gh_ HB hg;replace HB:=sb_ HB hb;clear hb hbox hg;have hcz13_0:=c40_ BK135;have hcz13_1:=c41_ BK135;have hcz13_2:=c42_ BK135;have hcz13_3:=c43_ BK135;have hfz13_0:=fz_ BK135 0;have hfz13_1:=fz_ BK135 1;have hfz13_2:=fz_ BK135 2;have hfz13_3:=fz_ BK135 3) | ((with_reducible refine gate_callee (f:=20) rfl ?_);refine gL_ (some 5) Tryd.func20 #[.agg #[.int .i64 a0_0,.int .i64 a0_1]] (h:=?_);(with_reducible refine (spec_PtOk.calls a0_0 a0_1 true _ A2.out).mono ?_);rintro e w14 ⟨rfl,hb⟩;refine⟨_,rfl,?_⟩;replace BK135:=vb_ BK135 hb;replace HB:=sb_ HB hb;(try clear hb);have hcz15_0:=c40_ BK135;have hcz15_1:=c41_ BK135;have hcz15_2:=c42_ BK135;have hcz15_3:=c43_ BK135;have hfz15_0:=fz_ BK135 0;have hfz15_1:=fz_ BK135 1;have hfz15_2:=fz_ BK135 2;have hfz15_3:=fz_ BK135 3) | (go_at_call 20;(with_reducible refine (spec_PtOk.calls a0_2 a0_3 false _ A4.out).mono ?_);rintro e w16 ⟨rfl,hb⟩;replace BK135:=vb_ BK135 hb;replace HB:=sb_ HB hb;(try clear hb)));go_ret;exact⟨rr_,hB_⟩
 ·
  replace c3:=Bool.eq_false_iff.mpr c3;subst c3;rw [if_neg (show ¬ (false=true) by decide)] at H
  (try dsimp only at H)
  obtain rfl:=Option.some.inj H;go_enter Tryd.func73,Tryd.ntmps73;go_wp2_with (first | ((with_reducible refine gate_dst (N:=1) rfl ?_);refine bx_ (N:=1) (cs:=#[.int .i64 a0_0,.int .i64 a0_1,.int .i64 a0_2,.int .i64 a0_3]) (t:=89) (h:=?_);intro gb135 hg w17 hbox hb;have BK135:=a0_ (hbox);have GW135:=gh_ HB hg;have GE135:=gh_ HB hg;replace HB:=sb_ HB hb;clear hb hbox hg;have hcz18_0:=c40_ BK135;have hcz18_1:=c41_ BK135;have hcz18_2:=c42_ BK135;have hcz18_3:=c43_ BK135;have hfz18_0:=fz_ BK135 0;have hfz18_1:=fz_ BK135 1;have hfz18_2:=fz_ BK135 2;have hfz18_3:=fz_ BK135 3) | ((with_reducible refine gate_callee (f:=20) rfl ?_);refine gL_ (some 5) Tryd.func20 #[.agg #[.int .i64 a0_0,.int .i64 a0_1]] (h:=?_);(with_reducible refine (spec_PtOk.calls a0_0 a0_1 false _ A2.out).mono ?_);rintro e w19 ⟨rfl,hb⟩;refine⟨_,rfl,?_⟩;replace BK135:=vb_ BK135 hb;replace HB:=sb_ HB hb;(try clear hb)));go_ret;exact⟨rr_,hB_⟩
def impl_along.f (a0_0:Int)(a0_1:Int)(a1_0:Int)(a1_1:Int)(a2_0:Int)(a2_1:Int):Option (Int):=some (wrap64 ((wrap64 ((wrap64 (a1_0-a0_0))*(wrap64 (a2_0-a0_0))))+(wrap64 ((wrap64 (a1_1-a0_1))*(wrap64 (a2_1-a0_1))))))
set_option maxHeartbeats 8000000 in
set_option maxRecDepth 100000 in
theorem impl_along.calls (a0_0:Int)(a0_1:Int)(a1_0:Int)(a1_1:Int)(a2_0:Int)(a2_1:Int)(r:Int)(w:World)(h:impl_along.f a0_0 a0_1 a1_0 a1_1 a2_0 a2_1=some r):
  Calls Tryd.prog 93 #[.agg #[.int .i64 a0_0,.int .i64 a0_1],.agg #[.int .i64 a1_0,.int .i64 a1_1],.agg #[.int .i64 a2_0,.int .i64 a2_1]] w fun e w'=>e=.returned (.int .i64 r)∧Below w.heap.size w w':=by
 have hu37:=Tryd.underlying37;have HB:=a0_ (Below.refl w.heap.size w);have H:(some (wrap64 ((wrap64 ((wrap64 (a1_0-a0_0))*(wrap64 (a2_0-a0_0))))+(wrap64 ((wrap64 (a1_1-a0_1))*(wrap64 (a2_1-a0_1)))))))=some r:=h;clear h;obtain rfl:=Option.some.inj H;go_enter Tryd.func93,Tryd.ntmps93;go_wp2_with (first | ((with_reducible refine gate_dst (N:=3) rfl ?_);refine bx_ (N:=3) (cs:=#[.int .i64 a0_0,.int .i64 a0_1]) (t:=37) (h:=?_);intro gb352 hg w4 hbox hb;have BK352:=a0_ (hbox);have GW352:=gh_ HB hg;have GE352:=gh_ HB hg;replace HB:=sb_ HB hb;clear hb hbox hg) | ((with_reducible refine gate_dst (N:=4) rfl ?_);refine bx_ (N:=4) (cs:=#[.int .i64 a1_0,.int .i64 a1_1]) (t:=37) (h:=?_);intro gb353 hg w5 hbox hb;have BK353:=a0_ (hbox);have GW353:=gh_ HB hg;have GE353:=gh_ HB hg;have NB352_353:=nl_ BK352 hg;have NB353_352:=nr_ BK352 hg;replace BK352:=vb_ BK352 hb;replace HB:=sb_ HB hb;clear hb hbox hg) | ((with_reducible refine gate_dst (N:=5) rfl ?_);refine bx_ (N:=5) (cs:=#[.int .i64 a2_0,.int .i64 a2_1]) (t:=37) (h:=?_);intro gb354 hg w6 hbox hb;have BK354:=a0_ (hbox);have GW354:=gh_ HB hg;have GE354:=gh_ HB hg;have NB352_354:=nl_ BK352 hg;have NB354_352:=nr_ BK352 hg;have NB353_354:=nl_ BK353 hg;have NB354_353:=nr_ BK353 hg;replace BK352:=vb_ BK352 hb;replace BK353:=vb_ BK353 hb;replace HB:=sb_ HB hb;clear hb hbox hg;have hnb7:=NB353_352.out;have hnc7:=NB352_353.out;have hnb8:=NB353_354.out;have hnc8:=NB354_353.out;have hcz9_0:=c20_ BK353;have hcz9_1:=c21_ BK353;have hfz9_0:=fz_ BK353 0;have hfz9_1:=fz_ BK353 1;have hnb10:=NB352_354.out;have hnc10:=NB354_352.out;have hcz11_0:=c20_ BK352;have hcz11_1:=c21_ BK352;have hfz11_0:=fz_ BK352 0;have hfz11_1:=fz_ BK352 1;have hcz12_0:=c20_ BK354;have hcz12_1:=c21_ BK354;have hfz12_0:=fz_ BK354 0;have hfz12_1:=fz_ BK354 1));go_ret;exact⟨rr_,hB_⟩
def impl_between.f (a0_0:Int)(a0_1:Int)(a1_0:Int)(a1_1:Int):Option (Int):=(impl_along.f a0_0 a0_1 a1_0 a1_1 a1_0 a1_1).bind fun t357=>(some t357)
set_option maxHeartbeats 8000000 in
set_option maxRecDepth 100000 in
theorem impl_between.calls (a0_0:Int)(a0_1:Int)(a1_0:Int)(a1_1:Int)(r:Int)(w:World)(h:impl_between.f a0_0 a0_1 a1_0 a1_1=some r):
  Calls Tryd.prog 94 #[.agg #[.int .i64 a0_0,.int .i64 a0_1],.agg #[.int .i64 a1_0,.int .i64 a1_1]] w fun e w'=>e=.returned (.int .i64 r)∧Below w.heap.size w w':=by
 have hu37:=Tryd.underlying37;have HB:=a0_ (Below.refl w.heap.size w);have H:((impl_along.f a0_0 a0_1 a1_0 a1_1 a1_0 a1_1).bind fun t357=>(some t357))=some r:=h;clear h;replace H:=Option.bind_eq_some_iff.mp H;obtain⟨t357,A30,H⟩:=H
 (try dsimp only at H)
 have A3:=Aside0.mk A30;clear A30;obtain rfl:=Option.some.inj H;go_enter Tryd.func94,Tryd.ntmps94;go_wp2_with (first | ((with_reducible refine gate_dst (N:=2) rfl ?_);refine bx_ (N:=2) (cs:=#[.int .i64 a0_0,.int .i64 a0_1]) (t:=37) (h:=?_);intro gb355 hg w4 hbox hb;have BK355:=a0_ (hbox);have GW355:=gh_ HB hg;have GE355:=gh_ HB hg;replace HB:=sb_ HB hb;clear hb hbox hg) | ((with_reducible refine gate_dst (N:=3) rfl ?_);refine bx_ (N:=3) (cs:=#[.int .i64 a1_0,.int .i64 a1_1]) (t:=37) (h:=?_);intro gb356 hg w5 hbox hb;have BK356:=a0_ (hbox);have GW356:=gh_ HB hg;have GE356:=gh_ HB hg;have NB355_356:=nl_ BK355 hg;have NB356_355:=nr_ BK355 hg;replace BK355:=vb_ BK355 hb;replace HB:=sb_ HB hb;clear hb hbox hg;have hnb6:=NB355_356.out;have hnc6:=NB356_355.out;have hcz7_0:=c20_ BK355;have hcz7_1:=c21_ BK355;have hfz7_0:=fz_ BK355 0;have hfz7_1:=fz_ BK355 1;have hcz8_0:=c20_ BK356;have hcz8_1:=c21_ BK356;have hfz8_0:=fz_ BK356 0;have hfz8_1:=fz_ BK356 1) | ((with_reducible refine gate_callee (f:=93) rfl ?_);refine gL_ (some 8) Tryd.func93 #[.agg #[.int .i64 a0_0,.int .i64 a0_1],.agg #[.int .i64 a1_0,.int .i64 a1_1],.agg #[.int .i64 a1_0,.int .i64 a1_1]] (h:=?_);(with_reducible refine (impl_along.calls a0_0 a0_1 a1_0 a1_1 a1_0 a1_1 t357 _ A3.out).mono ?_);rintro e w9 ⟨rfl,hb⟩;refine⟨_,rfl,?_⟩;replace BK355:=vb_ BK355 hb;replace BK356:=vb_ BK356 hb;replace HB:=sb_ HB hb;(try clear hb)));go_ret;exact⟨rr_,hB_⟩
def impl_cross.f (a0_0:Int)(a0_1:Int)(a1_0:Int)(a1_1:Int)(a2_0:Int)(a2_1:Int):Option (Int):=some (wrap64 ((wrap64 ((wrap64 (a1_0-a0_0))*(wrap64 (a2_1-a0_1))))-(wrap64 ((wrap64 (a1_1-a0_1))*(wrap64 (a2_0-a0_0))))))
set_option maxHeartbeats 8000000 in
set_option maxRecDepth 100000 in
theorem impl_cross.calls (a0_0:Int)(a0_1:Int)(a1_0:Int)(a1_1:Int)(a2_0:Int)(a2_1:Int)(r:Int)(w:World)(h:impl_cross.f a0_0 a0_1 a1_0 a1_1 a2_0 a2_1=some r):
  Calls Tryd.prog 92 #[.agg #[.int .i64 a0_0,.int .i64 a0_1],.agg #[.int .i64 a1_0,.int .i64 a1_1],.agg #[.int .i64 a2_0,.int .i64 a2_1]] w fun e w'=>e=.returned (.int .i64 r)∧Below w.heap.size w w':=by
 have hu37:=Tryd.underlying37;have HB:=a0_ (Below.refl w.heap.size w);have H:(some (wrap64 ((wrap64 ((wrap64 (a1_0-a0_0))*(wrap64 (a2_1-a0_1))))-(wrap64 ((wrap64 (a1_1-a0_1))*(wrap64 (a2_0-a0_0)))))))=some r:=h;clear h;obtain rfl:=Option.some.inj H;go_enter Tryd.func92,Tryd.ntmps92;go_wp2_with (first | ((with_reducible refine gate_dst (N:=3) rfl ?_);refine bx_ (N:=3) (cs:=#[.int .i64 a0_0,.int .i64 a0_1]) (t:=37) (h:=?_);intro gb349 hg w4 hbox hb;have BK349:=a0_ (hbox);have GW349:=gh_ HB hg;have GE349:=gh_ HB hg;replace HB:=sb_ HB hb;clear hb hbox hg) | ((with_reducible refine gate_dst (N:=4) rfl ?_);refine bx_ (N:=4) (cs:=#[.int .i64 a1_0,.int .i64 a1_1]) (t:=37) (h:=?_);intro gb350 hg w5 hbox hb;have BK350:=a0_ (hbox);have GW350:=gh_ HB hg;have GE350:=gh_ HB hg;have NB349_350:=nl_ BK349 hg;have NB350_349:=nr_ BK349 hg;replace BK349:=vb_ BK349 hb;replace HB:=sb_ HB hb;clear hb hbox hg) | ((with_reducible refine gate_dst (N:=5) rfl ?_);refine bx_ (N:=5) (cs:=#[.int .i64 a2_0,.int .i64 a2_1]) (t:=37) (h:=?_);intro gb351 hg w6 hbox hb;have BK351:=a0_ (hbox);have GW351:=gh_ HB hg;have GE351:=gh_ HB hg;have NB349_351:=nl_ BK349 hg;have NB351_349:=nr_ BK349 hg;have NB350_351:=nl_ BK350 hg;have NB351_350:=nr_ BK350 hg;replace BK349:=vb_ BK349 hb;replace BK350:=vb_ BK350 hb;replace HB:=sb_ HB hb;clear hb hbox hg;have hnb7:=NB350_349.out;have hnc7:=NB349_350.out;have hnb8:=NB350_351.out;have hnc8:=NB351_350.out;have hcz9_0:=c20_ BK350;have hcz9_1:=c21_ BK350;have hfz9_0:=fz_ BK350 0;have hfz9_1:=fz_ BK350 1;have hnb10:=NB349_351.out;have hnc10:=NB351_349.out;have hcz11_0:=c20_ BK349;have hcz11_1:=c21_ BK349;have hfz11_0:=fz_ BK349 0;have hfz11_1:=fz_ BK349 1;have hcz12_0:=c20_ BK351;have hcz12_1:=c21_ BK351;have hfz12_0:=fz_ BK351 0;have hfz12_1:=fz_ BK351 1));go_ret;exact⟨rr_,hB_⟩
def impl_PtOk.f (a0_0:Int)(a0_1:Int):Option (Bool):=if a0_0≥0 then (if a0_0≤9 then (if a0_1≥0 then (some (decide (a0_1≤9))) else (some false)) else (some false)) else (some false)
set_option maxHeartbeats 8000000 in
set_option maxRecDepth 100000 in
theorem impl_PtOk.calls (a0_0:Int)(a0_1:Int)(r:Bool)(w:World)(h:impl_PtOk.f a0_0 a0_1=some r):
  Calls Tryd.prog 46 #[.agg #[.int .i64 a0_0,.int .i64 a0_1]] w fun e w'=>e=.returned (.bool r)∧Below w.heap.size w w':=by
 have hu37:=Tryd.underlying37;have HB:=a0_ (Below.refl w.heap.size w);have H:(if a0_0≥0 then (if a0_0≤9 then (if a0_1≥0 then (some (decide (a0_1≤9))) else (some false)) else (some false)) else (some false))=some r:=h;clear h;by_cases c2:a0_0≥0
 ·
  rw [if_pos c2] at H;have c2b0:decide (0≤a0_0)=true:=decide_eq_true c2;clear c2;by_cases c3:a0_0≤9
  ·
   rw [if_pos c3] at H;have c3b0:decide (a0_0≤9)=true:=decide_eq_true c3;clear c3;by_cases c4:a0_1≥0
   ·
    rw [if_pos c4] at H;have c4b0:decide (0≤a0_1)=true:=decide_eq_true c4;clear c4;obtain rfl:=Option.some.inj H;go_enter Tryd.func46,Tryd.ntmps46;go_wp2_with (first | ((with_reducible refine gate_dst (N:=1) rfl ?_);refine bx_ (N:=1) (cs:=#[.int .i64 a0_0,.int .i64 a0_1]) (t:=37) (h:=?_);intro gb345 hg w5 hbox hb;have BK345:=a0_ (hbox);have GW345:=gh_ HB hg;have GE345:=gh_ HB hg;replace HB:=sb_ HB hb;clear hb hbox hg;have hcz6_0:=c20_ BK345;have hcz6_1:=c21_ BK345;have hfz6_0:=fz_ BK345 0;have hfz6_1:=fz_ BK345 1));go_ret;exact⟨rr_,hB_⟩
   ·
    rw [if_neg c4] at H;have c4b0:decide (0≤a0_1)=false:=decide_eq_false c4;clear c4;obtain rfl:=Option.some.inj H;go_enter Tryd.func46,Tryd.ntmps46;go_wp2_with (first | ((with_reducible refine gate_dst (N:=1) rfl ?_);refine bx_ (N:=1) (cs:=#[.int .i64 a0_0,.int .i64 a0_1]) (t:=37) (h:=?_);intro gb345 hg w7 hbox hb;have BK345:=a0_ (hbox);have GW345:=gh_ HB hg;have GE345:=gh_ HB hg;replace HB:=sb_ HB hb;clear hb hbox hg;have hcz8_0:=c20_ BK345;have hcz8_1:=c21_ BK345;have hfz8_0:=fz_ BK345 0;have hfz8_1:=fz_ BK345 1));go_ret;exact⟨rr_,hB_⟩
  ·
   rw [if_neg c3] at H;have c3b0:decide (a0_0≤9)=false:=decide_eq_false c3;clear c3;obtain rfl:=Option.some.inj H;go_enter Tryd.func46,Tryd.ntmps46;go_wp2_with (first | ((with_reducible refine gate_dst (N:=1) rfl ?_);refine bx_ (N:=1) (cs:=#[.int .i64 a0_0,.int .i64 a0_1]) (t:=37) (h:=?_);intro gb345 hg w9 hbox hb;have BK345:=a0_ (hbox);have GW345:=gh_ HB hg;have GE345:=gh_ HB hg;replace HB:=sb_ HB hb;clear hb hbox hg;have hcz10_0:=c20_ BK345;have hcz10_1:=c21_ BK345;have hfz10_0:=fz_ BK345 0;have hfz10_1:=fz_ BK345 1));go_ret;exact⟨rr_,hB_⟩
 ·
  rw [if_neg c2] at H;have c2b0:decide (0≤a0_0)=false:=decide_eq_false c2;clear c2;obtain rfl:=Option.some.inj H;go_enter Tryd.func46,Tryd.ntmps46;go_wp2_with (first | ((with_reducible refine gate_dst (N:=1) rfl ?_);refine bx_ (N:=1) (cs:=#[.int .i64 a0_0,.int .i64 a0_1]) (t:=37) (h:=?_);intro gb345 hg w11 hbox hb;have BK345:=a0_ (hbox);have GW345:=gh_ HB hg;have GE345:=gh_ HB hg;replace HB:=sb_ HB hb;clear hb hbox hg;have hcz12_0:=c20_ BK345;have hcz12_1:=c21_ BK345;have hfz12_0:=fz_ BK345 0;have hfz12_1:=fz_ BK345 1));go_ret;exact⟨rr_,hB_⟩
attribute [local go_sem high] eqA37
def impl_SegOk.f (a0_0:Int)(a0_1:Int)(a0_2:Int)(a0_3:Int):Option (Bool):=(impl_PtOk.f a0_0 a0_1).bind fun t347=>(if t347=true then ((impl_PtOk.f a0_2 a0_3).bind fun t348=>(if t348=true then (some (!(a0_0==a0_2) || (!(a0_1==a0_3)))) else (some false))) else (some false))
set_option maxHeartbeats 8000000 in
set_option maxRecDepth 100000 in
theorem impl_SegOk.calls (a0_0:Int)(a0_1:Int)(a0_2:Int)(a0_3:Int)(r:Bool)(w:World)(h:impl_SegOk.f a0_0 a0_1 a0_2 a0_3=some r):
  Calls Tryd.prog 68 #[.agg #[.int .i64 a0_0,.int .i64 a0_1,.int .i64 a0_2,.int .i64 a0_3]] w fun e w'=>e=.returned (.bool r)∧Below w.heap.size w w':=by
 have hu89:=Tryd.underlying89;have hu37:=Tryd.underlying37;have HB:=a0_ (Below.refl w.heap.size w);have H:((impl_PtOk.f a0_0 a0_1).bind fun t347=>(if t347=true then ((impl_PtOk.f a0_2 a0_3).bind fun t348=>(if t348=true then (some (!(a0_0==a0_2) || (!(a0_1==a0_3)))) else (some false))) else (some false)))=some r:=h;clear h;replace H:=Option.bind_eq_some_iff.mp H;obtain⟨t347,A20,H⟩:=H
 (try dsimp only at H)
 have A2:=Aside0.mk A20;clear A20;by_cases c3:t347=true
 ·
  subst c3;rw [if_pos rfl] at H
  (try dsimp only at H)
  replace H:=Option.bind_eq_some_iff.mp H;obtain⟨t348,A40,H⟩:=H
  (try dsimp only at H)
  have A4:=Aside0.mk A40;clear A40;by_cases c5:t348=true
  ·
   subst c5;rw [if_pos rfl] at H
   (try dsimp only at H)
   obtain rfl:=Option.some.inj H;go_enter Tryd.func68,Tryd.ntmps68;go_wp2_with (first | ((with_reducible refine gate_dst (N:=1) rfl ?_);refine bx_ (N:=1) (cs:=#[.int .i64 a0_0,.int .i64 a0_1,.int .i64 a0_2,.int .i64 a0_3]) (t:=89) (h:=?_);intro gb346 hg w6 hbox hb;have BK346:=a0_ (hbox);have GW346:=gh_ HB hg;have GE346:=gh_ HB hg;replace HB:=sb_ HB hb;clear hb hbox hg;have hcz7_0:=c40_ BK346;have hcz7_1:=c41_ BK346;have hcz7_2:=c42_ BK346;have hcz7_3:=c43_ BK346;have hfz7_0:=fz_ BK346 0;have hfz7_1:=fz_ BK346 1;have hfz7_2:=fz_ BK346 2;have hfz7_3:=fz_ BK346 3) | ((with_reducible refine gate_callee (f:=46) rfl ?_);refine gL_ (some 5) Tryd.func46 #[.agg #[.int .i64 a0_0,.int .i64 a0_1]] (h:=?_);(with_reducible refine (impl_PtOk.calls a0_0 a0_1 true _ A2.out).mono ?_);rintro e w8 ⟨rfl,hb⟩;refine⟨_,rfl,?_⟩;replace BK346:=vb_ BK346 hb;replace HB:=sb_ HB hb;(try clear hb);have hcz9_0:=c40_ BK346;have hcz9_1:=c41_ BK346;have hcz9_2:=c42_ BK346;have hcz9_3:=c43_ BK346;have hfz9_0:=fz_ BK346 0;have hfz9_1:=fz_ BK346 1;have hfz9_2:=fz_ BK346 2;have hfz9_3:=fz_ BK346 3) | (go_at_call 46;(with_reducible refine (impl_PtOk.calls a0_2 a0_3 true _ A4.out).mono ?_);rintro e w10 ⟨rfl,hb⟩;replace BK346:=vb_ BK346 hb;replace HB:=sb_ HB hb;(try clear hb);have hcz11_0:=c40_ BK346;have hcz11_1:=c41_ BK346;have hcz11_2:=c42_ BK346;have hcz11_3:=c43_ BK346;have hfz11_0:=fz_ BK346 0;have hfz11_1:=fz_ BK346 1;have hfz11_2:=fz_ BK346 2;have hfz11_3:=fz_ BK346 3));go_ret;exact⟨rr_,hB_⟩
  ·
   replace c5:=Bool.eq_false_iff.mpr c5;subst c5;rw [if_neg (show ¬ (false=true) by decide)] at H
   (try dsimp only at H)
   obtain rfl:=Option.some.inj H;go_enter Tryd.func68,Tryd.ntmps68;go_wp2_with (first | ((with_reducible refine gate_dst (N:=1) rfl ?_);refine bx_ (N:=1) (cs:=#[.int .i64 a0_0,.int .i64 a0_1,.int .i64 a0_2,.int .i64 a0_3]) (t:=89) (h:=?_);intro gb346 hg w12 hbox hb;have BK346:=a0_ (hbox);have GW346:=gh_ HB hg;have GE346:=gh_ HB hg;replace HB:=sb_ HB hb;clear hb hbox hg;have hcz13_0:=c40_ BK346;have hcz13_1:=c41_ BK346;have hcz13_2:=c42_ BK346;have hcz13_3:=c43_ BK346;have hfz13_0:=fz_ BK346 0;have hfz13_1:=fz_ BK346 1;have hfz13_2:=fz_ BK346 2;have hfz13_3:=fz_ BK346 3) | ((with_reducible refine gate_callee (f:=46) rfl ?_);refine gL_ (some 5) Tryd.func46 #[.agg #[.int .i64 a0_0,.int .i64 a0_1]] (h:=?_);(with_reducible refine (impl_PtOk.calls a0_0 a0_1 true _ A2.out).mono ?_);rintro e w14 ⟨rfl,hb⟩;refine⟨_,rfl,?_⟩;replace BK346:=vb_ BK346 hb;replace HB:=sb_ HB hb;(try clear hb);have hcz15_0:=c40_ BK346;have hcz15_1:=c41_ BK346;have hcz15_2:=c42_ BK346;have hcz15_3:=c43_ BK346;have hfz15_0:=fz_ BK346 0;have hfz15_1:=fz_ BK346 1;have hfz15_2:=fz_ BK346 2;have hfz15_3:=fz_ BK346 3) | (go_at_call 46;(with_reducible refine (impl_PtOk.calls a0_2 a0_3 false _ A4.out).mono ?_);rintro e w16 ⟨rfl,hb⟩;replace BK346:=vb_ BK346 hb;replace HB:=sb_ HB hb;(try clear hb)));go_ret;exact⟨rr_,hB_⟩
 ·
  replace c3:=Bool.eq_false_iff.mpr c3;subst c3;rw [if_neg (show ¬ (false=true) by decide)] at H
  (try dsimp only at H)
  obtain rfl:=Option.some.inj H;go_enter Tryd.func68,Tryd.ntmps68;go_wp2_with (first | ((with_reducible refine gate_dst (N:=1) rfl ?_);refine bx_ (N:=1) (cs:=#[.int .i64 a0_0,.int .i64 a0_1,.int .i64 a0_2,.int .i64 a0_3]) (t:=89) (h:=?_);intro gb346 hg w17 hbox hb;have BK346:=a0_ (hbox);have GW346:=gh_ HB hg;have GE346:=gh_ HB hg;replace HB:=sb_ HB hb;clear hb hbox hg;have hcz18_0:=c40_ BK346;have hcz18_1:=c41_ BK346;have hcz18_2:=c42_ BK346;have hcz18_3:=c43_ BK346;have hfz18_0:=fz_ BK346 0;have hfz18_1:=fz_ BK346 1;have hfz18_2:=fz_ BK346 2;have hfz18_3:=fz_ BK346 3) | ((with_reducible refine gate_callee (f:=46) rfl ?_);refine gL_ (some 5) Tryd.func46 #[.agg #[.int .i64 a0_0,.int .i64 a0_1]] (h:=?_);(with_reducible refine (impl_PtOk.calls a0_0 a0_1 false _ A2.out).mono ?_);rintro e w19 ⟨rfl,hb⟩;refine⟨_,rfl,?_⟩;replace BK346:=vb_ BK346 hb;replace HB:=sb_ HB hb;(try clear hb)));go_ret;exact⟨rr_,hB_⟩
def impl_SegHas.j0:Nat→Bool→Int→Int→Int→Int→Int→Int→Option (Bool)
 | 0,_,_,_,_,_,_,_=>none
 | k+1,x22,x359000,x359001,x359002,x359003,x360000,x360001=>if x22=true then (some false) else ((impl_along.f x359000 x359001 x359002 x359003 x360000 x360001).bind fun t363=>(if t363≥0 then ((impl_between.f x359000 x359001 x359002 x359003).bind fun t364=>(some (decide (t363≤t364)))) else (some false)))
def impl_SegHas.f (k:Nat)(a0_0:Int)(a0_1:Int)(a0_2:Int)(a0_3:Int)(a1_0:Int)(a1_1:Int):Option (Bool):=(impl_SegOk.f a0_0 a0_1 a0_2 a0_3).bind fun t360=>(if t360=true then ((impl_PtOk.f a1_0 a1_1).bind fun t361=>(if t361=true then ((impl_cross.f a0_0 a0_1 a0_2 a0_3 a1_0 a1_1).bind fun t362=>(impl_SegHas.j0 k (t362 != 0) a0_0 a0_1 a0_2 a0_3 a1_0 a1_1)) else (impl_SegHas.j0 k true a0_0 a0_1 a0_2 a0_3 a1_0 a1_1))) else (impl_SegHas.j0 k true a0_0 a0_1 a0_2 a0_3 a1_0 a1_1))
set_option maxHeartbeats 8000000 in
set_option maxRecDepth 100000 in
theorem impl_SegHas.calls (k:Nat)(a0_0:Int)(a0_1:Int)(a0_2:Int)(a0_3:Int)(a1_0:Int)(a1_1:Int)(r:Bool)(w:World)(h:impl_SegHas.f k a0_0 a0_1 a0_2 a0_3 a1_0 a1_1=some r):
  Calls Tryd.prog 77 #[.agg #[.int .i64 a0_0,.int .i64 a0_1,.int .i64 a0_2,.int .i64 a0_3],.agg #[.int .i64 a1_0,.int .i64 a1_1]] w fun e w'=>e=.returned (.bool r)∧Below w.heap.size w w':=by
 have hu89:=Tryd.underlying89;have hu37:=Tryd.underlying37;have HB:=a0_ (Below.refl w.heap.size w);have H:((impl_SegOk.f a0_0 a0_1 a0_2 a0_3).bind fun t360=>(if t360=true then ((impl_PtOk.f a1_0 a1_1).bind fun t361=>(if t361=true then ((impl_cross.f a0_0 a0_1 a0_2 a0_3 a1_0 a1_1).bind fun t362=>(impl_SegHas.j0 k (t362 != 0) a0_0 a0_1 a0_2 a0_3 a1_0 a1_1)) else (impl_SegHas.j0 k true a0_0 a0_1 a0_2 a0_3 a1_0 a1_1))) else (impl_SegHas.j0 k true a0_0 a0_1 a0_2 a0_3 a1_0 a1_1)))=some r:=h;clear h;have HC3:=Aside0.mk H;clear H;go_enter Tryd.func77,Tryd.ntmps77;go_upto_region 1 with (first | ((with_reducible refine gate_dst (N:=2) rfl ?_);refine bx_ (N:=2) (cs:=#[.int .i64 a0_0,.int .i64 a0_1,.int .i64 a0_2,.int .i64 a0_3]) (t:=89) (h:=?_);intro gb358 hg w4 hbox hb;have BK358:=a0_ (hbox);have GW358:=gh_ HB hg;have GE358:=gh_ HB hg;replace HB:=sb_ HB hb;clear hb hbox hg) | ((with_reducible refine gate_dst (N:=3) rfl ?_);refine bx_ (N:=3) (cs:=#[.int .i64 a1_0,.int .i64 a1_1]) (t:=37) (h:=?_);intro gb359 hg w5 hbox hb;have BK359:=a0_ (hbox);have GW359:=gh_ HB hg;have GE359:=gh_ HB hg;have NB358_359:=nl_ BK358 hg;have NB359_358:=nr_ BK358 hg;replace BK358:=vb_ BK358 hb;replace HB:=sb_ HB hb;clear hb hbox hg))
 (try simp only [Act.put,List.setIfInBounds_toArray,List.set_cons_zero,List.set_cons_succ])
 go_cut [22] (fun v22 wc=>∃ (kq:Nat) (x22_2:Bool),v22=.bool x22_2∧Aside0 (impl_SegHas.j0 kq x22_2 a0_0 a0_1 a0_2 a0_3 a1_0 a1_1=some r)∧Aside0 (kq≤k)∧Aside0 (wc.heap[gb358]?=some (.cells #[.int .i64 a0_0,.int .i64 a0_1,.int .i64 a0_2,.int .i64 a0_3] 89 (0,0)))∧Aside0 (wc.heap[gb359]?=some (.cells #[.int .i64 a1_0,.int .i64 a1_1] 37 (0,0)))∧Aside0 (Below w.heap.size w wc))
 case first =>
  have H:=HC3.out;clear HC3;replace H:=Option.bind_eq_some_iff.mp H;obtain⟨t360,A60,H⟩:=H
  (try dsimp only at H)
  have A6:=Aside0.mk A60;clear A60;by_cases c7:t360=true
  ·
   subst c7;rw [if_pos rfl] at H
   (try dsimp only at H)
   replace H:=Option.bind_eq_some_iff.mp H;obtain⟨t361,A80,H⟩:=H
   (try dsimp only at H)
   have A8:=Aside0.mk A80;clear A80;by_cases c9:t361=true
   ·
    subst c9;rw [if_pos rfl] at H
    (try dsimp only at H)
    replace H:=Option.bind_eq_some_iff.mp H;obtain⟨t362,A100,H⟩:=H
    (try dsimp only at H)
    have A10:=Aside0.mk A100;clear A100;have H':=Aside0.mk H;clear H;have hnb11:=NB358_359.out;have hnc11:=NB359_358.out;have hcz12_0:=c40_ BK358;have hcz12_1:=c41_ BK358;have hcz12_2:=c42_ BK358;have hcz12_3:=c43_ BK358;have hfz12_0:=fz_ BK358 0;have hfz12_1:=fz_ BK358 1;have hfz12_2:=fz_ BK358 2;have hfz12_3:=fz_ BK358 3;go_wp2_with (first | ((with_reducible refine gate_callee (f:=68) rfl ?_);refine gL_ (some 7) Tryd.func68 #[.agg #[.int .i64 a0_0,.int .i64 a0_1,.int .i64 a0_2,.int .i64 a0_3]] (h:=?_);(with_reducible refine (impl_SegOk.calls a0_0 a0_1 a0_2 a0_3 true _ A6.out).mono ?_);rintro e w13 ⟨rfl,hb⟩;refine⟨_,rfl,?_⟩;replace BK358:=vb_ BK358 hb;replace BK359:=vb_ BK359 hb;replace HB:=sb_ HB hb;(try clear hb);have hcz14_0:=c20_ BK359;have hcz14_1:=c21_ BK359;have hfz14_0:=fz_ BK359 0;have hfz14_1:=fz_ BK359 1) | (go_at_call 46;(with_reducible refine (impl_PtOk.calls a1_0 a1_1 true _ A8.out).mono ?_);rintro e w15 ⟨rfl,hb⟩;replace BK358:=vb_ BK358 hb;replace BK359:=vb_ BK359 hb;replace HB:=sb_ HB hb;(try clear hb);have hcz16_0:=c40_ BK358;have hcz16_1:=c41_ BK358;have hcz16_2:=c42_ BK358;have hcz16_3:=c43_ BK358;have hfz16_0:=fz_ BK358 0;have hfz16_1:=fz_ BK358 1;have hfz16_2:=fz_ BK358 2;have hfz16_3:=fz_ BK358 3;have hcz17_0:=c20_ BK359;have hcz17_1:=c21_ BK359;have hfz17_0:=fz_ BK359 0;have hfz17_1:=fz_ BK359 1) | (go_at_call 92;(with_reducible refine (impl_cross.calls a0_0 a0_1 a0_2 a0_3 a1_0 a1_1 t362 _ A10.out).mono ?_);rintro e w18 ⟨rfl,hb⟩;replace BK358:=vb_ BK358 hb;replace BK359:=vb_ BK359 hb;replace HB:=sb_ HB hb;(try clear hb)));go_meet
    case rel=>exact⟨_,((t362 != 0)),(by first | rfl | (simp;done) | (simp [*];done)),H',⟨by first | omega | exact Nat.le_refl _⟩,⟨uq_⟩,⟨uq_⟩,⟨hB_⟩⟩
   ·
    replace c9:=Bool.eq_false_iff.mpr c9;subst c9;rw [if_neg (show ¬ (false=true) by decide)] at H
    (try dsimp only at H)
    have H':=Aside0.mk H;clear H;have hnb19:=NB358_359.out;have hnc19:=NB359_358.out;have hcz20_0:=c40_ BK358;have hcz20_1:=c41_ BK358;have hcz20_2:=c42_ BK358;have hcz20_3:=c43_ BK358;have hfz20_0:=fz_ BK358 0;have hfz20_1:=fz_ BK358 1;have hfz20_2:=fz_ BK358 2;have hfz20_3:=fz_ BK358 3;go_wp2_with (first | ((with_reducible refine gate_callee (f:=68) rfl ?_);refine gL_ (some 7) Tryd.func68 #[.agg #[.int .i64 a0_0,.int .i64 a0_1,.int .i64 a0_2,.int .i64 a0_3]] (h:=?_);(with_reducible refine (impl_SegOk.calls a0_0 a0_1 a0_2 a0_3 true _ A6.out).mono ?_);rintro e w21 ⟨rfl,hb⟩;refine⟨_,rfl,?_⟩;replace BK358:=vb_ BK358 hb;replace BK359:=vb_ BK359 hb;replace HB:=sb_ HB hb;(try clear hb);have hcz22_0:=c20_ BK359;have hcz22_1:=c21_ BK359;have hfz22_0:=fz_ BK359 0;have hfz22_1:=fz_ BK359 1) | (go_at_call 46;(with_reducible refine (impl_PtOk.calls a1_0 a1_1 false _ A8.out).mono ?_);rintro e w23 ⟨rfl,hb⟩;replace BK358:=vb_ BK358 hb;replace BK359:=vb_ BK359 hb;replace HB:=sb_ HB hb;(try clear hb)));go_meet
    case rel=>exact⟨_,(true),(by first | rfl | (simp;done) | (simp [*];done)),H',⟨by first | omega | exact Nat.le_refl _⟩,⟨uq_⟩,⟨uq_⟩,⟨hB_⟩⟩
  ·
   replace c7:=Bool.eq_false_iff.mpr c7;subst c7;rw [if_neg (show ¬ (false=true) by decide)] at H
   (try dsimp only at H)
   have H':=Aside0.mk H;clear H;have hnb24:=NB358_359.out;have hnc24:=NB359_358.out;have hcz25_0:=c40_ BK358;have hcz25_1:=c41_ BK358;have hcz25_2:=c42_ BK358;have hcz25_3:=c43_ BK358;have hfz25_0:=fz_ BK358 0;have hfz25_1:=fz_ BK358 1;have hfz25_2:=fz_ BK358 2;have hfz25_3:=fz_ BK358 3;go_wp2_with (first | ((with_reducible refine gate_callee (f:=68) rfl ?_);refine gL_ (some 7) Tryd.func68 #[.agg #[.int .i64 a0_0,.int .i64 a0_1,.int .i64 a0_2,.int .i64 a0_3]] (h:=?_);(with_reducible refine (impl_SegOk.calls a0_0 a0_1 a0_2 a0_3 false _ A6.out).mono ?_);rintro e w26 ⟨rfl,hb⟩;refine⟨_,rfl,?_⟩;replace BK358:=vb_ BK358 hb;replace BK359:=vb_ BK359 hb;replace HB:=sb_ HB hb;(try clear hb)));go_meet
   case rel=>exact⟨_,(true),(by first | rfl | (simp;done) | (simp [*];done)),H',⟨by first | omega | exact Nat.le_refl _⟩,⟨uq_⟩,⟨uq_⟩,⟨hB_⟩⟩
 case rest =>
  clear HC3;obtain⟨kq,x22_2,rfl,HA,HJ2,BK358,BK359,HB⟩:=hcut
  cases kq with
  | zero=>exact absurd HA.out (by simp [impl_SegHas.j0])
  | succ kj2 =>
   have H:=HA.out;clear HA;simp only [impl_SegHas.j0] at H;by_cases c27:x22_2=true
   ·
    subst c27;rw [if_pos rfl] at H
    (try dsimp only at H)
    obtain rfl:=Option.some.inj H;go_wp2;go_ret;exact⟨rr_,hB_⟩
   ·
    replace c27:=Bool.eq_false_iff.mpr c27;subst c27;rw [if_neg (show ¬ (false=true) by decide)] at H
    (try dsimp only at H)
    replace H:=Option.bind_eq_some_iff.mp H;obtain⟨t363,A280,H⟩:=H
    (try dsimp only at H)
    have A28:=Aside0.mk A280;clear A280;by_cases c29:t363≥0
    ·
     rw [if_pos c29] at H;have c29b0:decide (0≤t363)=true:=decide_eq_true c29;clear c29;replace H:=Option.bind_eq_some_iff.mp H;obtain⟨t364,A300,H⟩:=H
     (try dsimp only at H)
     have A30:=Aside0.mk A300;clear A300;obtain rfl:=Option.some.inj H;have hnb31:=NB358_359.out;have hnc31:=NB359_358.out;have hcz32_0:=c40_ BK358;have hcz32_1:=c41_ BK358;have hcz32_2:=c42_ BK358;have hcz32_3:=c43_ BK358;have hfz32_0:=fz_ BK358 0;have hfz32_1:=fz_ BK358 1;have hfz32_2:=fz_ BK358 2;have hfz32_3:=fz_ BK358 3;have hcz33_0:=c20_ BK359;have hcz33_1:=c21_ BK359;have hfz33_0:=fz_ BK359 0;have hfz33_1:=fz_ BK359 1;go_wp2_with (first | ((with_reducible refine gate_callee (f:=93) rfl ?_);refine gL_ (some 28) Tryd.func93 #[.agg #[.int .i64 a0_0,.int .i64 a0_1],.agg #[.int .i64 a0_2,.int .i64 a0_3],.agg #[.int .i64 a1_0,.int .i64 a1_1]] (h:=?_);(with_reducible refine (impl_along.calls a0_0 a0_1 a0_2 a0_3 a1_0 a1_1 t363 _ A28.out).mono ?_);rintro e w34 ⟨rfl,hb⟩;refine⟨_,rfl,?_⟩;replace BK358:=vb_ BK358 hb;replace BK359:=vb_ BK359 hb;replace HB:=sb_ HB hb;(try clear hb);have hcz35_0:=c40_ BK358;have hcz35_1:=c41_ BK358;have hcz35_2:=c42_ BK358;have hcz35_3:=c43_ BK358;have hfz35_0:=fz_ BK358 0;have hfz35_1:=fz_ BK358 1;have hfz35_2:=fz_ BK358 2;have hfz35_3:=fz_ BK358 3) | (go_at_call 94;(with_reducible refine (impl_between.calls a0_0 a0_1 a0_2 a0_3 t364 _ A30.out).mono ?_);rintro e w36 ⟨rfl,hb⟩;replace BK358:=vb_ BK358 hb;replace BK359:=vb_ BK359 hb;replace HB:=sb_ HB hb;(try clear hb)));go_ret;exact⟨rr_,hB_⟩
    ·
     rw [if_neg c29] at H;have c29b0:decide (0≤t363)=false:=decide_eq_false c29;clear c29;obtain rfl:=Option.some.inj H;have hnb37:=NB358_359.out;have hnc37:=NB359_358.out;have hcz38_0:=c40_ BK358;have hcz38_1:=c41_ BK358;have hcz38_2:=c42_ BK358;have hcz38_3:=c43_ BK358;have hfz38_0:=fz_ BK358 0;have hfz38_1:=fz_ BK358 1;have hfz38_2:=fz_ BK358 2;have hfz38_3:=fz_ BK358 3;have hcz39_0:=c20_ BK359;have hcz39_1:=c21_ BK359;have hfz39_0:=fz_ BK359 0;have hfz39_1:=fz_ BK359 1;go_wp2_with (first | ((with_reducible refine gate_callee (f:=93) rfl ?_);refine gL_ (some 28) Tryd.func93 #[.agg #[.int .i64 a0_0,.int .i64 a0_1],.agg #[.int .i64 a0_2,.int .i64 a0_3],.agg #[.int .i64 a1_0,.int .i64 a1_1]] (h:=?_);(with_reducible refine (impl_along.calls a0_0 a0_1 a0_2 a0_3 a1_0 a1_1 t363 _ A28.out).mono ?_);rintro e w40 ⟨rfl,hb⟩;refine⟨_,rfl,?_⟩;replace BK358:=vb_ BK358 hb;replace BK359:=vb_ BK359 hb;replace HB:=sb_ HB hb;(try clear hb)));go_ret;exact⟨rr_,hB_⟩
def impl_SegTurn.j0:Nat→Bool→Int→Int→Int→Int→Int→Int→Option (Int)
 | 0,_,_,_,_,_,_,_=>none
 | k+1,x20,x370000,x370001,x371000,x371001,x372000,x372001=>if x20=true then (some 0) else ((impl_cross.f x370000 x370001 x371000 x371001 x372000 x372001).bind fun t375=>(if t375>0 then (some 1) else (if t375<0 then (some (-1)) else (some 0))))
def impl_SegTurn.f (k:Nat)(a0_0:Int)(a0_1:Int)(a1_0:Int)(a1_1:Int)(a2_0:Int)(a2_1:Int):Option (Int):=(impl_PtOk.f a0_0 a0_1).bind fun t372=>(if t372=true then ((impl_PtOk.f a1_0 a1_1).bind fun t373=>(if t373=true then ((impl_PtOk.f a2_0 a2_1).bind fun t374=>(impl_SegTurn.j0 k (!t374) a0_0 a0_1 a1_0 a1_1 a2_0 a2_1)) else (impl_SegTurn.j0 k true a0_0 a0_1 a1_0 a1_1 a2_0 a2_1))) else (impl_SegTurn.j0 k true a0_0 a0_1 a1_0 a1_1 a2_0 a2_1))
set_option maxHeartbeats 8000000 in
set_option maxRecDepth 100000 in
theorem impl_SegTurn.calls (k:Nat)(a0_0:Int)(a0_1:Int)(a1_0:Int)(a1_1:Int)(a2_0:Int)(a2_1:Int)(r:Int)(w:World)(h:impl_SegTurn.f k a0_0 a0_1 a1_0 a1_1 a2_0 a2_1=some r):
  Calls Tryd.prog 78 #[.agg #[.int .i64 a0_0,.int .i64 a0_1],.agg #[.int .i64 a1_0,.int .i64 a1_1],.agg #[.int .i64 a2_0,.int .i64 a2_1]] w fun e w'=>e=.returned (.int .i64 r)∧Below w.heap.size w w':=by
 have hu37:=Tryd.underlying37;have HB:=a0_ (Below.refl w.heap.size w);have H:((impl_PtOk.f a0_0 a0_1).bind fun t372=>(if t372=true then ((impl_PtOk.f a1_0 a1_1).bind fun t373=>(if t373=true then ((impl_PtOk.f a2_0 a2_1).bind fun t374=>(impl_SegTurn.j0 k (!t374) a0_0 a0_1 a1_0 a1_1 a2_0 a2_1)) else (impl_SegTurn.j0 k true a0_0 a0_1 a1_0 a1_1 a2_0 a2_1))) else (impl_SegTurn.j0 k true a0_0 a0_1 a1_0 a1_1 a2_0 a2_1)))=some r:=h;clear h;have HC4:=Aside0.mk H;clear H;go_enter Tryd.func78,Tryd.ntmps78;go_upto_region 1 with (first | ((with_reducible refine gate_dst (N:=3) rfl ?_);refine bx_ (N:=3) (cs:=#[.int .i64 a0_0,.int .i64 a0_1]) (t:=37) (h:=?_);intro gb369 hg w5 hbox hb;have BK369:=a0_ (hbox);have GW369:=gh_ HB hg;have GE369:=gh_ HB hg;replace HB:=sb_ HB hb;clear hb hbox hg) | ((with_reducible refine gate_dst (N:=4) rfl ?_);refine bx_ (N:=4) (cs:=#[.int .i64 a1_0,.int .i64 a1_1]) (t:=37) (h:=?_);intro gb370 hg w6 hbox hb;have BK370:=a0_ (hbox);have GW370:=gh_ HB hg;have GE370:=gh_ HB hg;have NB369_370:=nl_ BK369 hg;have NB370_369:=nr_ BK369 hg;replace BK369:=vb_ BK369 hb;replace HB:=sb_ HB hb;clear hb hbox hg) | ((with_reducible refine gate_dst (N:=5) rfl ?_);refine bx_ (N:=5) (cs:=#[.int .i64 a2_0,.int .i64 a2_1]) (t:=37) (h:=?_);intro gb371 hg w7 hbox hb;have BK371:=a0_ (hbox);have GW371:=gh_ HB hg;have GE371:=gh_ HB hg;have NB369_371:=nl_ BK369 hg;have NB371_369:=nr_ BK369 hg;have NB370_371:=nl_ BK370 hg;have NB371_370:=nr_ BK370 hg;replace BK369:=vb_ BK369 hb;replace BK370:=vb_ BK370 hb;replace HB:=sb_ HB hb;clear hb hbox hg))
 (try simp only [Act.put,List.setIfInBounds_toArray,List.set_cons_zero,List.set_cons_succ])
 go_cut [20] (fun v20 wc=>∃ (kq:Nat) (x20_3:Bool),v20=.bool x20_3∧Aside0 (impl_SegTurn.j0 kq x20_3 a0_0 a0_1 a1_0 a1_1 a2_0 a2_1=some r)∧Aside0 (kq≤k)∧Aside0 (wc.heap[gb369]?=some (.cells #[.int .i64 a0_0,.int .i64 a0_1] 37 (0,0)))∧Aside0 (wc.heap[gb370]?=some (.cells #[.int .i64 a1_0,.int .i64 a1_1] 37 (0,0)))∧Aside0 (wc.heap[gb371]?=some (.cells #[.int .i64 a2_0,.int .i64 a2_1] 37 (0,0)))∧Aside0 (Below w.heap.size w wc))
 case first =>
  have H:=HC4.out;clear HC4;replace H:=Option.bind_eq_some_iff.mp H;obtain⟨t372,A80,H⟩:=H
  (try dsimp only at H)
  have A8:=Aside0.mk A80;clear A80;by_cases c9:t372=true
  ·
   subst c9;rw [if_pos rfl] at H
   (try dsimp only at H)
   replace H:=Option.bind_eq_some_iff.mp H;obtain⟨t373,A100,H⟩:=H
   (try dsimp only at H)
   have A10:=Aside0.mk A100;clear A100;by_cases c11:t373=true
   ·
    subst c11;rw [if_pos rfl] at H
    (try dsimp only at H)
    replace H:=Option.bind_eq_some_iff.mp H;obtain⟨t374,A120,H⟩:=H
    (try dsimp only at H)
    have A12:=Aside0.mk A120;clear A120;have H':=Aside0.mk H;clear H;have hnb13:=NB369_370.out;have hnc13:=NB370_369.out;have hnb14:=NB369_371.out;have hnc14:=NB371_369.out;have hcz15_0:=c20_ BK369;have hcz15_1:=c21_ BK369;have hfz15_0:=fz_ BK369 0;have hfz15_1:=fz_ BK369 1;go_wp2_with (first | ((with_reducible refine gate_callee (f:=46) rfl ?_);refine gL_ (some 9) Tryd.func46 #[.agg #[.int .i64 a0_0,.int .i64 a0_1]] (h:=?_);(with_reducible refine (impl_PtOk.calls a0_0 a0_1 true _ A8.out).mono ?_);rintro e w16 ⟨rfl,hb⟩;refine⟨_,rfl,?_⟩;replace BK369:=vb_ BK369 hb;replace BK370:=vb_ BK370 hb;replace BK371:=vb_ BK371 hb;replace HB:=sb_ HB hb;(try clear hb);have hnb17:=NB370_371.out;have hnc17:=NB371_370.out;have hcz18_0:=c20_ BK370;have hcz18_1:=c21_ BK370;have hfz18_0:=fz_ BK370 0;have hfz18_1:=fz_ BK370 1) | (go_at_call 46;(with_reducible refine (impl_PtOk.calls a1_0 a1_1 true _ A10.out).mono ?_);rintro e w19 ⟨rfl,hb⟩;replace BK369:=vb_ BK369 hb;replace BK370:=vb_ BK370 hb;replace BK371:=vb_ BK371 hb;replace HB:=sb_ HB hb;(try clear hb);have hcz20_0:=c20_ BK371;have hcz20_1:=c21_ BK371;have hfz20_0:=fz_ BK371 0;have hfz20_1:=fz_ BK371 1) | (go_at_call 46;(with_reducible refine (impl_PtOk.calls a2_0 a2_1 t374 _ A12.out).mono ?_);rintro e w21 ⟨rfl,hb⟩;replace BK369:=vb_ BK369 hb;replace BK370:=vb_ BK370 hb;replace BK371:=vb_ BK371 hb;replace HB:=sb_ HB hb;(try clear hb)));go_meet
    case rel=>exact⟨_,(!t374),(by first | rfl | (simp;done) | (simp [*];done)),H',⟨by first | omega | exact Nat.le_refl _⟩,⟨uq_⟩,⟨uq_⟩,⟨uq_⟩,⟨hB_⟩⟩
   ·
    replace c11:=Bool.eq_false_iff.mpr c11;subst c11;rw [if_neg (show ¬ (false=true) by decide)] at H
    (try dsimp only at H)
    have H':=Aside0.mk H;clear H;have hnb22:=NB369_370.out;have hnc22:=NB370_369.out;have hnb23:=NB369_371.out;have hnc23:=NB371_369.out;have hcz24_0:=c20_ BK369;have hcz24_1:=c21_ BK369;have hfz24_0:=fz_ BK369 0;have hfz24_1:=fz_ BK369 1;go_wp2_with (first | ((with_reducible refine gate_callee (f:=46) rfl ?_);refine gL_ (some 9) Tryd.func46 #[.agg #[.int .i64 a0_0,.int .i64 a0_1]] (h:=?_);(with_reducible refine (impl_PtOk.calls a0_0 a0_1 true _ A8.out).mono ?_);rintro e w25 ⟨rfl,hb⟩;refine⟨_,rfl,?_⟩;replace BK369:=vb_ BK369 hb;replace BK370:=vb_ BK370 hb;replace BK371:=vb_ BK371 hb;replace HB:=sb_ HB hb;(try clear hb);have hnb26:=NB370_371.out;have hnc26:=NB371_370.out;have hcz27_0:=c20_ BK370;have hcz27_1:=c21_ BK370;have hfz27_0:=fz_ BK370 0;have hfz27_1:=fz_ BK370 1) | (go_at_call 46;(with_reducible refine (impl_PtOk.calls a1_0 a1_1 false _ A10.out).mono ?_);rintro e w28 ⟨rfl,hb⟩;replace BK369:=vb_ BK369 hb;replace BK370:=vb_ BK370 hb;replace BK371:=vb_ BK371 hb;replace HB:=sb_ HB hb;(try clear hb)));go_meet
    case rel=>exact⟨_,(true),(by first | rfl | (simp;done) | (simp [*];done)),H',⟨by first | omega | exact Nat.le_refl _⟩,⟨uq_⟩,⟨uq_⟩,⟨uq_⟩,⟨hB_⟩⟩
  ·
   replace c9:=Bool.eq_false_iff.mpr c9;subst c9;rw [if_neg (show ¬ (false=true) by decide)] at H
   (try dsimp only at H)
   have H':=Aside0.mk H;clear H;have hnb29:=NB369_370.out;have hnc29:=NB370_369.out;have hnb30:=NB369_371.out;have hnc30:=NB371_369.out;have hcz31_0:=c20_ BK369;have hcz31_1:=c21_ BK369;have hfz31_0:=fz_ BK369 0;have hfz31_1:=fz_ BK369 1;go_wp2_with (first | ((with_reducible refine gate_callee (f:=46) rfl ?_);refine gL_ (some 9) Tryd.func46 #[.agg #[.int .i64 a0_0,.int .i64 a0_1]] (h:=?_);(with_reducible refine (impl_PtOk.calls a0_0 a0_1 false _ A8.out).mono ?_);rintro e w32 ⟨rfl,hb⟩;refine⟨_,rfl,?_⟩;replace BK369:=vb_ BK369 hb;replace BK370:=vb_ BK370 hb;replace BK371:=vb_ BK371 hb;replace HB:=sb_ HB hb;(try clear hb)));go_meet
   case rel=>exact⟨_,(true),(by first | rfl | (simp;done) | (simp [*];done)),H',⟨by first | omega | exact Nat.le_refl _⟩,⟨uq_⟩,⟨uq_⟩,⟨uq_⟩,⟨hB_⟩⟩
 case rest =>
  clear HC4;obtain⟨kq,x20_3,rfl,HA,HJ3,BK369,BK370,BK371,HB⟩:=hcut
  cases kq with
  | zero=>exact absurd HA.out (by simp [impl_SegTurn.j0])
  | succ kj3 =>
   have H:=HA.out;clear HA;simp only [impl_SegTurn.j0] at H;by_cases c33:x20_3=true
   ·
    subst c33;rw [if_pos rfl] at H
    (try dsimp only at H)
    obtain rfl:=Option.some.inj H;go_wp2;go_ret;exact⟨rr_,hB_⟩
   ·
    replace c33:=Bool.eq_false_iff.mpr c33;subst c33;rw [if_neg (show ¬ (false=true) by decide)] at H
    (try dsimp only at H)
    replace H:=Option.bind_eq_some_iff.mp H;obtain⟨t375,A340,H⟩:=H
    (try dsimp only at H)
    have A34:=Aside0.mk A340;clear A340;by_cases c35:t375>0
    ·
     rw [if_pos c35] at H;have c35b0:decide (0<t375)=true:=decide_eq_true c35;clear c35;obtain rfl:=Option.some.inj H;have hnb36:=NB369_370.out;have hnc36:=NB370_369.out;have hnb37:=NB369_371.out;have hnc37:=NB371_369.out;have hcz38_0:=c20_ BK369;have hcz38_1:=c21_ BK369;have hfz38_0:=fz_ BK369 0;have hfz38_1:=fz_ BK369 1;have hnb39:=NB370_371.out;have hnc39:=NB371_370.out;have hcz40_0:=c20_ BK370;have hcz40_1:=c21_ BK370;have hfz40_0:=fz_ BK370 0;have hfz40_1:=fz_ BK370 1;have hcz41_0:=c20_ BK371;have hcz41_1:=c21_ BK371;have hfz41_0:=fz_ BK371 0;have hfz41_1:=fz_ BK371 1;go_wp2_with (first | ((with_reducible refine gate_callee (f:=92) rfl ?_);refine gL_ (some 24) Tryd.func92 #[.agg #[.int .i64 a0_0,.int .i64 a0_1],.agg #[.int .i64 a1_0,.int .i64 a1_1],.agg #[.int .i64 a2_0,.int .i64 a2_1]] (h:=?_);(with_reducible refine (impl_cross.calls a0_0 a0_1 a1_0 a1_1 a2_0 a2_1 t375 _ A34.out).mono ?_);rintro e w42 ⟨rfl,hb⟩;refine⟨_,rfl,?_⟩;replace BK369:=vb_ BK369 hb;replace BK370:=vb_ BK370 hb;replace BK371:=vb_ BK371 hb;replace HB:=sb_ HB hb;(try clear hb)));go_ret;exact⟨rr_,hB_⟩
    ·
     rw [if_neg c35] at H;have c35b0:decide (0<t375)=false:=decide_eq_false c35;clear c35;by_cases c43:t375<0
     ·
      rw [if_pos c43] at H;have c43b0:decide (t375<0)=true:=decide_eq_true c43;clear c43;obtain rfl:=Option.some.inj H;have hnb44:=NB369_370.out;have hnc44:=NB370_369.out;have hnb45:=NB369_371.out;have hnc45:=NB371_369.out;have hcz46_0:=c20_ BK369;have hcz46_1:=c21_ BK369;have hfz46_0:=fz_ BK369 0;have hfz46_1:=fz_ BK369 1;have hnb47:=NB370_371.out;have hnc47:=NB371_370.out;have hcz48_0:=c20_ BK370;have hcz48_1:=c21_ BK370;have hfz48_0:=fz_ BK370 0;have hfz48_1:=fz_ BK370 1;have hcz49_0:=c20_ BK371;have hcz49_1:=c21_ BK371;have hfz49_0:=fz_ BK371 0;have hfz49_1:=fz_ BK371 1;go_wp2_with (first | ((with_reducible refine gate_callee (f:=92) rfl ?_);refine gL_ (some 24) Tryd.func92 #[.agg #[.int .i64 a0_0,.int .i64 a0_1],.agg #[.int .i64 a1_0,.int .i64 a1_1],.agg #[.int .i64 a2_0,.int .i64 a2_1]] (h:=?_);(with_reducible refine (impl_cross.calls a0_0 a0_1 a1_0 a1_1 a2_0 a2_1 t375 _ A34.out).mono ?_);rintro e w50 ⟨rfl,hb⟩;refine⟨_,rfl,?_⟩;replace BK369:=vb_ BK369 hb;replace BK370:=vb_ BK370 hb;replace BK371:=vb_ BK371 hb;replace HB:=sb_ HB hb;(try clear hb)));go_ret;exact⟨rr_,hB_⟩
     ·
      rw [if_neg c43] at H;have c43b0:decide (t375<0)=false:=decide_eq_false c43;clear c43;obtain rfl:=Option.some.inj H;have hnb51:=NB369_370.out;have hnc51:=NB370_369.out;have hnb52:=NB369_371.out;have hnc52:=NB371_369.out;have hcz53_0:=c20_ BK369;have hcz53_1:=c21_ BK369;have hfz53_0:=fz_ BK369 0;have hfz53_1:=fz_ BK369 1;have hnb54:=NB370_371.out;have hnc54:=NB371_370.out;have hcz55_0:=c20_ BK370;have hcz55_1:=c21_ BK370;have hfz55_0:=fz_ BK370 0;have hfz55_1:=fz_ BK370 1;have hcz56_0:=c20_ BK371;have hcz56_1:=c21_ BK371;have hfz56_0:=fz_ BK371 0;have hfz56_1:=fz_ BK371 1;go_wp2_with (first | ((with_reducible refine gate_callee (f:=92) rfl ?_);refine gL_ (some 24) Tryd.func92 #[.agg #[.int .i64 a0_0,.int .i64 a0_1],.agg #[.int .i64 a1_0,.int .i64 a1_1],.agg #[.int .i64 a2_0,.int .i64 a2_1]] (h:=?_);(with_reducible refine (impl_cross.calls a0_0 a0_1 a1_0 a1_1 a2_0 a2_1 t375 _ A34.out).mono ?_);rintro e w57 ⟨rfl,hb⟩;refine⟨_,rfl,?_⟩;replace BK369:=vb_ BK369 hb;replace BK370:=vb_ BK370 hb;replace BK371:=vb_ BK371 hb;replace HB:=sb_ HB hb;(try clear hb)));go_ret;exact⟨rr_,hB_⟩
mutual
def impl_SegMeet.j0:Nat→Bool→Int→Int→Int→Int→Int→Int→Int→Int→Option (Bool)
 | 0,_,_,_,_,_,_,_,_,_=>none
 | k+1,x12,x377000,x377001,x377002,x377003,x378000,x378001,x378002,x378003=>if x12=true then (some false) else ((impl_SegHas.f k x377000 x377001 x377002 x377003 x378000 x378001).bind fun t380=>(if t380=true then (impl_SegMeet.j1 k true x377000 x377001 x377002 x377003 x378000 x378001 x378002 x378003) else ((impl_SegHas.f k x377000 x377001 x377002 x377003 x378002 x378003).bind fun t381=>(if t381=true then (impl_SegMeet.j1 k true x377000 x377001 x377002 x377003 x378000 x378001 x378002 x378003) else ((impl_SegHas.f k x378000 x378001 x378002 x378003 x377000 x377001).bind fun t382=>(if t382=true then (impl_SegMeet.j1 k true x377000 x377001 x377002 x377003 x378000 x378001 x378002 x378003) else ((impl_SegHas.f k x378000 x378001 x378002 x378003 x377002 x377003).bind fun t383=>(impl_SegMeet.j1 k t383 x377000 x377001 x377002 x377003 x378000 x378001 x378002 x378003))))))))
def impl_SegMeet.j1:Nat→Bool→Int→Int→Int→Int→Int→Int→Int→Int→Option (Bool)
 | 0,_,_,_,_,_,_,_,_,_=>none
 | k+1,x34,x377000,x377001,x377002,x377003,x378000,x378001,x378002,x378003=>if x34=true then (some true) else ((impl_SegTurn.f k x377000 x377001 x377002 x377003 x378000 x378001).bind fun t384=>((impl_SegTurn.f k x377000 x377001 x377002 x377003 x378002 x378003).bind fun t385=>(if (wrap64 (t384*t385))<0 then ((impl_SegTurn.f k x378000 x378001 x378002 x378003 x377000 x377001).bind fun t386=>((impl_SegTurn.f k x378000 x378001 x378002 x378003 x377002 x377003).bind fun t387=>(some (decide ((wrap64 (t386*t387))<0))))) else (some false))))
end
def impl_SegMeet.f (k:Nat)(a0_0:Int)(a0_1:Int)(a0_2:Int)(a0_3:Int)(a1_0:Int)(a1_1:Int)(a1_2:Int)(a1_3:Int):Option (Bool):=(impl_SegOk.f a0_0 a0_1 a0_2 a0_3).bind fun t378=>(if t378=true then ((impl_SegOk.f a1_0 a1_1 a1_2 a1_3).bind fun t379=>(impl_SegMeet.j0 k (!t379) a0_0 a0_1 a0_2 a0_3 a1_0 a1_1 a1_2 a1_3)) else (impl_SegMeet.j0 k true a0_0 a0_1 a0_2 a0_3 a1_0 a1_1 a1_2 a1_3))
def impl_SegMeet.T5:Bool × List (List Nat × List Nat):=(true,[([],[]),([0],[0]),([],[]),([2],[2]),([],[]),([4],[4]),([1,3,5],[1,3,5]),([],[]),([7],[7]),([],[]),([9],[9]),([],[]),([11],[11]),([8,10,12,6],[8,10,12]),([6,13],[6,13]),([14],[14]),([15,13],[15]),([16],[16]),([17,16],[16,17]),([16],[16]),([19,16],[16,19]),([16],[16]),([21,16],[16,21]),([18,20,22,16,16],[16,18,20,22]),([16],[16]),([24,16],[16,24]),([16],[16]),([26,16],[16,26]),([16],[16]),([28,16],[16,28]),([25,27,29,23,16],[16,25,27,29]),([23,30,16],[16,23,30]),([31,16],[16,31]),([16,32],[16,32]),([33,30,0,1,2,3,4,5,6,7,8,9,10,11,12,13,14,15,16,17,18,19,20,21,22,23,24,25,26,27,28,29,30,31,32,33],[33])])
def impl_SegMeet.B5:List Nat:=[0,1,0,4,0,16,63,0,128,0,512,0,2048,8191,16383,32767,65535,131071,262143,131071,655359,131071,2228223,8388607,131071,16908287,131071,67239935,131071,268566527,1073741823,2147483647,4294967295,8589934591,17179869183]
theorem impl_SegMeet.tab5:rtab .any (opsOf Tryd.f70 5)=impl_SegMeet.T5:=by kernel_rfl
theorem impl_SegMeet.bits5:waitsOk impl_SegMeet.T5.2 impl_SegMeet.B5=true:=by kernel_rfl
set_option maxHeartbeats 8000000 in
set_option maxRecDepth 100000 in
theorem impl_SegMeet.calls (k:Nat)(a0_0:Int)(a0_1:Int)(a0_2:Int)(a0_3:Int)(a1_0:Int)(a1_1:Int)(a1_2:Int)(a1_3:Int)(r:Bool)(w:World)(h:impl_SegMeet.f k a0_0 a0_1 a0_2 a0_3 a1_0 a1_1 a1_2 a1_3=some r):
  Calls Tryd.prog 70 #[.agg #[.int .i64 a0_0,.int .i64 a0_1,.int .i64 a0_2,.int .i64 a0_3],.agg #[.int .i64 a1_0,.int .i64 a1_1,.int .i64 a1_2,.int .i64 a1_3]] w fun e w'=>e=.returned (.bool r)∧Below w.heap.size w w':=by
 have hu89:=Tryd.underlying89;have hu37:=Tryd.underlying37;have HB:=a0_ (Below.refl w.heap.size w);have H:((impl_SegOk.f a0_0 a0_1 a0_2 a0_3).bind fun t378=>(if t378=true then ((impl_SegOk.f a1_0 a1_1 a1_2 a1_3).bind fun t379=>(impl_SegMeet.j0 k (!t379) a0_0 a0_1 a0_2 a0_3 a1_0 a1_1 a1_2 a1_3)) else (impl_SegMeet.j0 k true a0_0 a0_1 a0_2 a0_3 a1_0 a1_1 a1_2 a1_3)))=some r:=h;clear h;have HC3:=Aside0.mk H;clear H;go_enter Tryd.func70,Tryd.ntmps70;go_upto_region 1 with (first | ((with_reducible refine gate_dst (N:=2) rfl ?_);refine bx_ (N:=2) (cs:=#[.int .i64 a0_0,.int .i64 a0_1,.int .i64 a0_2,.int .i64 a0_3]) (t:=89) (h:=?_);intro gb376 hg w4 hbox hb;have BK376:=a0_ (hbox);have GW376:=gh_ HB hg;have GE376:=gh_ HB hg;replace HB:=sb_ HB hb;clear hb hbox hg) | ((with_reducible refine gate_dst (N:=3) rfl ?_);refine bx_ (N:=3) (cs:=#[.int .i64 a1_0,.int .i64 a1_1,.int .i64 a1_2,.int .i64 a1_3]) (t:=89) (h:=?_);intro gb377 hg w5 hbox hb;have BK377:=a0_ (hbox);have GW377:=gh_ HB hg;have GE377:=gh_ HB hg;have NB376_377:=nl_ BK376 hg;have NB377_376:=nr_ BK376 hg;replace BK376:=vb_ BK376 hb;replace HB:=sb_ HB hb;clear hb hbox hg))
 (try simp only [Act.put,List.setIfInBounds_toArray,List.set_cons_zero,List.set_cons_succ])
 go_cut [12] (fun v12 wc=>∃ (kq:Nat) (x12_2:Bool),v12=.bool x12_2∧Aside0 (impl_SegMeet.j0 kq x12_2 a0_0 a0_1 a0_2 a0_3 a1_0 a1_1 a1_2 a1_3=some r)∧Aside0 (kq≤k)∧Aside0 (wc.heap[gb376]?=some (.cells #[.int .i64 a0_0,.int .i64 a0_1,.int .i64 a0_2,.int .i64 a0_3] 89 (0,0)))∧Aside0 (wc.heap[gb377]?=some (.cells #[.int .i64 a1_0,.int .i64 a1_1,.int .i64 a1_2,.int .i64 a1_3] 89 (0,0)))∧Aside0 (Below w.heap.size w wc))
 case first =>
  have H:=HC3.out;clear HC3;replace H:=Option.bind_eq_some_iff.mp H;obtain⟨t378,A60,H⟩:=H
  (try dsimp only at H)
  have A6:=Aside0.mk A60;clear A60;by_cases c7:t378=true
  ·
   subst c7;rw [if_pos rfl] at H
   (try dsimp only at H)
   replace H:=Option.bind_eq_some_iff.mp H;obtain⟨t379,A80,H⟩:=H
   (try dsimp only at H)
   have A8:=Aside0.mk A80;clear A80;have H':=Aside0.mk H;clear H;have hnb9:=NB376_377.out;have hnc9:=NB377_376.out;have hcz10_0:=c40_ BK376;have hcz10_1:=c41_ BK376;have hcz10_2:=c42_ BK376;have hcz10_3:=c43_ BK376;have hfz10_0:=fz_ BK376 0;have hfz10_1:=fz_ BK376 1;have hfz10_2:=fz_ BK376 2;have hfz10_3:=fz_ BK376 3;go_wp2_with (first | ((with_reducible refine gate_callee (f:=68) rfl ?_);refine gL_ (some 6) Tryd.func68 #[.agg #[.int .i64 a0_0,.int .i64 a0_1,.int .i64 a0_2,.int .i64 a0_3]] (h:=?_);(with_reducible refine (impl_SegOk.calls a0_0 a0_1 a0_2 a0_3 true _ A6.out).mono ?_);rintro e w11 ⟨rfl,hb⟩;refine⟨_,rfl,?_⟩;replace BK376:=vb_ BK376 hb;replace BK377:=vb_ BK377 hb;replace HB:=sb_ HB hb;(try clear hb);have hcz12_0:=c40_ BK377;have hcz12_1:=c41_ BK377;have hcz12_2:=c42_ BK377;have hcz12_3:=c43_ BK377;have hfz12_0:=fz_ BK377 0;have hfz12_1:=fz_ BK377 1;have hfz12_2:=fz_ BK377 2;have hfz12_3:=fz_ BK377 3) | (go_at_call 68;(with_reducible refine (impl_SegOk.calls a1_0 a1_1 a1_2 a1_3 t379 _ A8.out).mono ?_);rintro e w13 ⟨rfl,hb⟩;replace BK376:=vb_ BK376 hb;replace BK377:=vb_ BK377 hb;replace HB:=sb_ HB hb;(try clear hb)));go_meet
   case rel=>exact⟨_,(!t379),(by first | rfl | (simp;done) | (simp [*];done)),H',⟨by first | omega | exact Nat.le_refl _⟩,⟨uq_⟩,⟨uq_⟩,⟨hB_⟩⟩
  ·
   replace c7:=Bool.eq_false_iff.mpr c7;subst c7;rw [if_neg (show ¬ (false=true) by decide)] at H
   (try dsimp only at H)
   have H':=Aside0.mk H;clear H;have hnb14:=NB376_377.out;have hnc14:=NB377_376.out;have hcz15_0:=c40_ BK376;have hcz15_1:=c41_ BK376;have hcz15_2:=c42_ BK376;have hcz15_3:=c43_ BK376;have hfz15_0:=fz_ BK376 0;have hfz15_1:=fz_ BK376 1;have hfz15_2:=fz_ BK376 2;have hfz15_3:=fz_ BK376 3;go_wp2_with (first | ((with_reducible refine gate_callee (f:=68) rfl ?_);refine gL_ (some 6) Tryd.func68 #[.agg #[.int .i64 a0_0,.int .i64 a0_1,.int .i64 a0_2,.int .i64 a0_3]] (h:=?_);(with_reducible refine (impl_SegOk.calls a0_0 a0_1 a0_2 a0_3 false _ A6.out).mono ?_);rintro e w16 ⟨rfl,hb⟩;refine⟨_,rfl,?_⟩;replace BK376:=vb_ BK376 hb;replace BK377:=vb_ BK377 hb;replace HB:=sb_ HB hb;(try clear hb)));go_meet
   case rel=>exact⟨_,(true),(by first | rfl | (simp;done) | (simp [*];done)),H',⟨by first | omega | exact Nat.le_refl _⟩,⟨uq_⟩,⟨uq_⟩,⟨hB_⟩⟩
 case rest =>
  clear HC3;obtain⟨kq,x12_2,rfl,HA,HJ2,BK376,BK377,HB⟩:=hcut
  cases kq with
  | zero=>exact absurd HA.out (by simp [impl_SegMeet.j0])
  | succ kj2 =>
   have H:=HA.out;clear HA;simp only [impl_SegMeet.j0] at H;by_cases c17:x12_2=true
   ·
    subst c17;rw [if_pos rfl] at H
    (try dsimp only at H)
    obtain rfl:=Option.some.inj H;go_wp2;go_ret;exact⟨rr_,hB_⟩
   ·
    replace c17:=Bool.eq_false_iff.mpr c17;subst c17;rw [if_neg (show ¬ (false=true) by decide)] at H
    (try dsimp only at H)
    have HC18:=Aside0.mk H;clear H;go_upto_region 3 with (fail)
    go_cut [34] (fun v34 wc=>∃ (kq:Nat) (x34_17:Bool),v34=.bool x34_17∧Aside0 (impl_SegMeet.j1 kq x34_17 a0_0 a0_1 a0_2 a0_3 a1_0 a1_1 a1_2 a1_3=some r)∧Aside0 (kq≤kj2)∧Aside0 (wc.heap[gb376]?=some (.cells #[.int .i64 a0_0,.int .i64 a0_1,.int .i64 a0_2,.int .i64 a0_3] 89 (0,0)))∧Aside0 (wc.heap[gb377]?=some (.cells #[.int .i64 a1_0,.int .i64 a1_1,.int .i64 a1_2,.int .i64 a1_3] 89 (0,0)))∧Aside0 (Below w.heap.size w wc))
    case first =>
     have H:=HC18.out;clear HC18;replace H:=Option.bind_eq_some_iff.mp H;obtain⟨t380,A190,H⟩:=H
     (try dsimp only at H)
     have A19:=Aside0.mk A190;clear A190;by_cases c20:t380=true
     ·
      subst c20;rw [if_pos rfl] at H
      (try dsimp only at H)
      have H':=Aside0.mk H;clear H;have hnb21:=NB376_377.out;have hnc21:=NB377_376.out;have hcz22_0:=c40_ BK376;have hcz22_1:=c41_ BK376;have hcz22_2:=c42_ BK376;have hcz22_3:=c43_ BK376;have hfz22_0:=fz_ BK376 0;have hfz22_1:=fz_ BK376 1;have hfz22_2:=fz_ BK376 2;have hfz22_3:=fz_ BK376 3;have hcz23_0:=c40_ BK377;have hcz23_1:=c41_ BK377;have hcz23_2:=c42_ BK377;have hcz23_3:=c43_ BK377;have hfz23_0:=fz_ BK377 0;have hfz23_1:=fz_ BK377 1;have hfz23_2:=fz_ BK377 2;have hfz23_3:=fz_ BK377 3;go_wp2_with (first | ((with_reducible refine gate_callee (f:=77) rfl ?_);refine gL_ (some 16) Tryd.func77 #[.agg #[.int .i64 a0_0,.int .i64 a0_1,.int .i64 a0_2,.int .i64 a0_3],.agg #[.int .i64 a1_0,.int .i64 a1_1]] (h:=?_);(with_reducible refine (impl_SegHas.calls kj2 a0_0 a0_1 a0_2 a0_3 a1_0 a1_1 true _ A19.out).mono ?_);rintro e w24 ⟨rfl,hb⟩;refine⟨_,rfl,?_⟩;replace BK376:=vb_ BK376 hb;replace BK377:=vb_ BK377 hb;replace HB:=sb_ HB hb;(try clear hb)));go_meet
      case rel=>exact⟨_,(true),(by first | rfl | (simp;done) | (simp [*];done)),H',⟨by have:=HJ2.out;first | omega | exact Nat.le_refl _⟩,⟨uq_⟩,⟨uq_⟩,⟨hB_⟩⟩
     ·
      replace c20:=Bool.eq_false_iff.mpr c20;subst c20;rw [if_neg (show ¬ (false=true) by decide)] at H
      (try dsimp only at H)
      replace H:=Option.bind_eq_some_iff.mp H;obtain⟨t381,A250,H⟩:=H
      (try dsimp only at H)
      have A25:=Aside0.mk A250;clear A250;by_cases c26:t381=true
      ·
       subst c26;rw [if_pos rfl] at H
       (try dsimp only at H)
       have H':=Aside0.mk H;clear H;have hnb27:=NB376_377.out;have hnc27:=NB377_376.out;have hcz28_0:=c40_ BK376;have hcz28_1:=c41_ BK376;have hcz28_2:=c42_ BK376;have hcz28_3:=c43_ BK376;have hfz28_0:=fz_ BK376 0;have hfz28_1:=fz_ BK376 1;have hfz28_2:=fz_ BK376 2;have hfz28_3:=fz_ BK376 3;have hcz29_0:=c40_ BK377;have hcz29_1:=c41_ BK377;have hcz29_2:=c42_ BK377;have hcz29_3:=c43_ BK377;have hfz29_0:=fz_ BK377 0;have hfz29_1:=fz_ BK377 1;have hfz29_2:=fz_ BK377 2;have hfz29_3:=fz_ BK377 3;go_wp2_with (first | ((with_reducible refine gate_callee (f:=77) rfl ?_);refine gL_ (some 16) Tryd.func77 #[.agg #[.int .i64 a0_0,.int .i64 a0_1,.int .i64 a0_2,.int .i64 a0_3],.agg #[.int .i64 a1_0,.int .i64 a1_1]] (h:=?_);(with_reducible refine (impl_SegHas.calls kj2 a0_0 a0_1 a0_2 a0_3 a1_0 a1_1 false _ A19.out).mono ?_);rintro e w30 ⟨rfl,hb⟩;refine⟨_,rfl,?_⟩;replace BK376:=vb_ BK376 hb;replace BK377:=vb_ BK377 hb;replace HB:=sb_ HB hb;(try clear hb);have hcz31_0:=c40_ BK376;have hcz31_1:=c41_ BK376;have hcz31_2:=c42_ BK376;have hcz31_3:=c43_ BK376;have hfz31_0:=fz_ BK376 0;have hfz31_1:=fz_ BK376 1;have hfz31_2:=fz_ BK376 2;have hfz31_3:=fz_ BK376 3;have hcz32_0:=c40_ BK377;have hcz32_1:=c41_ BK377;have hcz32_2:=c42_ BK377;have hcz32_3:=c43_ BK377;have hfz32_0:=fz_ BK377 0;have hfz32_1:=fz_ BK377 1;have hfz32_2:=fz_ BK377 2;have hfz32_3:=fz_ BK377 3) | (go_at_call 77;(with_reducible refine (impl_SegHas.calls kj2 a0_0 a0_1 a0_2 a0_3 a1_2 a1_3 true _ A25.out).mono ?_);rintro e w33 ⟨rfl,hb⟩;replace BK376:=vb_ BK376 hb;replace BK377:=vb_ BK377 hb;replace HB:=sb_ HB hb;(try clear hb)));go_meet
       case rel=>exact⟨_,(true),(by first | rfl | (simp;done) | (simp [*];done)),H',⟨by have:=HJ2.out;first | omega | exact Nat.le_refl _⟩,⟨uq_⟩,⟨uq_⟩,⟨hB_⟩⟩
      ·
       replace c26:=Bool.eq_false_iff.mpr c26;subst c26;rw [if_neg (show ¬ (false=true) by decide)] at H
       (try dsimp only at H)
       replace H:=Option.bind_eq_some_iff.mp H;obtain⟨t382,A340,H⟩:=H
       (try dsimp only at H)
       have A34:=Aside0.mk A340;clear A340;by_cases c35:t382=true
       ·
        subst c35;rw [if_pos rfl] at H
        (try dsimp only at H)
        have H':=Aside0.mk H;clear H;have hnb36:=NB376_377.out;have hnc36:=NB377_376.out;have hcz37_0:=c40_ BK376;have hcz37_1:=c41_ BK376;have hcz37_2:=c42_ BK376;have hcz37_3:=c43_ BK376;have hfz37_0:=fz_ BK376 0;have hfz37_1:=fz_ BK376 1;have hfz37_2:=fz_ BK376 2;have hfz37_3:=fz_ BK376 3;have hcz38_0:=c40_ BK377;have hcz38_1:=c41_ BK377;have hcz38_2:=c42_ BK377;have hcz38_3:=c43_ BK377;have hfz38_0:=fz_ BK377 0;have hfz38_1:=fz_ BK377 1;have hfz38_2:=fz_ BK377 2;have hfz38_3:=fz_ BK377 3
        go_wp2_with (first | ((with_reducible refine gate_callee (f:=77) rfl ?_);refine gL_ (some 16) Tryd.func77 #[.agg #[.int .i64 a0_0,.int .i64 a0_1,.int .i64 a0_2,.int .i64 a0_3],.agg #[.int .i64 a1_0,.int .i64 a1_1]] (h:=?_);(with_reducible refine (impl_SegHas.calls kj2 a0_0 a0_1 a0_2 a0_3 a1_0 a1_1 false _ A19.out).mono ?_);rintro e w39 ⟨rfl,hb⟩;refine⟨_,rfl,?_⟩;replace BK376:=vb_ BK376 hb;replace BK377:=vb_ BK377 hb;replace HB:=sb_ HB hb;(try clear hb);have hcz40_0:=c40_ BK376;have hcz40_1:=c41_ BK376;have hcz40_2:=c42_ BK376;have hcz40_3:=c43_ BK376;have hfz40_0:=fz_ BK376 0;have hfz40_1:=fz_ BK376 1;have hfz40_2:=fz_ BK376 2;have hfz40_3:=fz_ BK376 3;have hcz41_0:=c40_ BK377;have hcz41_1:=c41_ BK377;have hcz41_2:=c42_ BK377;have hcz41_3:=c43_ BK377;have hfz41_0:=fz_ BK377 0;have hfz41_1:=fz_ BK377 1;have hfz41_2:=fz_ BK377 2;have hfz41_3:=fz_ BK377 3) | (go_at_call 77;(with_reducible refine (impl_SegHas.calls kj2 a0_0 a0_1 a0_2 a0_3 a1_2 a1_3 false _ A25.out).mono ?_);rintro e w42 ⟨rfl,hb⟩;replace BK376:=vb_ BK376 hb;replace BK377:=vb_ BK377 hb;replace HB:=sb_ HB hb;(try clear hb);have hcz43_0:=c40_ BK377;have hcz43_1:=c41_ BK377;have hcz43_2:=c42_ BK377;have hcz43_3:=c43_ BK377;have hfz43_0:=fz_ BK377 0;have hfz43_1:=fz_ BK377 1;have hfz43_2:=fz_ BK377 2;have hfz43_3:=fz_ BK377 3;have hcz44_0:=c40_ BK376;have hcz44_1:=c41_ BK376;have hcz44_2:=c42_ BK376;have hcz44_3:=c43_ BK376;have hfz44_0:=fz_ BK376 0;have hfz44_1:=fz_ BK376 1;have hfz44_2:=fz_ BK376 2;have hfz44_3:=fz_ BK376 3) | (go_at_call 77;(with_reducible refine (impl_SegHas.calls kj2 a1_0 a1_1 a1_2 a1_3 a0_0 a0_1 true _ A34.out).mono ?_);rintro e w45 ⟨rfl,hb⟩;replace BK376:=vb_ BK376 hb;replace BK377:=vb_ BK377 hb;replace HB:=sb_ HB hb;(try clear hb)));go_meet
        case rel=>exact⟨_,(true),(by first | rfl | (simp;done) | (simp [*];done)),H',⟨by have:=HJ2.out;first | omega | exact Nat.le_refl _⟩,⟨uq_⟩,⟨uq_⟩,⟨hB_⟩⟩
       ·
        replace c35:=Bool.eq_false_iff.mpr c35;subst c35;rw [if_neg (show ¬ (false=true) by decide)] at H
        (try dsimp only at H)
        replace H:=Option.bind_eq_some_iff.mp H;obtain⟨t383,A460,H⟩:=H
        (try dsimp only at H)
        have A46:=Aside0.mk A460;clear A460;have H':=Aside0.mk H;clear H;have hnb47:=NB376_377.out;have hnc47:=NB377_376.out;have hcz48_0:=c40_ BK376;have hcz48_1:=c41_ BK376;have hcz48_2:=c42_ BK376;have hcz48_3:=c43_ BK376;have hfz48_0:=fz_ BK376 0;have hfz48_1:=fz_ BK376 1;have hfz48_2:=fz_ BK376 2;have hfz48_3:=fz_ BK376 3;have hcz49_0:=c40_ BK377;have hcz49_1:=c41_ BK377;have hcz49_2:=c42_ BK377;have hcz49_3:=c43_ BK377;have hfz49_0:=fz_ BK377 0;have hfz49_1:=fz_ BK377 1;have hfz49_2:=fz_ BK377 2;have hfz49_3:=fz_ BK377 3
        go_wp2_with (first | ((with_reducible refine gate_callee (f:=77) rfl ?_);refine gL_ (some 16) Tryd.func77 #[.agg #[.int .i64 a0_0,.int .i64 a0_1,.int .i64 a0_2,.int .i64 a0_3],.agg #[.int .i64 a1_0,.int .i64 a1_1]] (h:=?_);(with_reducible refine (impl_SegHas.calls kj2 a0_0 a0_1 a0_2 a0_3 a1_0 a1_1 false _ A19.out).mono ?_);rintro e w50 ⟨rfl,hb⟩;refine⟨_,rfl,?_⟩;replace BK376:=vb_ BK376 hb;replace BK377:=vb_ BK377 hb;replace HB:=sb_ HB hb;(try clear hb);have hcz51_0:=c40_ BK376;have hcz51_1:=c41_ BK376;have hcz51_2:=c42_ BK376;have hcz51_3:=c43_ BK376;have hfz51_0:=fz_ BK376 0;have hfz51_1:=fz_ BK376 1;have hfz51_2:=fz_ BK376 2;have hfz51_3:=fz_ BK376 3;have hcz52_0:=c40_ BK377;have hcz52_1:=c41_ BK377;have hcz52_2:=c42_ BK377;have hcz52_3:=c43_ BK377;have hfz52_0:=fz_ BK377 0;have hfz52_1:=fz_ BK377 1;have hfz52_2:=fz_ BK377 2;have hfz52_3:=fz_ BK377 3) | (go_at_call 77;(with_reducible refine (impl_SegHas.calls kj2 a0_0 a0_1 a0_2 a0_3 a1_2 a1_3 false _ A25.out).mono ?_);rintro e w53 ⟨rfl,hb⟩;replace BK376:=vb_ BK376 hb;replace BK377:=vb_ BK377 hb;replace HB:=sb_ HB hb;(try clear hb);have hcz54_0:=c40_ BK377;have hcz54_1:=c41_ BK377;have hcz54_2:=c42_ BK377;have hcz54_3:=c43_ BK377;have hfz54_0:=fz_ BK377 0;have hfz54_1:=fz_ BK377 1;have hfz54_2:=fz_ BK377 2;have hfz54_3:=fz_ BK377 3;have hcz55_0:=c40_ BK376;have hcz55_1:=c41_ BK376;have hcz55_2:=c42_ BK376;have hcz55_3:=c43_ BK376;have hfz55_0:=fz_ BK376 0;have hfz55_1:=fz_ BK376 1;have hfz55_2:=fz_ BK376 2;have hfz55_3:=fz_ BK376 3) | (go_at_call 77;(with_reducible refine (impl_SegHas.calls kj2 a1_0 a1_1 a1_2 a1_3 a0_0 a0_1 false _ A34.out).mono ?_);rintro e w56 ⟨rfl,hb⟩;replace BK376:=vb_ BK376 hb;replace BK377:=vb_ BK377 hb;replace HB:=sb_ HB hb;(try clear hb);have hcz57_0:=c40_ BK377;have hcz57_1:=c41_ BK377;have hcz57_2:=c42_ BK377;have hcz57_3:=c43_ BK377;have hfz57_0:=fz_ BK377 0;have hfz57_1:=fz_ BK377 1;have hfz57_2:=fz_ BK377 2;have hfz57_3:=fz_ BK377 3;have hcz58_0:=c40_ BK376;have hcz58_1:=c41_ BK376;have hcz58_2:=c42_ BK376;have hcz58_3:=c43_ BK376;have hfz58_0:=fz_ BK376 0;have hfz58_1:=fz_ BK376 1;have hfz58_2:=fz_ BK376 2;have hfz58_3:=fz_ BK376 3) | (go_at_call 77;(with_reducible refine (impl_SegHas.calls kj2 a1_0 a1_1 a1_2 a1_3 a0_2 a0_3 t383 _ A46.out).mono ?_);rintro e w59 ⟨rfl,hb⟩;replace BK376:=vb_ BK376 hb;replace BK377:=vb_ BK377 hb;replace HB:=sb_ HB hb;(try clear hb)))
        go_meet
        case rel=>exact⟨_,(t383),(by first | rfl | (simp;done) | (simp [*];done)),H',⟨by have:=HJ2.out;first | omega | exact Nat.le_refl _⟩,⟨uq_⟩,⟨uq_⟩,⟨hB_⟩⟩
    case rest =>
     clear HC18;obtain⟨kq,x34_17,rfl,HA,HJ17,BK376,BK377,HB⟩:=hcut
     cases kq with
     | zero=>exact absurd HA.out (by simp [impl_SegMeet.j1])
     | succ kj17 =>
      have H:=HA.out;clear HA;simp only [impl_SegMeet.j1] at H;by_cases c60:x34_17=true
      ·
       subst c60;rw [if_pos rfl] at H
       (try dsimp only at H)
       obtain rfl:=Option.some.inj H;go_wp2;go_ret;exact⟨rr_,hB_⟩
      ·
       replace c60:=Bool.eq_false_iff.mpr c60;subst c60;rw [if_neg (show ¬ (false=true) by decide)] at H
       (try dsimp only at H)
       replace H:=Option.bind_eq_some_iff.mp H;obtain⟨t384,A610,H⟩:=H
       (try dsimp only at H)
       have A61:=Aside0.mk A610;clear A610;replace H:=Option.bind_eq_some_iff.mp H;obtain⟨t385,A620,H⟩:=H
       (try dsimp only at H)
       have A62:=Aside0.mk A620;clear A620;by_cases c63:(wrap64 (t384*t385))<0
       ·
        rw [if_pos c63] at H;have c63b0:decide ((wrap64 (t384*t385))<0)=true:=decide_eq_true c63;clear c63;replace H:=Option.bind_eq_some_iff.mp H;obtain⟨t386,A640,H⟩:=H
        (try dsimp only at H)
        have A64:=Aside0.mk A640;clear A640;replace H:=Option.bind_eq_some_iff.mp H;obtain⟨t387,A650,H⟩:=H
        (try dsimp only at H)
        have A65:=Aside0.mk A650;clear A650;obtain rfl:=Option.some.inj H
        try go_wp2
        replace BK376:=a0_ (blk_drew BK376.out);replace BK377:=a0_ (blk_drew BK377.out);replace HB:=a0_ (below_drew1 HB.out);refine start_ (n:=35) (S:=fun w'=>w'.cell? ⟨gb376,0,none⟩=some (.int .i64 a0_0)∧w'.cell? ⟨gb376,1,none⟩=some (.int .i64 a0_1)∧w'.cell? ⟨gb376,2,none⟩=some (.int .i64 a0_2)∧w'.cell? ⟨gb376,3,none⟩=some (.int .i64 a0_3)∧w'.cell? ⟨gb377,0,none⟩=some (.int .i64 a1_0)∧w'.cell? ⟨gb377,1,none⟩=some (.int .i64 a1_1)∧w'.cell? ⟨gb377,2,none⟩=some (.int .i64 a1_2)∧w'.cell? ⟨gb377,3,none⟩=some (.int .i64 a1_3)) (ds:=[]) (Array.replicate 35 false) (by kernel_rfl) rfl rfl ⟨bc_,bc_,bc_,bc_,bc_,bc_,bc_,bc_⟩ (fun hHeld=>?_);refine with_tabW impl_SegMeet.tab5 impl_SegMeet.bits5 (fun HT_ HW_=>?_);generalize wc.drew=w66 at BK376 BK377 HB hHeld ⊢
        refine pu_ HT_ 0 35 (bm 35 1) ?_;refine pu_ HT_ 2 37 (bm 35 5) ?_;refine pu_ HT_ 4 39 (bm 35 21) ?_;refine pu_ HT_ 7 42 (bm 35 149) ?_;refine pu_ HT_ 9 44 (bm 35 661) ?_;refine pu_ HT_ 11 46 (bm 35 2709) ?_;refine ta8_ HT_ HW_ 1 36 (bm 35 2711) hHeld ?_;refine ta8_ HT_ HW_ 3 38 (bm 35 2719) hHeld ?_;refine ta8_ HT_ HW_ 5 40 (bm 35 2751) hHeld ?_;refine ta8_ HT_ HW_ 8 43 (bm 35 3007) hHeld ?_;refine ta8_ HT_ HW_ 10 45 (bm 35 4031) hHeld ?_;refine ta8_ HT_ HW_ 12 47 (bm 35 8127) hHeld ?_;refine one_ (i:=6) (N:=some 41) (bm 35 8191) rfl rfl (one_of HT_.out (by kernel_rfl)) (by decide) (fun K hK=>?_);refine goes_ Tryd.func78 (by kernel_rfl) rfl #[.agg #[.int .i64 a0_0,.int .i64 a0_1],.agg #[.int .i64 a0_2,.int .i64 a0_3],.agg #[.int .i64 a1_0,.int .i64 a1_1]] (by rfl) rfl rfl ma_ ?_
        with_reducible refine (impl_SegTurn.calls kj17 a0_0 a0_1 a0_2 a0_3 a1_0 a1_1 t384 _ A61.out).mono ?_
        rintro e w67 ⟨rfl,hb⟩;refine⟨_,rfl,?_⟩;replace BK376:=vb_ BK376 hb;replace BK377:=vb_ BK377 hb;replace HB:=sb_ HB hb
        (try clear hb)
        (try clear hb2)
        (try clear hk)
        (try clear hi)
        refine hK.out _ _ ⟨bc_,bc_,bc_,bc_,bc_,bc_,bc_,bc_⟩ (fun hHeld=>?_);clear hK K;refine no_ (h:=?_);refine one_ (i:=13) (N:=some 48) (bm 35 16383) rfl rfl (one_of HT_.out (by kernel_rfl)) (by decide) (fun K hK=>?_);refine goes_ Tryd.func78 (by kernel_rfl) rfl #[.agg #[.int .i64 a0_0,.int .i64 a0_1],.agg #[.int .i64 a0_2,.int .i64 a0_3],.agg #[.int .i64 a1_2,.int .i64 a1_3]] (by rfl) rfl rfl ma_ ?_
        with_reducible refine (impl_SegTurn.calls kj17 a0_0 a0_1 a0_2 a0_3 a1_2 a1_3 t385 _ A62.out).mono ?_
        rintro e w68 ⟨rfl,hb⟩;refine⟨_,rfl,?_⟩;replace BK376:=vb_ BK376 hb;replace BK377:=vb_ BK377 hb;replace HB:=sb_ HB hb
        (try clear hb)
        (try clear hb2)
        (try clear hk)
        (try clear hi)
        refine hK.out _ _ ⟨bc_,bc_,bc_,bc_,bc_,bc_,bc_,bc_⟩ (fun hHeld=>?_);clear hK K;refine no_ (h:=?_);refine pu_ HT_ 14 49 (bm 35 32767) ?_;refine pu_ HT_ 15 50 (bm 35 65535) ?_;refine pu_ HT_ 16 51 (bm 35 131071) ?_;refine pu_ HT_ 17 52 (bm 35 262143) ?_;refine pu_ HT_ 19 54 (bm 35 786431) ?_;refine pu_ HT_ 21 56 (bm 35 2883583) ?_;refine pu_ HT_ 24 59 (bm 35 19660799) ?_;refine pu_ HT_ 26 61 (bm 35 86769663) ?_;refine pu_ HT_ 28 63 (bm 35 355205119) ?_;refine ta8_ HT_ HW_ 18 53 (bm 35 355467263) hHeld ?_;refine ta8_ HT_ HW_ 20 55 (bm 35 356515839) hHeld ?_;refine ta8_ HT_ HW_ 22 57 (bm 35 360710143) hHeld ?_;refine ta8_ HT_ HW_ 25 60 (bm 35 394264575) hHeld ?_;refine ta8_ HT_ HW_ 27 62 (bm 35 528482303) hHeld ?_;refine ta8_ HT_ HW_ 29 64 (bm 35 1065353215) hHeld ?_;refine one_ (i:=23) (N:=some 58) (bm 35 1073741823) rfl rfl (one_of HT_.out (by kernel_rfl)) (by decide) (fun K hK=>?_);refine goes_ Tryd.func78 (by kernel_rfl) rfl #[.agg #[.int .i64 a1_0,.int .i64 a1_1],.agg #[.int .i64 a1_2,.int .i64 a1_3],.agg #[.int .i64 a0_0,.int .i64 a0_1]] (by rfl) rfl rfl ma_ ?_
        with_reducible refine (impl_SegTurn.calls kj17 a1_0 a1_1 a1_2 a1_3 a0_0 a0_1 t386 _ A64.out).mono ?_
        rintro e w69 ⟨rfl,hb⟩;refine⟨_,rfl,?_⟩;replace BK376:=vb_ BK376 hb;replace BK377:=vb_ BK377 hb;replace HB:=sb_ HB hb
        (try clear hb)
        (try clear hb2)
        (try clear hk)
        (try clear hi)
        refine hK.out _ _ ⟨bc_,bc_,bc_,bc_,bc_,bc_,bc_,bc_⟩ (fun hHeld=>?_);clear hK K;refine no_ (h:=?_);refine one_ (i:=30) (N:=some 65) (bm 35 2147483647) rfl rfl (one_of HT_.out (by kernel_rfl)) (by decide) (fun K hK=>?_);refine goes_ Tryd.func78 (by kernel_rfl) rfl #[.agg #[.int .i64 a1_0,.int .i64 a1_1],.agg #[.int .i64 a1_2,.int .i64 a1_3],.agg #[.int .i64 a0_2,.int .i64 a0_3]] (by rfl) rfl rfl ma_ ?_
        with_reducible refine (impl_SegTurn.calls kj17 a1_0 a1_1 a1_2 a1_3 a0_2 a0_3 t387 _ A65.out).mono ?_
        rintro e w70 ⟨rfl,hb⟩;refine⟨_,rfl,?_⟩;replace BK376:=vb_ BK376 hb;replace BK377:=vb_ BK377 hb;replace HB:=sb_ HB hb
        (try clear hb)
        (try clear hb2)
        (try clear hk)
        (try clear hi)
        refine hK.out _ _ ⟨bc_,bc_,bc_,bc_,bc_,bc_,bc_,bc_⟩ (fun hHeld=>?_);clear hK K;refine no_ (h:=?_);refine pu_ HT_ 31 66 (bm 35 4294967295) ?_;refine pu_ HT_ 32 67 (bm 35 8589934591) ?_;refine pu_ HT_ 33 68 (bm 35 17179869183) ?_;refine pu_ HT_ 34 4 (bm 35 34359738367) ?_;refine done_ (done_of HT_.out (by kernel_rfl)) ?_
        try go_wp2
        go_ret;exact⟨rr_,hB_⟩
       ·
        rw [if_neg c63] at H;have c63b0:decide ((wrap64 (t384*t385))<0)=false:=decide_eq_false c63;clear c63;obtain rfl:=Option.some.inj H
        try go_wp2
        replace BK376:=a0_ (blk_drew BK376.out);replace BK377:=a0_ (blk_drew BK377.out);replace HB:=a0_ (below_drew1 HB.out);refine start_ (n:=35) (S:=fun w'=>w'.cell? ⟨gb376,0,none⟩=some (.int .i64 a0_0)∧w'.cell? ⟨gb376,1,none⟩=some (.int .i64 a0_1)∧w'.cell? ⟨gb376,2,none⟩=some (.int .i64 a0_2)∧w'.cell? ⟨gb376,3,none⟩=some (.int .i64 a0_3)∧w'.cell? ⟨gb377,0,none⟩=some (.int .i64 a1_0)∧w'.cell? ⟨gb377,1,none⟩=some (.int .i64 a1_1)∧w'.cell? ⟨gb377,2,none⟩=some (.int .i64 a1_2)∧w'.cell? ⟨gb377,3,none⟩=some (.int .i64 a1_3)) (ds:=[]) (Array.replicate 35 false) (by kernel_rfl) rfl rfl ⟨bc_,bc_,bc_,bc_,bc_,bc_,bc_,bc_⟩ (fun hHeld=>?_);refine with_tabW impl_SegMeet.tab5 impl_SegMeet.bits5 (fun HT_ HW_=>?_);generalize wc.drew=w71 at BK376 BK377 HB hHeld ⊢
        refine pu_ HT_ 0 35 (bm 35 1) ?_;refine pu_ HT_ 2 37 (bm 35 5) ?_;refine pu_ HT_ 4 39 (bm 35 21) ?_;refine pu_ HT_ 7 42 (bm 35 149) ?_;refine pu_ HT_ 9 44 (bm 35 661) ?_;refine pu_ HT_ 11 46 (bm 35 2709) ?_;refine ta8_ HT_ HW_ 1 36 (bm 35 2711) hHeld ?_;refine ta8_ HT_ HW_ 3 38 (bm 35 2719) hHeld ?_;refine ta8_ HT_ HW_ 5 40 (bm 35 2751) hHeld ?_;refine ta8_ HT_ HW_ 8 43 (bm 35 3007) hHeld ?_;refine ta8_ HT_ HW_ 10 45 (bm 35 4031) hHeld ?_;refine ta8_ HT_ HW_ 12 47 (bm 35 8127) hHeld ?_;refine one_ (i:=6) (N:=some 41) (bm 35 8191) rfl rfl (one_of HT_.out (by kernel_rfl)) (by decide) (fun K hK=>?_);refine goes_ Tryd.func78 (by kernel_rfl) rfl #[.agg #[.int .i64 a0_0,.int .i64 a0_1],.agg #[.int .i64 a0_2,.int .i64 a0_3],.agg #[.int .i64 a1_0,.int .i64 a1_1]] (by rfl) rfl rfl ma_ ?_
        with_reducible refine (impl_SegTurn.calls kj17 a0_0 a0_1 a0_2 a0_3 a1_0 a1_1 t384 _ A61.out).mono ?_
        rintro e w72 ⟨rfl,hb⟩;refine⟨_,rfl,?_⟩;replace BK376:=vb_ BK376 hb;replace BK377:=vb_ BK377 hb;replace HB:=sb_ HB hb
        (try clear hb)
        (try clear hb2)
        (try clear hk)
        (try clear hi)
        refine hK.out _ _ ⟨bc_,bc_,bc_,bc_,bc_,bc_,bc_,bc_⟩ (fun hHeld=>?_);clear hK K;refine no_ (h:=?_);refine one_ (i:=13) (N:=some 48) (bm 35 16383) rfl rfl (one_of HT_.out (by kernel_rfl)) (by decide) (fun K hK=>?_);refine goes_ Tryd.func78 (by kernel_rfl) rfl #[.agg #[.int .i64 a0_0,.int .i64 a0_1],.agg #[.int .i64 a0_2,.int .i64 a0_3],.agg #[.int .i64 a1_2,.int .i64 a1_3]] (by rfl) rfl rfl ma_ ?_
        with_reducible refine (impl_SegTurn.calls kj17 a0_0 a0_1 a0_2 a0_3 a1_2 a1_3 t385 _ A62.out).mono ?_
        rintro e w73 ⟨rfl,hb⟩;refine⟨_,rfl,?_⟩;replace BK376:=vb_ BK376 hb;replace BK377:=vb_ BK377 hb;replace HB:=sb_ HB hb
        (try clear hb)
        (try clear hb2)
        (try clear hk)
        (try clear hi)
        refine hK.out _ _ ⟨bc_,bc_,bc_,bc_,bc_,bc_,bc_,bc_⟩ (fun hHeld=>?_);clear hK K;refine no_ (h:=?_);refine pu_ HT_ 14 49 (bm 35 32767) ?_;refine pu_ HT_ 15 50 (bm 35 65535) ?_;refine pu_ HT_ 16 51 (bm 35 131071) ?_;refine pz_ HT_ 17 52 (bm 35 262143) ?_;refine pz_ HT_ 18 53 (bm 35 524287) ?_;refine pz_ HT_ 19 54 (bm 35 1048575) ?_;refine pz_ HT_ 20 55 (bm 35 2097151) ?_;refine pz_ HT_ 21 56 (bm 35 4194303) ?_;refine pz_ HT_ 22 57 (bm 35 8388607) ?_;refine pz_ HT_ 23 58 (bm 35 16777215) ?_;refine pz_ HT_ 24 59 (bm 35 33554431) ?_;refine pz_ HT_ 25 60 (bm 35 67108863) ?_;refine pz_ HT_ 26 61 (bm 35 134217727) ?_;refine pz_ HT_ 27 62 (bm 35 268435455) ?_;refine pz_ HT_ 28 63 (bm 35 536870911) ?_;refine pz_ HT_ 29 64 (bm 35 1073741823) ?_;refine pz_ HT_ 30 65 (bm 35 2147483647) ?_;refine pz_ HT_ 31 66 (bm 35 4294967295) ?_;refine pz_ HT_ 32 67 (bm 35 8589934591) ?_;refine pu_ HT_ 33 68 (bm 35 17179869183) ?_;refine pu_ HT_ 34 4 (bm 35 34359738367) ?_;refine done_ (done_of HT_.out (by kernel_rfl)) ?_
        try go_wp2
        go_ret;exact⟨rr_,hB_⟩
def spec_l2Cross.f (a0_0:Int)(a0_1:Int)(a1_0:Int)(a1_1:Int)(a2_0:Int)(a2_1:Int):Option (Int):=some (wrap64 ((wrap64 ((wrap64 (a1_0-a0_0))*(wrap64 (a2_1-a0_1))))-(wrap64 ((wrap64 (a1_1-a0_1))*(wrap64 (a2_0-a0_0))))))
set_option maxHeartbeats 8000000 in
set_option maxRecDepth 100000 in
theorem spec_l2Cross.calls (a0_0:Int)(a0_1:Int)(a1_0:Int)(a1_1:Int)(a2_0:Int)(a2_1:Int)(r:Int)(w:World)(h:spec_l2Cross.f a0_0 a0_1 a1_0 a1_1 a2_0 a2_1=some r):
  Calls Tryd.prog 76 #[.agg #[.int .i64 a0_0,.int .i64 a0_1],.agg #[.int .i64 a1_0,.int .i64 a1_1],.agg #[.int .i64 a2_0,.int .i64 a2_1]] w fun e w'=>e=.returned (.int .i64 r)∧Below w.heap.size w w':=by
 have hu37:=Tryd.underlying37;have HB:=a0_ (Below.refl w.heap.size w);have H:(some (wrap64 ((wrap64 ((wrap64 (a1_0-a0_0))*(wrap64 (a2_1-a0_1))))-(wrap64 ((wrap64 (a1_1-a0_1))*(wrap64 (a2_0-a0_0)))))))=some r:=h;clear h;obtain rfl:=Option.some.inj H;go_enter Tryd.func76,Tryd.ntmps76;go_wp2_with (first | ((with_reducible refine gate_dst (N:=3) rfl ?_);refine bx_ (N:=3) (cs:=#[.int .i64 a0_0,.int .i64 a0_1]) (t:=37) (h:=?_);intro gb138 hg w4 hbox hb;have BK138:=a0_ (hbox);have GW138:=gh_ HB hg;have GE138:=gh_ HB hg;replace HB:=sb_ HB hb;clear hb hbox hg) | ((with_reducible refine gate_dst (N:=4) rfl ?_);refine bx_ (N:=4) (cs:=#[.int .i64 a1_0,.int .i64 a1_1]) (t:=37) (h:=?_);intro gb139 hg w5 hbox hb;have BK139:=a0_ (hbox);have GW139:=gh_ HB hg;have GE139:=gh_ HB hg;have NB138_139:=nl_ BK138 hg;have NB139_138:=nr_ BK138 hg;replace BK138:=vb_ BK138 hb;replace HB:=sb_ HB hb;clear hb hbox hg) | ((with_reducible refine gate_dst (N:=5) rfl ?_);refine bx_ (N:=5) (cs:=#[.int .i64 a2_0,.int .i64 a2_1]) (t:=37) (h:=?_);intro gb140 hg w6 hbox hb;have BK140:=a0_ (hbox);have GW140:=gh_ HB hg;have GE140:=gh_ HB hg;have NB138_140:=nl_ BK138 hg;have NB140_138:=nr_ BK138 hg;have NB139_140:=nl_ BK139 hg;have NB140_139:=nr_ BK139 hg;replace BK138:=vb_ BK138 hb;replace BK139:=vb_ BK139 hb;replace HB:=sb_ HB hb;clear hb hbox hg;have hnb7:=NB139_138.out;have hnc7:=NB138_139.out;have hnb8:=NB139_140.out;have hnc8:=NB140_139.out;have hcz9_0:=c20_ BK139;have hcz9_1:=c21_ BK139;have hfz9_0:=fz_ BK139 0;have hfz9_1:=fz_ BK139 1;have hnb10:=NB138_140.out;have hnc10:=NB140_138.out;have hcz11_0:=c20_ BK138;have hcz11_1:=c21_ BK138;have hfz11_0:=fz_ BK138 0;have hfz11_1:=fz_ BK138 1;have hcz12_0:=c20_ BK140;have hcz12_1:=c21_ BK140;have hfz12_0:=fz_ BK140 0;have hfz12_1:=fz_ BK140 1));go_ret;exact⟨rr_,hB_⟩
def spec_l2Dot.f (a0_0:Int)(a0_1:Int)(a1_0:Int)(a1_1:Int)(a2_0:Int)(a2_1:Int):Option (Int):=some (wrap64 ((wrap64 ((wrap64 (a1_0-a0_0))*(wrap64 (a2_0-a0_0))))+(wrap64 ((wrap64 (a1_1-a0_1))*(wrap64 (a2_1-a0_1))))))
set_option maxHeartbeats 8000000 in
set_option maxRecDepth 100000 in
theorem spec_l2Dot.calls (a0_0:Int)(a0_1:Int)(a1_0:Int)(a1_1:Int)(a2_0:Int)(a2_1:Int)(r:Int)(w:World)(h:spec_l2Dot.f a0_0 a0_1 a1_0 a1_1 a2_0 a2_1=some r):
  Calls Tryd.prog 90 #[.agg #[.int .i64 a0_0,.int .i64 a0_1],.agg #[.int .i64 a1_0,.int .i64 a1_1],.agg #[.int .i64 a2_0,.int .i64 a2_1]] w fun e w'=>e=.returned (.int .i64 r)∧Below w.heap.size w w':=by
 have hu37:=Tryd.underlying37;have HB:=a0_ (Below.refl w.heap.size w);have H:(some (wrap64 ((wrap64 ((wrap64 (a1_0-a0_0))*(wrap64 (a2_0-a0_0))))+(wrap64 ((wrap64 (a1_1-a0_1))*(wrap64 (a2_1-a0_1)))))))=some r:=h;clear h;obtain rfl:=Option.some.inj H;go_enter Tryd.func90,Tryd.ntmps90;go_wp2_with (first | ((with_reducible refine gate_dst (N:=3) rfl ?_);refine bx_ (N:=3) (cs:=#[.int .i64 a0_0,.int .i64 a0_1]) (t:=37) (h:=?_);intro gb141 hg w4 hbox hb;have BK141:=a0_ (hbox);have GW141:=gh_ HB hg;have GE141:=gh_ HB hg;replace HB:=sb_ HB hb;clear hb hbox hg) | ((with_reducible refine gate_dst (N:=4) rfl ?_);refine bx_ (N:=4) (cs:=#[.int .i64 a1_0,.int .i64 a1_1]) (t:=37) (h:=?_);intro gb142 hg w5 hbox hb;have BK142:=a0_ (hbox);have GW142:=gh_ HB hg;have GE142:=gh_ HB hg;have NB141_142:=nl_ BK141 hg;have NB142_141:=nr_ BK141 hg;replace BK141:=vb_ BK141 hb;replace HB:=sb_ HB hb;clear hb hbox hg) | ((with_reducible refine gate_dst (N:=5) rfl ?_);refine bx_ (N:=5) (cs:=#[.int .i64 a2_0,.int .i64 a2_1]) (t:=37) (h:=?_);intro gb143 hg w6 hbox hb;have BK143:=a0_ (hbox);have GW143:=gh_ HB hg;have GE143:=gh_ HB hg;have NB141_143:=nl_ BK141 hg;have NB143_141:=nr_ BK141 hg;have NB142_143:=nl_ BK142 hg;have NB143_142:=nr_ BK142 hg;replace BK141:=vb_ BK141 hb;replace BK142:=vb_ BK142 hb;replace HB:=sb_ HB hb;clear hb hbox hg;have hnb7:=NB142_141.out;have hnc7:=NB141_142.out;have hnb8:=NB142_143.out;have hnc8:=NB143_142.out;have hcz9_0:=c20_ BK142;have hcz9_1:=c21_ BK142;have hfz9_0:=fz_ BK142 0;have hfz9_1:=fz_ BK142 1;have hnb10:=NB141_143.out;have hnc10:=NB143_141.out;have hcz11_0:=c20_ BK141;have hcz11_1:=c21_ BK141;have hfz11_0:=fz_ BK141 0;have hfz11_1:=fz_ BK141 1;have hcz12_0:=c20_ BK143;have hcz12_1:=c21_ BK143;have hfz12_0:=fz_ BK143 0;have hfz12_1:=fz_ BK143 1));go_ret;exact⟨rr_,hB_⟩
def spec_l2Has.f (a0_0:Int)(a0_1:Int)(a0_2:Int)(a0_3:Int)(a1_0:Int)(a1_1:Int):Option (Bool):=(spec_l2Cross.f a0_0 a0_1 a0_2 a0_3 a1_0 a1_1).bind fun t146=>(if t146=0 then ((spec_l2Dot.f a0_0 a0_1 a0_2 a0_3 a1_0 a1_1).bind fun t147=>((spec_l2Dot.f a0_0 a0_1 a0_2 a0_3 a0_2 a0_3).bind fun t148=>((spec_l6In.f t147 0 t148).bind fun t149=>(some t149)))) else (some false))
def spec_l2Has.T1:Bool × List (List Nat × List Nat):=(true,[([],[]),([0],[0]),([],[]),([2],[2]),([],[]),([1,3,4],[1,3,4]),([5],[5]),([6,5],[6]),([7],[7]),([8,7],[7,8]),([7],[7]),([10,7],[7,10]),([7],[7]),([9,11,12,7,7],[7,9,11,12]),([7],[7]),([14,7],[7,14]),([7],[7]),([16,7],[7,16]),([7],[7]),([18,7],[7,18]),([15,17,19,13,7],[7,15,17,19]),([13,20,20,7],[7,13,20]),([7,21],[7,21]),([22,21,0,1,2,3,4,5,6,7,8,9,10,11,12,13,14,15,16,17,18,19,20,21,22],[22])])
def spec_l2Has.B1:List Nat:=[0,1,0,4,0,31,63,127,255,511,255,1279,255,8191,255,16639,255,65791,255,262399,1048575,2097151,4194303,8388607]
theorem spec_l2Has.tab1:rtab .any (opsOf Tryd.f74 1)=spec_l2Has.T1:=by kernel_rfl
theorem spec_l2Has.bits1:waitsOk spec_l2Has.T1.2 spec_l2Has.B1=true:=by kernel_rfl
set_option maxHeartbeats 8000000 in
set_option maxRecDepth 100000 in
theorem spec_l2Has.calls (a0_0:Int)(a0_1:Int)(a0_2:Int)(a0_3:Int)(a1_0:Int)(a1_1:Int)(r:Bool)(w:World)(h:spec_l2Has.f a0_0 a0_1 a0_2 a0_3 a1_0 a1_1=some r):
  Calls Tryd.prog 74 #[.agg #[.int .i64 a0_0,.int .i64 a0_1,.int .i64 a0_2,.int .i64 a0_3],.agg #[.int .i64 a1_0,.int .i64 a1_1]] w fun e w'=>e=.returned (.bool r)∧Below w.heap.size w w':=by
 have hu89:=Tryd.underlying89;have hu37:=Tryd.underlying37;have HB:=a0_ (Below.refl w.heap.size w);have H:((spec_l2Cross.f a0_0 a0_1 a0_2 a0_3 a1_0 a1_1).bind fun t146=>(if t146=0 then ((spec_l2Dot.f a0_0 a0_1 a0_2 a0_3 a1_0 a1_1).bind fun t147=>((spec_l2Dot.f a0_0 a0_1 a0_2 a0_3 a0_2 a0_3).bind fun t148=>((spec_l6In.f t147 0 t148).bind fun t149=>(some t149)))) else (some false)))=some r:=h;clear h;replace H:=Option.bind_eq_some_iff.mp H;obtain⟨t146,A30,H⟩:=H
 (try dsimp only at H)
 have A3:=Aside0.mk A30;clear A30;by_cases c4:t146=0
 ·
  rw [if_pos c4] at H;have c4b0:(t146==0)=true:=beq_iff_eq.mpr c4;have c4b1:(t146 != 0)=false:=bne_eq_false_iff_eq.mpr c4;clear c4;replace H:=Option.bind_eq_some_iff.mp H;obtain⟨t147,A50,H⟩:=H
  (try dsimp only at H)
  have A5:=Aside0.mk A50;clear A50;replace H:=Option.bind_eq_some_iff.mp H;obtain⟨t148,A60,H⟩:=H
  (try dsimp only at H)
  have A6:=Aside0.mk A60;clear A60;replace H:=Option.bind_eq_some_iff.mp H;obtain⟨t149,A70,H⟩:=H
  (try dsimp only at H)
  have A7:=Aside0.mk A70;clear A70;obtain rfl:=Option.some.inj H;go_enter Tryd.func74,Tryd.ntmps74
  try go_wp2_with (first | ((with_reducible refine gate_dst (N:=2) rfl ?_);refine bx_ (N:=2) (cs:=#[.int .i64 a0_0,.int .i64 a0_1,.int .i64 a0_2,.int .i64 a0_3]) (t:=89) (h:=?_);intro gb144 hg w8 hbox hb;have BK144:=a0_ (hbox);have GW144:=gh_ HB hg;have GE144:=gh_ HB hg;replace HB:=sb_ HB hb;clear hb hbox hg) | ((with_reducible refine gate_dst (N:=3) rfl ?_);refine bx_ (N:=3) (cs:=#[.int .i64 a1_0,.int .i64 a1_1]) (t:=37) (h:=?_);intro gb145 hg w9 hbox hb;have BK145:=a0_ (hbox);have GW145:=gh_ HB hg;have GE145:=gh_ HB hg;have NB144_145:=nl_ BK144 hg;have NB145_144:=nr_ BK144 hg;replace BK144:=vb_ BK144 hb;replace HB:=sb_ HB hb;clear hb hbox hg))
  replace BK144:=a0_ (blk_drew BK144.out);replace BK145:=a0_ (blk_drew BK145.out);replace HB:=a0_ (below_drew1 HB.out);refine start_ (n:=24) (S:=fun w'=>w'.cell? ⟨gb144,0,none⟩=some (.int .i64 a0_0)∧w'.cell? ⟨gb144,1,none⟩=some (.int .i64 a0_1)∧w'.cell? ⟨gb144,2,none⟩=some (.int .i64 a0_2)∧w'.cell? ⟨gb144,3,none⟩=some (.int .i64 a0_3)∧w'.cell? ⟨gb145,0,none⟩=some (.int .i64 a1_0)∧w'.cell? ⟨gb145,1,none⟩=some (.int .i64 a1_1)) (ds:=[]) (Array.replicate 24 false) (by kernel_rfl) rfl rfl ⟨bc_,bc_,bc_,bc_,bc_,bc_⟩ (fun hHeld=>?_);refine with_tabW spec_l2Has.tab1 spec_l2Has.bits1 (fun HT_ HW_=>?_);generalize w9.drew=w10 at BK144 BK145 HB hHeld ⊢
  refine pu_ HT_ 0 5 (bm 24 1) ?_;refine pu_ HT_ 2 7 (bm 24 5) ?_;refine ta6_ HT_ HW_ 1 6 (bm 24 7) hHeld ?_;refine ta6_ HT_ HW_ 3 8 (bm 24 15) hHeld ?_;refine ta6_ HT_ HW_ 4 9 (bm 24 31) hHeld ?_;refine one_ (i:=5) (N:=some 10) (bm 24 63) rfl rfl (one_of HT_.out (by kernel_rfl)) (by decide) (fun K hK=>?_);refine goes_ Tryd.func76 (by kernel_rfl) rfl #[.agg #[.int .i64 a0_0,.int .i64 a0_1],.agg #[.int .i64 a0_2,.int .i64 a0_3],.agg #[.int .i64 a1_0,.int .i64 a1_1]] (by rfl) rfl rfl ma_ ?_
  with_reducible refine (spec_l2Cross.calls a0_0 a0_1 a0_2 a0_3 a1_0 a1_1 t146 _ A3.out).mono ?_
  rintro e w11 ⟨rfl,hb⟩;refine⟨_,rfl,?_⟩;replace BK144:=vb_ BK144 hb;replace BK145:=vb_ BK145 hb;replace HB:=sb_ HB hb
  (try clear hb)
  (try clear hb2)
  (try clear hk)
  (try clear hi)
  refine hK.out _ _ ⟨bc_,bc_,bc_,bc_,bc_,bc_⟩ (fun hHeld=>?_);clear hK K;refine no_ (h:=?_);refine pu_ HT_ 6 11 (bm 24 127) ?_;refine pu_ HT_ 7 12 (bm 24 255) ?_;refine pu_ HT_ 8 13 (bm 24 511) ?_;refine pu_ HT_ 10 15 (bm 24 1535) ?_;refine pu_ HT_ 14 19 (bm 24 17919) ?_;refine pu_ HT_ 16 21 (bm 24 83455) ?_;refine pu_ HT_ 18 23 (bm 24 345599) ?_;refine ta6_ HT_ HW_ 9 14 (bm 24 346111) hHeld ?_;refine ta6_ HT_ HW_ 11 16 (bm 24 348159) hHeld ?_;refine ta6_ HT_ HW_ 12 17 (bm 24 352255) hHeld ?_;refine ta6_ HT_ HW_ 15 20 (bm 24 385023) hHeld ?_;refine ta6_ HT_ HW_ 17 22 (bm 24 516095) hHeld ?_;refine ta6_ HT_ HW_ 19 24 (bm 24 1040383) hHeld ?_;refine one_ (i:=13) (N:=some 18) (bm 24 1048575) rfl rfl (one_of HT_.out (by kernel_rfl)) (by decide) (fun K hK=>?_);refine goes_ Tryd.func90 (by kernel_rfl) rfl #[.agg #[.int .i64 a0_0,.int .i64 a0_1],.agg #[.int .i64 a0_2,.int .i64 a0_3],.agg #[.int .i64 a1_0,.int .i64 a1_1]] (by rfl) rfl rfl ma_ ?_
  with_reducible refine (spec_l2Dot.calls a0_0 a0_1 a0_2 a0_3 a1_0 a1_1 t147 _ A5.out).mono ?_
  rintro e w12 ⟨rfl,hb⟩;refine⟨_,rfl,?_⟩;replace BK144:=vb_ BK144 hb;replace BK145:=vb_ BK145 hb;replace HB:=sb_ HB hb
  (try clear hb)
  (try clear hb2)
  (try clear hk)
  (try clear hi)
  refine hK.out _ _ ⟨bc_,bc_,bc_,bc_,bc_,bc_⟩ (fun hHeld=>?_);clear hK K;refine no_ (h:=?_);refine one_ (i:=20) (N:=some 25) (bm 24 2097151) rfl rfl (one_of HT_.out (by kernel_rfl)) (by decide) (fun K hK=>?_);refine goes_ Tryd.func90 (by kernel_rfl) rfl #[.agg #[.int .i64 a0_0,.int .i64 a0_1],.agg #[.int .i64 a0_2,.int .i64 a0_3],.agg #[.int .i64 a0_2,.int .i64 a0_3]] (by rfl) rfl rfl ma_ ?_
  with_reducible refine (spec_l2Dot.calls a0_0 a0_1 a0_2 a0_3 a0_2 a0_3 t148 _ A6.out).mono ?_
  rintro e w13 ⟨rfl,hb⟩;refine⟨_,rfl,?_⟩;replace BK144:=vb_ BK144 hb;replace BK145:=vb_ BK145 hb;replace HB:=sb_ HB hb
  (try clear hb)
  (try clear hb2)
  (try clear hk)
  (try clear hi)
  refine hK.out _ _ ⟨bc_,bc_,bc_,bc_,bc_,bc_⟩ (fun hHeld=>?_);clear hK K;refine no_ (h:=?_);refine one_ (i:=21) (N:=some 26) (bm 24 4194303) rfl rfl (one_of HT_.out (by kernel_rfl)) (by decide) (fun K hK=>?_);refine goes_ Tryd.func52 (by kernel_rfl) rfl #[.int .i64 t147,.int .i64 0,.int .i64 t148] (by rfl) rfl rfl ma_ ?_
  with_reducible refine (spec_l6In.calls t147 0 t148 t149 _ A7.out).mono ?_
  rintro e w' ⟨rfl,⟨nd,rfl⟩⟩;refine⟨_,rfl,?_⟩;refine hK.out _ _ ⟨bc_,bc_,bc_,bc_,bc_,bc_⟩ (fun hHeld=>?_);clear hK K;refine no_ (h:=?_);refine pu_ HT_ 22 27 (bm 24 8388607) ?_;refine pu_ HT_ 23 4 (bm 24 16777215) ?_;refine done_ (done_of HT_.out (by kernel_rfl)) ?_
  try go_wp2
  go_ret;exact⟨rr_,hB_⟩
 ·
  rw [if_neg c4] at H;have c4b0:(t146==0)=false:=beq_eq_false_iff_ne.mpr c4;have c4b1:(t146 != 0)=true:=bne_iff_ne.mpr c4;obtain rfl:=Option.some.inj H;go_enter Tryd.func74,Tryd.ntmps74
  try go_wp2_with (first | ((with_reducible refine gate_dst (N:=2) rfl ?_);refine bx_ (N:=2) (cs:=#[.int .i64 a0_0,.int .i64 a0_1,.int .i64 a0_2,.int .i64 a0_3]) (t:=89) (h:=?_);intro gb144 hg w14 hbox hb;have BK144:=a0_ (hbox);have GW144:=gh_ HB hg;have GE144:=gh_ HB hg;replace HB:=sb_ HB hb;clear hb hbox hg) | ((with_reducible refine gate_dst (N:=3) rfl ?_);refine bx_ (N:=3) (cs:=#[.int .i64 a1_0,.int .i64 a1_1]) (t:=37) (h:=?_);intro gb145 hg w15 hbox hb;have BK145:=a0_ (hbox);have GW145:=gh_ HB hg;have GE145:=gh_ HB hg;have NB144_145:=nl_ BK144 hg;have NB145_144:=nr_ BK144 hg;replace BK144:=vb_ BK144 hb;replace HB:=sb_ HB hb;clear hb hbox hg))
  replace BK144:=a0_ (blk_drew BK144.out);replace BK145:=a0_ (blk_drew BK145.out);replace HB:=a0_ (below_drew1 HB.out);refine start_ (n:=24) (S:=fun w'=>w'.cell? ⟨gb144,0,none⟩=some (.int .i64 a0_0)∧w'.cell? ⟨gb144,1,none⟩=some (.int .i64 a0_1)∧w'.cell? ⟨gb144,2,none⟩=some (.int .i64 a0_2)∧w'.cell? ⟨gb144,3,none⟩=some (.int .i64 a0_3)∧w'.cell? ⟨gb145,0,none⟩=some (.int .i64 a1_0)∧w'.cell? ⟨gb145,1,none⟩=some (.int .i64 a1_1)) (ds:=[]) (Array.replicate 24 false) (by kernel_rfl) rfl rfl ⟨bc_,bc_,bc_,bc_,bc_,bc_⟩ (fun hHeld=>?_);refine with_tabW spec_l2Has.tab1 spec_l2Has.bits1 (fun HT_ HW_=>?_);generalize w15.drew=w16 at BK144 BK145 HB hHeld ⊢
  refine pu_ HT_ 0 5 (bm 24 1) ?_;refine pu_ HT_ 2 7 (bm 24 5) ?_;refine ta6_ HT_ HW_ 1 6 (bm 24 7) hHeld ?_;refine ta6_ HT_ HW_ 3 8 (bm 24 15) hHeld ?_;refine ta6_ HT_ HW_ 4 9 (bm 24 31) hHeld ?_;refine one_ (i:=5) (N:=some 10) (bm 24 63) rfl rfl (one_of HT_.out (by kernel_rfl)) (by decide) (fun K hK=>?_);refine goes_ Tryd.func76 (by kernel_rfl) rfl #[.agg #[.int .i64 a0_0,.int .i64 a0_1],.agg #[.int .i64 a0_2,.int .i64 a0_3],.agg #[.int .i64 a1_0,.int .i64 a1_1]] (by rfl) rfl rfl ma_ ?_
  with_reducible refine (spec_l2Cross.calls a0_0 a0_1 a0_2 a0_3 a1_0 a1_1 t146 _ A3.out).mono ?_
  rintro e w17 ⟨rfl,hb⟩;refine⟨_,rfl,?_⟩;replace BK144:=vb_ BK144 hb;replace BK145:=vb_ BK145 hb;replace HB:=sb_ HB hb
  (try clear hb)
  (try clear hb2)
  (try clear hk)
  (try clear hi)
  refine hK.out _ _ ⟨bc_,bc_,bc_,bc_,bc_,bc_⟩ (fun hHeld=>?_);clear hK K;refine no_ (h:=?_);refine pu_ HT_ 6 11 (bm 24 127) ?_;refine pu_ HT_ 7 12 (bm 24 255) ?_;refine pz_ HT_ 8 13 (bm 24 511) ?_;refine pz_ HT_ 9 14 (bm 24 1023) ?_;refine pz_ HT_ 10 15 (bm 24 2047) ?_;refine pz_ HT_ 11 16 (bm 24 4095) ?_;refine pz_ HT_ 12 17 (bm 24 8191) ?_;refine pz_ HT_ 13 18 (bm 24 16383) ?_;refine pz_ HT_ 14 19 (bm 24 32767) ?_;refine pz_ HT_ 15 20 (bm 24 65535) ?_;refine pz_ HT_ 16 21 (bm 24 131071) ?_;refine pz_ HT_ 17 22 (bm 24 262143) ?_;refine pz_ HT_ 18 23 (bm 24 524287) ?_;refine pz_ HT_ 19 24 (bm 24 1048575) ?_;refine pz_ HT_ 20 25 (bm 24 2097151) ?_;refine pz_ HT_ 21 26 (bm 24 4194303) ?_;refine pu_ HT_ 22 27 (bm 24 8388607) ?_;refine pu_ HT_ 23 4 (bm 24 16777215) ?_;refine done_ (done_of HT_.out (by kernel_rfl)) ?_
  try go_wp2
  go_ret;exact⟨rr_,hB_⟩
def spec_l2Sign.f (a0:Int):Option (Int):=if a0<0 then (some (-1)) else (if a0>0 then (some 1) else (some 0))
set_option maxHeartbeats 8000000 in
set_option maxRecDepth 100000 in
theorem spec_l2Sign.calls (a0:Int)(r:Int)(w:World)(h:spec_l2Sign.f a0=some r):
  Calls Tryd.prog 91 #[.int .i64 a0] w fun e w'=>e=.returned (.int .i64 r)∧Drawn0 w w':=by
 have H:(if a0<0 then (some (-1)) else (if a0>0 then (some 1) else (some 0)))=some r:=h;clear h;by_cases c2:a0<0
 ·
  rw [if_pos c2] at H;have c2b0:decide (a0<0)=true:=decide_eq_true c2;clear c2;obtain rfl:=Option.some.inj H;go_enter Tryd.func91,Tryd.ntmps91;go_wp2;go_ret;exact⟨by first | rfl | (simp;done) | (simp [*];done),by repeat (first | exact Drawn0.refl _ | apply Drawn0.step)⟩
 ·
  rw [if_neg c2] at H;have c2b0:decide (a0<0)=false:=decide_eq_false c2;clear c2;by_cases c3:a0>0
  ·
   rw [if_pos c3] at H;have c3b0:decide (0<a0)=true:=decide_eq_true c3;clear c3;obtain rfl:=Option.some.inj H;go_enter Tryd.func91,Tryd.ntmps91;go_wp2;go_ret;exact⟨by first | rfl | (simp;done) | (simp [*];done),by repeat (first | exact Drawn0.refl _ | apply Drawn0.step)⟩
  ·
   rw [if_neg c3] at H;have c3b0:decide (0<a0)=false:=decide_eq_false c3;clear c3;obtain rfl:=Option.some.inj H;go_enter Tryd.func91,Tryd.ntmps91;go_wp2;go_ret;exact⟨by first | rfl | (simp;done) | (simp [*];done),by repeat (first | exact Drawn0.refl _ | apply Drawn0.step)⟩
end Go.Proofs.YtailkppkjhkjpaaDoor.X
end
section
set_option linter.unusedVariables false
set_option linter.unusedSimpArgs false
namespace Go.Proofs.YtailkppkjhkjpaaDoor.X
open Go.RowKit Go.Proofs.YtailkppkjhkjpaaDoorW.PrintWords Go.Proofs.YtailkppkjhkjpaaDoorW.PrintLast Go.Proofs.YtailkppkjhkjpaaDoorW.PrintMore
open Mort
theorem iPtOk (x y:Int):impl_PtOk.f x y=some (ptOk (x,y)):=by
 unfold impl_PtOk.f ptOk;by_cases h1:0≤x <;> by_cases h2:x≤9 <;> by_cases h3:0≤y <;> by_cases h4:y≤9 <;> simp [h1,h2,h3,h4]
theorem sPtOk (x y:Int):spec_PtOk.f x y=some (ptOk (x,y)):=by
 unfold spec_PtOk.f ptOk;simp only [l6In_told,Option.bind_some];by_cases h1:0≤x <;> by_cases h2:x≤9 <;> by_cases h3:0≤y <;> by_cases h4:y≤9 <;> simp [h1,h2,h3,h4]
theorem iSegOk (a b c d:Int):impl_SegOk.f a b c d=some (segOk ((a,b),(c,d))):=by
 unfold impl_SegOk.f segOk;simp only [iPtOk,Option.bind_some];cases ptOk (a,b) <;> cases ptOk (c,d) <;> simp [Bool.not_and]
theorem sSegOk (a b c d:Int):spec_SegOk.f a b c d=some (segOk ((a,b),(c,d))):=by
 unfold spec_SegOk.f segOk;simp only [sPtOk,Option.bind_some];cases ptOk (a,b) <;> cases ptOk (c,d) <;> simp [Bool.not_and]
section
variable {a b c d e f:Int} (h1:ptOk (a,b)=true) (h2:ptOk (c,d)=true) (h3:ptOk (e,f)=true)
include h1 h2 h3
theorem cross_nowrap:wrap64 ((wrap64 ((wrap64 (c-a))*(wrap64 (f-b))))-(wrap64 ((wrap64 (d-b))*(wrap64 (e-a)))))=cross (a,b) (c,d) (e,f):=by
 rw [ptOk_iff] at h1 h2 h3;simp only at h1 h2 h3;rw [w64 (x:=c-a) (by omega) (by omega),w64 (x:=f-b) (by omega) (by omega),w64 (x:=d-b) (by omega) (by omega),w64 (x:=e-a) (by omega) (by omega)];have b1:=mul_bound (x:=c-a) (y:=f-b) (by omega) (by omega) (by omega) (by omega);have b2:=mul_bound (x:=d-b) (y:=e-a) (by omega) (by omega) (by omega) (by omega);rw [w64 (x:=(c-a)*(f-b)) (by omega) (by omega),w64 (x:=(d-b)*(e-a)) (by omega) (by omega),w64 (by omega) (by omega)];rfl
theorem dot_nowrap:wrap64 ((wrap64 ((wrap64 (c-a))*(wrap64 (e-a))))+(wrap64 ((wrap64 (d-b))*(wrap64 (f-b)))))=dot (a,b) (c,d) (e,f):=by
 rw [ptOk_iff] at h1 h2 h3;simp only at h1 h2 h3;rw [w64 (x:=c-a) (by omega) (by omega),w64 (x:=f-b) (by omega) (by omega),w64 (x:=d-b) (by omega) (by omega),w64 (x:=e-a) (by omega) (by omega)];have b1:=mul_bound (x:=c-a) (y:=e-a) (by omega) (by omega) (by omega) (by omega);have b2:=mul_bound (x:=d-b) (y:=f-b) (by omega) (by omega) (by omega) (by omega);rw [w64 (x:=(c-a)*(e-a)) (by omega) (by omega),w64 (x:=(d-b)*(f-b)) (by omega) (by omega),w64 (by omega) (by omega)];rfl
theorem iCross:impl_cross.f a b c d e f=some (cross (a,b) (c,d) (e,f)):=congrArg some (cross_nowrap h1 h2 h3)
theorem iAlong:impl_along.f a b c d e f=some (dot (a,b) (c,d) (e,f)):=congrArg some (dot_nowrap h1 h2 h3)
theorem sCross:spec_l2Cross.f a b c d e f=some (cross (a,b) (c,d) (e,f)):=congrArg some (cross_nowrap h1 h2 h3)
theorem sDot:spec_l2Dot.f a b c d e f=some (dot (a,b) (c,d) (e,f)):=congrArg some (dot_nowrap h1 h2 h3)
end
theorem iBetween {a b c d:Int}(h1:ptOk (a,b)=true)(h2:ptOk (c,d)=true):impl_between.f a b c d=some (dot (a,b) (c,d) (c,d)):=by
 unfold impl_between.f;rw [iAlong h1 h2 h2];rfl
theorem segOk_ends {a b c d:Int}(h:segOk ((a,b),(c,d))=true):ptOk (a,b)=true∧ptOk (c,d)=true:=⟨((segOk_iff _).1 h).1,((segOk_iff _).1 h).2.1⟩
theorem iSegHas {k:Nat}(hk:1≤k)(a b c d e f:Int):impl_SegHas.f k a b c d e f=some (segHas ((a,b),(c,d)) (e,f)):=by
 obtain⟨k,rfl⟩:∃ m,k=m+1:=⟨k-1,by omega⟩;unfold impl_SegHas.f segHas has;simp only [impl_SegHas.j0,iSegOk,iPtOk,Option.bind_some]
 cases hs:segOk ((a,b),(c,d)) with
 | false=>simp
 | true =>
  cases hp:ptOk (e,f) with
  | false=>simp
  | true =>
   obtain⟨o1,o2⟩:=segOk_ends hs;simp only [if_true,iCross o1 o2 hp,iAlong o1 o2 hp,iBetween o1 o2,Option.bind_some];by_cases z:cross (a,b) (c,d) (e,f)=0
   ·
    simp only [z,bne_self_eq_false,Bool.false_eq_true,if_false,beq_self_eq_true,Bool.true_and];by_cases z1:0≤dot (a,b) (c,d) (e,f)
    ·
     rw [if_pos z1,decide_eq_true z1];rfl
    ·
     rw [if_neg z1,decide_eq_false z1];rfl
   ·
    rw [bne_iff_ne.mpr z,beq_eq_false_iff_ne.mpr z];rfl
theorem iSegTurn {k:Nat}(hk:1≤k)(a b c d e f:Int):impl_SegTurn.f k a b c d e f=some (segTurn (a,b) (c,d) (e,f)):=by
 obtain⟨k,rfl⟩:∃ m,k=m+1:=⟨k-1,by omega⟩;unfold impl_SegTurn.f segTurn;simp only [impl_SegTurn.j0,iPtOk,Option.bind_some]
 cases h1:ptOk (a,b) with
 | false=>simp
 | true =>
  cases h2:ptOk (c,d) with
  | false=>simp
  | true =>
   cases h3:ptOk (e,f) with
   | false=>simp
   | true =>
    simp only [if_true,Bool.not_true,Bool.false_eq_true,if_false,iCross h1 h2 h3,Option.bind_some,Bool.and_self];unfold sgn;by_cases z:cross (a,b) (c,d) (e,f)>0
    ·
     rw [if_pos z,if_neg (by omega),if_pos z]
    ·
     rw [if_neg z];by_cases z':cross (a,b) (c,d) (e,f)<0
     ·
      rw [if_pos z',if_pos z']
     ·
      rw [if_neg z',if_neg z',if_neg z]
theorem sgn_in (n:Int): -1≤sgn n∧sgn n≤1:=by unfold sgn;split <;> (try split) <;> omega
theorem turn_mul (x y:Int):wrap64 (sgn x*sgn y)=sgn x*sgn y:=by
 have h1:=sgn_in x;have h2:=sgn_in y;have h3:=mul_bound (x:=sgn x) (y:=sgn y) (by omega) (by omega) (by omega) (by omega);exact w64 (by omega) (by omega)
theorem iSegMeet {k:Nat}(hk:3≤k)(a b c d e f g h:Int):impl_SegMeet.f k a b c d e f g h=some (segMeet ((a,b),(c,d)) ((e,f),(g,h))):=by
 obtain⟨k,rfl⟩:∃ m,k=m+1+1:=⟨k-2,by omega⟩;unfold impl_SegMeet.f segMeet;simp only [impl_SegMeet.j0,iSegOk,Option.bind_some]
 cases hs:segOk ((a,b),(c,d)) with
 | false=>simp
 | true =>
  cases ht:segOk ((e,f),(g,h)) with
  | false=>simp
  | true =>
   obtain⟨o1,o2⟩:=segOk_ends hs;obtain⟨o3,o4⟩:=segOk_ends ht;simp only [if_true,Bool.not_true,Bool.false_eq_true,if_false,Bool.true_and];simp only [iSegHas (show 1≤k+1 by omega),iSegTurn (show 1≤k by omega),impl_SegMeet.j1,Option.bind_some,if_true];unfold segHas segTurn meet;simp only [hs,ht,o1,o2,o3,o4,Bool.true_and,Bool.and_self,if_true,turn_mul];cases has ((a,b),(c,d)) (e,f) <;> simp
   cases has ((a,b),(c,d)) (g,h) <;> simp
   cases has ((e,f),(g,h)) (a,b) <;> simp
   cases has ((e,f),(g,h)) (c,d) <;> simp
   by_cases z:sgn (cross (a,b) (c,d) (e,f))*sgn (cross (a,b) (c,d) (g,h))<0
   ·
    simp [z]
   ·
    simp [z]
theorem sSign (n:Int):spec_l2Sign.f n=some (sgn n):=by
 unfold spec_l2Sign.f sgn
 split
 ·
  rfl
 ·
  split <;> rfl
theorem sHas {a b c d e f:Int}(h1:ptOk (a,b)=true)(h2:ptOk (c,d)=true)(h3:ptOk (e,f)=true):spec_l2Has.f a b c d e f=some (has ((a,b),(c,d)) (e,f)):=by
 unfold spec_l2Has.f has;simp only [sCross h1 h2 h3,sDot h1 h2 h3,sDot h1 h2 h2,l6In_told,Option.bind_some];by_cases z:cross (a,b) (c,d) (e,f)=0
 ·
  simp [z]
 ·
  rw [if_neg z,beq_eq_false_iff_ne.mpr z];rfl
end Go.Proofs.YtailkppkjhkjpaaDoor.X
end
section
namespace Go.Proofs.YtailkppkjhkjpaaDoor.X
open Go.RowKit Go.Proofs.YtailkppkjhkjpaaDoorW.PrintWords Go.Proofs.YtailkppkjhkjpaaDoorW.PrintLast Go.Proofs.YtailkppkjhkjpaaDoorW.PrintMore
attribute [local go_sem] max2_int min2_int max_two min_two max_three min_three max_four min_four
set_option linter.unusedVariables false
set_option linter.unusedSimpArgs false
def impl_joined.f (k:Nat)(a0_0:Int)(a0_1:Int)(a0_2:Int)(a0_3:Int)(a1_0:Int)(a1_1:Int)(a1_2:Int)(a1_3:Int):Option (Bool):=(impl_SegHas.f k a0_0 a0_1 a0_2 a0_3 a1_2 a1_3).bind fun t367=>(if t367=true then (some false) else ((impl_SegHas.f k a1_0 a1_1 a1_2 a1_3 a0_0 a0_1).bind fun t368=>(some (!t368))))
set_option maxHeartbeats 8000000 in
set_option maxRecDepth 100000 in
theorem impl_joined.calls (k:Nat)(a0_0:Int)(a0_1:Int)(a0_2:Int)(a0_3:Int)(a1_0:Int)(a1_1:Int)(a1_2:Int)(a1_3:Int)(r:Bool)(w:World)(h:impl_joined.f k a0_0 a0_1 a0_2 a0_3 a1_0 a1_1 a1_2 a1_3=some r):
  Calls Tryd.prog 69 #[.agg #[.int .i64 a0_0,.int .i64 a0_1,.int .i64 a0_2,.int .i64 a0_3],.agg #[.int .i64 a1_0,.int .i64 a1_1,.int .i64 a1_2,.int .i64 a1_3]] w fun e w'=>e=.returned (.bool r)∧Below w.heap.size w w':=by
 have hu89:=Tryd.underlying89;have hu37:=Tryd.underlying37;have HB:=a0_ (Below.refl w.heap.size w);have H:((impl_SegHas.f k a0_0 a0_1 a0_2 a0_3 a1_2 a1_3).bind fun t367=>(if t367=true then (some false) else ((impl_SegHas.f k a1_0 a1_1 a1_2 a1_3 a0_0 a0_1).bind fun t368=>(some (!t368)))))=some r:=h;clear h;replace H:=Option.bind_eq_some_iff.mp H;obtain⟨t367,A30,H⟩:=H
 (try dsimp only at H)
 have A3:=Aside0.mk A30;clear A30;by_cases c4:t367=true
 ·
  subst c4;rw [if_pos rfl] at H
  (try dsimp only at H)
  obtain rfl:=Option.some.inj H;go_enter Tryd.func69,Tryd.ntmps69;go_wp2_with (first | ((with_reducible refine gate_dst (N:=2) rfl ?_);refine bx_ (N:=2) (cs:=#[.int .i64 a0_0,.int .i64 a0_1,.int .i64 a0_2,.int .i64 a0_3]) (t:=89) (h:=?_);intro gb365 hg w5 hbox hb;have BK365:=a0_ (hbox);have GW365:=gh_ HB hg;have GE365:=gh_ HB hg;replace HB:=sb_ HB hb;clear hb hbox hg) | ((with_reducible refine gate_dst (N:=3) rfl ?_);refine bx_ (N:=3) (cs:=#[.int .i64 a1_0,.int .i64 a1_1,.int .i64 a1_2,.int .i64 a1_3]) (t:=89) (h:=?_);intro gb366 hg w6 hbox hb;have BK366:=a0_ (hbox);have GW366:=gh_ HB hg;have GE366:=gh_ HB hg;have NB365_366:=nl_ BK365 hg;have NB366_365:=nr_ BK365 hg;replace BK365:=vb_ BK365 hb;replace HB:=sb_ HB hb;clear hb hbox hg;have hnb7:=NB365_366.out;have hnc7:=NB366_365.out;have hcz8_0:=c40_ BK365;have hcz8_1:=c41_ BK365;have hcz8_2:=c42_ BK365;have hcz8_3:=c43_ BK365;have hfz8_0:=fz_ BK365 0;have hfz8_1:=fz_ BK365 1;have hfz8_2:=fz_ BK365 2;have hfz8_3:=fz_ BK365 3;have hcz9_0:=c40_ BK366;have hcz9_1:=c41_ BK366;have hcz9_2:=c42_ BK366;have hcz9_3:=c43_ BK366;have hfz9_0:=fz_ BK366 0;have hfz9_1:=fz_ BK366 1;have hfz9_2:=fz_ BK366 2;have hfz9_3:=fz_ BK366 3) | ((with_reducible refine gate_callee (f:=77) rfl ?_);refine gL_ (some 8) Tryd.func77 #[.agg #[.int .i64 a0_0,.int .i64 a0_1,.int .i64 a0_2,.int .i64 a0_3],.agg #[.int .i64 a1_2,.int .i64 a1_3]] (h:=?_);(with_reducible refine (impl_SegHas.calls k a0_0 a0_1 a0_2 a0_3 a1_2 a1_3 true _ A3.out).mono ?_);rintro e w10 ⟨rfl,hb⟩;refine⟨_,rfl,?_⟩;replace BK365:=vb_ BK365 hb;replace BK366:=vb_ BK366 hb;replace HB:=sb_ HB hb;(try clear hb)));go_ret;exact⟨rr_,hB_⟩
 ·
  replace c4:=Bool.eq_false_iff.mpr c4;subst c4;rw [if_neg (show ¬ (false=true) by decide)] at H
  (try dsimp only at H)
  replace H:=Option.bind_eq_some_iff.mp H;obtain⟨t368,A110,H⟩:=H
  (try dsimp only at H)
  have A11:=Aside0.mk A110;clear A110;obtain rfl:=Option.some.inj H;go_enter Tryd.func69,Tryd.ntmps69
  go_wp2_with (first | ((with_reducible refine gate_dst (N:=2) rfl ?_);refine bx_ (N:=2) (cs:=#[.int .i64 a0_0,.int .i64 a0_1,.int .i64 a0_2,.int .i64 a0_3]) (t:=89) (h:=?_);intro gb365 hg w12 hbox hb;have BK365:=a0_ (hbox);have GW365:=gh_ HB hg;have GE365:=gh_ HB hg;replace HB:=sb_ HB hb;clear hb hbox hg) | ((with_reducible refine gate_dst (N:=3) rfl ?_);refine bx_ (N:=3) (cs:=#[.int .i64 a1_0,.int .i64 a1_1,.int .i64 a1_2,.int .i64 a1_3]) (t:=89) (h:=?_);intro gb366 hg w13 hbox hb;have BK366:=a0_ (hbox);have GW366:=gh_ HB hg;have GE366:=gh_ HB hg;have NB365_366:=nl_ BK365 hg;have NB366_365:=nr_ BK365 hg;replace BK365:=vb_ BK365 hb;replace HB:=sb_ HB hb;clear hb hbox hg;have hnb14:=NB365_366.out;have hnc14:=NB366_365.out;have hcz15_0:=c40_ BK365;have hcz15_1:=c41_ BK365;have hcz15_2:=c42_ BK365;have hcz15_3:=c43_ BK365;have hfz15_0:=fz_ BK365 0;have hfz15_1:=fz_ BK365 1;have hfz15_2:=fz_ BK365 2;have hfz15_3:=fz_ BK365 3;have hcz16_0:=c40_ BK366;have hcz16_1:=c41_ BK366;have hcz16_2:=c42_ BK366;have hcz16_3:=c43_ BK366;have hfz16_0:=fz_ BK366 0;have hfz16_1:=fz_ BK366 1;have hfz16_2:=fz_ BK366 2;have hfz16_3:=fz_ BK366 3) | ((with_reducible refine gate_callee (f:=77) rfl ?_);refine gL_ (some 8) Tryd.func77 #[.agg #[.int .i64 a0_0,.int .i64 a0_1,.int .i64 a0_2,.int .i64 a0_3],.agg #[.int .i64 a1_2,.int .i64 a1_3]] (h:=?_);(with_reducible refine (impl_SegHas.calls k a0_0 a0_1 a0_2 a0_3 a1_2 a1_3 false _ A3.out).mono ?_);rintro e w17 ⟨rfl,hb⟩;refine⟨_,rfl,?_⟩;replace BK365:=vb_ BK365 hb;replace BK366:=vb_ BK366 hb;replace HB:=sb_ HB hb;(try clear hb);have hcz18_0:=c40_ BK366;have hcz18_1:=c41_ BK366;have hcz18_2:=c42_ BK366;have hcz18_3:=c43_ BK366;have hfz18_0:=fz_ BK366 0;have hfz18_1:=fz_ BK366 1;have hfz18_2:=fz_ BK366 2;have hfz18_3:=fz_ BK366 3;have hcz19_0:=c40_ BK365;have hcz19_1:=c41_ BK365;have hcz19_2:=c42_ BK365;have hcz19_3:=c43_ BK365;have hfz19_0:=fz_ BK365 0;have hfz19_1:=fz_ BK365 1;have hfz19_2:=fz_ BK365 2;have hfz19_3:=fz_ BK365 3) | (go_at_call 77;(with_reducible refine (impl_SegHas.calls k a1_0 a1_1 a1_2 a1_3 a0_0 a0_1 t368 _ A11.out).mono ?_);rintro e w20 ⟨rfl,hb⟩;replace BK365:=vb_ BK365 hb;replace BK366:=vb_ BK366 hb;replace HB:=sb_ HB hb;(try clear hb)))
  go_ret;exact⟨rr_,hB_⟩
end Go.Proofs.YtailkppkjhkjpaaDoor.X
end
section
set_option linter.unusedVariables false
set_option linter.unusedSimpArgs false
namespace Go.Proofs.YtailkppkjhkjpaaDoor.X
open Go.RowKit Go.Shelf Go.Proofs.YtailkppkjhkjpaaDoorW.PrintWords Go.Proofs.YtailkppkjhkjpaaDoorW.PrintLast Go.Proofs.YtailkppkjhkjpaaDoorW.PrintMore
open Mort (edges loopOk pairOk ed segOk meet joined ptOk)
attribute [local go_sem] Oper.semAt_some
def mark (D:Nat):Deferred:={ target:=.collected D,args:=#[] }
theorem leavesM_marks {n:Nat}{fn:Func}{tmps:Array Value}{R:Ending→World→Prop}:∀ (Ds:List Nat) (w:World),Ds.Nodup→(∀ D∈Ds,w.heap[D]?=some (.deferred (some []))) →
  (∀ w',(∀ k,k ∉ Ds→w'.heap[k]?=w.heap[k]?)→w'.heap.size=w.heap.size→w'.os=w.os→w'.tape=w.tape→w'.output=w.output→LeavesIn Fence.wide n Tryd.prog fn tmps R [] .returning w') →
  LeavesInM Fence.wide n Tryd.prog fn tmps R (Ds.map mark) .returning w
 | [],w,_,_,h=>h w (fun _ _=>rfl) rfl rfl rfl rfl
 | D::Ds,w,hn,hD,h=>by
  have hK:=hD D List.mem_cons_self;have hlt:D<w.heap.size:=(Array.getElem?_eq_some_iff.1 hK).1;refine⟨by simp,.inl ⟨D,_,rfl,run_takeDeferred hK,?_⟩⟩;rw [List.nodup_cons] at hn;refine leavesM_marks Ds _ hn.2 (fun E hE=>?_) (fun w' h1 h2 h3 h4 h5=>h w' (fun k hk=>?_) ?_ h3 h4 h5)
  ·
   rw [World.putObj_heap_other (by rintro rfl;exact hn.1 hE)];exact hD E (List.mem_cons_of_mem _ hE)
  ·
   rw [h1 k (fun e=>hk (List.mem_cons_of_mem _ e)),World.putObj_heap_other (by rintro rfl;exact hk List.mem_cons_self)]
  ·
   rw [h2];simp [World.putObj]
theorem edges_in (n:Nat)(A:Option Addr)(len c:Nat)(w:World):
  CallsIn Fence.wide n Tryd.prog 59 #[.slice A len c] w fun e w'=>e=.returned (.func (.func 81) #[] #[.pointer (some ⟨w.heap.size,0,none⟩)])∧w'=w.alloc (.cells #[.slice A len c] 23):=by
 refine callsIn_of_wp Tryd.func59 rfl trivial ?_ rfl;simp only [Tryd.ntmps59,List.size_toArray,List.length_cons,List.length_nil,Nat.reduceAdd,Nat.reduceSub,Array.replicate_succ,Array.replicate_zero,List.push_toArray,List.append_toArray,List.nil_append,List.cons_append];gi_wp2;go_ret;exact⟨rfl,rfl⟩
theorem grown_none {A B:World}(h:Below A.heap.size A B):A.grownBy B none:=⟨h.os,h.tape,h.output,h.size,fun k hk _=>h.block k hk⟩
abbrev encE (zs:List S37) (i:Fin zs.length):Array Value:=#[.int .i64 ((i:Nat):Int),edV (edS zs i)]
theorem edges_stops (n:Nat)(hn:1≤n)(Bs n₀:Nat)(A:Option Addr)(c:Nat)(zs:List S37)(hreach:zs.length≤1000000)(hAb:∀ ad,A=some ad→ad.block<n₀)
  (w:World) (hBs:Bs<w.heap.size) (hn₀:n₀≤w.heap.size) (hc:w.cell? ⟨Bs,0,none⟩=some (.slice A zs.length c)) (hC:Kd.C k37 w A zs.length zs) :
  SeqStopsK Fence.wide n Tryd.prog 81 #[.pointer (some ⟨Bs,0,none⟩)] (encE zs) (KpE n₀ Bs) (fun ys=>ys=List.finRange zs.length)
   (fun pre=>∃ k,k≤zs.length∧pre=(List.finRange zs.length).take k) zs.length w:=fun l J Jx W hW hJ _ hY h0=>by
 have take_succ:∀ k (hk:k<zs.length),(List.finRange zs.length).take (k+1)=(List.finRange zs.length).take k++[⟨k,hk⟩]:=fun k hk=>by
  rw [List.take_succ_eq_append_getElem (by simpa using hk)];simp
 refine (edges1_in n hn l Bs n₀ A c zs hreach hAb (fun k W=>J ((List.finRange zs.length).take k) W) (fun k W=>Jx ((List.finRange zs.length).take k) W)
  (fun k X Y hj hb=>hJ _ X Y none hj (grown_none hb) (fun r e=>by cases e)) (fun k X hk hj=>?_) W (Nat.lt_of_lt_of_le hBs hW.size) (Nat.le_trans hn₀ hW.size)
  ((hW.cell (p:=⟨Bs,0,none⟩) hBs).trans hc) (Kd.C_below hC hW) (by simpa using h0)).mono ?_
 ·
  rw [take_succ k hk];exact hY _ ⟨k,hk⟩ X hj (by simp;omega)
 ·
  rintro e W' ⟨he,hj | ⟨k,hk,hj⟩⟩
  ·
   exact⟨he,.inl ⟨_,rfl,by rwa [List.take_of_length_le (by simp)] at hj⟩⟩
  ·
   exact⟨he,.inr ⟨_,⟨k,hk,rfl⟩,hj⟩⟩
theorem blk_own {β:Type}(B:Nat)(o:β→Obj)(hc:∀ s,(o s).isCells=true):Own (fun s W=>W.heap[B]?=some (o s)):=fun s X Y row hs hg hrow =>
 (hg.block B (Array.getElem?_eq_some_iff.1 hs).1 (fun e=>by obtain⟨o',ho,h'⟩:=hrow B e.symm;rw [hs] at ho;cases ho;rw [hc] at h';cases h')).trans hs
def ptP (x:S37):Mort.Pt:=(x.f0,x.f1)
def sgP (x:S89):Mort.Seg:=(ptP x.f0,ptP x.f1)
theorem ptP_getD (zs:List S37)(j:Nat):(zs.map ptP).getD j (0,0)=ptP (zs.getD j z37):=by
 rw [List.getD_eq_getElem?_getD,List.getD_eq_getElem?_getD,List.getElem?_map];cases zs[j]? <;> rfl
theorem ed_edS (zs:List S37)(j:Nat):ed (zs.map ptP) j=sgP (edS zs j):=by
 unfold ed edS sgP;rw [ptP_getD,ptP_getD,List.length_map]
theorem keeps_below {B:Nat}{W W':World}(h:Below W.heap.size W W'):KeepsFrom B W W':=
 ⟨h.size,fun k o _ hk _=>(h.block k (Array.getElem?_eq_some_iff.1 hk).1).trans hk⟩
theorem box_later {W W':World}{B:Nat}{t:TypeId}{v:Value}(h:Boxed W B t v)(hb:Below W.heap.size W W'):Boxed W' B t v:=(hb.block B h.lt).trans h
theorem below_row {n₀:Nat}{w W W':World}(h:Below n₀ w W)(hn:n₀≤w.heap.size)(hb:Below W.heap.size W W'):Below n₀ w W':=h.trans (hb.mono (Nat.le_trans hn h.size))
theorem row_lt {w:World}{A:Option Addr}{zs:List S37}(hC:Kd.C k37 w A zs.length zs)(hz:0<zs.length):∀ ad,A=some ad→ad.block<w.heap.size:=fun ad e=>by
 obtain⟨ad',e',h0,_⟩:=at_pt hC 0 hz;rw [e] at e';cases e';have:=World.block_lt_of_cell? w _ h0
 rwa [blk_add] at this
def segObj (x:S89):Obj:=.cells #[.int .i64 x.f0.f0,.int .i64 x.f0.f1,.int .i64 x.f1.f0,.int .i64 x.f1.f1] 89 (0,0)
theorem segObj_own (B:Nat)(x:S89):Own (fun (_:Unit) W=>W.heap[B]?=some (segObj x)):=blk_own B (fun _=>segObj x) (fun _=>rfl)
theorem blk_later {W w1:World}{D:Nat}{o:Obj}(h:W.heap[D]?=some o)(hb:Below W.heap.size W w1):w1.heap[D]?=some o:=(hb.block D (Array.getElem?_eq_some_iff.1 h).1).trans h
theorem blk_alloc' {W:World}{D:Nat}{o:Obj}(h:W.heap[D]?=some o)(o':Obj):(W.alloc o').heap[D]?=some o:=(Below.heap_alloc W o' D (Array.getElem?_eq_some_iff.1 h).1).trans h
theorem blk_set {W:World}{D:Nat}{o:Obj}(h:W.heap[D]?=some o)(hc:o.isCells=false){B:Nat}{t:TypeId}{v:Value}(hb:Boxed W B t v)(u:Value):(W.setCell ⟨B,0,none⟩ u).heap[D]?=some o:=
 (Below.heap_setCell W ⟨B,0,none⟩ u D (by rintro rfl;have e:=h.symm.trans hb;cases e;cases hc)).trans h
theorem ownFrom_blk {β:Type}{B D:Nat}{o:Obj}(hD:D<B):OwnFrom B (fun (_:β) W=>W.heap[D]?=some o):=fun _ X Y row hs hg hr =>
 (hg.block D (Array.getElem?_eq_some_iff.1 hs).1 (fun e=>by have:=(hr D e.symm).1;omega)).trans hs
theorem ownFrom_kpE {β:Type}{n₀ Bs B:Nat}{w₀:World}(hB:w₀.heap.size≤B):OwnFrom B (fun (_:β) W=>KpE n₀ Bs w₀ W):=fun _ X Y row hs hg hr =>
 ⟨Nat.le_trans hs.1 hg.size,fun k hk hl=>(hg.block k (Nat.lt_of_lt_of_le hl hs.1) (fun e=>by have:=(hr k e.symm).1;omega)).trans (hs.2 k hk hl)⟩
theorem marks_boxed {W w':World}{Ds:List Nat}{B:Nat}{t:TypeId}{v:Value}(h:Boxed W B t v)(hD:∀ D∈Ds,W.heap[D]?=some (.deferred (some [])))(h1:∀ k,k ∉ Ds→w'.heap[k]?=W.heap[k]?):Boxed w' B t v:=
 (h1 B (fun e=>by have:=(hD B e).symm.trans h;cases this)).trans h
theorem marks_below {n₀:Nat}{w W w':World}{Ds:List Nat}(hB:Below n₀ w W)(hD:∀ D∈Ds,n₀≤D)(h1:∀ k,k ∉ Ds→w'.heap[k]?=W.heap[k]?)(h2:w'.heap.size=W.heap.size)(h3:w'.os=W.os)(h4:w'.tape=W.tape)(h5:w'.output=W.output):Below n₀ w w':=
 hB.trans ⟨h3,h4,h5,by omega,fun k hk=>h1 k (fun e=>by have:=hD k e;omega)⟩
theorem below_step_ {W w1 w2:World}(h:Below W.heap.size W w1)(k:Below w1.heap.size w1 w2):Below W.heap.size W w2:=h.trans (k.mono h.size)
theorem box_other {W:World}{B B':Nat}{t:TypeId}{v:Value}(h:Boxed W B t v)(hne:B≠B')(u:Value):Boxed (W.setCell ⟨B',0,none⟩ u) B t v:=Boxed.other h hne u
theorem blk_other {W:World}{D B':Nat}{o:Obj}(h:W.heap[D]?=some o)(hne:D≠B')(u:Value):(W.setCell ⟨B',0,none⟩ u).heap[D]?=some o:=(Below.heap_setCell W ⟨B',0,none⟩ u D hne).trans h
end Go.Proofs.YtailkppkjhkjpaaDoor.X
end
section
set_option linter.unusedVariables false
set_option linter.unusedSimpArgs false
namespace Go.Proofs.YtailkppkjhkjpaaDoor.X
open Go.RowKit Go.Shelf Go.Proofs.YtailkppkjhkjpaaDoorW.PrintWords Go.Proofs.YtailkppkjhkjpaaDoorW.PrintLast Go.Proofs.YtailkppkjhkjpaaDoorW.PrintMore
open Mort (edges loopOk pairOk ed segOk meet joined ptOk segHas segMeet)
attribute [local go_sem] Oper.semAt_some
def impl_LoopOk.f (l0:List S37):Option Bool:=some (loopOk (l0.map ptP))
def pairS (l0:List S37)(i j:Nat):Bool:=
 if j≤i then true else if j=i+1 then !segHas (sgP (edS l0 i)) (ptP (edS l0 j).f1) && !segHas (sgP (edS l0 j)) (ptP (edS l0 i).f0)
 else if i=0∧j+1=l0.length then !segHas (sgP (edS l0 j)) (ptP (edS l0 i).f1) && !segHas (sgP (edS l0 i)) (ptP (edS l0 j).f0) else !segMeet (sgP (edS l0 i)) (sgP (edS l0 j))
theorem iJoined {k:Nat}(hk:2≤k)(a b c d e f g h:Int):impl_joined.f k a b c d e f g h=some (!segHas ((a,b),(c,d)) (g,h) && !segHas ((e,f),(g,h)) (a,b)):=by
 unfold impl_joined.f;simp only [iSegHas (k:=k) (by omega),Option.bind_some];cases segHas ((a,b),(c,d)) (g,h) <;> cases segHas ((e,f),(g,h)) (a,b) <;> rfl
theorem loopOk_S (l0:List S37):loopOk (l0.map ptP)=true ↔ 3≤l0.length∧l0.length≤8∧(∀ i,i<l0.length→segOk (sgP (edS l0 i))=true)∧∀ i j,i<l0.length→j<l0.length→pairS l0 i j=true:=by
 rw [Mort.loopOk_iff,List.length_map];have hE:(∀ e∈edges (l0.map ptP),segOk e=true) ↔ ∀ i,i<l0.length→segOk (sgP (edS l0 i))=true:=by
  constructor
  ·
   intro h i hi;rw [← ed_edS];exact h _ (Mort.mem_edges.2 ⟨i,by simpa using hi,rfl⟩)
  ·
   intro h e he;obtain⟨i,hi,rfl⟩:=Mort.mem_edges.1 he;rw [ed_edS];exact h i (by simpa using hi)
 rw [hE];refine and_congr_right fun h3=>and_congr_right fun h8=>and_congr_right fun hs=>forall_congr' fun i=>forall_congr' fun j=>forall_congr' fun hi=>forall_congr' fun hj=>?_
 unfold pairOk pairS joined;simp only [ed_edS,List.length_map];have oi:=(Mort.segOk_iff _).1 (hs i hi);have oj:=(Mort.segOk_iff _).1 (hs j hj);have e1:∀ p,ptOk p=true→segHas (sgP (edS l0 i)) p=Mort.has (sgP (edS l0 i)) p:=fun p hp=>by unfold segHas;rw [hs i hi,hp];rfl
 have e2:∀ p,ptOk p=true→segHas (sgP (edS l0 j)) p=Mort.has (sgP (edS l0 j)) p:=fun p hp=>by unfold segHas;rw [hs j hj,hp];rfl
 have e3:segMeet (sgP (edS l0 i)) (sgP (edS l0 j))=meet (sgP (edS l0 i)) (sgP (edS l0 j)):=by unfold segMeet;rw [hs i hi,hs j hj];rfl
 rw [e1 (ptP (edS l0 j).f1) oj.2.1,e2 (ptP (edS l0 i).f0) oi.1,e2 (ptP (edS l0 i).f1) oi.2.1,e1 (ptP (edS l0 j).f0) oj.1,e3];exact Iff.rfl
set_option maxHeartbeats 4000000 in
set_option maxRecDepth 100000 in
theorem impl_LoopOk.calls (A0:Option Addr)(c0:Nat)(l0:List S37)(r:Bool)(w:World)(hr0:Kd.C k37 w A0 l0.length l0)(hc0:l0.length≤c0)(h:impl_LoopOk.f l0=some r):
  Calls Tryd.prog 35 #[.slice A0 l0.length c0] w fun e w'=>e=.returned (.bool r)∧Below w.heap.size w w':=by
 have h:=Option.some.inj h;have hS:=loopOk_S l0;rw [h] at hS;have hS':=Aside0.mk hS;clear hS h;have hu61:=Tryd.underlying89;refine (callsIn_wide (n:=9)).1 ?_;refine callsIn_of_wp_marks Tryd.func35 rfl trivial ?_ rfl;simp only [Tryd.ntmps35,List.size_toArray,List.length_cons,List.length_nil,Nat.reduceAdd,Nat.reduceSub,Array.replicate_succ,Array.replicate_zero,List.push_toArray,List.append_toArray,List.nil_append,List.cons_append];by_cases hl3:l0.length<3
 ·
  obtain rfl:r=false:=by
   cases r with
   | false=>rfl
   | true=>have:=(hS'.out.1 rfl).1;omega
  gi_wp2;refine⟨.bool false,?_,rfl,below_alloc (below_alloc (Below.refl _ _) _) _⟩;simp [results,Tryd.f35,go_sem]
 by_cases hl8:8<l0.length
 ·
  obtain rfl:r=false:=by
   cases r with
   | false=>rfl
   | true=>have:=(hS'.out.1 rfl).2.1;omega
  gi_wp2;refine⟨.bool false,?_,rfl,below_alloc (below_alloc (Below.refl _ _) _) _⟩;simp [results,Tryd.f35,go_sem]
 have b1:decide ((l0.length:Int)<3)=false:=decide_eq_false (by omega);have b2:decide (8<(l0.length:Int))=false:=decide_eq_false (by omega);have hAb:=row_lt hr0 (by omega);gi_wp2_with (refine⟨trivial,?_⟩;gi_at_call 59;refine (edges_in _ _ _ _ _).mono ?_;rintro e w' ⟨rfl,rfl⟩);have bL:=((Boxed.new w 23 (.slice A0 l0.length c0)).alloc (.cells #[.bool false] 4)).alloc (.cells #[.slice A0 l0.length c0] 23);have bR:=(Boxed.new (w.alloc (.cells #[.slice A0 l0.length c0] 23)) 4 (.bool false)).alloc (.cells #[.slice A0 l0.length c0] 23);have bC:=Boxed.new ((w.alloc (.cells #[.slice A0 l0.length c0] 23)).alloc (.cells #[.bool false] 4)) 23 (.slice A0 l0.length c0);simp only [World.size_alloc] at bR bC;have hB0:Below w.heap.size w (((w.alloc (.cells #[.slice A0 l0.length c0] 23)).alloc (.cells #[.bool false] 4)).alloc (.cells #[.slice A0 l0.length c0] 23)):=below_alloc (below_alloc (below_alloc (Below.refl _ w) _) _) _;have hsz:(((w.alloc (.cells #[.slice A0 l0.length c0] 23)).alloc (.cells #[.bool false] 4)).alloc (.cells #[.slice A0 l0.length c0] 23)).heap.size=w.heap.size+3:=by simp
 obtain⟨W0,hW0⟩:∃ W0,((w.alloc (.cells #[.slice A0 l0.length c0] 23)).alloc (.cells #[.bool false] 4)).alloc (.cells #[.slice A0 l0.length c0] 23)=W0:=⟨_,rfl⟩;rw [hW0] at bL bR bC hB0 hsz ⊢
 clear hW0;refine wpIn_rangeFunc_ownH rfl (by omega) (gf:=81) (lb:=#[.pointer (some ⟨w.heap.size+1+1,0,none⟩)]) rfl trivial (enters_of Tryd.func81 (by kernel_rfl) rfl)
  (edges_stops 8 (by omega) (w.heap.size+1+1) w.heap.size A0 c0 l0 (by omega) hAb W0 (by omega) (by omega) bC.cell (Kd.C_below hr0 hB0)) (fun h k=>KpE.trans h k) (fun W l o o' hl _ _ _=>KpE.putObj W l o' (by omega) (by omega)) (Below.refl _ _) (fun _=>rfl)
  (fun pre W=>(((∀ x∈pre,segOk (sgP (edS l0 x))=true)∧Boxed W (w.heap.size+1) 4 (.bool false))∧Boxed W w.heap.size 23 (.slice A0 l0.length c0))∧Below w.heap.size w W)
  (fun c pre W=>((c=.ret∧∃ x:Fin l0.length,segOk (sgP (edS l0 x))=false)∧Boxed W (w.heap.size+1) 4 (.bool false))∧Below w.heap.size w W)
  (OwnFrom.and (OwnFrom.and (OwnFrom.and (ownFrom_pure _ _) (Own.from (boxed_own _ _ _) _)) (Own.from (boxed_own _ _ _) _)) (ownFrom_below (Nat.le_refl _) (by omega)))
  (fun c=>OwnFrom.and (OwnFrom.and (ownFrom_pure _ _) (Own.from (boxed_own _ _ _) _)) (ownFrom_below (Nat.le_refl _) (by omega)))
  ⟨⟨⟨by simp,bR⟩,bL⟩,hB0⟩
  (fun x a' W=>∃ Bx,W.heap[Bx]?=some (segObj (edS l0 x))∧a'={ tmps:=#[.slice A0 l0.length c0,.pointer (some ⟨w.heap.size,0,none⟩),.pointer (some ⟨w.heap.size+1,0,none⟩),undef,.pointer (some ⟨Bx,0,none⟩),undef,undef,undef,undef,undef,undef,.slice A0 l0.length c0,.int .i64 (l0.length:Int),.bool false,.bool false,.slice A0 l0.length c0,.int .i64 (l0.length:Int),.bool false,.bool false,.slice A0 l0.length c0,.func (.func 81) #[] #[.pointer (some ⟨w.heap.size+1+1,0,none⟩)],.int .i64 ((x:Nat):Int),.agg #[.int .i64 (edS l0 x).f0.f0,.int .i64 (edS l0 x).f0.f1,.int .i64 (edS l0 x).f1.f0,.int .i64 (edS l0 x).f1.f1],undef,undef,undef,undef,undef,undef,undef,undef,undef,undef,undef,undef,undef,undef,undef,undef,undef,undef,undef,undef,undef,undef,undef,undef,undef,undef,undef,undef,undef,undef,undef,undef,undef,undef,undef,undef,undef,undef,undef,undef,undef,undef,undef],defers:=[] })
  (fun x a' _ X Y row hs hg hr=>by obtain⟨Bx,e2,e3⟩:=hs;exact⟨Bx,segObj_own Bx (edS l0 x) () X Y row e2 hg (fun r e=>(hr r e).2),e3⟩)
  ?assign ?body ?done ?stop
 case assign =>
  rintro l pre x W K ⟨⟨⟨hp,bR1⟩,bL1⟩,hB1⟩ hK;have hWs:=bR1.lt;have hBs:=hB1.size;dsimp only [encE,edV];gi_wp2;refine hK _ _ ((KeepsOthers.alloc _ _).from _) (KpE.alloc _ _ _ _) ⟨⟨⟨hp,bR1.alloc _⟩,bL1.alloc _⟩,below_alloc hB1 _⟩ ⟨W.heap.size,World.alloc_heap_new W _,rfl⟩
 case body =>
  rintro l pre x a' W hl ⟨rr,hrr⟩ ⟨⟨⟨hp,bR1⟩,bL1⟩,hB1⟩ ⟨Bx,bX,rfl⟩ hlt;have cX0:W.cell? ⟨Bx,0,none⟩=some (.int .i64 (edS l0 x).f0.f0):=(blk_cell bX 0).trans rfl;have cX1:W.cell? ⟨Bx,1,none⟩=some (.int .i64 (edS l0 x).f0.f1):=(blk_cell bX 1).trans rfl;have cX2:W.cell? ⟨Bx,2,none⟩=some (.int .i64 (edS l0 x).f1.f0):=(blk_cell bX 2).trans rfl;have cX3:W.cell? ⟨Bx,3,none⟩=some (.int .i64 (edS l0 x).f1.f1):=(blk_cell bX 3).trans rfl;have H:=iSegOk (edS l0 x).f0.f0 (edS l0 x).f0.f1 (edS l0 x).f1.f0 (edS l0 x).f1.f1
  cases hs:segOk (sgP (edS l0 x)) with
  | true =>
   rw [show segOk (((edS l0 x).f0.f0,(edS l0 x).f0.f1),((edS l0 x).f1.f0,(edS l0 x).f1.f1))=true from hs] at H;gi_wp2_with (refine⟨trivial,?_⟩;gi_at_call 68;refine (CallsIn.inRound l (callsIn_wide.2 (impl_SegOk.calls _ _ _ _ true _ H))).mono ?_;rintro e w1 ⟨rfl,hb⟩);exact⟨keeps_below hb,KpE.below hb,⟨⟨fun z hz=>(List.mem_append.1 hz).elim (hp z) (fun e=>by simp at e;subst e;exact hs),box_later bR1 hb⟩,box_later bL1 hb⟩,below_row hB1 (Nat.le_refl _) hb⟩
  | false =>
   rw [show segOk (((edS l0 x).f0.f0,(edS l0 x).f0.f1),((edS l0 x).f1.f0,(edS l0 x).f1.f1))=false from hs] at H;gi_wp2_with (refine⟨trivial,?_⟩;gi_at_call 68;refine (CallsIn.inRound l (callsIn_wide.2 (impl_SegOk.calls _ _ _ _ false _ H))).mono ?_;rintro e w1 ⟨rfl,hb⟩;have cR:=(box_later bR1 hb).cell;have fR:=(box_later bR1 hb).frozen);exact⟨(keeps_below hb).trans ((KeepsOthers.setCell _ _ _).from _),⟨⟨rfl,x,hs⟩,(box_later bR1 hb).set _⟩,(below_row hB1 (Nat.le_refl _) hb).setCell (p:=⟨w.heap.size+1,0,none⟩) (by simp) _⟩
 case stop =>
  rintro D c pre W hD _ ⟨⟨⟨rfl,x,hs⟩,bR1⟩,hB1⟩ hK;obtain rfl:r=false:=by
   cases r with
   | false=>rfl
   | true=>have:=(hS'.out.1 rfl).2.2.1 x x.2;rw [hs] at this;cases this
  gi_wp2;have hD1:∀ E∈[D],W.heap[E]?=some (.deferred (some [])):=by simpa using hK
  refine leavesM_marks [D] W (by simp) hD1 (fun w' h1 h2 h3 h4 h5=>?_);have hc5:=(marks_boxed bR1 hD1 h1).cell;refine⟨.bool false,?_,rfl,marks_below hB1 (by simp;omega) h1 h2 h3 h4 h5⟩;simp [results,Tryd.f35,go_sem,hc5]
 case done =>
  rintro D ys W hD rfl ⟨⟨⟨hp,bR1⟩,bL1⟩,hB1⟩ hK;have hok:∀ i,i<l0.length→segOk (sgP (edS l0 i))=true:=fun i hi=>hp ⟨i,hi⟩ (List.mem_finRange _)
  clear hp;have cL:=bL1.cell;have cL2:=(bL1.alloc (.cells #[.int .i64 ((l0.length:Int)-1)] 3)).cell;gi_wp2_with (refine⟨trivial,?_⟩;gi_at_call 59;refine (edges_in _ _ _ _ _).mono ?_;rintro e w' ⟨rfl,rfl⟩);clear cL cL2;have hWs:=hB1.size;replace bR1:=(bR1.alloc (.cells #[.int .i64 ((l0.length:Int)-1)] 3)).alloc (.cells #[.slice A0 l0.length c0] 23);replace bL1:=(bL1.alloc (.cells #[.int .i64 ((l0.length:Int)-1)] 3)).alloc (.cells #[.slice A0 l0.length c0] 23);have b5:=(Boxed.new W 3 (.int .i64 ((l0.length:Int)-1))).alloc (.cells #[.slice A0 l0.length c0] 23);have bC2:=Boxed.new (W.alloc (.cells #[.int .i64 ((l0.length:Int)-1)] 3)) 23 (.slice A0 l0.length c0);replace hB1:=below_alloc (below_alloc hB1 (.cells #[.int .i64 ((l0.length:Int)-1)] 3)) (.cells #[.slice A0 l0.length c0] 23);have hDW:D<W.heap.size:=(Array.getElem?_eq_some_iff.1 hK).1;replace hK:=blk_alloc' (blk_alloc' hK (.cells #[.int .i64 ((l0.length:Int)-1)] 3)) (.cells #[.slice A0 l0.length c0] 23);have hsz2:((W.alloc (.cells #[.int .i64 ((l0.length:Int)-1)] 3)).alloc (.cells #[.slice A0 l0.length c0] 23)).heap.size=W.heap.size+2:=by simp
  simp only [World.size_alloc] at bC2;obtain⟨W2,hW2⟩:∃ W2,(W.alloc (.cells #[.int .i64 ((l0.length:Int)-1)] 3)).alloc (.cells #[.slice A0 l0.length c0] 23)=W2:=⟨_,rfl⟩;rw [hW2] at bR1 bL1 b5 bC2 hB1 hK hsz2 ⊢
  clear hW2;generalize W.heap.size=B5 at *;have hAC:=Kd.C_below hr0 hB1;refine wpIn_rangeFunc_ownH rfl (by omega) (gf:=81) (lb:=#[.pointer (some ⟨B5+1,0,none⟩)]) rfl trivial (enters_of Tryd.func81 (by kernel_rfl) rfl)
   (edges_stops 8 (by omega) (B5+1) w.heap.size A0 c0 l0 (by omega) hAb W2 (by omega) (by omega) bC2.cell hAC) (fun h k=>KpE.trans h k) (fun W l o o' hl _ _ _=>KpE.putObj W l o' (by omega) (by omega)) (Below.refl _ _) (fun _=>rfl)
   (fun pre W=>(((((∀ x∈pre,∀ j,j<l0.length→pairS l0 (x:Fin l0.length) j=true)∧Boxed W (w.heap.size+1) 4 (.bool false))∧Boxed W w.heap.size 23 (.slice A0 l0.length c0))∧Boxed W B5 3 (.int .i64 ((l0.length:Int)-1)))∧W.heap[D]?=some (.deferred (some [])))∧Below w.heap.size w W)
   (fun c pre W=>(((c=.ret∧∃ i j,i<l0.length∧j<l0.length∧pairS l0 i j=false)∧Boxed W (w.heap.size+1) 4 (.bool false))∧W.heap[D]?=some (.deferred (some [])))∧Below w.heap.size w W)
   (OwnFrom.and (OwnFrom.and (OwnFrom.and (OwnFrom.and (OwnFrom.and (ownFrom_pure _ _) (Own.from (boxed_own _ _ _) _)) (Own.from (boxed_own _ _ _) _)) (Own.from (boxed_own _ _ _) _)) (ownFrom_blk (by omega))) (ownFrom_below (Nat.le_refl _) (by omega)))
   (fun c=>OwnFrom.and (OwnFrom.and (OwnFrom.and (ownFrom_pure _ _) (Own.from (boxed_own _ _ _) _)) (ownFrom_blk (by omega))) (ownFrom_below (Nat.le_refl _) (by omega)))
   ⟨⟨⟨⟨⟨by simp,bR1⟩,bL1⟩,b5⟩,hK⟩,hB1⟩
   (fun x a' W=>∃ Bi Bs,(Boxed W Bi 3 (.int .i64 ((x:Nat):Int))∧W.heap[Bs]?=some (segObj (edS l0 x)))∧a'={ tmps:=#[.slice A0 l0.length c0,.pointer (some ⟨w.heap.size,0,none⟩),.pointer (some ⟨w.heap.size+1,0,none⟩),undef,undef,.pointer (some ⟨B5,0,none⟩),.pointer (some ⟨Bi,0,none⟩),.pointer (some ⟨Bs,0,none⟩),undef,undef,undef,.slice A0 l0.length c0,.int .i64 (l0.length:Int),.bool false,.bool false,.slice A0 l0.length c0,.int .i64 (l0.length:Int),.bool false,.bool false,.slice A0 l0.length c0,.func (.func 81) #[] #[.pointer (some ⟨w.heap.size+1+1,0,none⟩)],undef,undef,undef,undef,undef,.slice A0 l0.length c0,.int .i64 (l0.length:Int),.int .i64 ((l0.length:Int)-1),.slice A0 l0.length c0,.func (.func 81) #[] #[.pointer (some ⟨B5+1,0,none⟩)],.int .i64 ((x:Nat):Int),.agg #[.int .i64 (edS l0 x).f0.f0,.int .i64 (edS l0 x).f0.f1,.int .i64 (edS l0 x).f1.f0,.int .i64 (edS l0 x).f1.f1],undef,undef,undef,undef,undef,undef,undef,undef,undef,undef,undef,undef,undef,undef,undef,undef,undef,undef,undef,undef,undef,undef,undef,undef,undef,undef,undef,undef,undef,undef,undef,undef,undef],defers:=[] })
   (fun x a' _ X Y row hs hg hr=>by obtain⟨Bi,Bs,⟨e1,e2⟩,e3⟩:=hs;exact⟨Bi,Bs,⟨boxed_own Bi 3 (fun (_:Unit)=>Value.int .i64 ((x:Nat):Int)) () X Y row e1 hg (fun r e=>(hr r e).2),segObj_own Bs (edS l0 x) () X Y row e2 hg (fun r e=>(hr r e).2)⟩,e3⟩)
   ?assign2 ?body2 ?done2 ?stop2
  case assign2 =>
   rintro l pre x W K ⟨⟨⟨⟨⟨hp,bR1⟩,bL1⟩,b5⟩,hK⟩,hB1⟩ hKK;dsimp only [encE,edV];gi_wp2;refine hKK _ _ (((KeepsOthers.alloc _ _).from _).trans ((KeepsOthers.alloc _ _).from _)) ((KpE.alloc _ _ _ _).trans (KpE.alloc _ _ _ _)) ⟨⟨⟨⟨⟨hp,(bR1.alloc _).alloc _⟩,(bL1.alloc _).alloc _⟩,(b5.alloc _).alloc _⟩,blk_alloc' (blk_alloc' hK _) _⟩,below_alloc (below_alloc hB1 _) _⟩ ⟨W.heap.size,W.heap.size+1,⟨(Boxed.new W 3 _).alloc _,?_⟩,rfl⟩;have:=World.alloc_heap_new (W.alloc (.cells #[.int .i64 ((x:Nat):Int)] 3)) (segObj (edS l0 x))
   rwa [World.size_alloc] at this
  case body2 =>
   rintro l pre x a' W hl ⟨rr,hrr⟩ ⟨⟨⟨⟨⟨hp,bR1⟩,bL1⟩,b5⟩,hK⟩,hB1⟩ ⟨Bi,Bs,⟨bI,bX⟩,rfl⟩ hlt;have cL:=bL1.cell;gi_wp2_with (refine⟨trivial,?_⟩;gi_at_call 59;refine (CallsIn.inRound l (edges_in _ _ _ _ _)).mono ?_;rintro e w' ⟨rfl,rfl⟩);clear cL;have bN:=Boxed.new W 23 (.slice A0 l0.length c0);have hr':(W.alloc (.cells #[.slice A0 l0.length c0] 23)).heap[l]?=some (.loop rr):=blk_alloc' hrr _;have bR2:=bR1.alloc (.cells #[.slice A0 l0.length c0] 23);have bL2:=bL1.alloc (.cells #[.slice A0 l0.length c0] 23);have b52:=b5.alloc (.cells #[.slice A0 l0.length c0] 23);have bI2:=bI.alloc (.cells #[.slice A0 l0.length c0] 23);have bX2:=blk_alloc' bX (.cells #[.slice A0 l0.length c0] 23);have hK2:=blk_alloc' hK (.cells #[.slice A0 l0.length c0] 23);have hB2:=below_alloc hB1 (.cells #[.slice A0 l0.length c0] 23);have hE2:=KpE.alloc w.heap.size (B5+1) W (.cells #[.slice A0 l0.length c0] 23);have hF2:=(KeepsOthers.alloc W (.cells #[.slice A0 l0.length c0] 23)).from W2.heap.size;have hsz3:(W.alloc (.cells #[.slice A0 l0.length c0] 23)).heap.size=W.heap.size+1:=by simp
   have hBW:=hB1.size;have hRW:=bR1.lt;have hDW2:D<W.heap.size:=(Array.getElem?_eq_some_iff.1 hK).1;obtain⟨W3,hW3⟩:∃ W3,W.alloc (.cells #[.slice A0 l0.length c0] 23)=W3:=⟨_,rfl⟩;rw [hW3] at bN hr' bR2 bL2 b52 bI2 bX2 hK2 hB2 hE2 hF2 hsz3 ⊢
   clear hW3;obtain⟨Bc,hBc⟩:∃ Bc,W.heap.size=Bc:=⟨_,rfl⟩;rw [hBc] at bN ⊢
   refine wpIn_rangeFunc_ownN (l₀:=l) (r₀:=rr) rfl hr' (by omega) (gf:=81) (lb:=#[.pointer (some ⟨Bc,0,none⟩)]) rfl trivial (enters_of Tryd.func81 (by kernel_rfl) rfl)
    ((edges_stops 6 (by omega) Bc w.heap.size A0 c0 l0 (by omega) hAb W3 (by omega) (by omega) bN.cell (Kd.C_below hr0 hB2)).inRound l) (fun h k=>KpE.trans h k) (fun W l o o' hl _ _ _=>KpE.putObj W l o' (by omega) (by omega)) (Below.refl _ _) (fun _=>rfl)
    (fun pre' W'=>(((((((∀ y∈pre',pairS l0 x (y:Fin l0.length)=true)∧Boxed W' (w.heap.size+1) 4 (.bool false))∧Boxed W' w.heap.size 23 (.slice A0 l0.length c0))∧Boxed W' B5 3 (.int .i64 ((l0.length:Int)-1)))∧Boxed W' Bi 3 (.int .i64 ((x:Nat):Int)))∧W'.heap[Bs]?=some (segObj (edS l0 x)))∧W'.heap[D]?=some (.deferred (some [])))∧(Below w.heap.size w W'∧KpE w.heap.size (B5+1) W W')∧KeepsFrom W2.heap.size W W')
    (fun c pre' W'=>(((c=.ret∧∃ y:Fin l0.length,pairS l0 x y=false)∧Boxed W' (w.heap.size+1) 4 (.bool false))∧W'.heap[D]?=some (.deferred (some [])))∧Below w.heap.size w W'∧KeepsFrom W2.heap.size W W')
    (OwnFrom.and (OwnFrom.and (OwnFrom.and (OwnFrom.and (OwnFrom.and (OwnFrom.and (OwnFrom.and (ownFrom_pure _ _) (Own.from (boxed_own _ _ _) _)) (Own.from (boxed_own _ _ _) _)) (Own.from (boxed_own _ _ _) _)) (Own.from (boxed_own _ _ _) _)) (Own.from (blk_own _ (fun _=>segObj (edS l0 x)) (fun _=>rfl)) _)) (ownFrom_blk (by omega))) (OwnFrom.and (OwnFrom.and (ownFrom_below (Nat.le_refl _) (by omega)) (ownFrom_kpE (by omega))) (ownFrom_keepsFrom (by omega))))
    (fun c=>OwnFrom.and (OwnFrom.and (OwnFrom.and (ownFrom_pure _ _) (Own.from (boxed_own _ _ _) _)) (ownFrom_blk (by omega))) (OwnFrom.and (ownFrom_below (Nat.le_refl _) (by omega)) (ownFrom_keepsFrom (by omega))))
    ⟨⟨⟨⟨⟨⟨⟨by simp,bR2⟩,bL2⟩,b52⟩,bI2⟩,bX2⟩,hK2⟩,⟨hB2,hE2⟩,hF2⟩
    (fun y a'' W'=>∃ Bt,W'.heap[Bt]?=some (segObj (edS l0 y))∧a''={ tmps:=#[.slice A0 l0.length c0,.pointer (some ⟨w.heap.size,0,none⟩),.pointer (some ⟨w.heap.size+1,0,none⟩),undef,undef,.pointer (some ⟨B5,0,none⟩),.pointer (some ⟨Bi,0,none⟩),.pointer (some ⟨Bs,0,none⟩),.int .i64 ((y:Nat):Int),.pointer (some ⟨Bt,0,none⟩),undef,.slice A0 l0.length c0,.int .i64 (l0.length:Int),.bool false,.bool false,.slice A0 l0.length c0,.int .i64 (l0.length:Int),.bool false,.bool false,.slice A0 l0.length c0,.func (.func 81) #[] #[.pointer (some ⟨w.heap.size+1+1,0,none⟩)],undef,undef,undef,undef,undef,.slice A0 l0.length c0,.int .i64 (l0.length:Int),.int .i64 ((l0.length:Int)-1),.slice A0 l0.length c0,.func (.func 81) #[] #[.pointer (some ⟨B5+1,0,none⟩)],.int .i64 ((x:Nat):Int),.agg #[.int .i64 (edS l0 x).f0.f0,.int .i64 (edS l0 x).f0.f1,.int .i64 (edS l0 x).f1.f0,.int .i64 (edS l0 x).f1.f1],.slice A0 l0.length c0,.func (.func 81) #[] #[.pointer (some ⟨Bc,0,none⟩)],.int .i64 ((y:Nat):Int),.agg #[.int .i64 (edS l0 y).f0.f0,.int .i64 (edS l0 y).f0.f1,.int .i64 (edS l0 y).f1.f0,.int .i64 (edS l0 y).f1.f1],undef,undef,undef,undef,undef,undef,undef,undef,undef,undef,undef,undef,undef,undef,undef,undef,undef,undef,undef,undef,undef,undef,undef,undef,undef,undef,undef,undef,undef],defers:=[] })
    (fun y a'' _ X Y row hs hg hr=>by obtain⟨Bt,e2,e3⟩:=hs;exact⟨Bt,segObj_own Bt (edS l0 y) () X Y row e2 hg (fun r e=>(hr r e).2),e3⟩)
    ?assign3 ?body3 ?done3 ?stop3
   case assign3 =>
    rintro l2 pre' y W' K ⟨⟨⟨⟨⟨⟨⟨hq,bR⟩,bL⟩,b5⟩,bI⟩,bX⟩,hK⟩,⟨hB,hE⟩,hF⟩ hKK;dsimp only [encE,edV];gi_wp2;exact hKK _ _ ((KeepsOthers.alloc _ _).from _) (KpE.alloc _ _ _ _) ⟨⟨⟨⟨⟨⟨⟨hq,bR.alloc _⟩,bL.alloc _⟩,b5.alloc _⟩,bI.alloc _⟩,blk_alloc' bX _⟩,blk_alloc' hK _⟩,⟨below_alloc hB _,hE.trans (KpE.alloc _ _ _ _)⟩,hF.trans ((KeepsOthers.alloc _ _).from _)⟩ ⟨W'.heap.size,World.alloc_heap_new W' _,rfl⟩
   case body3 =>
    rintro l2 pre' y a'' W' _ _ ⟨⟨⟨⟨⟨⟨⟨hq,bR⟩,bL⟩,b5⟩,bI⟩,bX⟩,hK⟩,⟨hB,hE⟩,hF⟩ ⟨Bt,bT,rfl⟩ _;have hx8:((x:Nat):Int)<8:=by have:=x.2;omega
    have hx0:0≤((x:Nat):Int):=by omega
    have cI:=bI.cell;have c5:=b5.cell;have cX0:W'.cell? ⟨Bs,0,none⟩=some (.int .i64 (edS l0 x).f0.f0):=(blk_cell bX 0).trans rfl;have cX1:W'.cell? ⟨Bs,1,none⟩=some (.int .i64 (edS l0 x).f0.f1):=(blk_cell bX 1).trans rfl;have cX2:W'.cell? ⟨Bs,2,none⟩=some (.int .i64 (edS l0 x).f1.f0):=(blk_cell bX 2).trans rfl;have cX3:W'.cell? ⟨Bs,3,none⟩=some (.int .i64 (edS l0 x).f1.f1):=(blk_cell bX 3).trans rfl;have cT0:W'.cell? ⟨Bt,0,none⟩=some (.int .i64 (edS l0 y).f0.f0):=(blk_cell bT 0).trans rfl;have cT1:W'.cell? ⟨Bt,1,none⟩=some (.int .i64 (edS l0 y).f0.f1):=(blk_cell bT 1).trans rfl;have cT2:W'.cell? ⟨Bt,2,none⟩=some (.int .i64 (edS l0 y).f1.f0):=(blk_cell bT 2).trans rfl;have cT3:W'.cell? ⟨Bt,3,none⟩=some (.int .i64 (edS l0 y).f1.f1):=(blk_cell bT 3).trans rfl;have cR:=bR.cell;have fR:=bR.frozen;by_cases d1:(y:Nat)≤(x:Nat)
    ·
     have t1:decide (((y:Nat):Int)≤((x:Nat):Int))=true:=decide_eq_true (by omega);have hP:pairS l0 x y=true:=by unfold pairS;rw [if_pos d1]
     gi_wp2;have hb:=hP;have hb1:=Below.refl W'.heap.size W';exact⟨keeps_below hb1,KpE.below hb1,⟨⟨⟨⟨⟨⟨fun z hz=>(List.mem_append.1 hz).elim (hq z) (fun e=>by simp at e;subst e;exact hb),box_later bR hb1⟩,box_later bL hb1⟩,box_later b5 hb1⟩,box_later bI hb1⟩,blk_later bX hb1⟩,blk_later hK hb1⟩,⟨below_row hB (Nat.le_refl _) hb1,hE.trans (KpE.below hb1)⟩,hF.trans (keeps_below hb1)⟩
    have t1:decide (((y:Nat):Int)≤((x:Nat):Int))=false:=decide_eq_false (by omega);by_cases d2:(y:Nat)=(x:Nat)+1
    ·
     have t2:(((y:Nat):Int)==((x:Nat):Int)+1)=true:=by rw [beq_iff_eq];omega
     have hP:pairS l0 x y=(!segHas (sgP (edS l0 x)) (ptP (edS l0 y).f1) && !segHas (sgP (edS l0 y)) (ptP (edS l0 x).f0)):=by unfold pairS;rw [if_neg d1,if_pos d2]
     have HJ:=iJoined (k:=2) (by omega) (edS l0 x).f0.f0 (edS l0 x).f0.f1 (edS l0 x).f1.f0 (edS l0 x).f1.f1 (edS l0 y).f0.f0 (edS l0 y).f0.f1 (edS l0 y).f1.f0 (edS l0 y).f1.f1;replace HJ:=HJ.trans (congrArg some hP.symm);clear d2
     cases hb:pairS l0 x y with
     | true =>
      rw [hb] at HJ;clear hP;gi_wp2_with (refine⟨trivial,?_⟩;gi_at_call 69;refine (CallsIn.inRound l2 (callsIn_wide.2 (impl_joined.calls 2 _ _ _ _ _ _ _ _ true _ HJ))).mono ?_;rintro e w1 ⟨rfl,hb1⟩;have cR1:=(box_later bR hb1).cell;have fR1:=(box_later bR hb1).frozen);exact⟨keeps_below hb1,KpE.below hb1,⟨⟨⟨⟨⟨⟨fun z hz=>(List.mem_append.1 hz).elim (hq z) (fun e=>by simp at e;subst e;exact hb),box_later bR hb1⟩,box_later bL hb1⟩,box_later b5 hb1⟩,box_later bI hb1⟩,blk_later bX hb1⟩,blk_later hK hb1⟩,⟨below_row hB (Nat.le_refl _) hb1,hE.trans (KpE.below hb1)⟩,hF.trans (keeps_below hb1)⟩
     | false =>
      rw [hb] at HJ;clear hP;gi_wp2_with (refine⟨trivial,?_⟩;gi_at_call 69;refine (CallsIn.inRound l2 (callsIn_wide.2 (impl_joined.calls 2 _ _ _ _ _ _ _ _ false _ HJ))).mono ?_;rintro e w1 ⟨rfl,hb1⟩;have cR1:=(box_later bR hb1).cell;have fR1:=(box_later bR hb1).frozen);exact⟨(keeps_below hb1).trans ((KeepsOthers.setCell _ _ _).from _),⟨⟨⟨rfl,y,hb⟩,(box_later bR hb1).set _⟩,blk_set (blk_later hK hb1) rfl (box_later bR hb1) _⟩,(below_row hB (Nat.le_refl _) hb1).setCell (p:=⟨w.heap.size+1,0,none⟩) (by simp) _,(hF.trans (keeps_below hb1)).trans ((KeepsOthers.setCell _ _ _).from _)⟩
    have t2:(((y:Nat):Int)==((x:Nat):Int)+1)=false:=by rw [beq_eq_false_iff_ne];omega
    by_cases d3:(x:Nat)=0
    ·
     have t3:(((x:Nat):Int)==0)=true:=by rw [beq_iff_eq];omega
     by_cases d4:(y:Nat)+1=l0.length
     ·
      have t4:(((y:Nat):Int)==(l0.length:Int)-1)=true:=by rw [beq_iff_eq];omega
      have hP:pairS l0 x y=(!segHas (sgP (edS l0 y)) (ptP (edS l0 x).f1) && !segHas (sgP (edS l0 x)) (ptP (edS l0 y).f0)):=by unfold pairS;rw [if_neg d1,if_neg d2,if_pos ⟨d3,d4⟩]
      have HJ:=iJoined (k:=2) (by omega) (edS l0 y).f0.f0 (edS l0 y).f0.f1 (edS l0 y).f1.f0 (edS l0 y).f1.f1 (edS l0 x).f0.f0 (edS l0 x).f0.f1 (edS l0 x).f1.f0 (edS l0 x).f1.f1;replace HJ:=HJ.trans (congrArg some hP.symm);clear d3 d4
      cases hb:pairS l0 x y with
      | true =>
       rw [hb] at HJ;clear hP;gi_wp2_with (refine⟨trivial,?_⟩;gi_at_call 69;refine (CallsIn.inRound l2 (callsIn_wide.2 (impl_joined.calls 2 _ _ _ _ _ _ _ _ true _ HJ))).mono ?_;rintro e w1 ⟨rfl,hb1⟩;have cR1:=(box_later bR hb1).cell;have fR1:=(box_later bR hb1).frozen);exact⟨keeps_below hb1,KpE.below hb1,⟨⟨⟨⟨⟨⟨fun z hz=>(List.mem_append.1 hz).elim (hq z) (fun e=>by simp at e;subst e;exact hb),box_later bR hb1⟩,box_later bL hb1⟩,box_later b5 hb1⟩,box_later bI hb1⟩,blk_later bX hb1⟩,blk_later hK hb1⟩,⟨below_row hB (Nat.le_refl _) hb1,hE.trans (KpE.below hb1)⟩,hF.trans (keeps_below hb1)⟩
      | false =>
       rw [hb] at HJ;clear hP;gi_wp2_with (refine⟨trivial,?_⟩;gi_at_call 69;refine (CallsIn.inRound l2 (callsIn_wide.2 (impl_joined.calls 2 _ _ _ _ _ _ _ _ false _ HJ))).mono ?_;rintro e w1 ⟨rfl,hb1⟩;have cR1:=(box_later bR hb1).cell;have fR1:=(box_later bR hb1).frozen);exact⟨(keeps_below hb1).trans ((KeepsOthers.setCell _ _ _).from _),⟨⟨⟨rfl,y,hb⟩,(box_later bR hb1).set _⟩,blk_set (blk_later hK hb1) rfl (box_later bR hb1) _⟩,(below_row hB (Nat.le_refl _) hb1).setCell (p:=⟨w.heap.size+1,0,none⟩) (by simp) _,(hF.trans (keeps_below hb1)).trans ((KeepsOthers.setCell _ _ _).from _)⟩
     ·
      have t4:(((y:Nat):Int)==(l0.length:Int)-1)=false:=by rw [beq_eq_false_iff_ne];omega
      have hP:pairS l0 x y = !segMeet (sgP (edS l0 x)) (sgP (edS l0 y)):=by unfold pairS;rw [if_neg d1,if_neg d2,if_neg (fun h=>d4 h.2)]
      have HJ:=iSegMeet (k:=3) (by omega) (edS l0 x).f0.f0 (edS l0 x).f0.f1 (edS l0 x).f1.f0 (edS l0 x).f1.f1 (edS l0 y).f0.f0 (edS l0 y).f0.f1 (edS l0 y).f1.f0 (edS l0 y).f1.f1;clear d3
      cases hb0:segMeet (sgP (edS l0 x)) (sgP (edS l0 y)) with
      | false =>
       have hb:pairS l0 x y=true:=by rw [hP,hb0];rfl
       replace HJ:=HJ.trans (congrArg some hb0);clear hP hb0;gi_wp2_with (refine⟨trivial,?_⟩;gi_at_call 70;refine (CallsIn.inRound l2 (callsIn_wide.2 (impl_SegMeet.calls 3 _ _ _ _ _ _ _ _ false _ HJ))).mono ?_;rintro e w1 ⟨rfl,hb1⟩;have cR1:=(box_later bR hb1).cell;have fR1:=(box_later bR hb1).frozen);exact⟨keeps_below hb1,KpE.below hb1,⟨⟨⟨⟨⟨⟨fun z hz=>(List.mem_append.1 hz).elim (hq z) (fun e=>by simp at e;subst e;exact hb),box_later bR hb1⟩,box_later bL hb1⟩,box_later b5 hb1⟩,box_later bI hb1⟩,blk_later bX hb1⟩,blk_later hK hb1⟩,⟨below_row hB (Nat.le_refl _) hb1,hE.trans (KpE.below hb1)⟩,hF.trans (keeps_below hb1)⟩
      | true =>
       have hb:pairS l0 x y=false:=by rw [hP,hb0];rfl
       replace HJ:=HJ.trans (congrArg some hb0);clear hP hb0;gi_wp2_with (refine⟨trivial,?_⟩;gi_at_call 70;refine (CallsIn.inRound l2 (callsIn_wide.2 (impl_SegMeet.calls 3 _ _ _ _ _ _ _ _ true _ HJ))).mono ?_;rintro e w1 ⟨rfl,hb1⟩;have cR1:=(box_later bR hb1).cell;have fR1:=(box_later bR hb1).frozen);exact⟨(keeps_below hb1).trans ((KeepsOthers.setCell _ _ _).from _),⟨⟨⟨rfl,y,hb⟩,(box_later bR hb1).set _⟩,blk_set (blk_later hK hb1) rfl (box_later bR hb1) _⟩,(below_row hB (Nat.le_refl _) hb1).setCell (p:=⟨w.heap.size+1,0,none⟩) (by simp) _,(hF.trans (keeps_below hb1)).trans ((KeepsOthers.setCell _ _ _).from _)⟩
    have t3:(((x:Nat):Int)==0)=false:=by rw [beq_eq_false_iff_ne];omega
    have hP:pairS l0 x y = !segMeet (sgP (edS l0 x)) (sgP (edS l0 y)):=by unfold pairS;rw [if_neg d1,if_neg d2,if_neg (fun h=>d3 h.1)]
    have HJ:=iSegMeet (k:=3) (by omega) (edS l0 x).f0.f0 (edS l0 x).f0.f1 (edS l0 x).f1.f0 (edS l0 x).f1.f1 (edS l0 y).f0.f0 (edS l0 y).f0.f1 (edS l0 y).f1.f0 (edS l0 y).f1.f1
    cases hb0:segMeet (sgP (edS l0 x)) (sgP (edS l0 y)) with
    | false =>
     have hb:pairS l0 x y=true:=by rw [hP,hb0];rfl
     replace HJ:=HJ.trans (congrArg some hb0);clear hP hb0;gi_wp2_with (refine⟨trivial,?_⟩;gi_at_call 70;refine (CallsIn.inRound l2 (callsIn_wide.2 (impl_SegMeet.calls 3 _ _ _ _ _ _ _ _ false _ HJ))).mono ?_;rintro e w1 ⟨rfl,hb1⟩;have cR1:=(box_later bR hb1).cell;have fR1:=(box_later bR hb1).frozen);exact⟨keeps_below hb1,KpE.below hb1,⟨⟨⟨⟨⟨⟨fun z hz=>(List.mem_append.1 hz).elim (hq z) (fun e=>by simp at e;subst e;exact hb),box_later bR hb1⟩,box_later bL hb1⟩,box_later b5 hb1⟩,box_later bI hb1⟩,blk_later bX hb1⟩,blk_later hK hb1⟩,⟨below_row hB (Nat.le_refl _) hb1,hE.trans (KpE.below hb1)⟩,hF.trans (keeps_below hb1)⟩
    | true =>
     have hb:pairS l0 x y=false:=by rw [hP,hb0];rfl
     replace HJ:=HJ.trans (congrArg some hb0);clear hP hb0;gi_wp2_with (refine⟨trivial,?_⟩;gi_at_call 70;refine (CallsIn.inRound l2 (callsIn_wide.2 (impl_SegMeet.calls 3 _ _ _ _ _ _ _ _ true _ HJ))).mono ?_;rintro e w1 ⟨rfl,hb1⟩;have cR1:=(box_later bR hb1).cell;have fR1:=(box_later bR hb1).frozen);exact⟨(keeps_below hb1).trans ((KeepsOthers.setCell _ _ _).from _),⟨⟨⟨rfl,y,hb⟩,(box_later bR hb1).set _⟩,blk_set (blk_later hK hb1) rfl (box_later bR hb1) _⟩,(below_row hB (Nat.le_refl _) hb1).setCell (p:=⟨w.heap.size+1,0,none⟩) (by simp) _,(hF.trans (keeps_below hb1)).trans ((KeepsOthers.setCell _ _ _).from _)⟩
   case done3 =>
    rintro ys' W' rfl ⟨⟨⟨⟨⟨⟨⟨hq,bR⟩,bL⟩,b5⟩,bI⟩,bX⟩,hK⟩,⟨hB,hE⟩,hF⟩;gi_wp2;exact⟨hF,hE,⟨⟨⟨⟨fun z hz j hj=>(List.mem_append.1 hz).elim (fun hm=>hp z hm j hj) (fun e=>by simp at e;subst e;exact hq ⟨j,hj⟩ (List.mem_finRange _)),bR⟩,bL⟩,b5⟩,hK⟩,hB⟩
   case stop3 =>
    rintro c pre' W' hpre ⟨⟨⟨⟨rfl,y,hy⟩,bR⟩,hK⟩,hB,hF⟩;gi_wp2;exact⟨hF,⟨⟨⟨rfl,x,y,x.2,y.2,hy⟩,bR⟩,hK⟩,hB⟩
  case stop2 =>
   rintro D2 c pre W hD2 _ ⟨⟨⟨⟨rfl,i,j,hi,hj,hs⟩,bR1⟩,hK⟩,hB1⟩ hK2;obtain rfl:r=false:=by
    cases r with
    | false=>rfl
    | true=>have:=(hS'.out.1 rfl).2.2.2 i j hi hj;rw [hs] at this;cases this
   gi_wp2;have hD1:∀ E∈[D2,D],W.heap[E]?=some (.deferred (some [])):=by
    intro E hE;simp at hE
    rcases hE with rfl | rfl
    ·
     exact hK2
    ·
     exact hK
   refine leavesM_marks [D2,D] W (by simp;omega) hD1 (fun w' h1 h2 h3 h4 h5=>?_);have hc5:=(marks_boxed bR1 hD1 h1).cell;refine⟨.bool false,?_,rfl,marks_below hB1 (by simp;omega) h1 h2 h3 h4 h5⟩;simp [results,Tryd.f35,go_sem,hc5]
  case done2 =>
   rintro D2 ys W hD2 rfl ⟨⟨⟨⟨⟨hp,bR1⟩,bL1⟩,b5⟩,hK⟩,hB1⟩ hK2;obtain rfl:r=true:=hS'.out.2 ⟨by omega,by omega,hok,fun i j hi hj=>hp ⟨i,hi⟩ (List.mem_finRange _) j hj⟩;have cR:=bR1.cell;have fR:=bR1.frozen;gi_wp2;have hD1:∀ E∈[D2,D],(W.setCell ⟨w.heap.size+1,0,none⟩ (.bool true)).heap[E]?=some (.deferred (some [])):=by
    intro E hE;simp at hE
    rcases hE with rfl | rfl
    ·
     exact blk_set hK2 rfl bR1 _
    ·
     exact blk_set hK rfl bR1 _
   refine leavesM_marks [D2,D] _ (by simp;omega) hD1 (fun w' h1 h2 h3 h4 h5=>?_);have hc5:=(marks_boxed (bR1.set (.bool true)) hD1 h1).cell;refine⟨.bool true,?_,rfl,marks_below (hB1.setCell (p:=⟨w.heap.size+1,0,none⟩) (by simp) _) (by simp;omega) h1 h2 h3 h4 h5⟩;simp [results,Tryd.f35,go_sem,hc5]
end Go.Proofs.YtailkppkjhkjpaaDoor.X
end
section
set_option linter.unusedVariables false
set_option linter.unusedSimpArgs false
namespace Txt
open Go.Lib
def cutAt (c:UInt8):List UInt8→List (List UInt8)
 | []=>[[]]
 | b::l=>if b=c then []::cutAt c l else match cutAt c l with
  | x::xs=>(b::x)::xs
  | []=>[[b]]
theorem cutAt_ne (c:UInt8):∀ s,∃ x xs,cutAt c s=x::xs
 | []=>⟨[],[],rfl⟩
 | b::l=>by
  unfold cutAt;by_cases h:b=c
  ·
   rw [if_pos h];exact⟨_,_,rfl⟩
  ·
   rw [if_neg h];obtain⟨x,xs,e⟩:=cutAt_ne c l;rw [e];exact⟨_,_,rfl⟩
theorem cutAt_eq (c:UInt8)(l:List UInt8):cutAt c (c::l)=[]::cutAt c l:=by rw [cutAt,if_pos rfl]
theorem cutAt_cons {c b:UInt8}(h:b≠c){l x:List UInt8}{xs:List (List UInt8)}(e:cutAt c l=x::xs):cutAt c (b::l)=(b::x)::xs:=by rw [cutAt,if_neg h,e]
theorem split_cut (c:UInt8):∀ s,split s [c]=cutAt c s
 | []=>by unfold split;rw [count_one];rfl
 | b::l=>by
  have ih:=split_cut c l;unfold split at ih ⊢
  by_cases h:b=c
  ·
   subst h;rw [count_cons_eq,Nat.add_comm,cutAt_eq,← ih];have hix:index (b::l) [b]=((0:Nat):Int):=by rw [index];simp [List.isPrefixOf]
   rw [splitK,hix];rfl
  ·
   rw [count_cons_ne b c l h];have hp:([c]:List UInt8).isPrefixOf (b::l)=false:=by simp [List.isPrefixOf,Ne.symm h]
   have hix:index (b::l) [c]=if index l [c] == -1 then -1 else index l [c]+1:=by rw [index,hp];simp
   by_cases hm:index l [c] = -1
   ·
    rw [count_miss hm] at ih ⊢
    rw [splitK] at ih ⊢
    rw [cutAt_cons h ih.symm]
   ·
    have hge:=index_ge l [c];obtain⟨j,hj⟩:∃ j:Nat,index l [c]=j:=⟨(index l [c]).toNat,by omega⟩;have hix':index (b::l) [c]=((j+1:Nat):Int):=by rw [hix,if_neg (fun e=>hm (beq_iff_eq.1 e)),hj];omega
    rw [count_hit (by simp) hj] at ih ⊢
    rw [Nat.add_comm,splitK,hj] at ih;rw [Nat.add_comm,splitK,hix'];have n1:((j:Int) == -1)=false:=by rw [beq_eq_false_iff_ne];omega
    have n2:(((j+1:Nat):Int) == -1)=false:=by rw [beq_eq_false_iff_ne];omega
    rw [n1] at ih;rw [n2];simp only [Bool.false_eq_true,if_false,Int.toNat_natCast,Nat.add_zero,List.length_cons,List.length_nil,Nat.zero_add,List.take_succ_cons,List.drop_succ_cons] at ih ⊢
    rw [cutAt_cons h ih.symm]
theorem cut_none {c:UInt8}:∀ {w:List UInt8},c ∉ w→cutAt c w=[w]
 | [],_=>rfl
 | b::l,h=>by
  rw [cutAt_cons (fun e=>h (by simp [e])) (cut_none (w:=l) (fun e=>h (by simp [e])))]
theorem cut_app {c:UInt8}:∀ {w:List UInt8} (s:List UInt8),c ∉ w→cutAt c (w++c::s)=w::cutAt c s
 | [],s,_=>cutAt_eq c s
 | b::l,s,h=>by
  rw [List.cons_append,cutAt_cons (fun e=>h (by simp [e])) (cut_app (w:=l) s (fun e=>h (by simp [e])))]
theorem cut_join {c:UInt8}:∀ (x:List UInt8) (xs:List (List UInt8)),(∀ w∈x::xs,c ∉ w)→cutAt c (join (x::xs) [c])=x::xs
 | x,[],h=>by rw [join_one,cut_none (h x (by simp))]
 | x,y::ys,h=>by
  have ih:=cut_join y ys (fun w hw=>h w (List.mem_cons_of_mem _ hw));rw [join_cons] at ih ⊢
  have e:joinTail [c] (y::ys)=c::(y++joinTail [c] ys):=by simp [joinTail]
  rw [e,cut_app _ (h x (by simp)),ih]
theorem cut_len (c:UInt8):∀ s,(cutAt c s).length≤s.length+1
 | []=>by simp [cutAt]
 | b::l=>by
  have ih:=cut_len c l;obtain⟨x,xs,e⟩:=cutAt_ne c l;by_cases h:b=c
  ·
   subst h;rw [cutAt_eq];simp only [List.length_cons];omega
  ·
   rw [cutAt_cons h e];rw [e] at ih;simp only [List.length_cons] at ih ⊢;omega
def fig (n:Int):UInt8:=UInt8.ofNat (48+n.toNat)
def wrPt (p:Int × Int):List UInt8:=[fig p.1,44,fig p.2]
def isFig (b:UInt8):Bool:=decide (48≤b.toNat) && decide (b.toNat≤57)
def rdPt:List UInt8→Option (Int × Int)
 | [a,k,b]=>if k=44 && (isFig a && isFig b) then some (((a.toNat:Int)-48),((b.toNat:Int)-48)) else none
 | _=>none
theorem rdPt3 (a k b:UInt8):rdPt [a,k,b]=if k=44 && (isFig a && isFig b) then some (((a.toNat:Int)-48),((b.toNat:Int)-48)) else none:=rfl
def small (p:Int × Int):Prop:=0≤p.1∧p.1≤9∧0≤p.2∧p.2≤9
theorem fig_nat {n:Int}(h0:0≤n)(h1:n≤9):(fig n).toNat=48+n.toNat:=by
 unfold fig;rw [UInt8.toNat_ofNat'];omega
theorem isFig_fig {n:Int}(h0:0≤n)(h1:n≤9):isFig (fig n)=true:=by
 unfold isFig;rw [fig_nat h0 h1,Bool.and_eq_true,decide_eq_true_eq,decide_eq_true_eq];omega
theorem rd_wr {p:Int × Int}(h:small p):rdPt (wrPt p)=some p:=by
 obtain⟨h1,h2,h3,h4⟩:=h;unfold wrPt;rw [rdPt3,isFig_fig h1 h2,isFig_fig h3 h4,if_pos (by decide),fig_nat h1 h2,fig_nat h3 h4]
 congr 1
 refine Prod.ext ?_ ?_ <;> simp only <;> omega
def allOf {α β:Type}(f:α→Option β):List α→Option (List β)
 | []=>some []
 | x::xs=>(f x).bind fun y=>(allOf f xs).bind fun ys=>some (y::ys)
theorem allOf_map {α β:Type}{f:α→Option β}{g:β→α}:∀ {l:List β},(∀ y∈l,f (g y)=some y)→allOf f (l.map g)=some l
 | [],_=>rfl
 | y::ys,h=>by
  rw [List.map_cons,allOf,h y (by simp),allOf_map (l:=ys) (fun z hz=>h z (List.mem_cons_of_mem _ hz))];rfl
abbrev Loop:=List (Int × Int)
def wrLoop (l:Loop):List UInt8:=join (l.map wrPt) [32]
def smallL (l:Loop):Prop:=∀ p∈l,small p
theorem fig_ne {n:Int}(h0:0≤n)(h1:n≤9){c:UInt8}(hc:c.toNat<48):c≠fig n:=fun e=>by
 have:=fig_nat h0 h1;rw [← e] at this;omega
theorem pt_no {p:Int × Int}(h:small p){c:UInt8}(hc:c.toNat<48)(h44:c≠44):c ∉ wrPt p:=by
 obtain⟨h1,h2,h3,h4⟩:=h;unfold wrPt;simp only [List.mem_cons,List.not_mem_nil,or_false,not_or];exact⟨fig_ne h1 h2 hc,h44,fig_ne h3 h4 hc⟩
theorem mem_join {c d:UInt8}:∀ (x:List UInt8) (xs:List (List UInt8)),(∀ w∈x::xs,c ∉ w)→c≠d→c ∉ join (x::xs) [d]
 | x,[],h,_=>by rw [join_one];exact h x (by simp)
 | x,y::ys,h,hd=>by
  have ih:=mem_join y ys (fun w hw=>h w (List.mem_cons_of_mem _ hw)) hd;rw [join_cons] at ih ⊢
  have e:joinTail [d] (y::ys)=d::(y++joinTail [d] ys):=by simp [joinTail]
  rw [e];intro hm
  rcases List.mem_append.1 hm with hm | hm
  ·
   exact h x (by simp) hm
  ·
   rcases List.mem_cons.1 hm with hm | hm
   ·
    exact hd hm
   ·
    exact ih hm
theorem loop_no {l:Loop}(h:smallL l):(10:UInt8) ∉ wrLoop l:=by
 unfold wrLoop
 cases l with
 | nil=>simp [join,List.intercalate]
 | cons p ps =>
  rw [List.map_cons];refine mem_join _ _ (fun w hw=>?_) (by decide);rw [← List.map_cons] at hw;obtain⟨q,hq,rfl⟩:=List.mem_map.1 hw;exact pt_no (h q hq) (by decide) (by decide)
theorem loop_len:∀ (p:Int × Int) (ps:Loop),(wrLoop (p::ps)).length=4*ps.length+3
 | p,[]=>rfl
 | p,q::qs=>by
  have ih:=loop_len q qs;unfold wrLoop at ih ⊢
  rw [List.map_cons,join_cons] at ih ⊢
  have e:joinTail [32] ((q::qs).map wrPt)=32::(wrPt q++joinTail [32] (qs.map wrPt)):=by simp [joinTail]
  rw [e];simp only [List.length_append,List.length_cons] at ih ⊢
  have:(wrPt p).length=3:=rfl;omega
def wrLines (ls:List Loop):List UInt8:=(ls.map fun l=>wrLoop l++[10]).flatten
theorem wrLines_join:∀ (l:Loop) (ls:List Loop),wrLines (l::ls)=join ((l::ls).map wrLoop) [10]++[10]
 | l,[]=>by simp [wrLines,join_one]
 | l,m::ms=>by
  have ih:=wrLines_join m ms;rw [List.map_cons,join_cons] at ih ⊢
  have e:joinTail [10] ((m::ms).map wrLoop)=10::(wrLoop m++joinTail [10] (ms.map wrLoop)):=by simp [joinTail]
  rw [e];have e2:wrLines (l::m::ms)=wrLoop l++[10]++wrLines (m::ms):=by simp [wrLines]
  rw [e2,ih];simp
end Txt
end
section
set_option linter.unusedVariables false
set_option linter.unusedSimpArgs false
namespace Go.Proofs.YtailkppkjhkjpaaDoor.X
open Go.RowKit Go.Proofs.YtailkppkjhkjpaaDoorW.PrintWords Go.Proofs.YtailkppkjhkjpaaDoorW.PrintLast Go.Proofs.YtailkppkjhkjpaaDoorW.PrintMore
def qmL:Nat→Nat→List Bool
 | 0,_=>[]
 | n+1,m=>(m % 2==1)::qmL n (m / 2)
def qm (n m:Nat):Array Bool:=⟨qmL n m⟩
theorem qp {P:Program}{ops:Array Oper}{Q:Exit→Act→World→Prop}{md:Region.Mode}{S:World→Prop}{ds:List Nat}{oi:Oper}{v:Value}{fuel:Nat}{l:Array Bool}{a a':Act}{w:World}(i N:Nat)(l':Array Bool)(h:wpAnyLast P md ops Q S ds fuel l' a' w)(hi:ops[i]?=some oi:=by rfl)(hN:oi.dst=some N:=by rfl)(hc:anyB md ops l l' i=true:=by kernel_rfl)(hw:Region.wanted oi (yielded ops a.tmps)=true:=by rfl)(hr:∀ w',(execOp a.eval oi).run P w'=.ok (.value v) w':=by (intro w';go_simp;with_reducible rfl))(ha:a.put (some N) v=a':=by (simp only [Act.put,List.setIfInBounds_toArray,List.set_cons_zero,List.set_cons_succ,i64_w,i32_w];rfl))(hQ:∀ c a w,Q (.panic c) (a.put oi.dst v) w→Q (.panic c) a w:=by exact fun _ _ _ h=>h):wpAnyLast P md ops Q S ds (fuel+1) l a w:=pure_ l' hi hN hc hQ (Or.inl ⟨hw,hr⟩) ha h
theorem qt2 {P:Program}{ops:Array Oper}{Q:Exit→Act→World→Prop}{md:Region.Mode}{S:World→Prop}{ds:List Nat}{oi:Oper}{v:Value}{fuel:Nat}{l:Array Bool}{a a':Act}{w:World}(i N:Nat)(l':Array Bool)(hS:S w)(h:wpAnyLast P md ops Q S ds fuel l' a' w)(hi:ops[i]?=some oi:=by rfl)(hN:oi.dst=some N:=by rfl)(hc:takeB md ops ds l l' i=true:=by kernel_rfl)(hw:Region.wanted oi (yielded ops a.tmps)=true:=by rfl)(hr:∀ w',S w'→(execOp a.eval oi).run P w'=.ok (.value v) w':=by (rintro w' ⟨s0,s1⟩;go_simp;with_reducible rfl))(ha:a.put (some N) v=a':=by (simp only [Act.put,List.setIfInBounds_toArray,List.set_cons_zero,List.set_cons_succ,i64_w,i32_w];rfl))(hQ:∀ c a w,Q (.panic c) (a.put oi.dst v) w→Q (.panic c) a w:=by exact fun _ _ _ h=>h):wpAnyLast P md ops Q S ds (fuel+1) l a w:=take_ l' hi hN hc hQ (Or.inl ⟨hw,hr⟩) hS ha h
theorem qc {P:Program}{ops:Array Oper}{Q:Exit→Act→World→Prop}{md:Region.Mode}{S:World→Prop}{fuel:Nat}{l:Array Bool}{a a':Act}{w:World}(i N:Nat)(l':Array Bool){oi:Oper}{f:FuncId}{fn:Func}{as0:Array Operand}{ts:Array TypeId}{args:Array Value}{v:Value}(hf:P.funcs[f]?=some fn)
  (hcall:Calls P f args w fun e W'=>e=.returned v∧Below w.heap.size w W') (hS:∀ w',Below w.heap.size w w'→S w')
  (h:∀ w',Below w.heap.size w w'→S w'→wpAnyLast P md ops Q S [] fuel l' a' w')
  (hi:ops[i]?=some oi:=by rfl) (hN:oi.dst=some N:=by rfl) (hc:readyB md ops l l' i=true:=by kernel_rfl)
  (hw:Region.wanted oi (yielded ops a.tmps)=true:=by rfl) (hname:(fn.name == "runtime.NumGoroutine")=false:=by kernel_rfl) (hb:fn.body.isSome=true:=by rfl)
  (hop:oi.op=.call { callee:=.value (.func f),args:=as0,argTypes:=ts }:=by rfl)
  (ha1:as0.map a.eval=args:=by (try simp only [List.map_toArray,List.map_cons,List.map_nil]);first | done | rfl)
  (ha:a.put (some N) v=a':=by (simp only [Act.put,List.setIfInBounds_toArray,List.set_cons_zero,List.set_cons_succ,i64_w,i32_w];rfl)):wpAnyLast P md ops Q S [] (fuel+1) l a w:=by
 refine one_ l' hi hN hc (by simp) (fun K hK=>?_);refine goes_ hf hname hb args hw hN hop ha1 ?_;refine hcall.mono ?_;rintro e w1 ⟨rfl,hb1⟩;refine⟨_,rfl,hK.out _ _ (hS _ hb1) (fun hs=>?_)⟩;rw [ha];exact h _ hb1 hs
end Go.Proofs.YtailkppkjhkjpaaDoor.X
end
section
namespace Go.Proofs
open Go.Shelf
def Tryd.lays169_ren:Go.Shelf.Ren:=⟨fun | 169=>28 | n=>n,fun | 70=>50 | 9=>9 | 0=>0 | 72=>52 | 37=>22 | 127=>92 | 3=>3 | 5=>5 | n=>n,fun | n=>n⟩
theorem Tryd.lays169:Go.Proofs.Lays.n169 Tryd.prog Tryd.lays169_ren:={
 mixed:=by kernel_rfl
 f169:=Tryd.func28.trans (congrArg some (by kernel_rfl))
 t0:=Tryd.underlying0
 a0:=Tryd.isAgg0
 z0:=Tryd.sizeOf0
 v0:=Tryd.zeroValue0
 t3:=Tryd.underlying3
 a3:=Tryd.isAgg3
 z3:=Tryd.sizeOf3
 v3:=Tryd.zeroValue3
 t9:=Tryd.underlying9
 a9:=Tryd.isAgg9
 z9:=Tryd.sizeOf9
 v9:=Tryd.zeroValue9
 t37:=Tryd.underlying22
 a37:=Tryd.isAgg22
 z37:=Tryd.sizeOf22
 v37:=Tryd.zeroValue22
 t70:=Tryd.underlying50
 a70:=Tryd.isAgg50
 z70:=Tryd.sizeOf50
 v70:=Tryd.zeroValue50
 t72:=Tryd.underlying52
 a72:=Tryd.isAgg52
 z72:=Tryd.sizeOf52
 v72:=Tryd.zeroValue52
 t127:=Tryd.underlying92
 a127:=Tryd.isAgg92
 z127:=Tryd.sizeOf92
 v127:=Tryd.zeroValue92 }
theorem Tryd.Builder_Extra_169:Builder.Extra Tryd.prog Tryd.lays169_ren:={
 sizeBuilder:=by kernel_rfl
 liesBuilder:=by kernel_rfl
 t5:=Tryd.underlying5
 a5:=Tryd.isAgg5
 z5:=Tryd.sizeOf5
 v5:=Tryd.zeroValue5
 infoByte:=by kernel_rfl
 cellsByte:=by kernel_rfl
 sizeByte:=by kernel_rfl
 neB5:=by decide }
def Tryd.lays156_ren:Go.Shelf.Ren:=⟨fun | 156=>62 | 165=>84 | 166=>25 | 169=>28 | 240=>60 | 241=>96 | 276=>82 | 277=>102 | n=>n,fun | 31=>66 | 9=>9 | 3=>3 | 4=>4 | 0=>0 | 20=>20 | 72=>52 | 76=>61 | 70=>50 | 37=>22 | 75=>60 | 127=>92 | 164=>106 | 5=>5 | 80=>64 | n=>n,fun | n=>n⟩
theorem Tryd.lays156:Go.Proofs.Lays.n156 Tryd.prog Tryd.lays156_ren:={
 mixed:=by kernel_rfl
 f156:=Tryd.func62.trans (congrArg some (by kernel_rfl))
 f165:=Tryd.func84.trans (congrArg some (by kernel_rfl))
 f166:=Tryd.func25.trans (congrArg some (by kernel_rfl))
 f169:=Tryd.func28.trans (congrArg some (by kernel_rfl))
 f240:=Tryd.func60.trans (congrArg some (by kernel_rfl))
 f241:=Tryd.func96.trans (congrArg some (by kernel_rfl))
 f276:=Tryd.func82.trans (congrArg some (by kernel_rfl))
 f277:=Tryd.func102.trans (congrArg some (by kernel_rfl))
 t0:=Tryd.underlying0
 a0:=Tryd.isAgg0
 z0:=Tryd.sizeOf0
 v0:=Tryd.zeroValue0
 t3:=Tryd.underlying3
 a3:=Tryd.isAgg3
 z3:=Tryd.sizeOf3
 v3:=Tryd.zeroValue3
 t4:=Tryd.underlying4
 a4:=Tryd.isAgg4
 z4:=Tryd.sizeOf4
 v4:=Tryd.zeroValue4
 t9:=Tryd.underlying9
 a9:=Tryd.isAgg9
 z9:=Tryd.sizeOf9
 v9:=Tryd.zeroValue9
 t20:=Tryd.underlying20
 a20:=Tryd.isAgg20
 z20:=Tryd.sizeOf20
 v20:=Tryd.zeroValue20
 t31:=Tryd.underlying66
 a31:=Tryd.isAgg66
 z31:=Tryd.sizeOf66
 v31:=Tryd.zeroValue66
 t37:=Tryd.underlying22
 a37:=Tryd.isAgg22
 z37:=Tryd.sizeOf22
 v37:=Tryd.zeroValue22
 t70:=Tryd.underlying50
 a70:=Tryd.isAgg50
 z70:=Tryd.sizeOf50
 v70:=Tryd.zeroValue50
 t72:=Tryd.underlying52
 a72:=Tryd.isAgg52
 z72:=Tryd.sizeOf52
 v72:=Tryd.zeroValue52
 t75:=Tryd.underlying60
 a75:=Tryd.isAgg60
 z75:=Tryd.sizeOf60
 v75:=Tryd.zeroValue60
 t76:=Tryd.underlying61
 a76:=Tryd.isAgg61
 z76:=Tryd.sizeOf61
 v76:=Tryd.zeroValue61
 t127:=Tryd.underlying92
 a127:=Tryd.isAgg92
 z127:=Tryd.sizeOf92
 v127:=Tryd.zeroValue92
 t164:=Tryd.underlying106
 a164:=Tryd.isAgg106
 z164:=Tryd.sizeOf106
 v164:=Tryd.zeroValue106 }
theorem Tryd.Builder_Extra_156:Builder.Extra Tryd.prog Tryd.lays156_ren:={
 sizeBuilder:=by kernel_rfl
 liesBuilder:=by kernel_rfl
 t5:=Tryd.underlying5
 a5:=Tryd.isAgg5
 z5:=Tryd.sizeOf5
 v5:=Tryd.zeroValue5
 infoByte:=by kernel_rfl
 cellsByte:=by kernel_rfl
 sizeByte:=by kernel_rfl
 neB5:=by decide }
open Go.RowKit in
theorem Tryd.strings_Join (bk o c:Nat)(xs:List ByteArray)(sep:ByteArray)(w:World)(hcells:∀ (j:Nat) x,xs[j]?=some x→w.cell? ⟨bk,o+j,none⟩=some (.string x))(hbk:bk<w.heap.size)(hN:xs.length≤140737488355328)(hcap:xs.length≤c)(hlen:(Lib.join (xs.map (·.data.toList)) sep.data.toList).length≤140737488355328):
  Calls Tryd.prog 62 #[.slice (some ⟨bk,o,none⟩) xs.length c,.string sep] w fun e w'=>e=.returned (.string ⟨(Lib.join (xs.map (·.data.toList)) sep.data.toList).toArray⟩)∧Below w.heap.size w w':=Any.strings_Join Tryd.lays156 Tryd.Builder_Extra_156 bk o c xs sep w hcells hbk hN hcap hlen
open Go.RowKit in
theorem Tryd.Builder_String_any_k (B b:Nat)(l:List UInt8)(w:World)(h:Lib.IsBuilderF 52 5 B b (Lib.byteCells l) w)(hBw:B≤w.heap.size):
  Calls Tryd.prog 28 #[.pointer (some ⟨b,0,none⟩)] w fun e w'=>e=.returned (.string ⟨l.toArray⟩)∧(Lib.IsBuilderF 52 5 B b (Lib.byteCells l) w'∧Below B w w'∧Lib.OthersKept 5 (some b) w w'):=Any.Builder_String_any_k Tryd.lays169 Tryd.Builder_Extra_169 B b l w h hBw
def Tryd.lays171_ren:Go.Shelf.Ren:=⟨fun | 171=>83 | 243=>95 | 246=>101 | 283=>108 | 284=>109 | 285=>110 | 286=>111 | 129=>115 | 317=>114 | 318=>116 | 319=>117 | 320=>118 | 337=>119 | 338=>120 | n=>n,fun | 3=>3 | 9=>9 | 2=>2 | 4=>4 | 171=>122 | 0=>0 | 53=>123 | 37=>22 | 5=>5 | 173=>126 | 212=>136 | 51=>132 | 20=>20 | 213=>137 | 46=>121 | 232=>141 | 233=>142 | n=>n,fun | 17=>3 | 18=>4 | 19=>5 | n=>n⟩
theorem Tryd.lays171:Go.Proofs.Lays.n171 Tryd.prog Tryd.lays171_ren:={
 mixed:=by kernel_rfl
 f129:=Tryd.func115.trans (congrArg some (by kernel_rfl))
 f171:=Tryd.func83.trans (congrArg some (by kernel_rfl))
 f243:=Tryd.func95.trans (congrArg some (by kernel_rfl))
 f246:=Tryd.func101.trans (congrArg some (by kernel_rfl))
 f283:=Tryd.func108.trans (congrArg some (by kernel_rfl))
 f284:=Tryd.func109.trans (congrArg some (by kernel_rfl))
 f285:=Tryd.func110.trans (congrArg some (by kernel_rfl))
 f286:=Tryd.func111.trans (congrArg some (by kernel_rfl))
 f317:=Tryd.func114.trans (congrArg some (by kernel_rfl))
 f318:=Tryd.func116.trans (congrArg some (by kernel_rfl))
 f319:=Tryd.func117.trans (congrArg some (by kernel_rfl))
 f320:=Tryd.func118.trans (congrArg some (by kernel_rfl))
 f337:=Tryd.func119.trans (congrArg some (by kernel_rfl))
 f338:=Tryd.func120.trans (congrArg some (by kernel_rfl))
 t0:=Tryd.underlying0
 a0:=Tryd.isAgg0
 z0:=Tryd.sizeOf0
 v0:=Tryd.zeroValue0
 t2:=Tryd.underlying2
 a2:=Tryd.isAgg2
 z2:=Tryd.sizeOf2
 v2:=Tryd.zeroValue2
 t3:=Tryd.underlying3
 a3:=Tryd.isAgg3
 z3:=Tryd.sizeOf3
 v3:=Tryd.zeroValue3
 t4:=Tryd.underlying4
 a4:=Tryd.isAgg4
 z4:=Tryd.sizeOf4
 v4:=Tryd.zeroValue4
 t5:=Tryd.underlying5
 a5:=Tryd.isAgg5
 z5:=Tryd.sizeOf5
 v5:=Tryd.zeroValue5
 t9:=Tryd.underlying9
 a9:=Tryd.isAgg9
 z9:=Tryd.sizeOf9
 v9:=Tryd.zeroValue9
 t20:=Tryd.underlying20
 a20:=Tryd.isAgg20
 z20:=Tryd.sizeOf20
 v20:=Tryd.zeroValue20
 t37:=Tryd.underlying22
 a37:=Tryd.isAgg22
 z37:=Tryd.sizeOf22
 v37:=Tryd.zeroValue22
 t46:=Tryd.underlying121
 a46:=Tryd.isAgg121
 z46:=Tryd.sizeOf121
 v46:=Tryd.zeroValue121
 t51:=Tryd.underlying132
 a51:=Tryd.isAgg132
 z51:=Tryd.sizeOf132
 v51:=Tryd.zeroValue132
 t53:=Tryd.underlying123
 a53:=Tryd.isAgg123
 z53:=Tryd.sizeOf123
 v53:=Tryd.zeroValue123
 t171:=Tryd.underlying122
 a171:=Tryd.isAgg122
 z171:=Tryd.sizeOf122
 v171:=Tryd.zeroValue122
 t173:=Tryd.underlying126
 a173:=Tryd.isAgg126
 z173:=Tryd.sizeOf126
 v173:=Tryd.zeroValue126
 t212:=Tryd.underlying136
 a212:=Tryd.isAgg136
 z212:=Tryd.sizeOf136
 v212:=Tryd.zeroValue136
 t213:=Tryd.underlying137
 a213:=Tryd.isAgg137
 z213:=Tryd.sizeOf137
 t232:=Tryd.underlying141
 a232:=Tryd.isAgg141
 z232:=Tryd.sizeOf141
 v232:=Tryd.zeroValue141
 t233:=Tryd.underlying142
 a233:=Tryd.isAgg142
 z233:=Tryd.sizeOf142
 v233:=Tryd.zeroValue142
 g17:=by kernel_rfl
 g18:=by kernel_rfl
 g19:=by kernel_rfl }
open Go.RowKit Go.Sort Go.Lib in
theorem Tryd.strconv_Itoa_small (i:Nat)(hi:i<100)(w:World):
  Calls Tryd.prog 83 #[.int .i64 i] w fun e w'=>e=.returned (.string ⟨(Lib.decDigits i).toArray⟩)∧w'=w:=Any.strconv_Itoa_small Tryd.lays171 i hi w
def Tryd.lays146_ren:Go.Shelf.Ren:=⟨fun | 146=>31 | 221=>65 | 268=>86 | 138=>87 | 143=>88 | 195=>97 | 197=>98 | 218=>99 | 219=>100 | 260=>103 | 217=>104 | 225=>105 | 224=>106 | 267=>107 | 266=>112 | 314=>113 | n=>n,fun | 9=>9 | 31=>66 | 3=>3 | 4=>4 | 0=>0 | 105=>116 | 21=>21 | 5=>5 | 46=>121 | 119=>128 | 139=>131 | 138=>130 | 146=>133 | 51=>132 | n=>n,fun | 1=>0 | 3=>1 | 4=>2 | n=>n⟩
theorem Tryd.lays146:Go.Proofs.Lays.n146 Tryd.prog Tryd.lays146_ren:={
 mixed:=by kernel_rfl
 f138:=Tryd.func87.trans (congrArg some (by kernel_rfl))
 f143:=Tryd.func88.trans (congrArg some (by kernel_rfl))
 f146:=Tryd.func31.trans (congrArg some (by kernel_rfl))
 f195:=Tryd.func97.trans (congrArg some (by kernel_rfl))
 f197:=Tryd.func98.trans (congrArg some (by kernel_rfl))
 f217:=Tryd.func104.trans (congrArg some (by kernel_rfl))
 f218:=Tryd.func99.trans (congrArg some (by kernel_rfl))
 f219:=Tryd.func100.trans (congrArg some (by kernel_rfl))
 f221:=Tryd.func65.trans (congrArg some (by kernel_rfl))
 f224:=Tryd.func106.trans (congrArg some (by kernel_rfl))
 f225:=Tryd.func105.trans (congrArg some (by kernel_rfl))
 f260:=Tryd.func103.trans (congrArg some (by kernel_rfl))
 f266:=Tryd.func112.trans (congrArg some (by kernel_rfl))
 f267:=Tryd.func107.trans (congrArg some (by kernel_rfl))
 f268:=Tryd.func86.trans (congrArg some (by kernel_rfl))
 f314:=Tryd.func113.trans (congrArg some (by kernel_rfl))
 t0:=Tryd.underlying0
 a0:=Tryd.isAgg0
 z0:=Tryd.sizeOf0
 v0:=Tryd.zeroValue0
 t3:=Tryd.underlying3
 a3:=Tryd.isAgg3
 z3:=Tryd.sizeOf3
 v3:=Tryd.zeroValue3
 t4:=Tryd.underlying4
 a4:=Tryd.isAgg4
 z4:=Tryd.sizeOf4
 v4:=Tryd.zeroValue4
 t5:=Tryd.underlying5
 a5:=Tryd.isAgg5
 z5:=Tryd.sizeOf5
 v5:=Tryd.zeroValue5
 t9:=Tryd.underlying9
 a9:=Tryd.isAgg9
 z9:=Tryd.sizeOf9
 v9:=Tryd.zeroValue9
 t21:=Tryd.underlying21
 a21:=Tryd.isAgg21
 z21:=Tryd.sizeOf21
 v21:=Tryd.zeroValue21
 t31:=Tryd.underlying66
 a31:=Tryd.isAgg66
 z31:=Tryd.sizeOf66
 v31:=Tryd.zeroValue66
 t46:=Tryd.underlying121
 a46:=Tryd.isAgg121
 z46:=Tryd.sizeOf121
 v46:=Tryd.zeroValue121
 t51:=Tryd.underlying132
 a51:=Tryd.isAgg132
 z51:=Tryd.sizeOf132
 v51:=Tryd.zeroValue132
 t105:=Tryd.underlying116
 a105:=Tryd.isAgg116
 z105:=Tryd.sizeOf116
 v105:=Tryd.zeroValue116
 t119:=Tryd.underlying128
 a119:=Tryd.isAgg128
 z119:=Tryd.sizeOf128
 t138:=Tryd.underlying130
 a138:=Tryd.isAgg130
 z138:=Tryd.sizeOf130
 v138:=Tryd.zeroValue130
 t139:=Tryd.underlying131
 a139:=Tryd.isAgg131
 z139:=Tryd.sizeOf131
 v139:=Tryd.zeroValue131
 t146:=Tryd.underlying133
 a146:=Tryd.isAgg133
 z146:=Tryd.sizeOf133
 v146:=Tryd.zeroValue133
 g1:=by kernel_rfl
 g3:=by kernel_rfl
 g4:=by kernel_rfl }
def Tryd.lays167_ren:Go.Shelf.Ren:=⟨fun | 167=>27 | 240=>60 | 276=>82 | n=>n,fun | 0=>0 | 4=>4 | 5=>5 | 9=>9 | 20=>20 | 37=>22 | 70=>50 | 72=>52 | 75=>60 | 164=>106 | 80=>64 | n=>n,fun | n=>n⟩
theorem Tryd.lays167:Go.Proofs.Lays.n167 Tryd.prog Tryd.lays167_ren:={
 mixed:=by kernel_rfl
 f167:=Tryd.func27.trans (congrArg some (by kernel_rfl))
 f240:=Tryd.func60.trans (congrArg some (by kernel_rfl))
 f276:=Tryd.func82.trans (congrArg some (by kernel_rfl))
 t0:=Tryd.underlying0
 a0:=Tryd.isAgg0
 z0:=Tryd.sizeOf0
 v0:=Tryd.zeroValue0
 t4:=Tryd.underlying4
 a4:=Tryd.isAgg4
 z4:=Tryd.sizeOf4
 v4:=Tryd.zeroValue4
 t5:=Tryd.underlying5
 a5:=Tryd.isAgg5
 z5:=Tryd.sizeOf5
 v5:=Tryd.zeroValue5
 t9:=Tryd.underlying9
 a9:=Tryd.isAgg9
 z9:=Tryd.sizeOf9
 v9:=Tryd.zeroValue9
 t20:=Tryd.underlying20
 a20:=Tryd.isAgg20
 z20:=Tryd.sizeOf20
 v20:=Tryd.zeroValue20
 t37:=Tryd.underlying22
 a37:=Tryd.isAgg22
 z37:=Tryd.sizeOf22
 v37:=Tryd.zeroValue22
 t70:=Tryd.underlying50
 a70:=Tryd.isAgg50
 z70:=Tryd.sizeOf50
 v70:=Tryd.zeroValue50
 t72:=Tryd.underlying52
 a72:=Tryd.isAgg52
 z72:=Tryd.sizeOf52
 v72:=Tryd.zeroValue52
 t75:=Tryd.underlying60
 a75:=Tryd.isAgg60
 z75:=Tryd.sizeOf60
 v75:=Tryd.zeroValue60
 t164:=Tryd.underlying106
 a164:=Tryd.isAgg106
 z164:=Tryd.sizeOf106
 v164:=Tryd.zeroValue106 }
theorem Tryd.Builder_Extra_167:Builder.Extra Tryd.prog Tryd.lays167_ren:={
 sizeBuilder:=by kernel_rfl
 liesBuilder:=by kernel_rfl
 t5:=Tryd.underlying5
 a5:=Tryd.isAgg5
 z5:=Tryd.sizeOf5
 v5:=Tryd.zeroValue5
 infoByte:=by kernel_rfl
 cellsByte:=by kernel_rfl
 sizeByte:=by kernel_rfl
 neB5:=by decide }
open Go.RowKit in
theorem Tryd.Builder_WriteByte_k (B b:Nat)(bs:List Value)(c:Int)(w:World)(h:Lib.IsBuilderF 52 5 B b bs w)(hlen:bs.length+1≤140737488355328)(hBw:B≤w.heap.size):
  Calls Tryd.prog 27 #[.pointer (some ⟨b,0,none⟩),.int .u8 c] w fun e w'=>e=.returned .nilIface∧(Lib.BuilderAtF 52 5 B b (.pointer (some ⟨b,0,none⟩)) (bs++[.int .u8 c]) w'∧Below B w w'∧Lib.OthersKept 5 (some b) w w'):=Any.Builder_WriteByte_k Tryd.lays167 Tryd.Builder_Extra_167 B b bs c w h hlen hBw
def Tryd.lays166_ren:Go.Shelf.Ren:=⟨fun | 166=>25 | 240=>60 | 276=>82 | n=>n,fun | 0=>0 | 3=>3 | 4=>4 | 9=>9 | 20=>20 | 37=>22 | 70=>50 | 72=>52 | 75=>60 | 164=>106 | 5=>5 | 80=>64 | n=>n,fun | n=>n⟩
theorem Tryd.lays166:Go.Proofs.Lays.n166 Tryd.prog Tryd.lays166_ren:={
 mixed:=by kernel_rfl
 f166:=Tryd.func25.trans (congrArg some (by kernel_rfl))
 f240:=Tryd.func60.trans (congrArg some (by kernel_rfl))
 f276:=Tryd.func82.trans (congrArg some (by kernel_rfl))
 t0:=Tryd.underlying0
 a0:=Tryd.isAgg0
 z0:=Tryd.sizeOf0
 v0:=Tryd.zeroValue0
 t3:=Tryd.underlying3
 a3:=Tryd.isAgg3
 z3:=Tryd.sizeOf3
 v3:=Tryd.zeroValue3
 t4:=Tryd.underlying4
 a4:=Tryd.isAgg4
 z4:=Tryd.sizeOf4
 v4:=Tryd.zeroValue4
 t9:=Tryd.underlying9
 a9:=Tryd.isAgg9
 z9:=Tryd.sizeOf9
 v9:=Tryd.zeroValue9
 t20:=Tryd.underlying20
 a20:=Tryd.isAgg20
 z20:=Tryd.sizeOf20
 v20:=Tryd.zeroValue20
 t37:=Tryd.underlying22
 a37:=Tryd.isAgg22
 z37:=Tryd.sizeOf22
 v37:=Tryd.zeroValue22
 t70:=Tryd.underlying50
 a70:=Tryd.isAgg50
 z70:=Tryd.sizeOf50
 v70:=Tryd.zeroValue50
 t72:=Tryd.underlying52
 a72:=Tryd.isAgg52
 z72:=Tryd.sizeOf52
 v72:=Tryd.zeroValue52
 t75:=Tryd.underlying60
 a75:=Tryd.isAgg60
 z75:=Tryd.sizeOf60
 v75:=Tryd.zeroValue60
 t164:=Tryd.underlying106
 a164:=Tryd.isAgg106
 z164:=Tryd.sizeOf106
 v164:=Tryd.zeroValue106 }
theorem Tryd.Builder_Extra_166:Builder.Extra Tryd.prog Tryd.lays166_ren:={
 sizeBuilder:=by kernel_rfl
 liesBuilder:=by kernel_rfl
 t5:=Tryd.underlying5
 a5:=Tryd.isAgg5
 z5:=Tryd.sizeOf5
 v5:=Tryd.zeroValue5
 infoByte:=by kernel_rfl
 cellsByte:=by kernel_rfl
 sizeByte:=by kernel_rfl
 neB5:=by decide }
open Go.RowKit in
theorem Tryd.Builder_WriteString_k (B b:Nat)(bs:List Value)(s:ByteArray)(w:World)(h:Lib.IsBuilderF 52 5 B b bs w)(hlen:bs.length+s.size≤140737488355328)(hBw:B≤w.heap.size):
  Calls Tryd.prog 25 #[.pointer (some ⟨b,0,none⟩),.string s] w fun e w'=>e=.returned (.tuple #[.int .i64 s.size,.nilIface])∧(Lib.BuilderAtF 52 5 B b (.pointer (some ⟨b,0,none⟩)) (bs++Lib.strCells s) w'∧Below B w w'∧Lib.OthersKept 5 (some b) w w'):=Any.Builder_WriteString_k Tryd.lays166 Tryd.Builder_Extra_166 B b bs s w h hlen hBw
end Go.Proofs
end
section
set_option linter.unusedVariables false
set_option linter.unusedSimpArgs false
namespace Go.Proofs.YtailkppkjhkjpaaDoor.X
open Go.RowKit Go.Shelf Go.Proofs.YtailkppkjhkjpaaDoorW.PrintWords Go.Proofs.YtailkppkjhkjpaaDoorW.PrintLast Go.Proofs.YtailkppkjhkjpaaDoorW.PrintMore
open Mort (ptOk)
open Txt (fig wrPt wrLoop)
def impl_pointText.f (x y:Int):Option ByteArray:=if ptOk (x,y) then some ⟨(wrPt (x,y)).toArray⟩ else none
def allPts (l:List S37):Bool:=l.all fun p=>ptOk (ptP p)
def textOf (l:List S37):ByteArray:=⟨(wrLoop (l.map ptP)).toArray⟩
def impl_pointsText.f (l:List S37):Option ByteArray:=if (decide (0<l.length) && decide (l.length≤1000)) && allPts l then some (textOf l) else none
theorem itoa_told {x:Int}(h0:0≤x)(h1:x≤9)(w:World):Calls Tryd.prog 83 #[.int .i64 x] w fun e w'=>e=.returned (.string ⟨#[fig x]⟩)∧Below w.heap.size w w':=by
 obtain⟨n,rfl⟩:∃ n:Nat,x=n:=⟨x.toNat,by omega⟩;refine (Tryd.strconv_Itoa_small n (by omega) w).mono ?_;rintro e w' ⟨rfl,rfl⟩;refine⟨?_,Below.refl _ _⟩;have:n<10:=by omega
 have e1:Go.Lib.decDigits n=[fig (n:Int)]:=Go.Lib.decDigits_one this;rw [e1]
set_option maxHeartbeats 4000000 in
set_option maxRecDepth 100000 in
theorem impl_pointText.calls (x y:Int)(r:ByteArray)(w:World)(h:impl_pointText.f x y=some r):
  Calls Tryd.prog 61 #[.agg #[.int .i64 x,.int .i64 y]] w fun e w'=>e=.returned (.string r)∧Below w.heap.size w w':=by
 have hu37:=Tryd.underlying37;unfold impl_pointText.f at h;by_cases hp:ptOk (x,y)=true
 ·
  rw [if_pos hp] at h;obtain rfl:=Option.some.inj h;have hq:=(Mort.ptOk_iff _).1 hp;simp only at hq;have HQ:=Aside0.mk hq;have n1:=blk_new w (.cells #[.int .i64 x,.int .i64 y] 37 (0,0));have hal:=below_alloc (Below.refl w.heap.size w) (.cells #[.int .i64 x,.int .i64 y] 37);have HN:=a0_ (And.intro n1 hal);clear h hp hq n1 hal;go_enter Tryd.func61,Tryd.ntmps61;go_wp2;have n1:=HN.out.1;have hbw:=HN.out.2;clear HN;generalize w.alloc (.cells #[.int .i64 x,.int .i64 y] 37)=W at *;obtain⟨g,hg⟩:∃ g,w.heap.size=g:=⟨_,rfl⟩;have HB:=Aside0.mk hbw;clear hbw;rw [hg] at n1 ⊢
  have KS:∀ w',Below W.heap.size W w'→(fun w'=>w'.cell? ⟨g,0,none⟩=some (.int .i64 x)∧w'.cell? ⟨g,1,none⟩=some (.int .i64 y)) w':=fun w' hb=>⟨(blk_cell (blk_later n1 hb) 0).trans rfl,(blk_cell (blk_later n1 hb) 1).trans rfl⟩
  have hb:Below W.heap.size W W.drew:=below_drew1 (Below.refl _ _);refine start_ (n:=9) (S:=fun w'=>w'.cell? ⟨g,0,none⟩=some (.int .i64 x)∧w'.cell? ⟨g,1,none⟩=some (.int .i64 y)) (ds:=[]) (qm 9 0) (by kernel_rfl) rfl rfl (KS _ hb) (fun hH=>?_);generalize W.drew=w0 at *;refine qp 0 3 (qm 9 1) ?_;refine qt2 1 4 (qm 9 3) hH ?_;refine qp 4 7 (qm 9 19) ?_;refine qt2 5 8 (qm 9 51) hH ?_;refine qc 2 5 (qm 9 55) Tryd.func83 (itoa_told HQ.out.1 HQ.out.2.1 _) (fun _ h=>KS _ (below_step hb h)) ?_;clear hH;intro wA h_ hH;replace hb:=below_step hb h_;clear h_;refine qp 3 6 (qm 9 63) ?_;refine qc 6 9 (qm 9 127) Tryd.func83 (itoa_told HQ.out.2.2.1 HQ.out.2.2.2 _) (fun _ h=>KS _ (below_step hb h)) ?_;clear hH;intro wB h_ hH;replace hb:=below_step hb h_;clear h_;refine qp 7 10 (qm 9 255) ?_;refine qp 8 2 (qm 9 511) ?_;refine done_ (by kernel_rfl) ?_;go_wp2;go_ret;exact⟨rfl,hg▸below_step HB.out hb⟩
 ·
  rw [if_neg hp] at h;cases h
def ptT (p:S37):ByteArray:=⟨(wrPt (ptP p)).toArray⟩
theorem pointText_f {p:S37}(h:ptOk (ptP p)=true):impl_pointText.f p.f0 p.f1=some (ptT p):=if_pos h
def ptTs (l:List S37):List ByteArray:=l.map ptT
theorem join_ptTs (l:List S37):Go.Lib.join ((ptTs l).map (·.data.toList)) [32]=wrLoop (l.map ptP):=by
 unfold ptTs wrLoop;rw [List.map_map,List.map_map];rfl
theorem info_string:(Tryd.prog.info? 9).map (fun i=>(i.zero,i.size,i.bytes))=some (some (.string ⟨#[]⟩),1,16):=by kernel_rfl
theorem made0 (n:Nat)(hn:n≤1000)(w:World):(Instr.makeSlice 66 (.int .i64 0) (.int .i64 (n:Int))).run Tryd.prog w=.ok (.slice (some ⟨w.heap.size,0,none⟩) 0 n) (w.alloc (.cells (madeCells #[.string ⟨#[]⟩] n) 9)):=by
 have h:=info_string
 cases hi:Tryd.prog.info? 9 with
 | none=>rw [hi] at h;cases h
 | some i =>
  rw [hi] at h;simp only [Option.map_some,Option.some.injEq,Prod.mk.injEq] at h;obtain⟨h1,h2,h3⟩:=h;have:=run_make (P:=Tryd.prog) w 66 9 i (.string ⟨#[]⟩) Tryd.underlying66 hi h1 .i64 .i64 0 (n:Int) (Int.le_refl _) (by omega) (by rw [h3];omega) (by omega);rw [h2,Nat.mul_one] at this;simp only [Int.toNat_zero,Int.toNat_natCast] at this;exact this
theorem R_made (n:Nat)(hn:n≤1000)(w:World):Kd.R Kd.string 9 (w.alloc (.cells (madeCells #[.string ⟨#[]⟩] n) 9)) w.heap.size (fun _=>True) (.slice (some ⟨w.heap.size,0,none⟩) 0 n) []:=
 ⟨fun _ _=>trivial,[],World.ownsRow_made w _ n (Nat.le_refl _) (by unfold maxLen;omega) (by rw [size_madeCells];exact (Nat.mul_one n).symm),Reps.none _ _⟩
theorem join_told {w:World}{g n c:Nat}(xs:List ByteArray)(hcells:∀ (j:Nat) x,xs[j]?=some x→w.cell? ⟨g,0+j,none⟩=some (.string x))(hg:g<w.heap.size)(hn:n≤1000)(hc:xs.length≤c)(hl:(Go.Lib.join (xs.map (·.data.toList)) [32]).length≤140737488355328)(e:xs.length=n):
  Calls Tryd.prog 62 #[.slice (some ⟨g,0,none⟩) n c,.string ⟨#[32]⟩] w fun e w'=>e=.returned (.string ⟨(Go.Lib.join (xs.map (·.data.toList)) [32]).toArray⟩)∧Below w.heap.size w w':=by
 subst e;exact Tryd.strings_Join g 0 c xs ⟨#[32]⟩ w hcells hg (by omega) hc hl
set_option maxHeartbeats 4000000 in
set_option maxRecDepth 100000 in
theorem impl_pointsText.calls (A0:Option Addr)(c0:Nat)(l:List S37)(r:ByteArray)(w:World)(hr0:Kd.C k37 w A0 l.length l)(hc0:l.length≤c0)(h:impl_pointsText.f l=some r):
  Calls Tryd.prog 26 #[.slice A0 l.length c0] w fun e w'=>e=.returned (.string r)∧Below w.heap.size w w':=by
 have hu37:=Tryd.underlying37;unfold impl_pointsText.f at h;by_cases hp:((decide (0<l.length) && decide (l.length≤1000)) && allPts l)=true
 ·
  rw [if_pos hp] at h;obtain rfl:=Option.some.inj h;simp only [Bool.and_eq_true,decide_eq_true_eq] at hp;obtain⟨⟨h0,h1⟩,h2⟩:=hp;have hmk:=made0 l.length h1;obtain⟨gb,hgb⟩:∃ gb,w.heap.size=gb:=⟨_,rfl⟩;have hR:Kd.R Kd.string 9 (w.alloc (.cells (madeCells #[.string ⟨#[]⟩] l.length) 9)) gb (fun _=>True) (.slice (some ⟨gb,0,none⟩) 0 l.length) (ptTs []):=hgb▸R_made l.length h1 w;have hB:Below gb w (w.alloc (.cells (madeCells #[.string ⟨#[]⟩] l.length) 9)):=hgb▸below_alloc (Below.refl _ w) _;have HK:=a0_ (And.intro hr0 (And.intro hc0 (And.intro h0 (And.intro h1 h2))));have HB:=a0_ (And.intro hgb (And.intro hR hB));clear h hr0 hc0 h0 h1 h2 hR hB;go_enter Tryd.func26,Tryd.ntmps26;go_wp2;clear hmk hgb;generalize w.alloc (.cells (madeCells #[.string ⟨#[]⟩] l.length) 9)=W at *;go_loopg [3,11] l.length (fun kq v3 v11 wr=>∃ (i:Nat),v11=.int .i64 (i:Int)∧Aside0 (kq=l.length-i∧i≤l.length∧Below gb w wr∧Kd.R Kd.string 9 wr gb (fun _=>True) v3 (ptTs (l.take i))))
  case atStart=>exact⟨0,rfl,⟨rfl,Nat.zero_le _,HB.out.2.2,HB.out.2.1⟩⟩
  case round =>
   obtain⟨i,rfl,HR⟩:=hrel;have hi:=HR.out.2.1;have hsz:gb≤wr.heap.size:=by have:=HR.out.2.2.1.size;have:=HB.out.1;omega
   by_cases hlt:i<l.length
   ·
    have hd:decide ((i:Int)<(l.length:Int))=true:=decide_eq_true (by omega);have hd2:(i:Int)<(l.length:Int):=by omega
    have hC:=Kd.C_below HK.out.1 (HB.out.1.symm▸HR.out.2.2.1:Below w.heap.size w wr);obtain⟨ad,hA,z0,z1⟩:=at_T37 hC (i:Int) (by omega) (by omega);rw [Int.toNat_natCast] at z0 z1;have hli:l.take (i+1)=l.take i++[rd_T37 l (i:Int)]:=by
     rw [List.take_succ_eq_append_getElem hlt]
     congr 2
     show _=l.getD (i:Int).toNat _
     rw [Int.toNat_natCast,List.getD_eq_getElem?_getD,List.getElem?_eq_getElem hlt];rfl
    have hpk:ptOk (ptP (rd_T37 l (i:Int)))=true:=by
     refine List.all_eq_true.1 HK.out.2.2.2.2 _ ?_;have:rd_T37 l (i:Int)∈l.take (i+1):=by rw [hli];simp
     exact List.mem_of_mem_take this
    obtain⟨p,hp⟩:∃ p,rd_T37 l (i:Int)=p:=⟨_,rfl⟩;rw [hp] at z0 z1 hli hpk;have HO:=a0_ (And.intro hli hpk);subst hA;obtain⟨h1,_,h3,h4⟩:=HR.out;have hal:=below_alloc (Below.refl wr.heap.size wr) (.cells #[.int .i64 p.f0,.int .i64 p.f1] 37);have n1:=blk_new wr (.cells #[.int .i64 p.f0,.int .i64 p.f1] 37 (0,0));have HL:=a0_ (And.intro (Kd.R_below h4 hal) (And.intro (h3.trans (hal.mono hsz)) (And.intro h1 (And.intro hlt (And.intro (Nat.le_trans hsz hal.size) (show ((ptTs (l.take i)).length+1)*16≤140737488355328 by unfold ptTs;rw [List.length_map,List.length_take];have:=HK.out.2.2.2.1;omega))))));clear h1 h3 h4 hli hpk hp hC HR hlt hal
    go_wp2_with (first
     | (go_at_call 61;(with_reducible refine (impl_pointText.calls p.f0 p.f1 (ptT p) _ (pointText_f HO.out.2)).mono ?_);rintro e w1 ⟨rfl,hb1⟩;have H1:=a0_ (And.intro (Kd.R_below HL.out.1 hb1) (And.intro (HL.out.2.1.trans (hb1.mono HL.out.2.2.2.2.1)) (Nat.le_trans HL.out.2.2.2.2.1 hb1.size)));clear hb1)
     | ((with_reducible refine gate_builtin (b:=.append) (xs:=#[.tmp 15,.tmp 18]) rfl ?_);at_builtin;refine Kd.R_append Kd.string (w0:=w) gb rfl (.tmp 15) (.tmp 18) 66 9 (.string ⟨#[]⟩) 16 rfl Tryd.underlying66 info_string rfl (by decide) (by omega) u3 (ptTs (l.take i)) (ptT p) [.string (ptT p)] (fun _=>True) (fun _=>False) rfl rfl rfl (fun _ hk=>hk.elim) (fun _ _=>trivial) H1.out.1 H1.out.2.1 H1.out.2.2 HL.out.2.2.2.2.2 ?_;intro v2 w2 ho2 hb2 _ _;have H2:=a0_ (And.intro ho2 hb2);clear ho2 hb2))
    obtain⟨_,_,g3,g4,_,_⟩:=HL.out;have hle:i+1≤l.length:=g4;have hw:wrap64 ((i:Int)+1)=(i:Int)+1:=by have:=HK.out.2.2.2.1;unfold wrap64;omega
    have e2:ptTs (l.take i)++[ptT p]=ptTs (l.take (i+1)):=by rw [HO.out.1];unfold ptTs;rw [List.map_append];rfl
    obtain⟨o2,b2⟩:=H2.out;rw [e2] at o2;go_roundg (l.length-(i+1))
    case measure=>omega
    case rel=>exact⟨i+1,by rw [hw];rfl,⟨rfl,hle,b2,o2⟩⟩
   ·
    obtain rfl:i=l.length:=by omega
    have hd:decide ((l.length:Int)<(l.length:Int))=false:=decide_eq_false (by omega);obtain⟨_,_,h3,h4⟩:=HR.out;rw [List.take_length] at h4;have hln:(ptTs l).length=l.length:=by unfold ptTs;rw [List.length_map]
    obtain⟨g,cap,hv,_,hlt2,_⟩:=Kd.R_form h4 (by rw [hln];exact HK.out.2.2.1);rw [hln] at hv;subst hv;obtain⟨_,hcap,hC⟩:=Kd.R_reads' h4;have hcells:∀ (j:Nat) x,(ptTs l)[j]?=some x→wr.cell? ⟨g,0+j,none⟩=some (.string x):=by
     obtain⟨ad,ha,hc⟩:=(Kd.reads_of_C (d:=(⟨#[]⟩:ByteArray)) hC).2.2 (by rw [hln];exact HK.out.2.2.1);injection ha with ha;subst ha;intro j x hj;have hj2:j<(ptTs l).length:=(List.getElem?_eq_some_iff.1 hj).1;have:=hc j hj2;rw [List.getD_eq_getElem?_getD,hj] at this;rw [add_at] at this;exact this
    have hjl:(Go.Lib.join ((ptTs l).map (·.data.toList)) [32]).length≤140737488355328:=by
     rw [join_ptTs]
     cases hl:l with
     | nil=>have:=HK.out.2.2.1;rw [hl] at this;simp at this
     | cons p ps =>
      rw [List.map_cons,Txt.loop_len,List.length_map];have:=HK.out.2.2.2.1;rw [hl,List.length_cons] at this;omega
    have HJ:=a0_ (And.intro hcells (And.intro hlt2 (And.intro hcap (And.intro hjl (And.intro h3 hln)))));clear hcells hlt2 hcap hjl h3 h4 hC hlt hi HR hln;go_wp2_with (go_at_call 62;(with_reducible refine (join_told (ptTs l) HJ.out.1 HJ.out.2.1 (by first | exact HK.out.2.2.2.1 | (rw [HJ.out.2.2.2.2.2];exact HK.out.2.2.2.1)) (by rw [HJ.out.2.2.2.2.2];exact HJ.out.2.2.1) HJ.out.2.2.2.1 (by first | exact HJ.out.2.2.2.2.2 | rfl)).mono ?_);rintro e w3 ⟨rfl,hb3⟩;have H3:=Aside0.mk hb3;clear hb3);go_ret;refine⟨?_,HB.out.1▸(HJ.out.2.2.2.2.1.trans (H3.out.mono (by have:=HJ.out.2.2.2.2.1.size;have:=HB.out.1;omega)))⟩;rw [join_ptTs];rfl
 ·
  rw [if_neg hp] at h;cases h
end Go.Proofs.YtailkppkjhkjpaaDoor.X
end
section
namespace Go.Proofs.YtailkppkjhkjpaaDoor.X
open Go.RowKit Go.Proofs.YtailkppkjhkjpaaDoorW.PrintWords Go.Proofs.YtailkppkjhkjpaaDoorW.PrintLast Go.Proofs.YtailkppkjhkjpaaDoorW.PrintMore
attribute [local go_sem] max2_int min2_int max_two min_two max_three min_three max_four min_four
set_option linter.unusedVariables false
set_option linter.unusedSimpArgs false
def impl_LoopText.f (l0:List (S37)):Option (ByteArray):=(impl_LoopOk.f l0).bind fun t454=>(if t454=true then ((impl_pointsText.f l0).bind fun t455=>(some t455)) else (some (⟨#[]⟩:ByteArray)))
set_option maxHeartbeats 8000000 in
set_option maxRecDepth 100000 in
theorem impl_LoopText.calls (A0:Option Addr)(c0:Nat)(l0:List (S37))(r:ByteArray)(w:World)(hr0:Kd.C k37 w A0 l0.length l0)(hc0:l0.length≤c0)(h:impl_LoopText.f l0=some r):
  Calls Tryd.prog 10 #[.slice A0 l0.length c0] w fun e w'=>e=.returned (.string r)∧Below w.heap.size w w':=by
 have HR0:=Aside0.mk hr0;have HC0:=Aside0.mk hc0;clear hr0 hc0;have HB:=a0_ (Below.refl w.heap.size w);have H:((impl_LoopOk.f l0).bind fun t454=>(if t454=true then ((impl_pointsText.f l0).bind fun t455=>(some t455)) else (some (⟨#[]⟩:ByteArray))))=some r:=h;clear h;replace H:=Option.bind_eq_some_iff.mp H;obtain⟨t454,A20,H⟩:=H
 (try dsimp only at H)
 have A2:=Aside0.mk A20;clear A20;by_cases c3:t454=true
 ·
  subst c3;rw [if_pos rfl] at H
  (try dsimp only at H)
  replace H:=Option.bind_eq_some_iff.mp H;obtain⟨t455,A40,H⟩:=H
  (try dsimp only at H)
  have A4:=Aside0.mk A40;clear A40;obtain rfl:=Option.some.inj H;go_enter Tryd.func10,Tryd.ntmps10;go_wp2_with (first | ((with_reducible refine gate_callee (f:=35) rfl ?_);refine gL_ (some 4) Tryd.func35 #[.slice A0 l0.length c0] (h:=?_);(with_reducible refine (impl_LoopOk.calls _ _ l0 true _ ?side1 ?side2 A2.out).mono ?_);(case side1=>repeat (first | exact HR0.out | (with_reducible refine Kd.C_alloc ?_ _) | (with_reducible refine Kd.C_drewN ?_ _) | (with_reducible refine Kd.C_drew ?_)));(case side2=>exact HC0.out);rintro e w5 ⟨rfl,hb⟩;refine⟨_,rfl,?_⟩;replace HB:=sb_ HB hb;(try clear hb)) | ((with_reducible refine gate_callee (f:=26) rfl ?_);refine gL_ (some 7) Tryd.func26 #[.slice A0 l0.length c0] (h:=?_);(with_reducible refine (impl_pointsText.calls _ _ l0 t455 _ ?side1 ?side2 A4.out).mono ?_);(case side1=>repeat (first | exact (Kd.C_below HR0.out HB.out) | (with_reducible refine Kd.C_alloc ?_ _) | (with_reducible refine Kd.C_drewN ?_ _) | (with_reducible refine Kd.C_drew ?_)));(case side2=>exact HC0.out);rintro e w6 ⟨rfl,hb⟩;refine⟨_,rfl,?_⟩;replace HB:=sb_ HB hb;(try clear hb)));go_ret;exact⟨rr_,hB_⟩
 ·
  replace c3:=Bool.eq_false_iff.mpr c3;subst c3;rw [if_neg (show ¬ (false=true) by decide)] at H
  (try dsimp only at H)
  obtain rfl:=Option.some.inj H;go_enter Tryd.func10,Tryd.ntmps10;go_wp2_with (first | ((with_reducible refine gate_callee (f:=35) rfl ?_);refine gL_ (some 4) Tryd.func35 #[.slice A0 l0.length c0] (h:=?_);(with_reducible refine (impl_LoopOk.calls _ _ l0 false _ ?side1 ?side2 A2.out).mono ?_);(case side1=>repeat (first | exact HR0.out | (with_reducible refine Kd.C_alloc ?_ _) | (with_reducible refine Kd.C_drewN ?_ _) | (with_reducible refine Kd.C_drew ?_)));(case side2=>exact HC0.out);rintro e w7 ⟨rfl,hb⟩;refine⟨_,rfl,?_⟩;replace HB:=sb_ HB hb;(try clear hb)));go_ret;exact⟨rr_,hB_⟩
def stringslite_HasSuffix.f (a0:ByteArray)(a1:ByteArray):Option (Bool):=if (a0.size:Int)≥(a1.size:Int) then (if 0≤(wrap64 ((a0.size:Int)-(a1.size:Int))) then (if (wrap64 ((a0.size:Int)-(a1.size:Int)))≤(a0.size:Int) then (some ((a0.extract ((wrap64 ((a0.size:Int)-(a1.size:Int))):Int).toNat a0.size).toList==a1.toList)) else (none)) else (none)) else (some false)
set_option maxHeartbeats 8000000 in
set_option maxRecDepth 100000 in
theorem stringslite_HasSuffix.calls (a0:ByteArray)(a1:ByteArray)(r:Bool)(w:World)(h:stringslite_HasSuffix.f a0 a1=some r):
  Calls Tryd.prog 64 #[.string a0,.string a1] w fun e w'=>e=.returned (.bool r)∧Drawn0 w w':=by
 have H:(if (a0.size:Int)≥(a1.size:Int) then (if 0≤(wrap64 ((a0.size:Int)-(a1.size:Int))) then (if (wrap64 ((a0.size:Int)-(a1.size:Int)))≤(a0.size:Int) then (some ((a0.extract ((wrap64 ((a0.size:Int)-(a1.size:Int))):Int).toNat a0.size).toList==a1.toList)) else (none)) else (none)) else (some false))=some r:=h;clear h;by_cases c3:(a0.size:Int)≥(a1.size:Int)
 ·
  rw [if_pos c3] at H;have c3b0:decide ((a1.size:Int)≤(a0.size:Int))=true:=decide_eq_true c3;have c3b1:decide (a1.size≤a0.size)=true:=decide_eq_true (Int.ofNat_le.mp c3);clear c3;obtain⟨ji4,hji4⟩:∃ j_:Int,(wrap64 ((a0.size:Int)-(a1.size:Int)))=j_:=⟨_,rfl⟩;replace H:(if 0≤(ji4) then (if (ji4)≤(a0.size:Int) then (some ((a0.extract ((ji4):Int).toNat a0.size).toList==a1.toList)) else (none)) else (none))=some r:=by first | (rw [hji4] at H;exact H) | (simp only [hji4] at H ⊢;exact H)
  have hji4w:(IntKind.i64.wrap ((a0.size:Int)-(a1.size:Int)))=ji4:=(i64_w _).trans hji4;by_cases c5:0≤(ji4)
  ·
   rw [if_pos c5] at H;have c5b0:=eq_true c5;have c5b1:decide (0≤(ji4))=true:=decide_eq_true c5;clear c5;by_cases c6:(ji4)≤(a0.size:Int)
   ·
    rw [if_pos c6] at H;have c6b0:=eq_true c6;have c6b1:decide ((ji4)≤(a0.size:Int))=true:=decide_eq_true c6;clear c6;obtain rfl:=Option.some.inj H;go_enter Tryd.func64,Tryd.ntmps64;go_wp2;go_ret;exact⟨by first | rfl | (simp;done) | (simp only [← hji4] <;> (first | rfl | simp)) | (simp [*];done),by repeat (first | exact Drawn0.refl _ | apply Drawn0.step)⟩
   ·
    rw [if_neg c6] at H;exact absurd H (by simp)
  ·
   rw [if_neg c5] at H;exact absurd H (by simp)
 ·
  rw [if_neg c3] at H;have c3b0:decide ((a1.size:Int)≤(a0.size:Int))=false:=decide_eq_false c3;have c3b1:decide (a1.size≤a0.size)=false:=decide_eq_false (fun h=>c3 (Int.ofNat_le.mpr h));clear c3;obtain rfl:=Option.some.inj H;go_enter Tryd.func64,Tryd.ntmps64;go_wp2;go_ret;exact⟨by first | rfl | (simp;done) | (simp [*];done),by repeat (first | exact Drawn0.refl _ | apply Drawn0.step)⟩
def strings_HasSuffix.f (a0:ByteArray)(a1:ByteArray):Option (Bool):=(stringslite_HasSuffix.f a0 a1).bind fun t428=>(some t428)
set_option maxHeartbeats 8000000 in
set_option maxRecDepth 100000 in
theorem strings_HasSuffix.calls (a0:ByteArray)(a1:ByteArray)(r:Bool)(w:World)(h:strings_HasSuffix.f a0 a1=some r):
  Calls Tryd.prog 30 #[.string a0,.string a1] w fun e w'=>e=.returned (.bool r)∧Drawn0 w w':=by
 have H:((stringslite_HasSuffix.f a0 a1).bind fun t428=>(some t428))=some r:=h;clear h;replace H:=Option.bind_eq_some_iff.mp H;obtain⟨t428,A30,H⟩:=H
 (try dsimp only at H)
 have A3:=Aside0.mk A30;clear A30;obtain rfl:=Option.some.inj H;go_enter Tryd.func30,Tryd.ntmps30;go_wp2_with (first | ((with_reducible refine gate_callee (f:=64) rfl ?_);refine gL_ (some 7) Tryd.func64 #[.string a0,.string a1] (h:=?_);(with_reducible refine (stringslite_HasSuffix.calls a0 a1 t428 _ A3.out).mono ?_);rintro e w' ⟨rfl,⟨nd,rfl⟩⟩;refine⟨_,rfl,?_⟩));go_ret;exact⟨by first | rfl | (simp;done) | (simp [*];done),by repeat (first | exact Drawn0.refl _ | apply Drawn0.step)⟩
def stringslite_TrimSuffix.f (a0:ByteArray)(a1:ByteArray):Option (ByteArray):=(stringslite_HasSuffix.f a0 a1).bind fun t431=>(if t431=true then (if 0≤(wrap64 ((a0.size:Int)-(a1.size:Int))) then (if (wrap64 ((a0.size:Int)-(a1.size:Int)))≤(a0.size:Int) then (some (a0.extract 0 ((wrap64 ((a0.size:Int)-(a1.size:Int))):Int).toNat)) else (none)) else (none)) else (some a0))
set_option maxHeartbeats 8000000 in
set_option maxRecDepth 100000 in
theorem stringslite_TrimSuffix.calls (a0:ByteArray)(a1:ByteArray)(r:ByteArray)(w:World)(h:stringslite_TrimSuffix.f a0 a1=some r):
  Calls Tryd.prog 66 #[.string a0,.string a1] w fun e w'=>e=.returned (.string r)∧Drawn0 w w':=by
 have H:((stringslite_HasSuffix.f a0 a1).bind fun t431=>(if t431=true then (if 0≤(wrap64 ((a0.size:Int)-(a1.size:Int))) then (if (wrap64 ((a0.size:Int)-(a1.size:Int)))≤(a0.size:Int) then (some (a0.extract 0 ((wrap64 ((a0.size:Int)-(a1.size:Int))):Int).toNat)) else (none)) else (none)) else (some a0)))=some r:=h;clear h;replace H:=Option.bind_eq_some_iff.mp H;obtain⟨t431,A30,H⟩:=H
 (try dsimp only at H)
 have A3:=Aside0.mk A30;clear A30;by_cases c4:t431=true
 ·
  subst c4;rw [if_pos rfl] at H
  (try dsimp only at H)
  obtain⟨ji5,hji5⟩:∃ j_:Int,(wrap64 ((a0.size:Int)-(a1.size:Int)))=j_:=⟨_,rfl⟩;replace H:(if 0≤(ji5) then (if (ji5)≤(a0.size:Int) then (some (a0.extract 0 ((ji5):Int).toNat)) else (none)) else (none))=some r:=by first | (rw [hji5] at H;exact H) | (simp only [hji5] at H ⊢;exact H)
  (try rw [hji5] at A3)
  have hji5w:(IntKind.i64.wrap ((a0.size:Int)-(a1.size:Int)))=ji5:=(i64_w _).trans hji5;by_cases c6:0≤(ji5)
  ·
   rw [if_pos c6] at H;have c6b0:=eq_true c6;have c6b1:decide (0≤(ji5))=true:=decide_eq_true c6;clear c6;by_cases c7:(ji5)≤(a0.size:Int)
   ·
    rw [if_pos c7] at H;have c7b0:=eq_true c7;have c7b1:decide ((ji5)≤(a0.size:Int))=true:=decide_eq_true c7;clear c7;obtain rfl:=Option.some.inj H;go_enter Tryd.func66,Tryd.ntmps66;go_wp2_with (first | ((with_reducible refine gate_callee (f:=64) rfl ?_);refine gL_ (some 7) Tryd.func64 #[.string a0,.string a1] (h:=?_);(with_reducible refine (stringslite_HasSuffix.calls a0 a1 true _ A3.out).mono ?_);rintro e w' ⟨rfl,⟨nd,rfl⟩⟩;refine⟨_,rfl,?_⟩));go_ret;exact⟨by first | rfl | (simp;done) | (simp only [← hji5] <;> (first | rfl | simp)) | (simp [*];done),by repeat (first | exact Drawn0.refl _ | apply Drawn0.step)⟩
   ·
    rw [if_neg c7] at H;exact absurd H (by simp)
  ·
   rw [if_neg c6] at H;exact absurd H (by simp)
 ·
  replace c4:=Bool.eq_false_iff.mpr c4;subst c4;rw [if_neg (show ¬ (false=true) by decide)] at H
  (try dsimp only at H)
  obtain rfl:=Option.some.inj H;go_enter Tryd.func66,Tryd.ntmps66;go_wp2_with (first | ((with_reducible refine gate_callee (f:=64) rfl ?_);refine gL_ (some 7) Tryd.func64 #[.string a0,.string a1] (h:=?_);(with_reducible refine (stringslite_HasSuffix.calls a0 a1 false _ A3.out).mono ?_);rintro e w' ⟨rfl,⟨nd,rfl⟩⟩;refine⟨_,rfl,?_⟩));go_ret;exact⟨by first | rfl | (simp;done) | (simp [*];done),by repeat (first | exact Drawn0.refl _ | apply Drawn0.step)⟩
def strings_TrimSuffix.f (a0:ByteArray)(a1:ByteArray):Option (ByteArray):=(stringslite_TrimSuffix.f a0 a1).bind fun t432=>(some t432)
set_option maxHeartbeats 8000000 in
set_option maxRecDepth 100000 in
theorem strings_TrimSuffix.calls (a0:ByteArray)(a1:ByteArray)(r:ByteArray)(w:World)(h:strings_TrimSuffix.f a0 a1=some r):
  Calls Tryd.prog 32 #[.string a0,.string a1] w fun e w'=>e=.returned (.string r)∧Drawn0 w w':=by
 have H:((stringslite_TrimSuffix.f a0 a1).bind fun t432=>(some t432))=some r:=h;clear h;replace H:=Option.bind_eq_some_iff.mp H;obtain⟨t432,A30,H⟩:=H
 (try dsimp only at H)
 have A3:=Aside0.mk A30;clear A30;obtain rfl:=Option.some.inj H;go_enter Tryd.func32,Tryd.ntmps32;go_wp2_with (first | ((with_reducible refine gate_callee (f:=66) rfl ?_);refine gL_ (some 7) Tryd.func66 #[.string a0,.string a1] (h:=?_);(with_reducible refine (stringslite_TrimSuffix.calls a0 a1 t432 _ A3.out).mono ?_);rintro e w' ⟨rfl,⟨nd,rfl⟩⟩;refine⟨_,rfl,?_⟩));go_ret;exact⟨by first | rfl | (simp;done) | (simp [*];done),by repeat (first | exact Drawn0.refl _ | apply Drawn0.step)⟩
end Go.Proofs.YtailkppkjhkjpaaDoor.X
end
