/- FnExactPlateNear: the law returns true for every input, and each input reads behind the call as before; part 2 of 5. No condition. Merged by program out of: Squeeze, Is, Err, Laid, K, HEdges, Geo, FImplCommonDivisor, HFrac, FSpecL1Gcd, State, EvFrac, FSpecL2Cross, EvSeg, FImplJoined, HLoop, Cross, EvEdges. -/
import Derived.Test.YtkefmnmoaomlhaaDoorMFnExactPlateNear1
import Derived.WalkKit
import Derived.LaidEql
import Derived.Stop.Asserts
import Derived.RowKitTokens
import Derived.Test.YtkefmnmoaomlhaaDoorChecked
import Derived.ChangeSame
import Derived.ChangeVars
import Derived.JoinedOf
import Derived.RowKit
import Derived.LaidLaws
import Derived.Stop.ErrReads
import Derived.Stop.LaidErr
import Derived.WalkSmall
import Derived.Test.YtkefmnmoaomlhaaDoorRows
import Derived.Test.YtkefmnmoaomlhaaDoorCards
import Derived.Test.YtkefmnmoaomlhaaDoorTie
import Derived.Below
import Derived.Deep.Draws
import Derived.Deep.AppendLies
import Derived.Maps.AppendAt
import Derived.OwnWalk
import Derived.Laws.BytesArg
import Derived.Laws.MakeOwn
import Derived.Laws.OwnMore
import Derived.Deep.OwnRows
import Derived.Tactics
import Derived.Lib.ConvBytes
import Derived.Laws.Slices
import Derived.KernelRfl
import Derived.RowKit3
import Derived.Deep.LoopGhost
import Derived.Deep.QuietTactic
import Derived.BigQuiet
import Derived.WideLaws
import Derived.Deep.DeepCutAuto
import Derived.Deep.CutBlock
import Derived.Deep.RegionHeld3
import Derived.Laws.Rows
import Derived.Lib.AppendStr
import Derived.ArgAppend
import Derived.Laws.IdiomCopy
import Derived.OrdersHeld
import Derived.Laws.BitsLemmas
import Derived.Test.YtkefmnmoaomlhaaDoorProg
import Derived.RangeFuncNested
import Derived.RangeFuncBound
import Derived.RangeFuncLeaves
import Derived.Shelf.Abstract
import Derived.OwnWalkIn
import Derived.TacticsInMore
import Derived.LoopNIn
import Derived.LoopIn
import Derived.BigRegionIn
import Derived.Stop.RegionWithIn
import Derived.IntWalk
import Derived.RegionTactic
import Derived.ChangeAlike
import Derived.Outline
import Derived.Deep.RegionWith
import Derived.WalkLawsBesides
import Derived.Laws.Bits64
import Derived.LaidEqlPtr
import Derived.BigRegion
import Derived.BigGuard
import Derived.Deep.Cut
import Derived.Deep.SlicePairs
import Derived.OpenShut
import Derived.ShutString
import Derived.ChangeOld
import Derived.Lib.SmallJoins
import Derived.SizedLaws
import Derived.ChangeSlices
import Derived.ProofKit
import Derived.SevenTiedAt
set_option linter.all false
section
set_option linter.unusedVariables false
namespace Go.Proofs.YtkefmnmoaomlhaaDoor.X
open Go.RowKit Go.Proofs.YtkefmnmoaomlhaaDoorW.PrintWords Go.Proofs.YtkefmnmoaomlhaaDoorW.PrintLast Go.Proofs.YtkefmnmoaomlhaaDoorW.PrintMore
theorem uq_ {P:Prop}(h:P:=by (with_reducible repeat (first | refine blk_drewN ?_ _ | refine blk_drew ?_ | refine blk_alloc ?_ _));refine Aside0.out ?_;assumption):P:=h
theorem hB_ {P:Prop}(h:P:=by repeat (first | (with_reducible first | exact HB.out | apply below_alloc | apply pw_below_drewN | apply below_drew1 | refine below_set ?_ (Aside0.out (by assumption))) | exact HB.out)):P:=h
theorem ma_ {P:Prop}(h:P:=by (try simp only [List.map_toArray,List.map_cons,List.map_nil]);first | done | rfl | (simp only [List.length_drop,List.length_take];rfl)):P:=h
theorem bc_ {w:World}{g i:Nat}{t:TypeId}{cs:Array Value}{v:Value}(h:w.heap[g]?=some (.cells cs t (0,0)):=by refine Aside0.out ?_;assumption)(e:cs[i]?=some v:=by rfl):w.cell? ⟨g,i,none⟩=some v:=(blk_cell h i).trans e
def bmL:Nat→Nat→List Bool
  | 0,_=>[]
  | n+1,m=>(m % 2==1)::bmL n (m / 2)
def bm (n m:Nat):Array Bool:=⟨bmL n m⟩
theorem pu_ {P:Program}{ops:Array Oper}{Q:Exit→Act→World→Prop}{md:Region.Mode}{S:World→Prop}{ds:List Nat}{T:Bool × List (List Nat × List Nat)}{oi:Oper}{v:Value}{fuel:Nat}{l:Array Bool}{a a':Act}{w:World}(HT:Aside0 (rtab md ops=T))(i N:Nat)(l':Array Bool)(h:wpAnyLast P md ops Q S ds fuel l' a' w)(hi:ops[i]?=some oi:=by rfl)(hN:oi.dst=some N:=by rfl)(hc:anyT T l.toList l'.toList i=true:=by kernel_rfl)(hw:Region.wanted oi (yielded ops a.tmps)=true:=by rfl)(hr:∀ w',(execOp a.eval oi).run P w'=.ok (.value v) w':=by (intro w';go_simp;with_reducible rfl))(ha:a.put (some N) v=a':=by (simp only [Act.put,List.setIfInBounds_toArray,List.set_cons_zero,List.set_cons_succ,i64_w,i32_w];rfl))(hQ:∀ c a w,Q (.panic c) (a.put oi.dst v) w→Q (.panic c) a w:=by exact fun _ _ _ h=>h):wpAnyLast P md ops Q S ds (fuel+1) l a w:=pure_ l' hi hN (any_of HT.out hc) hQ (Or.inl ⟨hw,hr⟩) ha h
theorem pv_ {P:Program}{ops:Array Oper}{Q:Exit→Act→World→Prop}{md:Region.Mode}{S:World→Prop}{ds:List Nat}{oi:Oper}{v:Value}{fuel:Nat}{l:Array Bool}{a a':Act}{w:World}(i N:Nat)(l':Array Bool)(h:wpAnyLast P md ops Q S ds fuel l' a' w)(hi:ops[i]?=some oi:=by rfl)(hN:oi.dst=some N:=by rfl)(hc:anyB md ops l l' i=true:=by kernel_rfl)(hw:Region.wanted oi (yielded ops a.tmps)=true:=by rfl)(hr:∀ w',(execOp a.eval oi).run P w'=.ok (.value v) w':=by (intro w';go_simp;with_reducible rfl))(ha:a.put (some N) v=a':=by (simp only [Act.put,List.setIfInBounds_toArray,List.set_cons_zero,List.set_cons_succ,i64_w,i32_w];rfl))(hQ:∀ c a w,Q (.panic c) (a.put oi.dst v) w→Q (.panic c) a w:=by exact fun _ _ _ h=>h):wpAnyLast P md ops Q S ds (fuel+1) l a w:=pure_ l' hi hN hc hQ (Or.inl ⟨hw,hr⟩) ha h
theorem pz_ {P:Program}{ops:Array Oper}{Q:Exit→Act→World→Prop}{md:Region.Mode}{S:World→Prop}{ds:List Nat}{T:Bool × List (List Nat × List Nat)}{oi:Oper}{fuel:Nat}{l:Array Bool}{a a':Act}{w:World}(HT:Aside0 (rtab md ops=T))(i N:Nat)(l':Array Bool)(h:wpAnyLast P md ops Q S ds fuel l' a' w)(hi:ops[i]?=some oi:=by rfl)(hN:oi.dst=some N:=by rfl)(hc:anyT T l.toList l'.toList i=true:=by kernel_rfl)(hw:Region.wanted oi (yielded ops a.tmps)=false:=by rfl)(ha:a.put (some N) undef=a':=by (simp only [Act.put,List.setIfInBounds_toArray,List.set_cons_zero,List.set_cons_succ,i64_w,i32_w];rfl))(hQ:∀ c a w,Q (.panic c) (a.put oi.dst undef) w→Q (.panic c) a w:=by exact fun _ _ _ h=>h):wpAnyLast P md ops Q S ds (fuel+1) l a w:=pure_ l' hi hN (any_of HT.out hc) hQ (Or.inr ⟨hw,rfl⟩) ha h
theorem ta2_ {P:Program}{ops:Array Oper}{Q:Exit→Act→World→Prop}{md:Region.Mode}{S:World→Prop}{ds:List Nat}{T:Bool × List (List Nat × List Nat)}{B:List Nat}{oi:Oper}{v:Value}{fuel:Nat}{l:Array Bool}{a a':Act}{w:World}(HT:Aside0 (rtab md ops=T))(HW:Aside0 (waitsOk T.2 B=true))(i N:Nat)(l':Array Bool)(hS:S w)(h:wpAnyLast P md ops Q S ds fuel l' a' w)(hi:ops[i]?=some oi:=by rfl)(hN:oi.dst=some N:=by rfl)(hc:takeW T B ds l.toList l'.toList i=true:=by kernel_rfl)(hw:Region.wanted oi (yielded ops a.tmps)=true:=by rfl)(hr:∀ w',S w'→(execOp a.eval oi).run P w'=.ok (.value v) w':=by (rintro w' ⟨s0,s1⟩;go_simp;with_reducible rfl))(ha:a.put (some N) v=a':=by (simp only [Act.put,List.setIfInBounds_toArray,List.set_cons_zero,List.set_cons_succ,i64_w,i32_w];rfl))(hQ:∀ c a w,Q (.panic c) (a.put oi.dst v) w→Q (.panic c) a w:=by exact fun _ _ _ h=>h):wpAnyLast P md ops Q S ds (fuel+1) l a w:=take_ l' hi hN (take_ofW HT.out HW.out hc) hQ (Or.inl ⟨hw,hr⟩) hS ha h
theorem ta3_ {P:Program}{ops:Array Oper}{Q:Exit→Act→World→Prop}{md:Region.Mode}{S:World→Prop}{ds:List Nat}{T:Bool × List (List Nat × List Nat)}{B:List Nat}{oi:Oper}{v:Value}{fuel:Nat}{l:Array Bool}{a a':Act}{w:World}(HT:Aside0 (rtab md ops=T))(HW:Aside0 (waitsOk T.2 B=true))(i N:Nat)(l':Array Bool)(hS:S w)(h:wpAnyLast P md ops Q S ds fuel l' a' w)(hi:ops[i]?=some oi:=by rfl)(hN:oi.dst=some N:=by rfl)(hc:takeW T B ds l.toList l'.toList i=true:=by kernel_rfl)(hw:Region.wanted oi (yielded ops a.tmps)=true:=by rfl)(hr:∀ w',S w'→(execOp a.eval oi).run P w'=.ok (.value v) w':=by (rintro w' ⟨s0,s1,s2⟩;go_simp;with_reducible rfl))(ha:a.put (some N) v=a':=by (simp only [Act.put,List.setIfInBounds_toArray,List.set_cons_zero,List.set_cons_succ,i64_w,i32_w];rfl))(hQ:∀ c a w,Q (.panic c) (a.put oi.dst v) w→Q (.panic c) a w:=by exact fun _ _ _ h=>h):wpAnyLast P md ops Q S ds (fuel+1) l a w:=take_ l' hi hN (take_ofW HT.out HW.out hc) hQ (Or.inl ⟨hw,hr⟩) hS ha h
theorem ta4_ {P:Program}{ops:Array Oper}{Q:Exit→Act→World→Prop}{md:Region.Mode}{S:World→Prop}{ds:List Nat}{T:Bool × List (List Nat × List Nat)}{B:List Nat}{oi:Oper}{v:Value}{fuel:Nat}{l:Array Bool}{a a':Act}{w:World}(HT:Aside0 (rtab md ops=T))(HW:Aside0 (waitsOk T.2 B=true))(i N:Nat)(l':Array Bool)(hS:S w)(h:wpAnyLast P md ops Q S ds fuel l' a' w)(hi:ops[i]?=some oi:=by rfl)(hN:oi.dst=some N:=by rfl)(hc:takeW T B ds l.toList l'.toList i=true:=by kernel_rfl)(hw:Region.wanted oi (yielded ops a.tmps)=true:=by rfl)(hr:∀ w',S w'→(execOp a.eval oi).run P w'=.ok (.value v) w':=by (rintro w' ⟨s0,s1,s2,s3⟩;go_simp;with_reducible rfl))(ha:a.put (some N) v=a':=by (simp only [Act.put,List.setIfInBounds_toArray,List.set_cons_zero,List.set_cons_succ,i64_w,i32_w];rfl))(hQ:∀ c a w,Q (.panic c) (a.put oi.dst v) w→Q (.panic c) a w:=by exact fun _ _ _ h=>h):wpAnyLast P md ops Q S ds (fuel+1) l a w:=take_ l' hi hN (take_ofW HT.out HW.out hc) hQ (Or.inl ⟨hw,hr⟩) hS ha h
theorem tb4_ {P:Program}{ops:Array Oper}{Q:Exit→Act→World→Prop}{md:Region.Mode}{S:World→Prop}{ds:List Nat}{oi:Oper}{v:Value}{fuel:Nat}{l:Array Bool}{a a':Act}{w:World}(i N:Nat)(l':Array Bool)(hS:S w)(h:wpAnyLast P md ops Q S ds fuel l' a' w)(hi:ops[i]?=some oi:=by rfl)(hN:oi.dst=some N:=by rfl)(hc:takeB md ops ds l l' i=true:=by kernel_rfl)(hw:Region.wanted oi (yielded ops a.tmps)=true:=by rfl)(hr:∀ w',S w'→(execOp a.eval oi).run P w'=.ok (.value v) w':=by (rintro w' ⟨s0,s1,s2,s3⟩;go_simp;with_reducible rfl))(ha:a.put (some N) v=a':=by (simp only [Act.put,List.setIfInBounds_toArray,List.set_cons_zero,List.set_cons_succ,i64_w,i32_w];rfl))(hQ:∀ c a w,Q (.panic c) (a.put oi.dst v) w→Q (.panic c) a w:=by exact fun _ _ _ h=>h):wpAnyLast P md ops Q S ds (fuel+1) l a w:=take_ l' hi hN hc hQ (Or.inl ⟨hw,hr⟩) hS ha h
theorem ta6_ {P:Program}{ops:Array Oper}{Q:Exit→Act→World→Prop}{md:Region.Mode}{S:World→Prop}{ds:List Nat}{T:Bool × List (List Nat × List Nat)}{B:List Nat}{oi:Oper}{v:Value}{fuel:Nat}{l:Array Bool}{a a':Act}{w:World}(HT:Aside0 (rtab md ops=T))(HW:Aside0 (waitsOk T.2 B=true))(i N:Nat)(l':Array Bool)(hS:S w)(h:wpAnyLast P md ops Q S ds fuel l' a' w)(hi:ops[i]?=some oi:=by rfl)(hN:oi.dst=some N:=by rfl)(hc:takeW T B ds l.toList l'.toList i=true:=by kernel_rfl)(hw:Region.wanted oi (yielded ops a.tmps)=true:=by rfl)(hr:∀ w',S w'→(execOp a.eval oi).run P w'=.ok (.value v) w':=by (rintro w' ⟨s0,s1,s2,s3,s4,s5⟩;go_simp;with_reducible rfl))(ha:a.put (some N) v=a':=by (simp only [Act.put,List.setIfInBounds_toArray,List.set_cons_zero,List.set_cons_succ,i64_w,i32_w];rfl))(hQ:∀ c a w,Q (.panic c) (a.put oi.dst v) w→Q (.panic c) a w:=by exact fun _ _ _ h=>h):wpAnyLast P md ops Q S ds (fuel+1) l a w:=take_ l' hi hN (take_ofW HT.out HW.out hc) hQ (Or.inl ⟨hw,hr⟩) hS ha h
theorem tb6_ {P:Program}{ops:Array Oper}{Q:Exit→Act→World→Prop}{md:Region.Mode}{S:World→Prop}{ds:List Nat}{oi:Oper}{v:Value}{fuel:Nat}{l:Array Bool}{a a':Act}{w:World}(i N:Nat)(l':Array Bool)(hS:S w)(h:wpAnyLast P md ops Q S ds fuel l' a' w)(hi:ops[i]?=some oi:=by rfl)(hN:oi.dst=some N:=by rfl)(hc:takeB md ops ds l l' i=true:=by kernel_rfl)(hw:Region.wanted oi (yielded ops a.tmps)=true:=by rfl)(hr:∀ w',S w'→(execOp a.eval oi).run P w'=.ok (.value v) w':=by (rintro w' ⟨s0,s1,s2,s3,s4,s5⟩;go_simp;with_reducible rfl))(ha:a.put (some N) v=a':=by (simp only [Act.put,List.setIfInBounds_toArray,List.set_cons_zero,List.set_cons_succ,i64_w,i32_w];rfl))(hQ:∀ c a w,Q (.panic c) (a.put oi.dst v) w→Q (.panic c) a w:=by exact fun _ _ _ h=>h):wpAnyLast P md ops Q S ds (fuel+1) l a w:=take_ l' hi hN hc hQ (Or.inl ⟨hw,hr⟩) hS ha h
theorem tb7_ {P:Program}{ops:Array Oper}{Q:Exit→Act→World→Prop}{md:Region.Mode}{S:World→Prop}{ds:List Nat}{oi:Oper}{v:Value}{fuel:Nat}{l:Array Bool}{a a':Act}{w:World}(i N:Nat)(l':Array Bool)(hS:S w)(h:wpAnyLast P md ops Q S ds fuel l' a' w)(hi:ops[i]?=some oi:=by rfl)(hN:oi.dst=some N:=by rfl)(hc:takeB md ops ds l l' i=true:=by kernel_rfl)(hw:Region.wanted oi (yielded ops a.tmps)=true:=by rfl)(hr:∀ w',S w'→(execOp a.eval oi).run P w'=.ok (.value v) w':=by (rintro w' ⟨s0,s1,s2,s3,s4,s5,s6⟩;go_simp;with_reducible rfl))(ha:a.put (some N) v=a':=by (simp only [Act.put,List.setIfInBounds_toArray,List.set_cons_zero,List.set_cons_succ,i64_w,i32_w];rfl))(hQ:∀ c a w,Q (.panic c) (a.put oi.dst v) w→Q (.panic c) a w:=by exact fun _ _ _ h=>h):wpAnyLast P md ops Q S ds (fuel+1) l a w:=take_ l' hi hN hc hQ (Or.inl ⟨hw,hr⟩) hS ha h
theorem ta8_ {P:Program}{ops:Array Oper}{Q:Exit→Act→World→Prop}{md:Region.Mode}{S:World→Prop}{ds:List Nat}{T:Bool × List (List Nat × List Nat)}{B:List Nat}{oi:Oper}{v:Value}{fuel:Nat}{l:Array Bool}{a a':Act}{w:World}(HT:Aside0 (rtab md ops=T))(HW:Aside0 (waitsOk T.2 B=true))(i N:Nat)(l':Array Bool)(hS:S w)(h:wpAnyLast P md ops Q S ds fuel l' a' w)(hi:ops[i]?=some oi:=by rfl)(hN:oi.dst=some N:=by rfl)(hc:takeW T B ds l.toList l'.toList i=true:=by kernel_rfl)(hw:Region.wanted oi (yielded ops a.tmps)=true:=by rfl)(hr:∀ w',S w'→(execOp a.eval oi).run P w'=.ok (.value v) w':=by (rintro w' ⟨s0,s1,s2,s3,s4,s5,s6,s7⟩;go_simp;with_reducible rfl))(ha:a.put (some N) v=a':=by (simp only [Act.put,List.setIfInBounds_toArray,List.set_cons_zero,List.set_cons_succ,i64_w,i32_w];rfl))(hQ:∀ c a w,Q (.panic c) (a.put oi.dst v) w→Q (.panic c) a w:=by exact fun _ _ _ h=>h):wpAnyLast P md ops Q S ds (fuel+1) l a w:=take_ l' hi hN (take_ofW HT.out HW.out hc) hQ (Or.inl ⟨hw,hr⟩) hS ha h
theorem ta9_ {P:Program}{ops:Array Oper}{Q:Exit→Act→World→Prop}{md:Region.Mode}{S:World→Prop}{ds:List Nat}{T:Bool × List (List Nat × List Nat)}{B:List Nat}{oi:Oper}{v:Value}{fuel:Nat}{l:Array Bool}{a a':Act}{w:World}(HT:Aside0 (rtab md ops=T))(HW:Aside0 (waitsOk T.2 B=true))(i N:Nat)(l':Array Bool)(hS:S w)(h:wpAnyLast P md ops Q S ds fuel l' a' w)(hi:ops[i]?=some oi:=by rfl)(hN:oi.dst=some N:=by rfl)(hc:takeW T B ds l.toList l'.toList i=true:=by kernel_rfl)(hw:Region.wanted oi (yielded ops a.tmps)=true:=by rfl)(hr:∀ w',S w'→(execOp a.eval oi).run P w'=.ok (.value v) w':=by (rintro w' ⟨s0,s1,s2,s3,s4,s5,s6,s7,s8⟩;go_simp;with_reducible rfl))(ha:a.put (some N) v=a':=by (simp only [Act.put,List.setIfInBounds_toArray,List.set_cons_zero,List.set_cons_succ,i64_w,i32_w];rfl))(hQ:∀ c a w,Q (.panic c) (a.put oi.dst v) w→Q (.panic c) a w:=by exact fun _ _ _ h=>h):wpAnyLast P md ops Q S ds (fuel+1) l a w:=take_ l' hi hN (take_ofW HT.out HW.out hc) hQ (Or.inl ⟨hw,hr⟩) hS ha h
theorem ta16_ {P:Program}{ops:Array Oper}{Q:Exit→Act→World→Prop}{md:Region.Mode}{S:World→Prop}{ds:List Nat}{T:Bool × List (List Nat × List Nat)}{B:List Nat}{oi:Oper}{v:Value}{fuel:Nat}{l:Array Bool}{a a':Act}{w:World}(HT:Aside0 (rtab md ops=T))(HW:Aside0 (waitsOk T.2 B=true))(i N:Nat)(l':Array Bool)(hS:S w)(h:wpAnyLast P md ops Q S ds fuel l' a' w)(hi:ops[i]?=some oi:=by rfl)(hN:oi.dst=some N:=by rfl)(hc:takeW T B ds l.toList l'.toList i=true:=by kernel_rfl)(hw:Region.wanted oi (yielded ops a.tmps)=true:=by rfl)(hr:∀ w',S w'→(execOp a.eval oi).run P w'=.ok (.value v) w':=by (rintro w' ⟨s0,s1,s2,s3,s4,s5,s6,s7,s8,s9,s10,s11,s12,s13,s14,s15⟩;go_simp;with_reducible rfl))(ha:a.put (some N) v=a':=by (simp only [Act.put,List.setIfInBounds_toArray,List.set_cons_zero,List.set_cons_succ,i64_w,i32_w];rfl))(hQ:∀ c a w,Q (.panic c) (a.put oi.dst v) w→Q (.panic c) a w:=by exact fun _ _ _ h=>h):wpAnyLast P md ops Q S ds (fuel+1) l a w:=take_ l' hi hN (take_ofW HT.out HW.out hc) hQ (Or.inl ⟨hw,hr⟩) hS ha h
theorem no_ {P:Program}{ops:Array Oper}{Q:Exit→Act→World→Prop}{md:Region.Mode}{S:World→Prop}{ds:List Nat}{fuel:Nat}{l:Array Bool}{a a':Act}{w:World}(ha:a=a':=by (show Act.put _ (some _) _=_;simp only [Act.put,List.setIfInBounds_toArray,List.set_cons_zero,List.set_cons_succ,i64_w,i32_w];rfl))(h:wpAnyLast P md ops Q S ds fuel l a' w):wpAnyLast P md ops Q S ds fuel l a w:=norm_ ha h
theorem bx_ {P:Program}{ops:Array Oper}{rest:List Oper}{o:Oper}{a:Act}{Q:Exit→Act→World→Prop}{W:World}{N:Tmp}{cs:Array Value}{t:TypeId}(hgd:o.guard=none:=by rfl)(hd:o.dst=some N:=by rfl)
    (hr:(execOp a.eval o).run P W=.ok (.value (.pointer (some ⟨W.heap.size,0,none⟩))) (W.alloc (.cells cs t (0,0))):=by first | (go_simp;done) | (go_simp;rfl))
    (h:∀ g,g=W.heap.size→∀ w1,w1.heap[g]?=some (.cells cs t (0,0))→Below W.heap.size W w1→wpList P ops Q rest (a.put o.dst (.pointer (some ⟨g,0,none⟩))) w1):wpList P ops Q (o::rest) a W:=box_event hgd hd hr h
theorem a0_ {P:Prop}(h:P):Aside0 P:=⟨h⟩
theorem ce_ {w W:World}{p:Addr}{v:Value}(HB:Aside0 (Below w.heap.size w W))(h:w.cell? p=some v):W.cell? p=some v:=pw_cell_below HB.out h
theorem od_ {p:Prop}[Decidable p](h:decide p=true:=by first | (with_reducible assumption) | assumption):p:=of_decide_eq_true h
theorem rr_ {P:Prop}(h:P:=by first | rfl | (simp [errW_none,errW_some] <;> rfl) | (simp [*,errW_none,errW_some] <;> rfl)):P:=h
theorem gh_ {w W W':World}{gb:Nat}(_:Aside0 (Below w.heap.size w W))(hg:gb=W'.heap.size)(h:Below w.heap.size w W':=by repeat (first | (with_reducible first | exact HB.out | apply below_alloc | apply pw_below_drewN | apply below_drew1 | refine below_set ?_ (Aside0.out (by assumption))) | exact HB.out)):Aside0 (w.heap.size≤gb):=⟨by rw [hg];exact below_size h⟩
theorem nl_ {W W':World}{g gb:Nat}{o:Obj}(_:Aside0 (W.heap[g]?=some o))(hg:gb=W'.heap.size)(h:W'.heap[g]?=some o:=by (with_reducible repeat (first | refine blk_drewN ?_ _ | refine blk_drew ?_ | refine blk_alloc ?_ _));refine Aside0.out ?_;assumption):Aside0 (g≠gb):=⟨by rw [hg];exact Nat.ne_of_lt (blk_lt h)⟩
theorem nr_ {W W':World}{g gb:Nat}{o:Obj}(_:Aside0 (W.heap[g]?=some o))(hg:gb=W'.heap.size)(h:W'.heap[g]?=some o:=by (with_reducible repeat (first | refine blk_drewN ?_ _ | refine blk_drew ?_ | refine blk_alloc ?_ _));refine Aside0.out ?_;assumption):Aside0 (gb≠g):=⟨by rw [hg];exact Nat.ne_of_gt (blk_lt h)⟩
theorem c20_ {W:World}{g t:Nat}{x y:Value}(h:Aside0 (W.heap[g]?=some (.cells #[x,y] t (0,0)))):W.cell? ⟨g,0,none⟩=some x:=(blk_cell h.out 0).trans rfl
theorem c21_ {W:World}{g t:Nat}{x y:Value}(h:Aside0 (W.heap[g]?=some (.cells #[x,y] t (0,0)))):W.cell? ⟨g,1,none⟩=some y:=(blk_cell h.out 1).trans rfl
theorem c40_ {W:World}{g t:Nat}{x y u v:Value}(h:Aside0 (W.heap[g]?=some (.cells #[x,y,u,v] t (0,0)))):W.cell? ⟨g,0,none⟩=some x:=(blk_cell h.out 0).trans rfl
theorem c41_ {W:World}{g t:Nat}{x y u v:Value}(h:Aside0 (W.heap[g]?=some (.cells #[x,y,u,v] t (0,0)))):W.cell? ⟨g,1,none⟩=some y:=(blk_cell h.out 1).trans rfl
theorem c42_ {W:World}{g t:Nat}{x y u v:Value}(h:Aside0 (W.heap[g]?=some (.cells #[x,y,u,v] t (0,0)))):W.cell? ⟨g,2,none⟩=some u:=(blk_cell h.out 2).trans rfl
theorem c43_ {W:World}{g t:Nat}{x y u v:Value}(h:Aside0 (W.heap[g]?=some (.cells #[x,y,u,v] t (0,0)))):W.cell? ⟨g,3,none⟩=some v:=(blk_cell h.out 3).trans rfl
theorem sb_ {w W W' w':World}(_:Aside0 (Below w.heap.size w W))(hb:Below W'.heap.size W' w')(h:Below w.heap.size w W':=by repeat (first | (with_reducible first | exact HB.out | apply below_alloc | apply pw_below_drewN | apply below_drew1 | refine below_set ?_ (Aside0.out (by assumption))) | exact HB.out)):Aside0 (Below w.heap.size w w'):=⟨below_step h hb⟩
theorem rb_ {α:Type}{d:Kd α}{e b:Nat}{w W' w':World}{ok:Nat→Prop}{u:Value}{xs:List α}(_:Aside0 (d.R e w b ok u xs))(hb:Below W'.heap.size W' w')(h:d.R e W' b ok u xs:=by (with_reducible repeat (first | apply Kd.R_alloc | apply Kd.R_drewN | apply Kd.R_drew));refine Aside0.out ?_;assumption):Aside0 (d.R e w' b ok u xs):=⟨Kd.R_below h hb⟩
theorem fz_ {W:World}{g t:Nat}{cs:Array Value}(h:Aside0 (W.heap[g]?=some (.cells cs t (0,0))))(i:Nat):W.frozen? ⟨g,i,none⟩=false:=blk_frozen h.out i
theorem gL_ {P:Program}{ops:Array Oper}{Q:Exit→Act→World→Prop}{rest:List Oper}{oi:Oper}{a:Act}{w:World}(N:Option Tmp){f:FuncId}{fn:Func}{as0:Array Operand}{ts:Array TypeId}(hf:P.funcs[f]?=some fn)(args:Array Value)(hd:oi.dst=N:=by rfl)(hg:oi.guard=none:=by rfl)(hname:(fn.name == "runtime.NumGoroutine")=false:=by kernel_rfl) (hb:fn.body.isSome=true:=by rfl)
    (hop:oi.op=.call { callee:=.value (.func f),args:=as0,argTypes:=ts }:=by rfl) (hargs:as0.map a.eval=args:=by (try simp only [List.map_toArray,List.map_cons,List.map_nil]);first | done | rfl | (simp only [List.length_drop,List.length_take];rfl))
    (h:Calls P f args w fun e w'=>∃ v,e=.returned v∧wpList P ops Q rest (a.put N v) w'):wpList P ops Q (oi::rest) a w:=goesL_ N hd hg hf hname hb args hop hargs h
theorem vb_ {W W' w':World}{g:Nat}{o:Obj}(_:Aside0 (W.heap[g]?=some o))(hb:Below W'.heap.size W' w')(h:W'.heap[g]?=some o:=by (with_reducible repeat (first | refine blk_drewN ?_ _ | refine blk_drew ?_ | refine blk_alloc ?_ _));refine Aside0.out ?_;assumption):Aside0 (w'.heap[g]?=some o):=⟨blk_below h hb⟩
theorem uf_ {P:Prop}(h:P:=by (repeat (first | (with_reducible refine blk_drewN ?_ _) | (with_reducible refine blk_drew ?_) | (with_reducible refine blk_alloc ?_ _) | (with_reducible refine blk_far ?_ (Aside0.out (by assumption)) _)));refine Aside0.out ?_;assumption):P:=h
theorem uR_ {α:Type}{d:Kd α}{e b:Nat}{w w':World}{ok:Nat→Prop}{u:Value}{xs:List α}(_:Aside0 (d.R e w b ok u xs))(h:d.R e w' b ok u xs:=by (with_reducible repeat (first | apply Kd.R_alloc | apply Kd.R_drewN | apply Kd.R_drew));refine Aside0.out ?_;assumption):d.R e w' b ok u xs:=h
end Go.Proofs.YtkefmnmoaomlhaaDoor.X
end
section
set_option linter.unusedVariables false
namespace Go.Proofs.YtkefmnmoaomlhaaDoor
open Go.RowKit Go.Extern.Stop Go.Stop Go.Extern
theorem isTypeOf (v:Value)(w:World):(Extern.ReflectliteType.typeOf #[.iface 156 v]).run Tryd.prog w=.ok (.iface 145 (.agg #[.pointer (some ⟨1,156,none⟩)])) w:=by kernel_rfl
def cmpExt:Array Value→Sem Value:=Extern.ReflectliteType.method fun t=>do Extern.Rtype.noPackHeld "Comparable" t;pure (.bool (← typeInfo t).comparable)
theorem isComparable (w:World):(cmpExt #[.agg #[.pointer (some ⟨1,156,none⟩)]]).run Tryd.prog w=.ok (.bool true) w:=by kernel_rfl
theorem isMethodComparable (v:Value)(w:World):(Go.method 296 145 v "Comparable").run Tryd.prog w=.ok (143,v) w:=by kernel_rfl
theorem isComp:(Tryd.prog.info? 156).map (·.comparable)=some true:=by kernel_rfl
theorem isSize:(Tryd.prog.info? 184).map (·.size)=some 1:=by kernel_rfl
set_option maxRecDepth 100000 in
theorem is_same (a:Addr)(w:World):
  Calls Tryd.prog 61 #[.iface 156 (.pointer (some a)),.iface 156 (.pointer (some a))] w fun e w'=>e=.returned (.bool true)∧w=w':=by
 obtain⟨i,hi,hcmp⟩:=Option.map_eq_some_iff.1 isComp;obtain⟨j,hj,hjs⟩:=Option.map_eq_some_iff.1 isSize;have h8:=@run_callFunc_extern Tryd.prog 103 _ Extern.ReflectliteType.typeOf Tryd.func103 (by kernel_rfl) (by kernel_rfl) (by kernel_rfl) (by kernel_rfl);have h32:=@run_callFunc_extern Tryd.prog 143 _ cmpExt Tryd.func143 (by kernel_rfl) (by kernel_rfl) (by kernel_rfl) (by kernel_rfl);have tT:=isTypeOf;have cT:=isComparable;have mR:=isMethodComparable;have heq:=run_eql_iface_ptr_same (P:=Tryd.prog) w a Tryd.underlying87 Tryd.underlying156 hi hcmp hj;go_enter Tryd.func61,Tryd.ntmps61;go_wp2;refine wp_loop_rounds 1 ?_;rw [rounds_succ];go_wp2;go_ret;exact⟨rfl,rfl⟩
theorem is_nil (b:Addr)(w:World):
  Calls Tryd.prog 61 #[.nilIface,.iface 156 (.pointer (some b))] w fun e w'=>e=.returned (.bool false)∧w=w':=by
 have hn:=run_eql_iface_nil_left (P:=Tryd.prog) w 156 (.pointer (some b)) Tryd.underlying87;go_enter Tryd.func61,Tryd.ntmps61;go_wp2;go_ret;exact⟨rfl,rfl⟩
end Go.Proofs.YtkefmnmoaomlhaaDoor
end
section
set_option linter.unusedVariables false
namespace Go.Proofs.YtkefmnmoaomlhaaDoor
open Go.RowKit Go.Proofs.YtkefmnmoaomlhaaDoorW.PrintWords
def ErrW (w:World):Prop:=∃ a:Addr,w.cell? ⟨0,0,none⟩=some (.iface 156 (.pointer (some a)))
theorem ErrW.below {w w':World}(h:ErrW w)(hb:Below w.heap.size w w'):ErrW w':=by
 obtain⟨a,ha⟩:=h;exact⟨a,pw_cell_below hb ha⟩
end Go.Proofs.YtkefmnmoaomlhaaDoor
end
section
set_option linter.unusedVariables false
namespace Go.Proofs.YtkefmnmoaomlhaaDoor
open Go.ChangeShapes Go.WideShapes Go.RowKit Go.Proofs.YtkefmnmoaomlhaaDoorW.PrintWords
theorem own:ownKnob Tryd.prog.godebug=none:=by kernel_rfl
theorem errGlobal:Tryd.prog.globalNamed "loop.example/mortiser/impl.errNoFrac" = some 0:=by kernel_rfl
theorem errType:(Tryd.prog.globals[0]?).map (·.type)=some 87:=by kernel_rfl
theorem errCells:Tryd.prog.cellsOf 184=1:=by kernel_rfl
theorem strCells:Tryd.prog.cellsOf 9=1:=by kernel_rfl
theorem errStar : "*" ++ "errors.errorString" = "*errors.errorString" := by decide
theorem errRow (u:TypeId)(h:Tryd.prog.typeName? 3 u=some "*errors.errorString"):u=156:=
 typeName_ptr_named (nm := "errors.errorString") (by rw [errStar];kernel_rfl) (by kernel_rfl) (by decide) u (by rw [errStar];exact h)
abbrev laidErr:List (String × DataW Unit):=[("loop.example/mortiser/impl.errNoFrac",Rows.laid_loop_example_mortiser_impl_errNoFrac)]
theorem err_of_laid {W:World}(h:laidMet Tryd.prog laidErr W):
  ∃ (a:Addr) (s:ByteArray),W.var? Tryd.prog "loop.example/mortiser/impl.errNoFrac" = some #[.iface 156 (.pointer (some a))]∧W.cell? a=some (.string s)∧s.data.toList=[110,111,32,102,114,97,99,116,105,111,110]∧s.size≤maxLen:=
 laid_sentinel h errGlobal errType Tryd.underlying87 errRow Tryd.underlying156 Tryd.underlying184 rfl rfl Tryd.underlying9 errCells strCells
theorem ErrW.of_var {W:World}{a:Addr}(h:W.var? Tryd.prog "loop.example/mortiser/impl.errNoFrac" = some #[.iface 156 (.pointer (some a))]):ErrW W:=
 ⟨a,by simpa using World.var?_cell errGlobal h 0⟩
theorem errBelow {W W':World}{cs:Array Value}(hb:Below W.heap.size W W')(h:W.var? Tryd.prog "loop.example/mortiser/impl.errNoFrac" = some cs):W'.var? Tryd.prog "loop.example/mortiser/impl.errNoFrac" = some cs:=by
 have hlt:0<W.heap.size:=by
  rcases Nat.lt_or_ge 0 W.heap.size with h' | h'
  ·
   exact h'
  ·
   unfold World.var? at h;rw [errGlobal] at h;simp [Array.getElem?_eq_none h'] at h
 exact var?_below hb errGlobal hlt h
abbrev errS:ByteArray:={ data:=#[110,111,32,102,114,97,99,116,105,111,110] }
noncomputable def low:Nat:=(World.holding Tryd.prog default ⟨#[],#[],[]⟩).heap.size
noncomputable def laidWorld (os:Os):World:=
 let w0:=World.holding Tryd.prog os ⟨#[.cells #[.string errS] 184],#[],[]⟩
 { w0 with heap:=w0.heap.modify 0 fun
   | .cells _ t frozen=>.cells #[.iface 156 (.pointer (some ⟨low,0,none⟩))] t frozen
   | o=>o }
theorem laidWorld_met (os:Os)(args:Array Value):laidMet Tryd.prog laidErr ((laidWorld os).forCall (fun _ _=>0) ⟨#[],args,[]⟩).memory:=
 laidMet_of_run (ps:=[.cell 0 0,.cell low 0]) 8 (by kernel_rfl) (by kernel_rfl) (by kernel_rfl)
theorem errVars {H:Type}(enc:TypeId × Value→H){W:World}{x:Value}(h:W.var? Tryd.prog "loop.example/mortiser/impl.errNoFrac" = some #[x]) (ix:IsIface x) (sp:Nat→Bool) :
  DataW.TrodVars enc Tryd.prog W sp ["loop.example/mortiser/impl.errNoFrac"] [tok enc x] [.cell 0 0]:=
 vars_read1 enc errGlobal errType Tryd.underlying87 h ix sp
theorem laidOut:laidOutB Tryd.prog=true:=by kernel_rfl
end Go.Proofs.YtkefmnmoaomlhaaDoor
end
section
namespace Go.Proofs.YtkefmnmoaomlhaaDoor.X
open Go.RowKit Go.Proofs.YtkefmnmoaomlhaaDoorW.PrintWords Go.Proofs.YtkefmnmoaomlhaaDoorW.PrintLast Go.Proofs.YtkefmnmoaomlhaaDoorW.PrintMore
attribute [local go_sem] max2_int min2_int max_two min_two max_three min_three max_four min_four
set_option linter.unusedVariables false
set_option linter.unusedSimpArgs false
def errW:Option Int→Value
 | none=>.nilIface
 | some c=>.iface 0 (.int .i64 c)
theorem errW_none:errW none=.nilIface:=rfl
theorem errW_some (c:Int):errW (some c)=.iface 0 (.int .i64 c):=rfl
theorem info3:(Tryd.prog.info? 3).map (fun i=>(i.zero,i.size,i.bytes))=some (some (.int .i64 0),1,8):=by kernel_rfl
theorem info23:(Tryd.prog.info? 23).map (fun i=>(i.zero,i.size,i.bytes))=some (some (.slice none 0 0),1,24):=by kernel_rfl
theorem info28:(Tryd.prog.info? 28).map (fun i=>(i.zero,i.size,i.bytes))=some (some (.agg #[(.int .i64 0),(.int .i64 0)]),2,16):=by kernel_rfl
theorem info61:(Tryd.prog.info? 61).map (fun i=>(i.zero,i.size,i.bytes))=some (some (.agg #[(.int .i64 0),(.int .i64 0),(.int .i64 0),(.int .i64 0)]),4,32):=by kernel_rfl
structure S28 where
 f0:Int
 f1:Int
def z28:S28:=⟨(0:Int),(0:Int)⟩
def k28:Kd S28:=Kd.iso (Kd.pair (Kd.int .i64) (Kd.int .i64)) (fun x:S28=>(x.f0,x.f1))
theorem k28_open {w:World}{x:S28}{cs:List Value}(h:k28.K w x cs):cs=[.int .i64 x.f0,.int .i64 x.f1]:=by
 obtain⟨_,_,rfl,rfl,rfl⟩:=h;exact rfl
theorem k28_openM {w:World}{base:Nat}{ok:Nat→Prop}{x:S28}{cs:List Value}(h:k28.M w base ok x cs):cs=[.int .i64 x.f0,.int .i64 x.f1]:=by
 obtain⟨_,_,rfl,rfl,rfl⟩:=h;exact rfl
theorem k28_mkM (w:World)(base:Nat)(ok:Nat→Prop)(x:S28)  : k28.M w base ok x [.int .i64 x.f0,.int .i64 x.f1]:=⟨[.int .i64 x.f0],[.int .i64 x.f1],rfl,rfl,rfl⟩
def rd_T28 (xs:List S28)(i:Int):S28:=xs.getD i.toNat z28
theorem at_T28 {w:World}{A:Option Addr}{n:Nat}{xs:List S28}(h:Kd.C k28 w A n xs)(i:Int)(h0:0≤i)(h1:i<n):∃ ad ,A=some ad∧w.cell? (ad.add (i.toNat*2))=some (.int .i64 (rd_T28 xs i).f0)∧w.cell? ⟨(ad.add (i.toNat*2)).block,(ad.add (i.toNat*2)).off+1,none⟩=some (.int .i64 (rd_T28 xs i).f1):=by
 obtain⟨ad,c,e,_,hK,hc0⟩:=Kd.C_get h z28 i h0 h1;have hc:∀ j u,c[j]?=some u→w.cell? (ad.add (i.toNat*2+j))=some u:=hc0;obtain rfl:=k28_open hK;exact⟨ad,e,hc 0 _ rfl,by rw [← add_field _ _ 1 (by omega)];exact hc 1 _ rfl⟩
structure S61 where
 f0:S28
 f1:S28
def z61:S61:=⟨z28,z28⟩
def k61:Kd S61:=Kd.iso (Kd.pair k28 k28) (fun x:S61=>(x.f0,x.f1))
theorem k61_open {w:World}{x:S61}{cs:List Value}(h:k61.K w x cs):cs=[.int .i64 x.f0.f0,.int .i64 x.f0.f1,.int .i64 x.f1.f0,.int .i64 x.f1.f1]:=by
 obtain⟨_,_,rfl,s0,s2⟩:=h;obtain rfl:=k28_open s0;obtain rfl:=k28_open s2;exact rfl
theorem k61_mkM (w:World)(base:Nat)(ok:Nat→Prop)(x:S61)  : k61.M w base ok x [.int .i64 x.f0.f0,.int .i64 x.f0.f1,.int .i64 x.f1.f0,.int .i64 x.f1.f1]:=⟨[.int .i64 x.f0.f0,.int .i64 x.f0.f1],[.int .i64 x.f1.f0,.int .i64 x.f1.f1],rfl,(k28_mkM w base ok x.f0 ),(k28_mkM w base ok x.f1 )⟩
def rd_T61 (xs:List S61)(i:Int):S61:=xs.getD i.toNat z61
theorem at_T61 {w:World}{A:Option Addr}{n:Nat}{xs:List S61}(h:Kd.C k61 w A n xs)(i:Int)(h0:0≤i)(h1:i<n):∃ ad ,A=some ad∧w.cell? (ad.add (i.toNat*4))=some (.int .i64 (rd_T61 xs i).f0.f0)∧w.cell? ⟨(ad.add (i.toNat*4)).block,(ad.add (i.toNat*4)).off+1,none⟩=some (.int .i64 (rd_T61 xs i).f0.f1)∧w.cell? ⟨(ad.add (i.toNat*4)).block,(ad.add (i.toNat*4)).off+2,none⟩=some (.int .i64 (rd_T61 xs i).f1.f0)∧w.cell? ⟨(ad.add (i.toNat*4)).block,(ad.add (i.toNat*4)).off+3,none⟩=some (.int .i64 (rd_T61 xs i).f1.f1):=by
 obtain⟨ad,c,e,_,hK,hc0⟩:=Kd.C_get h z61 i h0 h1;have hc:∀ j u,c[j]?=some u→w.cell? (ad.add (i.toNat*4+j))=some u:=hc0;obtain rfl:=k61_open hK;exact⟨ad,e,hc 0 _ rfl,by rw [← add_field _ _ 1 (by omega)];exact hc 1 _ rfl,by rw [← add_field _ _ 2 (by omega)];exact hc 2 _ rfl,by rw [← add_field _ _ 3 (by omega)];exact hc 3 _ rfl⟩
def rd_L5 (xs:List (List S28))(i:Int):(List S28):=xs.getD i.toNat ([]:List S28)
theorem at_L5 {w:World}{A:Option Addr}{n:Nat}{xs:List (List S28)}(h:Kd.C (Kd.slice 28 k28) w A n xs)(i:Int)(h0:0≤i)(h1:i<n):∃ ad A0 c0,A=some ad∧w.cell? (ad.add i.toNat)=some (.slice A0 (rd_L5 xs i).length c0)∧(rd_L5 xs i).length≤c0∧k28.C w A0 (rd_L5 xs i).length (rd_L5 xs i):=by
 obtain⟨ad,c,e,_,hK,hc0⟩:=Kd.C_get h ([]:List S28) i h0 h1;have hc:∀ j u,c[j]?=some u→w.cell? (ad.add (i.toNat*1+j))=some u:=hc0;obtain⟨A0,c0,rfl,l0,g0⟩:=hK;exact⟨ad,A0,c0,e,by have hq:=hc 0 _ rfl;rwa [Nat.mul_one,Nat.add_zero] at hq,l0,g0⟩
structure S45 where
 f0:Int
 f1:Int
def z45:S45:=⟨(0:Int),(0:Int)⟩
def k45:Kd S45:=Kd.iso (Kd.pair (Kd.int .i64) (Kd.int .i64)) (fun x:S45=>(x.f0,x.f1))
theorem k45_open {w:World}{x:S45}{cs:List Value}(h:k45.K w x cs):cs=[.int .i64 x.f0,.int .i64 x.f1]:=by
 obtain⟨_,_,rfl,rfl,rfl⟩:=h;exact rfl
theorem k45_mk (w:World)(x:S45)  : k45.K w x [.int .i64 x.f0,.int .i64 x.f1]:=⟨[.int .i64 x.f0],[.int .i64 x.f1],rfl,rfl,rfl⟩
def rd_T45 (xs:List S45)(i:Int):S45:=xs.getD i.toNat z45
theorem at_T45 {w:World}{A:Option Addr}{n:Nat}{xs:List S45}(h:Kd.C k45 w A n xs)(i:Int)(h0:0≤i)(h1:i<n):∃ ad ,A=some ad∧w.cell? (ad.add (i.toNat*2))=some (.int .i64 (rd_T45 xs i).f0)∧w.cell? ⟨(ad.add (i.toNat*2)).block,(ad.add (i.toNat*2)).off+1,none⟩=some (.int .i64 (rd_T45 xs i).f1):=by
 obtain⟨ad,c,e,_,hK,hc0⟩:=Kd.C_get h z45 i h0 h1;have hc:∀ j u,c[j]?=some u→w.cell? (ad.add (i.toNat*2+j))=some u:=hc0;obtain rfl:=k45_open hK;exact⟨ad,e,hc 0 _ rfl,by rw [← add_field _ _ 1 (by omega)];exact hc 1 _ rfl⟩
def rd_L10 (xs:List (List S45))(i:Int):(List S45):=xs.getD i.toNat ([]:List S45)
theorem at_L10 {w:World}{A:Option Addr}{n:Nat}{xs:List (List S45)}(h:Kd.C (Kd.slice 45 k45) w A n xs)(i:Int)(h0:0≤i)(h1:i<n):∃ ad A0 c0,A=some ad∧w.cell? (ad.add i.toNat)=some (.slice A0 (rd_L10 xs i).length c0)∧(rd_L10 xs i).length≤c0∧k45.C w A0 (rd_L10 xs i).length (rd_L10 xs i):=by
 obtain⟨ad,c,e,_,hK,hc0⟩:=Kd.C_get h ([]:List S45) i h0 h1;have hc:∀ j u,c[j]?=some u→w.cell? (ad.add (i.toNat*1+j))=some u:=hc0;obtain⟨A0,c0,rfl,l0,g0⟩:=hK;exact⟨ad,A0,c0,e,by have hq:=hc 0 _ rfl;rwa [Nat.mul_one,Nat.add_zero] at hq,l0,g0⟩
def spec_l3Edges.l0:Nat→List (S28)→List (S61)→Int→Option ((List (S61)))
 | 0,_,_,_=>none
 | k+1,x0,x3,x4=>if x4<(x0.length:Int) then (if 0≤x4 then (if (x0.length:Int)=0 then (none) else (if 0≤(Int.tmod (wrap64 (x4+1)) (x0.length:Int)) then (if (Int.tmod (wrap64 (x4+1)) (x0.length:Int))<(x0.length:Int) then (if x3.length<4398046511104 then (spec_l3Edges.l0 k x0 (x3++[(⟨(⟨(rd_T28 x0 x4).f0,(rd_T28 x0 x4).f1⟩:S28),(⟨(rd_T28 x0 (Int.tmod (wrap64 (x4+1)) (x0.length:Int))).f0,(rd_T28 x0 (Int.tmod (wrap64 (x4+1)) (x0.length:Int))).f1⟩:S28)⟩:S61)]) (wrap64 (x4+1))) else (none)) else (none)) else (none))) else (none)) else (some x3)
def spec_l3Edges.f (k:Nat)(l0:List (S28)):Option ((List (S61))):=spec_l3Edges.l0 k l0 (([]:List (S61))) 0
def spec_l3Edges.T5:Bool × List (List Nat × List Nat):=(true,[([],[]),([],[]),([],[]),([1,2],[1,2]),([3],[3]),([],[]),([],[]),([6],[6]),([],[]),([8],[8]),([7,9],[7,9]),([5,10],[5,10]),([11],[11]),([4,12],[4,12]),([13],[13]),([0,14],[0,14]),([15,15,0,1,2,3,4,5,6,7,8,9,10,11,12,13,14,15],[0,15])])
def spec_l3Edges.B5:List Nat:=[0,0,0,6,14,0,0,64,0,256,960,2016,4064,8190,16382,32767,65535]
theorem spec_l3Edges.tab5:rtab .any (opsOf Tryd.f98 5)=spec_l3Edges.T5:=by kernel_rfl
theorem spec_l3Edges.bits5:waitsOk spec_l3Edges.T5.2 spec_l3Edges.B5=true:=by kernel_rfl
set_option maxHeartbeats 8000000 in
set_option maxRecDepth 100000 in
theorem spec_l3Edges.calls (k:Nat)(A0:Option Addr)(c0:Nat)(l0:List (S28))(r:List (S61))(w:World)(hr0:Kd.C k28 w A0 l0.length l0)(hc0:l0.length≤c0)(h:spec_l3Edges.f k l0=some r):
  Calls Tryd.prog 98 #[.slice A0 l0.length c0] w fun e w'=>∃ v0_:Value,e=.returned (v0_)∧Kd.R k61 61 w' w.heap.size (fun _=>True) v0_ r∧Below w.heap.size w w':=by
 have hu28:=Tryd.underlying28;have hu61:=Tryd.underlying61;have HR0:=Aside0.mk hr0;have HC0:=Aside0.mk hc0;clear hr0 hc0;have HB:=a0_ (Below.refl w.heap.size w);have H:(spec_l3Edges.l0 k l0 (([]:List (S61))) 0)=some r:=h;clear h;obtain⟨y127,hy127⟩:∃ y_:List (S61),y_=(([]:List (S61))):=⟨_,rfl⟩;replace H:(spec_l3Edges.l0 k l0 y127 0)=some r:=by first | (rw [hy127];with_reducible exact H) | (have H2_:=(Option.bind_some _ _).symm.trans H;rw [hy127];with_reducible exact H2_) | (have H2_:=(Option.bind_some _ _).symm.trans H;with_reducible exact H2_) | with_reducible exact H | (rw [hy127];exact H) | exact H
 have Ny127:=Aside0.mk hy127;clear hy127;have H':=Aside0.mk H;clear H;go_enter Tryd.func98,Tryd.ntmps98;go_wp2_with (first | ((with_reducible refine gate_dst (N:=5) rfl ?_);refine Kd.R_lit k61 _ 61 ?hg (N:=5) ?hd (xs:=([]:List (S61))) (inner:=[]) (ok:=fun _=>True) (okp:=fun _=>True) ?hr ?hp (fun _ hk=>hk) trivial (Below.refl _ _) (Nat.le_refl _) (by simp) ?_;(case hd=>rfl);(case hg=>rfl);(case hr=>first | (go_simp;done) | (go_simp;rfl));(case hp=>exact (Reps.none _ _));intro v128 w2 ho3 hb hg_ hnew_;clear hg_ hnew_;(first | rw [← Ny127.out] at ho3 | (simp only [Int.reduceToNat] at ho3;rw [← Ny127.out] at ho3));have HO129:=a0_ (Kd.R_lower ho3 (below_size hB_));replace HB:=sb_ HB hb;clear hb ho3));go_loopg [3,4] k (fun kq v3 v4 w'=>∃ (x3_1:List (S61)) (x4_1:Int),v4=.int .i64 x4_1∧Aside0 (spec_l3Edges.l0 kq l0 x3_1 x4_1=some r)∧Aside0 (kq≤k)∧Aside0 (Kd.R k61 61 w' w.heap.size (fun _=>True) v3 x3_1)∧Aside0 (Below w.heap.size w w'))
 case atStart=>exact⟨(y127),(0),(by first | rfl | (simp;done) | (simp [*];done)),H',⟨Nat.le_refl _⟩,⟨by (with_reducible repeat (first | apply Kd.R_alloc | apply Kd.R_drewN | apply Kd.R_drew));exact HO129.out⟩,⟨hB_⟩⟩
 case round =>
  clear H';obtain⟨x3_1,x4_1,rfl,HA,HK1,HO_3,HB⟩:=hrel
  cases gk with
  | zero=>exact absurd HA.out (by simp [spec_l3Edges.l0])
  | succ k1 =>
   have H:=HA.out;clear HA;simp only [spec_l3Edges.l0] at H;by_cases c4:x4_1<(l0.length:Int)
   ·
    rw [if_pos c4] at H;have c4b0:decide (x4_1<(l0.length:Int))=true:=decide_eq_true c4;clear c4;by_cases c5:0≤x4_1
    ·
     rw [if_pos c5] at H;have c5b0:decide (0≤x4_1)=true:=decide_eq_true c5;clear c5;by_cases c6:(l0.length:Int)=0
     ·
      rw [if_pos c6] at H;exact absurd H (by simp)
     ·
      rw [if_neg c6] at H;have c6b0:((l0.length:Int)==0)=false:=beq_eq_false_iff_ne.mpr c6;have c6b1:((l0.length:Int) != 0)=true:=bne_iff_ne.mpr c6;have c6b2:¬ (l0=[]):=fun h_=>c6 (by rw [h_];rfl)
      obtain⟨ji7,hji7⟩:∃ j_:Int,(Int.tmod (wrap64 (x4_1+1)) (l0.length:Int))=j_:=⟨_,rfl⟩;replace H:(if 0≤(ji7) then (if (ji7)<(l0.length:Int) then (if x3_1.length<4398046511104 then (spec_l3Edges.l0 k1 l0 (x3_1++[(⟨(⟨(rd_T28 l0 x4_1).f0,(rd_T28 l0 x4_1).f1⟩:S28),(⟨(rd_T28 l0 (ji7)).f0,(rd_T28 l0 (ji7)).f1⟩:S28)⟩:S61)]) (wrap64 (x4_1+1))) else (none)) else (none)) else (none))=some r:=by first | (rw [hji7] at H;exact H) | (simp only [hji7] at H ⊢;exact H)
      by_cases c8:0≤(ji7)
      ·
       rw [if_pos c8] at H;have c8b0:decide (0≤(ji7))=true:=decide_eq_true c8;clear c8;by_cases c9:(ji7)<(l0.length:Int)
       ·
        rw [if_pos c9] at H;have c9b0:decide ((ji7)<(l0.length:Int))=true:=decide_eq_true c9;clear c9;by_cases c10:x3_1.length<4398046511104
        ·
         rw [if_pos c10] at H;have LMc10:=Aside0.mk c10;clear c10;obtain⟨y132,hy132⟩:∃ y_:List (S61),y_=(x3_1++[(⟨(⟨(rd_T28 l0 x4_1).f0,(rd_T28 l0 x4_1).f1⟩:S28),(⟨(rd_T28 l0 (ji7)).f0,(rd_T28 l0 (ji7)).f1⟩:S28)⟩:S61)]):=⟨_,rfl⟩;replace H:(spec_l3Edges.l0 k1 l0 y132 (wrap64 (x4_1+1)))=some r:=by first | (rw [hy132];with_reducible exact H) | (have H2_:=(Option.bind_some _ _).symm.trans H;rw [hy132];with_reducible exact H2_) | (have H2_:=(Option.bind_some _ _).symm.trans H;with_reducible exact H2_) | with_reducible exact H | (rw [hy132];exact H) | exact H
         have Ny132:=Aside0.mk hy132;clear hy132;have H':=Aside0.mk H;clear H
         try go_wp2
         replace HO_3:=a0_ (Kd.R_drew HO_3.out);replace HB:=a0_ (below_drew1 HB.out);have p130:0≤(x4_1:Int):=od_;have q130:x4_1<(l0.length:Int):=od_;obtain⟨ad130,e130,hx130_0,hx130_1⟩:=at_T28 HR0.out x4_1 p130 q130;have hw130_1:=hx130_1;have hw130_0:=hx130_0;cases e130;replace hx130_0:=ce_ HB hx130_0;replace hx130_1:=ce_ HB hx130_1;replace p130:=eq_true p130;replace q130:=eq_true q130;have p131:0≤((ji7):Int):=od_;have q131:(ji7)<(l0.length:Int):=od_;obtain⟨ad131,e131,hx131_0,hx131_1⟩:=at_T28 HR0.out (ji7) p131 q131;have hw131_1:=hx131_1;have hw131_0:=hx131_0;obtain rfl:ad130=ad131:=(by injection e131);replace hx131_0:=ce_ HB hx131_0;replace hx131_1:=ce_ HB hx131_1;replace p131:=eq_true p131;replace q131:=eq_true q131;refine start_ (n:=17) (S:=fun w'=>w'.cell? (ad130.add ((x4_1).toNat*2))=some (.int .i64 ((rd_T28 l0 x4_1).f0))∧w'.cell? ⟨(ad130.add ((x4_1).toNat*2)).block,(ad130.add ((x4_1).toNat*2)).off+1,none⟩=some (.int .i64 ((rd_T28 l0 x4_1).f1))∧w'.cell? (ad130.add (((ji7)).toNat*2))=some (.int .i64 ((rd_T28 l0 (ji7)).f0))∧w'.cell? ⟨(ad130.add (((ji7)).toNat*2)).block,(ad130.add (((ji7)).toNat*2)).off+1,none⟩=some (.int .i64 ((rd_T28 l0 (ji7)).f1))) (ds:=[]) (Array.replicate 17 false) (by kernel_rfl) rfl rfl ⟨(ce_ HB hw130_0),(ce_ HB hw130_1),(ce_ HB hw131_0),(ce_ HB hw131_1)⟩ (fun hHeld=>?_);refine with_tabW spec_l3Edges.tab5 spec_l3Edges.bits5 (fun HT_ HW_=>?_);generalize wr.drew=w11 at HO_3 HB hx130_0 hx130_1 hx131_0 hx131_1 hHeld ⊢
         refine pu_ HT_ 0 12 (bm 17 1) ?_;refine pu_ HT_ 1 13 (bm 17 3) ?_;refine pu_ HT_ 2 14 (bm 17 7) ?_;refine pu_ HT_ 3 15 (bm 17 15) ?_;refine pu_ HT_ 5 17 (bm 17 47) ?_;refine pu_ HT_ 6 18 (bm 17 111) ?_;refine pu_ HT_ 7 19 (bm 17 239) ?_;refine pu_ HT_ 8 20 (bm 17 495) ?_;refine pu_ HT_ 9 21 (bm 17 1007) ?_;refine pu_ HT_ 10 22 (bm 17 2031) ?_;refine pu_ HT_ 11 23 (bm 17 4079) ?_;refine ta4_ HT_ HW_ 4 16 (bm 17 4095) hHeld ?_;refine ta4_ HT_ HW_ 12 24 (bm 17 8191) hHeld ?_;refine pu_ HT_ 13 25 (bm 17 16383) ?_;refine one_ (i:=14) (N:=some 26) (bm 17 32767) rfl rfl (one_of HT_.out (by kernel_rfl)) (by decide) (fun K hK=>?_);refine value_ (w1:=?_) (v:=?_) (by rfl) rfl ?_ ?_;rotate_left 2
         ·
          go_simp;constructor
          ·
           rfl
          ·
           rfl
         refine hK.out _ _ ⟨(World.cell?_alloc_lt _ _ _ (World.block_lt_of_cell? _ _ ((ce_ HB hw130_0)))).trans ((ce_ HB hw130_0)),(World.cell?_alloc_lt _ _ _ (World.block_lt_of_cell? _ _ ((ce_ HB hw130_1)))).trans ((ce_ HB hw130_1)),(World.cell?_alloc_lt _ _ _ (World.block_lt_of_cell? _ _ ((ce_ HB hw131_0)))).trans ((ce_ HB hw131_0)),(World.cell?_alloc_lt _ _ _ (World.block_lt_of_cell? _ _ ((ce_ HB hw131_1)))).trans ((ce_ HB hw131_1))⟩ (fun hHeld=>?_);clear hK K;refine no_ (h:=?_);refine one_ (i:=15) (N:=some 27) (bm 17 65535) rfl rfl (one_of HT_.out (by kernel_rfl)) (by decide) (fun K hK=>?_);refine Kd.R_append_step k61 (w0:=w) w.heap.size (by rfl) (.tmp 12) (.tmp 26) 57 61 (.agg #[(.int .i64 0),(.int .i64 0),(.int .i64 0),(.int .i64 0)]) 32 rfl Tryd.underlying57 info61 rfl (by decide) (by omega) u3 x3_1 (⟨(⟨(rd_T28 l0 x4_1).f0,(rd_T28 l0 x4_1).f1⟩:S28),(⟨(rd_T28 l0 (ji7)).f0,(rd_T28 l0 (ji7)).f1⟩:S28)⟩:S61) [.int .i64 ((rd_T28 l0 x4_1).f0),.int .i64 ((rd_T28 l0 x4_1).f1),.int .i64 ((rd_T28 l0 (ji7)).f0),.int .i64 ((rd_T28 l0 (ji7)).f1)] (fun _=>True) (fun _=>False) rfl rfl ?aP (fun _ hk=>hk.elim) ?aF ?aO ?aB ?aS ?aL ?_
         (case aP=>exact k61_mkM _ _ _ (⟨(⟨(rd_T28 l0 x4_1).f0,(rd_T28 l0 x4_1).f1⟩:S28),(⟨(rd_T28 l0 (ji7)).f0,(rd_T28 l0 (ji7)).f1⟩:S28)⟩:S61))
         (case aB=>exact hB_)
         (case aF=>exact (fun _ _=>trivial))
         (case aO=>exact (uR_ HO_3))
         (case aS=>exact (below_size hB_))
         (case aL=>have:=LMc10.out;omega)
         intro v133 w12 ho hb hg hat;rw [← Ny132.out] at ho;have HO134:=a0_ (ho);replace HB:=a0_ (hb);clear HO_3;clear ho hb hg hat;refine hK.out _ _ ⟨(ce_ HB hw130_0),(ce_ HB hw130_1),(ce_ HB hw131_0),(ce_ HB hw131_1)⟩ (fun hHeld=>?_);clear hK K;refine no_ (h:=?_);refine pu_ HT_ 16 3 (bm 17 131071) ?_;refine done_ (done_of HT_.out (by kernel_rfl)) ?_
         try go_wp2
         go_roundg k1
         case measure=>have:=HK1.out;omega
         case rel=>exact⟨(y132),(wrap64 (x4_1+1)),(by first | rfl | (simp;done) | (simp [*];done)),H',⟨by have:=HK1.out;omega⟩,⟨by (with_reducible repeat (first | apply Kd.R_alloc | apply Kd.R_drewN | apply Kd.R_drew));exact HO134.out⟩,⟨hB_⟩⟩
        ·
         rw [if_neg c10] at H;exact absurd H (by simp)
       ·
        rw [if_neg c9] at H;exact absurd H (by simp)
      ·
       rw [if_neg c8] at H;exact absurd H (by simp)
    ·
     rw [if_neg c5] at H;exact absurd H (by simp)
   ·
    rw [if_neg c4] at H;have c4b0:decide (x4_1<(l0.length:Int))=false:=decide_eq_false c4;clear c4;obtain rfl:=Option.some.inj H;go_wp2;go_ret;exact⟨_,rr_,by (with_reducible repeat (first | apply Kd.R_alloc | apply Kd.R_drewN | apply Kd.R_drew));exact HO_3.out,hB_⟩
end Go.Proofs.YtkefmnmoaomlhaaDoor.X
end
section
set_option linter.unusedVariables false
set_option linter.unusedSimpArgs false
namespace Go.Proofs.YtkefmnmoaomlhaaDoor.X
open Go.RowKit Go.Shelf Go.Proofs.YtkefmnmoaomlhaaDoorW.PrintWords Go.Proofs.YtkefmnmoaomlhaaDoorW.PrintLast Go.Proofs.YtkefmnmoaomlhaaDoorW.PrintMore
attribute [local go_sem] Oper.semAt_some
def KpE (n₀ Bs:Nat)(A B:World):Prop:=A.heap.size≤B.heap.size∧∀ k,(k<n₀∨k=Bs)→k<A.heap.size→B.heap[k]?=A.heap[k]?
theorem KpE.refl (n₀ Bs:Nat)(A:World):KpE n₀ Bs A A:=⟨Nat.le_refl _,fun _ _ _=>rfl⟩
theorem KpE.trans {n₀ Bs:Nat}{A B C:World}(h:KpE n₀ Bs A B)(k:KpE n₀ Bs B C):KpE n₀ Bs A C:=
 ⟨Nat.le_trans h.1 k.1,fun i hi hl=>(k.2 i hi (Nat.lt_of_lt_of_le hl h.1)).trans (h.2 i hi hl)⟩
theorem KpE.below {n₀ Bs:Nat}{A B:World}(h:Below A.heap.size A B):KpE n₀ Bs A B:=⟨h.size,fun k _ hl=>h.block k hl⟩
theorem KpE.alloc (n₀ Bs:Nat)(A:World)(o:Obj):KpE n₀ Bs A (A.alloc o):=KpE.below (below_alloc (Below.refl _ _) o)
theorem KpE.set {n₀ Bs:Nat}(A:World){p:Addr}(h1:n₀≤p.block)(h2:p.block≠Bs)(u:Value):KpE n₀ Bs A (A.setCell p u):=
 ⟨by simp [World.setCell],fun k hk _=>Below.heap_setCell A p u k (by omega)⟩
theorem KpE.cell {n₀ Bs:Nat}{A B:World}(h:KpE n₀ Bs A B){p:Addr}(hp:p.block<n₀∨p.block=Bs)(hl:p.block<A.heap.size):B.cell? p=A.cell? p:=World.cell?_of_block (w:=A) (h.2 p.block hp hl)
theorem KpE.putObj {n₀ Bs:Nat}(W:World)(l:Nat)(o':Obj)(h1:n₀≤l)(h2:l≠Bs):KpE n₀ Bs W (W.putObj l o'):=
 ⟨by simp [World.putObj],fun k hk _=>World.putObj_heap_other (by omega)⟩
def edS (zs:List S28)(j:Nat):S61:=⟨zs.getD j z28,zs.getD ((j+1) % zs.length) z28⟩
def edV (x:S61):Value:=.agg #[.int .i64 x.f0.f0,.int .i64 x.f0.f1,.int .i64 x.f1.f0,.int .i64 x.f1.f1]
theorem blk_add (ad:Addr)(n:Nat):(ad.add n).block=ad.block:=by unfold Addr.add;split <;> rfl
theorem at_pt {W:World}{A:Option Addr}{zs:List S28}(hC:Kd.C k28 W A zs.length zs)(k:Nat)(h:k<zs.length):
  ∃ ad,A=some ad∧W.cell? (ad.add (k*2))=some (.int .i64 (zs.getD k z28).f0)∧W.cell? ⟨(ad.add (k*2)).block,(ad.add (k*2)).off+1,none⟩=some (.int .i64 (zs.getD k z28).f1):=
 at_T28 hC (k:Int) (by omega) (by omega)
set_option maxRecDepth 100000 in
set_option maxHeartbeats 2000000 in
theorem edges1_in (n:Nat)(hn:1≤n)(l Bs n₀:Nat)(A:Option Addr)(c:Nat)(zs:List S28)(hreach:zs.length≤1000000)
  (hAb:∀ ad,A=some ad→ad.block<n₀) (J Jx:Nat→World→Prop)
  (hJ:∀ k A B,J k A→Below A.heap.size A B→J k B)
  (hY:∀ k W,k<zs.length→J k W→YieldAt Fence.wide (n-1) Tryd.prog l #[.int .i64 (k:Int),edV (edS zs k)] W fun e W' =>
   (e=.returned (.bool true)∧J (k+1) W'∧KpE n₀ Bs W W')∨(e=.returned (.bool false)∧Jx (k+1) W'))
  (W:World) (hBl:Bs<W.heap.size) (hn₀:n₀≤W.heap.size) (hBs:W.cell? ⟨Bs,0,none⟩=some (.slice A zs.length c)) (hC0:Kd.C k28 W A zs.length zs) (h0:J 0 W) :
  CallsIn Fence.wide n Tryd.prog 114 #[.func (.yield l) #[] #[],.pointer (some ⟨Bs,0,none⟩)] W fun e W'=>(∃ v,e=.returned v) ∧
   (J zs.length W'∨∃ k,k≤zs.length∧Jx k W'):=by
 refine callsIn_of_wp Tryd.func114 rfl trivial ?_ rfl;simp only [Tryd.ntmps114,List.size_toArray,List.length_cons,List.length_nil,Nat.reduceAdd,Nat.reduceSub,Array.replicate_succ,Array.replicate_zero,List.push_toArray,List.append_toArray,List.nil_append,List.cons_append];gi_wp2;gi_loopw [7] (fun i wr=>∃ k:Nat,k≤zs.length∧i=.int .i64 k∧J k wr∧KpE n₀ Bs W wr)
  (fun i _=>zs.length-(intOf i).toNat)
 case atStart=>exact⟨0,Nat.zero_le _,rfl,h0,KpE.refl _ _ _⟩
 case round =>
  obtain⟨k,hk,rfl,hJ0,hnx⟩:=hrel;by_cases hlt:k<zs.length
  ·
   have hm:(k+1) % zs.length<zs.length:=Nat.mod_lt _ (by omega);obtain⟨ad,hA,hx0,hx1⟩:=at_pt hC0 k hlt;obtain⟨ad',hA',hy0,hy1⟩:=at_pt hC0 ((k+1) % zs.length) hm;obtain rfl:ad=ad':=by rw [hA] at hA';exact Option.some.inj hA'
   clear hA';have hE0:edV (edS zs k)=.agg #[.int .i64 (zs.getD k z28).f0,.int .i64 (zs.getD k z28).f1,.int .i64 (zs.getD ((k+1) % zs.length) z28).f0,.int .i64 (zs.getD ((k+1) % zs.length) z28).f1]:=rfl;have hE:=Aside0.mk hE0;clear hE0;have hT:Int.tmod ((k:Int)+1) (zs.length:Int)=(((k+1) % zs.length:Nat):Int):=rfl;have hT':=Aside0.mk hT;clear hT;generalize (k+1) % zs.length=m at *;have cBs:wr.cell? ⟨Bs,0,none⟩=some (.slice A zs.length c):=(hnx.cell (.inr rfl) hBl).trans hBs;subst hA;have hadb:ad.block<n₀:=hAb ad rfl;have old:∀ (o:Nat),wr.cell? ⟨ad.block,o,none⟩=W.cell? ⟨ad.block,o,none⟩:=fun o=>hnx.cell (p:=⟨ad.block,o,none⟩) (.inl hadb) (Nat.lt_of_lt_of_le hadb hn₀)
   have old':∀ (o:Nat),wr.cell? (ad.add o)=W.cell? (ad.add o):=fun o=>hnx.cell (p:=ad.add o) (.inl (by rw [blk_add];exact hadb)) (by rw [blk_add];exact Nat.lt_of_lt_of_le hadb hn₀)
   rw [← old'] at hx0 hy0;rw [blk_add,← old] at hx1 hy1;rw [← blk_add ad (k*2)] at hx1;rw [← blk_add ad (m*2)] at hy1;clear old old';generalize (zs.getD k z28).f0=px at *;generalize (zs.getD k z28).f1=py at *;generalize (zs.getD m z28).f0=qx at *;generalize (zs.getD m z28).f1=qy at *;have hu28:=Tryd.underlying28;gi_wp2;have hJ2:=hJ _ _ _ hJ0 (below_drew1 (below_alloc (Below.refl _ wr) (.cells #[.int .i64 px,.int .i64 py] 28)));obtain⟨fn,tmps,assign,body,hy,hR⟩:=YieldAt.mono (R':=fun e W'=>∃ b,e=.returned (.bool b)∧Aside0 ((b=true∧J (k+1) W'∧KpE n₀ Bs ((wr.alloc (.cells #[.int .i64 px,.int .i64 py] 28)).drew) W')∨(b=false∧Jx (k+1) W')))
    (hY k _ hlt hJ2) (fun e W' h=>by
    rcases h with ⟨rfl,h1,h2⟩ | ⟨rfl,h1⟩
    ·
     exact⟨true,rfl,⟨.inl ⟨rfl,h1,h2⟩⟩⟩
    ·
     exact⟨false,rfl,⟨.inr ⟨rfl,h1⟩⟩⟩)
   rw [hE.out] at hy;have later:∀ a v,wr.cell? a=some v→((wr.alloc (.cells #[.int .i64 px,.int .i64 py] 28)).drew).cell? a=some v:=fun a v h=>pw_cell_below (below_drew1 (below_alloc (Below.refl _ wr) _)) h
   have cBs2:=later _ _ cBs;have hy0':=later _ _ hy0;have hy1':=later _ _ hy1;clear later;have hT:=hT'.out;have hw:IntKind.i64.wrap ((k:Int)+1)=(k:Int)+1:=IntWalk.i64_in _ (by omega);have hz:¬ zs.length=0:=by omega
   have hz2:¬ ((zs.length:Int)=0):=by omega
   have hz3:((zs.length:Int)==0)=false:=by simpa using hz2
   gi_region_with (refine hR.mono ?_;rintro e W3 ⟨b,rfl,hb⟩)
   all_goals
    have hb':=hb.out;clear hb;have hn1:KpE n₀ Bs W (wr.alloc (.cells #[.int .i64 px,.int .i64 py] 28)).drew:=hnx.trans (KpE.below (below_drew1 (below_alloc (Below.refl _ wr) _)))
    rcases hb' with ⟨rfl,hj3,hk3⟩ | ⟨rfl,hjx⟩
    ·
     gi_wp2;go_roundw
     case rel=>exact⟨k+1,by omega,by simp,hj3,hn1.trans hk3⟩
     case measure=>simp [intOf];omega
    ·
     gi_wp2;refine bodyPost_ret (results_none rfl _ _ _) rfl ?_;exact⟨⟨_,rfl⟩,.inr ⟨k+1,by omega,hjx⟩⟩
  ·
   obtain rfl:k=zs.length:=by omega
   gi_wp2;go_end0;exact⟨⟨_,rfl⟩,.inl hJ0⟩
end Go.Proofs.YtkefmnmoaomlhaaDoor.X
end
section
set_option linter.unusedVariables false
set_option linter.unusedSimpArgs false
namespace Mort
abbrev Pt:=Int × Int
abbrev Seg:=Pt × Pt
def ptOk (p:Pt):Bool:=decide (0≤p.1∧p.1≤9∧0≤p.2∧p.2≤9)
def segOk (s:Seg):Bool:=ptOk s.1 && (ptOk s.2 && !(s.1.1==s.2.1 && s.1.2==s.2.2))
def cross (a b c:Pt):Int:=(b.1-a.1)*(c.2-a.2)-(b.2-a.2)*(c.1-a.1)
def dot (a b c:Pt):Int:=(b.1-a.1)*(c.1-a.1)+(b.2-a.2)*(c.2-a.2)
def sgn (n:Int):Int:=if n<0 then -1 else if n>0 then 1 else 0
def has (s:Seg)(p:Pt):Bool:=cross s.1 s.2 p==0 && (decide (0≤dot s.1 s.2 p) && decide (dot s.1 s.2 p≤dot s.1 s.2 s.2))
def meet (s t:Seg):Bool:=
 (decide (sgn (cross s.1 s.2 t.1)*sgn (cross s.1 s.2 t.2)<0) && decide (sgn (cross t.1 t.2 s.1)*sgn (cross t.1 t.2 s.2)<0)) ||
 (has s t.1 || (has s t.2 || (has t s.1 || has t s.2)))
def segTurn (a b c:Pt):Int:=if ptOk a && (ptOk b && ptOk c) then sgn (cross a b c) else 0
def segHas (s:Seg)(p:Pt):Bool:=segOk s && (ptOk p && has s p)
def segMeet (s t:Seg):Bool:=segOk s && (segOk t && meet s t)
def far (s:Seg)(p:Pt):Int × Int:=
 if dot s.1 s.2 p≤0 then (dot s.1 p p,1) else if dot s.1 s.2 s.2≤dot s.1 s.2 p then (dot s.2 p p,1)
 else (cross s.1 s.2 p*cross s.1 s.2 p,dot s.1 s.2 s.2)
def val (f:Int × Int):Rat:=(f.1:Rat) / (f.2:Rat)
theorem cast_cross (a b c:Pt):((cross a b c:Int):Rat)=((b.1:Rat)-a.1)*(c.2-a.2)-(b.2-a.2)*(c.1-a.1):=by
 unfold cross;push_cast;rfl
theorem cast_le {a b:Int}:(a:Rat)≤(b:Rat) ↔ a≤b:=Rat.intCast_le_intCast
theorem cast_lt {a b:Int}:(a:Rat)<(b:Rat) ↔ a<b:=Rat.intCast_lt_intCast
theorem dot_self_nn (a b:Pt):0≤dot a b b:=by
 unfold dot;have h1:0≤(b.1-a.1)*(b.1-a.1):=by
  rcases Int.le_total 0 (b.1-a.1) with h | h
  ·
   exact Int.mul_nonneg h h
  ·
   exact Int.mul_nonneg_of_nonpos_of_nonpos h h
 have h2:0≤(b.2-a.2)*(b.2-a.2):=by
  rcases Int.le_total 0 (b.2-a.2) with h | h
  ·
   exact Int.mul_nonneg h h
  ·
   exact Int.mul_nonneg_of_nonpos_of_nonpos h h
 omega
theorem isq_nn (x:Int):0≤x*x:=by
 rcases Int.le_total 0 x with h | h
 ·
  exact Int.mul_nonneg h h
 ·
  exact Int.mul_nonneg_of_nonpos_of_nonpos h h
theorem isq_pos {x:Int}(h:x≠0):0<x*x:=by
 rcases Int.lt_or_gt_of_ne h with h | h
 ·
  exact Int.mul_pos_of_neg_of_neg h h
 ·
  exact Int.mul_pos h h
theorem dot_self_pos {a b:Pt}(h:¬ (a.1=b.1∧a.2=b.2)):0<dot a b b:=by
 unfold dot;have h1:=isq_nn (b.1-a.1);have h2:=isq_nn (b.2-a.2);by_cases e:a.1=b.1
 ·
  have:=isq_pos (x:=b.2-a.2) (by intro h3;exact h ⟨e,by omega⟩);omega
 ·
  have:=isq_pos (x:=b.1-a.1) (by intro h3;exact e (by omega));omega
theorem rat_le_of_mul {x y d:Rat}(hd:0<d)(h:x*d≤y*d):x≤y:=Rat.le_of_mul_le_mul_right h hd
theorem div_mul_self {x d:Rat}(hd:0<d):x / d*d=x:=by
 have:d≠0:=by grind
 exact Rat.div_mul_cancel this
theorem eq_of_mul {x y d:Rat}(hd:0<d)(h:(x-y)*d=0):x=y:=by
 have:d≠0:=by grind
 rcases Rat.mul_eq_zero.1 h with h | h
 ·
  grind
 ·
  exact absurd h this
def px (a b:Pt)(t:Rat):Rat:=a.1+t*(b.1-a.1)
def py (a b:Pt)(t:Rat):Rat:=a.2+t*(b.2-a.2)
theorem meet_iff (s t:Seg):meet s t=true ↔ (sgn (cross s.1 s.2 t.1)*sgn (cross s.1 s.2 t.2)<0∧sgn (cross t.1 t.2 s.1)*sgn (cross t.1 t.2 s.2)<0) ∨
  has s t.1=true∨has s t.2=true∨has t s.1=true∨has t s.2=true:=by
 unfold meet;simp
def dd (s t:Seg)(u v:Rat):Rat:=(px s.1 s.2 u-px t.1 t.2 v)*(px s.1 s.2 u-px t.1 t.2 v)+(py s.1 s.2 u-py t.1 t.2 v)*(py s.1 s.2 u-py t.1 t.2 v)
def nearEnds (s t:Seg)(x:Rat):Prop:=val (far s t.1)≤x∨val (far s t.2)≤x∨val (far t s.1)≤x∨val (far t s.2)≤x
theorem nearEnds.mono {s t:Seg}{x y:Rat}(h:nearEnds s t x)(k:x≤y):nearEnds s t y:=by
 rcases h with h | h | h | h
 ·
  exact .inl (Rat.le_trans h k)
 ·
  exact .inr (.inl (Rat.le_trans h k))
 ·
  exact .inr (.inr (.inl (Rat.le_trans h k)))
 ·
  exact .inr (.inr (.inr (Rat.le_trans h k)))
def rc (ax ay bx cy x y:Rat):Rat:=(bx-ax)*(y-ay)-(cy-ay)*(x-ax)
def crsQ (ax ay bx cy x y:Rat):Bool:=
 (decide (ay≤y) && (decide (y<cy) && decide (0<rc ax ay bx cy x y))) || (decide (cy≤y) && (decide (y<ay) && decide (rc ax ay bx cy x y<0)))
def xorAll:List Bool→Bool
 | []=>false
 | b::l=>b ^^ xorAll l
theorem xorAll_append (l m:List Bool):xorAll (l++m)=(xorAll l ^^ xorAll m):=by
 induction l with
 | nil=>simp [xorAll]
 | cons b l ih=>simp [xorAll,ih]
theorem xorAll_map {α:Type}(l:List α)(f g:α→Bool):xorAll (l.map fun x=>f x ^^ g x)=(xorAll (l.map f) ^^ xorAll (l.map g)):=by
 induction l with
 | nil=>rfl
 | cons x l ih =>
  simp only [List.map_cons,xorAll,ih];cases f x <;> cases g x <;> cases xorAll (l.map f) <;> cases xorAll (l.map g) <;> rfl
def turned (l:List Pt):List Pt:=l.drop 1++l.take 1
def edges (l:List Pt):List Seg:=l.zip (turned l)
theorem turned_length (l:List Pt):(turned l).length=l.length:=by
 unfold turned;simp;omega
theorem edges_length (l:List Pt):(edges l).length=l.length:=by
 unfold edges;simp [turned_length]
theorem edges_fst (l:List Pt):(edges l).map Prod.fst=l:=by
 unfold edges;exact List.map_fst_zip (by rw [turned_length];exact Nat.le_refl _)
theorem edges_snd (l:List Pt):(edges l).map Prod.snd=turned l:=by
 unfold edges;exact List.map_snd_zip (by rw [turned_length];exact Nat.le_refl _)
theorem closed (l:List Pt)(g:Pt→Bool):xorAll ((edges l).map fun e=>g e.1 ^^ g e.2)=false:=by
 rw [xorAll_map (edges l) (fun e=>g e.1) (fun e=>g e.2)];have h1:(edges l).map (fun e=>g e.1)=l.map g:=by
  rw [show (fun e:Seg=>g e.1)=g ∘ Prod.fst from rfl,← List.map_map,edges_fst]
 have h2:(edges l).map (fun e=>g e.2)=(turned l).map g:=by
  rw [show (fun e:Seg=>g e.2)=g ∘ Prod.snd from rfl,← List.map_map,edges_snd]
 rw [h1,h2];unfold turned;rw [List.map_append,xorAll_append,Bool.xor_comm (xorAll ((l.drop 1).map g)),← xorAll_append,← List.map_append,List.take_append_drop];cases xorAll (l.map g) <;> rfl
def par (l:List Pt)(x y:Rat):Bool:=xorAll ((edges l).map fun e=>crsQ e.1.1 e.1.2 e.2.1 e.2.2 x y)
theorem np {x y:Rat}(hx:x≤0)(hy:0≤y):x*y≤0:=by
 have:=Rat.mul_nonneg (by grind:0 ≤ -x) hy;grind
theorem nn {x y:Rat}(hx:x≤0)(hy:y≤0):0≤x*y:=by
 have:=Rat.mul_nonneg (by grind:0 ≤ -x) (by grind:0 ≤ -y);grind
def nd (s:Seg):Prop:=0<dot s.1 s.2 s.2
theorem segOk_iff (s:Seg):segOk s=true ↔ ptOk s.1=true∧ptOk s.2=true∧¬ (s.1.1=s.2.1∧s.1.2=s.2.2):=by
 unfold segOk;by_cases a:s.1.1=s.2.1 <;> by_cases b:s.1.2=s.2.2 <;> simp [a,b]
theorem ptOk_iff (p:Pt):ptOk p=true ↔ 0≤p.1∧p.1≤9∧0≤p.2∧p.2≤9:=by unfold ptOk;simp
theorem nd_of_ok {s:Seg}(h:segOk s=true):nd s:=dot_self_pos ((segOk_iff s).1 h).2.2
def joined (s t:Seg):Bool := !has s t.2 && !has t s.1
def ed (l:List Pt)(i:Nat):Seg:=(l.getD i (0,0),l.getD ((i+1) % l.length) (0,0))
theorem edges_getElem? (l:List Pt)(i:Nat)(h:i<l.length):(edges l)[i]?=some (ed l i):=by
 have h2:(turned l)[i]?=some (l.getD ((i+1) % l.length) (0,0)):=by
  unfold turned;by_cases k:i+1<l.length
  ·
   rw [Nat.mod_eq_of_lt k,List.getElem?_append_left (by simp;omega),List.getElem?_drop,Nat.add_comm 1 i];rw [List.getD_eq_getElem?_getD,List.getElem?_eq_getElem k];rfl
  ·
   have e:i+1=l.length:=by omega
   rw [e,Nat.mod_self,List.getElem?_append_right (by simp;omega)];have:i-(l.drop 1).length=0:=by simp;omega
   rw [this,List.getElem?_take_of_lt (by omega),List.getD_eq_getElem?_getD,List.getElem?_eq_getElem (by omega)];rfl
 unfold edges;rw [List.getElem?_zip_eq_some];refine⟨?_,h2⟩;unfold ed;simp only;rw [List.getD_eq_getElem?_getD,List.getElem?_eq_getElem h];rfl
theorem mem_edges {l:List Pt}{e:Seg}:e∈edges l ↔ ∃ i,i<l.length∧e=ed l i:=by
 rw [List.mem_iff_getElem?];constructor
 ·
  rintro⟨i,hi⟩;have hlt:=(List.getElem?_eq_some_iff.1 hi).1;rw [edges_length] at hlt;rw [edges_getElem? l i hlt] at hi;exact⟨i,hlt,by injection hi with hi;exact hi.symm⟩
 ·
  rintro⟨i,hi,rfl⟩;exact⟨i,edges_getElem? l i hi⟩
def pairOk (l:List Pt)(i j:Nat):Bool:=
 if j≤i then true else if j=i+1 then joined (ed l i) (ed l j) else if i=0∧j+1=l.length then joined (ed l j) (ed l i) else !meet (ed l i) (ed l j)
def loopOk (l:List Pt):Bool:=
 (decide (3≤l.length) && decide (l.length≤8)) && ((edges l).all segOk && (List.range l.length).all fun i=>(List.range l.length).all fun j=>pairOk l i j)
def onB (l:List Pt)(p:Pt):Bool:=(edges l).any fun e=>has e p
def inOf (l:List Pt)(p:Pt):Int:=if onB l p then 0 else if par l p.1 p.2 then 1 else -1
def apartB (a b:List Pt):Bool:=(edges a).all fun e=>(edges b).all fun f => !meet e f
theorem loopOk_iff (l:List Pt):loopOk l=true ↔ 3≤l.length∧l.length≤8∧(∀ e∈edges l,segOk e=true)∧∀ i j,i<l.length→j<l.length→pairOk l i j=true:=by
 unfold loopOk;simp only [Bool.and_eq_true,decide_eq_true_eq,List.all_eq_true,List.mem_range];constructor
 ·
  rintro⟨⟨h1,h2⟩,h3,h4⟩;exact⟨h1,h2,h3,fun i j hi hj=>h4 i hi j hj⟩
 ·
  rintro⟨h1,h2,h3,h4⟩;exact⟨⟨h1,h2⟩,h3,fun i hi j hj=>h4 i j hi hj⟩
theorem onB_iff (l:List Pt)(p:Pt):onB l p=true ↔ ∃ e∈edges l,has e p=true:=by unfold onB;simp
theorem onB_false (l:List Pt)(p:Pt):onB l p=false ↔ ∀ e∈edges l,has e p=false:=by unfold onB;simp
theorem apartB_iff (a b:List Pt):apartB a b=true ↔ ∀ e∈edges a,∀ f∈edges b,meet e f=false:=by unfold apartB;simp
structure Motion (f:Pt→Pt) (s:Int):Prop where
 sq:s*s=1
 dot:∀ a b c,dot (f a) (f b) (f c)=Mort.dot a b c
 cross:∀ a b c,cross (f a) (f b) (f c)=s*Mort.cross a b c
def segMap (f:Pt→Pt)(s:Seg):Seg:=(f s.1,f s.2)
theorem Motion.sign {f:Pt→Pt}{s:Int}(h:Motion f s):s=1∨s = -1:=by
 have:=h.sq;have:(s-1)*(s+1)=0:=by grind
 rcases Int.mul_eq_zero.1 this with k | k
 ·
  left;omega
 ·
  right;omega
theorem Motion.has {f:Pt→Pt}{s:Int}(h:Motion f s)(e:Seg)(p:Pt):has (segMap f e) (f p)=has e p:=by
 unfold Mort.has segMap;simp only [h.dot,h.cross]
 rcases h.sign with rfl | rfl
 ·
  simp
 ·
  have:(-1*Mort.cross e.1 e.2 p==0)=(Mort.cross e.1 e.2 p==0):=by
   rw [Bool.eq_iff_iff];simp
  rw [this]
theorem Motion.far {f:Pt→Pt}{s:Int}(h:Motion f s)(e:Seg)(p:Pt):far (segMap f e) (f p)=far e p:=by
 unfold Mort.far segMap;simp only [h.dot,h.cross];have:s*Mort.cross e.1 e.2 p*(s*Mort.cross e.1 e.2 p)=Mort.cross e.1 e.2 p*Mort.cross e.1 e.2 p:=by
  have:=h.sq;have k:s*Mort.cross e.1 e.2 p*(s*Mort.cross e.1 e.2 p)=(s*s)*(Mort.cross e.1 e.2 p*Mort.cross e.1 e.2 p):=by grind
  rw [k,this,Int.one_mul]
 rw [this]
theorem Motion.inj {f:Pt→Pt}{s:Int}(h:Motion f s){a b:Pt}(hf:nd (a,b)):¬ ((f a).1=(f b).1∧(f a).2=(f b).2):=by
 rintro⟨e1,e2⟩;have:=h.dot a b b;unfold nd at hf;simp only at hf;rw [← this] at hf;unfold Mort.dot at hf;rw [e1,e2] at hf;simp at hf
abbrev Plate:=List Pt × List (List Pt)
def nested (o:List Pt)(hs:List (List Pt)):Bool:=
 hs.all fun h=>inOf o (h.getD 0 (0,0))==1
def plateOk (P:Plate):Bool:=
 (decide (P.2.length≤2) && loopOk P.1) && (P.2.all loopOk && (P.2.all (apartB P.1) && (nested P.1 P.2 && match P.2 with
  | [a,b]=>apartB a b && (inOf b (a.getD 0 (0,0)) == -1 && inOf a (b.getD 0 (0,0)) == -1)
  | _=>true)))
def plateEdges (P:Plate):List Seg:=edges P.1++P.2.flatMap edges
abbrev Frac:=Int × Int
def fracOk (f:Frac):Bool:=decide (0≤f.1) && (decide (f.1≤99999) && (decide (1≤f.2) && (decide (f.2≤99999) && Int.gcd f.1 f.2==1)))
def red (f:Int × Int):Frac:=(f.1 / (Int.gcd f.1 f.2:Int),f.2 / (Int.gcd f.1 f.2:Int))
def cmp0 (a b:Frac):Int:=if a.1*b.2<b.1*a.2 then -1 else if a.1*b.2>b.1*a.2 then 1 else 0
def fracCmp (a b:Frac):Int:=if fracOk a && fracOk b then cmp0 a b else 2
def inR (f:Int × Int):Prop:=0≤f.1∧f.1≤99999∧1≤f.2∧f.2≤99999
theorem fracOk_iff (f:Frac):fracOk f=true ↔ inR f∧Int.gcd f.1 f.2=1:=by
 unfold fracOk inR;simp only [Bool.and_eq_true,decide_eq_true_eq,beq_iff_eq];constructor
 ·
  rintro⟨h1,h2,h3,h4,h5⟩;exact⟨⟨h1,h2,h3,h4⟩,h5⟩
 ·
  rintro⟨⟨h1,h2,h3,h4⟩,h5⟩;exact⟨h1,h2,h3,h4,h5⟩
theorem gcd_pos {f:Int × Int}(h:inR f):0<Int.gcd f.1 f.2:=Int.gcd_pos_of_ne_zero_right _ (by have:=h.2.2.1;omega)
theorem red_mul (f:Int × Int):(red f).1*(Int.gcd f.1 f.2:Int)=f.1∧(red f).2*(Int.gcd f.1 f.2:Int)=f.2:=
 ⟨Int.ediv_mul_cancel (Int.gcd_dvd_left _ _),Int.ediv_mul_cancel (Int.gcd_dvd_right _ _)⟩
theorem red_inR {f:Int × Int}(h:inR f):inR (red f):=by
 have hg:=gcd_pos h;have hm:=red_mul f;obtain⟨h1,h2,h3,h4⟩:=h;have g1:(1:Int)≤(Int.gcd f.1 f.2:Int):=by omega
 refine⟨?_,?_,?_,?_⟩
 ·
  exact Int.ediv_nonneg h1 (by omega)
 ·
  exact Int.le_trans (Int.ediv_le_self _ h1) h2
 ·
  have:(red f).2≠0:=by intro e;rw [e] at hm;omega
  have:=Int.ediv_nonneg (a:=f.2) (b:=(Int.gcd f.1 f.2:Int)) (by omega) (by omega);unfold red at *;simp only at *;omega
 ·
  exact Int.le_trans (Int.ediv_le_self _ (by omega)) h4
theorem red_ok {f:Int × Int}(h:inR f):fracOk (red f)=true:=by
 rw [fracOk_iff];refine⟨red_inR h,?_⟩;unfold red;exact Int.gcd_ediv_gcd_ediv_gcd (gcd_pos h)
theorem red_of_ok {f:Frac}(h:fracOk f=true):red f=f:=by
 rw [fracOk_iff] at h;unfold red;rw [h.2];simp
theorem val_red {f:Int × Int}(h:inR f):val (red f)=val f:=by
 have hg:=gcd_pos h;have hm:=red_mul f;have hr:=red_inR h;have p1:(0:Rat)<((red f).2:Int):=by exact_mod_cast hr.2.2.1
 have p2:(0:Rat)<(f.2:Int):=by exact_mod_cast h.2.2.1
 have e1:=div_mul_self (x:=((red f).1:Int)) p1;have e2:=div_mul_self (x:=(f.1:Int)) p2;unfold val;have k1:(f.1:Rat)=((red f).1:Int)*((Int.gcd f.1 f.2:Int):Rat):=by exact_mod_cast hm.1.symm
 have k2:(f.2:Rat)=((red f).2:Int)*((Int.gcd f.1 f.2:Int):Rat):=by exact_mod_cast hm.2.symm
 have k3:(0:Rat)<((Int.gcd f.1 f.2:Int):Rat):=by exact_mod_cast hg
 generalize ((red f).1:Rat) / ((red f).2:Rat)=x at *;generalize (f.1:Rat) / (f.2:Rat)=y at *;apply eq_of_mul p2;have:(x-y)*(f.2:Rat)=x*(f.2:Rat)-y*(f.2:Rat):=by grind
 rw [this,e2,k1,k2,← Rat.mul_assoc,e1];exact Rat.sub_self
theorem val_le {a b:Int × Int}(ha:1≤a.2)(hb:1≤b.2):val a≤val b ↔ a.1*b.2≤b.1*a.2:=by
 have p1:(0:Rat)<(a.2:Int):=by exact_mod_cast ha
 have p2:(0:Rat)<(b.2:Int):=by exact_mod_cast hb
 have e1:=div_mul_self (x:=(a.1:Int)) p1;have e2:=div_mul_self (x:=(b.1:Int)) p2;have p12:(0:Rat)<(a.2:Int)*(b.2:Int):=Rat.mul_pos p1 p2;unfold val;rw [← cast_le]
 push_cast
 generalize (a.1:Rat) / (a.2:Rat)=x at *;generalize (b.1:Rat) / (b.2:Rat)=y at *;rw [← e1,← e2];have k1:x*(a.2:Rat)*(b.2:Rat)=x*((a.2:Int)*(b.2:Int)):=by grind
 have k2:y*(b.2:Rat)*(a.2:Rat)=y*((a.2:Int)*(b.2:Int)):=by grind
 rw [k1,k2];constructor
 ·
  intro h;exact Rat.mul_le_mul_of_nonneg_right h (Rat.le_of_lt p12)
 ·
  intro h;exact rat_le_of_mul p12 h
theorem cmp0_neg {a b:Frac}(ha:1≤a.2)(hb:1≤b.2):cmp0 a b<0 ↔ val a<val b:=by
 have:=val_le hb ha;rw [← Rat.not_le,this];unfold cmp0
 split
 ·
  simp;omega
 ·
  split <;> simp <;> omega
theorem cmp0_pos {a b:Frac}(ha:1≤a.2)(hb:1≤b.2):0<cmp0 a b ↔ val b<val a:=by
 have:=val_le ha hb;rw [← Rat.not_le,this];unfold cmp0
 split
 ·
  simp;omega
 ·
  split <;> simp <;> omega
theorem cmp0_le {a b:Frac}(ha:1≤a.2)(hb:1≤b.2):cmp0 a b≤0 ↔ val a≤val b:=by
 have:=cmp0_pos ha hb;rw [← Int.not_lt,this,Rat.not_lt]
theorem cmp0_ge {a b:Frac}(ha:1≤a.2)(hb:1≤b.2):0≤cmp0 a b ↔ val b≤val a:=by
 have:=cmp0_neg ha hb;rw [← Int.not_lt,this,Rat.not_lt]
theorem cmp0_zero {a b:Frac}(ha:1≤a.2)(hb:1≤b.2):cmp0 a b=0 ↔ val a=val b:=by
 have h1:=cmp0_le ha hb;have h2:=cmp0_ge ha hb;constructor
 ·
  intro h;exact Rat.le_antisymm (h1.1 (by omega)) (h2.1 (by omega))
 ·
  intro h;have:=h1.2 (by rw [h];exact Rat.le_refl);have:=h2.2 (by rw [h];exact Rat.le_refl);omega
theorem fracCmp_ok {a b:Frac}(ha:fracOk a=true)(hb:fracOk b=true):fracCmp a b=cmp0 a b:=by unfold fracCmp;rw [ha,hb];rfl
theorem dvd_coprime {d n m:Int}(h:d ∣ n*m)(hg:Int.gcd d n=1):d ∣ m:=by
 have h1:d.natAbs ∣ n.natAbs*m.natAbs:=by rw [← Int.natAbs_mul];exact Int.natAbs_dvd_natAbs.2 h
 have h2:Nat.Coprime d.natAbs n.natAbs:=hg;exact Int.natAbs_dvd_natAbs.1 (Nat.Coprime.dvd_of_dvd_mul_left h2 h1)
theorem frac_eq {a b:Frac}(ha:fracOk a=true)(hb:fracOk b=true)(h:val a=val b):a=b:=by
 have ha':=(fracOk_iff a).1 ha;have hb':=(fracOk_iff b).1 hb;have a2:=ha'.1.2.2.1;have b2:=hb'.1.2.2.1;have h1:=(val_le a2 b2).1 (by rw [h];exact Rat.le_refl);have h2:=(val_le b2 a2).1 (by rw [h];exact Rat.le_refl);have e:a.1*b.2=b.1*a.2:=by omega
 have d1:a.2 ∣ b.2:=by
  have:a.2 ∣ a.1*b.2:=⟨b.1,by rw [e,Int.mul_comm]⟩;exact dvd_coprime this (by rw [Int.gcd_comm];exact ha'.2)
 have d2:b.2 ∣ a.2:=by
  have:b.2 ∣ b.1*a.2:=⟨a.1,by rw [← e,Int.mul_comm]⟩;exact dvd_coprime this (by rw [Int.gcd_comm];exact hb'.2)
 have e2:a.2=b.2:=Int.le_antisymm (Int.le_of_dvd (by omega) d1) (Int.le_of_dvd (by omega) d2);have e1:a.1=b.1:=by
  rw [e2] at e;exact Int.eq_of_mul_eq_mul_right (by omega) e
 exact Prod.ext e1 e2
def segFar (s:Seg)(p:Pt):Frac:=if segOk s && ptOk p then red (far s p) else (0,0)
def least (a b:Frac):Frac:=if cmp0 b a<0 then b else a
theorem mul_bound {x y:Int}(hx : -9≤x)(hx':x≤9)(hy : -9≤y)(hy':y≤9): -81≤x*y∧x*y≤81:=by
 have h1:0≤(9-x)*(9+y):=Int.mul_nonneg (by omega) (by omega);have h2:0≤(9+x)*(9-y):=Int.mul_nonneg (by omega) (by omega);have h3:0≤(9-x)*(9-y):=Int.mul_nonneg (by omega) (by omega);have h4:0≤(9+x)*(9+y):=Int.mul_nonneg (by omega) (by omega);constructor <;> grind
theorem dot_bound {a b c:Pt}(ha:ptOk a=true)(hb:ptOk b=true)(hc:ptOk c=true): -162≤dot a b c∧dot a b c≤162:=by
 rw [ptOk_iff] at ha hb hc;have h1:=mul_bound (x:=b.1-a.1) (y:=c.1-a.1) (by omega) (by omega) (by omega) (by omega);have h2:=mul_bound (x:=b.2-a.2) (y:=c.2-a.2) (by omega) (by omega) (by omega) (by omega);unfold dot;omega
theorem cross_bound {a b c:Pt}(ha:ptOk a=true)(hb:ptOk b=true)(hc:ptOk c=true): -162≤cross a b c∧cross a b c≤162:=by
 rw [ptOk_iff] at ha hb hc;have h1:=mul_bound (x:=b.1-a.1) (y:=c.2-a.2) (by omega) (by omega) (by omega) (by omega);have h2:=mul_bound (x:=b.2-a.2) (y:=c.1-a.1) (by omega) (by omega) (by omega) (by omega);unfold cross;omega
theorem sq_bound {x:Int}(h : -162≤x)(h':x≤162):x*x≤26244:=by
 have:0≤(162-x)*(162+x):=Int.mul_nonneg (by omega) (by omega)
 grind
theorem far_inR {s:Seg}{p:Pt}(hs:segOk s=true)(hp:ptOk p=true):inR (far s p):=by
 have hs':=(segOk_iff s).1 hs;have hd:=nd_of_ok hs;unfold nd at hd;unfold far inR;have b1:=dot_bound hs'.1 hp hp;have b2:=dot_bound hs'.2.1 hp hp;have b3:=dot_bound hs'.1 hs'.2.1 hs'.2.1;have b4:=cross_bound hs'.1 hs'.2.1 hp;have b5:=sq_bound b4.1 b4.2;have b6:=isq_nn (cross s.1 s.2 p);have b7:=dot_self_nn s.1 p;have b8:=dot_self_nn s.2 p
 split
 ·
  simp only;omega
 ·
  split
  ·
   simp only;omega
  ·
   simp only;omega
theorem segFar_ok {s:Seg}{p:Pt}(hs:segOk s=true)(hp:ptOk p=true):fracOk (segFar s p)=true∧val (segFar s p)=val (far s p):=by
 unfold segFar;rw [hs,hp];exact⟨red_ok (far_inR hs hp),val_red (far_inR hs hp)⟩
theorem least_ok {a b:Frac}(ha:fracOk a=true)(hb:fracOk b=true):fracOk (least a b)=true:=by unfold least;split <;> assumption
theorem val_least {a b:Frac}(ha:fracOk a=true)(hb:fracOk b=true):(val (least a b)≤val a∧val (least a b)≤val b)∧(least a b=a∨least a b=b):=by
 have a2:=((fracOk_iff a).1 ha).1.2.2.1;have b2:=((fracOk_iff b).1 hb).1.2.2.1;unfold least
 split
 ·
  rename_i h
  have:=(cmp0_neg b2 a2).1 h;exact⟨⟨Rat.le_of_lt this,Rat.le_refl⟩,.inr rfl⟩
 ·
  rename_i h
  have:val a≤val b:=by rw [← Rat.not_lt,← cmp0_neg b2 a2];exact h
  exact⟨⟨Rat.le_refl,this⟩,.inl rfl⟩
theorem cross_rev (a b p:Pt):cross b a p = - cross a b p:=by unfold cross;grind
theorem meet_comm (s t:Seg):meet s t=meet t s:=by
 rw [Bool.eq_iff_iff,meet_iff,meet_iff];constructor
 ·
  rintro (⟨a,b⟩ | a | a | a | a)
  ·
   exact .inl ⟨b,a⟩
  ·
   exact .inr (.inr (.inr (.inl a)))
  ·
   exact .inr (.inr (.inr (.inr a)))
  ·
   exact .inr (.inl a)
  ·
   exact .inr (.inr (.inl a))
 ·
  rintro (⟨a,b⟩ | a | a | a | a)
  ·
   exact .inl ⟨b,a⟩
  ·
   exact .inr (.inr (.inr (.inl a)))
  ·
   exact .inr (.inr (.inr (.inr a)))
  ·
   exact .inr (.inl a)
  ·
   exact .inr (.inr (.inl a))
def ndl (l:List Pt):Prop:=∀ e∈edges l,nd e
section
variable {l h:List Pt} (hl:ndl l) (hh:ndl h) (ap:apartB l h=true)
include hl hh ap
end
theorem inOf_zero (l:List Pt)(p:Pt):inOf l p=0 ↔ onB l p=true:=by
 unfold inOf;split
 ·
  simp [*]
 ·
  split <;> simp [*]
theorem apartB_comm (a b:List Pt):apartB a b=apartB b a:=by
 rw [Bool.eq_iff_iff,apartB_iff,apartB_iff];constructor
 ·
  intro h e he f hf;rw [meet_comm];exact h f hf e he
 ·
  intro h e he f hf;rw [meet_comm];exact h f hf e he
structure PlateGood (P:Plate):Prop where
 outer:loopOk P.1=true
 few:P.2.length≤2
 holes:∀ h∈P.2,loopOk h=true
 away:∀ h∈P.2,apartB P.1 h=true
 inside:∀ h∈P.2,inOf P.1 (h.getD 0 (0,0))=1
 two:∀ a b,P.2=[a,b]→apartB a b=true∧inOf b (a.getD 0 (0,0)) = -1∧inOf a (b.getD 0 (0,0)) = -1
theorem plateOk_iff (P:Plate):plateOk P=true ↔ PlateGood P:=by
 unfold plateOk nested;obtain⟨o,hs⟩:=P;simp only [Bool.and_eq_true,decide_eq_true_eq,List.all_eq_true,beq_iff_eq];constructor
 ·
  rintro⟨⟨h1,h2⟩,h3,h4,h5,h6⟩;refine⟨h2,h1,h3,h4,h5,?_⟩;intro a b e;simp only at e;subst e;simp only [Bool.and_eq_true,beq_iff_eq] at h6;exact h6
 ·
  intro g;refine⟨⟨g.few,g.outer⟩,g.holes,g.away,g.inside,?_⟩;have hf:=g.few
  match hs,g,hf with
  | [],_,_=>rfl
  | [a],_,_=>rfl
  | [a,b],g,_ =>
   obtain⟨x,y,z⟩:=g.two a b rfl;simp only [x,y,z];rfl
  | a::b::c::r,_,hf=>simp at hf
theorem loop_pos {l:List Pt}(h:loopOk l=true):0<l.length:=by have:=((loopOk_iff l).1 h).1;omega
theorem fracOk_whole {n:Int}(h0:0≤n)(h1:n≤99999):fracOk (n,1)=true:=by
 rw [fracOk_iff];refine⟨⟨h0,h1,?_,?_⟩,?_⟩
 ·
  show (1:Int)≤1;decide
 ·
  show (1:Int)≤99999;decide
 ·
  exact Int.gcd_one_right ..
theorem fracOk_den {f:Frac}(h:fracOk f=true):1≤f.2:=((fracOk_iff f).1 h).1.2.2.1
theorem cmp_zero {a b:Frac}(ha:fracOk a=true)(hb:fracOk b=true):fracCmp a b=0 ↔ a=b:=by
 rw [fracCmp_ok ha hb,cmp0_zero (fracOk_den ha) (fracOk_den hb)];exact⟨frac_eq ha hb,fun h=>by rw [h]⟩
def back (s:Seg):Seg:=(s.2,s.1)
theorem segMeet_iff (s t:Seg):segMeet s t=true ↔ segOk s=true∧segOk t=true∧meet s t=true:=by unfold segMeet;simp
end Mort
end
section
namespace Go.Proofs.YtkefmnmoaomlhaaDoor.X
open Go.RowKit Go.Proofs.YtkefmnmoaomlhaaDoorW.PrintWords Go.Proofs.YtkefmnmoaomlhaaDoorW.PrintLast Go.Proofs.YtkefmnmoaomlhaaDoorW.PrintMore
attribute [local go_sem] max2_int min2_int max_two min_two max_three min_three max_four min_four
set_option linter.unusedVariables false
set_option linter.unusedSimpArgs false
def impl_commonDivisor.l0:Nat→Int→Int→Option (Int)
 | 0,_,_=>none
 | k+1,x0,x1=>if x1=0 then (some x0) else (impl_commonDivisor.l0 k x1 (Int.tmod x0 x1))
def impl_commonDivisor.f (k:Nat)(a0:Int)(a1:Int):Option (Int):=impl_commonDivisor.l0 k a0 a1
set_option maxHeartbeats 8000000 in
set_option maxRecDepth 100000 in
theorem impl_commonDivisor.calls (k:Nat)(a0:Int)(a1:Int)(r:Int)(w:World)(h:impl_commonDivisor.f k a0 a1=some r):
  Calls Tryd.prog 59 #[.int .i64 a0,.int .i64 a1] w fun e w'=>e=.returned (.int .i64 r)∧Drawn0 w w':=by
 have H:(impl_commonDivisor.l0 k a0 a1)=some r:=h;clear h;have H':=Aside0.mk H;clear H;go_enter Tryd.func59,Tryd.ntmps59;go_wp2
 repeat (go_quiet (fail);try go_wp2)
 go_loopg [0,1] k (fun kq v0 v1 w'=>∃ (x0_1:Int) (x1_1:Int),v0=.int .i64 x0_1∧v1=.int .i64 x1_1∧Aside0 (impl_commonDivisor.l0 kq x0_1 x1_1=some r)∧Aside0 (kq≤k)∧Drawn0 w w')
 case atStart=>exact⟨(a0),(a1),(by first | rfl | (simp;done) | (simp [*];done)),(by first | rfl | (simp;done) | (simp [*];done)),H',⟨Nat.le_refl _⟩,by repeat (first | exact Drawn0.refl _ | apply Drawn0.step)⟩
 case round =>
  clear H';obtain⟨x0_1,x1_1,rfl,rfl,HA,HK1,⟨m1,rfl⟩⟩:=hrel
  cases gk with
  | zero=>exact absurd HA.out (by simp [impl_commonDivisor.l0])
  | succ k1 =>
   have H:=HA.out;clear HA;simp only [impl_commonDivisor.l0] at H;by_cases c3:x1_1=0
   ·
    rw [if_pos c3] at H;have c3b0:(x1_1==0)=true:=beq_iff_eq.mpr c3;have c3b1:(x1_1 != 0)=false:=bne_eq_false_iff_eq.mpr c3;clear c3;obtain rfl:=Option.some.inj H;go_wp2
    repeat (go_quiet (fail);try go_wp2)
    go_ret;exact⟨by first | rfl | (simp;done) | (simp [*];done),by repeat (first | exact Drawn0.refl _ | apply Drawn0.step)⟩
   ·
    rw [if_neg c3] at H;have c3b0:(x1_1==0)=false:=beq_eq_false_iff_ne.mpr c3;have c3b1:(x1_1 != 0)=true:=bne_iff_ne.mpr c3;have H':=Aside0.mk H;clear H;go_wp2
    repeat (go_quiet (fail);try go_wp2)
    go_roundg k1
    case measure=>have:=HK1.out;omega
    case rel=>exact⟨(x1_1),(Int.tmod x0_1 x1_1),(by first | rfl | (simp;done) | (simp [*];done)),(by first | rfl | (simp;done) | (simp [*];done)),H',⟨by have:=HK1.out;omega⟩,by repeat (first | exact Drawn0.refl _ | apply Drawn0.step)⟩
end Go.Proofs.YtkefmnmoaomlhaaDoor.X
end
section
set_option linter.unusedVariables false
set_option linter.unusedSimpArgs false
namespace Go.Proofs.YtkefmnmoaomlhaaDoor.X
open Go.RowKit Go.Proofs.YtkefmnmoaomlhaaDoorW.PrintWords Go.Proofs.YtkefmnmoaomlhaaDoorW.PrintLast Go.Proofs.YtkefmnmoaomlhaaDoorW.PrintMore
open Mort
theorem gcd_rounds (b:Nat):∀ (a:Nat) (k:Nat),b<k→impl_commonDivisor.l0 k (a:Int) (b:Int)=some ((Nat.gcd a b:Nat):Int):=by
 induction b using Nat.strongRecOn with
 | _ b ih =>
  intro a k hk;obtain⟨k,rfl⟩:∃ m,k=m+1:=⟨k-1,by omega⟩;simp only [impl_commonDivisor.l0];by_cases h0:b=0
  ·
   subst h0;rw [if_pos (by rfl),Nat.gcd_zero_right]
  ·
   rw [if_neg (by omega)];have hm:Int.tmod (a:Int) (b:Int)=((a % b:Nat):Int):=rfl;rw [hm,ih (a % b) (Nat.mod_lt _ (by omega)) b k (by have:=Nat.mod_lt a (show 0<b by omega);omega)];rw [Nat.gcd_comm b (a % b),← Nat.gcd_rec,Nat.gcd_comm]
theorem gcd_told {n d:Int}(hn:0≤n)(hd:0≤d):∃ k,impl_commonDivisor.f k n d=some (Int.gcd n d:Int):=by
 obtain⟨a,rfl⟩:=Int.eq_ofNat_of_zero_le hn;obtain⟨b,rfl⟩:=Int.eq_ofNat_of_zero_le hd;exact⟨b+1,gcd_rounds b a (b+1) (by omega)⟩
set_option maxHeartbeats 1000000 in
set_option maxRecDepth 100000 in
theorem amountOf_ok (n d:Int)(w:World)(h:fracOk (n,d)=true):
  Calls Tryd.prog 60 #[.agg #[.int .i64 n,.int .i64 d]] w fun e w'=>e=.returned (.tuple #[.iface 133 (.agg #[.int .i64 n,.int .i64 d]),.nilIface])∧Below w.heap.size w w':=by
 have hok:=(fracOk_iff _).1 h;obtain⟨⟨h1,h2,h3,h4⟩,h5⟩:=hok;simp only at h1 h2 h3 h4 h5;obtain⟨k,hk⟩:=gcd_told h1 (show 0≤d by omega);rw [h5] at hk;have HK:=Aside0.mk hk;clear hk h5 h;have b1:decide (n<0)=false:=decide_eq_false (by omega);have b2:decide (99999<n)=false:=decide_eq_false (by omega);have b3:decide (d<1)=false:=decide_eq_false (by omega);have b4:decide (99999<d)=false:=decide_eq_false (by omega);go_enter Tryd.func60,Tryd.ntmps60;go_wp2_with (go_at_call 59;refine (impl_commonDivisor.calls k n d 1 _ HK.out).mono ?_;rintro e w' ⟨rfl,⟨nd,rfl⟩⟩);go_ret2;exact⟨rfl,by repeat (first | exact Below.refl _ _ | apply below_alloc | apply pw_below_drewN | apply below_drew1)⟩
theorem cell_boxed {w:World}{v:Value}(o:Obj){p:Addr}(h:w.cell? p=some v):(w.alloc o).cell? p=some v:=pw_cell_below (below_alloc (Below.refl _ _) o) h
set_option maxHeartbeats 1000000 in
set_option maxRecDepth 100000 in
theorem amountOf_bad (n d:Int)(a:Addr)(w:World)(hc:w.cell? ⟨0,0,none⟩=some (.iface 156 (.pointer (some a))))(h:fracOk (n,d)=false):
  Calls Tryd.prog 60 #[.agg #[.int .i64 n,.int .i64 d]] w fun e w'=>e=.returned (.tuple #[.nilIface,.iface 156 (.pointer (some a))])∧Below w.heap.size w w':=by
 have hc1:=cell_boxed (.cells #[.int .i64 n,.int .i64 d] 35) hc;by_cases h1:n<0
 ·
  have b1:decide (n<0)=true:=decide_eq_true h1;clear h1 h;go_enter Tryd.func60,Tryd.ntmps60;go_wp2;go_region
  all_goals (go_wp2;go_ret2;exact⟨rfl,by repeat (first | exact Below.refl _ _ | apply below_alloc | apply pw_below_drewN | apply below_drew1)⟩)
 have b1:decide (n<0)=false:=decide_eq_false h1;by_cases h2:99999<n
 ·
  have b2:decide (99999<n)=true:=decide_eq_true h2;clear h2 h;go_enter Tryd.func60,Tryd.ntmps60;go_wp2;go_region
  all_goals (go_wp2;go_ret2;exact⟨rfl,by repeat (first | exact Below.refl _ _ | apply below_alloc | apply pw_below_drewN | apply below_drew1)⟩)
 have b2:decide (99999<n)=false:=decide_eq_false h2;by_cases h3:d<1
 ·
  have b3:decide (d<1)=true:=decide_eq_true h3;clear h3 h;go_enter Tryd.func60,Tryd.ntmps60;go_wp2;go_region
  all_goals (go_wp2;go_ret2;exact⟨rfl,by repeat (first | exact Below.refl _ _ | apply below_alloc | apply pw_below_drewN | apply below_drew1)⟩)
 have b3:decide (d<1)=false:=decide_eq_false h3;by_cases h4:99999<d
 ·
  have b4:decide (99999<d)=true:=decide_eq_true h4;clear h4 h;go_enter Tryd.func60,Tryd.ntmps60;go_wp2;go_region
  all_goals (go_wp2;go_ret2;exact⟨rfl,by repeat (first | exact Below.refl _ _ | apply below_alloc | apply pw_below_drewN | apply below_drew1)⟩)
 have b4:decide (99999<d)=false:=decide_eq_false h4;have h5:Int.gcd n d≠1:=by
  intro e;rw [(fracOk_iff _).2 ⟨⟨by simp only;omega,by simp only;omega,by simp only;omega,by simp only;omega⟩,e⟩] at h;cases h
 obtain⟨k,hk⟩:=gcd_told (show 0≤n by omega) (show 0≤d by omega);generalize Int.gcd n d=q at h5 hk;have b5:((q:Int) != 1)=true:=bne_iff_ne.mpr (by omega);have HK:=Aside0.mk hk;clear hk h5 h h1 h2 h3 h4;go_enter Tryd.func60,Tryd.ntmps60;go_wp2_with (go_at_call 59;refine (impl_commonDivisor.calls k n d q _ HK.out).mono ?_;rintro e w' ⟨rfl,⟨nd,rfl⟩⟩);go_region
 all_goals (go_wp2;go_ret2;exact⟨rfl,by repeat (first | exact Below.refl _ _ | apply below_alloc | apply pw_below_drewN | apply below_drew1)⟩)
theorem methAgainst (v:Value)(w:World):(Go.method 296 133 v "loop.example/mortiser/impl.against").run Tryd.prog w=.ok (137,v) w:=by kernel_rfl
theorem methParts (v:Value)(w:World):(Go.method 296 133 v "loop.example/mortiser/impl.parts").run Tryd.prog w=.ok (138,v) w:=by kernel_rfl
theorem aheadAgainst (v:Value)(w:World):(nilAhead 296 133 v "loop.example/mortiser/impl.against").run Tryd.prog w=.ok (some false) w:=by kernel_rfl
theorem aheadParts (v:Value)(w:World):(nilAhead 296 133 v "loop.example/mortiser/impl.parts").run Tryd.prog w=.ok (some false) w:=by kernel_rfl
set_option maxHeartbeats 1000000 in
set_option maxRecDepth 100000 in
theorem ratio_parts (n d:Int)(w:World):
  Calls Tryd.prog 138 #[.agg #[.int .i64 n,.int .i64 d]] w fun e w'=>e=.returned (.tuple #[.int .i64 n,.int .i64 d])∧Below w.heap.size w w':=by
 go_enter Tryd.func138,Tryd.ntmps138;go_wp2
 try (go_region;all_goals go_wp2)
 all_goals (go_ret2;exact⟨rfl,by repeat (first | exact Below.refl _ _ | apply below_alloc | apply pw_below_drewN | apply below_drew1)⟩)
theorem prod_wrap {x y:Int}(hx:0≤x)(hx':x≤99999)(hy:0≤y)(hy':y≤99999):wrap64 (x*y)=x*y:=by
 have h1:0≤x*y:=Int.mul_nonneg hx hy;have h2:x*y≤99999*99999:=Int.mul_le_mul hx' hy' hy (by decide);unfold wrap64;omega
set_option maxHeartbeats 1000000 in
set_option maxRecDepth 100000 in
theorem ratio_against (n d m q:Int)(w:World)(h1:inR (n,d))(h2:inR (m,q)):
  Calls Tryd.prog 137 #[.agg #[.int .i64 n,.int .i64 d],.iface 133 (.agg #[.int .i64 m,.int .i64 q])] w fun x w'=>x=.returned (.int .i64 (cmp0 (n,d) (m,q)))∧Below w.heap.size w w':=by
 obtain⟨a1,a2,a3,a4⟩:=h1;obtain⟨b1,b2,b3,b4⟩:=h2;simp only at a1 a2 a3 a4 b1 b2 b3 b4;have hw1:=prod_wrap a1 a2 (show 0≤q by omega) b4;have hw2:=prod_wrap b1 b2 (show 0≤d by omega) a4;have hm:=methParts;have ha:=aheadParts;have hr:cmp0 (n,d) (m,q)=if n*q<m*d then -1 else if m*d<n*q then 1 else 0:=rfl;rw [hr];clear hr a1 a2 a3 a4 b1 b2 b3 b4;have key:∀ (v:Int) (c1:Bool) (c2:Bool),(v=if c1 then -1 else if c2 then 1 else 0)→decide (n*q<m*d)=c1→decide (m*d<n*q)=c2 →
   Calls Tryd.prog 137 #[.agg #[.int .i64 n,.int .i64 d],.iface 133 (.agg #[.int .i64 m,.int .i64 q])] w fun x w'=>x=.returned (.int .i64 v)∧Below w.heap.size w w':=by
  intro v c1 c2 hv t1 t2;cases c1 <;> cases c2 <;> simp only [if_true,if_false,Bool.false_eq_true] at hv <;> subst hv
  all_goals
   go_enter Tryd.func137,Tryd.ntmps137;go_wp2_with (go_at_call 138;refine (ratio_parts m q _).mono ?_;rintro e w1 ⟨rfl,hb⟩;have hk0:=pw_cell_below hb ((blk_cell (heap_alloc_new w _) 0).trans rfl);have hk1:=pw_cell_below hb ((blk_cell (heap_alloc_new w _) 1).trans rfl);have HB:=a0_ (below_step (below_alloc (Below.refl w.heap.size w) _) hb);clear hb);go_region
   all_goals (go_wp2;go_ret;exact⟨rfl,by repeat (first | exact HB.out | apply below_alloc | apply pw_below_drewN | apply below_drew1)⟩)
 refine key _ (decide (n*q<m*d)) (decide (m*d<n*q)) ?_ rfl rfl;simp only [decide_eq_true_eq]
def impl_FracCmp.f (a0_0 a0_1 a1_0 a1_1:Int):Option Int:=some (fracCmp (a0_0,a0_1) (a1_0,a1_1))
set_option maxHeartbeats 1000000 in
set_option maxRecDepth 100000 in
theorem impl_FracCmp.calls (a0_0 a0_1 a1_0 a1_1:Int)(r:Int)(w:World)(hE:ErrW w)(h:impl_FracCmp.f a0_0 a0_1 a1_0 a1_1=some r):
  Calls Tryd.prog 21 #[.agg #[.int .i64 a0_0,.int .i64 a0_1],.agg #[.int .i64 a1_0,.int .i64 a1_1]] w fun e w'=>e=.returned (.int .i64 r)∧Below w.heap.size w w':=by
 have h:=Option.some.inj h;obtain⟨a,hc⟩:=hE;have hm:=methAgainst;have ha:=aheadAgainst;unfold fracCmp at h
 cases hk:fracOk (a0_0,a0_1) with
 | false =>
  rw [hk] at h;simp only [Bool.false_and,Bool.false_eq_true,if_false] at h;subst h;have hc0:=cell_boxed (.cells #[.int .i64 a1_0,.int .i64 a1_1] 35) (cell_boxed (.cells #[.int .i64 a0_0,.int .i64 a0_1] 35) hc);go_enter Tryd.func21,Tryd.ntmps21
  go_wp2_with (first
   | (go_at_call 60;refine (amountOf_bad a0_0 a0_1 a _ hc0 hk).mono ?_;rintro e w1 ⟨rfl,hb⟩;have hc1:=pw_cell_below hb hc0;have HB:=a0_ (below_step (below_alloc (below_alloc (Below.refl w.heap.size w) _) _) hb);clear hb)
   | (go_at_call 61;refine (is_same a _).mono ?_;rintro e w' ⟨rfl,rfl⟩))
  go_ret;exact⟨rfl,HB.out⟩
 | true =>
  have hB0:=below_alloc (below_alloc (Below.refl w.heap.size w) (.cells #[.int .i64 a0_0,.int .i64 a0_1] 35)) (.cells #[.int .i64 a1_0,.int .i64 a1_1] 35);have hc0:=cell_boxed (.cells #[.int .i64 a1_0,.int .i64 a1_1] 35) (cell_boxed (.cells #[.int .i64 a0_0,.int .i64 a0_1] 35) hc);have hx0:=(blk_cell (heap_alloc_new (w.alloc (.cells #[.int .i64 a0_0,.int .i64 a0_1] 35)) (.cells #[.int .i64 a1_0,.int .i64 a1_1] 35)) 0).trans rfl;have hx1:=(blk_cell (heap_alloc_new (w.alloc (.cells #[.int .i64 a0_0,.int .i64 a0_1] 35)) (.cells #[.int .i64 a1_0,.int .i64 a1_1] 35)) 1).trans rfl;rw [World.size_alloc] at hx0 hx1;have HB0:=Aside0.mk hB0;have HX0:=Aside0.mk hx0;have HX1:=Aside0.mk hx1;have HC0:=Aside0.mk hc0;have HC:=Aside0.mk hc;clear hB0 hx0 hx1 hc0 hc
  cases hk2:fracOk (a1_0,a1_1) with
  | false =>
   rw [hk,hk2] at h;simp only [Bool.and_false,Bool.false_eq_true,if_false] at h;subst h;go_enter Tryd.func21,Tryd.ntmps21;go_wp2_with fail;refine (amountOf_ok a0_0 a0_1 _ hk).mono ?_;rintro e w1 ⟨rfl,hb⟩;have hc1:=pw_cell_below hb HC0.out;have hx0:=pw_cell_below hb HX0.out;have hx1:=pw_cell_below hb HX1.out;have HB:=a0_ (below_step HB0.out hb);clear hb HB0 HX0 HX1 HC0;go_wp2_with fail;refine (is_nil a _).mono ?_;rintro e w' ⟨rfl,rfl⟩;go_wp2_with fail;refine (amountOf_bad a1_0 a1_1 a _ hc1 hk2).mono ?_;rintro e w2 ⟨rfl,hb⟩;have hc2:=pw_cell_below hb hc1;have HB2:=a0_ (below_step HB.out hb);clear hb hc1 hx0 hx1;go_wp2_with fail;refine (is_same a _).mono ?_;rintro e w' ⟨rfl,rfl⟩;go_wp2_with fail;go_ret;exact⟨rfl,HB2.out⟩
  | true =>
   rw [hk,hk2] at h;simp only [Bool.and_true,if_true] at h;subst h;go_enter Tryd.func21,Tryd.ntmps21;go_wp2_with fail;refine (amountOf_ok a0_0 a0_1 _ hk).mono ?_;rintro e w1 ⟨rfl,hb⟩;have hc1:=pw_cell_below hb HC0.out;have hx0:=pw_cell_below hb HX0.out;have hx1:=pw_cell_below hb HX1.out;have HB:=a0_ (below_step HB0.out hb);clear hb HB0 HX0 HX1 HC0;go_wp2_with fail;refine (is_nil a _).mono ?_;rintro e w' ⟨rfl,rfl⟩;go_wp2_with fail;refine (amountOf_ok a1_0 a1_1 _ hk2).mono ?_;rintro e w2 ⟨rfl,hb⟩;have hc2:=pw_cell_below hb hc1;have HB2:=a0_ (below_step HB.out hb);clear hb hc1 hx0 hx1;go_wp2_with fail;refine (is_nil a _).mono ?_;rintro e w' ⟨rfl,rfl⟩;go_wp2_with fail;refine (ratio_against a0_0 a0_1 a1_0 a1_1 _ ((fracOk_iff _).1 hk).1 ((fracOk_iff _).1 hk2).1).mono ?_;rintro e w3 ⟨rfl,hb⟩;have HB3:=a0_ (below_step HB2.out hb);clear hb;go_wp2_with fail;go_ret;exact⟨rfl,HB3.out⟩
end Go.Proofs.YtkefmnmoaomlhaaDoor.X
end
section
namespace Go.Proofs.YtkefmnmoaomlhaaDoor.X
open Go.RowKit Go.Proofs.YtkefmnmoaomlhaaDoorW.PrintWords Go.Proofs.YtkefmnmoaomlhaaDoorW.PrintLast Go.Proofs.YtkefmnmoaomlhaaDoorW.PrintMore
attribute [local go_sem] max2_int min2_int max_two min_two max_three min_three max_four min_four
set_option linter.unusedVariables false
set_option linter.unusedSimpArgs false
def spec_l1Gcd.l0:Nat→Int→Int→Option (Int)
 | 0,_,_=>none
 | k+1,x0,x1=>if x1>0 then (if x1=0 then (none) else (spec_l1Gcd.l0 k x1 (Int.tmod x0 x1))) else (some x0)
def spec_l1Gcd.f (k:Nat)(a0:Int)(a1:Int):Option (Int):=spec_l1Gcd.l0 k a0 a1
set_option maxHeartbeats 8000000 in
set_option maxRecDepth 100000 in
theorem spec_l1Gcd.calls (k:Nat)(a0:Int)(a1:Int)(r:Int)(w:World)(h:spec_l1Gcd.f k a0 a1=some r):
  Calls Tryd.prog 121 #[.int .i64 a0,.int .i64 a1] w fun e w'=>e=.returned (.int .i64 r)∧Drawn0 w w':=by
 have H:(spec_l1Gcd.l0 k a0 a1)=some r:=h;clear h;have H':=Aside0.mk H;clear H;go_enter Tryd.func121,Tryd.ntmps121;go_wp2
 repeat (go_quiet (fail);try go_wp2)
 go_loopg [0,1] k (fun kq v0 v1 w'=>∃ (x0_1:Int) (x1_1:Int),v0=.int .i64 x0_1∧v1=.int .i64 x1_1∧Aside0 (spec_l1Gcd.l0 kq x0_1 x1_1=some r)∧Aside0 (kq≤k)∧Drawn0 w w')
 case atStart=>exact⟨(a0),(a1),(by first | rfl | (simp;done) | (simp [*];done)),(by first | rfl | (simp;done) | (simp [*];done)),H',⟨Nat.le_refl _⟩,by repeat (first | exact Drawn0.refl _ | apply Drawn0.step)⟩
 case round =>
  clear H';obtain⟨x0_1,x1_1,rfl,rfl,HA,HK1,⟨m1,rfl⟩⟩:=hrel
  cases gk with
  | zero=>exact absurd HA.out (by simp [spec_l1Gcd.l0])
  | succ k1 =>
   have H:=HA.out;clear HA;simp only [spec_l1Gcd.l0] at H;by_cases c3:x1_1>0
   ·
    rw [if_pos c3] at H;have c3b0:decide (0<x1_1)=true:=decide_eq_true c3;clear c3;by_cases c4:x1_1=0
    ·
     rw [if_pos c4] at H;exact absurd H (by simp)
    ·
     rw [if_neg c4] at H;have c4b0:(x1_1==0)=false:=beq_eq_false_iff_ne.mpr c4;have c4b1:(x1_1 != 0)=true:=bne_iff_ne.mpr c4;have H':=Aside0.mk H;clear H;go_wp2
     repeat (go_quiet (fail);try go_wp2)
     go_roundg k1
     case measure=>have:=HK1.out;omega
     case rel=>exact⟨(x1_1),(Int.tmod x0_1 x1_1),(by first | rfl | (simp;done) | (simp [*];done)),(by first | rfl | (simp;done) | (simp [*];done)),H',⟨by have:=HK1.out;omega⟩,by repeat (first | exact Drawn0.refl _ | apply Drawn0.step)⟩
   ·
    rw [if_neg c3] at H;have c3b0:decide (0<x1_1)=false:=decide_eq_false c3;clear c3;obtain rfl:=Option.some.inj H;go_wp2
    repeat (go_quiet (fail);try go_wp2)
    go_ret;exact⟨by first | rfl | (simp;done) | (simp [*];done),by repeat (first | exact Drawn0.refl _ | apply Drawn0.step)⟩
def spec_l1Of.f (k:Nat)(a0:Int)(a1:Int):Option (Int × Int):=(spec_l1Gcd.f k a0 a1).bind fun t560=>(if t560=0 then (none) else (some (wrap64 (Int.tdiv a0 t560),wrap64 (Int.tdiv a1 t560))))
def spec_l1Of.T2:Bool × List (List Nat × List Nat):=(true,[([],[]),([],[]),([0,1],[0,1]),([],[]),([],[]),([3,4],[3,4]),([2,5],[2,5]),([6,0,1,2,3,4,5,6],[6])])
def spec_l1Of.B2:List Nat:=[0,0,3,0,0,24,63,127]
theorem spec_l1Of.tab2:rtab .any (opsOf Tryd.f119 2)=spec_l1Of.T2:=by kernel_rfl
theorem spec_l1Of.bits2:waitsOk spec_l1Of.T2.2 spec_l1Of.B2=true:=by kernel_rfl
set_option maxHeartbeats 8000000 in
set_option maxRecDepth 100000 in
theorem spec_l1Of.calls (k:Nat)(a0:Int)(a1:Int)(r1:Int)(r2:Int)(w:World)(h:spec_l1Of.f k a0 a1=some (r1,r2)):
  Calls Tryd.prog 119 #[.int .i64 a0,.int .i64 a1] w fun e w'=>e=.returned (.agg #[.int .i64 r1,.int .i64 r2])∧Below w.heap.size w w':=by
 have hu35:=Tryd.underlying35;have HB:=a0_ (Below.refl w.heap.size w);have H:((spec_l1Gcd.f k a0 a1).bind fun t560=>(if t560=0 then (none) else (some (wrap64 (Int.tdiv a0 t560),wrap64 (Int.tdiv a1 t560)))))=some (r1,r2):=h;clear h;replace H:=Option.bind_eq_some_iff.mp H;obtain⟨t560,A30,H⟩:=H
 (try dsimp only at H)
 have A3:=Aside0.mk A30;clear A30;by_cases c4:t560=0
 ·
  rw [if_pos c4] at H;exact absurd H (by simp)
 ·
  rw [if_neg c4] at H;have c4b0:(t560==0)=false:=beq_eq_false_iff_ne.mpr c4;have c4b1:(t560 != 0)=true:=bne_iff_ne.mpr c4;simp only [Option.some.injEq,Prod.mk.injEq] at H;obtain⟨rfl,rfl⟩:=H;go_enter Tryd.func119,Tryd.ntmps119
  try go_wp2_with (first | ((with_reducible refine gate_dst (N:=4) rfl ?_);refine bx_ (N:=4) (cs:=#[.int .i64 0,.int .i64 0]) (t:=35) (h:=?_);intro gb559 hg w5 hbox hb;have BK559:=a0_ (hbox);have GW559:=gh_ HB hg;have GE559:=gh_ HB hg;replace HB:=sb_ HB hb;clear hb hbox hg) | ((with_reducible refine gate_callee (f:=121) rfl ?_);refine gL_ (some 8) Tryd.func121 #[.int .i64 a0,.int .i64 a1] (h:=?_);(with_reducible refine (spec_l1Gcd.calls k a0 a1 t560 _ A3.out).mono ?_);rintro e w' ⟨rfl,⟨nd,rfl⟩⟩;refine⟨_,rfl,?_⟩;(try (rw [drewN_self w5];generalize hq_:World.drewN w5 _=w5;have n0_:Aside0 (w5.heap[gb559]?=some (.cells #[.int .i64 0,.int .i64 0] 35 (0,0))):=⟨by rw [← hq_];exact uq_⟩;have n1_:Aside0 (Below w.heap.size w w5):=⟨by rw [← hq_];exact hB_⟩;clear BK559 HB hq_;have BK559:=n0_;have HB:=n1_;clear n0_ n1_))))
  replace BK559:=a0_ (blk_drew BK559.out);replace HB:=a0_ (below_drew1 HB.out);refine start_ (n:=8) (S:=fun w'=>True) (ds:=[]) (Array.replicate 8 false) (by kernel_rfl) rfl rfl trivial (fun hHeld=>?_);refine with_tabW spec_l1Of.tab2 spec_l1Of.bits2 (fun HT_ HW_=>?_);generalize w5.drew=w6 at BK559 HB hHeld ⊢
  refine pu_ HT_ 0 9 (bm 8 1) ?_;refine pu_ HT_ 1 10 (bm 8 3) ?_;refine pu_ HT_ 2 11 (bm 8 7) ?_;refine pu_ HT_ 3 12 (bm 8 15) ?_;refine pu_ HT_ 4 13 (bm 8 31) ?_;refine pu_ HT_ 5 14 (bm 8 63) ?_;refine pu_ HT_ 6 15 (bm 8 127) ?_;refine one_ (i:=7) (N:=none) (bm 8 255) rfl rfl (one_of HT_.out (by kernel_rfl)) (by decide) (fun K hK=>?_);have hs7:w6.cell? ⟨gb559,0,none⟩=some (.int .i64 0):=bc_;have hfs7:=blk_frozen BK559.out 0;have hs8:w6.cell? ⟨gb559,1,none⟩=some (.int .i64 0):=bc_;have hfs8:=blk_frozen BK559.out 1;refine skip_ (w1:=?_) (by rfl) rfl ?_ ?_;rotate_left
  ·
   go_simp;rfl
  refine hK.out _ _ trivial (fun hHeld=>?_);clear hK K;refine done_ (done_of HT_.out (by kernel_rfl)) ?_
  try go_wp2
  refine bodyPost_ret (results_cell_row rfl _ _ gb559 35 #[.int .i64 (wrap64 (Int.tdiv a0 t560)),.int .i64 (wrap64 (Int.tdiv a1 t560))] (0,0) _ rfl (by (with_reducible repeat (first | refine blk_drewN ?_ _ | refine blk_drew ?_ | refine blk_alloc ?_ _));refine blk_put (cs:=#[.int .i64 (wrap64 (Int.tdiv a0 t560)),.int .i64 0]) ?_ 1 _ rfl;(with_reducible repeat (first | refine blk_drewN ?_ _ | refine blk_drew ?_ | refine blk_alloc ?_ _));refine blk_put (cs:=#[.int .i64 0,.int .i64 0]) ?_ 0 _ rfl;(with_reducible repeat (first | refine blk_drewN ?_ _ | refine blk_drew ?_ | refine blk_alloc ?_ _));exact BK559.out) Tryd.underlying35 rfl (by kernel_rfl)) rfl ?_;exact⟨rr_,hB_⟩
def spec_l6In.f (a0:Int)(a1:Int)(a2:Int):Option (Bool):=if a0≥a1 then (some (decide (a0≤a2))) else (some false)
set_option maxHeartbeats 8000000 in
set_option maxRecDepth 100000 in
theorem spec_l6In.calls (a0:Int)(a1:Int)(a2:Int)(r:Bool)(w:World)(h:spec_l6In.f a0 a1 a2=some r):
  Calls Tryd.prog 58 #[.int .i64 a0,.int .i64 a1,.int .i64 a2] w fun e w'=>e=.returned (.bool r)∧Drawn0 w w':=by
 have H:(if a0≥a1 then (some (decide (a0≤a2))) else (some false))=some r:=h;clear h;by_cases c4:a0≥a1
 ·
  rw [if_pos c4] at H;have c4b0:decide (a1≤a0)=true:=decide_eq_true c4;clear c4;obtain rfl:=Option.some.inj H;go_enter Tryd.func58,Tryd.ntmps58;go_wp2;go_ret;exact⟨by first | rfl | (simp;done) | (simp [*];done),by repeat (first | exact Drawn0.refl _ | apply Drawn0.step)⟩
 ·
  rw [if_neg c4] at H;have c4b0:decide (a1≤a0)=false:=decide_eq_false c4;clear c4;obtain rfl:=Option.some.inj H;go_enter Tryd.func58,Tryd.ntmps58;go_wp2;go_ret;exact⟨by first | rfl | (simp;done) | (simp [*];done),by repeat (first | exact Drawn0.refl _ | apply Drawn0.step)⟩
def IsS123 (w0 W:World)(g:Nat)(f0:List Int)(f1:Int):Prop:=∃ A0 c0,W.heap[g]?=some (.cells #[.slice A0 f0.length c0,.int .i64 f1] 123 (0,0))∧w0.heap.size≤g∧Kd.C (Kd.int .u8) w0 A0 f0.length f0
theorem IsS123.grown {w0 W:World}{g:Nat}{f0:List Int}{f1:Int}{W1:World}{row:Option Nat}(h:IsS123 w0 W g f0 f1)(hw:W.grownBy W1 row)(hne:some g≠row):IsS123 w0 W1 g f0 f1:=by
 obtain⟨A0,c0,hb,hg,hr0⟩:=h;exact⟨A0,c0,blk_grown hb hw hne,hg,hr0⟩
theorem IsS123.kept {w0 W:World}{g:Nat}{f0:List Int}{f1:Int}{W1:World}{S:Nat→Prop}(h:IsS123 w0 W g f0 f1)(hk:Kept W W1 S)(hne:¬ S g):IsS123 w0 W1 g f0 f1:=by
 obtain⟨A0,c0,hb,hg,hr0⟩:=h;exact⟨A0,c0,blk_kept hb hk hne,hg,hr0⟩
theorem IsS123.below {w0 W:World}{g:Nat}{f0:List Int}{f1:Int}{W1:World}(h:IsS123 w0 W g f0 f1)(hw:Below W.heap.size W W1):IsS123 w0 W1 g f0 f1:=h.grown (grown_of_below hw none) (by simp)
theorem IsS123.alloc {w0 W:World}{g:Nat}{f0:List Int}{f1:Int}(h:IsS123 w0 W g f0 f1)(o:Obj):IsS123 w0 (W.alloc o) g f0 f1:=h.below (below_alloc (Below.refl _ _) o)
theorem IsS123.drewN {w0 W:World}{g:Nat}{f0:List Int}{f1:Int}(h:IsS123 w0 W g f0 f1)(m:Nat):IsS123 w0 (W.drewN m) g f0 f1:=h
theorem IsS123.drew {w0 W:World}{g:Nat}{f0:List Int}{f1:Int}(h:IsS123 w0 W g f0 f1):IsS123 w0 W.drew g f0 f1:=h
theorem IsS123.at_ {w0 W:World}{g:Nat}{f0:List Int}{f1:Int}{w':World}{m:Nat}(hq:W.drewN m=w')(h:IsS123 w0 W g f0 f1):IsS123 w0 w' g f0 f1:=by subst hq;exact IsS123.drewN h m
theorem IsS123.apart {w0 W:World}{g:Nat}{f0:List Int}{f1:Int}{α:Type}{d:Kd α}{e:Nat}{base:Nat}{ok:Nat→Prop}{v:Value}{xs:List α}(h:IsS123 w0 W g f0 f1)(ho:d.R e W base ok v xs)(ht:∀ q,q∈e::d.E→q≠123):d.R e W base (fun k=>ok k∧k≠g) v xs:=by
 obtain⟨A0,c0,hb,hg,hr0⟩:=h;exact Kd.R_types ho hb ht
theorem IsS123.lt {w0 W:World}{g:Nat}{f0:List Int}{f1:Int}(h:IsS123 w0 W g f0 f1):g<W.heap.size:=by
 obtain⟨A0,c0,hb,hg,hr0⟩:=h;exact blk_lt hb
theorem IsS123.far {w0 W:World}{g:Nat}{f0:List Int}{f1:Int}{p:Addr}(h:IsS123 w0 W g f0 f1)(hne:g≠p.block)(u:Value):IsS123 w0 (W.setCell p u) g f0 f1:=by
 obtain⟨A0,c0,hb,hg,hr0⟩:=h;exact⟨A0,c0,blk_far hb hne u,hg,hr0⟩
theorem IsS123.new (w0 W:World)(A0:Option Addr)(c0:Nat)(f0:List Int)(f1:Int)(hB:Below w0.heap.size w0 W)(hr0:Kd.C (Kd.int .u8) w0 A0 f0.length f0):IsS123 w0 (W.alloc (.cells #[.slice A0 f0.length c0,.int .i64 f1] 123)) W.heap.size f0 f1:=⟨A0,c0,by simpa using heap_alloc_new W _,hB.size,hr0⟩
end Go.Proofs.YtkefmnmoaomlhaaDoor.X
end
section
set_option linter.unusedVariables false
namespace Go.Proofs.YtkefmnmoaomlhaaDoor.X
open Go.RowKit Go.Proofs.YtkefmnmoaomlhaaDoorW.PrintWords Go.Proofs.YtkefmnmoaomlhaaDoorW.PrintLast Go.Proofs.YtkefmnmoaomlhaaDoorW.PrintMore
theorem hI_ {P:Prop}(h:P:=by repeat (first | (with_reducible first | exact HI0.out | apply IsS123.alloc | apply IsS123.drewN | apply IsS123.drew | apply IsS123.set_1 | refine IsS123.far ?_ (Aside0.out (by assumption)) _) | exact HI0.out)):P:=h
theorem hBs_ {P:Prop}(h:P:=by repeat (first | (with_reducible first | exact HB.out | apply below_alloc | apply pw_below_drewN | apply below_drew1 | refine below_set ?_ (IsS123.ge HI0.out) | refine below_set ?_ (Aside0.out (by assumption))) | exact HB.out)):P:=h
theorem sl_ {w0 W W':World}{g gb:Nat}{b:List Int}{p:Int}(_:Aside0 (IsS123 w0 W g b p))(hg:gb=W'.heap.size)(h:IsS123 w0 W' g b p:=by repeat (first | (with_reducible first | exact HI0.out | apply IsS123.alloc | apply IsS123.drewN | apply IsS123.drew | apply IsS123.set_1 | refine IsS123.far ?_ (Aside0.out (by assumption)) _) | exact HI0.out)):Aside0 (g≠gb):=⟨by rw [hg];exact Nat.ne_of_lt (IsS123.lt h)⟩
theorem sr_ {w0 W W':World}{g gb:Nat}{b:List Int}{p:Int}(_:Aside0 (IsS123 w0 W g b p))(hg:gb=W'.heap.size)(h:IsS123 w0 W' g b p:=by repeat (first | (with_reducible first | exact HI0.out | apply IsS123.alloc | apply IsS123.drewN | apply IsS123.drew | apply IsS123.set_1 | refine IsS123.far ?_ (Aside0.out (by assumption)) _) | exact HI0.out)):Aside0 (gb≠g):=⟨by rw [hg];exact Nat.ne_of_gt (IsS123.lt h)⟩
end Go.Proofs.YtkefmnmoaomlhaaDoor.X
end
section
set_option linter.unusedVariables false
set_option linter.unusedSimpArgs false
namespace Go.Proofs.YtkefmnmoaomlhaaDoor.X
open Go.RowKit Go.Proofs.YtkefmnmoaomlhaaDoorW.PrintWords Go.Proofs.YtkefmnmoaomlhaaDoorW.PrintLast Go.Proofs.YtkefmnmoaomlhaaDoorW.PrintMore
open Mort
theorem w64 {x:Int}(h : -9223372036854775808≤x)(h':x≤9223372036854775807):wrap64 x=x:=by unfold wrap64;omega
theorem sgcd_rounds (b:Nat):∀ (a:Nat) (k:Nat),b<k→spec_l1Gcd.l0 k (a:Int) (b:Int)=some ((Nat.gcd a b:Nat):Int):=by
 induction b using Nat.strongRecOn with
 | _ b ih =>
  intro a k hk;obtain⟨k,rfl⟩:∃ m,k=m+1:=⟨k-1,by omega⟩;simp only [spec_l1Gcd.l0];by_cases h0:b=0
  ·
   subst h0;rw [if_neg (by decide),Nat.gcd_zero_right]
  ·
   rw [if_pos (by omega),if_neg (by omega)];have hm:Int.tmod (a:Int) (b:Int)=((a % b:Nat):Int):=rfl;rw [hm,ih (a % b) (Nat.mod_lt _ (by omega)) b k (by have:=Nat.mod_lt a (show 0<b by omega);omega)];rw [Nat.gcd_comm b (a % b),← Nat.gcd_rec,Nat.gcd_comm]
theorem sgcd_told {n d:Int}(hn:0≤n)(hd:0≤d){k:Nat}(hk:d<k):spec_l1Gcd.f k n d=some (Int.gcd n d:Int):=by
 obtain⟨a,rfl⟩:=Int.eq_ofNat_of_zero_le hn;obtain⟨b,rfl⟩:=Int.eq_ofNat_of_zero_le hd;exact sgcd_rounds b a k (by omega)
theorem gcd_told' {n d:Int}(hn:0≤n)(hd:0≤d){k:Nat}(hk:d<k):impl_commonDivisor.f k n d=some (Int.gcd n d:Int):=by
 obtain⟨a,rfl⟩:=Int.eq_ofNat_of_zero_le hn;obtain⟨b,rfl⟩:=Int.eq_ofNat_of_zero_le hd;exact gcd_rounds b a k (by omega)
theorem l6In_told (n a b:Int):spec_l6In.f n a b=some (decide (a≤n) && decide (n≤b)):=by
 unfold spec_l6In.f;by_cases h:n≥a
 ·
  rw [if_pos h,decide_eq_true (show a≤n from h)];rfl
 ·
  rw [if_neg h,decide_eq_false (show ¬ a≤n from h)];rfl
theorem l1Of_told {k:Nat}(hk:100000≤k){n d:Int}(h:inR (n,d)):spec_l1Of.f k n d=some ((red (n,d)).1,(red (n,d)).2):=by
 obtain⟨a1,a2,a3,a4⟩:=h;simp only at a1 a2 a3 a4;have hg:=gcd_pos (f:=(n,d)) ⟨a1,a2,a3,a4⟩;unfold spec_l1Of.f;rw [sgcd_told a1 (by omega) (by omega)];simp only [Option.bind_some];simp only at hg;rw [if_neg (by omega)];have e1:Int.tdiv n (Int.gcd n d:Int)=n / (Int.gcd n d:Int):=Int.tdiv_eq_ediv_of_nonneg a1;have e2:Int.tdiv d (Int.gcd n d:Int)=d / (Int.gcd n d:Int):=Int.tdiv_eq_ediv_of_nonneg (by omega);have r:=red_inR (f:=(n,d)) ⟨a1,a2,a3,a4⟩;obtain⟨r1,r2,r3,r4⟩:=r;unfold red at r1 r2 r3 r4 ⊢
 simp only at r1 r2 r3 r4 ⊢
 rw [e1,e2,w64 (by omega) (by omega),w64 (by omega) (by omega)]
def Bytes (l:List Int):Prop:=(∀ x∈l,0≤x∧x≤255)∧l.length≤2000
end Go.Proofs.YtkefmnmoaomlhaaDoor.X
end
section
namespace Go.Proofs.YtkefmnmoaomlhaaDoor.X
open Go.RowKit Go.Proofs.YtkefmnmoaomlhaaDoorW.PrintWords Go.Proofs.YtkefmnmoaomlhaaDoorW.PrintLast Go.Proofs.YtkefmnmoaomlhaaDoorW.PrintMore
attribute [local go_sem] max2_int min2_int max_two min_two max_three min_three max_four min_four
set_option linter.unusedVariables false
set_option linter.unusedSimpArgs false
def spec_l2Cross.f (a0_0:Int)(a0_1:Int)(a1_0:Int)(a1_1:Int)(a2_0:Int)(a2_1:Int):Option (Int):=some (wrap64 ((wrap64 ((wrap64 (a1_0-a0_0))*(wrap64 (a2_1-a0_1))))-(wrap64 ((wrap64 (a1_1-a0_1))*(wrap64 (a2_0-a0_0))))))
set_option maxHeartbeats 8000000 in
set_option maxRecDepth 100000 in
theorem spec_l2Cross.calls (a0_0:Int)(a0_1:Int)(a1_0:Int)(a1_1:Int)(a2_0:Int)(a2_1:Int)(r:Int)(w:World)(h:spec_l2Cross.f a0_0 a0_1 a1_0 a1_1 a2_0 a2_1=some r):
  Calls Tryd.prog 102 #[.agg #[.int .i64 a0_0,.int .i64 a0_1],.agg #[.int .i64 a1_0,.int .i64 a1_1],.agg #[.int .i64 a2_0,.int .i64 a2_1]] w fun e w'=>e=.returned (.int .i64 r)∧Below w.heap.size w w':=by
 have hu28:=Tryd.underlying28;have HB:=a0_ (Below.refl w.heap.size w);have H:(some (wrap64 ((wrap64 ((wrap64 (a1_0-a0_0))*(wrap64 (a2_1-a0_1))))-(wrap64 ((wrap64 (a1_1-a0_1))*(wrap64 (a2_0-a0_0)))))))=some r:=h;clear h;obtain rfl:=Option.some.inj H;go_enter Tryd.func102,Tryd.ntmps102;go_wp2_with (first | ((with_reducible refine gate_dst (N:=3) rfl ?_);refine bx_ (N:=3) (cs:=#[.int .i64 a0_0,.int .i64 a0_1]) (t:=28) (h:=?_);intro gb141 hg w4 hbox hb;have BK141:=a0_ (hbox);have GW141:=gh_ HB hg;have GE141:=gh_ HB hg;replace HB:=sb_ HB hb;clear hb hbox hg) | ((with_reducible refine gate_dst (N:=4) rfl ?_);refine bx_ (N:=4) (cs:=#[.int .i64 a1_0,.int .i64 a1_1]) (t:=28) (h:=?_);intro gb142 hg w5 hbox hb;have BK142:=a0_ (hbox);have GW142:=gh_ HB hg;have GE142:=gh_ HB hg;have NB141_142:=nl_ BK141 hg;have NB142_141:=nr_ BK141 hg;replace BK141:=vb_ BK141 hb;replace HB:=sb_ HB hb;clear hb hbox hg) | ((with_reducible refine gate_dst (N:=5) rfl ?_);refine bx_ (N:=5) (cs:=#[.int .i64 a2_0,.int .i64 a2_1]) (t:=28) (h:=?_);intro gb143 hg w6 hbox hb;have BK143:=a0_ (hbox);have GW143:=gh_ HB hg;have GE143:=gh_ HB hg;have NB141_143:=nl_ BK141 hg;have NB143_141:=nr_ BK141 hg;have NB142_143:=nl_ BK142 hg;have NB143_142:=nr_ BK142 hg;replace BK141:=vb_ BK141 hb;replace BK142:=vb_ BK142 hb;replace HB:=sb_ HB hb;clear hb hbox hg;have hnb7:=NB142_141.out;have hnc7:=NB141_142.out;have hnb8:=NB142_143.out;have hnc8:=NB143_142.out;have hcz9_0:=c20_ BK142;have hcz9_1:=c21_ BK142;have hfz9_0:=fz_ BK142 0;have hfz9_1:=fz_ BK142 1;have hnb10:=NB141_143.out;have hnc10:=NB143_141.out;have hcz11_0:=c20_ BK141;have hcz11_1:=c21_ BK141;have hfz11_0:=fz_ BK141 0;have hfz11_1:=fz_ BK141 1;have hcz12_0:=c20_ BK143;have hcz12_1:=c21_ BK143;have hfz12_0:=fz_ BK143 0;have hfz12_1:=fz_ BK143 1));go_ret;exact⟨rr_,hB_⟩
def spec_l2Dot.f (a0_0:Int)(a0_1:Int)(a1_0:Int)(a1_1:Int)(a2_0:Int)(a2_1:Int):Option (Int):=some (wrap64 ((wrap64 ((wrap64 (a1_0-a0_0))*(wrap64 (a2_0-a0_0))))+(wrap64 ((wrap64 (a1_1-a0_1))*(wrap64 (a2_1-a0_1))))))
set_option maxHeartbeats 8000000 in
set_option maxRecDepth 100000 in
theorem spec_l2Dot.calls (a0_0:Int)(a0_1:Int)(a1_0:Int)(a1_1:Int)(a2_0:Int)(a2_1:Int)(r:Int)(w:World)(h:spec_l2Dot.f a0_0 a0_1 a1_0 a1_1 a2_0 a2_1=some r):
  Calls Tryd.prog 117 #[.agg #[.int .i64 a0_0,.int .i64 a0_1],.agg #[.int .i64 a1_0,.int .i64 a1_1],.agg #[.int .i64 a2_0,.int .i64 a2_1]] w fun e w'=>e=.returned (.int .i64 r)∧Below w.heap.size w w':=by
 have hu28:=Tryd.underlying28;have HB:=a0_ (Below.refl w.heap.size w);have H:(some (wrap64 ((wrap64 ((wrap64 (a1_0-a0_0))*(wrap64 (a2_0-a0_0))))+(wrap64 ((wrap64 (a1_1-a0_1))*(wrap64 (a2_1-a0_1)))))))=some r:=h;clear h;obtain rfl:=Option.some.inj H;go_enter Tryd.func117,Tryd.ntmps117;go_wp2_with (first | ((with_reducible refine gate_dst (N:=3) rfl ?_);refine bx_ (N:=3) (cs:=#[.int .i64 a0_0,.int .i64 a0_1]) (t:=28) (h:=?_);intro gb144 hg w4 hbox hb;have BK144:=a0_ (hbox);have GW144:=gh_ HB hg;have GE144:=gh_ HB hg;replace HB:=sb_ HB hb;clear hb hbox hg) | ((with_reducible refine gate_dst (N:=4) rfl ?_);refine bx_ (N:=4) (cs:=#[.int .i64 a1_0,.int .i64 a1_1]) (t:=28) (h:=?_);intro gb145 hg w5 hbox hb;have BK145:=a0_ (hbox);have GW145:=gh_ HB hg;have GE145:=gh_ HB hg;have NB144_145:=nl_ BK144 hg;have NB145_144:=nr_ BK144 hg;replace BK144:=vb_ BK144 hb;replace HB:=sb_ HB hb;clear hb hbox hg) | ((with_reducible refine gate_dst (N:=5) rfl ?_);refine bx_ (N:=5) (cs:=#[.int .i64 a2_0,.int .i64 a2_1]) (t:=28) (h:=?_);intro gb146 hg w6 hbox hb;have BK146:=a0_ (hbox);have GW146:=gh_ HB hg;have GE146:=gh_ HB hg;have NB144_146:=nl_ BK144 hg;have NB146_144:=nr_ BK144 hg;have NB145_146:=nl_ BK145 hg;have NB146_145:=nr_ BK145 hg;replace BK144:=vb_ BK144 hb;replace BK145:=vb_ BK145 hb;replace HB:=sb_ HB hb;clear hb hbox hg;have hnb7:=NB145_144.out;have hnc7:=NB144_145.out;have hnb8:=NB145_146.out;have hnc8:=NB146_145.out;have hcz9_0:=c20_ BK145;have hcz9_1:=c21_ BK145;have hfz9_0:=fz_ BK145 0;have hfz9_1:=fz_ BK145 1;have hnb10:=NB144_146.out;have hnc10:=NB146_144.out;have hcz11_0:=c20_ BK144;have hcz11_1:=c21_ BK144;have hfz11_0:=fz_ BK144 0;have hfz11_1:=fz_ BK144 1;have hcz12_0:=c20_ BK146;have hcz12_1:=c21_ BK146;have hfz12_0:=fz_ BK146 0;have hfz12_1:=fz_ BK146 1));go_ret;exact⟨rr_,hB_⟩
def spec_l2Far.f (k:Nat)(a0_0:Int)(a0_1:Int)(a0_2:Int)(a0_3:Int)(a1_0:Int)(a1_1:Int):Option (Int × Int):=(spec_l2Dot.f a0_0 a0_1 a0_2 a0_3 a1_0 a1_1).bind fun t564=>((spec_l2Dot.f a0_0 a0_1 a0_2 a0_3 a0_2 a0_3).bind fun t565=>(if t564≤0 then ((spec_l2Dot.f a0_0 a0_1 a1_0 a1_1 a1_0 a1_1).bind fun t566=>(some (t566,1))) else (if t564≥t565 then ((spec_l2Dot.f a0_2 a0_3 a1_0 a1_1 a1_0 a1_1).bind fun t567=>(some (t567,1))) else ((spec_l2Cross.f a0_0 a0_1 a0_2 a0_3 a1_0 a1_1).bind fun t568=>((spec_l1Of.f k (wrap64 (t568*t568)) t565).bind fun bt569=>(some (bt569.1,bt569.2)))))))
set_option maxHeartbeats 8000000 in
set_option maxRecDepth 100000 in
theorem spec_l2Far.calls (k:Nat)(a0_0:Int)(a0_1:Int)(a0_2:Int)(a0_3:Int)(a1_0:Int)(a1_1:Int)(r1:Int)(r2:Int)(w:World)(h:spec_l2Far.f k a0_0 a0_1 a0_2 a0_3 a1_0 a1_1=some (r1,r2)):
  Calls Tryd.prog 107 #[.agg #[.int .i64 a0_0,.int .i64 a0_1,.int .i64 a0_2,.int .i64 a0_3],.agg #[.int .i64 a1_0,.int .i64 a1_1]] w fun e w'=>e=.returned (.agg #[.int .i64 r1,.int .i64 r2])∧Below w.heap.size w w':=by
 have hu61:=Tryd.underlying61;have hu28:=Tryd.underlying28;have hu35:=Tryd.underlying35;have HB:=a0_ (Below.refl w.heap.size w);have H:((spec_l2Dot.f a0_0 a0_1 a0_2 a0_3 a1_0 a1_1).bind fun t564=>((spec_l2Dot.f a0_0 a0_1 a0_2 a0_3 a0_2 a0_3).bind fun t565=>(if t564≤0 then ((spec_l2Dot.f a0_0 a0_1 a1_0 a1_1 a1_0 a1_1).bind fun t566=>(some (t566,1))) else (if t564≥t565 then ((spec_l2Dot.f a0_2 a0_3 a1_0 a1_1 a1_0 a1_1).bind fun t567=>(some (t567,1))) else ((spec_l2Cross.f a0_0 a0_1 a0_2 a0_3 a1_0 a1_1).bind fun t568=>((spec_l1Of.f k (wrap64 (t568*t568)) t565).bind fun bt569=>(some (bt569.1,bt569.2))))))))=some (r1,r2):=h;clear h;replace H:=Option.bind_eq_some_iff.mp H;obtain⟨t564,A30,H⟩:=H
 (try dsimp only at H)
 have A3:=Aside0.mk A30;clear A30;replace H:=Option.bind_eq_some_iff.mp H;obtain⟨t565,A40,H⟩:=H
 (try dsimp only at H)
 have A4:=Aside0.mk A40;clear A40;by_cases c5:t564≤0
 ·
  rw [if_pos c5] at H;have c5b0:decide (t564≤0)=true:=decide_eq_true c5;clear c5;replace H:=Option.bind_eq_some_iff.mp H;obtain⟨t566,A60,H⟩:=H
  (try dsimp only at H)
  have A6:=Aside0.mk A60;clear A60;simp only [Option.some.injEq,Prod.mk.injEq] at H;obtain⟨rfl,rfl⟩:=H;go_enter Tryd.func107,Tryd.ntmps107
  go_wp2_with (first | ((with_reducible refine gate_dst (N:=2) rfl ?_);refine bx_ (N:=2) (cs:=#[.int .i64 a0_0,.int .i64 a0_1,.int .i64 a0_2,.int .i64 a0_3]) (t:=61) (h:=?_);intro gb561 hg w7 hbox hb;have BK561:=a0_ (hbox);have GW561:=gh_ HB hg;have GE561:=gh_ HB hg;replace HB:=sb_ HB hb;clear hb hbox hg) | ((with_reducible refine gate_dst (N:=3) rfl ?_);refine bx_ (N:=3) (cs:=#[.int .i64 a1_0,.int .i64 a1_1]) (t:=28) (h:=?_);intro gb562 hg w8 hbox hb;have BK562:=a0_ (hbox);have GW562:=gh_ HB hg;have GE562:=gh_ HB hg;have NB561_562:=nl_ BK561 hg;have NB562_561:=nr_ BK561 hg;replace BK561:=vb_ BK561 hb;replace HB:=sb_ HB hb;clear hb hbox hg) | ((with_reducible refine gate_dst (N:=4) rfl ?_);refine bx_ (N:=4) (cs:=#[.int .i64 0,.int .i64 0]) (t:=35) (h:=?_);intro gb563 hg w9 hbox hb;have BK563:=a0_ (hbox);have GW563:=gh_ HB hg;have GE563:=gh_ HB hg;have NB561_563:=nl_ BK561 hg;have NB563_561:=nr_ BK561 hg;have NB562_563:=nl_ BK562 hg;have NB563_562:=nr_ BK562 hg;replace BK561:=vb_ BK561 hb;replace BK562:=vb_ BK562 hb;replace HB:=sb_ HB hb;clear hb hbox hg;have hnb10:=NB561_562.out;have hnc10:=NB562_561.out;have hnb11:=NB561_563.out;have hnc11:=NB563_561.out;have hcz12_0:=c40_ BK561;have hcz12_1:=c41_ BK561;have hcz12_2:=c42_ BK561;have hcz12_3:=c43_ BK561;have hfz12_0:=fz_ BK561 0;have hfz12_1:=fz_ BK561 1;have hfz12_2:=fz_ BK561 2;have hfz12_3:=fz_ BK561 3;have hnb13:=NB562_563.out;have hnc13:=NB563_562.out;have hcz14_0:=c20_ BK562;have hcz14_1:=c21_ BK562;have hfz14_0:=fz_ BK562 0;have hfz14_1:=fz_ BK562 1) | ((with_reducible refine gate_callee (f:=117) rfl ?_);refine gL_ (some 13) Tryd.func117 #[.agg #[.int .i64 a0_0,.int .i64 a0_1],.agg #[.int .i64 a0_2,.int .i64 a0_3],.agg #[.int .i64 a1_0,.int .i64 a1_1]] (h:=?_);(with_reducible refine (spec_l2Dot.calls a0_0 a0_1 a0_2 a0_3 a1_0 a1_1 t564 _ A3.out).mono ?_);rintro e w15 ⟨rfl,hb⟩;refine⟨_,rfl,?_⟩;replace BK561:=vb_ BK561 hb;replace BK562:=vb_ BK562 hb;replace BK563:=vb_ BK563 hb;replace HB:=sb_ HB hb;(try clear hb);have hcz16_0:=c40_ BK561;have hcz16_1:=c41_ BK561;have hcz16_2:=c42_ BK561;have hcz16_3:=c43_ BK561;have hfz16_0:=fz_ BK561 0;have hfz16_1:=fz_ BK561 1;have hfz16_2:=fz_ BK561 2;have hfz16_3:=fz_ BK561 3) | ((with_reducible refine gate_callee (f:=117) rfl ?_);refine gL_ (some 20) Tryd.func117 #[.agg #[.int .i64 a0_0,.int .i64 a0_1],.agg #[.int .i64 a0_2,.int .i64 a0_3],.agg #[.int .i64 a0_2,.int .i64 a0_3]] (h:=?_);(with_reducible refine (spec_l2Dot.calls a0_0 a0_1 a0_2 a0_3 a0_2 a0_3 t565 _ A4.out).mono ?_);rintro e w17 ⟨rfl,hb⟩;refine⟨_,rfl,?_⟩;replace BK561:=vb_ BK561 hb;replace BK562:=vb_ BK562 hb;replace BK563:=vb_ BK563 hb;replace HB:=sb_ HB hb;(try clear hb);have hcz18_0:=c40_ BK561;have hcz18_1:=c41_ BK561;have hcz18_2:=c42_ BK561;have hcz18_3:=c43_ BK561;have hfz18_0:=fz_ BK561 0;have hfz18_1:=fz_ BK561 1;have hfz18_2:=fz_ BK561 2;have hfz18_3:=fz_ BK561 3;have hcz19_0:=c20_ BK562;have hcz19_1:=c21_ BK562;have hfz19_0:=fz_ BK562 0;have hfz19_1:=fz_ BK562 1) | ((with_reducible refine gate_callee (f:=117) rfl ?_);refine gL_ (some 28) Tryd.func117 #[.agg #[.int .i64 a0_0,.int .i64 a0_1],.agg #[.int .i64 a1_0,.int .i64 a1_1],.agg #[.int .i64 a1_0,.int .i64 a1_1]] (h:=?_);(with_reducible refine (spec_l2Dot.calls a0_0 a0_1 a1_0 a1_1 a1_0 a1_1 t566 _ A6.out).mono ?_);rintro e w20 ⟨rfl,hb⟩;refine⟨_,rfl,?_⟩;replace BK561:=vb_ BK561 hb;replace BK562:=vb_ BK562 hb;replace BK563:=vb_ BK563 hb;replace HB:=sb_ HB hb;(try clear hb);have hcz21_0:=c20_ BK563;have hcz21_1:=c21_ BK563;have hfz21_0:=fz_ BK563 0;have hfz21_1:=fz_ BK563 1))
  refine bodyPost_ret (results_cell_row rfl _ _ gb563 35 #[.int .i64 t566,.int .i64 1] (0,0) _ rfl (by (with_reducible repeat (first | refine blk_drewN ?_ _ | refine blk_drew ?_ | refine blk_alloc ?_ _));refine blk_put (cs:=#[.int .i64 t566,.int .i64 0]) ?_ 1 _ rfl;(with_reducible repeat (first | refine blk_drewN ?_ _ | refine blk_drew ?_ | refine blk_alloc ?_ _));refine blk_put (cs:=#[.int .i64 0,.int .i64 0]) ?_ 0 _ rfl;(with_reducible repeat (first | refine blk_drewN ?_ _ | refine blk_drew ?_ | refine blk_alloc ?_ _));exact BK563.out) Tryd.underlying35 rfl (by kernel_rfl)) rfl ?_;exact⟨rr_,hB_⟩
 ·
  rw [if_neg c5] at H;have c5b0:decide (t564≤0)=false:=decide_eq_false c5;clear c5;by_cases c22:t564≥t565
  ·
   rw [if_pos c22] at H;have c22b0:decide (t565≤t564)=true:=decide_eq_true c22;clear c22;replace H:=Option.bind_eq_some_iff.mp H;obtain⟨t567,A230,H⟩:=H
   (try dsimp only at H)
   have A23:=Aside0.mk A230;clear A230;simp only [Option.some.injEq,Prod.mk.injEq] at H;obtain⟨rfl,rfl⟩:=H;go_enter Tryd.func107,Tryd.ntmps107
   go_wp2_with (first | ((with_reducible refine gate_dst (N:=2) rfl ?_);refine bx_ (N:=2) (cs:=#[.int .i64 a0_0,.int .i64 a0_1,.int .i64 a0_2,.int .i64 a0_3]) (t:=61) (h:=?_);intro gb561 hg w24 hbox hb;have BK561:=a0_ (hbox);have GW561:=gh_ HB hg;have GE561:=gh_ HB hg;replace HB:=sb_ HB hb;clear hb hbox hg) | ((with_reducible refine gate_dst (N:=3) rfl ?_);refine bx_ (N:=3) (cs:=#[.int .i64 a1_0,.int .i64 a1_1]) (t:=28) (h:=?_);intro gb562 hg w25 hbox hb;have BK562:=a0_ (hbox);have GW562:=gh_ HB hg;have GE562:=gh_ HB hg;have NB561_562:=nl_ BK561 hg;have NB562_561:=nr_ BK561 hg;replace BK561:=vb_ BK561 hb;replace HB:=sb_ HB hb;clear hb hbox hg) | ((with_reducible refine gate_dst (N:=4) rfl ?_);refine bx_ (N:=4) (cs:=#[.int .i64 0,.int .i64 0]) (t:=35) (h:=?_);intro gb563 hg w26 hbox hb;have BK563:=a0_ (hbox);have GW563:=gh_ HB hg;have GE563:=gh_ HB hg;have NB561_563:=nl_ BK561 hg;have NB563_561:=nr_ BK561 hg;have NB562_563:=nl_ BK562 hg;have NB563_562:=nr_ BK562 hg;replace BK561:=vb_ BK561 hb;replace BK562:=vb_ BK562 hb;replace HB:=sb_ HB hb;clear hb hbox hg;have hnb27:=NB561_562.out;have hnc27:=NB562_561.out;have hnb28:=NB561_563.out;have hnc28:=NB563_561.out;have hcz29_0:=c40_ BK561;have hcz29_1:=c41_ BK561;have hcz29_2:=c42_ BK561;have hcz29_3:=c43_ BK561;have hfz29_0:=fz_ BK561 0;have hfz29_1:=fz_ BK561 1;have hfz29_2:=fz_ BK561 2;have hfz29_3:=fz_ BK561 3;have hnb30:=NB562_563.out;have hnc30:=NB563_562.out;have hcz31_0:=c20_ BK562;have hcz31_1:=c21_ BK562;have hfz31_0:=fz_ BK562 0;have hfz31_1:=fz_ BK562 1) | ((with_reducible refine gate_callee (f:=117) rfl ?_);refine gL_ (some 13) Tryd.func117 #[.agg #[.int .i64 a0_0,.int .i64 a0_1],.agg #[.int .i64 a0_2,.int .i64 a0_3],.agg #[.int .i64 a1_0,.int .i64 a1_1]] (h:=?_);(with_reducible refine (spec_l2Dot.calls a0_0 a0_1 a0_2 a0_3 a1_0 a1_1 t564 _ A3.out).mono ?_);rintro e w32 ⟨rfl,hb⟩;refine⟨_,rfl,?_⟩;replace BK561:=vb_ BK561 hb;replace BK562:=vb_ BK562 hb;replace BK563:=vb_ BK563 hb;replace HB:=sb_ HB hb;(try clear hb);have hcz33_0:=c40_ BK561;have hcz33_1:=c41_ BK561;have hcz33_2:=c42_ BK561;have hcz33_3:=c43_ BK561;have hfz33_0:=fz_ BK561 0;have hfz33_1:=fz_ BK561 1;have hfz33_2:=fz_ BK561 2;have hfz33_3:=fz_ BK561 3) | ((with_reducible refine gate_callee (f:=117) rfl ?_);refine gL_ (some 20) Tryd.func117 #[.agg #[.int .i64 a0_0,.int .i64 a0_1],.agg #[.int .i64 a0_2,.int .i64 a0_3],.agg #[.int .i64 a0_2,.int .i64 a0_3]] (h:=?_);(with_reducible refine (spec_l2Dot.calls a0_0 a0_1 a0_2 a0_3 a0_2 a0_3 t565 _ A4.out).mono ?_);rintro e w34 ⟨rfl,hb⟩;refine⟨_,rfl,?_⟩;replace BK561:=vb_ BK561 hb;replace BK562:=vb_ BK562 hb;replace BK563:=vb_ BK563 hb;replace HB:=sb_ HB hb;(try clear hb);have hcz35_0:=c40_ BK561;have hcz35_1:=c41_ BK561;have hcz35_2:=c42_ BK561;have hcz35_3:=c43_ BK561;have hfz35_0:=fz_ BK561 0;have hfz35_1:=fz_ BK561 1;have hfz35_2:=fz_ BK561 2;have hfz35_3:=fz_ BK561 3;have hcz36_0:=c20_ BK562;have hcz36_1:=c21_ BK562;have hfz36_0:=fz_ BK562 0;have hfz36_1:=fz_ BK562 1) | ((with_reducible refine gate_callee (f:=117) rfl ?_);refine gL_ (some 38) Tryd.func117 #[.agg #[.int .i64 a0_2,.int .i64 a0_3],.agg #[.int .i64 a1_0,.int .i64 a1_1],.agg #[.int .i64 a1_0,.int .i64 a1_1]] (h:=?_);(with_reducible refine (spec_l2Dot.calls a0_2 a0_3 a1_0 a1_1 a1_0 a1_1 t567 _ A23.out).mono ?_);rintro e w37 ⟨rfl,hb⟩;refine⟨_,rfl,?_⟩;replace BK561:=vb_ BK561 hb;replace BK562:=vb_ BK562 hb;replace BK563:=vb_ BK563 hb;replace HB:=sb_ HB hb;(try clear hb);have hcz38_0:=c20_ BK563;have hcz38_1:=c21_ BK563;have hfz38_0:=fz_ BK563 0;have hfz38_1:=fz_ BK563 1))
   refine bodyPost_ret (results_cell_row rfl _ _ gb563 35 #[.int .i64 t567,.int .i64 1] (0,0) _ rfl (by (with_reducible repeat (first | refine blk_drewN ?_ _ | refine blk_drew ?_ | refine blk_alloc ?_ _));refine blk_put (cs:=#[.int .i64 t567,.int .i64 0]) ?_ 1 _ rfl;(with_reducible repeat (first | refine blk_drewN ?_ _ | refine blk_drew ?_ | refine blk_alloc ?_ _));refine blk_put (cs:=#[.int .i64 0,.int .i64 0]) ?_ 0 _ rfl;(with_reducible repeat (first | refine blk_drewN ?_ _ | refine blk_drew ?_ | refine blk_alloc ?_ _));exact BK563.out) Tryd.underlying35 rfl (by kernel_rfl)) rfl ?_;exact⟨rr_,hB_⟩
  ·
   rw [if_neg c22] at H;have c22b0:decide (t565≤t564)=false:=decide_eq_false c22;clear c22;replace H:=Option.bind_eq_some_iff.mp H;obtain⟨t568,A390,H⟩:=H
   (try dsimp only at H)
   have A39:=Aside0.mk A390;clear A390;replace H:=Option.bind_eq_some_iff.mp H;obtain⟨⟨t569,t570⟩,A400,H⟩:=H
   (try dsimp only at H)
   have A40:=Aside0.mk A400;clear A400;simp only [Option.some.injEq,Prod.mk.injEq] at H;obtain⟨rfl,rfl⟩:=H;go_enter Tryd.func107,Tryd.ntmps107
   go_wp2_with (first | ((with_reducible refine gate_dst (N:=2) rfl ?_);refine bx_ (N:=2) (cs:=#[.int .i64 a0_0,.int .i64 a0_1,.int .i64 a0_2,.int .i64 a0_3]) (t:=61) (h:=?_);intro gb561 hg w41 hbox hb;have BK561:=a0_ (hbox);have GW561:=gh_ HB hg;have GE561:=gh_ HB hg;replace HB:=sb_ HB hb;clear hb hbox hg) | ((with_reducible refine gate_dst (N:=3) rfl ?_);refine bx_ (N:=3) (cs:=#[.int .i64 a1_0,.int .i64 a1_1]) (t:=28) (h:=?_);intro gb562 hg w42 hbox hb;have BK562:=a0_ (hbox);have GW562:=gh_ HB hg;have GE562:=gh_ HB hg;have NB561_562:=nl_ BK561 hg;have NB562_561:=nr_ BK561 hg;replace BK561:=vb_ BK561 hb;replace HB:=sb_ HB hb;clear hb hbox hg) | ((with_reducible refine gate_dst (N:=4) rfl ?_);refine bx_ (N:=4) (cs:=#[.int .i64 0,.int .i64 0]) (t:=35) (h:=?_);intro gb563 hg w43 hbox hb;have BK563:=a0_ (hbox);have GW563:=gh_ HB hg;have GE563:=gh_ HB hg;have NB561_563:=nl_ BK561 hg;have NB563_561:=nr_ BK561 hg;have NB562_563:=nl_ BK562 hg;have NB563_562:=nr_ BK562 hg;replace BK561:=vb_ BK561 hb;replace BK562:=vb_ BK562 hb;replace HB:=sb_ HB hb;clear hb hbox hg;have hnb44:=NB561_562.out;have hnc44:=NB562_561.out;have hnb45:=NB561_563.out;have hnc45:=NB563_561.out;have hcz46_0:=c40_ BK561;have hcz46_1:=c41_ BK561;have hcz46_2:=c42_ BK561;have hcz46_3:=c43_ BK561;have hfz46_0:=fz_ BK561 0;have hfz46_1:=fz_ BK561 1;have hfz46_2:=fz_ BK561 2;have hfz46_3:=fz_ BK561 3;have hnb47:=NB562_563.out;have hnc47:=NB563_562.out;have hcz48_0:=c20_ BK562;have hcz48_1:=c21_ BK562;have hfz48_0:=fz_ BK562 0;have hfz48_1:=fz_ BK562 1) | ((with_reducible refine gate_callee (f:=117) rfl ?_);refine gL_ (some 13) Tryd.func117 #[.agg #[.int .i64 a0_0,.int .i64 a0_1],.agg #[.int .i64 a0_2,.int .i64 a0_3],.agg #[.int .i64 a1_0,.int .i64 a1_1]] (h:=?_);(with_reducible refine (spec_l2Dot.calls a0_0 a0_1 a0_2 a0_3 a1_0 a1_1 t564 _ A3.out).mono ?_);rintro e w49 ⟨rfl,hb⟩;refine⟨_,rfl,?_⟩;replace BK561:=vb_ BK561 hb;replace BK562:=vb_ BK562 hb;replace BK563:=vb_ BK563 hb;replace HB:=sb_ HB hb;(try clear hb);have hcz50_0:=c40_ BK561;have hcz50_1:=c41_ BK561;have hcz50_2:=c42_ BK561;have hcz50_3:=c43_ BK561;have hfz50_0:=fz_ BK561 0;have hfz50_1:=fz_ BK561 1;have hfz50_2:=fz_ BK561 2;have hfz50_3:=fz_ BK561 3) | ((with_reducible refine gate_callee (f:=117) rfl ?_);refine gL_ (some 20) Tryd.func117 #[.agg #[.int .i64 a0_0,.int .i64 a0_1],.agg #[.int .i64 a0_2,.int .i64 a0_3],.agg #[.int .i64 a0_2,.int .i64 a0_3]] (h:=?_);(with_reducible refine (spec_l2Dot.calls a0_0 a0_1 a0_2 a0_3 a0_2 a0_3 t565 _ A4.out).mono ?_);rintro e w51 ⟨rfl,hb⟩;refine⟨_,rfl,?_⟩;replace BK561:=vb_ BK561 hb;replace BK562:=vb_ BK562 hb;replace BK563:=vb_ BK563 hb;replace HB:=sb_ HB hb;(try clear hb);have hcz52_0:=c40_ BK561;have hcz52_1:=c41_ BK561;have hcz52_2:=c42_ BK561;have hcz52_3:=c43_ BK561;have hfz52_0:=fz_ BK561 0;have hfz52_1:=fz_ BK561 1;have hfz52_2:=fz_ BK561 2;have hfz52_3:=fz_ BK561 3;have hcz53_0:=c20_ BK562;have hcz53_1:=c21_ BK562;have hfz53_0:=fz_ BK562 0;have hfz53_1:=fz_ BK562 1) | ((with_reducible refine gate_callee (f:=102) rfl ?_);refine gL_ (some 45) Tryd.func102 #[.agg #[.int .i64 a0_0,.int .i64 a0_1],.agg #[.int .i64 a0_2,.int .i64 a0_3],.agg #[.int .i64 a1_0,.int .i64 a1_1]] (h:=?_);(with_reducible refine (spec_l2Cross.calls a0_0 a0_1 a0_2 a0_3 a1_0 a1_1 t568 _ A39.out).mono ?_);rintro e w54 ⟨rfl,hb⟩;refine⟨_,rfl,?_⟩;replace BK561:=vb_ BK561 hb;replace BK562:=vb_ BK562 hb;replace BK563:=vb_ BK563 hb;replace HB:=sb_ HB hb;(try clear hb)) | ((with_reducible refine gate_callee (f:=119) rfl ?_);refine gL_ (some 50) Tryd.func119 #[.int .i64 (wrap64 (t568*t568)),.int .i64 t565] (h:=?_);(with_reducible refine (spec_l1Of.calls k (wrap64 (t568*t568)) t565 t569 t570 _ A40.out).mono ?_);rintro e w55 ⟨rfl,hb⟩;refine⟨_,rfl,?_⟩;replace BK561:=vb_ BK561 hb;replace BK562:=vb_ BK562 hb;replace BK563:=vb_ BK563 hb;replace HB:=sb_ HB hb;(try clear hb);have hcz56_0:=c20_ BK563;have hcz56_1:=c21_ BK563;have hfz56_0:=fz_ BK563 0;have hfz56_1:=fz_ BK563 1))
   refine bodyPost_ret (results_cell_row rfl _ _ gb563 35 #[.int .i64 t569,.int .i64 t570] (0,0) _ rfl (by (with_reducible repeat (first | refine blk_drewN ?_ _ | refine blk_drew ?_ | refine blk_alloc ?_ _));refine blk_put (cs:=#[.int .i64 t569,.int .i64 0]) ?_ 1 _ rfl;(with_reducible repeat (first | refine blk_drewN ?_ _ | refine blk_drew ?_ | refine blk_alloc ?_ _));refine blk_put (cs:=#[.int .i64 0,.int .i64 0]) ?_ 0 _ rfl;(with_reducible repeat (first | refine blk_drewN ?_ _ | refine blk_drew ?_ | refine blk_alloc ?_ _));exact BK563.out) Tryd.underlying35 rfl (by kernel_rfl)) rfl ?_;exact⟨rr_,hB_⟩
theorem eqA28 (d:Nat)(w:World)(x0 y0:Int)(x1 y1:Int):
  (Op.equalIn (d+2) 28 (.agg #[.int .i64 x0,.int .i64 x1]) (.agg #[.int .i64 y0,.int .i64 y1])).run Tryd.prog w=.ok (x0==y0 && (x1==y1)) w:=by
 refine eqA_of Tryd.underlying28 (by kernel_rfl) ?_;refine eqf_cons (by rfl) (by go_simp;rfl) (by go_simp;rfl) (by go_simp) ?_;exact eqf_last (by rfl) (by go_simp;rfl) (by go_simp;rfl) (by go_simp)
theorem eqA35 (d:Nat)(w:World)(x0 y0:Int)(x1 y1:Int):
  (Op.equalIn (d+2) 35 (.agg #[.int .i64 x0,.int .i64 x1]) (.agg #[.int .i64 y0,.int .i64 y1])).run Tryd.prog w=.ok (x0==y0 && (x1==y1)) w:=by
 refine eqA_of Tryd.underlying35 (by kernel_rfl) ?_;refine eqf_cons (by rfl) (by go_simp;rfl) (by go_simp;rfl) (by go_simp) ?_;exact eqf_last (by rfl) (by go_simp;rfl) (by go_simp;rfl) (by go_simp)
def spec_PtOk.f (a0_0:Int)(a0_1:Int):Option (Bool):=(spec_l6In.f a0_0 0 9).bind fun t136=>(if t136=true then ((spec_l6In.f a0_1 0 9).bind fun t137=>(some t137)) else (some false))
set_option maxHeartbeats 8000000 in
set_option maxRecDepth 100000 in
theorem spec_PtOk.calls (a0_0:Int)(a0_1:Int)(r:Bool)(w:World)(h:spec_PtOk.f a0_0 a0_1=some r):
  Calls Tryd.prog 19 #[.agg #[.int .i64 a0_0,.int .i64 a0_1]] w fun e w'=>e=.returned (.bool r)∧Below w.heap.size w w':=by
 have hu28:=Tryd.underlying28;have HB:=a0_ (Below.refl w.heap.size w);have H:((spec_l6In.f a0_0 0 9).bind fun t136=>(if t136=true then ((spec_l6In.f a0_1 0 9).bind fun t137=>(some t137)) else (some false)))=some r:=h;clear h;replace H:=Option.bind_eq_some_iff.mp H;obtain⟨t136,A20,H⟩:=H
 (try dsimp only at H)
 have A2:=Aside0.mk A20;clear A20;by_cases c3:t136=true
 ·
  subst c3;rw [if_pos rfl] at H
  (try dsimp only at H)
  replace H:=Option.bind_eq_some_iff.mp H;obtain⟨t137,A40,H⟩:=H
  (try dsimp only at H)
  have A4:=Aside0.mk A40;clear A40;obtain rfl:=Option.some.inj H;go_enter Tryd.func19,Tryd.ntmps19;go_wp2_with (first | ((with_reducible refine gate_dst (N:=1) rfl ?_);refine bx_ (N:=1) (cs:=#[.int .i64 a0_0,.int .i64 a0_1]) (t:=28) (h:=?_);intro gb135 hg w5 hbox hb;have BK135:=a0_ (hbox);have GW135:=gh_ HB hg;have GE135:=gh_ HB hg;replace HB:=sb_ HB hb;clear hb hbox hg;have hcz6_0:=c20_ BK135;have hcz6_1:=c21_ BK135;have hfz6_0:=fz_ BK135 0;have hfz6_1:=fz_ BK135 1) | ((with_reducible refine gate_callee (f:=58) rfl ?_);refine gL_ (some 5) Tryd.func58 #[.int .i64 a0_0,.int .i64 0,.int .i64 9] (h:=?_);(with_reducible refine (spec_l6In.calls a0_0 0 9 true _ A2.out).mono ?_);rintro e w' ⟨rfl,⟨nd,rfl⟩⟩;refine⟨_,rfl,?_⟩) | (go_at_call 58;(with_reducible refine (spec_l6In.calls a0_1 0 9 t137 _ A4.out).mono ?_);rintro e w' ⟨rfl,⟨nd,rfl⟩⟩));go_ret;exact⟨rr_,hB_⟩
 ·
  replace c3:=Bool.eq_false_iff.mpr c3;subst c3;rw [if_neg (show ¬ (false=true) by decide)] at H
  (try dsimp only at H)
  obtain rfl:=Option.some.inj H;go_enter Tryd.func19,Tryd.ntmps19;go_wp2_with (first | ((with_reducible refine gate_dst (N:=1) rfl ?_);refine bx_ (N:=1) (cs:=#[.int .i64 a0_0,.int .i64 a0_1]) (t:=28) (h:=?_);intro gb135 hg w7 hbox hb;have BK135:=a0_ (hbox);have GW135:=gh_ HB hg;have GE135:=gh_ HB hg;replace HB:=sb_ HB hb;clear hb hbox hg;have hcz8_0:=c20_ BK135;have hcz8_1:=c21_ BK135;have hfz8_0:=fz_ BK135 0;have hfz8_1:=fz_ BK135 1) | ((with_reducible refine gate_callee (f:=58) rfl ?_);refine gL_ (some 5) Tryd.func58 #[.int .i64 a0_0,.int .i64 0,.int .i64 9] (h:=?_);(with_reducible refine (spec_l6In.calls a0_0 0 9 false _ A2.out).mono ?_);rintro e w' ⟨rfl,⟨nd,rfl⟩⟩;refine⟨_,rfl,?_⟩));go_ret;exact⟨rr_,hB_⟩
attribute [local go_sem high] eqA28
def spec_SegOk.f (a0_0:Int)(a0_1:Int)(a0_2:Int)(a0_3:Int):Option (Bool):=(spec_PtOk.f a0_0 a0_1).bind fun t139=>(if t139=true then ((spec_PtOk.f a0_2 a0_3).bind fun t140=>(if t140=true then (some (!(a0_0==a0_2) || (!(a0_1==a0_3)))) else (some false))) else (some false))
set_option maxHeartbeats 8000000 in
set_option maxRecDepth 100000 in
theorem spec_SegOk.calls (a0_0:Int)(a0_1:Int)(a0_2:Int)(a0_3:Int)(r:Bool)(w:World)(h:spec_SegOk.f a0_0 a0_1 a0_2 a0_3=some r):
  Calls Tryd.prog 99 #[.agg #[.int .i64 a0_0,.int .i64 a0_1,.int .i64 a0_2,.int .i64 a0_3]] w fun e w'=>e=.returned (.bool r)∧Below w.heap.size w w':=by
 have hu61:=Tryd.underlying61;have hu28:=Tryd.underlying28;have HB:=a0_ (Below.refl w.heap.size w);have H:((spec_PtOk.f a0_0 a0_1).bind fun t139=>(if t139=true then ((spec_PtOk.f a0_2 a0_3).bind fun t140=>(if t140=true then (some (!(a0_0==a0_2) || (!(a0_1==a0_3)))) else (some false))) else (some false)))=some r:=h;clear h;replace H:=Option.bind_eq_some_iff.mp H;obtain⟨t139,A20,H⟩:=H
 (try dsimp only at H)
 have A2:=Aside0.mk A20;clear A20;by_cases c3:t139=true
 ·
  subst c3;rw [if_pos rfl] at H
  (try dsimp only at H)
  replace H:=Option.bind_eq_some_iff.mp H;obtain⟨t140,A40,H⟩:=H
  (try dsimp only at H)
  have A4:=Aside0.mk A40;clear A40;by_cases c5:t140=true
  ·
   subst c5;rw [if_pos rfl] at H
   (try dsimp only at H)
   obtain rfl:=Option.some.inj H;go_enter Tryd.func99,Tryd.ntmps99;go_wp2_with (first | ((with_reducible refine gate_dst (N:=1) rfl ?_);refine bx_ (N:=1) (cs:=#[.int .i64 a0_0,.int .i64 a0_1,.int .i64 a0_2,.int .i64 a0_3]) (t:=61) (h:=?_);intro gb138 hg w6 hbox hb;have BK138:=a0_ (hbox);have GW138:=gh_ HB hg;have GE138:=gh_ HB hg;replace HB:=sb_ HB hb;clear hb hbox hg;have hcz7_0:=c40_ BK138;have hcz7_1:=c41_ BK138;have hcz7_2:=c42_ BK138;have hcz7_3:=c43_ BK138;have hfz7_0:=fz_ BK138 0;have hfz7_1:=fz_ BK138 1;have hfz7_2:=fz_ BK138 2;have hfz7_3:=fz_ BK138 3) | ((with_reducible refine gate_callee (f:=19) rfl ?_);refine gL_ (some 5) Tryd.func19 #[.agg #[.int .i64 a0_0,.int .i64 a0_1]] (h:=?_);(with_reducible refine (spec_PtOk.calls a0_0 a0_1 true _ A2.out).mono ?_);rintro e w8 ⟨rfl,hb⟩;refine⟨_,rfl,?_⟩;replace BK138:=vb_ BK138 hb;replace HB:=sb_ HB hb;(try clear hb);have hcz9_0:=c40_ BK138;have hcz9_1:=c41_ BK138;have hcz9_2:=c42_ BK138;have hcz9_3:=c43_ BK138;have hfz9_0:=fz_ BK138 0;have hfz9_1:=fz_ BK138 1;have hfz9_2:=fz_ BK138 2;have hfz9_3:=fz_ BK138 3) | (go_at_call 19;(with_reducible refine (spec_PtOk.calls a0_2 a0_3 true _ A4.out).mono ?_);rintro e w10 ⟨rfl,hb⟩;replace BK138:=vb_ BK138 hb;replace HB:=sb_ HB hb;(try clear hb);have hcz11_0:=c40_ BK138;have hcz11_1:=c41_ BK138;have hcz11_2:=c42_ BK138;have hcz11_3:=c43_ BK138;have hfz11_0:=fz_ BK138 0;have hfz11_1:=fz_ BK138 1;have hfz11_2:=fz_ BK138 2;have hfz11_3:=fz_ BK138 3));go_ret;exact⟨rr_,hB_⟩
  ·
   replace c5:=Bool.eq_false_iff.mpr c5;subst c5;rw [if_neg (show ¬ (false=true) by decide)] at H
   (try dsimp only at H)
   obtain rfl:=Option.some.inj H;go_enter Tryd.func99,Tryd.ntmps99;go_wp2_with (first | ((with_reducible refine gate_dst (N:=1) rfl ?_);refine bx_ (N:=1) (cs:=#[.int .i64 a0_0,.int .i64 a0_1,.int .i64 a0_2,.int .i64 a0_3]) (t:=61) (h:=?_);intro gb138 hg w12 hbox hb;have BK138:=a0_ (hbox);have GW138:=gh_ HB hg;have GE138:=gh_ HB hg;replace HB:=sb_ HB hb;clear hb hbox hg;have hcz13_0:=c40_ BK138;have hcz13_1:=c41_ BK138;have hcz13_2:=c42_ BK138;have hcz13_3:=c43_ BK138;have hfz13_0:=fz_ BK138 0;have hfz13_1:=fz_ BK138 1;have hfz13_2:=fz_ BK138 2;have hfz13_3:=fz_ BK138 3) | ((with_reducible refine gate_callee (f:=19) rfl ?_);refine gL_ (some 5) Tryd.func19 #[.agg #[.int .i64 a0_0,.int .i64 a0_1]] (h:=?_);(with_reducible refine (spec_PtOk.calls a0_0 a0_1 true _ A2.out).mono ?_);rintro e w14 ⟨rfl,hb⟩;refine⟨_,rfl,?_⟩;replace BK138:=vb_ BK138 hb;replace HB:=sb_ HB hb;(try clear hb);have hcz15_0:=c40_ BK138;have hcz15_1:=c41_ BK138;have hcz15_2:=c42_ BK138;have hcz15_3:=c43_ BK138;have hfz15_0:=fz_ BK138 0;have hfz15_1:=fz_ BK138 1;have hfz15_2:=fz_ BK138 2;have hfz15_3:=fz_ BK138 3) | (go_at_call 19;(with_reducible refine (spec_PtOk.calls a0_2 a0_3 false _ A4.out).mono ?_);rintro e w16 ⟨rfl,hb⟩;replace BK138:=vb_ BK138 hb;replace HB:=sb_ HB hb;(try clear hb)));go_ret;exact⟨rr_,hB_⟩
 ·
  replace c3:=Bool.eq_false_iff.mpr c3;subst c3;rw [if_neg (show ¬ (false=true) by decide)] at H
  (try dsimp only at H)
  obtain rfl:=Option.some.inj H;go_enter Tryd.func99,Tryd.ntmps99;go_wp2_with (first | ((with_reducible refine gate_dst (N:=1) rfl ?_);refine bx_ (N:=1) (cs:=#[.int .i64 a0_0,.int .i64 a0_1,.int .i64 a0_2,.int .i64 a0_3]) (t:=61) (h:=?_);intro gb138 hg w17 hbox hb;have BK138:=a0_ (hbox);have GW138:=gh_ HB hg;have GE138:=gh_ HB hg;replace HB:=sb_ HB hb;clear hb hbox hg;have hcz18_0:=c40_ BK138;have hcz18_1:=c41_ BK138;have hcz18_2:=c42_ BK138;have hcz18_3:=c43_ BK138;have hfz18_0:=fz_ BK138 0;have hfz18_1:=fz_ BK138 1;have hfz18_2:=fz_ BK138 2;have hfz18_3:=fz_ BK138 3) | ((with_reducible refine gate_callee (f:=19) rfl ?_);refine gL_ (some 5) Tryd.func19 #[.agg #[.int .i64 a0_0,.int .i64 a0_1]] (h:=?_);(with_reducible refine (spec_PtOk.calls a0_0 a0_1 false _ A2.out).mono ?_);rintro e w19 ⟨rfl,hb⟩;refine⟨_,rfl,?_⟩;replace BK138:=vb_ BK138 hb;replace HB:=sb_ HB hb;(try clear hb)));go_ret;exact⟨rr_,hB_⟩
def impl_along.f (a0_0:Int)(a0_1:Int)(a1_0:Int)(a1_1:Int)(a2_0:Int)(a2_1:Int):Option (Int):=some (wrap64 ((wrap64 ((wrap64 (a1_0-a0_0))*(wrap64 (a2_0-a0_0))))+(wrap64 ((wrap64 (a1_1-a0_1))*(wrap64 (a2_1-a0_1))))))
set_option maxHeartbeats 8000000 in
set_option maxRecDepth 100000 in
theorem impl_along.calls (a0_0:Int)(a0_1:Int)(a1_0:Int)(a1_1:Int)(a2_0:Int)(a2_1:Int)(r:Int)(w:World)(h:impl_along.f a0_0 a0_1 a1_0 a1_1 a2_0 a2_1=some r):
  Calls Tryd.prog 109 #[.agg #[.int .i64 a0_0,.int .i64 a0_1],.agg #[.int .i64 a1_0,.int .i64 a1_1],.agg #[.int .i64 a2_0,.int .i64 a2_1]] w fun e w'=>e=.returned (.int .i64 r)∧Below w.heap.size w w':=by
 have hu28:=Tryd.underlying28;have HB:=a0_ (Below.refl w.heap.size w);have H:(some (wrap64 ((wrap64 ((wrap64 (a1_0-a0_0))*(wrap64 (a2_0-a0_0))))+(wrap64 ((wrap64 (a1_1-a0_1))*(wrap64 (a2_1-a0_1)))))))=some r:=h;clear h;obtain rfl:=Option.some.inj H;go_enter Tryd.func109,Tryd.ntmps109;go_wp2_with (first | ((with_reducible refine gate_dst (N:=3) rfl ?_);refine bx_ (N:=3) (cs:=#[.int .i64 a0_0,.int .i64 a0_1]) (t:=28) (h:=?_);intro gb353 hg w4 hbox hb;have BK353:=a0_ (hbox);have GW353:=gh_ HB hg;have GE353:=gh_ HB hg;replace HB:=sb_ HB hb;clear hb hbox hg) | ((with_reducible refine gate_dst (N:=4) rfl ?_);refine bx_ (N:=4) (cs:=#[.int .i64 a1_0,.int .i64 a1_1]) (t:=28) (h:=?_);intro gb354 hg w5 hbox hb;have BK354:=a0_ (hbox);have GW354:=gh_ HB hg;have GE354:=gh_ HB hg;have NB353_354:=nl_ BK353 hg;have NB354_353:=nr_ BK353 hg;replace BK353:=vb_ BK353 hb;replace HB:=sb_ HB hb;clear hb hbox hg) | ((with_reducible refine gate_dst (N:=5) rfl ?_);refine bx_ (N:=5) (cs:=#[.int .i64 a2_0,.int .i64 a2_1]) (t:=28) (h:=?_);intro gb355 hg w6 hbox hb;have BK355:=a0_ (hbox);have GW355:=gh_ HB hg;have GE355:=gh_ HB hg;have NB353_355:=nl_ BK353 hg;have NB355_353:=nr_ BK353 hg;have NB354_355:=nl_ BK354 hg;have NB355_354:=nr_ BK354 hg;replace BK353:=vb_ BK353 hb;replace BK354:=vb_ BK354 hb;replace HB:=sb_ HB hb;clear hb hbox hg;have hnb7:=NB354_353.out;have hnc7:=NB353_354.out;have hnb8:=NB354_355.out;have hnc8:=NB355_354.out;have hcz9_0:=c20_ BK354;have hcz9_1:=c21_ BK354;have hfz9_0:=fz_ BK354 0;have hfz9_1:=fz_ BK354 1;have hnb10:=NB353_355.out;have hnc10:=NB355_353.out;have hcz11_0:=c20_ BK353;have hcz11_1:=c21_ BK353;have hfz11_0:=fz_ BK353 0;have hfz11_1:=fz_ BK353 1;have hcz12_0:=c20_ BK355;have hcz12_1:=c21_ BK355;have hfz12_0:=fz_ BK355 0;have hfz12_1:=fz_ BK355 1));go_ret;exact⟨rr_,hB_⟩
def impl_between.f (a0_0:Int)(a0_1:Int)(a1_0:Int)(a1_1:Int):Option (Int):=(impl_along.f a0_0 a0_1 a1_0 a1_1 a1_0 a1_1).bind fun t358=>(some t358)
set_option maxHeartbeats 8000000 in
set_option maxRecDepth 100000 in
theorem impl_between.calls (a0_0:Int)(a0_1:Int)(a1_0:Int)(a1_1:Int)(r:Int)(w:World)(h:impl_between.f a0_0 a0_1 a1_0 a1_1=some r):
  Calls Tryd.prog 79 #[.agg #[.int .i64 a0_0,.int .i64 a0_1],.agg #[.int .i64 a1_0,.int .i64 a1_1]] w fun e w'=>e=.returned (.int .i64 r)∧Below w.heap.size w w':=by
 have hu28:=Tryd.underlying28;have HB:=a0_ (Below.refl w.heap.size w);have H:((impl_along.f a0_0 a0_1 a1_0 a1_1 a1_0 a1_1).bind fun t358=>(some t358))=some r:=h;clear h;replace H:=Option.bind_eq_some_iff.mp H;obtain⟨t358,A30,H⟩:=H
 (try dsimp only at H)
 have A3:=Aside0.mk A30;clear A30;obtain rfl:=Option.some.inj H;go_enter Tryd.func79,Tryd.ntmps79;go_wp2_with (first | ((with_reducible refine gate_dst (N:=2) rfl ?_);refine bx_ (N:=2) (cs:=#[.int .i64 a0_0,.int .i64 a0_1]) (t:=28) (h:=?_);intro gb356 hg w4 hbox hb;have BK356:=a0_ (hbox);have GW356:=gh_ HB hg;have GE356:=gh_ HB hg;replace HB:=sb_ HB hb;clear hb hbox hg) | ((with_reducible refine gate_dst (N:=3) rfl ?_);refine bx_ (N:=3) (cs:=#[.int .i64 a1_0,.int .i64 a1_1]) (t:=28) (h:=?_);intro gb357 hg w5 hbox hb;have BK357:=a0_ (hbox);have GW357:=gh_ HB hg;have GE357:=gh_ HB hg;have NB356_357:=nl_ BK356 hg;have NB357_356:=nr_ BK356 hg;replace BK356:=vb_ BK356 hb;replace HB:=sb_ HB hb;clear hb hbox hg;have hnb6:=NB356_357.out;have hnc6:=NB357_356.out;have hcz7_0:=c20_ BK356;have hcz7_1:=c21_ BK356;have hfz7_0:=fz_ BK356 0;have hfz7_1:=fz_ BK356 1;have hcz8_0:=c20_ BK357;have hcz8_1:=c21_ BK357;have hfz8_0:=fz_ BK357 0;have hfz8_1:=fz_ BK357 1) | ((with_reducible refine gate_callee (f:=109) rfl ?_);refine gL_ (some 8) Tryd.func109 #[.agg #[.int .i64 a0_0,.int .i64 a0_1],.agg #[.int .i64 a1_0,.int .i64 a1_1],.agg #[.int .i64 a1_0,.int .i64 a1_1]] (h:=?_);(with_reducible refine (impl_along.calls a0_0 a0_1 a1_0 a1_1 a1_0 a1_1 t358 _ A3.out).mono ?_);rintro e w9 ⟨rfl,hb⟩;refine⟨_,rfl,?_⟩;replace BK356:=vb_ BK356 hb;replace BK357:=vb_ BK357 hb;replace HB:=sb_ HB hb;(try clear hb)));go_ret;exact⟨rr_,hB_⟩
def impl_cross.f (a0_0:Int)(a0_1:Int)(a1_0:Int)(a1_1:Int)(a2_0:Int)(a2_1:Int):Option (Int):=some (wrap64 ((wrap64 ((wrap64 (a1_0-a0_0))*(wrap64 (a2_1-a0_1))))-(wrap64 ((wrap64 (a1_1-a0_1))*(wrap64 (a2_0-a0_0))))))
set_option maxHeartbeats 8000000 in
set_option maxRecDepth 100000 in
theorem impl_cross.calls (a0_0:Int)(a0_1:Int)(a1_0:Int)(a1_1:Int)(a2_0:Int)(a2_1:Int)(r:Int)(w:World)(h:impl_cross.f a0_0 a0_1 a1_0 a1_1 a2_0 a2_1=some r):
  Calls Tryd.prog 81 #[.agg #[.int .i64 a0_0,.int .i64 a0_1],.agg #[.int .i64 a1_0,.int .i64 a1_1],.agg #[.int .i64 a2_0,.int .i64 a2_1]] w fun e w'=>e=.returned (.int .i64 r)∧Below w.heap.size w w':=by
 have hu28:=Tryd.underlying28;have HB:=a0_ (Below.refl w.heap.size w);have H:(some (wrap64 ((wrap64 ((wrap64 (a1_0-a0_0))*(wrap64 (a2_1-a0_1))))-(wrap64 ((wrap64 (a1_1-a0_1))*(wrap64 (a2_0-a0_0)))))))=some r:=h;clear h;obtain rfl:=Option.some.inj H;go_enter Tryd.func81,Tryd.ntmps81;go_wp2_with (first | ((with_reducible refine gate_dst (N:=3) rfl ?_);refine bx_ (N:=3) (cs:=#[.int .i64 a0_0,.int .i64 a0_1]) (t:=28) (h:=?_);intro gb359 hg w4 hbox hb;have BK359:=a0_ (hbox);have GW359:=gh_ HB hg;have GE359:=gh_ HB hg;replace HB:=sb_ HB hb;clear hb hbox hg) | ((with_reducible refine gate_dst (N:=4) rfl ?_);refine bx_ (N:=4) (cs:=#[.int .i64 a1_0,.int .i64 a1_1]) (t:=28) (h:=?_);intro gb360 hg w5 hbox hb;have BK360:=a0_ (hbox);have GW360:=gh_ HB hg;have GE360:=gh_ HB hg;have NB359_360:=nl_ BK359 hg;have NB360_359:=nr_ BK359 hg;replace BK359:=vb_ BK359 hb;replace HB:=sb_ HB hb;clear hb hbox hg) | ((with_reducible refine gate_dst (N:=5) rfl ?_);refine bx_ (N:=5) (cs:=#[.int .i64 a2_0,.int .i64 a2_1]) (t:=28) (h:=?_);intro gb361 hg w6 hbox hb;have BK361:=a0_ (hbox);have GW361:=gh_ HB hg;have GE361:=gh_ HB hg;have NB359_361:=nl_ BK359 hg;have NB361_359:=nr_ BK359 hg;have NB360_361:=nl_ BK360 hg;have NB361_360:=nr_ BK360 hg;replace BK359:=vb_ BK359 hb;replace BK360:=vb_ BK360 hb;replace HB:=sb_ HB hb;clear hb hbox hg;have hnb7:=NB360_359.out;have hnc7:=NB359_360.out;have hnb8:=NB360_361.out;have hnc8:=NB361_360.out;have hcz9_0:=c20_ BK360;have hcz9_1:=c21_ BK360;have hfz9_0:=fz_ BK360 0;have hfz9_1:=fz_ BK360 1;have hnb10:=NB359_361.out;have hnc10:=NB361_359.out;have hcz11_0:=c20_ BK359;have hcz11_1:=c21_ BK359;have hfz11_0:=fz_ BK359 0;have hfz11_1:=fz_ BK359 1;have hcz12_0:=c20_ BK361;have hcz12_1:=c21_ BK361;have hfz12_0:=fz_ BK361 0;have hfz12_1:=fz_ BK361 1));go_ret;exact⟨rr_,hB_⟩
def impl_PtOk.f (a0_0:Int)(a0_1:Int):Option (Bool):=if a0_0≥0 then (if a0_0≤9 then (if a0_1≥0 then (some (decide (a0_1≤9))) else (some false)) else (some false)) else (some false)
set_option maxHeartbeats 8000000 in
set_option maxRecDepth 100000 in
theorem impl_PtOk.calls (a0_0:Int)(a0_1:Int)(r:Bool)(w:World)(h:impl_PtOk.f a0_0 a0_1=some r):
  Calls Tryd.prog 23 #[.agg #[.int .i64 a0_0,.int .i64 a0_1]] w fun e w'=>e=.returned (.bool r)∧Below w.heap.size w w':=by
 have hu28:=Tryd.underlying28;have HB:=a0_ (Below.refl w.heap.size w);have H:(if a0_0≥0 then (if a0_0≤9 then (if a0_1≥0 then (some (decide (a0_1≤9))) else (some false)) else (some false)) else (some false))=some r:=h;clear h;by_cases c2:a0_0≥0
 ·
  rw [if_pos c2] at H;have c2b0:decide (0≤a0_0)=true:=decide_eq_true c2;clear c2;by_cases c3:a0_0≤9
  ·
   rw [if_pos c3] at H;have c3b0:decide (a0_0≤9)=true:=decide_eq_true c3;clear c3;by_cases c4:a0_1≥0
   ·
    rw [if_pos c4] at H;have c4b0:decide (0≤a0_1)=true:=decide_eq_true c4;clear c4;obtain rfl:=Option.some.inj H;go_enter Tryd.func23,Tryd.ntmps23;go_wp2_with (first | ((with_reducible refine gate_dst (N:=1) rfl ?_);refine bx_ (N:=1) (cs:=#[.int .i64 a0_0,.int .i64 a0_1]) (t:=28) (h:=?_);intro gb349 hg w5 hbox hb;have BK349:=a0_ (hbox);have GW349:=gh_ HB hg;have GE349:=gh_ HB hg;replace HB:=sb_ HB hb;clear hb hbox hg;have hcz6_0:=c20_ BK349;have hcz6_1:=c21_ BK349;have hfz6_0:=fz_ BK349 0;have hfz6_1:=fz_ BK349 1));go_ret;exact⟨rr_,hB_⟩
   ·
    rw [if_neg c4] at H;have c4b0:decide (0≤a0_1)=false:=decide_eq_false c4;clear c4;obtain rfl:=Option.some.inj H;go_enter Tryd.func23,Tryd.ntmps23;go_wp2_with (first | ((with_reducible refine gate_dst (N:=1) rfl ?_);refine bx_ (N:=1) (cs:=#[.int .i64 a0_0,.int .i64 a0_1]) (t:=28) (h:=?_);intro gb349 hg w7 hbox hb;have BK349:=a0_ (hbox);have GW349:=gh_ HB hg;have GE349:=gh_ HB hg;replace HB:=sb_ HB hb;clear hb hbox hg;have hcz8_0:=c20_ BK349;have hcz8_1:=c21_ BK349;have hfz8_0:=fz_ BK349 0;have hfz8_1:=fz_ BK349 1));go_ret;exact⟨rr_,hB_⟩
  ·
   rw [if_neg c3] at H;have c3b0:decide (a0_0≤9)=false:=decide_eq_false c3;clear c3;obtain rfl:=Option.some.inj H;go_enter Tryd.func23,Tryd.ntmps23;go_wp2_with (first | ((with_reducible refine gate_dst (N:=1) rfl ?_);refine bx_ (N:=1) (cs:=#[.int .i64 a0_0,.int .i64 a0_1]) (t:=28) (h:=?_);intro gb349 hg w9 hbox hb;have BK349:=a0_ (hbox);have GW349:=gh_ HB hg;have GE349:=gh_ HB hg;replace HB:=sb_ HB hb;clear hb hbox hg;have hcz10_0:=c20_ BK349;have hcz10_1:=c21_ BK349;have hfz10_0:=fz_ BK349 0;have hfz10_1:=fz_ BK349 1));go_ret;exact⟨rr_,hB_⟩
 ·
  rw [if_neg c2] at H;have c2b0:decide (0≤a0_0)=false:=decide_eq_false c2;clear c2;obtain rfl:=Option.some.inj H;go_enter Tryd.func23,Tryd.ntmps23;go_wp2_with (first | ((with_reducible refine gate_dst (N:=1) rfl ?_);refine bx_ (N:=1) (cs:=#[.int .i64 a0_0,.int .i64 a0_1]) (t:=28) (h:=?_);intro gb349 hg w11 hbox hb;have BK349:=a0_ (hbox);have GW349:=gh_ HB hg;have GE349:=gh_ HB hg;replace HB:=sb_ HB hb;clear hb hbox hg;have hcz12_0:=c20_ BK349;have hcz12_1:=c21_ BK349;have hfz12_0:=fz_ BK349 0;have hfz12_1:=fz_ BK349 1));go_ret;exact⟨rr_,hB_⟩
attribute [local go_sem high] eqA28
def impl_SegOk.f (a0_0:Int)(a0_1:Int)(a0_2:Int)(a0_3:Int):Option (Bool):=(impl_PtOk.f a0_0 a0_1).bind fun t351=>(if t351=true then ((impl_PtOk.f a0_2 a0_3).bind fun t352=>(if t352=true then (some (!(a0_0==a0_2) || (!(a0_1==a0_3)))) else (some false))) else (some false))
set_option maxHeartbeats 8000000 in
set_option maxRecDepth 100000 in
theorem impl_SegOk.calls (a0_0:Int)(a0_1:Int)(a0_2:Int)(a0_3:Int)(r:Bool)(w:World)(h:impl_SegOk.f a0_0 a0_1 a0_2 a0_3=some r):
  Calls Tryd.prog 77 #[.agg #[.int .i64 a0_0,.int .i64 a0_1,.int .i64 a0_2,.int .i64 a0_3]] w fun e w'=>e=.returned (.bool r)∧Below w.heap.size w w':=by
 have hu61:=Tryd.underlying61;have hu28:=Tryd.underlying28;have HB:=a0_ (Below.refl w.heap.size w);have H:((impl_PtOk.f a0_0 a0_1).bind fun t351=>(if t351=true then ((impl_PtOk.f a0_2 a0_3).bind fun t352=>(if t352=true then (some (!(a0_0==a0_2) || (!(a0_1==a0_3)))) else (some false))) else (some false)))=some r:=h;clear h;replace H:=Option.bind_eq_some_iff.mp H;obtain⟨t351,A20,H⟩:=H
 (try dsimp only at H)
 have A2:=Aside0.mk A20;clear A20;by_cases c3:t351=true
 ·
  subst c3;rw [if_pos rfl] at H
  (try dsimp only at H)
  replace H:=Option.bind_eq_some_iff.mp H;obtain⟨t352,A40,H⟩:=H
  (try dsimp only at H)
  have A4:=Aside0.mk A40;clear A40;by_cases c5:t352=true
  ·
   subst c5;rw [if_pos rfl] at H
   (try dsimp only at H)
   obtain rfl:=Option.some.inj H;go_enter Tryd.func77,Tryd.ntmps77;go_wp2_with (first | ((with_reducible refine gate_dst (N:=1) rfl ?_);refine bx_ (N:=1) (cs:=#[.int .i64 a0_0,.int .i64 a0_1,.int .i64 a0_2,.int .i64 a0_3]) (t:=61) (h:=?_);intro gb350 hg w6 hbox hb;have BK350:=a0_ (hbox);have GW350:=gh_ HB hg;have GE350:=gh_ HB hg;replace HB:=sb_ HB hb;clear hb hbox hg;have hcz7_0:=c40_ BK350;have hcz7_1:=c41_ BK350;have hcz7_2:=c42_ BK350;have hcz7_3:=c43_ BK350;have hfz7_0:=fz_ BK350 0;have hfz7_1:=fz_ BK350 1;have hfz7_2:=fz_ BK350 2;have hfz7_3:=fz_ BK350 3) | ((with_reducible refine gate_callee (f:=23) rfl ?_);refine gL_ (some 5) Tryd.func23 #[.agg #[.int .i64 a0_0,.int .i64 a0_1]] (h:=?_);(with_reducible refine (impl_PtOk.calls a0_0 a0_1 true _ A2.out).mono ?_);rintro e w8 ⟨rfl,hb⟩;refine⟨_,rfl,?_⟩;replace BK350:=vb_ BK350 hb;replace HB:=sb_ HB hb;(try clear hb);have hcz9_0:=c40_ BK350;have hcz9_1:=c41_ BK350;have hcz9_2:=c42_ BK350;have hcz9_3:=c43_ BK350;have hfz9_0:=fz_ BK350 0;have hfz9_1:=fz_ BK350 1;have hfz9_2:=fz_ BK350 2;have hfz9_3:=fz_ BK350 3) | (go_at_call 23;(with_reducible refine (impl_PtOk.calls a0_2 a0_3 true _ A4.out).mono ?_);rintro e w10 ⟨rfl,hb⟩;replace BK350:=vb_ BK350 hb;replace HB:=sb_ HB hb;(try clear hb);have hcz11_0:=c40_ BK350;have hcz11_1:=c41_ BK350;have hcz11_2:=c42_ BK350;have hcz11_3:=c43_ BK350;have hfz11_0:=fz_ BK350 0;have hfz11_1:=fz_ BK350 1;have hfz11_2:=fz_ BK350 2;have hfz11_3:=fz_ BK350 3));go_ret;exact⟨rr_,hB_⟩
  ·
   replace c5:=Bool.eq_false_iff.mpr c5;subst c5;rw [if_neg (show ¬ (false=true) by decide)] at H
   (try dsimp only at H)
   obtain rfl:=Option.some.inj H;go_enter Tryd.func77,Tryd.ntmps77;go_wp2_with (first | ((with_reducible refine gate_dst (N:=1) rfl ?_);refine bx_ (N:=1) (cs:=#[.int .i64 a0_0,.int .i64 a0_1,.int .i64 a0_2,.int .i64 a0_3]) (t:=61) (h:=?_);intro gb350 hg w12 hbox hb;have BK350:=a0_ (hbox);have GW350:=gh_ HB hg;have GE350:=gh_ HB hg;replace HB:=sb_ HB hb;clear hb hbox hg;have hcz13_0:=c40_ BK350;have hcz13_1:=c41_ BK350;have hcz13_2:=c42_ BK350;have hcz13_3:=c43_ BK350;have hfz13_0:=fz_ BK350 0;have hfz13_1:=fz_ BK350 1;have hfz13_2:=fz_ BK350 2;have hfz13_3:=fz_ BK350 3) | ((with_reducible refine gate_callee (f:=23) rfl ?_);refine gL_ (some 5) Tryd.func23 #[.agg #[.int .i64 a0_0,.int .i64 a0_1]] (h:=?_);(with_reducible refine (impl_PtOk.calls a0_0 a0_1 true _ A2.out).mono ?_);rintro e w14 ⟨rfl,hb⟩;refine⟨_,rfl,?_⟩;replace BK350:=vb_ BK350 hb;replace HB:=sb_ HB hb;(try clear hb);have hcz15_0:=c40_ BK350;have hcz15_1:=c41_ BK350;have hcz15_2:=c42_ BK350;have hcz15_3:=c43_ BK350;have hfz15_0:=fz_ BK350 0;have hfz15_1:=fz_ BK350 1;have hfz15_2:=fz_ BK350 2;have hfz15_3:=fz_ BK350 3) | (go_at_call 23;(with_reducible refine (impl_PtOk.calls a0_2 a0_3 false _ A4.out).mono ?_);rintro e w16 ⟨rfl,hb⟩;replace BK350:=vb_ BK350 hb;replace HB:=sb_ HB hb;(try clear hb)));go_ret;exact⟨rr_,hB_⟩
 ·
  replace c3:=Bool.eq_false_iff.mpr c3;subst c3;rw [if_neg (show ¬ (false=true) by decide)] at H
  (try dsimp only at H)
  obtain rfl:=Option.some.inj H;go_enter Tryd.func77,Tryd.ntmps77;go_wp2_with (first | ((with_reducible refine gate_dst (N:=1) rfl ?_);refine bx_ (N:=1) (cs:=#[.int .i64 a0_0,.int .i64 a0_1,.int .i64 a0_2,.int .i64 a0_3]) (t:=61) (h:=?_);intro gb350 hg w17 hbox hb;have BK350:=a0_ (hbox);have GW350:=gh_ HB hg;have GE350:=gh_ HB hg;replace HB:=sb_ HB hb;clear hb hbox hg;have hcz18_0:=c40_ BK350;have hcz18_1:=c41_ BK350;have hcz18_2:=c42_ BK350;have hcz18_3:=c43_ BK350;have hfz18_0:=fz_ BK350 0;have hfz18_1:=fz_ BK350 1;have hfz18_2:=fz_ BK350 2;have hfz18_3:=fz_ BK350 3) | ((with_reducible refine gate_callee (f:=23) rfl ?_);refine gL_ (some 5) Tryd.func23 #[.agg #[.int .i64 a0_0,.int .i64 a0_1]] (h:=?_);(with_reducible refine (impl_PtOk.calls a0_0 a0_1 false _ A2.out).mono ?_);rintro e w19 ⟨rfl,hb⟩;refine⟨_,rfl,?_⟩;replace BK350:=vb_ BK350 hb;replace HB:=sb_ HB hb;(try clear hb)));go_ret;exact⟨rr_,hB_⟩
def impl_SegHas.j0:Nat→Bool→Int→Int→Int→Int→Int→Int→Option (Bool)
 | 0,_,_,_,_,_,_,_=>none
 | k+1,x22,x363000,x363001,x363002,x363003,x364000,x364001=>if x22=true then (some false) else ((impl_along.f x363000 x363001 x363002 x363003 x364000 x364001).bind fun t367=>(if t367≥0 then ((impl_between.f x363000 x363001 x363002 x363003).bind fun t368=>(some (decide (t367≤t368)))) else (some false)))
def impl_SegHas.f (k:Nat)(a0_0:Int)(a0_1:Int)(a0_2:Int)(a0_3:Int)(a1_0:Int)(a1_1:Int):Option (Bool):=(impl_SegOk.f a0_0 a0_1 a0_2 a0_3).bind fun t364=>(if t364=true then ((impl_PtOk.f a1_0 a1_1).bind fun t365=>(if t365=true then ((impl_cross.f a0_0 a0_1 a0_2 a0_3 a1_0 a1_1).bind fun t366=>(impl_SegHas.j0 k (t366 != 0) a0_0 a0_1 a0_2 a0_3 a1_0 a1_1)) else (impl_SegHas.j0 k true a0_0 a0_1 a0_2 a0_3 a1_0 a1_1))) else (impl_SegHas.j0 k true a0_0 a0_1 a0_2 a0_3 a1_0 a1_1))
set_option maxHeartbeats 8000000 in
set_option maxRecDepth 100000 in
theorem impl_SegHas.calls (k:Nat)(a0_0:Int)(a0_1:Int)(a0_2:Int)(a0_3:Int)(a1_0:Int)(a1_1:Int)(r:Bool)(w:World)(h:impl_SegHas.f k a0_0 a0_1 a0_2 a0_3 a1_0 a1_1=some r):
  Calls Tryd.prog 115 #[.agg #[.int .i64 a0_0,.int .i64 a0_1,.int .i64 a0_2,.int .i64 a0_3],.agg #[.int .i64 a1_0,.int .i64 a1_1]] w fun e w'=>e=.returned (.bool r)∧Below w.heap.size w w':=by
 have hu61:=Tryd.underlying61;have hu28:=Tryd.underlying28;have HB:=a0_ (Below.refl w.heap.size w);have H:((impl_SegOk.f a0_0 a0_1 a0_2 a0_3).bind fun t364=>(if t364=true then ((impl_PtOk.f a1_0 a1_1).bind fun t365=>(if t365=true then ((impl_cross.f a0_0 a0_1 a0_2 a0_3 a1_0 a1_1).bind fun t366=>(impl_SegHas.j0 k (t366 != 0) a0_0 a0_1 a0_2 a0_3 a1_0 a1_1)) else (impl_SegHas.j0 k true a0_0 a0_1 a0_2 a0_3 a1_0 a1_1))) else (impl_SegHas.j0 k true a0_0 a0_1 a0_2 a0_3 a1_0 a1_1)))=some r:=h;clear h;have HC3:=Aside0.mk H;clear H;go_enter Tryd.func115,Tryd.ntmps115;go_upto_region 1 with (first | ((with_reducible refine gate_dst (N:=2) rfl ?_);refine bx_ (N:=2) (cs:=#[.int .i64 a0_0,.int .i64 a0_1,.int .i64 a0_2,.int .i64 a0_3]) (t:=61) (h:=?_);intro gb362 hg w4 hbox hb;have BK362:=a0_ (hbox);have GW362:=gh_ HB hg;have GE362:=gh_ HB hg;replace HB:=sb_ HB hb;clear hb hbox hg) | ((with_reducible refine gate_dst (N:=3) rfl ?_);refine bx_ (N:=3) (cs:=#[.int .i64 a1_0,.int .i64 a1_1]) (t:=28) (h:=?_);intro gb363 hg w5 hbox hb;have BK363:=a0_ (hbox);have GW363:=gh_ HB hg;have GE363:=gh_ HB hg;have NB362_363:=nl_ BK362 hg;have NB363_362:=nr_ BK362 hg;replace BK362:=vb_ BK362 hb;replace HB:=sb_ HB hb;clear hb hbox hg))
 (try simp only [Act.put,List.setIfInBounds_toArray,List.set_cons_zero,List.set_cons_succ])
 go_cut [22] (fun v22 wc=>∃ (kq:Nat) (x22_2:Bool),v22=.bool x22_2∧Aside0 (impl_SegHas.j0 kq x22_2 a0_0 a0_1 a0_2 a0_3 a1_0 a1_1=some r)∧Aside0 (kq≤k)∧Aside0 (wc.heap[gb362]?=some (.cells #[.int .i64 a0_0,.int .i64 a0_1,.int .i64 a0_2,.int .i64 a0_3] 61 (0,0)))∧Aside0 (wc.heap[gb363]?=some (.cells #[.int .i64 a1_0,.int .i64 a1_1] 28 (0,0)))∧Aside0 (Below w.heap.size w wc))
 case first =>
  have H:=HC3.out;clear HC3;replace H:=Option.bind_eq_some_iff.mp H;obtain⟨t364,A60,H⟩:=H
  (try dsimp only at H)
  have A6:=Aside0.mk A60;clear A60;by_cases c7:t364=true
  ·
   subst c7;rw [if_pos rfl] at H
   (try dsimp only at H)
   replace H:=Option.bind_eq_some_iff.mp H;obtain⟨t365,A80,H⟩:=H
   (try dsimp only at H)
   have A8:=Aside0.mk A80;clear A80;by_cases c9:t365=true
   ·
    subst c9;rw [if_pos rfl] at H
    (try dsimp only at H)
    replace H:=Option.bind_eq_some_iff.mp H;obtain⟨t366,A100,H⟩:=H
    (try dsimp only at H)
    have A10:=Aside0.mk A100;clear A100;have H':=Aside0.mk H;clear H;have hnb11:=NB362_363.out;have hnc11:=NB363_362.out;have hcz12_0:=c40_ BK362;have hcz12_1:=c41_ BK362;have hcz12_2:=c42_ BK362;have hcz12_3:=c43_ BK362;have hfz12_0:=fz_ BK362 0;have hfz12_1:=fz_ BK362 1;have hfz12_2:=fz_ BK362 2;have hfz12_3:=fz_ BK362 3;go_wp2_with (first | ((with_reducible refine gate_callee (f:=77) rfl ?_);refine gL_ (some 7) Tryd.func77 #[.agg #[.int .i64 a0_0,.int .i64 a0_1,.int .i64 a0_2,.int .i64 a0_3]] (h:=?_);(with_reducible refine (impl_SegOk.calls a0_0 a0_1 a0_2 a0_3 true _ A6.out).mono ?_);rintro e w13 ⟨rfl,hb⟩;refine⟨_,rfl,?_⟩;replace BK362:=vb_ BK362 hb;replace BK363:=vb_ BK363 hb;replace HB:=sb_ HB hb;(try clear hb);have hcz14_0:=c20_ BK363;have hcz14_1:=c21_ BK363;have hfz14_0:=fz_ BK363 0;have hfz14_1:=fz_ BK363 1) | (go_at_call 23;(with_reducible refine (impl_PtOk.calls a1_0 a1_1 true _ A8.out).mono ?_);rintro e w15 ⟨rfl,hb⟩;replace BK362:=vb_ BK362 hb;replace BK363:=vb_ BK363 hb;replace HB:=sb_ HB hb;(try clear hb);have hcz16_0:=c40_ BK362;have hcz16_1:=c41_ BK362;have hcz16_2:=c42_ BK362;have hcz16_3:=c43_ BK362;have hfz16_0:=fz_ BK362 0;have hfz16_1:=fz_ BK362 1;have hfz16_2:=fz_ BK362 2;have hfz16_3:=fz_ BK362 3;have hcz17_0:=c20_ BK363;have hcz17_1:=c21_ BK363;have hfz17_0:=fz_ BK363 0;have hfz17_1:=fz_ BK363 1) | (go_at_call 81;(with_reducible refine (impl_cross.calls a0_0 a0_1 a0_2 a0_3 a1_0 a1_1 t366 _ A10.out).mono ?_);rintro e w18 ⟨rfl,hb⟩;replace BK362:=vb_ BK362 hb;replace BK363:=vb_ BK363 hb;replace HB:=sb_ HB hb;(try clear hb)));go_meet
    case rel=>exact⟨_,((t366 != 0)),(by first | rfl | (simp;done) | (simp [*];done)),H',⟨by first | omega | exact Nat.le_refl _⟩,⟨uq_⟩,⟨uq_⟩,⟨hB_⟩⟩
   ·
    replace c9:=Bool.eq_false_iff.mpr c9;subst c9;rw [if_neg (show ¬ (false=true) by decide)] at H
    (try dsimp only at H)
    have H':=Aside0.mk H;clear H;have hnb19:=NB362_363.out;have hnc19:=NB363_362.out;have hcz20_0:=c40_ BK362;have hcz20_1:=c41_ BK362;have hcz20_2:=c42_ BK362;have hcz20_3:=c43_ BK362;have hfz20_0:=fz_ BK362 0;have hfz20_1:=fz_ BK362 1;have hfz20_2:=fz_ BK362 2;have hfz20_3:=fz_ BK362 3;go_wp2_with (first | ((with_reducible refine gate_callee (f:=77) rfl ?_);refine gL_ (some 7) Tryd.func77 #[.agg #[.int .i64 a0_0,.int .i64 a0_1,.int .i64 a0_2,.int .i64 a0_3]] (h:=?_);(with_reducible refine (impl_SegOk.calls a0_0 a0_1 a0_2 a0_3 true _ A6.out).mono ?_);rintro e w21 ⟨rfl,hb⟩;refine⟨_,rfl,?_⟩;replace BK362:=vb_ BK362 hb;replace BK363:=vb_ BK363 hb;replace HB:=sb_ HB hb;(try clear hb);have hcz22_0:=c20_ BK363;have hcz22_1:=c21_ BK363;have hfz22_0:=fz_ BK363 0;have hfz22_1:=fz_ BK363 1) | (go_at_call 23;(with_reducible refine (impl_PtOk.calls a1_0 a1_1 false _ A8.out).mono ?_);rintro e w23 ⟨rfl,hb⟩;replace BK362:=vb_ BK362 hb;replace BK363:=vb_ BK363 hb;replace HB:=sb_ HB hb;(try clear hb)));go_meet
    case rel=>exact⟨_,(true),(by first | rfl | (simp;done) | (simp [*];done)),H',⟨by first | omega | exact Nat.le_refl _⟩,⟨uq_⟩,⟨uq_⟩,⟨hB_⟩⟩
  ·
   replace c7:=Bool.eq_false_iff.mpr c7;subst c7;rw [if_neg (show ¬ (false=true) by decide)] at H
   (try dsimp only at H)
   have H':=Aside0.mk H;clear H;have hnb24:=NB362_363.out;have hnc24:=NB363_362.out;have hcz25_0:=c40_ BK362;have hcz25_1:=c41_ BK362;have hcz25_2:=c42_ BK362;have hcz25_3:=c43_ BK362;have hfz25_0:=fz_ BK362 0;have hfz25_1:=fz_ BK362 1;have hfz25_2:=fz_ BK362 2;have hfz25_3:=fz_ BK362 3;go_wp2_with (first | ((with_reducible refine gate_callee (f:=77) rfl ?_);refine gL_ (some 7) Tryd.func77 #[.agg #[.int .i64 a0_0,.int .i64 a0_1,.int .i64 a0_2,.int .i64 a0_3]] (h:=?_);(with_reducible refine (impl_SegOk.calls a0_0 a0_1 a0_2 a0_3 false _ A6.out).mono ?_);rintro e w26 ⟨rfl,hb⟩;refine⟨_,rfl,?_⟩;replace BK362:=vb_ BK362 hb;replace BK363:=vb_ BK363 hb;replace HB:=sb_ HB hb;(try clear hb)));go_meet
   case rel=>exact⟨_,(true),(by first | rfl | (simp;done) | (simp [*];done)),H',⟨by first | omega | exact Nat.le_refl _⟩,⟨uq_⟩,⟨uq_⟩,⟨hB_⟩⟩
 case rest =>
  clear HC3;obtain⟨kq,x22_2,rfl,HA,HJ2,BK362,BK363,HB⟩:=hcut
  cases kq with
  | zero=>exact absurd HA.out (by simp [impl_SegHas.j0])
  | succ kj2 =>
   have H:=HA.out;clear HA;simp only [impl_SegHas.j0] at H;by_cases c27:x22_2=true
   ·
    subst c27;rw [if_pos rfl] at H
    (try dsimp only at H)
    obtain rfl:=Option.some.inj H;go_wp2;go_ret;exact⟨rr_,hB_⟩
   ·
    replace c27:=Bool.eq_false_iff.mpr c27;subst c27;rw [if_neg (show ¬ (false=true) by decide)] at H
    (try dsimp only at H)
    replace H:=Option.bind_eq_some_iff.mp H;obtain⟨t367,A280,H⟩:=H
    (try dsimp only at H)
    have A28:=Aside0.mk A280;clear A280;by_cases c29:t367≥0
    ·
     rw [if_pos c29] at H;have c29b0:decide (0≤t367)=true:=decide_eq_true c29;clear c29;replace H:=Option.bind_eq_some_iff.mp H;obtain⟨t368,A300,H⟩:=H
     (try dsimp only at H)
     have A30:=Aside0.mk A300;clear A300;obtain rfl:=Option.some.inj H;have hnb31:=NB362_363.out;have hnc31:=NB363_362.out;have hcz32_0:=c40_ BK362;have hcz32_1:=c41_ BK362;have hcz32_2:=c42_ BK362;have hcz32_3:=c43_ BK362;have hfz32_0:=fz_ BK362 0;have hfz32_1:=fz_ BK362 1;have hfz32_2:=fz_ BK362 2;have hfz32_3:=fz_ BK362 3;have hcz33_0:=c20_ BK363;have hcz33_1:=c21_ BK363;have hfz33_0:=fz_ BK363 0;have hfz33_1:=fz_ BK363 1;go_wp2_with (first | ((with_reducible refine gate_callee (f:=109) rfl ?_);refine gL_ (some 28) Tryd.func109 #[.agg #[.int .i64 a0_0,.int .i64 a0_1],.agg #[.int .i64 a0_2,.int .i64 a0_3],.agg #[.int .i64 a1_0,.int .i64 a1_1]] (h:=?_);(with_reducible refine (impl_along.calls a0_0 a0_1 a0_2 a0_3 a1_0 a1_1 t367 _ A28.out).mono ?_);rintro e w34 ⟨rfl,hb⟩;refine⟨_,rfl,?_⟩;replace BK362:=vb_ BK362 hb;replace BK363:=vb_ BK363 hb;replace HB:=sb_ HB hb;(try clear hb);have hcz35_0:=c40_ BK362;have hcz35_1:=c41_ BK362;have hcz35_2:=c42_ BK362;have hcz35_3:=c43_ BK362;have hfz35_0:=fz_ BK362 0;have hfz35_1:=fz_ BK362 1;have hfz35_2:=fz_ BK362 2;have hfz35_3:=fz_ BK362 3) | (go_at_call 79;(with_reducible refine (impl_between.calls a0_0 a0_1 a0_2 a0_3 t368 _ A30.out).mono ?_);rintro e w36 ⟨rfl,hb⟩;replace BK362:=vb_ BK362 hb;replace BK363:=vb_ BK363 hb;replace HB:=sb_ HB hb;(try clear hb)));go_ret;exact⟨rr_,hB_⟩
    ·
     rw [if_neg c29] at H;have c29b0:decide (0≤t367)=false:=decide_eq_false c29;clear c29;obtain rfl:=Option.some.inj H;have hnb37:=NB362_363.out;have hnc37:=NB363_362.out;have hcz38_0:=c40_ BK362;have hcz38_1:=c41_ BK362;have hcz38_2:=c42_ BK362;have hcz38_3:=c43_ BK362;have hfz38_0:=fz_ BK362 0;have hfz38_1:=fz_ BK362 1;have hfz38_2:=fz_ BK362 2;have hfz38_3:=fz_ BK362 3;have hcz39_0:=c20_ BK363;have hcz39_1:=c21_ BK363;have hfz39_0:=fz_ BK363 0;have hfz39_1:=fz_ BK363 1;go_wp2_with (first | ((with_reducible refine gate_callee (f:=109) rfl ?_);refine gL_ (some 28) Tryd.func109 #[.agg #[.int .i64 a0_0,.int .i64 a0_1],.agg #[.int .i64 a0_2,.int .i64 a0_3],.agg #[.int .i64 a1_0,.int .i64 a1_1]] (h:=?_);(with_reducible refine (impl_along.calls a0_0 a0_1 a0_2 a0_3 a1_0 a1_1 t367 _ A28.out).mono ?_);rintro e w40 ⟨rfl,hb⟩;refine⟨_,rfl,?_⟩;replace BK362:=vb_ BK362 hb;replace BK363:=vb_ BK363 hb;replace HB:=sb_ HB hb;(try clear hb)));go_ret;exact⟨rr_,hB_⟩
def impl_SegTurn.j0:Nat→Bool→Int→Int→Int→Int→Int→Int→Option (Int)
 | 0,_,_,_,_,_,_,_=>none
 | k+1,x20,x374000,x374001,x375000,x375001,x376000,x376001=>if x20=true then (some 0) else ((impl_cross.f x374000 x374001 x375000 x375001 x376000 x376001).bind fun t379=>(if t379>0 then (some 1) else (if t379<0 then (some (-1)) else (some 0))))
def impl_SegTurn.f (k:Nat)(a0_0:Int)(a0_1:Int)(a1_0:Int)(a1_1:Int)(a2_0:Int)(a2_1:Int):Option (Int):=(impl_PtOk.f a0_0 a0_1).bind fun t376=>(if t376=true then ((impl_PtOk.f a1_0 a1_1).bind fun t377=>(if t377=true then ((impl_PtOk.f a2_0 a2_1).bind fun t378=>(impl_SegTurn.j0 k (!t378) a0_0 a0_1 a1_0 a1_1 a2_0 a2_1)) else (impl_SegTurn.j0 k true a0_0 a0_1 a1_0 a1_1 a2_0 a2_1))) else (impl_SegTurn.j0 k true a0_0 a0_1 a1_0 a1_1 a2_0 a2_1))
set_option maxHeartbeats 8000000 in
set_option maxRecDepth 100000 in
theorem impl_SegTurn.calls (k:Nat)(a0_0:Int)(a0_1:Int)(a1_0:Int)(a1_1:Int)(a2_0:Int)(a2_1:Int)(r:Int)(w:World)(h:impl_SegTurn.f k a0_0 a0_1 a1_0 a1_1 a2_0 a2_1=some r):
  Calls Tryd.prog 116 #[.agg #[.int .i64 a0_0,.int .i64 a0_1],.agg #[.int .i64 a1_0,.int .i64 a1_1],.agg #[.int .i64 a2_0,.int .i64 a2_1]] w fun e w'=>e=.returned (.int .i64 r)∧Below w.heap.size w w':=by
 have hu28:=Tryd.underlying28;have HB:=a0_ (Below.refl w.heap.size w);have H:((impl_PtOk.f a0_0 a0_1).bind fun t376=>(if t376=true then ((impl_PtOk.f a1_0 a1_1).bind fun t377=>(if t377=true then ((impl_PtOk.f a2_0 a2_1).bind fun t378=>(impl_SegTurn.j0 k (!t378) a0_0 a0_1 a1_0 a1_1 a2_0 a2_1)) else (impl_SegTurn.j0 k true a0_0 a0_1 a1_0 a1_1 a2_0 a2_1))) else (impl_SegTurn.j0 k true a0_0 a0_1 a1_0 a1_1 a2_0 a2_1)))=some r:=h;clear h;have HC4:=Aside0.mk H;clear H;go_enter Tryd.func116,Tryd.ntmps116;go_upto_region 1 with (first | ((with_reducible refine gate_dst (N:=3) rfl ?_);refine bx_ (N:=3) (cs:=#[.int .i64 a0_0,.int .i64 a0_1]) (t:=28) (h:=?_);intro gb373 hg w5 hbox hb;have BK373:=a0_ (hbox);have GW373:=gh_ HB hg;have GE373:=gh_ HB hg;replace HB:=sb_ HB hb;clear hb hbox hg) | ((with_reducible refine gate_dst (N:=4) rfl ?_);refine bx_ (N:=4) (cs:=#[.int .i64 a1_0,.int .i64 a1_1]) (t:=28) (h:=?_);intro gb374 hg w6 hbox hb;have BK374:=a0_ (hbox);have GW374:=gh_ HB hg;have GE374:=gh_ HB hg;have NB373_374:=nl_ BK373 hg;have NB374_373:=nr_ BK373 hg;replace BK373:=vb_ BK373 hb;replace HB:=sb_ HB hb;clear hb hbox hg) | ((with_reducible refine gate_dst (N:=5) rfl ?_);refine bx_ (N:=5) (cs:=#[.int .i64 a2_0,.int .i64 a2_1]) (t:=28) (h:=?_);intro gb375 hg w7 hbox hb;have BK375:=a0_ (hbox);have GW375:=gh_ HB hg;have GE375:=gh_ HB hg;have NB373_375:=nl_ BK373 hg;have NB375_373:=nr_ BK373 hg;have NB374_375:=nl_ BK374 hg;have NB375_374:=nr_ BK374 hg;replace BK373:=vb_ BK373 hb;replace BK374:=vb_ BK374 hb;replace HB:=sb_ HB hb;clear hb hbox hg))
 (try simp only [Act.put,List.setIfInBounds_toArray,List.set_cons_zero,List.set_cons_succ])
 go_cut [20] (fun v20 wc=>∃ (kq:Nat) (x20_3:Bool),v20=.bool x20_3∧Aside0 (impl_SegTurn.j0 kq x20_3 a0_0 a0_1 a1_0 a1_1 a2_0 a2_1=some r)∧Aside0 (kq≤k)∧Aside0 (wc.heap[gb373]?=some (.cells #[.int .i64 a0_0,.int .i64 a0_1] 28 (0,0)))∧Aside0 (wc.heap[gb374]?=some (.cells #[.int .i64 a1_0,.int .i64 a1_1] 28 (0,0)))∧Aside0 (wc.heap[gb375]?=some (.cells #[.int .i64 a2_0,.int .i64 a2_1] 28 (0,0)))∧Aside0 (Below w.heap.size w wc))
 case first =>
  have H:=HC4.out;clear HC4;replace H:=Option.bind_eq_some_iff.mp H;obtain⟨t376,A80,H⟩:=H
  (try dsimp only at H)
  have A8:=Aside0.mk A80;clear A80;by_cases c9:t376=true
  ·
   subst c9;rw [if_pos rfl] at H
   (try dsimp only at H)
   replace H:=Option.bind_eq_some_iff.mp H;obtain⟨t377,A100,H⟩:=H
   (try dsimp only at H)
   have A10:=Aside0.mk A100;clear A100;by_cases c11:t377=true
   ·
    subst c11;rw [if_pos rfl] at H
    (try dsimp only at H)
    replace H:=Option.bind_eq_some_iff.mp H;obtain⟨t378,A120,H⟩:=H
    (try dsimp only at H)
    have A12:=Aside0.mk A120;clear A120;have H':=Aside0.mk H;clear H;have hnb13:=NB373_374.out;have hnc13:=NB374_373.out;have hnb14:=NB373_375.out;have hnc14:=NB375_373.out;have hcz15_0:=c20_ BK373;have hcz15_1:=c21_ BK373;have hfz15_0:=fz_ BK373 0;have hfz15_1:=fz_ BK373 1;go_wp2_with (first | ((with_reducible refine gate_callee (f:=23) rfl ?_);refine gL_ (some 9) Tryd.func23 #[.agg #[.int .i64 a0_0,.int .i64 a0_1]] (h:=?_);(with_reducible refine (impl_PtOk.calls a0_0 a0_1 true _ A8.out).mono ?_);rintro e w16 ⟨rfl,hb⟩;refine⟨_,rfl,?_⟩;replace BK373:=vb_ BK373 hb;replace BK374:=vb_ BK374 hb;replace BK375:=vb_ BK375 hb;replace HB:=sb_ HB hb;(try clear hb);have hnb17:=NB374_375.out;have hnc17:=NB375_374.out;have hcz18_0:=c20_ BK374;have hcz18_1:=c21_ BK374;have hfz18_0:=fz_ BK374 0;have hfz18_1:=fz_ BK374 1) | (go_at_call 23;(with_reducible refine (impl_PtOk.calls a1_0 a1_1 true _ A10.out).mono ?_);rintro e w19 ⟨rfl,hb⟩;replace BK373:=vb_ BK373 hb;replace BK374:=vb_ BK374 hb;replace BK375:=vb_ BK375 hb;replace HB:=sb_ HB hb;(try clear hb);have hcz20_0:=c20_ BK375;have hcz20_1:=c21_ BK375;have hfz20_0:=fz_ BK375 0;have hfz20_1:=fz_ BK375 1) | (go_at_call 23;(with_reducible refine (impl_PtOk.calls a2_0 a2_1 t378 _ A12.out).mono ?_);rintro e w21 ⟨rfl,hb⟩;replace BK373:=vb_ BK373 hb;replace BK374:=vb_ BK374 hb;replace BK375:=vb_ BK375 hb;replace HB:=sb_ HB hb;(try clear hb)));go_meet
    case rel=>exact⟨_,(!t378),(by first | rfl | (simp;done) | (simp [*];done)),H',⟨by first | omega | exact Nat.le_refl _⟩,⟨uq_⟩,⟨uq_⟩,⟨uq_⟩,⟨hB_⟩⟩
   ·
    replace c11:=Bool.eq_false_iff.mpr c11;subst c11;rw [if_neg (show ¬ (false=true) by decide)] at H
    (try dsimp only at H)
    have H':=Aside0.mk H;clear H;have hnb22:=NB373_374.out;have hnc22:=NB374_373.out;have hnb23:=NB373_375.out;have hnc23:=NB375_373.out;have hcz24_0:=c20_ BK373;have hcz24_1:=c21_ BK373;have hfz24_0:=fz_ BK373 0;have hfz24_1:=fz_ BK373 1;go_wp2_with (first | ((with_reducible refine gate_callee (f:=23) rfl ?_);refine gL_ (some 9) Tryd.func23 #[.agg #[.int .i64 a0_0,.int .i64 a0_1]] (h:=?_);(with_reducible refine (impl_PtOk.calls a0_0 a0_1 true _ A8.out).mono ?_);rintro e w25 ⟨rfl,hb⟩;refine⟨_,rfl,?_⟩;replace BK373:=vb_ BK373 hb;replace BK374:=vb_ BK374 hb;replace BK375:=vb_ BK375 hb;replace HB:=sb_ HB hb;(try clear hb);have hnb26:=NB374_375.out;have hnc26:=NB375_374.out;have hcz27_0:=c20_ BK374;have hcz27_1:=c21_ BK374;have hfz27_0:=fz_ BK374 0;have hfz27_1:=fz_ BK374 1) | (go_at_call 23;(with_reducible refine (impl_PtOk.calls a1_0 a1_1 false _ A10.out).mono ?_);rintro e w28 ⟨rfl,hb⟩;replace BK373:=vb_ BK373 hb;replace BK374:=vb_ BK374 hb;replace BK375:=vb_ BK375 hb;replace HB:=sb_ HB hb;(try clear hb)));go_meet
    case rel=>exact⟨_,(true),(by first | rfl | (simp;done) | (simp [*];done)),H',⟨by first | omega | exact Nat.le_refl _⟩,⟨uq_⟩,⟨uq_⟩,⟨uq_⟩,⟨hB_⟩⟩
  ·
   replace c9:=Bool.eq_false_iff.mpr c9;subst c9;rw [if_neg (show ¬ (false=true) by decide)] at H
   (try dsimp only at H)
   have H':=Aside0.mk H;clear H;have hnb29:=NB373_374.out;have hnc29:=NB374_373.out;have hnb30:=NB373_375.out;have hnc30:=NB375_373.out;have hcz31_0:=c20_ BK373;have hcz31_1:=c21_ BK373;have hfz31_0:=fz_ BK373 0;have hfz31_1:=fz_ BK373 1;go_wp2_with (first | ((with_reducible refine gate_callee (f:=23) rfl ?_);refine gL_ (some 9) Tryd.func23 #[.agg #[.int .i64 a0_0,.int .i64 a0_1]] (h:=?_);(with_reducible refine (impl_PtOk.calls a0_0 a0_1 false _ A8.out).mono ?_);rintro e w32 ⟨rfl,hb⟩;refine⟨_,rfl,?_⟩;replace BK373:=vb_ BK373 hb;replace BK374:=vb_ BK374 hb;replace BK375:=vb_ BK375 hb;replace HB:=sb_ HB hb;(try clear hb)));go_meet
   case rel=>exact⟨_,(true),(by first | rfl | (simp;done) | (simp [*];done)),H',⟨by first | omega | exact Nat.le_refl _⟩,⟨uq_⟩,⟨uq_⟩,⟨uq_⟩,⟨hB_⟩⟩
 case rest =>
  clear HC4;obtain⟨kq,x20_3,rfl,HA,HJ3,BK373,BK374,BK375,HB⟩:=hcut
  cases kq with
  | zero=>exact absurd HA.out (by simp [impl_SegTurn.j0])
  | succ kj3 =>
   have H:=HA.out;clear HA;simp only [impl_SegTurn.j0] at H;by_cases c33:x20_3=true
   ·
    subst c33;rw [if_pos rfl] at H
    (try dsimp only at H)
    obtain rfl:=Option.some.inj H;go_wp2;go_ret;exact⟨rr_,hB_⟩
   ·
    replace c33:=Bool.eq_false_iff.mpr c33;subst c33;rw [if_neg (show ¬ (false=true) by decide)] at H
    (try dsimp only at H)
    replace H:=Option.bind_eq_some_iff.mp H;obtain⟨t379,A340,H⟩:=H
    (try dsimp only at H)
    have A34:=Aside0.mk A340;clear A340;by_cases c35:t379>0
    ·
     rw [if_pos c35] at H;have c35b0:decide (0<t379)=true:=decide_eq_true c35;clear c35;obtain rfl:=Option.some.inj H;have hnb36:=NB373_374.out;have hnc36:=NB374_373.out;have hnb37:=NB373_375.out;have hnc37:=NB375_373.out;have hcz38_0:=c20_ BK373;have hcz38_1:=c21_ BK373;have hfz38_0:=fz_ BK373 0;have hfz38_1:=fz_ BK373 1;have hnb39:=NB374_375.out;have hnc39:=NB375_374.out;have hcz40_0:=c20_ BK374;have hcz40_1:=c21_ BK374;have hfz40_0:=fz_ BK374 0;have hfz40_1:=fz_ BK374 1;have hcz41_0:=c20_ BK375;have hcz41_1:=c21_ BK375;have hfz41_0:=fz_ BK375 0;have hfz41_1:=fz_ BK375 1;go_wp2_with (first | ((with_reducible refine gate_callee (f:=81) rfl ?_);refine gL_ (some 24) Tryd.func81 #[.agg #[.int .i64 a0_0,.int .i64 a0_1],.agg #[.int .i64 a1_0,.int .i64 a1_1],.agg #[.int .i64 a2_0,.int .i64 a2_1]] (h:=?_);(with_reducible refine (impl_cross.calls a0_0 a0_1 a1_0 a1_1 a2_0 a2_1 t379 _ A34.out).mono ?_);rintro e w42 ⟨rfl,hb⟩;refine⟨_,rfl,?_⟩;replace BK373:=vb_ BK373 hb;replace BK374:=vb_ BK374 hb;replace BK375:=vb_ BK375 hb;replace HB:=sb_ HB hb;(try clear hb)));go_ret;exact⟨rr_,hB_⟩
    ·
     rw [if_neg c35] at H;have c35b0:decide (0<t379)=false:=decide_eq_false c35;clear c35;by_cases c43:t379<0
     ·
      rw [if_pos c43] at H;have c43b0:decide (t379<0)=true:=decide_eq_true c43;clear c43;obtain rfl:=Option.some.inj H;have hnb44:=NB373_374.out;have hnc44:=NB374_373.out;have hnb45:=NB373_375.out;have hnc45:=NB375_373.out;have hcz46_0:=c20_ BK373;have hcz46_1:=c21_ BK373;have hfz46_0:=fz_ BK373 0;have hfz46_1:=fz_ BK373 1;have hnb47:=NB374_375.out;have hnc47:=NB375_374.out;have hcz48_0:=c20_ BK374;have hcz48_1:=c21_ BK374;have hfz48_0:=fz_ BK374 0;have hfz48_1:=fz_ BK374 1;have hcz49_0:=c20_ BK375;have hcz49_1:=c21_ BK375;have hfz49_0:=fz_ BK375 0;have hfz49_1:=fz_ BK375 1;go_wp2_with (first | ((with_reducible refine gate_callee (f:=81) rfl ?_);refine gL_ (some 24) Tryd.func81 #[.agg #[.int .i64 a0_0,.int .i64 a0_1],.agg #[.int .i64 a1_0,.int .i64 a1_1],.agg #[.int .i64 a2_0,.int .i64 a2_1]] (h:=?_);(with_reducible refine (impl_cross.calls a0_0 a0_1 a1_0 a1_1 a2_0 a2_1 t379 _ A34.out).mono ?_);rintro e w50 ⟨rfl,hb⟩;refine⟨_,rfl,?_⟩;replace BK373:=vb_ BK373 hb;replace BK374:=vb_ BK374 hb;replace BK375:=vb_ BK375 hb;replace HB:=sb_ HB hb;(try clear hb)));go_ret;exact⟨rr_,hB_⟩
     ·
      rw [if_neg c43] at H;have c43b0:decide (t379<0)=false:=decide_eq_false c43;clear c43;obtain rfl:=Option.some.inj H;have hnb51:=NB373_374.out;have hnc51:=NB374_373.out;have hnb52:=NB373_375.out;have hnc52:=NB375_373.out;have hcz53_0:=c20_ BK373;have hcz53_1:=c21_ BK373;have hfz53_0:=fz_ BK373 0;have hfz53_1:=fz_ BK373 1;have hnb54:=NB374_375.out;have hnc54:=NB375_374.out;have hcz55_0:=c20_ BK374;have hcz55_1:=c21_ BK374;have hfz55_0:=fz_ BK374 0;have hfz55_1:=fz_ BK374 1;have hcz56_0:=c20_ BK375;have hcz56_1:=c21_ BK375;have hfz56_0:=fz_ BK375 0;have hfz56_1:=fz_ BK375 1;go_wp2_with (first | ((with_reducible refine gate_callee (f:=81) rfl ?_);refine gL_ (some 24) Tryd.func81 #[.agg #[.int .i64 a0_0,.int .i64 a0_1],.agg #[.int .i64 a1_0,.int .i64 a1_1],.agg #[.int .i64 a2_0,.int .i64 a2_1]] (h:=?_);(with_reducible refine (impl_cross.calls a0_0 a0_1 a1_0 a1_1 a2_0 a2_1 t379 _ A34.out).mono ?_);rintro e w57 ⟨rfl,hb⟩;refine⟨_,rfl,?_⟩;replace BK373:=vb_ BK373 hb;replace BK374:=vb_ BK374 hb;replace BK375:=vb_ BK375 hb;replace HB:=sb_ HB hb;(try clear hb)));go_ret;exact⟨rr_,hB_⟩
mutual
def impl_SegMeet.j0:Nat→Bool→Int→Int→Int→Int→Int→Int→Int→Int→Option (Bool)
 | 0,_,_,_,_,_,_,_,_,_=>none
 | k+1,x12,x381000,x381001,x381002,x381003,x382000,x382001,x382002,x382003=>if x12=true then (some false) else ((impl_SegHas.f k x381000 x381001 x381002 x381003 x382000 x382001).bind fun t384=>(if t384=true then (impl_SegMeet.j1 k true x381000 x381001 x381002 x381003 x382000 x382001 x382002 x382003) else ((impl_SegHas.f k x381000 x381001 x381002 x381003 x382002 x382003).bind fun t385=>(if t385=true then (impl_SegMeet.j1 k true x381000 x381001 x381002 x381003 x382000 x382001 x382002 x382003) else ((impl_SegHas.f k x382000 x382001 x382002 x382003 x381000 x381001).bind fun t386=>(if t386=true then (impl_SegMeet.j1 k true x381000 x381001 x381002 x381003 x382000 x382001 x382002 x382003) else ((impl_SegHas.f k x382000 x382001 x382002 x382003 x381002 x381003).bind fun t387=>(impl_SegMeet.j1 k t387 x381000 x381001 x381002 x381003 x382000 x382001 x382002 x382003))))))))
def impl_SegMeet.j1:Nat→Bool→Int→Int→Int→Int→Int→Int→Int→Int→Option (Bool)
 | 0,_,_,_,_,_,_,_,_,_=>none
 | k+1,x34,x381000,x381001,x381002,x381003,x382000,x382001,x382002,x382003=>if x34=true then (some true) else ((impl_SegTurn.f k x381000 x381001 x381002 x381003 x382000 x382001).bind fun t388=>((impl_SegTurn.f k x381000 x381001 x381002 x381003 x382002 x382003).bind fun t389=>(if (wrap64 (t388*t389))<0 then ((impl_SegTurn.f k x382000 x382001 x382002 x382003 x381000 x381001).bind fun t390=>((impl_SegTurn.f k x382000 x382001 x382002 x382003 x381002 x381003).bind fun t391=>(some (decide ((wrap64 (t390*t391))<0))))) else (some false))))
end
def impl_SegMeet.f (k:Nat)(a0_0:Int)(a0_1:Int)(a0_2:Int)(a0_3:Int)(a1_0:Int)(a1_1:Int)(a1_2:Int)(a1_3:Int):Option (Bool):=(impl_SegOk.f a0_0 a0_1 a0_2 a0_3).bind fun t382=>(if t382=true then ((impl_SegOk.f a1_0 a1_1 a1_2 a1_3).bind fun t383=>(impl_SegMeet.j0 k (!t383) a0_0 a0_1 a0_2 a0_3 a1_0 a1_1 a1_2 a1_3)) else (impl_SegMeet.j0 k true a0_0 a0_1 a0_2 a0_3 a1_0 a1_1 a1_2 a1_3))
def impl_SegMeet.T5:Bool × List (List Nat × List Nat):=(true,[([],[]),([0],[0]),([],[]),([2],[2]),([],[]),([4],[4]),([1,3,5],[1,3,5]),([],[]),([7],[7]),([],[]),([9],[9]),([],[]),([11],[11]),([8,10,12,6],[8,10,12]),([6,13],[6,13]),([14],[14]),([15,13],[15]),([16],[16]),([17,16],[16,17]),([16],[16]),([19,16],[16,19]),([16],[16]),([21,16],[16,21]),([18,20,22,16,16],[16,18,20,22]),([16],[16]),([24,16],[16,24]),([16],[16]),([26,16],[16,26]),([16],[16]),([28,16],[16,28]),([25,27,29,23,16],[16,25,27,29]),([23,30,16],[16,23,30]),([31,16],[16,31]),([16,32],[16,32]),([33,30,0,1,2,3,4,5,6,7,8,9,10,11,12,13,14,15,16,17,18,19,20,21,22,23,24,25,26,27,28,29,30,31,32,33],[33])])
def impl_SegMeet.B5:List Nat:=[0,1,0,4,0,16,63,0,128,0,512,0,2048,8191,16383,32767,65535,131071,262143,131071,655359,131071,2228223,8388607,131071,16908287,131071,67239935,131071,268566527,1073741823,2147483647,4294967295,8589934591,17179869183]
theorem impl_SegMeet.tab5:rtab .any (opsOf Tryd.f112 5)=impl_SegMeet.T5:=by kernel_rfl
theorem impl_SegMeet.bits5:waitsOk impl_SegMeet.T5.2 impl_SegMeet.B5=true:=by kernel_rfl
set_option maxHeartbeats 8000000 in
set_option maxRecDepth 100000 in
theorem impl_SegMeet.calls (k:Nat)(a0_0:Int)(a0_1:Int)(a0_2:Int)(a0_3:Int)(a1_0:Int)(a1_1:Int)(a1_2:Int)(a1_3:Int)(r:Bool)(w:World)(h:impl_SegMeet.f k a0_0 a0_1 a0_2 a0_3 a1_0 a1_1 a1_2 a1_3=some r):
  Calls Tryd.prog 112 #[.agg #[.int .i64 a0_0,.int .i64 a0_1,.int .i64 a0_2,.int .i64 a0_3],.agg #[.int .i64 a1_0,.int .i64 a1_1,.int .i64 a1_2,.int .i64 a1_3]] w fun e w'=>e=.returned (.bool r)∧Below w.heap.size w w':=by
 have hu61:=Tryd.underlying61;have hu28:=Tryd.underlying28;have HB:=a0_ (Below.refl w.heap.size w);have H:((impl_SegOk.f a0_0 a0_1 a0_2 a0_3).bind fun t382=>(if t382=true then ((impl_SegOk.f a1_0 a1_1 a1_2 a1_3).bind fun t383=>(impl_SegMeet.j0 k (!t383) a0_0 a0_1 a0_2 a0_3 a1_0 a1_1 a1_2 a1_3)) else (impl_SegMeet.j0 k true a0_0 a0_1 a0_2 a0_3 a1_0 a1_1 a1_2 a1_3)))=some r:=h;clear h;have HC3:=Aside0.mk H;clear H;go_enter Tryd.func112,Tryd.ntmps112;go_upto_region 1 with (first | ((with_reducible refine gate_dst (N:=2) rfl ?_);refine bx_ (N:=2) (cs:=#[.int .i64 a0_0,.int .i64 a0_1,.int .i64 a0_2,.int .i64 a0_3]) (t:=61) (h:=?_);intro gb380 hg w4 hbox hb;have BK380:=a0_ (hbox);have GW380:=gh_ HB hg;have GE380:=gh_ HB hg;replace HB:=sb_ HB hb;clear hb hbox hg) | ((with_reducible refine gate_dst (N:=3) rfl ?_);refine bx_ (N:=3) (cs:=#[.int .i64 a1_0,.int .i64 a1_1,.int .i64 a1_2,.int .i64 a1_3]) (t:=61) (h:=?_);intro gb381 hg w5 hbox hb;have BK381:=a0_ (hbox);have GW381:=gh_ HB hg;have GE381:=gh_ HB hg;have NB380_381:=nl_ BK380 hg;have NB381_380:=nr_ BK380 hg;replace BK380:=vb_ BK380 hb;replace HB:=sb_ HB hb;clear hb hbox hg))
 (try simp only [Act.put,List.setIfInBounds_toArray,List.set_cons_zero,List.set_cons_succ])
 go_cut [12] (fun v12 wc=>∃ (kq:Nat) (x12_2:Bool),v12=.bool x12_2∧Aside0 (impl_SegMeet.j0 kq x12_2 a0_0 a0_1 a0_2 a0_3 a1_0 a1_1 a1_2 a1_3=some r)∧Aside0 (kq≤k)∧Aside0 (wc.heap[gb380]?=some (.cells #[.int .i64 a0_0,.int .i64 a0_1,.int .i64 a0_2,.int .i64 a0_3] 61 (0,0)))∧Aside0 (wc.heap[gb381]?=some (.cells #[.int .i64 a1_0,.int .i64 a1_1,.int .i64 a1_2,.int .i64 a1_3] 61 (0,0)))∧Aside0 (Below w.heap.size w wc))
 case first =>
  have H:=HC3.out;clear HC3;replace H:=Option.bind_eq_some_iff.mp H;obtain⟨t382,A60,H⟩:=H
  (try dsimp only at H)
  have A6:=Aside0.mk A60;clear A60;by_cases c7:t382=true
  ·
   subst c7;rw [if_pos rfl] at H
   (try dsimp only at H)
   replace H:=Option.bind_eq_some_iff.mp H;obtain⟨t383,A80,H⟩:=H
   (try dsimp only at H)
   have A8:=Aside0.mk A80;clear A80;have H':=Aside0.mk H;clear H;have hnb9:=NB380_381.out;have hnc9:=NB381_380.out;have hcz10_0:=c40_ BK380;have hcz10_1:=c41_ BK380;have hcz10_2:=c42_ BK380;have hcz10_3:=c43_ BK380;have hfz10_0:=fz_ BK380 0;have hfz10_1:=fz_ BK380 1;have hfz10_2:=fz_ BK380 2;have hfz10_3:=fz_ BK380 3;go_wp2_with (first | ((with_reducible refine gate_callee (f:=77) rfl ?_);refine gL_ (some 6) Tryd.func77 #[.agg #[.int .i64 a0_0,.int .i64 a0_1,.int .i64 a0_2,.int .i64 a0_3]] (h:=?_);(with_reducible refine (impl_SegOk.calls a0_0 a0_1 a0_2 a0_3 true _ A6.out).mono ?_);rintro e w11 ⟨rfl,hb⟩;refine⟨_,rfl,?_⟩;replace BK380:=vb_ BK380 hb;replace BK381:=vb_ BK381 hb;replace HB:=sb_ HB hb;(try clear hb);have hcz12_0:=c40_ BK381;have hcz12_1:=c41_ BK381;have hcz12_2:=c42_ BK381;have hcz12_3:=c43_ BK381;have hfz12_0:=fz_ BK381 0;have hfz12_1:=fz_ BK381 1;have hfz12_2:=fz_ BK381 2;have hfz12_3:=fz_ BK381 3) | (go_at_call 77;(with_reducible refine (impl_SegOk.calls a1_0 a1_1 a1_2 a1_3 t383 _ A8.out).mono ?_);rintro e w13 ⟨rfl,hb⟩;replace BK380:=vb_ BK380 hb;replace BK381:=vb_ BK381 hb;replace HB:=sb_ HB hb;(try clear hb)));go_meet
   case rel=>exact⟨_,(!t383),(by first | rfl | (simp;done) | (simp [*];done)),H',⟨by first | omega | exact Nat.le_refl _⟩,⟨uq_⟩,⟨uq_⟩,⟨hB_⟩⟩
  ·
   replace c7:=Bool.eq_false_iff.mpr c7;subst c7;rw [if_neg (show ¬ (false=true) by decide)] at H
   (try dsimp only at H)
   have H':=Aside0.mk H;clear H;have hnb14:=NB380_381.out;have hnc14:=NB381_380.out;have hcz15_0:=c40_ BK380;have hcz15_1:=c41_ BK380;have hcz15_2:=c42_ BK380;have hcz15_3:=c43_ BK380;have hfz15_0:=fz_ BK380 0;have hfz15_1:=fz_ BK380 1;have hfz15_2:=fz_ BK380 2;have hfz15_3:=fz_ BK380 3;go_wp2_with (first | ((with_reducible refine gate_callee (f:=77) rfl ?_);refine gL_ (some 6) Tryd.func77 #[.agg #[.int .i64 a0_0,.int .i64 a0_1,.int .i64 a0_2,.int .i64 a0_3]] (h:=?_);(with_reducible refine (impl_SegOk.calls a0_0 a0_1 a0_2 a0_3 false _ A6.out).mono ?_);rintro e w16 ⟨rfl,hb⟩;refine⟨_,rfl,?_⟩;replace BK380:=vb_ BK380 hb;replace BK381:=vb_ BK381 hb;replace HB:=sb_ HB hb;(try clear hb)));go_meet
   case rel=>exact⟨_,(true),(by first | rfl | (simp;done) | (simp [*];done)),H',⟨by first | omega | exact Nat.le_refl _⟩,⟨uq_⟩,⟨uq_⟩,⟨hB_⟩⟩
 case rest =>
  clear HC3;obtain⟨kq,x12_2,rfl,HA,HJ2,BK380,BK381,HB⟩:=hcut
  cases kq with
  | zero=>exact absurd HA.out (by simp [impl_SegMeet.j0])
  | succ kj2 =>
   have H:=HA.out;clear HA;simp only [impl_SegMeet.j0] at H;by_cases c17:x12_2=true
   ·
    subst c17;rw [if_pos rfl] at H
    (try dsimp only at H)
    obtain rfl:=Option.some.inj H;go_wp2;go_ret;exact⟨rr_,hB_⟩
   ·
    replace c17:=Bool.eq_false_iff.mpr c17;subst c17;rw [if_neg (show ¬ (false=true) by decide)] at H
    (try dsimp only at H)
    have HC18:=Aside0.mk H;clear H;go_upto_region 3 with (fail)
    go_cut [34] (fun v34 wc=>∃ (kq:Nat) (x34_17:Bool),v34=.bool x34_17∧Aside0 (impl_SegMeet.j1 kq x34_17 a0_0 a0_1 a0_2 a0_3 a1_0 a1_1 a1_2 a1_3=some r)∧Aside0 (kq≤kj2)∧Aside0 (wc.heap[gb380]?=some (.cells #[.int .i64 a0_0,.int .i64 a0_1,.int .i64 a0_2,.int .i64 a0_3] 61 (0,0)))∧Aside0 (wc.heap[gb381]?=some (.cells #[.int .i64 a1_0,.int .i64 a1_1,.int .i64 a1_2,.int .i64 a1_3] 61 (0,0)))∧Aside0 (Below w.heap.size w wc))
    case first =>
     have H:=HC18.out;clear HC18;replace H:=Option.bind_eq_some_iff.mp H;obtain⟨t384,A190,H⟩:=H
     (try dsimp only at H)
     have A19:=Aside0.mk A190;clear A190;by_cases c20:t384=true
     ·
      subst c20;rw [if_pos rfl] at H
      (try dsimp only at H)
      have H':=Aside0.mk H;clear H;have hnb21:=NB380_381.out;have hnc21:=NB381_380.out;have hcz22_0:=c40_ BK380;have hcz22_1:=c41_ BK380;have hcz22_2:=c42_ BK380;have hcz22_3:=c43_ BK380;have hfz22_0:=fz_ BK380 0;have hfz22_1:=fz_ BK380 1;have hfz22_2:=fz_ BK380 2;have hfz22_3:=fz_ BK380 3;have hcz23_0:=c40_ BK381;have hcz23_1:=c41_ BK381;have hcz23_2:=c42_ BK381;have hcz23_3:=c43_ BK381;have hfz23_0:=fz_ BK381 0;have hfz23_1:=fz_ BK381 1;have hfz23_2:=fz_ BK381 2;have hfz23_3:=fz_ BK381 3;go_wp2_with (first | ((with_reducible refine gate_callee (f:=115) rfl ?_);refine gL_ (some 16) Tryd.func115 #[.agg #[.int .i64 a0_0,.int .i64 a0_1,.int .i64 a0_2,.int .i64 a0_3],.agg #[.int .i64 a1_0,.int .i64 a1_1]] (h:=?_);(with_reducible refine (impl_SegHas.calls kj2 a0_0 a0_1 a0_2 a0_3 a1_0 a1_1 true _ A19.out).mono ?_);rintro e w24 ⟨rfl,hb⟩;refine⟨_,rfl,?_⟩;replace BK380:=vb_ BK380 hb;replace BK381:=vb_ BK381 hb;replace HB:=sb_ HB hb;(try clear hb)));go_meet
      case rel=>exact⟨_,(true),(by first | rfl | (simp;done) | (simp [*];done)),H',⟨by have:=HJ2.out;first | omega | exact Nat.le_refl _⟩,⟨uq_⟩,⟨uq_⟩,⟨hB_⟩⟩
     ·
      replace c20:=Bool.eq_false_iff.mpr c20;subst c20;rw [if_neg (show ¬ (false=true) by decide)] at H
      (try dsimp only at H)
      replace H:=Option.bind_eq_some_iff.mp H;obtain⟨t385,A250,H⟩:=H
      (try dsimp only at H)
      have A25:=Aside0.mk A250;clear A250;by_cases c26:t385=true
      ·
       subst c26;rw [if_pos rfl] at H
       (try dsimp only at H)
       have H':=Aside0.mk H;clear H;have hnb27:=NB380_381.out;have hnc27:=NB381_380.out;have hcz28_0:=c40_ BK380;have hcz28_1:=c41_ BK380;have hcz28_2:=c42_ BK380;have hcz28_3:=c43_ BK380;have hfz28_0:=fz_ BK380 0;have hfz28_1:=fz_ BK380 1;have hfz28_2:=fz_ BK380 2;have hfz28_3:=fz_ BK380 3;have hcz29_0:=c40_ BK381;have hcz29_1:=c41_ BK381;have hcz29_2:=c42_ BK381;have hcz29_3:=c43_ BK381;have hfz29_0:=fz_ BK381 0;have hfz29_1:=fz_ BK381 1;have hfz29_2:=fz_ BK381 2;have hfz29_3:=fz_ BK381 3;go_wp2_with (first | ((with_reducible refine gate_callee (f:=115) rfl ?_);refine gL_ (some 16) Tryd.func115 #[.agg #[.int .i64 a0_0,.int .i64 a0_1,.int .i64 a0_2,.int .i64 a0_3],.agg #[.int .i64 a1_0,.int .i64 a1_1]] (h:=?_);(with_reducible refine (impl_SegHas.calls kj2 a0_0 a0_1 a0_2 a0_3 a1_0 a1_1 false _ A19.out).mono ?_);rintro e w30 ⟨rfl,hb⟩;refine⟨_,rfl,?_⟩;replace BK380:=vb_ BK380 hb;replace BK381:=vb_ BK381 hb;replace HB:=sb_ HB hb;(try clear hb);have hcz31_0:=c40_ BK380;have hcz31_1:=c41_ BK380;have hcz31_2:=c42_ BK380;have hcz31_3:=c43_ BK380;have hfz31_0:=fz_ BK380 0;have hfz31_1:=fz_ BK380 1;have hfz31_2:=fz_ BK380 2;have hfz31_3:=fz_ BK380 3;have hcz32_0:=c40_ BK381;have hcz32_1:=c41_ BK381;have hcz32_2:=c42_ BK381;have hcz32_3:=c43_ BK381;have hfz32_0:=fz_ BK381 0;have hfz32_1:=fz_ BK381 1;have hfz32_2:=fz_ BK381 2;have hfz32_3:=fz_ BK381 3) | (go_at_call 115;(with_reducible refine (impl_SegHas.calls kj2 a0_0 a0_1 a0_2 a0_3 a1_2 a1_3 true _ A25.out).mono ?_);rintro e w33 ⟨rfl,hb⟩;replace BK380:=vb_ BK380 hb;replace BK381:=vb_ BK381 hb;replace HB:=sb_ HB hb;(try clear hb)));go_meet
       case rel=>exact⟨_,(true),(by first | rfl | (simp;done) | (simp [*];done)),H',⟨by have:=HJ2.out;first | omega | exact Nat.le_refl _⟩,⟨uq_⟩,⟨uq_⟩,⟨hB_⟩⟩
      ·
       replace c26:=Bool.eq_false_iff.mpr c26;subst c26;rw [if_neg (show ¬ (false=true) by decide)] at H
       (try dsimp only at H)
       replace H:=Option.bind_eq_some_iff.mp H;obtain⟨t386,A340,H⟩:=H
       (try dsimp only at H)
       have A34:=Aside0.mk A340;clear A340;by_cases c35:t386=true
       ·
        subst c35;rw [if_pos rfl] at H
        (try dsimp only at H)
        have H':=Aside0.mk H;clear H;have hnb36:=NB380_381.out;have hnc36:=NB381_380.out;have hcz37_0:=c40_ BK380;have hcz37_1:=c41_ BK380;have hcz37_2:=c42_ BK380;have hcz37_3:=c43_ BK380;have hfz37_0:=fz_ BK380 0;have hfz37_1:=fz_ BK380 1;have hfz37_2:=fz_ BK380 2;have hfz37_3:=fz_ BK380 3;have hcz38_0:=c40_ BK381;have hcz38_1:=c41_ BK381;have hcz38_2:=c42_ BK381;have hcz38_3:=c43_ BK381;have hfz38_0:=fz_ BK381 0;have hfz38_1:=fz_ BK381 1;have hfz38_2:=fz_ BK381 2;have hfz38_3:=fz_ BK381 3
        go_wp2_with (first | ((with_reducible refine gate_callee (f:=115) rfl ?_);refine gL_ (some 16) Tryd.func115 #[.agg #[.int .i64 a0_0,.int .i64 a0_1,.int .i64 a0_2,.int .i64 a0_3],.agg #[.int .i64 a1_0,.int .i64 a1_1]] (h:=?_);(with_reducible refine (impl_SegHas.calls kj2 a0_0 a0_1 a0_2 a0_3 a1_0 a1_1 false _ A19.out).mono ?_);rintro e w39 ⟨rfl,hb⟩;refine⟨_,rfl,?_⟩;replace BK380:=vb_ BK380 hb;replace BK381:=vb_ BK381 hb;replace HB:=sb_ HB hb;(try clear hb);have hcz40_0:=c40_ BK380;have hcz40_1:=c41_ BK380;have hcz40_2:=c42_ BK380;have hcz40_3:=c43_ BK380;have hfz40_0:=fz_ BK380 0;have hfz40_1:=fz_ BK380 1;have hfz40_2:=fz_ BK380 2;have hfz40_3:=fz_ BK380 3;have hcz41_0:=c40_ BK381;have hcz41_1:=c41_ BK381;have hcz41_2:=c42_ BK381;have hcz41_3:=c43_ BK381;have hfz41_0:=fz_ BK381 0;have hfz41_1:=fz_ BK381 1;have hfz41_2:=fz_ BK381 2;have hfz41_3:=fz_ BK381 3) | (go_at_call 115;(with_reducible refine (impl_SegHas.calls kj2 a0_0 a0_1 a0_2 a0_3 a1_2 a1_3 false _ A25.out).mono ?_);rintro e w42 ⟨rfl,hb⟩;replace BK380:=vb_ BK380 hb;replace BK381:=vb_ BK381 hb;replace HB:=sb_ HB hb;(try clear hb);have hcz43_0:=c40_ BK381;have hcz43_1:=c41_ BK381;have hcz43_2:=c42_ BK381;have hcz43_3:=c43_ BK381;have hfz43_0:=fz_ BK381 0;have hfz43_1:=fz_ BK381 1;have hfz43_2:=fz_ BK381 2;have hfz43_3:=fz_ BK381 3;have hcz44_0:=c40_ BK380;have hcz44_1:=c41_ BK380;have hcz44_2:=c42_ BK380;have hcz44_3:=c43_ BK380;have hfz44_0:=fz_ BK380 0;have hfz44_1:=fz_ BK380 1;have hfz44_2:=fz_ BK380 2;have hfz44_3:=fz_ BK380 3) | (go_at_call 115;(with_reducible refine (impl_SegHas.calls kj2 a1_0 a1_1 a1_2 a1_3 a0_0 a0_1 true _ A34.out).mono ?_);rintro e w45 ⟨rfl,hb⟩;replace BK380:=vb_ BK380 hb;replace BK381:=vb_ BK381 hb;replace HB:=sb_ HB hb;(try clear hb)));go_meet
        case rel=>exact⟨_,(true),(by first | rfl | (simp;done) | (simp [*];done)),H',⟨by have:=HJ2.out;first | omega | exact Nat.le_refl _⟩,⟨uq_⟩,⟨uq_⟩,⟨hB_⟩⟩
       ·
        replace c35:=Bool.eq_false_iff.mpr c35;subst c35;rw [if_neg (show ¬ (false=true) by decide)] at H
        (try dsimp only at H)
        replace H:=Option.bind_eq_some_iff.mp H;obtain⟨t387,A460,H⟩:=H
        (try dsimp only at H)
        have A46:=Aside0.mk A460;clear A460;have H':=Aside0.mk H;clear H;have hnb47:=NB380_381.out;have hnc47:=NB381_380.out;have hcz48_0:=c40_ BK380;have hcz48_1:=c41_ BK380;have hcz48_2:=c42_ BK380;have hcz48_3:=c43_ BK380;have hfz48_0:=fz_ BK380 0;have hfz48_1:=fz_ BK380 1;have hfz48_2:=fz_ BK380 2;have hfz48_3:=fz_ BK380 3;have hcz49_0:=c40_ BK381;have hcz49_1:=c41_ BK381;have hcz49_2:=c42_ BK381;have hcz49_3:=c43_ BK381;have hfz49_0:=fz_ BK381 0;have hfz49_1:=fz_ BK381 1;have hfz49_2:=fz_ BK381 2;have hfz49_3:=fz_ BK381 3
        go_wp2_with (first | ((with_reducible refine gate_callee (f:=115) rfl ?_);refine gL_ (some 16) Tryd.func115 #[.agg #[.int .i64 a0_0,.int .i64 a0_1,.int .i64 a0_2,.int .i64 a0_3],.agg #[.int .i64 a1_0,.int .i64 a1_1]] (h:=?_);(with_reducible refine (impl_SegHas.calls kj2 a0_0 a0_1 a0_2 a0_3 a1_0 a1_1 false _ A19.out).mono ?_);rintro e w50 ⟨rfl,hb⟩;refine⟨_,rfl,?_⟩;replace BK380:=vb_ BK380 hb;replace BK381:=vb_ BK381 hb;replace HB:=sb_ HB hb;(try clear hb);have hcz51_0:=c40_ BK380;have hcz51_1:=c41_ BK380;have hcz51_2:=c42_ BK380;have hcz51_3:=c43_ BK380;have hfz51_0:=fz_ BK380 0;have hfz51_1:=fz_ BK380 1;have hfz51_2:=fz_ BK380 2;have hfz51_3:=fz_ BK380 3;have hcz52_0:=c40_ BK381;have hcz52_1:=c41_ BK381;have hcz52_2:=c42_ BK381;have hcz52_3:=c43_ BK381;have hfz52_0:=fz_ BK381 0;have hfz52_1:=fz_ BK381 1;have hfz52_2:=fz_ BK381 2;have hfz52_3:=fz_ BK381 3) | (go_at_call 115;(with_reducible refine (impl_SegHas.calls kj2 a0_0 a0_1 a0_2 a0_3 a1_2 a1_3 false _ A25.out).mono ?_);rintro e w53 ⟨rfl,hb⟩;replace BK380:=vb_ BK380 hb;replace BK381:=vb_ BK381 hb;replace HB:=sb_ HB hb;(try clear hb);have hcz54_0:=c40_ BK381;have hcz54_1:=c41_ BK381;have hcz54_2:=c42_ BK381;have hcz54_3:=c43_ BK381;have hfz54_0:=fz_ BK381 0;have hfz54_1:=fz_ BK381 1;have hfz54_2:=fz_ BK381 2;have hfz54_3:=fz_ BK381 3;have hcz55_0:=c40_ BK380;have hcz55_1:=c41_ BK380;have hcz55_2:=c42_ BK380;have hcz55_3:=c43_ BK380;have hfz55_0:=fz_ BK380 0;have hfz55_1:=fz_ BK380 1;have hfz55_2:=fz_ BK380 2;have hfz55_3:=fz_ BK380 3) | (go_at_call 115;(with_reducible refine (impl_SegHas.calls kj2 a1_0 a1_1 a1_2 a1_3 a0_0 a0_1 false _ A34.out).mono ?_);rintro e w56 ⟨rfl,hb⟩;replace BK380:=vb_ BK380 hb;replace BK381:=vb_ BK381 hb;replace HB:=sb_ HB hb;(try clear hb);have hcz57_0:=c40_ BK381;have hcz57_1:=c41_ BK381;have hcz57_2:=c42_ BK381;have hcz57_3:=c43_ BK381;have hfz57_0:=fz_ BK381 0;have hfz57_1:=fz_ BK381 1;have hfz57_2:=fz_ BK381 2;have hfz57_3:=fz_ BK381 3;have hcz58_0:=c40_ BK380;have hcz58_1:=c41_ BK380;have hcz58_2:=c42_ BK380;have hcz58_3:=c43_ BK380;have hfz58_0:=fz_ BK380 0;have hfz58_1:=fz_ BK380 1;have hfz58_2:=fz_ BK380 2;have hfz58_3:=fz_ BK380 3) | (go_at_call 115;(with_reducible refine (impl_SegHas.calls kj2 a1_0 a1_1 a1_2 a1_3 a0_2 a0_3 t387 _ A46.out).mono ?_);rintro e w59 ⟨rfl,hb⟩;replace BK380:=vb_ BK380 hb;replace BK381:=vb_ BK381 hb;replace HB:=sb_ HB hb;(try clear hb)))
        go_meet
        case rel=>exact⟨_,(t387),(by first | rfl | (simp;done) | (simp [*];done)),H',⟨by have:=HJ2.out;first | omega | exact Nat.le_refl _⟩,⟨uq_⟩,⟨uq_⟩,⟨hB_⟩⟩
    case rest =>
     clear HC18;obtain⟨kq,x34_17,rfl,HA,HJ17,BK380,BK381,HB⟩:=hcut
     cases kq with
     | zero=>exact absurd HA.out (by simp [impl_SegMeet.j1])
     | succ kj17 =>
      have H:=HA.out;clear HA;simp only [impl_SegMeet.j1] at H;by_cases c60:x34_17=true
      ·
       subst c60;rw [if_pos rfl] at H
       (try dsimp only at H)
       obtain rfl:=Option.some.inj H;go_wp2;go_ret;exact⟨rr_,hB_⟩
      ·
       replace c60:=Bool.eq_false_iff.mpr c60;subst c60;rw [if_neg (show ¬ (false=true) by decide)] at H
       (try dsimp only at H)
       replace H:=Option.bind_eq_some_iff.mp H;obtain⟨t388,A610,H⟩:=H
       (try dsimp only at H)
       have A61:=Aside0.mk A610;clear A610;replace H:=Option.bind_eq_some_iff.mp H;obtain⟨t389,A620,H⟩:=H
       (try dsimp only at H)
       have A62:=Aside0.mk A620;clear A620;by_cases c63:(wrap64 (t388*t389))<0
       ·
        rw [if_pos c63] at H;have c63b0:decide ((wrap64 (t388*t389))<0)=true:=decide_eq_true c63;clear c63;replace H:=Option.bind_eq_some_iff.mp H;obtain⟨t390,A640,H⟩:=H
        (try dsimp only at H)
        have A64:=Aside0.mk A640;clear A640;replace H:=Option.bind_eq_some_iff.mp H;obtain⟨t391,A650,H⟩:=H
        (try dsimp only at H)
        have A65:=Aside0.mk A650;clear A650;obtain rfl:=Option.some.inj H
        try go_wp2
        replace BK380:=a0_ (blk_drew BK380.out);replace BK381:=a0_ (blk_drew BK381.out);replace HB:=a0_ (below_drew1 HB.out);refine start_ (n:=35) (S:=fun w'=>w'.cell? ⟨gb380,0,none⟩=some (.int .i64 a0_0)∧w'.cell? ⟨gb380,1,none⟩=some (.int .i64 a0_1)∧w'.cell? ⟨gb380,2,none⟩=some (.int .i64 a0_2)∧w'.cell? ⟨gb380,3,none⟩=some (.int .i64 a0_3)∧w'.cell? ⟨gb381,0,none⟩=some (.int .i64 a1_0)∧w'.cell? ⟨gb381,1,none⟩=some (.int .i64 a1_1)∧w'.cell? ⟨gb381,2,none⟩=some (.int .i64 a1_2)∧w'.cell? ⟨gb381,3,none⟩=some (.int .i64 a1_3)) (ds:=[]) (Array.replicate 35 false) (by kernel_rfl) rfl rfl ⟨bc_,bc_,bc_,bc_,bc_,bc_,bc_,bc_⟩ (fun hHeld=>?_);refine with_tabW impl_SegMeet.tab5 impl_SegMeet.bits5 (fun HT_ HW_=>?_);generalize wc.drew=w66 at BK380 BK381 HB hHeld ⊢
        refine pu_ HT_ 0 35 (bm 35 1) ?_;refine pu_ HT_ 2 37 (bm 35 5) ?_;refine pu_ HT_ 4 39 (bm 35 21) ?_;refine pu_ HT_ 7 42 (bm 35 149) ?_;refine pu_ HT_ 9 44 (bm 35 661) ?_;refine pu_ HT_ 11 46 (bm 35 2709) ?_;refine ta8_ HT_ HW_ 1 36 (bm 35 2711) hHeld ?_;refine ta8_ HT_ HW_ 3 38 (bm 35 2719) hHeld ?_;refine ta8_ HT_ HW_ 5 40 (bm 35 2751) hHeld ?_;refine ta8_ HT_ HW_ 8 43 (bm 35 3007) hHeld ?_;refine ta8_ HT_ HW_ 10 45 (bm 35 4031) hHeld ?_;refine ta8_ HT_ HW_ 12 47 (bm 35 8127) hHeld ?_;refine one_ (i:=6) (N:=some 41) (bm 35 8191) rfl rfl (one_of HT_.out (by kernel_rfl)) (by decide) (fun K hK=>?_);refine goes_ Tryd.func116 (by kernel_rfl) rfl #[.agg #[.int .i64 a0_0,.int .i64 a0_1],.agg #[.int .i64 a0_2,.int .i64 a0_3],.agg #[.int .i64 a1_0,.int .i64 a1_1]] (by rfl) rfl rfl ma_ ?_
        with_reducible refine (impl_SegTurn.calls kj17 a0_0 a0_1 a0_2 a0_3 a1_0 a1_1 t388 _ A61.out).mono ?_
        rintro e w67 ⟨rfl,hb⟩;refine⟨_,rfl,?_⟩;replace BK380:=vb_ BK380 hb;replace BK381:=vb_ BK381 hb;replace HB:=sb_ HB hb
        (try clear hb)
        (try clear hb2)
        (try clear hk)
        (try clear hi)
        refine hK.out _ _ ⟨bc_,bc_,bc_,bc_,bc_,bc_,bc_,bc_⟩ (fun hHeld=>?_);clear hK K;refine no_ (h:=?_);refine one_ (i:=13) (N:=some 48) (bm 35 16383) rfl rfl (one_of HT_.out (by kernel_rfl)) (by decide) (fun K hK=>?_);refine goes_ Tryd.func116 (by kernel_rfl) rfl #[.agg #[.int .i64 a0_0,.int .i64 a0_1],.agg #[.int .i64 a0_2,.int .i64 a0_3],.agg #[.int .i64 a1_2,.int .i64 a1_3]] (by rfl) rfl rfl ma_ ?_
        with_reducible refine (impl_SegTurn.calls kj17 a0_0 a0_1 a0_2 a0_3 a1_2 a1_3 t389 _ A62.out).mono ?_
        rintro e w68 ⟨rfl,hb⟩;refine⟨_,rfl,?_⟩;replace BK380:=vb_ BK380 hb;replace BK381:=vb_ BK381 hb;replace HB:=sb_ HB hb
        (try clear hb)
        (try clear hb2)
        (try clear hk)
        (try clear hi)
        refine hK.out _ _ ⟨bc_,bc_,bc_,bc_,bc_,bc_,bc_,bc_⟩ (fun hHeld=>?_);clear hK K;refine no_ (h:=?_);refine pu_ HT_ 14 49 (bm 35 32767) ?_;refine pu_ HT_ 15 50 (bm 35 65535) ?_;refine pu_ HT_ 16 51 (bm 35 131071) ?_;refine pu_ HT_ 17 52 (bm 35 262143) ?_;refine pu_ HT_ 19 54 (bm 35 786431) ?_;refine pu_ HT_ 21 56 (bm 35 2883583) ?_;refine pu_ HT_ 24 59 (bm 35 19660799) ?_;refine pu_ HT_ 26 61 (bm 35 86769663) ?_;refine pu_ HT_ 28 63 (bm 35 355205119) ?_;refine ta8_ HT_ HW_ 18 53 (bm 35 355467263) hHeld ?_;refine ta8_ HT_ HW_ 20 55 (bm 35 356515839) hHeld ?_;refine ta8_ HT_ HW_ 22 57 (bm 35 360710143) hHeld ?_;refine ta8_ HT_ HW_ 25 60 (bm 35 394264575) hHeld ?_;refine ta8_ HT_ HW_ 27 62 (bm 35 528482303) hHeld ?_;refine ta8_ HT_ HW_ 29 64 (bm 35 1065353215) hHeld ?_;refine one_ (i:=23) (N:=some 58) (bm 35 1073741823) rfl rfl (one_of HT_.out (by kernel_rfl)) (by decide) (fun K hK=>?_);refine goes_ Tryd.func116 (by kernel_rfl) rfl #[.agg #[.int .i64 a1_0,.int .i64 a1_1],.agg #[.int .i64 a1_2,.int .i64 a1_3],.agg #[.int .i64 a0_0,.int .i64 a0_1]] (by rfl) rfl rfl ma_ ?_
        with_reducible refine (impl_SegTurn.calls kj17 a1_0 a1_1 a1_2 a1_3 a0_0 a0_1 t390 _ A64.out).mono ?_
        rintro e w69 ⟨rfl,hb⟩;refine⟨_,rfl,?_⟩;replace BK380:=vb_ BK380 hb;replace BK381:=vb_ BK381 hb;replace HB:=sb_ HB hb
        (try clear hb)
        (try clear hb2)
        (try clear hk)
        (try clear hi)
        refine hK.out _ _ ⟨bc_,bc_,bc_,bc_,bc_,bc_,bc_,bc_⟩ (fun hHeld=>?_);clear hK K;refine no_ (h:=?_);refine one_ (i:=30) (N:=some 65) (bm 35 2147483647) rfl rfl (one_of HT_.out (by kernel_rfl)) (by decide) (fun K hK=>?_);refine goes_ Tryd.func116 (by kernel_rfl) rfl #[.agg #[.int .i64 a1_0,.int .i64 a1_1],.agg #[.int .i64 a1_2,.int .i64 a1_3],.agg #[.int .i64 a0_2,.int .i64 a0_3]] (by rfl) rfl rfl ma_ ?_
        with_reducible refine (impl_SegTurn.calls kj17 a1_0 a1_1 a1_2 a1_3 a0_2 a0_3 t391 _ A65.out).mono ?_
        rintro e w70 ⟨rfl,hb⟩;refine⟨_,rfl,?_⟩;replace BK380:=vb_ BK380 hb;replace BK381:=vb_ BK381 hb;replace HB:=sb_ HB hb
        (try clear hb)
        (try clear hb2)
        (try clear hk)
        (try clear hi)
        refine hK.out _ _ ⟨bc_,bc_,bc_,bc_,bc_,bc_,bc_,bc_⟩ (fun hHeld=>?_);clear hK K;refine no_ (h:=?_);refine pu_ HT_ 31 66 (bm 35 4294967295) ?_;refine pu_ HT_ 32 67 (bm 35 8589934591) ?_;refine pu_ HT_ 33 68 (bm 35 17179869183) ?_;refine pu_ HT_ 34 4 (bm 35 34359738367) ?_;refine done_ (done_of HT_.out (by kernel_rfl)) ?_
        try go_wp2
        go_ret;exact⟨rr_,hB_⟩
       ·
        rw [if_neg c63] at H;have c63b0:decide ((wrap64 (t388*t389))<0)=false:=decide_eq_false c63;clear c63;obtain rfl:=Option.some.inj H
        try go_wp2
        replace BK380:=a0_ (blk_drew BK380.out);replace BK381:=a0_ (blk_drew BK381.out);replace HB:=a0_ (below_drew1 HB.out);refine start_ (n:=35) (S:=fun w'=>w'.cell? ⟨gb380,0,none⟩=some (.int .i64 a0_0)∧w'.cell? ⟨gb380,1,none⟩=some (.int .i64 a0_1)∧w'.cell? ⟨gb380,2,none⟩=some (.int .i64 a0_2)∧w'.cell? ⟨gb380,3,none⟩=some (.int .i64 a0_3)∧w'.cell? ⟨gb381,0,none⟩=some (.int .i64 a1_0)∧w'.cell? ⟨gb381,1,none⟩=some (.int .i64 a1_1)∧w'.cell? ⟨gb381,2,none⟩=some (.int .i64 a1_2)∧w'.cell? ⟨gb381,3,none⟩=some (.int .i64 a1_3)) (ds:=[]) (Array.replicate 35 false) (by kernel_rfl) rfl rfl ⟨bc_,bc_,bc_,bc_,bc_,bc_,bc_,bc_⟩ (fun hHeld=>?_);refine with_tabW impl_SegMeet.tab5 impl_SegMeet.bits5 (fun HT_ HW_=>?_);generalize wc.drew=w71 at BK380 BK381 HB hHeld ⊢
        refine pu_ HT_ 0 35 (bm 35 1) ?_;refine pu_ HT_ 2 37 (bm 35 5) ?_;refine pu_ HT_ 4 39 (bm 35 21) ?_;refine pu_ HT_ 7 42 (bm 35 149) ?_;refine pu_ HT_ 9 44 (bm 35 661) ?_;refine pu_ HT_ 11 46 (bm 35 2709) ?_;refine ta8_ HT_ HW_ 1 36 (bm 35 2711) hHeld ?_;refine ta8_ HT_ HW_ 3 38 (bm 35 2719) hHeld ?_;refine ta8_ HT_ HW_ 5 40 (bm 35 2751) hHeld ?_;refine ta8_ HT_ HW_ 8 43 (bm 35 3007) hHeld ?_;refine ta8_ HT_ HW_ 10 45 (bm 35 4031) hHeld ?_;refine ta8_ HT_ HW_ 12 47 (bm 35 8127) hHeld ?_;refine one_ (i:=6) (N:=some 41) (bm 35 8191) rfl rfl (one_of HT_.out (by kernel_rfl)) (by decide) (fun K hK=>?_);refine goes_ Tryd.func116 (by kernel_rfl) rfl #[.agg #[.int .i64 a0_0,.int .i64 a0_1],.agg #[.int .i64 a0_2,.int .i64 a0_3],.agg #[.int .i64 a1_0,.int .i64 a1_1]] (by rfl) rfl rfl ma_ ?_
        with_reducible refine (impl_SegTurn.calls kj17 a0_0 a0_1 a0_2 a0_3 a1_0 a1_1 t388 _ A61.out).mono ?_
        rintro e w72 ⟨rfl,hb⟩;refine⟨_,rfl,?_⟩;replace BK380:=vb_ BK380 hb;replace BK381:=vb_ BK381 hb;replace HB:=sb_ HB hb
        (try clear hb)
        (try clear hb2)
        (try clear hk)
        (try clear hi)
        refine hK.out _ _ ⟨bc_,bc_,bc_,bc_,bc_,bc_,bc_,bc_⟩ (fun hHeld=>?_);clear hK K;refine no_ (h:=?_);refine one_ (i:=13) (N:=some 48) (bm 35 16383) rfl rfl (one_of HT_.out (by kernel_rfl)) (by decide) (fun K hK=>?_);refine goes_ Tryd.func116 (by kernel_rfl) rfl #[.agg #[.int .i64 a0_0,.int .i64 a0_1],.agg #[.int .i64 a0_2,.int .i64 a0_3],.agg #[.int .i64 a1_2,.int .i64 a1_3]] (by rfl) rfl rfl ma_ ?_
        with_reducible refine (impl_SegTurn.calls kj17 a0_0 a0_1 a0_2 a0_3 a1_2 a1_3 t389 _ A62.out).mono ?_
        rintro e w73 ⟨rfl,hb⟩;refine⟨_,rfl,?_⟩;replace BK380:=vb_ BK380 hb;replace BK381:=vb_ BK381 hb;replace HB:=sb_ HB hb
        (try clear hb)
        (try clear hb2)
        (try clear hk)
        (try clear hi)
        refine hK.out _ _ ⟨bc_,bc_,bc_,bc_,bc_,bc_,bc_,bc_⟩ (fun hHeld=>?_);clear hK K;refine no_ (h:=?_);refine pu_ HT_ 14 49 (bm 35 32767) ?_;refine pu_ HT_ 15 50 (bm 35 65535) ?_;refine pu_ HT_ 16 51 (bm 35 131071) ?_;refine pz_ HT_ 17 52 (bm 35 262143) ?_;refine pz_ HT_ 18 53 (bm 35 524287) ?_;refine pz_ HT_ 19 54 (bm 35 1048575) ?_;refine pz_ HT_ 20 55 (bm 35 2097151) ?_;refine pz_ HT_ 21 56 (bm 35 4194303) ?_;refine pz_ HT_ 22 57 (bm 35 8388607) ?_;refine pz_ HT_ 23 58 (bm 35 16777215) ?_;refine pz_ HT_ 24 59 (bm 35 33554431) ?_;refine pz_ HT_ 25 60 (bm 35 67108863) ?_;refine pz_ HT_ 26 61 (bm 35 134217727) ?_;refine pz_ HT_ 27 62 (bm 35 268435455) ?_;refine pz_ HT_ 28 63 (bm 35 536870911) ?_;refine pz_ HT_ 29 64 (bm 35 1073741823) ?_;refine pz_ HT_ 30 65 (bm 35 2147483647) ?_;refine pz_ HT_ 31 66 (bm 35 4294967295) ?_;refine pz_ HT_ 32 67 (bm 35 8589934591) ?_;refine pu_ HT_ 33 68 (bm 35 17179869183) ?_;refine pu_ HT_ 34 4 (bm 35 34359738367) ?_;refine done_ (done_of HT_.out (by kernel_rfl)) ?_
        try go_wp2
        go_ret;exact⟨rr_,hB_⟩
def impl_standOf.f (a0_0:Int)(a0_1:Int)(a0_2:Int)(a0_3:Int)(a1_0:Int)(a1_1:Int):Option (Int):=(impl_along.f a0_0 a0_1 a0_2 a0_3 a1_0 a1_1).bind fun t408=>(if t408≤0 then (some 0) else ((impl_between.f a0_0 a0_1 a0_2 a0_3).bind fun t409=>(if t408≥t409 then (some 2) else (some 1))))
set_option maxHeartbeats 8000000 in
set_option maxRecDepth 100000 in
theorem impl_standOf.calls (a0_0:Int)(a0_1:Int)(a0_2:Int)(a0_3:Int)(a1_0:Int)(a1_1:Int)(r:Int)(w:World)(h:impl_standOf.f a0_0 a0_1 a0_2 a0_3 a1_0 a1_1=some r):
  Calls Tryd.prog 83 #[.agg #[.int .i64 a0_0,.int .i64 a0_1,.int .i64 a0_2,.int .i64 a0_3],.agg #[.int .i64 a1_0,.int .i64 a1_1]] w fun e w'=>e=.returned (.int .i64 r)∧Below w.heap.size w w':=by
 have hu61:=Tryd.underlying61;have hu28:=Tryd.underlying28;have HB:=a0_ (Below.refl w.heap.size w);have H:((impl_along.f a0_0 a0_1 a0_2 a0_3 a1_0 a1_1).bind fun t408=>(if t408≤0 then (some 0) else ((impl_between.f a0_0 a0_1 a0_2 a0_3).bind fun t409=>(if t408≥t409 then (some 2) else (some 1)))))=some r:=h;clear h;replace H:=Option.bind_eq_some_iff.mp H;obtain⟨t408,A30,H⟩:=H
 (try dsimp only at H)
 have A3:=Aside0.mk A30;clear A30;by_cases c4:t408≤0
 ·
  rw [if_pos c4] at H;have c4b0:decide (t408≤0)=true:=decide_eq_true c4;clear c4;obtain rfl:=Option.some.inj H;go_enter Tryd.func83,Tryd.ntmps83;go_wp2_with (first | ((with_reducible refine gate_dst (N:=2) rfl ?_);refine bx_ (N:=2) (cs:=#[.int .i64 a0_0,.int .i64 a0_1,.int .i64 a0_2,.int .i64 a0_3]) (t:=61) (h:=?_);intro gb406 hg w5 hbox hb;have BK406:=a0_ (hbox);have GW406:=gh_ HB hg;have GE406:=gh_ HB hg;replace HB:=sb_ HB hb;clear hb hbox hg) | ((with_reducible refine gate_dst (N:=3) rfl ?_);refine bx_ (N:=3) (cs:=#[.int .i64 a1_0,.int .i64 a1_1]) (t:=28) (h:=?_);intro gb407 hg w6 hbox hb;have BK407:=a0_ (hbox);have GW407:=gh_ HB hg;have GE407:=gh_ HB hg;have NB406_407:=nl_ BK406 hg;have NB407_406:=nr_ BK406 hg;replace BK406:=vb_ BK406 hb;replace HB:=sb_ HB hb;clear hb hbox hg;have hnb7:=NB406_407.out;have hnc7:=NB407_406.out;have hcz8_0:=c40_ BK406;have hcz8_1:=c41_ BK406;have hcz8_2:=c42_ BK406;have hcz8_3:=c43_ BK406;have hfz8_0:=fz_ BK406 0;have hfz8_1:=fz_ BK406 1;have hfz8_2:=fz_ BK406 2;have hfz8_3:=fz_ BK406 3;have hcz9_0:=c20_ BK407;have hcz9_1:=c21_ BK407;have hfz9_0:=fz_ BK407 0;have hfz9_1:=fz_ BK407 1) | ((with_reducible refine gate_callee (f:=109) rfl ?_);refine gL_ (some 11) Tryd.func109 #[.agg #[.int .i64 a0_0,.int .i64 a0_1],.agg #[.int .i64 a0_2,.int .i64 a0_3],.agg #[.int .i64 a1_0,.int .i64 a1_1]] (h:=?_);(with_reducible refine (impl_along.calls a0_0 a0_1 a0_2 a0_3 a1_0 a1_1 t408 _ A3.out).mono ?_);rintro e w10 ⟨rfl,hb⟩;refine⟨_,rfl,?_⟩;replace BK406:=vb_ BK406 hb;replace BK407:=vb_ BK407 hb;replace HB:=sb_ HB hb;(try clear hb)));go_ret;exact⟨rr_,hB_⟩
 ·
  rw [if_neg c4] at H;have c4b0:decide (t408≤0)=false:=decide_eq_false c4;clear c4;replace H:=Option.bind_eq_some_iff.mp H;obtain⟨t409,A110,H⟩:=H
  (try dsimp only at H)
  have A11:=Aside0.mk A110;clear A110;by_cases c12:t408≥t409
  ·
   rw [if_pos c12] at H;have c12b0:decide (t409≤t408)=true:=decide_eq_true c12;clear c12;obtain rfl:=Option.some.inj H;go_enter Tryd.func83,Tryd.ntmps83
   go_wp2_with (first | ((with_reducible refine gate_dst (N:=2) rfl ?_);refine bx_ (N:=2) (cs:=#[.int .i64 a0_0,.int .i64 a0_1,.int .i64 a0_2,.int .i64 a0_3]) (t:=61) (h:=?_);intro gb406 hg w13 hbox hb;have BK406:=a0_ (hbox);have GW406:=gh_ HB hg;have GE406:=gh_ HB hg;replace HB:=sb_ HB hb;clear hb hbox hg) | ((with_reducible refine gate_dst (N:=3) rfl ?_);refine bx_ (N:=3) (cs:=#[.int .i64 a1_0,.int .i64 a1_1]) (t:=28) (h:=?_);intro gb407 hg w14 hbox hb;have BK407:=a0_ (hbox);have GW407:=gh_ HB hg;have GE407:=gh_ HB hg;have NB406_407:=nl_ BK406 hg;have NB407_406:=nr_ BK406 hg;replace BK406:=vb_ BK406 hb;replace HB:=sb_ HB hb;clear hb hbox hg;have hnb15:=NB406_407.out;have hnc15:=NB407_406.out;have hcz16_0:=c40_ BK406;have hcz16_1:=c41_ BK406;have hcz16_2:=c42_ BK406;have hcz16_3:=c43_ BK406;have hfz16_0:=fz_ BK406 0;have hfz16_1:=fz_ BK406 1;have hfz16_2:=fz_ BK406 2;have hfz16_3:=fz_ BK406 3;have hcz17_0:=c20_ BK407;have hcz17_1:=c21_ BK407;have hfz17_0:=fz_ BK407 0;have hfz17_1:=fz_ BK407 1) | ((with_reducible refine gate_callee (f:=109) rfl ?_);refine gL_ (some 11) Tryd.func109 #[.agg #[.int .i64 a0_0,.int .i64 a0_1],.agg #[.int .i64 a0_2,.int .i64 a0_3],.agg #[.int .i64 a1_0,.int .i64 a1_1]] (h:=?_);(with_reducible refine (impl_along.calls a0_0 a0_1 a0_2 a0_3 a1_0 a1_1 t408 _ A3.out).mono ?_);rintro e w18 ⟨rfl,hb⟩;refine⟨_,rfl,?_⟩;replace BK406:=vb_ BK406 hb;replace BK407:=vb_ BK407 hb;replace HB:=sb_ HB hb;(try clear hb);have hcz19_0:=c40_ BK406;have hcz19_1:=c41_ BK406;have hcz19_2:=c42_ BK406;have hcz19_3:=c43_ BK406;have hfz19_0:=fz_ BK406 0;have hfz19_1:=fz_ BK406 1;have hfz19_2:=fz_ BK406 2;have hfz19_3:=fz_ BK406 3) | ((with_reducible refine gate_callee (f:=79) rfl ?_);refine gL_ (some 21) Tryd.func79 #[.agg #[.int .i64 a0_0,.int .i64 a0_1],.agg #[.int .i64 a0_2,.int .i64 a0_3]] (h:=?_);(with_reducible refine (impl_between.calls a0_0 a0_1 a0_2 a0_3 t409 _ A11.out).mono ?_);rintro e w20 ⟨rfl,hb⟩;refine⟨_,rfl,?_⟩;replace BK406:=vb_ BK406 hb;replace BK407:=vb_ BK407 hb;replace HB:=sb_ HB hb;(try clear hb)))
   go_ret;exact⟨rr_,hB_⟩
  ·
   rw [if_neg c12] at H;have c12b0:decide (t409≤t408)=false:=decide_eq_false c12;clear c12;obtain rfl:=Option.some.inj H;go_enter Tryd.func83,Tryd.ntmps83
   go_wp2_with (first | ((with_reducible refine gate_dst (N:=2) rfl ?_);refine bx_ (N:=2) (cs:=#[.int .i64 a0_0,.int .i64 a0_1,.int .i64 a0_2,.int .i64 a0_3]) (t:=61) (h:=?_);intro gb406 hg w21 hbox hb;have BK406:=a0_ (hbox);have GW406:=gh_ HB hg;have GE406:=gh_ HB hg;replace HB:=sb_ HB hb;clear hb hbox hg) | ((with_reducible refine gate_dst (N:=3) rfl ?_);refine bx_ (N:=3) (cs:=#[.int .i64 a1_0,.int .i64 a1_1]) (t:=28) (h:=?_);intro gb407 hg w22 hbox hb;have BK407:=a0_ (hbox);have GW407:=gh_ HB hg;have GE407:=gh_ HB hg;have NB406_407:=nl_ BK406 hg;have NB407_406:=nr_ BK406 hg;replace BK406:=vb_ BK406 hb;replace HB:=sb_ HB hb;clear hb hbox hg;have hnb23:=NB406_407.out;have hnc23:=NB407_406.out;have hcz24_0:=c40_ BK406;have hcz24_1:=c41_ BK406;have hcz24_2:=c42_ BK406;have hcz24_3:=c43_ BK406;have hfz24_0:=fz_ BK406 0;have hfz24_1:=fz_ BK406 1;have hfz24_2:=fz_ BK406 2;have hfz24_3:=fz_ BK406 3;have hcz25_0:=c20_ BK407;have hcz25_1:=c21_ BK407;have hfz25_0:=fz_ BK407 0;have hfz25_1:=fz_ BK407 1) | ((with_reducible refine gate_callee (f:=109) rfl ?_);refine gL_ (some 11) Tryd.func109 #[.agg #[.int .i64 a0_0,.int .i64 a0_1],.agg #[.int .i64 a0_2,.int .i64 a0_3],.agg #[.int .i64 a1_0,.int .i64 a1_1]] (h:=?_);(with_reducible refine (impl_along.calls a0_0 a0_1 a0_2 a0_3 a1_0 a1_1 t408 _ A3.out).mono ?_);rintro e w26 ⟨rfl,hb⟩;refine⟨_,rfl,?_⟩;replace BK406:=vb_ BK406 hb;replace BK407:=vb_ BK407 hb;replace HB:=sb_ HB hb;(try clear hb);have hcz27_0:=c40_ BK406;have hcz27_1:=c41_ BK406;have hcz27_2:=c42_ BK406;have hcz27_3:=c43_ BK406;have hfz27_0:=fz_ BK406 0;have hfz27_1:=fz_ BK406 1;have hfz27_2:=fz_ BK406 2;have hfz27_3:=fz_ BK406 3) | ((with_reducible refine gate_callee (f:=79) rfl ?_);refine gL_ (some 21) Tryd.func79 #[.agg #[.int .i64 a0_0,.int .i64 a0_1],.agg #[.int .i64 a0_2,.int .i64 a0_3]] (h:=?_);(with_reducible refine (impl_between.calls a0_0 a0_1 a0_2 a0_3 t409 _ A11.out).mono ?_);rintro e w28 ⟨rfl,hb⟩;refine⟨_,rfl,?_⟩;replace BK406:=vb_ BK406 hb;replace BK407:=vb_ BK407 hb;replace HB:=sb_ HB hb;(try clear hb)))
   go_ret;exact⟨rr_,hB_⟩
def impl_FracOf.f (k:Nat)(a0:Int)(a1:Int):Option (Int × Int × Bool):=if a0<0 then (some (0,0,false)) else (if a0>99999 then (some (0,0,false)) else (if a1<1 then (some (0,0,false)) else (if a1>99999 then (some (0,0,false)) else ((impl_commonDivisor.f k a0 a1).bind fun t403=>(if t403=0 then (none) else (some (wrap64 (Int.tdiv a0 t403),wrap64 (Int.tdiv a1 t403),true)))))))
def impl_FracOf.T4:Bool × List (List Nat × List Nat):=(true,[([],[]),([],[]),([0,1],[0,1]),([],[]),([],[]),([3,4],[3,4]),([2,5],[2,5]),([6,0,1,2,3,4,5,6],[6]),([7,0,1,2,3,4,5,6,7],[])])
def impl_FracOf.B4:List Nat:=[0,0,3,0,0,24,63,127,255]
theorem impl_FracOf.tab4:rtab .any (opsOf Tryd.f20 4)=impl_FracOf.T4:=by kernel_rfl
theorem impl_FracOf.bits4:waitsOk impl_FracOf.T4.2 impl_FracOf.B4=true:=by kernel_rfl
set_option maxHeartbeats 8000000 in
set_option maxRecDepth 100000 in
theorem impl_FracOf.calls (k:Nat)(a0:Int)(a1:Int)(r1:Int)(r2:Int)(r3:Bool)(w:World)(h:impl_FracOf.f k a0 a1=some (r1,r2,r3)):
  Calls Tryd.prog 20 #[.int .i64 a0,.int .i64 a1] w fun e w'=>e=.returned (.tuple #[.agg #[.int .i64 r1,.int .i64 r2],.bool r3])∧Below w.heap.size w w':=by
 have hu35:=Tryd.underlying35;have HB:=a0_ (Below.refl w.heap.size w);have H:(if a0<0 then (some (0,0,false)) else (if a0>99999 then (some (0,0,false)) else (if a1<1 then (some (0,0,false)) else (if a1>99999 then (some (0,0,false)) else ((impl_commonDivisor.f k a0 a1).bind fun t403=>(if t403=0 then (none) else (some (wrap64 (Int.tdiv a0 t403),wrap64 (Int.tdiv a1 t403),true))))))))=some (r1,r2,r3):=h;clear h;by_cases c3:a0<0
 ·
  rw [if_pos c3] at H;have c3b0:decide (a0<0)=true:=decide_eq_true c3;clear c3;simp only [Option.some.injEq,Prod.mk.injEq] at H;obtain⟨rfl,rfl,rfl⟩:=H;go_enter Tryd.func20,Tryd.ntmps20;go_wp2_with (first | ((with_reducible refine gate_dst (N:=4) rfl ?_);refine bx_ (N:=4) (cs:=#[.int .i64 0,.int .i64 0]) (t:=35) (h:=?_);intro gb402 hg w4 hbox hb;have BK402:=a0_ (hbox);have GW402:=gh_ HB hg;have GE402:=gh_ HB hg;replace HB:=sb_ HB hb;clear hb hbox hg;have hcz5_0:=c20_ BK402;have hcz5_1:=c21_ BK402;have hfz5_0:=fz_ BK402 0;have hfz5_1:=fz_ BK402 1));refine bodyPost_ret (results_ct rfl _ _ gb402 35 #[.int .i64 0,.int .i64 0] (0,0) _ rfl (by (with_reducible repeat (first | refine blk_drewN ?_ _ | refine blk_drew ?_ | refine blk_alloc ?_ _));refine blk_put (cs:=#[.int .i64 0,.int .i64 0]) ?_ 1 _ rfl;(with_reducible repeat (first | refine blk_drewN ?_ _ | refine blk_drew ?_ | refine blk_alloc ?_ _));refine blk_put (cs:=#[.int .i64 0,.int .i64 0]) ?_ 0 _ rfl;(with_reducible repeat (first | refine blk_drewN ?_ _ | refine blk_drew ?_ | refine blk_alloc ?_ _));exact BK402.out) Tryd.underlying35 rfl (by kernel_rfl)) rfl ?_;exact⟨rr_,hB_⟩
 ·
  rw [if_neg c3] at H;have c3b0:decide (a0<0)=false:=decide_eq_false c3;clear c3;by_cases c6:a0>99999
  ·
   rw [if_pos c6] at H;have c6b0:decide (99999<a0)=true:=decide_eq_true c6;clear c6;simp only [Option.some.injEq,Prod.mk.injEq] at H;obtain⟨rfl,rfl,rfl⟩:=H;go_enter Tryd.func20,Tryd.ntmps20;go_wp2_with (first | ((with_reducible refine gate_dst (N:=4) rfl ?_);refine bx_ (N:=4) (cs:=#[.int .i64 0,.int .i64 0]) (t:=35) (h:=?_);intro gb402 hg w7 hbox hb;have BK402:=a0_ (hbox);have GW402:=gh_ HB hg;have GE402:=gh_ HB hg;replace HB:=sb_ HB hb;clear hb hbox hg;have hcz8_0:=c20_ BK402;have hcz8_1:=c21_ BK402;have hfz8_0:=fz_ BK402 0;have hfz8_1:=fz_ BK402 1));refine bodyPost_ret (results_ct rfl _ _ gb402 35 #[.int .i64 0,.int .i64 0] (0,0) _ rfl (by (with_reducible repeat (first | refine blk_drewN ?_ _ | refine blk_drew ?_ | refine blk_alloc ?_ _));refine blk_put (cs:=#[.int .i64 0,.int .i64 0]) ?_ 1 _ rfl;(with_reducible repeat (first | refine blk_drewN ?_ _ | refine blk_drew ?_ | refine blk_alloc ?_ _));refine blk_put (cs:=#[.int .i64 0,.int .i64 0]) ?_ 0 _ rfl;(with_reducible repeat (first | refine blk_drewN ?_ _ | refine blk_drew ?_ | refine blk_alloc ?_ _));exact BK402.out) Tryd.underlying35 rfl (by kernel_rfl)) rfl ?_;exact⟨rr_,hB_⟩
  ·
   rw [if_neg c6] at H;have c6b0:decide (99999<a0)=false:=decide_eq_false c6;clear c6;by_cases c9:a1<1
   ·
    rw [if_pos c9] at H;have c9b0:decide (a1<1)=true:=decide_eq_true c9;clear c9;simp only [Option.some.injEq,Prod.mk.injEq] at H;obtain⟨rfl,rfl,rfl⟩:=H;go_enter Tryd.func20,Tryd.ntmps20;go_wp2_with (first | ((with_reducible refine gate_dst (N:=4) rfl ?_);refine bx_ (N:=4) (cs:=#[.int .i64 0,.int .i64 0]) (t:=35) (h:=?_);intro gb402 hg w10 hbox hb;have BK402:=a0_ (hbox);have GW402:=gh_ HB hg;have GE402:=gh_ HB hg;replace HB:=sb_ HB hb;clear hb hbox hg;have hcz11_0:=c20_ BK402;have hcz11_1:=c21_ BK402;have hfz11_0:=fz_ BK402 0;have hfz11_1:=fz_ BK402 1));refine bodyPost_ret (results_ct rfl _ _ gb402 35 #[.int .i64 0,.int .i64 0] (0,0) _ rfl (by (with_reducible repeat (first | refine blk_drewN ?_ _ | refine blk_drew ?_ | refine blk_alloc ?_ _));refine blk_put (cs:=#[.int .i64 0,.int .i64 0]) ?_ 1 _ rfl;(with_reducible repeat (first | refine blk_drewN ?_ _ | refine blk_drew ?_ | refine blk_alloc ?_ _));refine blk_put (cs:=#[.int .i64 0,.int .i64 0]) ?_ 0 _ rfl;(with_reducible repeat (first | refine blk_drewN ?_ _ | refine blk_drew ?_ | refine blk_alloc ?_ _));exact BK402.out) Tryd.underlying35 rfl (by kernel_rfl)) rfl ?_;exact⟨rr_,hB_⟩
   ·
    rw [if_neg c9] at H;have c9b0:decide (a1<1)=false:=decide_eq_false c9;clear c9;by_cases c12:a1>99999
    ·
     rw [if_pos c12] at H;have c12b0:decide (99999<a1)=true:=decide_eq_true c12;clear c12;simp only [Option.some.injEq,Prod.mk.injEq] at H;obtain⟨rfl,rfl,rfl⟩:=H;go_enter Tryd.func20,Tryd.ntmps20;go_wp2_with (first | ((with_reducible refine gate_dst (N:=4) rfl ?_);refine bx_ (N:=4) (cs:=#[.int .i64 0,.int .i64 0]) (t:=35) (h:=?_);intro gb402 hg w13 hbox hb;have BK402:=a0_ (hbox);have GW402:=gh_ HB hg;have GE402:=gh_ HB hg;replace HB:=sb_ HB hb;clear hb hbox hg;have hcz14_0:=c20_ BK402;have hcz14_1:=c21_ BK402;have hfz14_0:=fz_ BK402 0;have hfz14_1:=fz_ BK402 1));refine bodyPost_ret (results_ct rfl _ _ gb402 35 #[.int .i64 0,.int .i64 0] (0,0) _ rfl (by (with_reducible repeat (first | refine blk_drewN ?_ _ | refine blk_drew ?_ | refine blk_alloc ?_ _));refine blk_put (cs:=#[.int .i64 0,.int .i64 0]) ?_ 1 _ rfl;(with_reducible repeat (first | refine blk_drewN ?_ _ | refine blk_drew ?_ | refine blk_alloc ?_ _));refine blk_put (cs:=#[.int .i64 0,.int .i64 0]) ?_ 0 _ rfl;(with_reducible repeat (first | refine blk_drewN ?_ _ | refine blk_drew ?_ | refine blk_alloc ?_ _));exact BK402.out) Tryd.underlying35 rfl (by kernel_rfl)) rfl ?_;exact⟨rr_,hB_⟩
    ·
     rw [if_neg c12] at H;have c12b0:decide (99999<a1)=false:=decide_eq_false c12;clear c12;replace H:=Option.bind_eq_some_iff.mp H;obtain⟨t403,A150,H⟩:=H
     (try dsimp only at H)
     have A15:=Aside0.mk A150;clear A150;by_cases c16:t403=0
     ·
      rw [if_pos c16] at H;exact absurd H (by simp)
     ·
      rw [if_neg c16] at H;have c16b0:(t403==0)=false:=beq_eq_false_iff_ne.mpr c16;have c16b1:(t403 != 0)=true:=bne_iff_ne.mpr c16;simp only [Option.some.injEq,Prod.mk.injEq] at H;obtain⟨rfl,rfl,rfl⟩:=H;go_enter Tryd.func20,Tryd.ntmps20
      try go_wp2_with (first | ((with_reducible refine gate_dst (N:=4) rfl ?_);refine bx_ (N:=4) (cs:=#[.int .i64 0,.int .i64 0]) (t:=35) (h:=?_);intro gb402 hg w17 hbox hb;have BK402:=a0_ (hbox);have GW402:=gh_ HB hg;have GE402:=gh_ HB hg;replace HB:=sb_ HB hb;clear hb hbox hg) | ((with_reducible refine gate_callee (f:=59) rfl ?_);refine gL_ (some 24) Tryd.func59 #[.int .i64 a0,.int .i64 a1] (h:=?_);(with_reducible refine (impl_commonDivisor.calls k a0 a1 t403 _ A15.out).mono ?_);rintro e w' ⟨rfl,⟨nd,rfl⟩⟩;refine⟨_,rfl,?_⟩;(try (rw [drewN_self w17];generalize hq_:World.drewN w17 _=w17;have n0_:Aside0 (w17.heap[gb402]?=some (.cells #[.int .i64 0,.int .i64 0] 35 (0,0))):=⟨by rw [← hq_];exact uq_⟩;have n1_:Aside0 (Below w.heap.size w w17):=⟨by rw [← hq_];exact hB_⟩;clear BK402 HB hq_;have BK402:=n0_;have HB:=n1_;clear n0_ n1_))))
      replace BK402:=a0_ (blk_drew BK402.out);replace HB:=a0_ (below_drew1 HB.out);refine start_ (n:=9) (S:=fun w'=>True) (ds:=[]) (Array.replicate 9 false) (by kernel_rfl) rfl rfl trivial (fun hHeld=>?_);refine with_tabW impl_FracOf.tab4 impl_FracOf.bits4 (fun HT_ HW_=>?_);generalize w17.drew=w18 at BK402 HB hHeld ⊢
      refine pu_ HT_ 0 25 (bm 9 1) ?_;refine pu_ HT_ 1 26 (bm 9 3) ?_;refine pu_ HT_ 2 27 (bm 9 7) ?_;refine pu_ HT_ 3 28 (bm 9 15) ?_;refine pu_ HT_ 4 29 (bm 9 31) ?_;refine pu_ HT_ 5 30 (bm 9 63) ?_;refine pu_ HT_ 6 31 (bm 9 127) ?_;refine one_ (i:=7) (N:=none) (bm 9 255) rfl rfl (one_of HT_.out (by kernel_rfl)) (by decide) (fun K hK=>?_);have hs19:w18.cell? ⟨gb402,0,none⟩=some (.int .i64 0):=bc_;have hfs19:=blk_frozen BK402.out 0;have hs20:w18.cell? ⟨gb402,1,none⟩=some (.int .i64 0):=bc_;have hfs20:=blk_frozen BK402.out 1;refine skip_ (w1:=?_) (by rfl) rfl ?_ ?_;rotate_left
      ·
       go_simp;rfl
      refine hK.out _ _ trivial (fun hHeld=>?_);clear hK K;refine pu_ HT_ 8 5 (bm 9 511) ?_;refine done_ (done_of HT_.out (by kernel_rfl)) ?_
      try go_wp2
      refine bodyPost_ret (results_ct rfl _ _ gb402 35 #[.int .i64 (wrap64 (Int.tdiv a0 t403)),.int .i64 (wrap64 (Int.tdiv a1 t403))] (0,0) _ rfl (by (with_reducible repeat (first | refine blk_drewN ?_ _ | refine blk_drew ?_ | refine blk_alloc ?_ _));refine blk_put (cs:=#[.int .i64 (wrap64 (Int.tdiv a0 t403)),.int .i64 0]) ?_ 1 _ rfl;(with_reducible repeat (first | refine blk_drewN ?_ _ | refine blk_drew ?_ | refine blk_alloc ?_ _));refine blk_put (cs:=#[.int .i64 0,.int .i64 0]) ?_ 0 _ rfl;(with_reducible repeat (first | refine blk_drewN ?_ _ | refine blk_drew ?_ | refine blk_alloc ?_ _));exact BK402.out) Tryd.underlying35 rfl (by kernel_rfl)) rfl ?_;exact⟨rr_,hB_⟩
def spec_l2Has.f (a0_0:Int)(a0_1:Int)(a0_2:Int)(a0_3:Int)(a1_0:Int)(a1_1:Int):Option (Bool):=(spec_l2Cross.f a0_0 a0_1 a0_2 a0_3 a1_0 a1_1).bind fun t149=>(if t149=0 then ((spec_l2Dot.f a0_0 a0_1 a0_2 a0_3 a1_0 a1_1).bind fun t150=>((spec_l2Dot.f a0_0 a0_1 a0_2 a0_3 a0_2 a0_3).bind fun t151=>((spec_l6In.f t150 0 t151).bind fun t152=>(some t152)))) else (some false))
def spec_l2Has.T1:Bool × List (List Nat × List Nat):=(true,[([],[]),([0],[0]),([],[]),([2],[2]),([],[]),([1,3,4],[1,3,4]),([5],[5]),([6,5],[6]),([7],[7]),([8,7],[7,8]),([7],[7]),([10,7],[7,10]),([7],[7]),([9,11,12,7,7],[7,9,11,12]),([7],[7]),([14,7],[7,14]),([7],[7]),([16,7],[7,16]),([7],[7]),([18,7],[7,18]),([15,17,19,13,7],[7,15,17,19]),([13,20,20,7],[7,13,20]),([7,21],[7,21]),([22,21,0,1,2,3,4,5,6,7,8,9,10,11,12,13,14,15,16,17,18,19,20,21,22],[22])])
def spec_l2Has.B1:List Nat:=[0,1,0,4,0,31,63,127,255,511,255,1279,255,8191,255,16639,255,65791,255,262399,1048575,2097151,4194303,8388607]
theorem spec_l2Has.tab1:rtab .any (opsOf Tryd.f100 1)=spec_l2Has.T1:=by kernel_rfl
theorem spec_l2Has.bits1:waitsOk spec_l2Has.T1.2 spec_l2Has.B1=true:=by kernel_rfl
set_option maxHeartbeats 8000000 in
set_option maxRecDepth 100000 in
theorem spec_l2Has.calls (a0_0:Int)(a0_1:Int)(a0_2:Int)(a0_3:Int)(a1_0:Int)(a1_1:Int)(r:Bool)(w:World)(h:spec_l2Has.f a0_0 a0_1 a0_2 a0_3 a1_0 a1_1=some r):
  Calls Tryd.prog 100 #[.agg #[.int .i64 a0_0,.int .i64 a0_1,.int .i64 a0_2,.int .i64 a0_3],.agg #[.int .i64 a1_0,.int .i64 a1_1]] w fun e w'=>e=.returned (.bool r)∧Below w.heap.size w w':=by
 have hu61:=Tryd.underlying61;have hu28:=Tryd.underlying28;have HB:=a0_ (Below.refl w.heap.size w);have H:((spec_l2Cross.f a0_0 a0_1 a0_2 a0_3 a1_0 a1_1).bind fun t149=>(if t149=0 then ((spec_l2Dot.f a0_0 a0_1 a0_2 a0_3 a1_0 a1_1).bind fun t150=>((spec_l2Dot.f a0_0 a0_1 a0_2 a0_3 a0_2 a0_3).bind fun t151=>((spec_l6In.f t150 0 t151).bind fun t152=>(some t152)))) else (some false)))=some r:=h;clear h;replace H:=Option.bind_eq_some_iff.mp H;obtain⟨t149,A30,H⟩:=H
 (try dsimp only at H)
 have A3:=Aside0.mk A30;clear A30;by_cases c4:t149=0
 ·
  rw [if_pos c4] at H;have c4b0:(t149==0)=true:=beq_iff_eq.mpr c4;have c4b1:(t149 != 0)=false:=bne_eq_false_iff_eq.mpr c4;clear c4;replace H:=Option.bind_eq_some_iff.mp H;obtain⟨t150,A50,H⟩:=H
  (try dsimp only at H)
  have A5:=Aside0.mk A50;clear A50;replace H:=Option.bind_eq_some_iff.mp H;obtain⟨t151,A60,H⟩:=H
  (try dsimp only at H)
  have A6:=Aside0.mk A60;clear A60;replace H:=Option.bind_eq_some_iff.mp H;obtain⟨t152,A70,H⟩:=H
  (try dsimp only at H)
  have A7:=Aside0.mk A70;clear A70;obtain rfl:=Option.some.inj H;go_enter Tryd.func100,Tryd.ntmps100
  try go_wp2_with (first | ((with_reducible refine gate_dst (N:=2) rfl ?_);refine bx_ (N:=2) (cs:=#[.int .i64 a0_0,.int .i64 a0_1,.int .i64 a0_2,.int .i64 a0_3]) (t:=61) (h:=?_);intro gb147 hg w8 hbox hb;have BK147:=a0_ (hbox);have GW147:=gh_ HB hg;have GE147:=gh_ HB hg;replace HB:=sb_ HB hb;clear hb hbox hg) | ((with_reducible refine gate_dst (N:=3) rfl ?_);refine bx_ (N:=3) (cs:=#[.int .i64 a1_0,.int .i64 a1_1]) (t:=28) (h:=?_);intro gb148 hg w9 hbox hb;have BK148:=a0_ (hbox);have GW148:=gh_ HB hg;have GE148:=gh_ HB hg;have NB147_148:=nl_ BK147 hg;have NB148_147:=nr_ BK147 hg;replace BK147:=vb_ BK147 hb;replace HB:=sb_ HB hb;clear hb hbox hg))
  replace BK147:=a0_ (blk_drew BK147.out);replace BK148:=a0_ (blk_drew BK148.out);replace HB:=a0_ (below_drew1 HB.out);refine start_ (n:=24) (S:=fun w'=>w'.cell? ⟨gb147,0,none⟩=some (.int .i64 a0_0)∧w'.cell? ⟨gb147,1,none⟩=some (.int .i64 a0_1)∧w'.cell? ⟨gb147,2,none⟩=some (.int .i64 a0_2)∧w'.cell? ⟨gb147,3,none⟩=some (.int .i64 a0_3)∧w'.cell? ⟨gb148,0,none⟩=some (.int .i64 a1_0)∧w'.cell? ⟨gb148,1,none⟩=some (.int .i64 a1_1)) (ds:=[]) (Array.replicate 24 false) (by kernel_rfl) rfl rfl ⟨bc_,bc_,bc_,bc_,bc_,bc_⟩ (fun hHeld=>?_);refine with_tabW spec_l2Has.tab1 spec_l2Has.bits1 (fun HT_ HW_=>?_);generalize w9.drew=w10 at BK147 BK148 HB hHeld ⊢
  refine pu_ HT_ 0 5 (bm 24 1) ?_;refine pu_ HT_ 2 7 (bm 24 5) ?_;refine ta6_ HT_ HW_ 1 6 (bm 24 7) hHeld ?_;refine ta6_ HT_ HW_ 3 8 (bm 24 15) hHeld ?_;refine ta6_ HT_ HW_ 4 9 (bm 24 31) hHeld ?_;refine one_ (i:=5) (N:=some 10) (bm 24 63) rfl rfl (one_of HT_.out (by kernel_rfl)) (by decide) (fun K hK=>?_);refine goes_ Tryd.func102 (by kernel_rfl) rfl #[.agg #[.int .i64 a0_0,.int .i64 a0_1],.agg #[.int .i64 a0_2,.int .i64 a0_3],.agg #[.int .i64 a1_0,.int .i64 a1_1]] (by rfl) rfl rfl ma_ ?_
  with_reducible refine (spec_l2Cross.calls a0_0 a0_1 a0_2 a0_3 a1_0 a1_1 t149 _ A3.out).mono ?_
  rintro e w11 ⟨rfl,hb⟩;refine⟨_,rfl,?_⟩;replace BK147:=vb_ BK147 hb;replace BK148:=vb_ BK148 hb;replace HB:=sb_ HB hb
  (try clear hb)
  (try clear hb2)
  (try clear hk)
  (try clear hi)
  refine hK.out _ _ ⟨bc_,bc_,bc_,bc_,bc_,bc_⟩ (fun hHeld=>?_);clear hK K;refine no_ (h:=?_);refine pu_ HT_ 6 11 (bm 24 127) ?_;refine pu_ HT_ 7 12 (bm 24 255) ?_;refine pu_ HT_ 8 13 (bm 24 511) ?_;refine pu_ HT_ 10 15 (bm 24 1535) ?_;refine pu_ HT_ 14 19 (bm 24 17919) ?_;refine pu_ HT_ 16 21 (bm 24 83455) ?_;refine pu_ HT_ 18 23 (bm 24 345599) ?_;refine ta6_ HT_ HW_ 9 14 (bm 24 346111) hHeld ?_;refine ta6_ HT_ HW_ 11 16 (bm 24 348159) hHeld ?_;refine ta6_ HT_ HW_ 12 17 (bm 24 352255) hHeld ?_;refine ta6_ HT_ HW_ 15 20 (bm 24 385023) hHeld ?_;refine ta6_ HT_ HW_ 17 22 (bm 24 516095) hHeld ?_;refine ta6_ HT_ HW_ 19 24 (bm 24 1040383) hHeld ?_;refine one_ (i:=13) (N:=some 18) (bm 24 1048575) rfl rfl (one_of HT_.out (by kernel_rfl)) (by decide) (fun K hK=>?_);refine goes_ Tryd.func117 (by kernel_rfl) rfl #[.agg #[.int .i64 a0_0,.int .i64 a0_1],.agg #[.int .i64 a0_2,.int .i64 a0_3],.agg #[.int .i64 a1_0,.int .i64 a1_1]] (by rfl) rfl rfl ma_ ?_
  with_reducible refine (spec_l2Dot.calls a0_0 a0_1 a0_2 a0_3 a1_0 a1_1 t150 _ A5.out).mono ?_
  rintro e w12 ⟨rfl,hb⟩;refine⟨_,rfl,?_⟩;replace BK147:=vb_ BK147 hb;replace BK148:=vb_ BK148 hb;replace HB:=sb_ HB hb
  (try clear hb)
  (try clear hb2)
  (try clear hk)
  (try clear hi)
  refine hK.out _ _ ⟨bc_,bc_,bc_,bc_,bc_,bc_⟩ (fun hHeld=>?_);clear hK K;refine no_ (h:=?_);refine one_ (i:=20) (N:=some 25) (bm 24 2097151) rfl rfl (one_of HT_.out (by kernel_rfl)) (by decide) (fun K hK=>?_);refine goes_ Tryd.func117 (by kernel_rfl) rfl #[.agg #[.int .i64 a0_0,.int .i64 a0_1],.agg #[.int .i64 a0_2,.int .i64 a0_3],.agg #[.int .i64 a0_2,.int .i64 a0_3]] (by rfl) rfl rfl ma_ ?_
  with_reducible refine (spec_l2Dot.calls a0_0 a0_1 a0_2 a0_3 a0_2 a0_3 t151 _ A6.out).mono ?_
  rintro e w13 ⟨rfl,hb⟩;refine⟨_,rfl,?_⟩;replace BK147:=vb_ BK147 hb;replace BK148:=vb_ BK148 hb;replace HB:=sb_ HB hb
  (try clear hb)
  (try clear hb2)
  (try clear hk)
  (try clear hi)
  refine hK.out _ _ ⟨bc_,bc_,bc_,bc_,bc_,bc_⟩ (fun hHeld=>?_);clear hK K;refine no_ (h:=?_);refine one_ (i:=21) (N:=some 26) (bm 24 4194303) rfl rfl (one_of HT_.out (by kernel_rfl)) (by decide) (fun K hK=>?_);refine goes_ Tryd.func58 (by kernel_rfl) rfl #[.int .i64 t150,.int .i64 0,.int .i64 t151] (by rfl) rfl rfl ma_ ?_
  with_reducible refine (spec_l6In.calls t150 0 t151 t152 _ A7.out).mono ?_
  rintro e w' ⟨rfl,⟨nd,rfl⟩⟩;refine⟨_,rfl,?_⟩;refine hK.out _ _ ⟨bc_,bc_,bc_,bc_,bc_,bc_⟩ (fun hHeld=>?_);clear hK K;refine no_ (h:=?_);refine pu_ HT_ 22 27 (bm 24 8388607) ?_;refine pu_ HT_ 23 4 (bm 24 16777215) ?_;refine done_ (done_of HT_.out (by kernel_rfl)) ?_
  try go_wp2
  go_ret;exact⟨rr_,hB_⟩
 ·
  rw [if_neg c4] at H;have c4b0:(t149==0)=false:=beq_eq_false_iff_ne.mpr c4;have c4b1:(t149 != 0)=true:=bne_iff_ne.mpr c4;obtain rfl:=Option.some.inj H;go_enter Tryd.func100,Tryd.ntmps100
  try go_wp2_with (first | ((with_reducible refine gate_dst (N:=2) rfl ?_);refine bx_ (N:=2) (cs:=#[.int .i64 a0_0,.int .i64 a0_1,.int .i64 a0_2,.int .i64 a0_3]) (t:=61) (h:=?_);intro gb147 hg w14 hbox hb;have BK147:=a0_ (hbox);have GW147:=gh_ HB hg;have GE147:=gh_ HB hg;replace HB:=sb_ HB hb;clear hb hbox hg) | ((with_reducible refine gate_dst (N:=3) rfl ?_);refine bx_ (N:=3) (cs:=#[.int .i64 a1_0,.int .i64 a1_1]) (t:=28) (h:=?_);intro gb148 hg w15 hbox hb;have BK148:=a0_ (hbox);have GW148:=gh_ HB hg;have GE148:=gh_ HB hg;have NB147_148:=nl_ BK147 hg;have NB148_147:=nr_ BK147 hg;replace BK147:=vb_ BK147 hb;replace HB:=sb_ HB hb;clear hb hbox hg))
  replace BK147:=a0_ (blk_drew BK147.out);replace BK148:=a0_ (blk_drew BK148.out);replace HB:=a0_ (below_drew1 HB.out);refine start_ (n:=24) (S:=fun w'=>w'.cell? ⟨gb147,0,none⟩=some (.int .i64 a0_0)∧w'.cell? ⟨gb147,1,none⟩=some (.int .i64 a0_1)∧w'.cell? ⟨gb147,2,none⟩=some (.int .i64 a0_2)∧w'.cell? ⟨gb147,3,none⟩=some (.int .i64 a0_3)∧w'.cell? ⟨gb148,0,none⟩=some (.int .i64 a1_0)∧w'.cell? ⟨gb148,1,none⟩=some (.int .i64 a1_1)) (ds:=[]) (Array.replicate 24 false) (by kernel_rfl) rfl rfl ⟨bc_,bc_,bc_,bc_,bc_,bc_⟩ (fun hHeld=>?_);refine with_tabW spec_l2Has.tab1 spec_l2Has.bits1 (fun HT_ HW_=>?_);generalize w15.drew=w16 at BK147 BK148 HB hHeld ⊢
  refine pu_ HT_ 0 5 (bm 24 1) ?_;refine pu_ HT_ 2 7 (bm 24 5) ?_;refine ta6_ HT_ HW_ 1 6 (bm 24 7) hHeld ?_;refine ta6_ HT_ HW_ 3 8 (bm 24 15) hHeld ?_;refine ta6_ HT_ HW_ 4 9 (bm 24 31) hHeld ?_;refine one_ (i:=5) (N:=some 10) (bm 24 63) rfl rfl (one_of HT_.out (by kernel_rfl)) (by decide) (fun K hK=>?_);refine goes_ Tryd.func102 (by kernel_rfl) rfl #[.agg #[.int .i64 a0_0,.int .i64 a0_1],.agg #[.int .i64 a0_2,.int .i64 a0_3],.agg #[.int .i64 a1_0,.int .i64 a1_1]] (by rfl) rfl rfl ma_ ?_
  with_reducible refine (spec_l2Cross.calls a0_0 a0_1 a0_2 a0_3 a1_0 a1_1 t149 _ A3.out).mono ?_
  rintro e w17 ⟨rfl,hb⟩;refine⟨_,rfl,?_⟩;replace BK147:=vb_ BK147 hb;replace BK148:=vb_ BK148 hb;replace HB:=sb_ HB hb
  (try clear hb)
  (try clear hb2)
  (try clear hk)
  (try clear hi)
  refine hK.out _ _ ⟨bc_,bc_,bc_,bc_,bc_,bc_⟩ (fun hHeld=>?_);clear hK K;refine no_ (h:=?_);refine pu_ HT_ 6 11 (bm 24 127) ?_;refine pu_ HT_ 7 12 (bm 24 255) ?_;refine pz_ HT_ 8 13 (bm 24 511) ?_;refine pz_ HT_ 9 14 (bm 24 1023) ?_;refine pz_ HT_ 10 15 (bm 24 2047) ?_;refine pz_ HT_ 11 16 (bm 24 4095) ?_;refine pz_ HT_ 12 17 (bm 24 8191) ?_;refine pz_ HT_ 13 18 (bm 24 16383) ?_;refine pz_ HT_ 14 19 (bm 24 32767) ?_;refine pz_ HT_ 15 20 (bm 24 65535) ?_;refine pz_ HT_ 16 21 (bm 24 131071) ?_;refine pz_ HT_ 17 22 (bm 24 262143) ?_;refine pz_ HT_ 18 23 (bm 24 524287) ?_;refine pz_ HT_ 19 24 (bm 24 1048575) ?_;refine pz_ HT_ 20 25 (bm 24 2097151) ?_;refine pz_ HT_ 21 26 (bm 24 4194303) ?_;refine pu_ HT_ 22 27 (bm 24 8388607) ?_;refine pu_ HT_ 23 4 (bm 24 16777215) ?_;refine done_ (done_of HT_.out (by kernel_rfl)) ?_
  try go_wp2
  go_ret;exact⟨rr_,hB_⟩
def spec_l2Sign.f (a0:Int):Option (Int):=if a0<0 then (some (-1)) else (if a0>0 then (some 1) else (some 0))
set_option maxHeartbeats 8000000 in
set_option maxRecDepth 100000 in
theorem spec_l2Sign.calls (a0:Int)(r:Int)(w:World)(h:spec_l2Sign.f a0=some r):
  Calls Tryd.prog 118 #[.int .i64 a0] w fun e w'=>e=.returned (.int .i64 r)∧Drawn0 w w':=by
 have H:(if a0<0 then (some (-1)) else (if a0>0 then (some 1) else (some 0)))=some r:=h;clear h;by_cases c2:a0<0
 ·
  rw [if_pos c2] at H;have c2b0:decide (a0<0)=true:=decide_eq_true c2;clear c2;obtain rfl:=Option.some.inj H;go_enter Tryd.func118,Tryd.ntmps118;go_wp2;go_ret;exact⟨by first | rfl | (simp;done) | (simp [*];done),by repeat (first | exact Drawn0.refl _ | apply Drawn0.step)⟩
 ·
  rw [if_neg c2] at H;have c2b0:decide (a0<0)=false:=decide_eq_false c2;clear c2;by_cases c3:a0>0
  ·
   rw [if_pos c3] at H;have c3b0:decide (0<a0)=true:=decide_eq_true c3;clear c3;obtain rfl:=Option.some.inj H;go_enter Tryd.func118,Tryd.ntmps118;go_wp2;go_ret;exact⟨by first | rfl | (simp;done) | (simp [*];done),by repeat (first | exact Drawn0.refl _ | apply Drawn0.step)⟩
  ·
   rw [if_neg c3] at H;have c3b0:decide (0<a0)=false:=decide_eq_false c3;clear c3;obtain rfl:=Option.some.inj H;go_enter Tryd.func118,Tryd.ntmps118;go_wp2;go_ret;exact⟨by first | rfl | (simp;done) | (simp [*];done),by repeat (first | exact Drawn0.refl _ | apply Drawn0.step)⟩
def spec_l1Cmp.f (a0_0:Int)(a0_1:Int)(a1_0:Int)(a1_1:Int):Option (Int):=if (wrap64 (a0_0*a1_1))<(wrap64 (a1_0*a0_1)) then (some (-1)) else (if (wrap64 (a0_0*a1_1))>(wrap64 (a1_0*a0_1)) then (some 1) else (some 0))
set_option maxHeartbeats 8000000 in
set_option maxRecDepth 100000 in
theorem spec_l1Cmp.calls (a0_0:Int)(a0_1:Int)(a1_0:Int)(a1_1:Int)(r:Int)(w:World)(h:spec_l1Cmp.f a0_0 a0_1 a1_0 a1_1=some r):
  Calls Tryd.prog 120 #[.agg #[.int .i64 a0_0,.int .i64 a0_1],.agg #[.int .i64 a1_0,.int .i64 a1_1]] w fun e w'=>e=.returned (.int .i64 r)∧Below w.heap.size w w':=by
 have hu35:=Tryd.underlying35;have HB:=a0_ (Below.refl w.heap.size w);have H:(if (wrap64 (a0_0*a1_1))<(wrap64 (a1_0*a0_1)) then (some (-1)) else (if (wrap64 (a0_0*a1_1))>(wrap64 (a1_0*a0_1)) then (some 1) else (some 0)))=some r:=h;clear h;by_cases c3:(wrap64 (a0_0*a1_1))<(wrap64 (a1_0*a0_1))
 ·
  rw [if_pos c3] at H;have c3b0:decide ((wrap64 (a0_0*a1_1))<(wrap64 (a1_0*a0_1)))=true:=decide_eq_true c3;clear c3;obtain rfl:=Option.some.inj H;go_enter Tryd.func120,Tryd.ntmps120;go_wp2_with (first | ((with_reducible refine gate_dst (N:=2) rfl ?_);refine bx_ (N:=2) (cs:=#[.int .i64 a0_0,.int .i64 a0_1]) (t:=35) (h:=?_);intro gb571 hg w4 hbox hb;have BK571:=a0_ (hbox);have GW571:=gh_ HB hg;have GE571:=gh_ HB hg;replace HB:=sb_ HB hb;clear hb hbox hg) | ((with_reducible refine gate_dst (N:=3) rfl ?_);refine bx_ (N:=3) (cs:=#[.int .i64 a1_0,.int .i64 a1_1]) (t:=35) (h:=?_);intro gb572 hg w5 hbox hb;have BK572:=a0_ (hbox);have GW572:=gh_ HB hg;have GE572:=gh_ HB hg;have NB571_572:=nl_ BK571 hg;have NB572_571:=nr_ BK571 hg;replace BK571:=vb_ BK571 hb;replace HB:=sb_ HB hb;clear hb hbox hg;have hnb6:=NB571_572.out;have hnc6:=NB572_571.out;have hcz7_0:=c20_ BK571;have hcz7_1:=c21_ BK571;have hfz7_0:=fz_ BK571 0;have hfz7_1:=fz_ BK571 1;have hcz8_0:=c20_ BK572;have hcz8_1:=c21_ BK572;have hfz8_0:=fz_ BK572 0;have hfz8_1:=fz_ BK572 1));go_ret;exact⟨rr_,hB_⟩
 ·
  rw [if_neg c3] at H;have c3b0:decide ((wrap64 (a0_0*a1_1))<(wrap64 (a1_0*a0_1)))=false:=decide_eq_false c3;clear c3;by_cases c9:(wrap64 (a0_0*a1_1))>(wrap64 (a1_0*a0_1))
  ·
   rw [if_pos c9] at H;have c9b0:decide ((wrap64 (a1_0*a0_1))<(wrap64 (a0_0*a1_1)))=true:=decide_eq_true c9;clear c9;obtain rfl:=Option.some.inj H;go_enter Tryd.func120,Tryd.ntmps120;go_wp2_with (first | ((with_reducible refine gate_dst (N:=2) rfl ?_);refine bx_ (N:=2) (cs:=#[.int .i64 a0_0,.int .i64 a0_1]) (t:=35) (h:=?_);intro gb571 hg w10 hbox hb;have BK571:=a0_ (hbox);have GW571:=gh_ HB hg;have GE571:=gh_ HB hg;replace HB:=sb_ HB hb;clear hb hbox hg) | ((with_reducible refine gate_dst (N:=3) rfl ?_);refine bx_ (N:=3) (cs:=#[.int .i64 a1_0,.int .i64 a1_1]) (t:=35) (h:=?_);intro gb572 hg w11 hbox hb;have BK572:=a0_ (hbox);have GW572:=gh_ HB hg;have GE572:=gh_ HB hg;have NB571_572:=nl_ BK571 hg;have NB572_571:=nr_ BK571 hg;replace BK571:=vb_ BK571 hb;replace HB:=sb_ HB hb;clear hb hbox hg;have hnb12:=NB571_572.out;have hnc12:=NB572_571.out;have hcz13_0:=c20_ BK571;have hcz13_1:=c21_ BK571;have hfz13_0:=fz_ BK571 0;have hfz13_1:=fz_ BK571 1;have hcz14_0:=c20_ BK572;have hcz14_1:=c21_ BK572;have hfz14_0:=fz_ BK572 0;have hfz14_1:=fz_ BK572 1));go_ret;exact⟨rr_,hB_⟩
  ·
   rw [if_neg c9] at H;have c9b0:decide ((wrap64 (a1_0*a0_1))<(wrap64 (a0_0*a1_1)))=false:=decide_eq_false c9;clear c9;obtain rfl:=Option.some.inj H;go_enter Tryd.func120,Tryd.ntmps120;go_wp2_with (first | ((with_reducible refine gate_dst (N:=2) rfl ?_);refine bx_ (N:=2) (cs:=#[.int .i64 a0_0,.int .i64 a0_1]) (t:=35) (h:=?_);intro gb571 hg w15 hbox hb;have BK571:=a0_ (hbox);have GW571:=gh_ HB hg;have GE571:=gh_ HB hg;replace HB:=sb_ HB hb;clear hb hbox hg) | ((with_reducible refine gate_dst (N:=3) rfl ?_);refine bx_ (N:=3) (cs:=#[.int .i64 a1_0,.int .i64 a1_1]) (t:=35) (h:=?_);intro gb572 hg w16 hbox hb;have BK572:=a0_ (hbox);have GW572:=gh_ HB hg;have GE572:=gh_ HB hg;have NB571_572:=nl_ BK571 hg;have NB572_571:=nr_ BK571 hg;replace BK571:=vb_ BK571 hb;replace HB:=sb_ HB hb;clear hb hbox hg;have hnb17:=NB571_572.out;have hnc17:=NB572_571.out;have hcz18_0:=c20_ BK571;have hcz18_1:=c21_ BK571;have hfz18_0:=fz_ BK571 0;have hfz18_1:=fz_ BK571 1;have hcz19_0:=c20_ BK572;have hcz19_1:=c21_ BK572;have hfz19_0:=fz_ BK572 0;have hfz19_1:=fz_ BK572 1));go_ret;exact⟨rr_,hB_⟩
def spec_l2Least.f (a0_0:Int)(a0_1:Int)(a1_0:Int)(a1_1:Int):Option (Int × Int):=(spec_l1Cmp.f a1_0 a1_1 a0_0 a0_1).bind fun t576=>(if t576<0 then (some (a1_0,a1_1)) else (some (a0_0,a0_1)))
set_option maxHeartbeats 8000000 in
set_option maxRecDepth 100000 in
theorem spec_l2Least.calls (a0_0:Int)(a0_1:Int)(a1_0:Int)(a1_1:Int)(r1:Int)(r2:Int)(w:World)(h:spec_l2Least.f a0_0 a0_1 a1_0 a1_1=some (r1,r2)):
  Calls Tryd.prog 108 #[.agg #[.int .i64 a0_0,.int .i64 a0_1],.agg #[.int .i64 a1_0,.int .i64 a1_1]] w fun e w'=>e=.returned (.agg #[.int .i64 r1,.int .i64 r2])∧Below w.heap.size w w':=by
 have hu35:=Tryd.underlying35;have HB:=a0_ (Below.refl w.heap.size w);have H:((spec_l1Cmp.f a1_0 a1_1 a0_0 a0_1).bind fun t576=>(if t576<0 then (some (a1_0,a1_1)) else (some (a0_0,a0_1))))=some (r1,r2):=h;clear h;replace H:=Option.bind_eq_some_iff.mp H;obtain⟨t576,A30,H⟩:=H
 (try dsimp only at H)
 have A3:=Aside0.mk A30;clear A30;by_cases c4:t576<0
 ·
  rw [if_pos c4] at H;have c4b0:decide (t576<0)=true:=decide_eq_true c4;clear c4;simp only [Option.some.injEq,Prod.mk.injEq] at H;obtain⟨rfl,rfl⟩:=H;go_enter Tryd.func108,Tryd.ntmps108
  go_wp2_with (first | ((with_reducible refine gate_dst (N:=2) rfl ?_);refine bx_ (N:=2) (cs:=#[.int .i64 a0_0,.int .i64 a0_1]) (t:=35) (h:=?_);intro gb573 hg w5 hbox hb;have BK573:=a0_ (hbox);have GW573:=gh_ HB hg;have GE573:=gh_ HB hg;replace HB:=sb_ HB hb;clear hb hbox hg) | ((with_reducible refine gate_dst (N:=3) rfl ?_);refine bx_ (N:=3) (cs:=#[.int .i64 a1_0,.int .i64 a1_1]) (t:=35) (h:=?_);intro gb574 hg w6 hbox hb;have BK574:=a0_ (hbox);have GW574:=gh_ HB hg;have GE574:=gh_ HB hg;have NB573_574:=nl_ BK573 hg;have NB574_573:=nr_ BK573 hg;replace BK573:=vb_ BK573 hb;replace HB:=sb_ HB hb;clear hb hbox hg) | ((with_reducible refine gate_dst (N:=4) rfl ?_);refine bx_ (N:=4) (cs:=#[.int .i64 0,.int .i64 0]) (t:=35) (h:=?_);intro gb575 hg w7 hbox hb;have BK575:=a0_ (hbox);have GW575:=gh_ HB hg;have GE575:=gh_ HB hg;have NB573_575:=nl_ BK573 hg;have NB575_573:=nr_ BK573 hg;have NB574_575:=nl_ BK574 hg;have NB575_574:=nr_ BK574 hg;replace BK573:=vb_ BK573 hb;replace BK574:=vb_ BK574 hb;replace HB:=sb_ HB hb;clear hb hbox hg;have hnb8:=NB574_573.out;have hnc8:=NB573_574.out;have hnb9:=NB574_575.out;have hnc9:=NB575_574.out;have hcz10_0:=c20_ BK574;have hcz10_1:=c21_ BK574;have hfz10_0:=fz_ BK574 0;have hfz10_1:=fz_ BK574 1;have hnb11:=NB573_575.out;have hnc11:=NB575_573.out;have hcz12_0:=c20_ BK573;have hcz12_1:=c21_ BK573;have hfz12_0:=fz_ BK573 0;have hfz12_1:=fz_ BK573 1) | ((with_reducible refine gate_callee (f:=120) rfl ?_);refine gL_ (some 7) Tryd.func120 #[.agg #[.int .i64 a1_0,.int .i64 a1_1],.agg #[.int .i64 a0_0,.int .i64 a0_1]] (h:=?_);(with_reducible refine (spec_l1Cmp.calls a1_0 a1_1 a0_0 a0_1 t576 _ A3.out).mono ?_);rintro e w13 ⟨rfl,hb⟩;refine⟨_,rfl,?_⟩;replace BK573:=vb_ BK573 hb;replace BK574:=vb_ BK574 hb;replace BK575:=vb_ BK575 hb;replace HB:=sb_ HB hb;(try clear hb);have hcz14_0:=c20_ BK574;have hcz14_1:=c21_ BK574;have hfz14_0:=fz_ BK574 0;have hfz14_1:=fz_ BK574 1;have hcz15_0:=c20_ BK575;have hcz15_1:=c21_ BK575;have hfz15_0:=fz_ BK575 0;have hfz15_1:=fz_ BK575 1))
  refine bodyPost_ret (results_cell_row rfl _ _ gb575 35 #[.int .i64 a1_0,.int .i64 a1_1] (0,0) _ rfl (by (with_reducible repeat (first | refine blk_drewN ?_ _ | refine blk_drew ?_ | refine blk_alloc ?_ _));refine blk_put (cs:=#[.int .i64 a1_0,.int .i64 0]) ?_ 1 _ rfl;(with_reducible repeat (first | refine blk_drewN ?_ _ | refine blk_drew ?_ | refine blk_alloc ?_ _));refine blk_put (cs:=#[.int .i64 0,.int .i64 0]) ?_ 0 _ rfl;(with_reducible repeat (first | refine blk_drewN ?_ _ | refine blk_drew ?_ | refine blk_alloc ?_ _));exact BK575.out) Tryd.underlying35 rfl (by kernel_rfl)) rfl ?_;exact⟨rr_,hB_⟩
 ·
  rw [if_neg c4] at H;have c4b0:decide (t576<0)=false:=decide_eq_false c4;clear c4;simp only [Option.some.injEq,Prod.mk.injEq] at H;obtain⟨rfl,rfl⟩:=H;go_enter Tryd.func108,Tryd.ntmps108
  go_wp2_with (first | ((with_reducible refine gate_dst (N:=2) rfl ?_);refine bx_ (N:=2) (cs:=#[.int .i64 a0_0,.int .i64 a0_1]) (t:=35) (h:=?_);intro gb573 hg w16 hbox hb;have BK573:=a0_ (hbox);have GW573:=gh_ HB hg;have GE573:=gh_ HB hg;replace HB:=sb_ HB hb;clear hb hbox hg) | ((with_reducible refine gate_dst (N:=3) rfl ?_);refine bx_ (N:=3) (cs:=#[.int .i64 a1_0,.int .i64 a1_1]) (t:=35) (h:=?_);intro gb574 hg w17 hbox hb;have BK574:=a0_ (hbox);have GW574:=gh_ HB hg;have GE574:=gh_ HB hg;have NB573_574:=nl_ BK573 hg;have NB574_573:=nr_ BK573 hg;replace BK573:=vb_ BK573 hb;replace HB:=sb_ HB hb;clear hb hbox hg) | ((with_reducible refine gate_dst (N:=4) rfl ?_);refine bx_ (N:=4) (cs:=#[.int .i64 0,.int .i64 0]) (t:=35) (h:=?_);intro gb575 hg w18 hbox hb;have BK575:=a0_ (hbox);have GW575:=gh_ HB hg;have GE575:=gh_ HB hg;have NB573_575:=nl_ BK573 hg;have NB575_573:=nr_ BK573 hg;have NB574_575:=nl_ BK574 hg;have NB575_574:=nr_ BK574 hg;replace BK573:=vb_ BK573 hb;replace BK574:=vb_ BK574 hb;replace HB:=sb_ HB hb;clear hb hbox hg;have hnb19:=NB574_573.out;have hnc19:=NB573_574.out;have hnb20:=NB574_575.out;have hnc20:=NB575_574.out;have hcz21_0:=c20_ BK574;have hcz21_1:=c21_ BK574;have hfz21_0:=fz_ BK574 0;have hfz21_1:=fz_ BK574 1;have hnb22:=NB573_575.out;have hnc22:=NB575_573.out;have hcz23_0:=c20_ BK573;have hcz23_1:=c21_ BK573;have hfz23_0:=fz_ BK573 0;have hfz23_1:=fz_ BK573 1) | ((with_reducible refine gate_callee (f:=120) rfl ?_);refine gL_ (some 7) Tryd.func120 #[.agg #[.int .i64 a1_0,.int .i64 a1_1],.agg #[.int .i64 a0_0,.int .i64 a0_1]] (h:=?_);(with_reducible refine (spec_l1Cmp.calls a1_0 a1_1 a0_0 a0_1 t576 _ A3.out).mono ?_);rintro e w24 ⟨rfl,hb⟩;refine⟨_,rfl,?_⟩;replace BK573:=vb_ BK573 hb;replace BK574:=vb_ BK574 hb;replace BK575:=vb_ BK575 hb;replace HB:=sb_ HB hb;(try clear hb);have hcz25_0:=c20_ BK573;have hcz25_1:=c21_ BK573;have hfz25_0:=fz_ BK573 0;have hfz25_1:=fz_ BK573 1;have hcz26_0:=c20_ BK575;have hcz26_1:=c21_ BK575;have hfz26_0:=fz_ BK575 0;have hfz26_1:=fz_ BK575 1))
  refine bodyPost_ret (results_cell_row rfl _ _ gb575 35 #[.int .i64 a0_0,.int .i64 a0_1] (0,0) _ rfl (by (with_reducible repeat (first | refine blk_drewN ?_ _ | refine blk_drew ?_ | refine blk_alloc ?_ _));refine blk_put (cs:=#[.int .i64 a0_0,.int .i64 0]) ?_ 1 _ rfl;(with_reducible repeat (first | refine blk_drewN ?_ _ | refine blk_drew ?_ | refine blk_alloc ?_ _));refine blk_put (cs:=#[.int .i64 0,.int .i64 0]) ?_ 0 _ rfl;(with_reducible repeat (first | refine blk_drewN ?_ _ | refine blk_drew ?_ | refine blk_alloc ?_ _));exact BK575.out) Tryd.underlying35 rfl (by kernel_rfl)) rfl ?_;exact⟨rr_,hB_⟩
end Go.Proofs.YtkefmnmoaomlhaaDoor.X
end
section
set_option linter.unusedVariables false
set_option linter.unusedSimpArgs false
namespace Go.Proofs.YtkefmnmoaomlhaaDoor.X
open Go.RowKit Go.Proofs.YtkefmnmoaomlhaaDoorW.PrintWords Go.Proofs.YtkefmnmoaomlhaaDoorW.PrintLast Go.Proofs.YtkefmnmoaomlhaaDoorW.PrintMore
open Mort
theorem iPtOk (x y:Int):impl_PtOk.f x y=some (ptOk (x,y)):=by
 unfold impl_PtOk.f ptOk;by_cases h1:0≤x <;> by_cases h2:x≤9 <;> by_cases h3:0≤y <;> by_cases h4:y≤9 <;> simp [h1,h2,h3,h4]
theorem sPtOk (x y:Int):spec_PtOk.f x y=some (ptOk (x,y)):=by
 unfold spec_PtOk.f ptOk;simp only [l6In_told,Option.bind_some];by_cases h1:0≤x <;> by_cases h2:x≤9 <;> by_cases h3:0≤y <;> by_cases h4:y≤9 <;> simp [h1,h2,h3,h4]
theorem iSegOk (a b c d:Int):impl_SegOk.f a b c d=some (segOk ((a,b),(c,d))):=by
 unfold impl_SegOk.f segOk;simp only [iPtOk,Option.bind_some];cases ptOk (a,b) <;> cases ptOk (c,d) <;> simp [Bool.not_and]
theorem sSegOk (a b c d:Int):spec_SegOk.f a b c d=some (segOk ((a,b),(c,d))):=by
 unfold spec_SegOk.f segOk;simp only [sPtOk,Option.bind_some];cases ptOk (a,b) <;> cases ptOk (c,d) <;> simp [Bool.not_and]
section
variable {a b c d e f:Int} (h1:ptOk (a,b)=true) (h2:ptOk (c,d)=true) (h3:ptOk (e,f)=true)
include h1 h2 h3
theorem cross_nowrap:wrap64 ((wrap64 ((wrap64 (c-a))*(wrap64 (f-b))))-(wrap64 ((wrap64 (d-b))*(wrap64 (e-a)))))=cross (a,b) (c,d) (e,f):=by
 rw [ptOk_iff] at h1 h2 h3;simp only at h1 h2 h3;rw [w64 (x:=c-a) (by omega) (by omega),w64 (x:=f-b) (by omega) (by omega),w64 (x:=d-b) (by omega) (by omega),w64 (x:=e-a) (by omega) (by omega)];have b1:=mul_bound (x:=c-a) (y:=f-b) (by omega) (by omega) (by omega) (by omega);have b2:=mul_bound (x:=d-b) (y:=e-a) (by omega) (by omega) (by omega) (by omega);rw [w64 (x:=(c-a)*(f-b)) (by omega) (by omega),w64 (x:=(d-b)*(e-a)) (by omega) (by omega),w64 (by omega) (by omega)];rfl
theorem dot_nowrap:wrap64 ((wrap64 ((wrap64 (c-a))*(wrap64 (e-a))))+(wrap64 ((wrap64 (d-b))*(wrap64 (f-b)))))=dot (a,b) (c,d) (e,f):=by
 rw [ptOk_iff] at h1 h2 h3;simp only at h1 h2 h3;rw [w64 (x:=c-a) (by omega) (by omega),w64 (x:=f-b) (by omega) (by omega),w64 (x:=d-b) (by omega) (by omega),w64 (x:=e-a) (by omega) (by omega)];have b1:=mul_bound (x:=c-a) (y:=e-a) (by omega) (by omega) (by omega) (by omega);have b2:=mul_bound (x:=d-b) (y:=f-b) (by omega) (by omega) (by omega) (by omega);rw [w64 (x:=(c-a)*(e-a)) (by omega) (by omega),w64 (x:=(d-b)*(f-b)) (by omega) (by omega),w64 (by omega) (by omega)];rfl
theorem iCross:impl_cross.f a b c d e f=some (cross (a,b) (c,d) (e,f)):=congrArg some (cross_nowrap h1 h2 h3)
theorem iAlong:impl_along.f a b c d e f=some (dot (a,b) (c,d) (e,f)):=congrArg some (dot_nowrap h1 h2 h3)
theorem sCross:spec_l2Cross.f a b c d e f=some (cross (a,b) (c,d) (e,f)):=congrArg some (cross_nowrap h1 h2 h3)
theorem sDot:spec_l2Dot.f a b c d e f=some (dot (a,b) (c,d) (e,f)):=congrArg some (dot_nowrap h1 h2 h3)
end
theorem iBetween {a b c d:Int}(h1:ptOk (a,b)=true)(h2:ptOk (c,d)=true):impl_between.f a b c d=some (dot (a,b) (c,d) (c,d)):=by
 unfold impl_between.f;rw [iAlong h1 h2 h2];rfl
theorem segOk_ends {a b c d:Int}(h:segOk ((a,b),(c,d))=true):ptOk (a,b)=true∧ptOk (c,d)=true:=⟨((segOk_iff _).1 h).1,((segOk_iff _).1 h).2.1⟩
theorem iSegHas {k:Nat}(hk:1≤k)(a b c d e f:Int):impl_SegHas.f k a b c d e f=some (segHas ((a,b),(c,d)) (e,f)):=by
 obtain⟨k,rfl⟩:∃ m,k=m+1:=⟨k-1,by omega⟩;unfold impl_SegHas.f segHas has;simp only [impl_SegHas.j0,iSegOk,iPtOk,Option.bind_some]
 cases hs:segOk ((a,b),(c,d)) with
 | false=>simp
 | true =>
  cases hp:ptOk (e,f) with
  | false=>simp
  | true =>
   obtain⟨o1,o2⟩:=segOk_ends hs;simp only [if_true,iCross o1 o2 hp,iAlong o1 o2 hp,iBetween o1 o2,Option.bind_some];by_cases z:cross (a,b) (c,d) (e,f)=0
   ·
    simp only [z,bne_self_eq_false,Bool.false_eq_true,if_false,beq_self_eq_true,Bool.true_and];by_cases z1:0≤dot (a,b) (c,d) (e,f)
    ·
     rw [if_pos z1,decide_eq_true z1];rfl
    ·
     rw [if_neg z1,decide_eq_false z1];rfl
   ·
    rw [bne_iff_ne.mpr z,beq_eq_false_iff_ne.mpr z];rfl
theorem iSegTurn {k:Nat}(hk:1≤k)(a b c d e f:Int):impl_SegTurn.f k a b c d e f=some (segTurn (a,b) (c,d) (e,f)):=by
 obtain⟨k,rfl⟩:∃ m,k=m+1:=⟨k-1,by omega⟩;unfold impl_SegTurn.f segTurn;simp only [impl_SegTurn.j0,iPtOk,Option.bind_some]
 cases h1:ptOk (a,b) with
 | false=>simp
 | true =>
  cases h2:ptOk (c,d) with
  | false=>simp
  | true =>
   cases h3:ptOk (e,f) with
   | false=>simp
   | true =>
    simp only [if_true,Bool.not_true,Bool.false_eq_true,if_false,iCross h1 h2 h3,Option.bind_some,Bool.and_self];unfold sgn;by_cases z:cross (a,b) (c,d) (e,f)>0
    ·
     rw [if_pos z,if_neg (by omega),if_pos z]
    ·
     rw [if_neg z];by_cases z':cross (a,b) (c,d) (e,f)<0
     ·
      rw [if_pos z',if_pos z']
     ·
      rw [if_neg z',if_neg z',if_neg z]
theorem sgn_in (n:Int): -1≤sgn n∧sgn n≤1:=by unfold sgn;split <;> (try split) <;> omega
theorem turn_mul (x y:Int):wrap64 (sgn x*sgn y)=sgn x*sgn y:=by
 have h1:=sgn_in x;have h2:=sgn_in y;have h3:=mul_bound (x:=sgn x) (y:=sgn y) (by omega) (by omega) (by omega) (by omega);exact w64 (by omega) (by omega)
theorem iSegMeet {k:Nat}(hk:3≤k)(a b c d e f g h:Int):impl_SegMeet.f k a b c d e f g h=some (segMeet ((a,b),(c,d)) ((e,f),(g,h))):=by
 obtain⟨k,rfl⟩:∃ m,k=m+1+1:=⟨k-2,by omega⟩;unfold impl_SegMeet.f segMeet;simp only [impl_SegMeet.j0,iSegOk,Option.bind_some]
 cases hs:segOk ((a,b),(c,d)) with
 | false=>simp
 | true =>
  cases ht:segOk ((e,f),(g,h)) with
  | false=>simp
  | true =>
   obtain⟨o1,o2⟩:=segOk_ends hs;obtain⟨o3,o4⟩:=segOk_ends ht;simp only [if_true,Bool.not_true,Bool.false_eq_true,if_false,Bool.true_and];simp only [iSegHas (show 1≤k+1 by omega),iSegTurn (show 1≤k by omega),impl_SegMeet.j1,Option.bind_some,if_true];unfold segHas segTurn meet;simp only [hs,ht,o1,o2,o3,o4,Bool.true_and,Bool.and_self,if_true,turn_mul];cases has ((a,b),(c,d)) (e,f) <;> simp
   cases has ((a,b),(c,d)) (g,h) <;> simp
   cases has ((e,f),(g,h)) (a,b) <;> simp
   cases has ((e,f),(g,h)) (c,d) <;> simp
   by_cases z:sgn (cross (a,b) (c,d) (e,f))*sgn (cross (a,b) (c,d) (g,h))<0
   ·
    simp [z]
   ·
    simp [z]
theorem red_whole {n:Int}(h0:0≤n)(h1:n≤99999):red (n,1)=(n,1):=red_of_ok (fracOk_whole h0 h1)
theorem sL2Far {k:Nat}(hk:100000≤k){a b c d e f:Int}(hs:segOk ((a,b),(c,d))=true)(hp:ptOk (e,f)=true):
  spec_l2Far.f k a b c d e f=some ((red (far ((a,b),(c,d)) (e,f))).1,(red (far ((a,b),(c,d)) (e,f))).2):=by
 obtain⟨o1,o2⟩:=segOk_ends hs;have hin:=far_inR hs hp;unfold spec_l2Far.f far at *;simp only [sDot o1 o2 hp,sDot o1 o2 o2,sDot o1 hp hp,sDot o2 hp hp,sCross o1 o2 hp,Option.bind_some];by_cases z:dot (a,b) (c,d) (e,f)≤0
 ·
  rw [if_pos z,if_pos z,red_whole (dot_self_nn _ _) (by have:=(dot_bound o1 hp hp).2;omega)]
 ·
  rw [if_neg z,if_neg z];rw [if_neg z] at hin;by_cases z':dot (a,b) (c,d) (c,d)≤dot (a,b) (c,d) (e,f)
  ·
   rw [if_pos z',if_pos z',red_whole (dot_self_nn _ _) (by have:=(dot_bound o2 hp hp).2;omega)]
  ·
   rw [if_neg z',if_neg z'];rw [if_neg z'] at hin;have hc:=cross_bound o1 o2 hp;have hq:=sq_bound hc.1 hc.2;have hq':=isq_nn (cross (a,b) (c,d) (e,f));rw [w64 (by omega) (by omega),l1Of_told hk hin];rfl
theorem iFracOf {k:Nat}(hk:100000≤k){n d:Int}(h:inR (n,d)):impl_FracOf.f k n d=some ((red (n,d)).1,(red (n,d)).2,true):=by
 obtain⟨a1,a2,a3,a4⟩:=h;simp only at a1 a2 a3 a4;have hg:=gcd_pos (f:=(n,d)) ⟨a1,a2,a3,a4⟩;unfold impl_FracOf.f;rw [if_neg (by omega),if_neg (by omega),if_neg (by omega),if_neg (by omega),gcd_told' a1 (by omega) (by omega)];simp only [Option.bind_some];simp only at hg;rw [if_neg (by omega)];have e1:Int.tdiv n (Int.gcd n d:Int)=n / (Int.gcd n d:Int):=Int.tdiv_eq_ediv_of_nonneg a1;have e2:Int.tdiv d (Int.gcd n d:Int)=d / (Int.gcd n d:Int):=Int.tdiv_eq_ediv_of_nonneg (by omega);have r:=red_inR (f:=(n,d)) ⟨a1,a2,a3,a4⟩;obtain⟨r1,r2,r3,r4⟩:=r;unfold red at r1 r2 r3 r4 ⊢
 simp only at r1 r2 r3 r4 ⊢
 rw [e1,e2,w64 (by omega) (by omega),w64 (by omega) (by omega)]
theorem iFracOf1 {k:Nat}(hk:100000≤k){n:Int}(h0:0≤n)(h1:n≤99999):impl_FracOf.f k n 1=some (n,1,true):=by
 rw [iFracOf hk (d:=1) ⟨h0,h1,Int.le_refl 1,by show (1:Int)≤99999;omega⟩,red_whole h0 h1]
theorem iStandOf {a b c d e f:Int}(hs:segOk ((a,b),(c,d))=true)(hp:ptOk (e,f)=true):
  impl_standOf.f a b c d e f=some (if dot (a,b) (c,d) (e,f)≤0 then 0 else if dot (a,b) (c,d) (c,d)≤dot (a,b) (c,d) (e,f) then 2 else 1):=by
 obtain⟨o1,o2⟩:=segOk_ends hs;unfold impl_standOf.f;simp only [iAlong o1 o2 hp,iBetween o1 o2,Option.bind_some]
 split
 ·
  rfl
 ·
  simp only [ge_iff_le];split <;> rfl
theorem sSign (n:Int):spec_l2Sign.f n=some (sgn n):=by
 unfold spec_l2Sign.f sgn
 split
 ·
  rfl
 ·
  split <;> rfl
theorem sHas {a b c d e f:Int}(h1:ptOk (a,b)=true)(h2:ptOk (c,d)=true)(h3:ptOk (e,f)=true):spec_l2Has.f a b c d e f=some (has ((a,b),(c,d)) (e,f)):=by
 unfold spec_l2Has.f has;simp only [sCross h1 h2 h3,sDot h1 h2 h3,sDot h1 h2 h2,l6In_told,Option.bind_some];by_cases z:cross (a,b) (c,d) (e,f)=0
 ·
  simp [z]
 ·
  rw [if_neg z,beq_eq_false_iff_ne.mpr z];rfl
theorem sLeast {n d m q:Int}(h1:fracOk (n,d)=true)(h2:fracOk (m,q)=true):spec_l2Least.f n d m q=some ((least (n,d) (m,q)).1,(least (n,d) (m,q)).2):=by
 obtain⟨⟨a1,a2,a3,a4⟩,_⟩:=(fracOk_iff _).1 h1;obtain⟨⟨b1,b2,b3,b4⟩,_⟩:=(fracOk_iff _).1 h2;simp only at a1 a2 a3 a4 b1 b2 b3 b4;unfold spec_l2Least.f spec_l1Cmp.f least cmp0;rw [prod_wrap a1 a2 (by omega) b4,prod_wrap b1 b2 (by omega) a4];simp only;by_cases z:m*d<n*q
 ·
  rw [if_pos z,if_pos z];rfl
 ·
  rw [if_neg z,if_neg z];by_cases z':m*d>n*q
  ·
   rw [if_pos z',if_pos z'];rfl
  ·
   rw [if_neg z',if_neg z'];rfl
end Go.Proofs.YtkefmnmoaomlhaaDoor.X
end
section
namespace Go.Proofs.YtkefmnmoaomlhaaDoor.X
open Go.RowKit Go.Proofs.YtkefmnmoaomlhaaDoorW.PrintWords Go.Proofs.YtkefmnmoaomlhaaDoorW.PrintLast Go.Proofs.YtkefmnmoaomlhaaDoorW.PrintMore
attribute [local go_sem] max2_int min2_int max_two min_two max_three min_three max_four min_four
set_option linter.unusedVariables false
set_option linter.unusedSimpArgs false
def impl_joined.f (k:Nat)(a0_0:Int)(a0_1:Int)(a0_2:Int)(a0_3:Int)(a1_0:Int)(a1_1:Int)(a1_2:Int)(a1_3:Int):Option (Bool):=(impl_SegHas.f k a0_0 a0_1 a0_2 a0_3 a1_2 a1_3).bind fun t371=>(if t371=true then (some false) else ((impl_SegHas.f k a1_0 a1_1 a1_2 a1_3 a0_0 a0_1).bind fun t372=>(some (!t372))))
set_option maxHeartbeats 8000000 in
set_option maxRecDepth 100000 in
theorem impl_joined.calls (k:Nat)(a0_0:Int)(a0_1:Int)(a0_2:Int)(a0_3:Int)(a1_0:Int)(a1_1:Int)(a1_2:Int)(a1_3:Int)(r:Bool)(w:World)(h:impl_joined.f k a0_0 a0_1 a0_2 a0_3 a1_0 a1_1 a1_2 a1_3=some r):
  Calls Tryd.prog 111 #[.agg #[.int .i64 a0_0,.int .i64 a0_1,.int .i64 a0_2,.int .i64 a0_3],.agg #[.int .i64 a1_0,.int .i64 a1_1,.int .i64 a1_2,.int .i64 a1_3]] w fun e w'=>e=.returned (.bool r)∧Below w.heap.size w w':=by
 have hu61:=Tryd.underlying61;have hu28:=Tryd.underlying28;have HB:=a0_ (Below.refl w.heap.size w);have H:((impl_SegHas.f k a0_0 a0_1 a0_2 a0_3 a1_2 a1_3).bind fun t371=>(if t371=true then (some false) else ((impl_SegHas.f k a1_0 a1_1 a1_2 a1_3 a0_0 a0_1).bind fun t372=>(some (!t372)))))=some r:=h;clear h;replace H:=Option.bind_eq_some_iff.mp H;obtain⟨t371,A30,H⟩:=H
 (try dsimp only at H)
 have A3:=Aside0.mk A30;clear A30;by_cases c4:t371=true
 ·
  subst c4;rw [if_pos rfl] at H
  (try dsimp only at H)
  obtain rfl:=Option.some.inj H;go_enter Tryd.func111,Tryd.ntmps111;go_wp2_with (first | ((with_reducible refine gate_dst (N:=2) rfl ?_);refine bx_ (N:=2) (cs:=#[.int .i64 a0_0,.int .i64 a0_1,.int .i64 a0_2,.int .i64 a0_3]) (t:=61) (h:=?_);intro gb369 hg w5 hbox hb;have BK369:=a0_ (hbox);have GW369:=gh_ HB hg;have GE369:=gh_ HB hg;replace HB:=sb_ HB hb;clear hb hbox hg) | ((with_reducible refine gate_dst (N:=3) rfl ?_);refine bx_ (N:=3) (cs:=#[.int .i64 a1_0,.int .i64 a1_1,.int .i64 a1_2,.int .i64 a1_3]) (t:=61) (h:=?_);intro gb370 hg w6 hbox hb;have BK370:=a0_ (hbox);have GW370:=gh_ HB hg;have GE370:=gh_ HB hg;have NB369_370:=nl_ BK369 hg;have NB370_369:=nr_ BK369 hg;replace BK369:=vb_ BK369 hb;replace HB:=sb_ HB hb;clear hb hbox hg;have hnb7:=NB369_370.out;have hnc7:=NB370_369.out;have hcz8_0:=c40_ BK369;have hcz8_1:=c41_ BK369;have hcz8_2:=c42_ BK369;have hcz8_3:=c43_ BK369;have hfz8_0:=fz_ BK369 0;have hfz8_1:=fz_ BK369 1;have hfz8_2:=fz_ BK369 2;have hfz8_3:=fz_ BK369 3;have hcz9_0:=c40_ BK370;have hcz9_1:=c41_ BK370;have hcz9_2:=c42_ BK370;have hcz9_3:=c43_ BK370;have hfz9_0:=fz_ BK370 0;have hfz9_1:=fz_ BK370 1;have hfz9_2:=fz_ BK370 2;have hfz9_3:=fz_ BK370 3) | ((with_reducible refine gate_callee (f:=115) rfl ?_);refine gL_ (some 8) Tryd.func115 #[.agg #[.int .i64 a0_0,.int .i64 a0_1,.int .i64 a0_2,.int .i64 a0_3],.agg #[.int .i64 a1_2,.int .i64 a1_3]] (h:=?_);(with_reducible refine (impl_SegHas.calls k a0_0 a0_1 a0_2 a0_3 a1_2 a1_3 true _ A3.out).mono ?_);rintro e w10 ⟨rfl,hb⟩;refine⟨_,rfl,?_⟩;replace BK369:=vb_ BK369 hb;replace BK370:=vb_ BK370 hb;replace HB:=sb_ HB hb;(try clear hb)));go_ret;exact⟨rr_,hB_⟩
 ·
  replace c4:=Bool.eq_false_iff.mpr c4;subst c4;rw [if_neg (show ¬ (false=true) by decide)] at H
  (try dsimp only at H)
  replace H:=Option.bind_eq_some_iff.mp H;obtain⟨t372,A110,H⟩:=H
  (try dsimp only at H)
  have A11:=Aside0.mk A110;clear A110;obtain rfl:=Option.some.inj H;go_enter Tryd.func111,Tryd.ntmps111
  go_wp2_with (first | ((with_reducible refine gate_dst (N:=2) rfl ?_);refine bx_ (N:=2) (cs:=#[.int .i64 a0_0,.int .i64 a0_1,.int .i64 a0_2,.int .i64 a0_3]) (t:=61) (h:=?_);intro gb369 hg w12 hbox hb;have BK369:=a0_ (hbox);have GW369:=gh_ HB hg;have GE369:=gh_ HB hg;replace HB:=sb_ HB hb;clear hb hbox hg) | ((with_reducible refine gate_dst (N:=3) rfl ?_);refine bx_ (N:=3) (cs:=#[.int .i64 a1_0,.int .i64 a1_1,.int .i64 a1_2,.int .i64 a1_3]) (t:=61) (h:=?_);intro gb370 hg w13 hbox hb;have BK370:=a0_ (hbox);have GW370:=gh_ HB hg;have GE370:=gh_ HB hg;have NB369_370:=nl_ BK369 hg;have NB370_369:=nr_ BK369 hg;replace BK369:=vb_ BK369 hb;replace HB:=sb_ HB hb;clear hb hbox hg;have hnb14:=NB369_370.out;have hnc14:=NB370_369.out;have hcz15_0:=c40_ BK369;have hcz15_1:=c41_ BK369;have hcz15_2:=c42_ BK369;have hcz15_3:=c43_ BK369;have hfz15_0:=fz_ BK369 0;have hfz15_1:=fz_ BK369 1;have hfz15_2:=fz_ BK369 2;have hfz15_3:=fz_ BK369 3;have hcz16_0:=c40_ BK370;have hcz16_1:=c41_ BK370;have hcz16_2:=c42_ BK370;have hcz16_3:=c43_ BK370;have hfz16_0:=fz_ BK370 0;have hfz16_1:=fz_ BK370 1;have hfz16_2:=fz_ BK370 2;have hfz16_3:=fz_ BK370 3) | ((with_reducible refine gate_callee (f:=115) rfl ?_);refine gL_ (some 8) Tryd.func115 #[.agg #[.int .i64 a0_0,.int .i64 a0_1,.int .i64 a0_2,.int .i64 a0_3],.agg #[.int .i64 a1_2,.int .i64 a1_3]] (h:=?_);(with_reducible refine (impl_SegHas.calls k a0_0 a0_1 a0_2 a0_3 a1_2 a1_3 false _ A3.out).mono ?_);rintro e w17 ⟨rfl,hb⟩;refine⟨_,rfl,?_⟩;replace BK369:=vb_ BK369 hb;replace BK370:=vb_ BK370 hb;replace HB:=sb_ HB hb;(try clear hb);have hcz18_0:=c40_ BK370;have hcz18_1:=c41_ BK370;have hcz18_2:=c42_ BK370;have hcz18_3:=c43_ BK370;have hfz18_0:=fz_ BK370 0;have hfz18_1:=fz_ BK370 1;have hfz18_2:=fz_ BK370 2;have hfz18_3:=fz_ BK370 3;have hcz19_0:=c40_ BK369;have hcz19_1:=c41_ BK369;have hcz19_2:=c42_ BK369;have hcz19_3:=c43_ BK369;have hfz19_0:=fz_ BK369 0;have hfz19_1:=fz_ BK369 1;have hfz19_2:=fz_ BK369 2;have hfz19_3:=fz_ BK369 3) | (go_at_call 115;(with_reducible refine (impl_SegHas.calls k a1_0 a1_1 a1_2 a1_3 a0_0 a0_1 t372 _ A11.out).mono ?_);rintro e w20 ⟨rfl,hb⟩;replace BK369:=vb_ BK369 hb;replace BK370:=vb_ BK370 hb;replace HB:=sb_ HB hb;(try clear hb)))
  go_ret;exact⟨rr_,hB_⟩
end Go.Proofs.YtkefmnmoaomlhaaDoor.X
end
section
set_option linter.unusedVariables false
set_option linter.unusedSimpArgs false
namespace Go.Proofs.YtkefmnmoaomlhaaDoor.X
open Go.RowKit Go.Shelf Go.Proofs.YtkefmnmoaomlhaaDoorW.PrintWords Go.Proofs.YtkefmnmoaomlhaaDoorW.PrintLast Go.Proofs.YtkefmnmoaomlhaaDoorW.PrintMore
open Mort (edges loopOk pairOk ed segOk meet joined ptOk)
attribute [local go_sem] Oper.semAt_some
def mark (D:Nat):Deferred:={ target:=.collected D,args:=#[] }
theorem leavesM_marks {n:Nat}{fn:Func}{tmps:Array Value}{R:Ending→World→Prop}:∀ (Ds:List Nat) (w:World),Ds.Nodup→(∀ D∈Ds,w.heap[D]?=some (.deferred (some []))) →
  (∀ w',(∀ k,k ∉ Ds→w'.heap[k]?=w.heap[k]?)→w'.heap.size=w.heap.size→w'.os=w.os→w'.tape=w.tape→w'.output=w.output→LeavesIn Fence.wide n Tryd.prog fn tmps R [] .returning w') →
  LeavesInM Fence.wide n Tryd.prog fn tmps R (Ds.map mark) .returning w
 | [],w,_,_,h=>h w (fun _ _=>rfl) rfl rfl rfl rfl
 | D::Ds,w,hn,hD,h=>by
  have hK:=hD D List.mem_cons_self;have hlt:D<w.heap.size:=(Array.getElem?_eq_some_iff.1 hK).1;refine⟨by simp,.inl ⟨D,_,rfl,run_takeDeferred hK,?_⟩⟩;rw [List.nodup_cons] at hn;refine leavesM_marks Ds _ hn.2 (fun E hE=>?_) (fun w' h1 h2 h3 h4 h5=>h w' (fun k hk=>?_) ?_ h3 h4 h5)
  ·
   rw [World.putObj_heap_other (by rintro rfl;exact hn.1 hE)];exact hD E (List.mem_cons_of_mem _ hE)
  ·
   rw [h1 k (fun e=>hk (List.mem_cons_of_mem _ e)),World.putObj_heap_other (by rintro rfl;exact hk List.mem_cons_self)]
  ·
   rw [h2];simp [World.putObj]
theorem edges_in (n:Nat)(A:Option Addr)(len c:Nat)(w:World):
  CallsIn Fence.wide n Tryd.prog 96 #[.slice A len c] w fun e w'=>e=.returned (.func (.func 114) #[] #[.pointer (some ⟨w.heap.size,0,none⟩)])∧w'=w.alloc (.cells #[.slice A len c] 23):=by
 refine callsIn_of_wp Tryd.func96 rfl trivial ?_ rfl;simp only [Tryd.ntmps96,List.size_toArray,List.length_cons,List.length_nil,Nat.reduceAdd,Nat.reduceSub,Array.replicate_succ,Array.replicate_zero,List.push_toArray,List.append_toArray,List.nil_append,List.cons_append];gi_wp2;go_ret;exact⟨rfl,rfl⟩
theorem grown_none {A B:World}(h:Below A.heap.size A B):A.grownBy B none:=⟨h.os,h.tape,h.output,h.size,fun k hk _=>h.block k hk⟩
abbrev encE (zs:List S28) (i:Fin zs.length):Array Value:=#[.int .i64 ((i:Nat):Int),edV (edS zs i)]
theorem edges_stops (n:Nat)(hn:1≤n)(Bs n₀:Nat)(A:Option Addr)(c:Nat)(zs:List S28)(hreach:zs.length≤1000000)(hAb:∀ ad,A=some ad→ad.block<n₀)
  (w:World) (hBs:Bs<w.heap.size) (hn₀:n₀≤w.heap.size) (hc:w.cell? ⟨Bs,0,none⟩=some (.slice A zs.length c)) (hC:Kd.C k28 w A zs.length zs) :
  SeqStopsK Fence.wide n Tryd.prog 114 #[.pointer (some ⟨Bs,0,none⟩)] (encE zs) (KpE n₀ Bs) (fun ys=>ys=List.finRange zs.length)
   (fun pre=>∃ k,k≤zs.length∧pre=(List.finRange zs.length).take k) zs.length w:=fun l J Jx W hW hJ _ hY h0=>by
 have take_succ:∀ k (hk:k<zs.length),(List.finRange zs.length).take (k+1)=(List.finRange zs.length).take k++[⟨k,hk⟩]:=fun k hk=>by
  rw [List.take_succ_eq_append_getElem (by simpa using hk)];simp
 refine (edges1_in n hn l Bs n₀ A c zs hreach hAb (fun k W=>J ((List.finRange zs.length).take k) W) (fun k W=>Jx ((List.finRange zs.length).take k) W)
  (fun k X Y hj hb=>hJ _ X Y none hj (grown_none hb) (fun r e=>by cases e)) (fun k X hk hj=>?_) W (Nat.lt_of_lt_of_le hBs hW.size) (Nat.le_trans hn₀ hW.size)
  ((hW.cell (p:=⟨Bs,0,none⟩) hBs).trans hc) (Kd.C_below hC hW) (by simpa using h0)).mono ?_
 ·
  rw [take_succ k hk];exact hY _ ⟨k,hk⟩ X hj (by simp;omega)
 ·
  rintro e W' ⟨he,hj | ⟨k,hk,hj⟩⟩
  ·
   exact⟨he,.inl ⟨_,rfl,by rwa [List.take_of_length_le (by simp)] at hj⟩⟩
  ·
   exact⟨he,.inr ⟨_,⟨k,hk,rfl⟩,hj⟩⟩
theorem blk_own {β:Type}(B:Nat)(o:β→Obj)(hc:∀ s,(o s).isCells=true):Own (fun s W=>W.heap[B]?=some (o s)):=fun s X Y row hs hg hrow =>
 (hg.block B (Array.getElem?_eq_some_iff.1 hs).1 (fun e=>by obtain⟨o',ho,h'⟩:=hrow B e.symm;rw [hs] at ho;cases ho;rw [hc] at h';cases h')).trans hs
def ptP (x:S28):Mort.Pt:=(x.f0,x.f1)
def sgP (x:S61):Mort.Seg:=(ptP x.f0,ptP x.f1)
theorem ptP_getD (zs:List S28)(j:Nat):(zs.map ptP).getD j (0,0)=ptP (zs.getD j z28):=by
 rw [List.getD_eq_getElem?_getD,List.getD_eq_getElem?_getD,List.getElem?_map];cases zs[j]? <;> rfl
theorem ed_edS (zs:List S28)(j:Nat):ed (zs.map ptP) j=sgP (edS zs j):=by
 unfold ed edS sgP;rw [ptP_getD,ptP_getD,List.length_map]
theorem keeps_below {B:Nat}{W W':World}(h:Below W.heap.size W W'):KeepsFrom B W W':=
 ⟨h.size,fun k o _ hk _=>(h.block k (Array.getElem?_eq_some_iff.1 hk).1).trans hk⟩
theorem box_later {W W':World}{B:Nat}{t:TypeId}{v:Value}(h:Boxed W B t v)(hb:Below W.heap.size W W'):Boxed W' B t v:=(hb.block B h.lt).trans h
theorem below_row {n₀:Nat}{w W W':World}(h:Below n₀ w W)(hn:n₀≤w.heap.size)(hb:Below W.heap.size W W'):Below n₀ w W':=h.trans (hb.mono (Nat.le_trans hn h.size))
theorem row_lt {w:World}{A:Option Addr}{zs:List S28}(hC:Kd.C k28 w A zs.length zs)(hz:0<zs.length):∀ ad,A=some ad→ad.block<w.heap.size:=fun ad e=>by
 obtain⟨ad',e',h0,_⟩:=at_pt hC 0 hz;rw [e] at e';cases e';have:=World.block_lt_of_cell? w _ h0
 rwa [blk_add] at this
def segObj (x:S61):Obj:=.cells #[.int .i64 x.f0.f0,.int .i64 x.f0.f1,.int .i64 x.f1.f0,.int .i64 x.f1.f1] 61 (0,0)
theorem segObj_own (B:Nat)(x:S61):Own (fun (_:Unit) W=>W.heap[B]?=some (segObj x)):=blk_own B (fun _=>segObj x) (fun _=>rfl)
theorem blk_later {W w1:World}{D:Nat}{o:Obj}(h:W.heap[D]?=some o)(hb:Below W.heap.size W w1):w1.heap[D]?=some o:=(hb.block D (Array.getElem?_eq_some_iff.1 h).1).trans h
theorem blk_alloc' {W:World}{D:Nat}{o:Obj}(h:W.heap[D]?=some o)(o':Obj):(W.alloc o').heap[D]?=some o:=(Below.heap_alloc W o' D (Array.getElem?_eq_some_iff.1 h).1).trans h
theorem blk_set {W:World}{D:Nat}{o:Obj}(h:W.heap[D]?=some o)(hc:o.isCells=false){B:Nat}{t:TypeId}{v:Value}(hb:Boxed W B t v)(u:Value):(W.setCell ⟨B,0,none⟩ u).heap[D]?=some o:=
 (Below.heap_setCell W ⟨B,0,none⟩ u D (by rintro rfl;have e:=h.symm.trans hb;cases e;cases hc)).trans h
theorem ownFrom_blk {β:Type}{B D:Nat}{o:Obj}(hD:D<B):OwnFrom B (fun (_:β) W=>W.heap[D]?=some o):=fun _ X Y row hs hg hr =>
 (hg.block D (Array.getElem?_eq_some_iff.1 hs).1 (fun e=>by have:=(hr D e.symm).1;omega)).trans hs
theorem ownFrom_kpE {β:Type}{n₀ Bs B:Nat}{w₀:World}(hB:w₀.heap.size≤B):OwnFrom B (fun (_:β) W=>KpE n₀ Bs w₀ W):=fun _ X Y row hs hg hr =>
 ⟨Nat.le_trans hs.1 hg.size,fun k hk hl=>(hg.block k (Nat.lt_of_lt_of_le hl hs.1) (fun e=>by have:=(hr k e.symm).1;omega)).trans (hs.2 k hk hl)⟩
theorem marks_boxed {W w':World}{Ds:List Nat}{B:Nat}{t:TypeId}{v:Value}(h:Boxed W B t v)(hD:∀ D∈Ds,W.heap[D]?=some (.deferred (some [])))(h1:∀ k,k ∉ Ds→w'.heap[k]?=W.heap[k]?):Boxed w' B t v:=
 (h1 B (fun e=>by have:=(hD B e).symm.trans h;cases this)).trans h
theorem marks_below {n₀:Nat}{w W w':World}{Ds:List Nat}(hB:Below n₀ w W)(hD:∀ D∈Ds,n₀≤D)(h1:∀ k,k ∉ Ds→w'.heap[k]?=W.heap[k]?)(h2:w'.heap.size=W.heap.size)(h3:w'.os=W.os)(h4:w'.tape=W.tape)(h5:w'.output=W.output):Below n₀ w w':=
 hB.trans ⟨h3,h4,h5,by omega,fun k hk=>h1 k (fun e=>by have:=hD k e;omega)⟩
theorem below_step_ {W w1 w2:World}(h:Below W.heap.size W w1)(k:Below w1.heap.size w1 w2):Below W.heap.size W w2:=h.trans (k.mono h.size)
theorem box_other {W:World}{B B':Nat}{t:TypeId}{v:Value}(h:Boxed W B t v)(hne:B≠B')(u:Value):Boxed (W.setCell ⟨B',0,none⟩ u) B t v:=Boxed.other h hne u
theorem blk_other {W:World}{D B':Nat}{o:Obj}(h:W.heap[D]?=some o)(hne:D≠B')(u:Value):(W.setCell ⟨B',0,none⟩ u).heap[D]?=some o:=(Below.heap_setCell W ⟨B',0,none⟩ u D hne).trans h
end Go.Proofs.YtkefmnmoaomlhaaDoor.X
end
section
set_option linter.unusedVariables false
namespace Mort
def crsI (e:Seg)(p:Pt):Bool:=
 (decide (e.1.2≤p.2) && (decide (p.2<e.2.2) && decide (0<cross e.1 e.2 p))) || (decide (e.2.2≤p.2) && (decide (p.2<e.1.2) && decide (cross e.1 e.2 p<0)))
theorem rc_cast (a b p:Pt):rc a.1 a.2 b.1 b.2 p.1 p.2=((cross a b p:Int):Rat):=by
 rw [cast_cross];rfl
theorem crsI_eq (e:Seg)(p:Pt):crsQ e.1.1 e.1.2 e.2.1 e.2.2 p.1 p.2=crsI e p:=by
 unfold crsQ crsI;rw [rc_cast e.1 e.2 p];have h1:decide ((e.1.2:Rat)≤(p.2:Rat))=decide (e.1.2≤p.2):=by rw [decide_eq_decide];exact cast_le
 have h2:decide ((p.2:Rat)<(e.2.2:Rat))=decide (p.2<e.2.2):=by rw [decide_eq_decide];exact cast_lt
 have h3:decide ((e.2.2:Rat)≤(p.2:Rat))=decide (e.2.2≤p.2):=by rw [decide_eq_decide];exact cast_le
 have h4:decide ((p.2:Rat)<(e.1.2:Rat))=decide (p.2<e.1.2):=by rw [decide_eq_decide];exact cast_lt
 have h5:decide (0<((cross e.1 e.2 p:Int):Rat))=decide (0<cross e.1 e.2 p):=by
  rw [decide_eq_decide];have:=@cast_lt 0 (cross e.1 e.2 p);simpa using this
 have h6:decide (((cross e.1 e.2 p:Int):Rat)<0)=decide (cross e.1 e.2 p<0):=by
  rw [decide_eq_decide];have:=@cast_lt (cross e.1 e.2 p) 0;simpa using this
 rw [h1,h2,h3,h4,h5,h6]
def sideOf (b:Bool):Int:=if b then 1 else -1
def inRun (es:List Seg)(p:Pt):Int:=sideOf (xorAll (es.map fun e=>crsI e p))
theorem inRun_snoc (es:List Seg)(e:Seg)(p:Pt):inRun (es++[e]) p=if crsI e p then-inRun es p else inRun es p:=by
 unfold inRun sideOf;rw [List.map_append,xorAll_append];cases xorAll (es.map fun e=>crsI e p) <;> cases h:crsI e p <;> simp [xorAll,h]
theorem inRun_end {l:List Pt}{p:Pt}(h:∀ e∈edges l,has e p=false):inRun (edges l) p=inOf l p:=by
 unfold inOf inRun sideOf par;rw [(onB_false l p).2 h];have:((edges l).map fun e=>crsQ e.1.1 e.1.2 e.2.1 e.2.2 p.1 p.2)=(edges l).map fun e=>crsI e p:=List.map_congr_left fun e _=>crsI_eq e p
 rw [this];cases xorAll ((edges l).map fun e=>crsI e p) <;> rfl
theorem inOf_on {l:List Pt}{p:Pt}{e:Seg}(he:e∈edges l)(h:has e p=true):inOf l p=0:=(inOf_zero l p).2 ((onB_iff l p).2 ⟨e,he,h⟩)
theorem edges_eq (l:List Pt):edges l=(List.range l.length).map (ed l):=by
 apply List.ext_getElem?;intro i;by_cases h:i<l.length
 ·
  rw [edges_getElem? l i h];simp [h]
 ·
  rw [List.getElem?_eq_none (by rw [edges_length];omega),List.getElem?_eq_none (by simp;omega)]
end Mort
end
section
set_option linter.unusedVariables false
set_option linter.unusedSimpArgs false
namespace Go.Proofs.YtkefmnmoaomlhaaDoor.X
open Go.RowKit Go.Proofs.YtkefmnmoaomlhaaDoorW.PrintWords Go.Proofs.YtkefmnmoaomlhaaDoorW.PrintLast Go.Proofs.YtkefmnmoaomlhaaDoorW.PrintMore
def esOf (z:List S28):List S61:=(List.range z.length).map (edS z)
theorem w64i {x:Int}(h : -9223372036854775808≤x)(h':x≤9223372036854775807):wrap64 x=x:=by unfold wrap64;omega
theorem sEdges_l0 (z:List S28)(hz:z.length≤1000000):∀ (m i k:Nat) (acc:List S61),z.length-i=m→i≤z.length→m<k→acc.length≤i→spec_l3Edges.l0 k z acc (i:Int)=some (acc++(List.range' i m).map (edS z)):=by
 intro m
 induction m with
 | zero =>
  intro i k acc hm hi hk ha;obtain⟨k,rfl⟩:∃ j,k=j+1:=⟨k-1,by omega⟩;simp only [spec_l3Edges.l0];rw [if_neg (by omega)];simp
 | succ m ih =>
  intro i k acc hm hi hk ha;obtain⟨k,rfl⟩:∃ j,k=j+1:=⟨k-1,by omega⟩;simp only [spec_l3Edges.l0];have hw:wrap64 ((i:Int)+1)=((i+1:Nat):Int):=by rw [w64i (by omega) (by omega)];rfl
  have ht:Int.tmod ((i+1:Nat):Int) (z.length:Int)=(((i+1) % z.length:Nat):Int):=rfl;have hlt:=Nat.mod_lt (i+1) (show 0<z.length by omega);rw [if_pos (by omega),if_pos (by omega),if_neg (by omega),hw,ht,if_pos (by omega),if_pos (by omega),if_pos (by omega)];rw [ih (i+1) k _ (by omega) (by omega) (by omega) (by simp;omega),List.range'_succ,List.map_cons,List.append_assoc];rfl
theorem sEdges {z:List S28}(hz:z.length≤1000000){k:Nat}(hk:z.length<k):spec_l3Edges.f k z=some (esOf z):=by
 unfold spec_l3Edges.f esOf;rw [show (0:Int)=((0:Nat):Int) from rfl,sEdges_l0 z hz z.length 0 k [] (by omega) (by omega) hk (by simp),List.range_eq_range'];simp
theorem esOf_len (z:List S28):(esOf z).length=z.length:=by simp [esOf]
theorem esOf_getD (z:List S28){i:Nat}(h:i<z.length):(esOf z).getD i z61=edS z i:=by
 rw [List.getD_eq_getElem?_getD,List.getElem?_eq_getElem (by rw [esOf_len];exact h)];simp [esOf]
theorem esOf_edges (z:List S28):(esOf z).map sgP=Mort.edges (z.map ptP):=by
 rw [Mort.edges_eq,List.length_map];unfold esOf;rw [List.map_map];refine List.map_congr_left fun i _=>?_
 rw [ed_edS];rfl
end Go.Proofs.YtkefmnmoaomlhaaDoor.X
end
