/- FnPlateShift: the law returns true for every input, and each input reads behind the call as before; part 2 of 6. No condition. Merged by program out of: Squeeze, Is, Err, Laid, K, HEdges, Geo, FImplCommonDivisor, HFrac, FSpecL1Gcd, State, FSpecL6RdPick, EvFrac. -/
import Derived.Test.YtkefmnmoaomlhaaDoorMFnPlateShift1
import Derived.WalkKit
import Derived.LaidEql
import Derived.Stop.Asserts
import Derived.RowKitTokens
import Derived.Test.YtkefmnmoaomlhaaDoorChecked
import Derived.ChangeSame
import Derived.ChangeVars
import Derived.JoinedOf
import Derived.RowKit
import Derived.LaidLaws
import Derived.Stop.ErrReads
import Derived.Stop.LaidErr
import Derived.WalkSmall
import Derived.Test.YtkefmnmoaomlhaaDoorRows
import Derived.Test.YtkefmnmoaomlhaaDoorCards
import Derived.Test.YtkefmnmoaomlhaaDoorTie
import Derived.Below
import Derived.Deep.Draws
import Derived.Deep.AppendLies
import Derived.Maps.AppendAt
import Derived.OwnWalk
import Derived.Laws.BytesArg
import Derived.Laws.MakeOwn
import Derived.Laws.OwnMore
import Derived.Deep.OwnRows
import Derived.Tactics
import Derived.Lib.ConvBytes
import Derived.Laws.Slices
import Derived.KernelRfl
import Derived.RowKit3
import Derived.Deep.LoopGhost
import Derived.Deep.QuietTactic
import Derived.BigQuiet
import Derived.WideLaws
import Derived.Deep.DeepCutAuto
import Derived.Deep.CutBlock
import Derived.Deep.RegionHeld3
import Derived.Laws.Rows
import Derived.Lib.AppendStr
import Derived.ArgAppend
import Derived.Laws.IdiomCopy
import Derived.OrdersHeld
import Derived.Laws.BitsLemmas
import Derived.Test.YtkefmnmoaomlhaaDoorProg
import Derived.RangeFuncNested
import Derived.RangeFuncBound
import Derived.RangeFuncLeaves
import Derived.Shelf.Abstract
import Derived.OwnWalkIn
import Derived.TacticsInMore
import Derived.LoopNIn
import Derived.LoopIn
import Derived.BigRegionIn
import Derived.Stop.RegionWithIn
import Derived.IntWalk
import Derived.RegionTactic
import Derived.ChangeAlike
import Derived.Outline
import Derived.Deep.RegionWith
import Derived.WalkLawsBesides
import Derived.Laws.Bits64
import Derived.LaidEqlPtr
import Derived.BigRegion
import Derived.BigGuard
import Derived.Deep.Cut
import Derived.SizedLaws
import Derived.ChangeSlices
import Derived.ProofKit
import Derived.OpenShut
import Derived.ShutString
import Derived.ChangeOld
import Derived.SevenTiedAt
set_option linter.all false
section
set_option linter.unusedVariables false
namespace Go.Proofs.YtkefmnmoaomlhaaDoor.X
open Go.RowKit Go.Proofs.YtkefmnmoaomlhaaDoorW.PrintWords Go.Proofs.YtkefmnmoaomlhaaDoorW.PrintLast Go.Proofs.YtkefmnmoaomlhaaDoorW.PrintMore
theorem uq_ {P:Prop}(h:P:=by (with_reducible repeat (first | refine blk_drewN ?_ _ | refine blk_drew ?_ | refine blk_alloc ?_ _));refine Aside0.out ?_;assumption):P:=h
theorem hB_ {P:Prop}(h:P:=by repeat (first | (with_reducible first | exact HB.out | apply below_alloc | apply pw_below_drewN | apply below_drew1 | refine below_set ?_ (Aside0.out (by assumption))) | exact HB.out)):P:=h
theorem ma_ {P:Prop}(h:P:=by (try simp only [List.map_toArray,List.map_cons,List.map_nil]);first | done | rfl | (simp only [List.length_drop,List.length_take];rfl)):P:=h
theorem bc_ {w:World}{g i:Nat}{t:TypeId}{cs:Array Value}{v:Value}(h:w.heap[g]?=some (.cells cs t (0,0)):=by refine Aside0.out ?_;assumption)(e:cs[i]?=some v:=by rfl):w.cell? ⟨g,i,none⟩=some v:=(blk_cell h i).trans e
def bmL:Nat→Nat→List Bool
  | 0,_=>[]
  | n+1,m=>(m % 2==1)::bmL n (m / 2)
def bm (n m:Nat):Array Bool:=⟨bmL n m⟩
theorem pu_ {P:Program}{ops:Array Oper}{Q:Exit→Act→World→Prop}{md:Region.Mode}{S:World→Prop}{ds:List Nat}{T:Bool × List (List Nat × List Nat)}{oi:Oper}{v:Value}{fuel:Nat}{l:Array Bool}{a a':Act}{w:World}(HT:Aside0 (rtab md ops=T))(i N:Nat)(l':Array Bool)(h:wpAnyLast P md ops Q S ds fuel l' a' w)(hi:ops[i]?=some oi:=by rfl)(hN:oi.dst=some N:=by rfl)(hc:anyT T l.toList l'.toList i=true:=by kernel_rfl)(hw:Region.wanted oi (yielded ops a.tmps)=true:=by rfl)(hr:∀ w',(execOp a.eval oi).run P w'=.ok (.value v) w':=by (intro w';go_simp;with_reducible rfl))(ha:a.put (some N) v=a':=by (simp only [Act.put,List.setIfInBounds_toArray,List.set_cons_zero,List.set_cons_succ,i64_w,i32_w];rfl))(hQ:∀ c a w,Q (.panic c) (a.put oi.dst v) w→Q (.panic c) a w:=by exact fun _ _ _ h=>h):wpAnyLast P md ops Q S ds (fuel+1) l a w:=pure_ l' hi hN (any_of HT.out hc) hQ (Or.inl ⟨hw,hr⟩) ha h
theorem pv_ {P:Program}{ops:Array Oper}{Q:Exit→Act→World→Prop}{md:Region.Mode}{S:World→Prop}{ds:List Nat}{oi:Oper}{v:Value}{fuel:Nat}{l:Array Bool}{a a':Act}{w:World}(i N:Nat)(l':Array Bool)(h:wpAnyLast P md ops Q S ds fuel l' a' w)(hi:ops[i]?=some oi:=by rfl)(hN:oi.dst=some N:=by rfl)(hc:anyB md ops l l' i=true:=by kernel_rfl)(hw:Region.wanted oi (yielded ops a.tmps)=true:=by rfl)(hr:∀ w',(execOp a.eval oi).run P w'=.ok (.value v) w':=by (intro w';go_simp;with_reducible rfl))(ha:a.put (some N) v=a':=by (simp only [Act.put,List.setIfInBounds_toArray,List.set_cons_zero,List.set_cons_succ,i64_w,i32_w];rfl))(hQ:∀ c a w,Q (.panic c) (a.put oi.dst v) w→Q (.panic c) a w:=by exact fun _ _ _ h=>h):wpAnyLast P md ops Q S ds (fuel+1) l a w:=pure_ l' hi hN hc hQ (Or.inl ⟨hw,hr⟩) ha h
theorem pz_ {P:Program}{ops:Array Oper}{Q:Exit→Act→World→Prop}{md:Region.Mode}{S:World→Prop}{ds:List Nat}{T:Bool × List (List Nat × List Nat)}{oi:Oper}{fuel:Nat}{l:Array Bool}{a a':Act}{w:World}(HT:Aside0 (rtab md ops=T))(i N:Nat)(l':Array Bool)(h:wpAnyLast P md ops Q S ds fuel l' a' w)(hi:ops[i]?=some oi:=by rfl)(hN:oi.dst=some N:=by rfl)(hc:anyT T l.toList l'.toList i=true:=by kernel_rfl)(hw:Region.wanted oi (yielded ops a.tmps)=false:=by rfl)(ha:a.put (some N) undef=a':=by (simp only [Act.put,List.setIfInBounds_toArray,List.set_cons_zero,List.set_cons_succ,i64_w,i32_w];rfl))(hQ:∀ c a w,Q (.panic c) (a.put oi.dst undef) w→Q (.panic c) a w:=by exact fun _ _ _ h=>h):wpAnyLast P md ops Q S ds (fuel+1) l a w:=pure_ l' hi hN (any_of HT.out hc) hQ (Or.inr ⟨hw,rfl⟩) ha h
theorem ta2_ {P:Program}{ops:Array Oper}{Q:Exit→Act→World→Prop}{md:Region.Mode}{S:World→Prop}{ds:List Nat}{T:Bool × List (List Nat × List Nat)}{B:List Nat}{oi:Oper}{v:Value}{fuel:Nat}{l:Array Bool}{a a':Act}{w:World}(HT:Aside0 (rtab md ops=T))(HW:Aside0 (waitsOk T.2 B=true))(i N:Nat)(l':Array Bool)(hS:S w)(h:wpAnyLast P md ops Q S ds fuel l' a' w)(hi:ops[i]?=some oi:=by rfl)(hN:oi.dst=some N:=by rfl)(hc:takeW T B ds l.toList l'.toList i=true:=by kernel_rfl)(hw:Region.wanted oi (yielded ops a.tmps)=true:=by rfl)(hr:∀ w',S w'→(execOp a.eval oi).run P w'=.ok (.value v) w':=by (rintro w' ⟨s0,s1⟩;go_simp;with_reducible rfl))(ha:a.put (some N) v=a':=by (simp only [Act.put,List.setIfInBounds_toArray,List.set_cons_zero,List.set_cons_succ,i64_w,i32_w];rfl))(hQ:∀ c a w,Q (.panic c) (a.put oi.dst v) w→Q (.panic c) a w:=by exact fun _ _ _ h=>h):wpAnyLast P md ops Q S ds (fuel+1) l a w:=take_ l' hi hN (take_ofW HT.out HW.out hc) hQ (Or.inl ⟨hw,hr⟩) hS ha h
theorem ta3_ {P:Program}{ops:Array Oper}{Q:Exit→Act→World→Prop}{md:Region.Mode}{S:World→Prop}{ds:List Nat}{T:Bool × List (List Nat × List Nat)}{B:List Nat}{oi:Oper}{v:Value}{fuel:Nat}{l:Array Bool}{a a':Act}{w:World}(HT:Aside0 (rtab md ops=T))(HW:Aside0 (waitsOk T.2 B=true))(i N:Nat)(l':Array Bool)(hS:S w)(h:wpAnyLast P md ops Q S ds fuel l' a' w)(hi:ops[i]?=some oi:=by rfl)(hN:oi.dst=some N:=by rfl)(hc:takeW T B ds l.toList l'.toList i=true:=by kernel_rfl)(hw:Region.wanted oi (yielded ops a.tmps)=true:=by rfl)(hr:∀ w',S w'→(execOp a.eval oi).run P w'=.ok (.value v) w':=by (rintro w' ⟨s0,s1,s2⟩;go_simp;with_reducible rfl))(ha:a.put (some N) v=a':=by (simp only [Act.put,List.setIfInBounds_toArray,List.set_cons_zero,List.set_cons_succ,i64_w,i32_w];rfl))(hQ:∀ c a w,Q (.panic c) (a.put oi.dst v) w→Q (.panic c) a w:=by exact fun _ _ _ h=>h):wpAnyLast P md ops Q S ds (fuel+1) l a w:=take_ l' hi hN (take_ofW HT.out HW.out hc) hQ (Or.inl ⟨hw,hr⟩) hS ha h
theorem ta4_ {P:Program}{ops:Array Oper}{Q:Exit→Act→World→Prop}{md:Region.Mode}{S:World→Prop}{ds:List Nat}{T:Bool × List (List Nat × List Nat)}{B:List Nat}{oi:Oper}{v:Value}{fuel:Nat}{l:Array Bool}{a a':Act}{w:World}(HT:Aside0 (rtab md ops=T))(HW:Aside0 (waitsOk T.2 B=true))(i N:Nat)(l':Array Bool)(hS:S w)(h:wpAnyLast P md ops Q S ds fuel l' a' w)(hi:ops[i]?=some oi:=by rfl)(hN:oi.dst=some N:=by rfl)(hc:takeW T B ds l.toList l'.toList i=true:=by kernel_rfl)(hw:Region.wanted oi (yielded ops a.tmps)=true:=by rfl)(hr:∀ w',S w'→(execOp a.eval oi).run P w'=.ok (.value v) w':=by (rintro w' ⟨s0,s1,s2,s3⟩;go_simp;with_reducible rfl))(ha:a.put (some N) v=a':=by (simp only [Act.put,List.setIfInBounds_toArray,List.set_cons_zero,List.set_cons_succ,i64_w,i32_w];rfl))(hQ:∀ c a w,Q (.panic c) (a.put oi.dst v) w→Q (.panic c) a w:=by exact fun _ _ _ h=>h):wpAnyLast P md ops Q S ds (fuel+1) l a w:=take_ l' hi hN (take_ofW HT.out HW.out hc) hQ (Or.inl ⟨hw,hr⟩) hS ha h
theorem tb4_ {P:Program}{ops:Array Oper}{Q:Exit→Act→World→Prop}{md:Region.Mode}{S:World→Prop}{ds:List Nat}{oi:Oper}{v:Value}{fuel:Nat}{l:Array Bool}{a a':Act}{w:World}(i N:Nat)(l':Array Bool)(hS:S w)(h:wpAnyLast P md ops Q S ds fuel l' a' w)(hi:ops[i]?=some oi:=by rfl)(hN:oi.dst=some N:=by rfl)(hc:takeB md ops ds l l' i=true:=by kernel_rfl)(hw:Region.wanted oi (yielded ops a.tmps)=true:=by rfl)(hr:∀ w',S w'→(execOp a.eval oi).run P w'=.ok (.value v) w':=by (rintro w' ⟨s0,s1,s2,s3⟩;go_simp;with_reducible rfl))(ha:a.put (some N) v=a':=by (simp only [Act.put,List.setIfInBounds_toArray,List.set_cons_zero,List.set_cons_succ,i64_w,i32_w];rfl))(hQ:∀ c a w,Q (.panic c) (a.put oi.dst v) w→Q (.panic c) a w:=by exact fun _ _ _ h=>h):wpAnyLast P md ops Q S ds (fuel+1) l a w:=take_ l' hi hN hc hQ (Or.inl ⟨hw,hr⟩) hS ha h
theorem ta6_ {P:Program}{ops:Array Oper}{Q:Exit→Act→World→Prop}{md:Region.Mode}{S:World→Prop}{ds:List Nat}{T:Bool × List (List Nat × List Nat)}{B:List Nat}{oi:Oper}{v:Value}{fuel:Nat}{l:Array Bool}{a a':Act}{w:World}(HT:Aside0 (rtab md ops=T))(HW:Aside0 (waitsOk T.2 B=true))(i N:Nat)(l':Array Bool)(hS:S w)(h:wpAnyLast P md ops Q S ds fuel l' a' w)(hi:ops[i]?=some oi:=by rfl)(hN:oi.dst=some N:=by rfl)(hc:takeW T B ds l.toList l'.toList i=true:=by kernel_rfl)(hw:Region.wanted oi (yielded ops a.tmps)=true:=by rfl)(hr:∀ w',S w'→(execOp a.eval oi).run P w'=.ok (.value v) w':=by (rintro w' ⟨s0,s1,s2,s3,s4,s5⟩;go_simp;with_reducible rfl))(ha:a.put (some N) v=a':=by (simp only [Act.put,List.setIfInBounds_toArray,List.set_cons_zero,List.set_cons_succ,i64_w,i32_w];rfl))(hQ:∀ c a w,Q (.panic c) (a.put oi.dst v) w→Q (.panic c) a w:=by exact fun _ _ _ h=>h):wpAnyLast P md ops Q S ds (fuel+1) l a w:=take_ l' hi hN (take_ofW HT.out HW.out hc) hQ (Or.inl ⟨hw,hr⟩) hS ha h
theorem tb6_ {P:Program}{ops:Array Oper}{Q:Exit→Act→World→Prop}{md:Region.Mode}{S:World→Prop}{ds:List Nat}{oi:Oper}{v:Value}{fuel:Nat}{l:Array Bool}{a a':Act}{w:World}(i N:Nat)(l':Array Bool)(hS:S w)(h:wpAnyLast P md ops Q S ds fuel l' a' w)(hi:ops[i]?=some oi:=by rfl)(hN:oi.dst=some N:=by rfl)(hc:takeB md ops ds l l' i=true:=by kernel_rfl)(hw:Region.wanted oi (yielded ops a.tmps)=true:=by rfl)(hr:∀ w',S w'→(execOp a.eval oi).run P w'=.ok (.value v) w':=by (rintro w' ⟨s0,s1,s2,s3,s4,s5⟩;go_simp;with_reducible rfl))(ha:a.put (some N) v=a':=by (simp only [Act.put,List.setIfInBounds_toArray,List.set_cons_zero,List.set_cons_succ,i64_w,i32_w];rfl))(hQ:∀ c a w,Q (.panic c) (a.put oi.dst v) w→Q (.panic c) a w:=by exact fun _ _ _ h=>h):wpAnyLast P md ops Q S ds (fuel+1) l a w:=take_ l' hi hN hc hQ (Or.inl ⟨hw,hr⟩) hS ha h
theorem tb7_ {P:Program}{ops:Array Oper}{Q:Exit→Act→World→Prop}{md:Region.Mode}{S:World→Prop}{ds:List Nat}{oi:Oper}{v:Value}{fuel:Nat}{l:Array Bool}{a a':Act}{w:World}(i N:Nat)(l':Array Bool)(hS:S w)(h:wpAnyLast P md ops Q S ds fuel l' a' w)(hi:ops[i]?=some oi:=by rfl)(hN:oi.dst=some N:=by rfl)(hc:takeB md ops ds l l' i=true:=by kernel_rfl)(hw:Region.wanted oi (yielded ops a.tmps)=true:=by rfl)(hr:∀ w',S w'→(execOp a.eval oi).run P w'=.ok (.value v) w':=by (rintro w' ⟨s0,s1,s2,s3,s4,s5,s6⟩;go_simp;with_reducible rfl))(ha:a.put (some N) v=a':=by (simp only [Act.put,List.setIfInBounds_toArray,List.set_cons_zero,List.set_cons_succ,i64_w,i32_w];rfl))(hQ:∀ c a w,Q (.panic c) (a.put oi.dst v) w→Q (.panic c) a w:=by exact fun _ _ _ h=>h):wpAnyLast P md ops Q S ds (fuel+1) l a w:=take_ l' hi hN hc hQ (Or.inl ⟨hw,hr⟩) hS ha h
theorem ta8_ {P:Program}{ops:Array Oper}{Q:Exit→Act→World→Prop}{md:Region.Mode}{S:World→Prop}{ds:List Nat}{T:Bool × List (List Nat × List Nat)}{B:List Nat}{oi:Oper}{v:Value}{fuel:Nat}{l:Array Bool}{a a':Act}{w:World}(HT:Aside0 (rtab md ops=T))(HW:Aside0 (waitsOk T.2 B=true))(i N:Nat)(l':Array Bool)(hS:S w)(h:wpAnyLast P md ops Q S ds fuel l' a' w)(hi:ops[i]?=some oi:=by rfl)(hN:oi.dst=some N:=by rfl)(hc:takeW T B ds l.toList l'.toList i=true:=by kernel_rfl)(hw:Region.wanted oi (yielded ops a.tmps)=true:=by rfl)(hr:∀ w',S w'→(execOp a.eval oi).run P w'=.ok (.value v) w':=by (rintro w' ⟨s0,s1,s2,s3,s4,s5,s6,s7⟩;go_simp;with_reducible rfl))(ha:a.put (some N) v=a':=by (simp only [Act.put,List.setIfInBounds_toArray,List.set_cons_zero,List.set_cons_succ,i64_w,i32_w];rfl))(hQ:∀ c a w,Q (.panic c) (a.put oi.dst v) w→Q (.panic c) a w:=by exact fun _ _ _ h=>h):wpAnyLast P md ops Q S ds (fuel+1) l a w:=take_ l' hi hN (take_ofW HT.out HW.out hc) hQ (Or.inl ⟨hw,hr⟩) hS ha h
theorem ta9_ {P:Program}{ops:Array Oper}{Q:Exit→Act→World→Prop}{md:Region.Mode}{S:World→Prop}{ds:List Nat}{T:Bool × List (List Nat × List Nat)}{B:List Nat}{oi:Oper}{v:Value}{fuel:Nat}{l:Array Bool}{a a':Act}{w:World}(HT:Aside0 (rtab md ops=T))(HW:Aside0 (waitsOk T.2 B=true))(i N:Nat)(l':Array Bool)(hS:S w)(h:wpAnyLast P md ops Q S ds fuel l' a' w)(hi:ops[i]?=some oi:=by rfl)(hN:oi.dst=some N:=by rfl)(hc:takeW T B ds l.toList l'.toList i=true:=by kernel_rfl)(hw:Region.wanted oi (yielded ops a.tmps)=true:=by rfl)(hr:∀ w',S w'→(execOp a.eval oi).run P w'=.ok (.value v) w':=by (rintro w' ⟨s0,s1,s2,s3,s4,s5,s6,s7,s8⟩;go_simp;with_reducible rfl))(ha:a.put (some N) v=a':=by (simp only [Act.put,List.setIfInBounds_toArray,List.set_cons_zero,List.set_cons_succ,i64_w,i32_w];rfl))(hQ:∀ c a w,Q (.panic c) (a.put oi.dst v) w→Q (.panic c) a w:=by exact fun _ _ _ h=>h):wpAnyLast P md ops Q S ds (fuel+1) l a w:=take_ l' hi hN (take_ofW HT.out HW.out hc) hQ (Or.inl ⟨hw,hr⟩) hS ha h
theorem ta16_ {P:Program}{ops:Array Oper}{Q:Exit→Act→World→Prop}{md:Region.Mode}{S:World→Prop}{ds:List Nat}{T:Bool × List (List Nat × List Nat)}{B:List Nat}{oi:Oper}{v:Value}{fuel:Nat}{l:Array Bool}{a a':Act}{w:World}(HT:Aside0 (rtab md ops=T))(HW:Aside0 (waitsOk T.2 B=true))(i N:Nat)(l':Array Bool)(hS:S w)(h:wpAnyLast P md ops Q S ds fuel l' a' w)(hi:ops[i]?=some oi:=by rfl)(hN:oi.dst=some N:=by rfl)(hc:takeW T B ds l.toList l'.toList i=true:=by kernel_rfl)(hw:Region.wanted oi (yielded ops a.tmps)=true:=by rfl)(hr:∀ w',S w'→(execOp a.eval oi).run P w'=.ok (.value v) w':=by (rintro w' ⟨s0,s1,s2,s3,s4,s5,s6,s7,s8,s9,s10,s11,s12,s13,s14,s15⟩;go_simp;with_reducible rfl))(ha:a.put (some N) v=a':=by (simp only [Act.put,List.setIfInBounds_toArray,List.set_cons_zero,List.set_cons_succ,i64_w,i32_w];rfl))(hQ:∀ c a w,Q (.panic c) (a.put oi.dst v) w→Q (.panic c) a w:=by exact fun _ _ _ h=>h):wpAnyLast P md ops Q S ds (fuel+1) l a w:=take_ l' hi hN (take_ofW HT.out HW.out hc) hQ (Or.inl ⟨hw,hr⟩) hS ha h
theorem no_ {P:Program}{ops:Array Oper}{Q:Exit→Act→World→Prop}{md:Region.Mode}{S:World→Prop}{ds:List Nat}{fuel:Nat}{l:Array Bool}{a a':Act}{w:World}(ha:a=a':=by (show Act.put _ (some _) _=_;simp only [Act.put,List.setIfInBounds_toArray,List.set_cons_zero,List.set_cons_succ,i64_w,i32_w];rfl))(h:wpAnyLast P md ops Q S ds fuel l a' w):wpAnyLast P md ops Q S ds fuel l a w:=norm_ ha h
theorem bx_ {P:Program}{ops:Array Oper}{rest:List Oper}{o:Oper}{a:Act}{Q:Exit→Act→World→Prop}{W:World}{N:Tmp}{cs:Array Value}{t:TypeId}(hgd:o.guard=none:=by rfl)(hd:o.dst=some N:=by rfl)
    (hr:(execOp a.eval o).run P W=.ok (.value (.pointer (some ⟨W.heap.size,0,none⟩))) (W.alloc (.cells cs t (0,0))):=by first | (go_simp;done) | (go_simp;rfl))
    (h:∀ g,g=W.heap.size→∀ w1,w1.heap[g]?=some (.cells cs t (0,0))→Below W.heap.size W w1→wpList P ops Q rest (a.put o.dst (.pointer (some ⟨g,0,none⟩))) w1):wpList P ops Q (o::rest) a W:=box_event hgd hd hr h
theorem hK_ {w W W':World}{g:Nat}{row row':Option Nat}(_:Aside0 (KeepBut w W g row'))(h:KeepBut w W' g row:=by repeat (first | (with_reducible first | exact HK.out | apply KeepBut.set_ | apply keep_drewN | apply keep_drew | apply keep_alloc | refine keep_far ?_ (Aside0.out (by assumption)) _) | exact HK.out)):KeepBut w W' g row:=h
theorem a0_ {P:Prop}(h:P):Aside0 P:=⟨h⟩
theorem ce_ {w W:World}{p:Addr}{v:Value}(HB:Aside0 (Below w.heap.size w W))(h:w.cell? p=some v):W.cell? p=some v:=pw_cell_below HB.out h
theorem od_ {p:Prop}[Decidable p](h:decide p=true:=by first | (with_reducible assumption) | assumption):p:=of_decide_eq_true h
theorem rr_ {P:Prop}(h:P:=by first | rfl | (simp [errW_none,errW_some] <;> rfl) | (simp [*,errW_none,errW_some] <;> rfl)):P:=h
theorem gw_ {w W W':World}{g gb:Nat}{row':Option Nat}(_:Aside0 (KeepBut w W g row'))(hg:gb=W'.heap.size)(h:KeepBut w W' g none:=by repeat (first | (with_reducible first | exact HK.out | apply KeepBut.set_ | apply keep_drewN | apply keep_drew | apply keep_alloc | refine keep_far ?_ (Aside0.out (by assumption)) _) | exact HK.out)):Aside0 (w.heap.size≤gb):=⟨by rw [hg];exact h.1⟩
theorem gh_ {w W W':World}{gb:Nat}(_:Aside0 (Below w.heap.size w W))(hg:gb=W'.heap.size)(h:Below w.heap.size w W':=by repeat (first | (with_reducible first | exact HB.out | apply below_alloc | apply pw_below_drewN | apply below_drew1 | refine below_set ?_ (Aside0.out (by assumption))) | exact HB.out)):Aside0 (w.heap.size≤gb):=⟨by rw [hg];exact below_size h⟩
theorem nl_ {W W':World}{g gb:Nat}{o:Obj}(_:Aside0 (W.heap[g]?=some o))(hg:gb=W'.heap.size)(h:W'.heap[g]?=some o:=by (with_reducible repeat (first | refine blk_drewN ?_ _ | refine blk_drew ?_ | refine blk_alloc ?_ _));refine Aside0.out ?_;assumption):Aside0 (g≠gb):=⟨by rw [hg];exact Nat.ne_of_lt (blk_lt h)⟩
theorem nr_ {W W':World}{g gb:Nat}{o:Obj}(_:Aside0 (W.heap[g]?=some o))(hg:gb=W'.heap.size)(h:W'.heap[g]?=some o:=by (with_reducible repeat (first | refine blk_drewN ?_ _ | refine blk_drew ?_ | refine blk_alloc ?_ _));refine Aside0.out ?_;assumption):Aside0 (gb≠g):=⟨by rw [hg];exact Nat.ne_of_gt (blk_lt h)⟩
theorem c20_ {W:World}{g t:Nat}{x y:Value}(h:Aside0 (W.heap[g]?=some (.cells #[x,y] t (0,0)))):W.cell? ⟨g,0,none⟩=some x:=(blk_cell h.out 0).trans rfl
theorem c21_ {W:World}{g t:Nat}{x y:Value}(h:Aside0 (W.heap[g]?=some (.cells #[x,y] t (0,0)))):W.cell? ⟨g,1,none⟩=some y:=(blk_cell h.out 1).trans rfl
theorem c40_ {W:World}{g t:Nat}{x y u v:Value}(h:Aside0 (W.heap[g]?=some (.cells #[x,y,u,v] t (0,0)))):W.cell? ⟨g,0,none⟩=some x:=(blk_cell h.out 0).trans rfl
theorem c41_ {W:World}{g t:Nat}{x y u v:Value}(h:Aside0 (W.heap[g]?=some (.cells #[x,y,u,v] t (0,0)))):W.cell? ⟨g,1,none⟩=some y:=(blk_cell h.out 1).trans rfl
theorem c42_ {W:World}{g t:Nat}{x y u v:Value}(h:Aside0 (W.heap[g]?=some (.cells #[x,y,u,v] t (0,0)))):W.cell? ⟨g,2,none⟩=some u:=(blk_cell h.out 2).trans rfl
theorem c43_ {W:World}{g t:Nat}{x y u v:Value}(h:Aside0 (W.heap[g]?=some (.cells #[x,y,u,v] t (0,0)))):W.cell? ⟨g,3,none⟩=some v:=(blk_cell h.out 3).trans rfl
theorem sb_ {w W W' w':World}(_:Aside0 (Below w.heap.size w W))(hb:Below W'.heap.size W' w')(h:Below w.heap.size w W':=by repeat (first | (with_reducible first | exact HB.out | apply below_alloc | apply pw_below_drewN | apply below_drew1 | refine below_set ?_ (Aside0.out (by assumption))) | exact HB.out)):Aside0 (Below w.heap.size w w'):=⟨below_step h hb⟩
theorem kb_ {w W W' w':World}{g:Nat}{row':Option Nat}(_:Aside0 (KeepBut w W g row'))(hb:Below W'.heap.size W' w')(h:KeepBut w W' g none:=by repeat (first | (with_reducible first | exact HK.out | apply KeepBut.set_ | apply keep_drewN | apply keep_drew | apply keep_alloc | refine keep_far ?_ (Aside0.out (by assumption)) _) | exact HK.out)):Aside0 (KeepBut w w' g none):=⟨KeepBut.trans h (KeepBut.of_below hb g none) (.inl rfl)⟩
theorem kk_ {w W W' w':World}{g:Nat}{row':Option Nat}(_:Aside0 (KeepBut w W g row'))(hk:KeepBut W' w' g none)(h:KeepBut w W' g none:=by repeat (first | (with_reducible first | exact HK.out | apply KeepBut.set_ | apply keep_drewN | apply keep_drew | apply keep_alloc | refine keep_far ?_ (Aside0.out (by assumption)) _) | exact HK.out)):Aside0 (KeepBut w w' g none):=⟨KeepBut.trans h hk (.inl rfl)⟩
theorem rb_ {α:Type}{d:Kd α}{e b:Nat}{w W' w':World}{ok:Nat→Prop}{u:Value}{xs:List α}(_:Aside0 (d.R e w b ok u xs))(hb:Below W'.heap.size W' w')(h:d.R e W' b ok u xs:=by (with_reducible repeat (first | apply Kd.R_alloc | apply Kd.R_drewN | apply Kd.R_drew));refine Aside0.out ?_;assumption):Aside0 (d.R e w' b ok u xs):=⟨Kd.R_below h hb⟩
theorem fz_ {W:World}{g t:Nat}{cs:Array Value}(h:Aside0 (W.heap[g]?=some (.cells cs t (0,0))))(i:Nat):W.frozen? ⟨g,i,none⟩=false:=blk_frozen h.out i
theorem gL_ {P:Program}{ops:Array Oper}{Q:Exit→Act→World→Prop}{rest:List Oper}{oi:Oper}{a:Act}{w:World}(N:Option Tmp){f:FuncId}{fn:Func}{as0:Array Operand}{ts:Array TypeId}(hf:P.funcs[f]?=some fn)(args:Array Value)(hd:oi.dst=N:=by rfl)(hg:oi.guard=none:=by rfl)(hname:(fn.name == "runtime.NumGoroutine")=false:=by kernel_rfl) (hb:fn.body.isSome=true:=by rfl)
    (hop:oi.op=.call { callee:=.value (.func f),args:=as0,argTypes:=ts }:=by rfl) (hargs:as0.map a.eval=args:=by (try simp only [List.map_toArray,List.map_cons,List.map_nil]);first | done | rfl | (simp only [List.length_drop,List.length_take];rfl))
    (h:Calls P f args w fun e w'=>∃ v,e=.returned v∧wpList P ops Q rest (a.put N v) w'):wpList P ops Q (oi::rest) a w:=goesL_ N hd hg hf hname hb args hop hargs h
theorem vb_ {W W' w':World}{g:Nat}{o:Obj}(_:Aside0 (W.heap[g]?=some o))(hb:Below W'.heap.size W' w')(h:W'.heap[g]?=some o:=by (with_reducible repeat (first | refine blk_drewN ?_ _ | refine blk_drew ?_ | refine blk_alloc ?_ _));refine Aside0.out ?_;assumption):Aside0 (w'.heap[g]?=some o):=⟨blk_below h hb⟩
theorem uf_ {P:Prop}(h:P:=by (repeat (first | (with_reducible refine blk_drewN ?_ _) | (with_reducible refine blk_drew ?_) | (with_reducible refine blk_alloc ?_ _) | (with_reducible refine blk_far ?_ (Aside0.out (by assumption)) _)));refine Aside0.out ?_;assumption):P:=h
theorem uR_ {α:Type}{d:Kd α}{e b:Nat}{w w':World}{ok:Nat→Prop}{u:Value}{xs:List α}(_:Aside0 (d.R e w b ok u xs))(h:d.R e w' b ok u xs:=by (with_reducible repeat (first | apply Kd.R_alloc | apply Kd.R_drewN | apply Kd.R_drew));refine Aside0.out ?_;assumption):d.R e w' b ok u xs:=h
theorem uN_ {α:Type}{d:Kd α}{e b:Nat}{w w':World}{ok:Nat→Prop}{u:Value}{xs:List α}(_:Aside0 (Kd.N d e w b ok u xs))(h:Kd.N d e w' b ok u xs:=by (with_reducible repeat (first | apply Kd.N_alloc | apply Kd.N_drewN | apply Kd.N_drew));refine Aside0.out ?_;assumption):Kd.N d e w' b ok u xs:=h
end Go.Proofs.YtkefmnmoaomlhaaDoor.X
end
section
set_option linter.unusedVariables false
namespace Go.Proofs.YtkefmnmoaomlhaaDoor
open Go.RowKit Go.Extern.Stop Go.Stop Go.Extern
theorem isTypeOf (v:Value)(w:World):(Extern.ReflectliteType.typeOf #[.iface 156 v]).run Tryd.prog w=.ok (.iface 145 (.agg #[.pointer (some ⟨1,156,none⟩)])) w:=by kernel_rfl
def cmpExt:Array Value→Sem Value:=Extern.ReflectliteType.method fun t=>do Extern.Rtype.noPackHeld "Comparable" t;pure (.bool (← typeInfo t).comparable)
theorem isComparable (w:World):(cmpExt #[.agg #[.pointer (some ⟨1,156,none⟩)]]).run Tryd.prog w=.ok (.bool true) w:=by kernel_rfl
theorem isMethodComparable (v:Value)(w:World):(Go.method 296 145 v "Comparable").run Tryd.prog w=.ok (143,v) w:=by kernel_rfl
theorem isComp:(Tryd.prog.info? 156).map (·.comparable)=some true:=by kernel_rfl
theorem isSize:(Tryd.prog.info? 184).map (·.size)=some 1:=by kernel_rfl
set_option maxRecDepth 100000 in
theorem is_same (a:Addr)(w:World):
  Calls Tryd.prog 61 #[.iface 156 (.pointer (some a)),.iface 156 (.pointer (some a))] w fun e w'=>e=.returned (.bool true)∧w=w':=by
 obtain⟨i,hi,hcmp⟩:=Option.map_eq_some_iff.1 isComp;obtain⟨j,hj,hjs⟩:=Option.map_eq_some_iff.1 isSize;have h8:=@run_callFunc_extern Tryd.prog 103 _ Extern.ReflectliteType.typeOf Tryd.func103 (by kernel_rfl) (by kernel_rfl) (by kernel_rfl) (by kernel_rfl);have h32:=@run_callFunc_extern Tryd.prog 143 _ cmpExt Tryd.func143 (by kernel_rfl) (by kernel_rfl) (by kernel_rfl) (by kernel_rfl);have tT:=isTypeOf;have cT:=isComparable;have mR:=isMethodComparable;have heq:=run_eql_iface_ptr_same (P:=Tryd.prog) w a Tryd.underlying87 Tryd.underlying156 hi hcmp hj;go_enter Tryd.func61,Tryd.ntmps61;go_wp2;refine wp_loop_rounds 1 ?_;rw [rounds_succ];go_wp2;go_ret;exact⟨rfl,rfl⟩
theorem is_nil (b:Addr)(w:World):
  Calls Tryd.prog 61 #[.nilIface,.iface 156 (.pointer (some b))] w fun e w'=>e=.returned (.bool false)∧w=w':=by
 have hn:=run_eql_iface_nil_left (P:=Tryd.prog) w 156 (.pointer (some b)) Tryd.underlying87;go_enter Tryd.func61,Tryd.ntmps61;go_wp2;go_ret;exact⟨rfl,rfl⟩
end Go.Proofs.YtkefmnmoaomlhaaDoor
end
section
set_option linter.unusedVariables false
namespace Go.Proofs.YtkefmnmoaomlhaaDoor
open Go.RowKit Go.Proofs.YtkefmnmoaomlhaaDoorW.PrintWords
def ErrW (w:World):Prop:=∃ a:Addr,w.cell? ⟨0,0,none⟩=some (.iface 156 (.pointer (some a)))
theorem ErrW.below {w w':World}(h:ErrW w)(hb:Below w.heap.size w w'):ErrW w':=by
 obtain⟨a,ha⟩:=h;exact⟨a,pw_cell_below hb ha⟩
end Go.Proofs.YtkefmnmoaomlhaaDoor
end
section
set_option linter.unusedVariables false
namespace Go.Proofs.YtkefmnmoaomlhaaDoor
open Go.ChangeShapes Go.WideShapes Go.RowKit Go.Proofs.YtkefmnmoaomlhaaDoorW.PrintWords
theorem own:ownKnob Tryd.prog.godebug=none:=by kernel_rfl
theorem errGlobal:Tryd.prog.globalNamed "loop.example/mortiser/impl.errNoFrac" = some 0:=by kernel_rfl
theorem errType:(Tryd.prog.globals[0]?).map (·.type)=some 87:=by kernel_rfl
theorem errCells:Tryd.prog.cellsOf 184=1:=by kernel_rfl
theorem strCells:Tryd.prog.cellsOf 9=1:=by kernel_rfl
theorem errStar : "*" ++ "errors.errorString" = "*errors.errorString" := by decide
theorem errRow (u:TypeId)(h:Tryd.prog.typeName? 3 u=some "*errors.errorString"):u=156:=
 typeName_ptr_named (nm := "errors.errorString") (by rw [errStar];kernel_rfl) (by kernel_rfl) (by decide) u (by rw [errStar];exact h)
abbrev laidErr:List (String × DataW Unit):=[("loop.example/mortiser/impl.errNoFrac",Rows.laid_loop_example_mortiser_impl_errNoFrac)]
theorem err_of_laid {W:World}(h:laidMet Tryd.prog laidErr W):
  ∃ (a:Addr) (s:ByteArray),W.var? Tryd.prog "loop.example/mortiser/impl.errNoFrac" = some #[.iface 156 (.pointer (some a))]∧W.cell? a=some (.string s)∧s.data.toList=[110,111,32,102,114,97,99,116,105,111,110]∧s.size≤maxLen:=
 laid_sentinel h errGlobal errType Tryd.underlying87 errRow Tryd.underlying156 Tryd.underlying184 rfl rfl Tryd.underlying9 errCells strCells
theorem ErrW.of_var {W:World}{a:Addr}(h:W.var? Tryd.prog "loop.example/mortiser/impl.errNoFrac" = some #[.iface 156 (.pointer (some a))]):ErrW W:=
 ⟨a,by simpa using World.var?_cell errGlobal h 0⟩
theorem errBelow {W W':World}{cs:Array Value}(hb:Below W.heap.size W W')(h:W.var? Tryd.prog "loop.example/mortiser/impl.errNoFrac" = some cs):W'.var? Tryd.prog "loop.example/mortiser/impl.errNoFrac" = some cs:=by
 have hlt:0<W.heap.size:=by
  rcases Nat.lt_or_ge 0 W.heap.size with h' | h'
  ·
   exact h'
  ·
   unfold World.var? at h;rw [errGlobal] at h;simp [Array.getElem?_eq_none h'] at h
 exact var?_below hb errGlobal hlt h
abbrev errS:ByteArray:={ data:=#[110,111,32,102,114,97,99,116,105,111,110] }
noncomputable def low:Nat:=(World.holding Tryd.prog default ⟨#[],#[],[]⟩).heap.size
noncomputable def laidWorld (os:Os):World:=
 let w0:=World.holding Tryd.prog os ⟨#[.cells #[.string errS] 184],#[],[]⟩
 { w0 with heap:=w0.heap.modify 0 fun
   | .cells _ t frozen=>.cells #[.iface 156 (.pointer (some ⟨low,0,none⟩))] t frozen
   | o=>o }
theorem laidWorld_met (os:Os)(args:Array Value):laidMet Tryd.prog laidErr ((laidWorld os).forCall (fun _ _=>0) ⟨#[],args,[]⟩).memory:=
 laidMet_of_run (ps:=[.cell 0 0,.cell low 0]) 8 (by kernel_rfl) (by kernel_rfl) (by kernel_rfl)
theorem errVars {H:Type}(enc:TypeId × Value→H){W:World}{x:Value}(h:W.var? Tryd.prog "loop.example/mortiser/impl.errNoFrac" = some #[x]) (ix:IsIface x) (sp:Nat→Bool) :
  DataW.TrodVars enc Tryd.prog W sp ["loop.example/mortiser/impl.errNoFrac"] [tok enc x] [.cell 0 0]:=
 vars_read1 enc errGlobal errType Tryd.underlying87 h ix sp
theorem laidOut:laidOutB Tryd.prog=true:=by kernel_rfl
end Go.Proofs.YtkefmnmoaomlhaaDoor
end
section
namespace Go.Proofs.YtkefmnmoaomlhaaDoor.X
open Go.RowKit Go.Proofs.YtkefmnmoaomlhaaDoorW.PrintWords Go.Proofs.YtkefmnmoaomlhaaDoorW.PrintLast Go.Proofs.YtkefmnmoaomlhaaDoorW.PrintMore
attribute [local go_sem] max2_int min2_int max_two min_two max_three min_three max_four min_four
set_option linter.unusedVariables false
set_option linter.unusedSimpArgs false
def errW:Option Int→Value
 | none=>.nilIface
 | some c=>.iface 0 (.int .i64 c)
theorem errW_none:errW none=.nilIface:=rfl
theorem errW_some (c:Int):errW (some c)=.iface 0 (.int .i64 c):=rfl
theorem info5:(Tryd.prog.info? 5).map (fun i=>(i.zero,i.size,i.bytes))=some (some (.int .u8 0),1,1):=by kernel_rfl
theorem info23:(Tryd.prog.info? 23).map (fun i=>(i.zero,i.size,i.bytes))=some (some (.slice none 0 0),1,24):=by kernel_rfl
theorem info28:(Tryd.prog.info? 28).map (fun i=>(i.zero,i.size,i.bytes))=some (some (.agg #[(.int .i64 0),(.int .i64 0)]),2,16):=by kernel_rfl
theorem info61:(Tryd.prog.info? 61).map (fun i=>(i.zero,i.size,i.bytes))=some (some (.agg #[(.int .i64 0),(.int .i64 0),(.int .i64 0),(.int .i64 0)]),4,32):=by kernel_rfl
structure S28 where
 f0:Int
 f1:Int
def z28:S28:=⟨(0:Int),(0:Int)⟩
def k28:Kd S28:=Kd.iso (Kd.pair (Kd.int .i64) (Kd.int .i64)) (fun x:S28=>(x.f0,x.f1))
theorem k28_open {w:World}{x:S28}{cs:List Value}(h:k28.K w x cs):cs=[.int .i64 x.f0,.int .i64 x.f1]:=by
 obtain⟨_,_,rfl,rfl,rfl⟩:=h;exact rfl
theorem k28_openM {w:World}{base:Nat}{ok:Nat→Prop}{x:S28}{cs:List Value}(h:k28.M w base ok x cs):cs=[.int .i64 x.f0,.int .i64 x.f1]:=by
 obtain⟨_,_,rfl,rfl,rfl⟩:=h;exact rfl
theorem k28_mkM (w:World)(base:Nat)(ok:Nat→Prop)(x:S28)  : k28.M w base ok x [.int .i64 x.f0,.int .i64 x.f1]:=⟨[.int .i64 x.f0],[.int .i64 x.f1],rfl,rfl,rfl⟩
def rd_T28 (xs:List S28)(i:Int):S28:=xs.getD i.toNat z28
theorem at_T28 {w:World}{A:Option Addr}{n:Nat}{xs:List S28}(h:Kd.C k28 w A n xs)(i:Int)(h0:0≤i)(h1:i<n):∃ ad ,A=some ad∧w.cell? (ad.add (i.toNat*2))=some (.int .i64 (rd_T28 xs i).f0)∧w.cell? ⟨(ad.add (i.toNat*2)).block,(ad.add (i.toNat*2)).off+1,none⟩=some (.int .i64 (rd_T28 xs i).f1):=by
 obtain⟨ad,c,e,_,hK,hc0⟩:=Kd.C_get h z28 i h0 h1;have hc:∀ j u,c[j]?=some u→w.cell? (ad.add (i.toNat*2+j))=some u:=hc0;obtain rfl:=k28_open hK;exact⟨ad,e,hc 0 _ rfl,by rw [← add_field _ _ 1 (by omega)];exact hc 1 _ rfl⟩
structure S61 where
 f0:S28
 f1:S28
def z61:S61:=⟨z28,z28⟩
def k61:Kd S61:=Kd.iso (Kd.pair k28 k28) (fun x:S61=>(x.f0,x.f1))
theorem k61_open {w:World}{x:S61}{cs:List Value}(h:k61.K w x cs):cs=[.int .i64 x.f0.f0,.int .i64 x.f0.f1,.int .i64 x.f1.f0,.int .i64 x.f1.f1]:=by
 obtain⟨_,_,rfl,s0,s2⟩:=h;obtain rfl:=k28_open s0;obtain rfl:=k28_open s2;exact rfl
theorem k61_mkM (w:World)(base:Nat)(ok:Nat→Prop)(x:S61)  : k61.M w base ok x [.int .i64 x.f0.f0,.int .i64 x.f0.f1,.int .i64 x.f1.f0,.int .i64 x.f1.f1]:=⟨[.int .i64 x.f0.f0,.int .i64 x.f0.f1],[.int .i64 x.f1.f0,.int .i64 x.f1.f1],rfl,(k28_mkM w base ok x.f0 ),(k28_mkM w base ok x.f1 )⟩
def rd_T61 (xs:List S61)(i:Int):S61:=xs.getD i.toNat z61
theorem at_T61 {w:World}{A:Option Addr}{n:Nat}{xs:List S61}(h:Kd.C k61 w A n xs)(i:Int)(h0:0≤i)(h1:i<n):∃ ad ,A=some ad∧w.cell? (ad.add (i.toNat*4))=some (.int .i64 (rd_T61 xs i).f0.f0)∧w.cell? ⟨(ad.add (i.toNat*4)).block,(ad.add (i.toNat*4)).off+1,none⟩=some (.int .i64 (rd_T61 xs i).f0.f1)∧w.cell? ⟨(ad.add (i.toNat*4)).block,(ad.add (i.toNat*4)).off+2,none⟩=some (.int .i64 (rd_T61 xs i).f1.f0)∧w.cell? ⟨(ad.add (i.toNat*4)).block,(ad.add (i.toNat*4)).off+3,none⟩=some (.int .i64 (rd_T61 xs i).f1.f1):=by
 obtain⟨ad,c,e,_,hK,hc0⟩:=Kd.C_get h z61 i h0 h1;have hc:∀ j u,c[j]?=some u→w.cell? (ad.add (i.toNat*4+j))=some u:=hc0;obtain rfl:=k61_open hK;exact⟨ad,e,hc 0 _ rfl,by rw [← add_field _ _ 1 (by omega)];exact hc 1 _ rfl,by rw [← add_field _ _ 2 (by omega)];exact hc 2 _ rfl,by rw [← add_field _ _ 3 (by omega)];exact hc 3 _ rfl⟩
def rd_L5 (xs:List (List S28))(i:Int):(List S28):=xs.getD i.toNat ([]:List S28)
theorem at_L5 {w:World}{A:Option Addr}{n:Nat}{xs:List (List S28)}(h:Kd.C (Kd.slice 28 k28) w A n xs)(i:Int)(h0:0≤i)(h1:i<n):∃ ad A0 c0,A=some ad∧w.cell? (ad.add i.toNat)=some (.slice A0 (rd_L5 xs i).length c0)∧(rd_L5 xs i).length≤c0∧k28.C w A0 (rd_L5 xs i).length (rd_L5 xs i):=by
 obtain⟨ad,c,e,_,hK,hc0⟩:=Kd.C_get h ([]:List S28) i h0 h1;have hc:∀ j u,c[j]?=some u→w.cell? (ad.add (i.toNat*1+j))=some u:=hc0;obtain⟨A0,c0,rfl,l0,g0⟩:=hK;exact⟨ad,A0,c0,e,by have hq:=hc 0 _ rfl;rwa [Nat.mul_one,Nat.add_zero] at hq,l0,g0⟩
def spec_l3Edges.l0:Nat→List (S28)→List (S61)→Int→Option ((List (S61)))
 | 0,_,_,_=>none
 | k+1,x0,x3,x4=>if x4<(x0.length:Int) then (if 0≤x4 then (if (x0.length:Int)=0 then (none) else (if 0≤(Int.tmod (wrap64 (x4+1)) (x0.length:Int)) then (if (Int.tmod (wrap64 (x4+1)) (x0.length:Int))<(x0.length:Int) then (if x3.length<4398046511104 then (spec_l3Edges.l0 k x0 (x3++[(⟨(⟨(rd_T28 x0 x4).f0,(rd_T28 x0 x4).f1⟩:S28),(⟨(rd_T28 x0 (Int.tmod (wrap64 (x4+1)) (x0.length:Int))).f0,(rd_T28 x0 (Int.tmod (wrap64 (x4+1)) (x0.length:Int))).f1⟩:S28)⟩:S61)]) (wrap64 (x4+1))) else (none)) else (none)) else (none))) else (none)) else (some x3)
def spec_l3Edges.f (k:Nat)(l0:List (S28)):Option ((List (S61))):=spec_l3Edges.l0 k l0 (([]:List (S61))) 0
def spec_l3Edges.T5:Bool × List (List Nat × List Nat):=(true,[([],[]),([],[]),([],[]),([1,2],[1,2]),([3],[3]),([],[]),([],[]),([6],[6]),([],[]),([8],[8]),([7,9],[7,9]),([5,10],[5,10]),([11],[11]),([4,12],[4,12]),([13],[13]),([0,14],[0,14]),([15,15,0,1,2,3,4,5,6,7,8,9,10,11,12,13,14,15],[0,15])])
def spec_l3Edges.B5:List Nat:=[0,0,0,6,14,0,0,64,0,256,960,2016,4064,8190,16382,32767,65535]
theorem spec_l3Edges.tab5:rtab .any (opsOf Tryd.f98 5)=spec_l3Edges.T5:=by kernel_rfl
theorem spec_l3Edges.bits5:waitsOk spec_l3Edges.T5.2 spec_l3Edges.B5=true:=by kernel_rfl
set_option maxHeartbeats 8000000 in
set_option maxRecDepth 100000 in
theorem spec_l3Edges.calls (k:Nat)(A0:Option Addr)(c0:Nat)(l0:List (S28))(r:List (S61))(w:World)(hr0:Kd.C k28 w A0 l0.length l0)(hc0:l0.length≤c0)(h:spec_l3Edges.f k l0=some r):
  Calls Tryd.prog 98 #[.slice A0 l0.length c0] w fun e w'=>∃ v0_:Value,e=.returned (v0_)∧Kd.R k61 61 w' w.heap.size (fun _=>True) v0_ r∧Below w.heap.size w w':=by
 have hu28:=Tryd.underlying28;have hu61:=Tryd.underlying61;have HR0:=Aside0.mk hr0;have HC0:=Aside0.mk hc0;clear hr0 hc0;have HB:=a0_ (Below.refl w.heap.size w);have H:(spec_l3Edges.l0 k l0 (([]:List (S61))) 0)=some r:=h;clear h;obtain⟨y127,hy127⟩:∃ y_:List (S61),y_=(([]:List (S61))):=⟨_,rfl⟩;replace H:(spec_l3Edges.l0 k l0 y127 0)=some r:=by first | (rw [hy127];with_reducible exact H) | (have H2_:=(Option.bind_some _ _).symm.trans H;rw [hy127];with_reducible exact H2_) | (have H2_:=(Option.bind_some _ _).symm.trans H;with_reducible exact H2_) | with_reducible exact H | (rw [hy127];exact H) | exact H
 have Ny127:=Aside0.mk hy127;clear hy127;have H':=Aside0.mk H;clear H;go_enter Tryd.func98,Tryd.ntmps98;go_wp2_with (first | ((with_reducible refine gate_dst (N:=5) rfl ?_);refine Kd.R_lit k61 _ 61 ?hg (N:=5) ?hd (xs:=([]:List (S61))) (inner:=[]) (ok:=fun _=>True) (okp:=fun _=>True) ?hr ?hp (fun _ hk=>hk) trivial (Below.refl _ _) (Nat.le_refl _) (by simp) ?_;(case hd=>rfl);(case hg=>rfl);(case hr=>first | (go_simp;done) | (go_simp;rfl));(case hp=>exact (Reps.none _ _));intro v128 w2 ho3 hb hg_ hnew_;clear hg_ hnew_;(first | rw [← Ny127.out] at ho3 | (simp only [Int.reduceToNat] at ho3;rw [← Ny127.out] at ho3));have HO129:=a0_ (Kd.R_lower ho3 (below_size hB_));replace HB:=sb_ HB hb;clear hb ho3));go_loopg [3,4] k (fun kq v3 v4 w'=>∃ (x3_1:List (S61)) (x4_1:Int),v4=.int .i64 x4_1∧Aside0 (spec_l3Edges.l0 kq l0 x3_1 x4_1=some r)∧Aside0 (kq≤k)∧Aside0 (Kd.R k61 61 w' w.heap.size (fun _=>True) v3 x3_1)∧Aside0 (Below w.heap.size w w'))
 case atStart=>exact⟨(y127),(0),(by first | rfl | (simp;done) | (simp [*];done)),H',⟨Nat.le_refl _⟩,⟨by (with_reducible repeat (first | apply Kd.R_alloc | apply Kd.R_drewN | apply Kd.R_drew));exact HO129.out⟩,⟨hB_⟩⟩
 case round =>
  clear H';obtain⟨x3_1,x4_1,rfl,HA,HK1,HO_3,HB⟩:=hrel
  cases gk with
  | zero=>exact absurd HA.out (by simp [spec_l3Edges.l0])
  | succ k1 =>
   have H:=HA.out;clear HA;simp only [spec_l3Edges.l0] at H;by_cases c4:x4_1<(l0.length:Int)
   ·
    rw [if_pos c4] at H;have c4b0:decide (x4_1<(l0.length:Int))=true:=decide_eq_true c4;clear c4;by_cases c5:0≤x4_1
    ·
     rw [if_pos c5] at H;have c5b0:decide (0≤x4_1)=true:=decide_eq_true c5;clear c5;by_cases c6:(l0.length:Int)=0
     ·
      rw [if_pos c6] at H;exact absurd H (by simp)
     ·
      rw [if_neg c6] at H;have c6b0:((l0.length:Int)==0)=false:=beq_eq_false_iff_ne.mpr c6;have c6b1:((l0.length:Int) != 0)=true:=bne_iff_ne.mpr c6;have c6b2:¬ (l0=[]):=fun h_=>c6 (by rw [h_];rfl)
      obtain⟨ji7,hji7⟩:∃ j_:Int,(Int.tmod (wrap64 (x4_1+1)) (l0.length:Int))=j_:=⟨_,rfl⟩;replace H:(if 0≤(ji7) then (if (ji7)<(l0.length:Int) then (if x3_1.length<4398046511104 then (spec_l3Edges.l0 k1 l0 (x3_1++[(⟨(⟨(rd_T28 l0 x4_1).f0,(rd_T28 l0 x4_1).f1⟩:S28),(⟨(rd_T28 l0 (ji7)).f0,(rd_T28 l0 (ji7)).f1⟩:S28)⟩:S61)]) (wrap64 (x4_1+1))) else (none)) else (none)) else (none))=some r:=by first | (rw [hji7] at H;exact H) | (simp only [hji7] at H ⊢;exact H)
      by_cases c8:0≤(ji7)
      ·
       rw [if_pos c8] at H;have c8b0:decide (0≤(ji7))=true:=decide_eq_true c8;clear c8;by_cases c9:(ji7)<(l0.length:Int)
       ·
        rw [if_pos c9] at H;have c9b0:decide ((ji7)<(l0.length:Int))=true:=decide_eq_true c9;clear c9;by_cases c10:x3_1.length<4398046511104
        ·
         rw [if_pos c10] at H;have LMc10:=Aside0.mk c10;clear c10;obtain⟨y132,hy132⟩:∃ y_:List (S61),y_=(x3_1++[(⟨(⟨(rd_T28 l0 x4_1).f0,(rd_T28 l0 x4_1).f1⟩:S28),(⟨(rd_T28 l0 (ji7)).f0,(rd_T28 l0 (ji7)).f1⟩:S28)⟩:S61)]):=⟨_,rfl⟩;replace H:(spec_l3Edges.l0 k1 l0 y132 (wrap64 (x4_1+1)))=some r:=by first | (rw [hy132];with_reducible exact H) | (have H2_:=(Option.bind_some _ _).symm.trans H;rw [hy132];with_reducible exact H2_) | (have H2_:=(Option.bind_some _ _).symm.trans H;with_reducible exact H2_) | with_reducible exact H | (rw [hy132];exact H) | exact H
         have Ny132:=Aside0.mk hy132;clear hy132;have H':=Aside0.mk H;clear H
         try go_wp2
         replace HO_3:=a0_ (Kd.R_drew HO_3.out);replace HB:=a0_ (below_drew1 HB.out);have p130:0≤(x4_1:Int):=od_;have q130:x4_1<(l0.length:Int):=od_;obtain⟨ad130,e130,hx130_0,hx130_1⟩:=at_T28 HR0.out x4_1 p130 q130;have hw130_1:=hx130_1;have hw130_0:=hx130_0;cases e130;replace hx130_0:=ce_ HB hx130_0;replace hx130_1:=ce_ HB hx130_1;replace p130:=eq_true p130;replace q130:=eq_true q130;have p131:0≤((ji7):Int):=od_;have q131:(ji7)<(l0.length:Int):=od_;obtain⟨ad131,e131,hx131_0,hx131_1⟩:=at_T28 HR0.out (ji7) p131 q131;have hw131_1:=hx131_1;have hw131_0:=hx131_0;obtain rfl:ad130=ad131:=(by injection e131);replace hx131_0:=ce_ HB hx131_0;replace hx131_1:=ce_ HB hx131_1;replace p131:=eq_true p131;replace q131:=eq_true q131;refine start_ (n:=17) (S:=fun w'=>w'.cell? (ad130.add ((x4_1).toNat*2))=some (.int .i64 ((rd_T28 l0 x4_1).f0))∧w'.cell? ⟨(ad130.add ((x4_1).toNat*2)).block,(ad130.add ((x4_1).toNat*2)).off+1,none⟩=some (.int .i64 ((rd_T28 l0 x4_1).f1))∧w'.cell? (ad130.add (((ji7)).toNat*2))=some (.int .i64 ((rd_T28 l0 (ji7)).f0))∧w'.cell? ⟨(ad130.add (((ji7)).toNat*2)).block,(ad130.add (((ji7)).toNat*2)).off+1,none⟩=some (.int .i64 ((rd_T28 l0 (ji7)).f1))) (ds:=[]) (Array.replicate 17 false) (by kernel_rfl) rfl rfl ⟨(ce_ HB hw130_0),(ce_ HB hw130_1),(ce_ HB hw131_0),(ce_ HB hw131_1)⟩ (fun hHeld=>?_);refine with_tabW spec_l3Edges.tab5 spec_l3Edges.bits5 (fun HT_ HW_=>?_);generalize wr.drew=w11 at HO_3 HB hx130_0 hx130_1 hx131_0 hx131_1 hHeld ⊢
         refine pu_ HT_ 0 12 (bm 17 1) ?_;refine pu_ HT_ 1 13 (bm 17 3) ?_;refine pu_ HT_ 2 14 (bm 17 7) ?_;refine pu_ HT_ 3 15 (bm 17 15) ?_;refine pu_ HT_ 5 17 (bm 17 47) ?_;refine pu_ HT_ 6 18 (bm 17 111) ?_;refine pu_ HT_ 7 19 (bm 17 239) ?_;refine pu_ HT_ 8 20 (bm 17 495) ?_;refine pu_ HT_ 9 21 (bm 17 1007) ?_;refine pu_ HT_ 10 22 (bm 17 2031) ?_;refine pu_ HT_ 11 23 (bm 17 4079) ?_;refine ta4_ HT_ HW_ 4 16 (bm 17 4095) hHeld ?_;refine ta4_ HT_ HW_ 12 24 (bm 17 8191) hHeld ?_;refine pu_ HT_ 13 25 (bm 17 16383) ?_;refine one_ (i:=14) (N:=some 26) (bm 17 32767) rfl rfl (one_of HT_.out (by kernel_rfl)) (by decide) (fun K hK=>?_);refine value_ (w1:=?_) (v:=?_) (by rfl) rfl ?_ ?_;rotate_left 2
         ·
          go_simp;constructor
          ·
           rfl
          ·
           rfl
         refine hK.out _ _ ⟨(World.cell?_alloc_lt _ _ _ (World.block_lt_of_cell? _ _ ((ce_ HB hw130_0)))).trans ((ce_ HB hw130_0)),(World.cell?_alloc_lt _ _ _ (World.block_lt_of_cell? _ _ ((ce_ HB hw130_1)))).trans ((ce_ HB hw130_1)),(World.cell?_alloc_lt _ _ _ (World.block_lt_of_cell? _ _ ((ce_ HB hw131_0)))).trans ((ce_ HB hw131_0)),(World.cell?_alloc_lt _ _ _ (World.block_lt_of_cell? _ _ ((ce_ HB hw131_1)))).trans ((ce_ HB hw131_1))⟩ (fun hHeld=>?_);clear hK K;refine no_ (h:=?_);refine one_ (i:=15) (N:=some 27) (bm 17 65535) rfl rfl (one_of HT_.out (by kernel_rfl)) (by decide) (fun K hK=>?_);refine Kd.R_append_step k61 (w0:=w) w.heap.size (by rfl) (.tmp 12) (.tmp 26) 57 61 (.agg #[(.int .i64 0),(.int .i64 0),(.int .i64 0),(.int .i64 0)]) 32 rfl Tryd.underlying57 info61 rfl (by decide) (by omega) u3 x3_1 (⟨(⟨(rd_T28 l0 x4_1).f0,(rd_T28 l0 x4_1).f1⟩:S28),(⟨(rd_T28 l0 (ji7)).f0,(rd_T28 l0 (ji7)).f1⟩:S28)⟩:S61) [.int .i64 ((rd_T28 l0 x4_1).f0),.int .i64 ((rd_T28 l0 x4_1).f1),.int .i64 ((rd_T28 l0 (ji7)).f0),.int .i64 ((rd_T28 l0 (ji7)).f1)] (fun _=>True) (fun _=>False) rfl rfl ?aP (fun _ hk=>hk.elim) ?aF ?aO ?aB ?aS ?aL ?_
         (case aP=>exact k61_mkM _ _ _ (⟨(⟨(rd_T28 l0 x4_1).f0,(rd_T28 l0 x4_1).f1⟩:S28),(⟨(rd_T28 l0 (ji7)).f0,(rd_T28 l0 (ji7)).f1⟩:S28)⟩:S61))
         (case aB=>exact hB_)
         (case aF=>exact (fun _ _=>trivial))
         (case aO=>exact (uR_ HO_3))
         (case aS=>exact (below_size hB_))
         (case aL=>have:=LMc10.out;omega)
         intro v133 w12 ho hb hg hat;rw [← Ny132.out] at ho;have HO134:=a0_ (ho);replace HB:=a0_ (hb);clear HO_3;clear ho hb hg hat;refine hK.out _ _ ⟨(ce_ HB hw130_0),(ce_ HB hw130_1),(ce_ HB hw131_0),(ce_ HB hw131_1)⟩ (fun hHeld=>?_);clear hK K;refine no_ (h:=?_);refine pu_ HT_ 16 3 (bm 17 131071) ?_;refine done_ (done_of HT_.out (by kernel_rfl)) ?_
         try go_wp2
         go_roundg k1
         case measure=>have:=HK1.out;omega
         case rel=>exact⟨(y132),(wrap64 (x4_1+1)),(by first | rfl | (simp;done) | (simp [*];done)),H',⟨by have:=HK1.out;omega⟩,⟨by (with_reducible repeat (first | apply Kd.R_alloc | apply Kd.R_drewN | apply Kd.R_drew));exact HO134.out⟩,⟨hB_⟩⟩
        ·
         rw [if_neg c10] at H;exact absurd H (by simp)
       ·
        rw [if_neg c9] at H;exact absurd H (by simp)
      ·
       rw [if_neg c8] at H;exact absurd H (by simp)
    ·
     rw [if_neg c5] at H;exact absurd H (by simp)
   ·
    rw [if_neg c4] at H;have c4b0:decide (x4_1<(l0.length:Int))=false:=decide_eq_false c4;clear c4;obtain rfl:=Option.some.inj H;go_wp2;go_ret;exact⟨_,rr_,by (with_reducible repeat (first | apply Kd.R_alloc | apply Kd.R_drewN | apply Kd.R_drew));exact HO_3.out,hB_⟩
end Go.Proofs.YtkefmnmoaomlhaaDoor.X
end
section
set_option linter.unusedVariables false
set_option linter.unusedSimpArgs false
namespace Go.Proofs.YtkefmnmoaomlhaaDoor.X
open Go.RowKit Go.Shelf Go.Proofs.YtkefmnmoaomlhaaDoorW.PrintWords Go.Proofs.YtkefmnmoaomlhaaDoorW.PrintLast Go.Proofs.YtkefmnmoaomlhaaDoorW.PrintMore
attribute [local go_sem] Oper.semAt_some
def KpE (n₀ Bs:Nat)(A B:World):Prop:=A.heap.size≤B.heap.size∧∀ k,(k<n₀∨k=Bs)→k<A.heap.size→B.heap[k]?=A.heap[k]?
theorem KpE.refl (n₀ Bs:Nat)(A:World):KpE n₀ Bs A A:=⟨Nat.le_refl _,fun _ _ _=>rfl⟩
theorem KpE.trans {n₀ Bs:Nat}{A B C:World}(h:KpE n₀ Bs A B)(k:KpE n₀ Bs B C):KpE n₀ Bs A C:=
 ⟨Nat.le_trans h.1 k.1,fun i hi hl=>(k.2 i hi (Nat.lt_of_lt_of_le hl h.1)).trans (h.2 i hi hl)⟩
theorem KpE.below {n₀ Bs:Nat}{A B:World}(h:Below A.heap.size A B):KpE n₀ Bs A B:=⟨h.size,fun k _ hl=>h.block k hl⟩
theorem KpE.alloc (n₀ Bs:Nat)(A:World)(o:Obj):KpE n₀ Bs A (A.alloc o):=KpE.below (below_alloc (Below.refl _ _) o)
theorem KpE.set {n₀ Bs:Nat}(A:World){p:Addr}(h1:n₀≤p.block)(h2:p.block≠Bs)(u:Value):KpE n₀ Bs A (A.setCell p u):=
 ⟨by simp [World.setCell],fun k hk _=>Below.heap_setCell A p u k (by omega)⟩
theorem KpE.cell {n₀ Bs:Nat}{A B:World}(h:KpE n₀ Bs A B){p:Addr}(hp:p.block<n₀∨p.block=Bs)(hl:p.block<A.heap.size):B.cell? p=A.cell? p:=World.cell?_of_block (w:=A) (h.2 p.block hp hl)
theorem KpE.putObj {n₀ Bs:Nat}(W:World)(l:Nat)(o':Obj)(h1:n₀≤l)(h2:l≠Bs):KpE n₀ Bs W (W.putObj l o'):=
 ⟨by simp [World.putObj],fun k hk _=>World.putObj_heap_other (by omega)⟩
def edS (zs:List S28)(j:Nat):S61:=⟨zs.getD j z28,zs.getD ((j+1) % zs.length) z28⟩
def edV (x:S61):Value:=.agg #[.int .i64 x.f0.f0,.int .i64 x.f0.f1,.int .i64 x.f1.f0,.int .i64 x.f1.f1]
theorem blk_add (ad:Addr)(n:Nat):(ad.add n).block=ad.block:=by unfold Addr.add;split <;> rfl
theorem at_pt {W:World}{A:Option Addr}{zs:List S28}(hC:Kd.C k28 W A zs.length zs)(k:Nat)(h:k<zs.length):
  ∃ ad,A=some ad∧W.cell? (ad.add (k*2))=some (.int .i64 (zs.getD k z28).f0)∧W.cell? ⟨(ad.add (k*2)).block,(ad.add (k*2)).off+1,none⟩=some (.int .i64 (zs.getD k z28).f1):=
 at_T28 hC (k:Int) (by omega) (by omega)
set_option maxRecDepth 100000 in
set_option maxHeartbeats 2000000 in
theorem edges1_in (n:Nat)(hn:1≤n)(l Bs n₀:Nat)(A:Option Addr)(c:Nat)(zs:List S28)(hreach:zs.length≤1000000)
  (hAb:∀ ad,A=some ad→ad.block<n₀) (J Jx:Nat→World→Prop)
  (hJ:∀ k A B,J k A→Below A.heap.size A B→J k B)
  (hY:∀ k W,k<zs.length→J k W→YieldAt Fence.wide (n-1) Tryd.prog l #[.int .i64 (k:Int),edV (edS zs k)] W fun e W' =>
   (e=.returned (.bool true)∧J (k+1) W'∧KpE n₀ Bs W W')∨(e=.returned (.bool false)∧Jx (k+1) W'))
  (W:World) (hBl:Bs<W.heap.size) (hn₀:n₀≤W.heap.size) (hBs:W.cell? ⟨Bs,0,none⟩=some (.slice A zs.length c)) (hC0:Kd.C k28 W A zs.length zs) (h0:J 0 W) :
  CallsIn Fence.wide n Tryd.prog 114 #[.func (.yield l) #[] #[],.pointer (some ⟨Bs,0,none⟩)] W fun e W'=>(∃ v,e=.returned v) ∧
   (J zs.length W'∨∃ k,k≤zs.length∧Jx k W'):=by
 refine callsIn_of_wp Tryd.func114 rfl trivial ?_ rfl;simp only [Tryd.ntmps114,List.size_toArray,List.length_cons,List.length_nil,Nat.reduceAdd,Nat.reduceSub,Array.replicate_succ,Array.replicate_zero,List.push_toArray,List.append_toArray,List.nil_append,List.cons_append];gi_wp2;gi_loopw [7] (fun i wr=>∃ k:Nat,k≤zs.length∧i=.int .i64 k∧J k wr∧KpE n₀ Bs W wr)
  (fun i _=>zs.length-(intOf i).toNat)
 case atStart=>exact⟨0,Nat.zero_le _,rfl,h0,KpE.refl _ _ _⟩
 case round =>
  obtain⟨k,hk,rfl,hJ0,hnx⟩:=hrel;by_cases hlt:k<zs.length
  ·
   have hm:(k+1) % zs.length<zs.length:=Nat.mod_lt _ (by omega);obtain⟨ad,hA,hx0,hx1⟩:=at_pt hC0 k hlt;obtain⟨ad',hA',hy0,hy1⟩:=at_pt hC0 ((k+1) % zs.length) hm;obtain rfl:ad=ad':=by rw [hA] at hA';exact Option.some.inj hA'
   clear hA';have hE0:edV (edS zs k)=.agg #[.int .i64 (zs.getD k z28).f0,.int .i64 (zs.getD k z28).f1,.int .i64 (zs.getD ((k+1) % zs.length) z28).f0,.int .i64 (zs.getD ((k+1) % zs.length) z28).f1]:=rfl;have hE:=Aside0.mk hE0;clear hE0;have hT:Int.tmod ((k:Int)+1) (zs.length:Int)=(((k+1) % zs.length:Nat):Int):=rfl;have hT':=Aside0.mk hT;clear hT;generalize (k+1) % zs.length=m at *;have cBs:wr.cell? ⟨Bs,0,none⟩=some (.slice A zs.length c):=(hnx.cell (.inr rfl) hBl).trans hBs;subst hA;have hadb:ad.block<n₀:=hAb ad rfl;have old:∀ (o:Nat),wr.cell? ⟨ad.block,o,none⟩=W.cell? ⟨ad.block,o,none⟩:=fun o=>hnx.cell (p:=⟨ad.block,o,none⟩) (.inl hadb) (Nat.lt_of_lt_of_le hadb hn₀)
   have old':∀ (o:Nat),wr.cell? (ad.add o)=W.cell? (ad.add o):=fun o=>hnx.cell (p:=ad.add o) (.inl (by rw [blk_add];exact hadb)) (by rw [blk_add];exact Nat.lt_of_lt_of_le hadb hn₀)
   rw [← old'] at hx0 hy0;rw [blk_add,← old] at hx1 hy1;rw [← blk_add ad (k*2)] at hx1;rw [← blk_add ad (m*2)] at hy1;clear old old';generalize (zs.getD k z28).f0=px at *;generalize (zs.getD k z28).f1=py at *;generalize (zs.getD m z28).f0=qx at *;generalize (zs.getD m z28).f1=qy at *;have hu28:=Tryd.underlying28;gi_wp2;have hJ2:=hJ _ _ _ hJ0 (below_drew1 (below_alloc (Below.refl _ wr) (.cells #[.int .i64 px,.int .i64 py] 28)));obtain⟨fn,tmps,assign,body,hy,hR⟩:=YieldAt.mono (R':=fun e W'=>∃ b,e=.returned (.bool b)∧Aside0 ((b=true∧J (k+1) W'∧KpE n₀ Bs ((wr.alloc (.cells #[.int .i64 px,.int .i64 py] 28)).drew) W')∨(b=false∧Jx (k+1) W')))
    (hY k _ hlt hJ2) (fun e W' h=>by
    rcases h with ⟨rfl,h1,h2⟩ | ⟨rfl,h1⟩
    ·
     exact⟨true,rfl,⟨.inl ⟨rfl,h1,h2⟩⟩⟩
    ·
     exact⟨false,rfl,⟨.inr ⟨rfl,h1⟩⟩⟩)
   rw [hE.out] at hy;have later:∀ a v,wr.cell? a=some v→((wr.alloc (.cells #[.int .i64 px,.int .i64 py] 28)).drew).cell? a=some v:=fun a v h=>pw_cell_below (below_drew1 (below_alloc (Below.refl _ wr) _)) h
   have cBs2:=later _ _ cBs;have hy0':=later _ _ hy0;have hy1':=later _ _ hy1;clear later;have hT:=hT'.out;have hw:IntKind.i64.wrap ((k:Int)+1)=(k:Int)+1:=IntWalk.i64_in _ (by omega);have hz:¬ zs.length=0:=by omega
   have hz2:¬ ((zs.length:Int)=0):=by omega
   have hz3:((zs.length:Int)==0)=false:=by simpa using hz2
   gi_region_with (refine hR.mono ?_;rintro e W3 ⟨b,rfl,hb⟩)
   all_goals
    have hb':=hb.out;clear hb;have hn1:KpE n₀ Bs W (wr.alloc (.cells #[.int .i64 px,.int .i64 py] 28)).drew:=hnx.trans (KpE.below (below_drew1 (below_alloc (Below.refl _ wr) _)))
    rcases hb' with ⟨rfl,hj3,hk3⟩ | ⟨rfl,hjx⟩
    ·
     gi_wp2;go_roundw
     case rel=>exact⟨k+1,by omega,by simp,hj3,hn1.trans hk3⟩
     case measure=>simp [intOf];omega
    ·
     gi_wp2;refine bodyPost_ret (results_none rfl _ _ _) rfl ?_;exact⟨⟨_,rfl⟩,.inr ⟨k+1,by omega,hjx⟩⟩
  ·
   obtain rfl:k=zs.length:=by omega
   gi_wp2;go_end0;exact⟨⟨_,rfl⟩,.inl hJ0⟩
end Go.Proofs.YtkefmnmoaomlhaaDoor.X
end
section
set_option linter.unusedVariables false
set_option linter.unusedSimpArgs false
namespace Mort
abbrev Pt:=Int × Int
abbrev Seg:=Pt × Pt
def ptOk (p:Pt):Bool:=decide (0≤p.1∧p.1≤9∧0≤p.2∧p.2≤9)
def segOk (s:Seg):Bool:=ptOk s.1 && (ptOk s.2 && !(s.1.1==s.2.1 && s.1.2==s.2.2))
def cross (a b c:Pt):Int:=(b.1-a.1)*(c.2-a.2)-(b.2-a.2)*(c.1-a.1)
def dot (a b c:Pt):Int:=(b.1-a.1)*(c.1-a.1)+(b.2-a.2)*(c.2-a.2)
def sgn (n:Int):Int:=if n<0 then -1 else if n>0 then 1 else 0
def has (s:Seg)(p:Pt):Bool:=cross s.1 s.2 p==0 && (decide (0≤dot s.1 s.2 p) && decide (dot s.1 s.2 p≤dot s.1 s.2 s.2))
def meet (s t:Seg):Bool:=
 (decide (sgn (cross s.1 s.2 t.1)*sgn (cross s.1 s.2 t.2)<0) && decide (sgn (cross t.1 t.2 s.1)*sgn (cross t.1 t.2 s.2)<0)) ||
 (has s t.1 || (has s t.2 || (has t s.1 || has t s.2)))
def segTurn (a b c:Pt):Int:=if ptOk a && (ptOk b && ptOk c) then sgn (cross a b c) else 0
def segHas (s:Seg)(p:Pt):Bool:=segOk s && (ptOk p && has s p)
def segMeet (s t:Seg):Bool:=segOk s && (segOk t && meet s t)
def far (s:Seg)(p:Pt):Int × Int:=
 if dot s.1 s.2 p≤0 then (dot s.1 p p,1) else if dot s.1 s.2 s.2≤dot s.1 s.2 p then (dot s.2 p p,1)
 else (cross s.1 s.2 p*cross s.1 s.2 p,dot s.1 s.2 s.2)
def val (f:Int × Int):Rat:=(f.1:Rat) / (f.2:Rat)
theorem cast_dot (a b c:Pt):((dot a b c:Int):Rat)=((b.1:Rat)-a.1)*(c.1-a.1)+(b.2-a.2)*(c.2-a.2):=by
 unfold dot;push_cast;rfl
theorem cast_cross (a b c:Pt):((cross a b c:Int):Rat)=((b.1:Rat)-a.1)*(c.2-a.2)-(b.2-a.2)*(c.1-a.1):=by
 unfold cross;push_cast;rfl
theorem cast_le {a b:Int}:(a:Rat)≤(b:Rat) ↔ a≤b:=Rat.intCast_le_intCast
theorem cast_lt {a b:Int}:(a:Rat)<(b:Rat) ↔ a<b:=Rat.intCast_lt_intCast
theorem cast_inj {a b:Int}:(a:Rat)=(b:Rat) ↔ a=b:=Rat.intCast_inj
theorem dot_self_nn (a b:Pt):0≤dot a b b:=by
 unfold dot;have h1:0≤(b.1-a.1)*(b.1-a.1):=by
  rcases Int.le_total 0 (b.1-a.1) with h | h
  ·
   exact Int.mul_nonneg h h
  ·
   exact Int.mul_nonneg_of_nonpos_of_nonpos h h
 have h2:0≤(b.2-a.2)*(b.2-a.2):=by
  rcases Int.le_total 0 (b.2-a.2) with h | h
  ·
   exact Int.mul_nonneg h h
  ·
   exact Int.mul_nonneg_of_nonpos_of_nonpos h h
 omega
theorem isq_nn (x:Int):0≤x*x:=by
 rcases Int.le_total 0 x with h | h
 ·
  exact Int.mul_nonneg h h
 ·
  exact Int.mul_nonneg_of_nonpos_of_nonpos h h
theorem isq_pos {x:Int}(h:x≠0):0<x*x:=by
 rcases Int.lt_or_gt_of_ne h with h | h
 ·
  exact Int.mul_pos_of_neg_of_neg h h
 ·
  exact Int.mul_pos h h
theorem dot_self_pos {a b:Pt}(h:¬ (a.1=b.1∧a.2=b.2)):0<dot a b b:=by
 unfold dot;have h1:=isq_nn (b.1-a.1);have h2:=isq_nn (b.2-a.2);by_cases e:a.1=b.1
 ·
  have:=isq_pos (x:=b.2-a.2) (by intro h3;exact h ⟨e,by omega⟩);omega
 ·
  have:=isq_pos (x:=b.1-a.1) (by intro h3;exact e (by omega));omega
theorem rat_le_of_mul {x y d:Rat}(hd:0<d)(h:x*d≤y*d):x≤y:=Rat.le_of_mul_le_mul_right h hd
theorem div_mul_self {x d:Rat}(hd:0<d):x / d*d=x:=by
 have:d≠0:=by grind
 exact Rat.div_mul_cancel this
theorem eq_of_mul {x y d:Rat}(hd:0<d)(h:(x-y)*d=0):x=y:=by
 have:d≠0:=by grind
 rcases Rat.mul_eq_zero.1 h with h | h
 ·
  grind
 ·
  exact absurd h this
def px (a b:Pt)(t:Rat):Rat:=a.1+t*(b.1-a.1)
def py (a b:Pt)(t:Rat):Rat:=a.2+t*(b.2-a.2)
theorem cross_at (a b c d:Pt)(v:Rat):(((b.1:Rat)-a.1)*(py c d v-a.2)-(b.2-a.2)*(px c d v-a.1))=(1-v)*(cross a b c:Int)+v*(cross a b d:Int):=by
 rw [cast_cross,cast_cross];unfold px py;grind
theorem dot_at (a b c d:Pt)(v:Rat):(((b.1:Rat)-a.1)*(px c d v-a.1)+(b.2-a.2)*(py c d v-a.2))=(1-v)*(dot a b c:Int)+v*(dot a b d:Int):=by
 rw [cast_dot,cast_dot];unfold px py;grind
theorem cross_self (a b:Pt):cross a b a=0∧cross a b b=0:=by unfold cross;constructor <;> grind
theorem dot_zero (a b:Pt):dot a b a=0:=by unfold dot;grind
theorem has_iff (s:Seg)(p:Pt):has s p=true ↔ cross s.1 s.2 p=0∧0≤dot s.1 s.2 p∧dot s.1 s.2 p≤dot s.1 s.2 s.2:=by
 unfold has;simp
theorem has_of_at (a b p:Pt)(u:Rat)(h0:0≤u)(h1:u≤1)(hx:(p.1:Rat)=px a b u)(hy:(p.2:Rat)=py a b u):has (a,b) p=true:=by
 rw [has_iff];have hc:=cross_at a b a b u;have hd:=dot_at a b a b u;rw [← hx,← hy,← cast_cross,(cross_self a b).1,(cross_self a b).2] at hc;rw [← hx,← hy,← cast_dot,dot_zero] at hd;have hdd:(0:Rat)≤(dot a b b:Int):=by exact_mod_cast dot_self_nn a b
 have h2:0≤u*(dot a b b:Int):=Rat.mul_nonneg h0 hdd;have h3:0≤(1-u)*((dot a b b:Int):Rat):=Rat.mul_nonneg (by grind) hdd;refine⟨?_,?_,?_⟩
 ·
  have:((cross a b p:Int):Rat)=((0:Int):Rat):=by rw [hc];grind
  exact cast_inj.1 this
 ·
  have:((0:Int):Rat)≤((dot a b p:Int):Rat):=by rw [hd];grind
  exact cast_le.1 this
 ·
  have:((dot a b p:Int):Rat)≤((dot a b b:Int):Rat):=by rw [hd];grind
  exact cast_le.1 this
theorem at_of_has (s:Seg)(p:Pt)(hs:0<dot s.1 s.2 s.2)(h:has s p=true):
  ∃ u:Rat,0≤u∧u≤1∧(p.1:Rat)=px s.1 s.2 u∧(p.2:Rat)=py s.1 s.2 u:=by
 rw [has_iff] at h;obtain⟨hc,h0,h1⟩:=h;have hdR:(0:Rat)<(dot s.1 s.2 s.2:Int):=by exact_mod_cast hs
 have e0:(0:Rat)≤((dot s.1 s.2 p:Int):Rat):=by exact_mod_cast h0
 have e1:((dot s.1 s.2 p:Int):Rat)≤((dot s.1 s.2 s.2:Int):Rat):=by exact_mod_cast h1
 have et:=div_mul_self (x:=((dot s.1 s.2 p:Int):Rat)) hdR;have hcR:((cross s.1 s.2 p:Int):Rat)=0:=by rw [hc];rfl
 refine⟨((dot s.1 s.2 p:Int):Rat) / ((dot s.1 s.2 s.2:Int):Rat),?_,?_,?_,?_⟩
 ·
  apply rat_le_of_mul hdR;rw [et];grind
 ·
  apply rat_le_of_mul hdR;rw [et];grind
 ·
  generalize ((dot s.1 s.2 p:Int):Rat) / ((dot s.1 s.2 s.2:Int):Rat)=t at et ⊢
  rw [cast_cross] at hcR;rw [cast_dot,cast_dot] at et;rw [cast_dot] at hdR;exact eq_of_mul hdR (by unfold px;grind)
 ·
  generalize ((dot s.1 s.2 p:Int):Rat) / ((dot s.1 s.2 s.2:Int):Rat)=t at et ⊢
  rw [cast_cross] at hcR;rw [cast_dot,cast_dot] at et;rw [cast_dot] at hdR;exact eq_of_mul hdR (by unfold py;grind)
theorem meet_iff (s t:Seg):meet s t=true ↔ (sgn (cross s.1 s.2 t.1)*sgn (cross s.1 s.2 t.2)<0∧sgn (cross t.1 t.2 s.1)*sgn (cross t.1 t.2 s.2)<0) ∨
  has s t.1=true∨has s t.2=true∨has t s.1=true∨has t s.2=true:=by
 unfold meet;simp
theorem sgn_mul_neg (x y:Int):sgn x*sgn y<0 ↔ (x<0∧0<y)∨(0<x∧y<0):=by
 unfold sgn;split <;> split <;> (try split) <;> (try split) <;> omega
theorem opp {C1 C2:Int}{v:Rat}(h0:0≤v)(h1:v≤1)(h:(1-v)*(C1:Rat)+v*(C2:Rat)=0)(n1:C1≠0)(n2:C2≠0):sgn C1*sgn C2<0:=by
 rw [sgn_mul_neg]
 rcases Int.lt_or_gt_of_ne n1 with a | a <;> rcases Int.lt_or_gt_of_ne n2 with b | b
 ·
  exfalso
  have a':(C1:Rat)<0:=by exact_mod_cast a
  have b':(C2:Rat)<0:=by exact_mod_cast b
  have k1:0≤(1-v) * -(C1:Rat):=Rat.mul_nonneg (by grind) (by grind);have k2:0≤v * -(C2:Rat):=Rat.mul_nonneg (by grind) (by grind);have k3:(1-v)*(C1:Rat)=0:=by grind
  have k4:v*(C2:Rat)=0:=by grind
  rcases Rat.mul_eq_zero.1 k4 with k5 | k5
  ·
   rw [k5] at k3;grind
  ·
   grind
 ·
  exact .inl ⟨a,b⟩
 ·
  exact .inr ⟨a,b⟩
 ·
  exfalso
  have a':0<(C1:Rat):=by exact_mod_cast a
  have b':0<(C2:Rat):=by exact_mod_cast b
  have k1:0≤(1-v)*(C1:Rat):=Rat.mul_nonneg (by grind) (by grind);have k2:0≤v*(C2:Rat):=Rat.mul_nonneg (by grind) (by grind);have k3:(1-v)*(C1:Rat)=0:=by grind
  have k4:v*(C2:Rat)=0:=by grind
  rcases Rat.mul_eq_zero.1 k4 with k5 | k5
  ·
   rw [k5] at k3;grind
  ·
   grind
theorem cast_ne {C:Int}(h:C≠0):(C:Rat)≠0:=by exact_mod_cast h
theorem line_meet (s t:Seg)(hs:0<dot s.1 s.2 s.2)(c1:cross s.1 s.2 t.1=0)(c2:cross s.1 s.2 t.2=0)
  {u v:Rat} (u0:0≤u) (u1:u≤1) (v0:0≤v) (v1:v≤1) (hx:px s.1 s.2 u=px t.1 t.2 v) (hy:py s.1 s.2 u=py t.1 t.2 v) :
  has s t.1=true∨has s t.2=true∨has t s.1=true:=by
 have hdR:(0:Rat)<(dot s.1 s.2 s.2:Int):=by exact_mod_cast hs
 have hd:=dot_at s.1 s.2 t.1 t.2 v;rw [← hx,← hy] at hd;have hd':=dot_at s.1 s.2 s.1 s.2 u;rw [hd,dot_zero] at hd';by_cases a1:0≤dot s.1 s.2 t.1∧dot s.1 s.2 t.1≤dot s.1 s.2 s.2
 ·
  exact .inl ((has_iff _ _).2 ⟨c1,a1⟩)
 by_cases a2:0≤dot s.1 s.2 t.2∧dot s.1 s.2 t.2≤dot s.1 s.2 s.2
 ·
  exact .inr (.inl ((has_iff _ _).2 ⟨c2,a2⟩))
 refine .inr (.inr ?_);have opposite:(dot s.1 s.2 t.1<0∧dot s.1 s.2 s.2<dot s.1 s.2 t.2)∨(dot s.1 s.2 t.2<0∧dot s.1 s.2 s.2<dot s.1 s.2 t.1):=by
  have m1:0≤u*((dot s.1 s.2 s.2:Int):Rat):=Rat.mul_nonneg u0 (by grind);have m2:0≤(1-u)*((dot s.1 s.2 s.2:Int):Rat):=Rat.mul_nonneg (by grind) (by grind);by_cases n1:dot s.1 s.2 t.1<0
  ·
   by_cases n2:dot s.1 s.2 t.2<0
   ·
    exfalso
    have n1':((dot s.1 s.2 t.1:Int):Rat)<0:=by exact_mod_cast n1
    have n2':((dot s.1 s.2 t.2:Int):Rat)<0:=by exact_mod_cast n2
    have k1:0≤(1-v) * -((dot s.1 s.2 t.1:Int):Rat):=Rat.mul_nonneg (by grind) (by grind);have k2:0≤v * -((dot s.1 s.2 t.2:Int):Rat):=Rat.mul_nonneg v0 (by grind);have k3:(1-v)*((dot s.1 s.2 t.1:Int):Rat)=0:=by grind
    have k4:v*((dot s.1 s.2 t.2:Int):Rat)=0:=by grind
    rcases Rat.mul_eq_zero.1 k4 with k5 | k5
    ·
     rw [k5] at k3;grind
    ·
     grind
   ·
    exact .inl ⟨n1,by omega⟩
  ·
   by_cases n2:dot s.1 s.2 t.2<0
   ·
    exact .inr ⟨n2,by omega⟩
   ·
    exfalso
    have n1':((dot s.1 s.2 s.2:Int):Rat)<((dot s.1 s.2 t.1:Int):Rat):=by exact_mod_cast (by omega:dot s.1 s.2 s.2<dot s.1 s.2 t.1)
    have n2':((dot s.1 s.2 s.2:Int):Rat)<((dot s.1 s.2 t.2:Int):Rat):=by exact_mod_cast (by omega:dot s.1 s.2 s.2<dot s.1 s.2 t.2)
    have k1:0≤(1-v)*(((dot s.1 s.2 t.1:Int):Rat)-((dot s.1 s.2 s.2:Int):Rat)):=Rat.mul_nonneg (by grind) (by grind);have k2:0≤v*(((dot s.1 s.2 t.2:Int):Rat)-((dot s.1 s.2 s.2:Int):Rat)):=Rat.mul_nonneg v0 (by grind);have k3:(1-v)*(((dot s.1 s.2 t.1:Int):Rat)-((dot s.1 s.2 s.2:Int):Rat))=0:=by grind
    have k4:v*(((dot s.1 s.2 t.2:Int):Rat)-((dot s.1 s.2 s.2:Int):Rat))=0:=by grind
    rcases Rat.mul_eq_zero.1 k4 with k5 | k5
    ·
     rw [k5] at k3;grind
    ·
     grind
 rw [has_iff];generalize hE:dot s.1 s.2 t.1=E at *;generalize hF:dot s.1 s.2 t.2=G at *;generalize hD:dot s.1 s.2 s.2=D at *;have x1:D*(t.1.1-s.1.1)=E*(s.2.1-s.1.1):=by rw [← hD,← hE];unfold dot;unfold cross at c1;grind
 have y1:D*(t.1.2-s.1.2)=E*(s.2.2-s.1.2):=by rw [← hD,← hE];unfold dot;unfold cross at c1;grind
 have x2:D*(t.2.1-s.1.1)=G*(s.2.1-s.1.1):=by rw [← hD,← hF];unfold dot;unfold cross at c2;grind
 have y2:D*(t.2.2-s.1.2)=G*(s.2.2-s.1.2):=by rw [← hD,← hF];unfold dot;unfold cross at c2;grind
 have kc:D*D*cross t.1 t.2 s.1=0:=by
  have:D*D*cross t.1 t.2 s.1=(D*(t.2.1-s.1.1)-D*(t.1.1-s.1.1))*(-(D*(t.1.2-s.1.2)))-(D*(t.2.2-s.1.2)-D*(t.1.2-s.1.2))*(-(D*(t.1.1-s.1.1))):=by
   unfold cross;grind
  rw [this,x1,y1,x2,y2];grind
 have kd:D*D*dot t.1 t.2 s.1=(G-E)*(-E)*D:=by
  have:D*D*dot t.1 t.2 s.1=(D*(t.2.1-s.1.1)-D*(t.1.1-s.1.1))*(-(D*(t.1.1-s.1.1)))+(D*(t.2.2-s.1.2)-D*(t.1.2-s.1.2))*(-(D*(t.1.2-s.1.2))):=by
   unfold dot;grind
  rw [this,x1,y1,x2,y2,← hD];unfold dot;grind
 have ke:D*D*dot t.1 t.2 t.2=(G-E)*(G-E)*D:=by
  have:D*D*dot t.1 t.2 t.2=(D*(t.2.1-s.1.1)-D*(t.1.1-s.1.1))*(D*(t.2.1-s.1.1)-D*(t.1.1-s.1.1))+(D*(t.2.2-s.1.2)-D*(t.1.2-s.1.2))*(D*(t.2.2-s.1.2)-D*(t.1.2-s.1.2)):=by
   unfold dot;grind
  rw [this,x1,y1,x2,y2,← hD];unfold dot;grind
 have hDD:0<D*D:=Int.mul_pos hs hs;refine⟨?_,?_,?_⟩
 ·
  rcases Int.mul_eq_zero.1 kc with h | h
  ·
   omega
  ·
   exact h
 ·
  have:0≤(G-E)*(-E):=by
   rcases opposite with ⟨o1,o2⟩ | ⟨o1,o2⟩
   ·
    exact Int.mul_nonneg (by omega) (by omega)
   ·
    exact Int.mul_nonneg_of_nonpos_of_nonpos (by omega) (by omega)
  have:=Int.mul_nonneg this (by omega:0≤D);rw [← kd] at this;exact Int.nonneg_of_mul_nonneg_right (a:=D*D) this hDD
 ·
  have:0≤(G-E)*G:=by
   rcases opposite with ⟨o1,o2⟩ | ⟨o1,o2⟩
   ·
    exact Int.mul_nonneg (by omega) (by omega)
   ·
    exact Int.mul_nonneg_of_nonpos_of_nonpos (by omega) (by omega)
  have:=Int.mul_nonneg this (by omega:0≤D);have h2:D*D*(dot t.1 t.2 t.2-dot t.1 t.2 s.1)=(G-E)*G*D:=by
   rw [Int.mul_sub,ke,kd];grind
  rw [← h2] at this;have:=Int.nonneg_of_mul_nonneg_right (a:=D*D) this hDD;omega
theorem meet_of_common (s t:Seg)(hs:0<dot s.1 s.2 s.2)(ht:0<dot t.1 t.2 t.2)
  {u v:Rat} (u0:0≤u) (u1:u≤1) (v0:0≤v) (v1:v≤1) (hx:px s.1 s.2 u=px t.1 t.2 v) (hy:py s.1 s.2 u=py t.1 t.2 v):meet s t=true:=by
 rw [meet_iff];have C:=cross_at s.1 s.2 t.1 t.2 v;rw [← hx,← hy,cross_at s.1 s.2 s.1 s.2 u,(cross_self _ _).1,(cross_self _ _).2] at C;have K:=cross_at t.1 t.2 s.1 s.2 u;rw [hx,hy,cross_at t.1 t.2 t.1 t.2 v,(cross_self _ _).1,(cross_self _ _).2] at K;by_cases c1:cross s.1 s.2 t.1=0
 ·
  by_cases c2:cross s.1 s.2 t.2=0
  ·
   rcases line_meet s t hs c1 c2 u0 u1 v0 v1 hx hy with h | h | h
   ·
    exact .inr (.inl h)
   ·
    exact .inr (.inr (.inl h))
   ·
    exact .inr (.inr (.inr (.inl h)))
  ·
   have:v=0:=by
    rw [c1] at C;have:=cast_ne c2;have k:v*((cross s.1 s.2 t.2:Int):Rat)=0:=by grind
    rcases Rat.mul_eq_zero.1 k with h | h
    ·
     exact h
    ·
     exact absurd h this
   subst this;exact .inr (.inl (has_of_at s.1 s.2 t.1 u u0 u1 (by rw [hx];unfold px;grind) (by rw [hy];unfold py;grind)))
 ·
  by_cases c2:cross s.1 s.2 t.2=0
  ·
   have:v=1:=by
    rw [c2] at C;have:=cast_ne c1;have k:(1-v)*((cross s.1 s.2 t.1:Int):Rat)=0:=by grind
    rcases Rat.mul_eq_zero.1 k with h | h
    ·
     grind
    ·
     exact absurd h this
   subst this;exact .inr (.inr (.inl (has_of_at s.1 s.2 t.2 u u0 u1 (by rw [hx];unfold px;grind) (by rw [hy];unfold py;grind))))
  ·
   by_cases d1:cross t.1 t.2 s.1=0
   ·
    by_cases d2:cross t.1 t.2 s.2=0
    ·
     rcases line_meet t s ht d1 d2 v0 v1 u0 u1 hx.symm hy.symm with h | h | h
     ·
      exact .inr (.inr (.inr (.inl h)))
     ·
      exact .inr (.inr (.inr (.inr h)))
     ·
      exact .inr (.inl h)
    ·
     have:u=0:=by
      rw [d1] at K;have:=cast_ne d2;have k:u*((cross t.1 t.2 s.2:Int):Rat)=0:=by grind
      rcases Rat.mul_eq_zero.1 k with h | h
      ·
       exact h
      ·
       exact absurd h this
     subst this;exact .inr (.inr (.inr (.inl (has_of_at t.1 t.2 s.1 v v0 v1 (by rw [← hx];unfold px;grind) (by rw [← hy];unfold py;grind)))))
   ·
    by_cases d2:cross t.1 t.2 s.2=0
    ·
     have:u=1:=by
      rw [d2] at K;have:=cast_ne d1;have k:(1-u)*((cross t.1 t.2 s.1:Int):Rat)=0:=by grind
      rcases Rat.mul_eq_zero.1 k with h | h
      ·
       grind
      ·
       exact absurd h this
     subst this;exact .inr (.inr (.inr (.inr (has_of_at t.1 t.2 s.2 v v0 v1 (by rw [← hx];unfold px;grind) (by rw [← hy];unfold py;grind)))))
    ·
     exact .inl ⟨opp v0 v1 (by grind) c1 c2,opp u0 u1 (by grind) d1 d2⟩
def nearEnds (s t:Seg)(x:Rat):Prop:=val (far s t.1)≤x∨val (far s t.2)≤x∨val (far t s.1)≤x∨val (far t s.2)≤x
theorem nearEnds.mono {s t:Seg}{x y:Rat}(h:nearEnds s t x)(k:x≤y):nearEnds s t y:=by
 rcases h with h | h | h | h
 ·
  exact .inl (Rat.le_trans h k)
 ·
  exact .inr (.inl (Rat.le_trans h k))
 ·
  exact .inr (.inr (.inl (Rat.le_trans h k)))
 ·
  exact .inr (.inr (.inr (Rat.le_trans h k)))
def rc (ax ay bx cy x y:Rat):Rat:=(bx-ax)*(y-ay)-(cy-ay)*(x-ax)
def crsQ (ax ay bx cy x y:Rat):Bool:=
 (decide (ay≤y) && (decide (y<cy) && decide (0<rc ax ay bx cy x y))) || (decide (cy≤y) && (decide (y<ay) && decide (rc ax ay bx cy x y<0)))
def stripQ (px py qx qy x y:Rat):Bool:=decide (py<y) && (decide (y≤qy) && decide (rc px py qx qy x y<0))
def NoC (ax ay bx cy px py qx qy:Rat):Prop:=∀ u v:Rat,0≤u→u≤1→0≤v→v≤1→ax+u*(bx-ax)=px+v*(qx-px)→ay+u*(cy-ay)=py+v*(qy-py)→False
theorem lin_zero (f g:Rat)(h:¬ (0<f∧0<g))(h':¬ (f<0∧g<0)):∃ l:Rat,0≤l∧l≤1∧f+l*(g-f)=0:=by
 by_cases e:f=0
 ·
  exact⟨0,by decide,by decide,by grind⟩
 ·
  by_cases p:0<f
  ·
   have hg:g≤0:=by grind
   have hd:0<f-g:=by grind
   have e:=div_mul_self (x:=f) hd;refine⟨f / (f-g),?_,?_,?_⟩
   ·
    apply rat_le_of_mul hd;rw [e];grind
   ·
    apply rat_le_of_mul hd;rw [e];grind
   ·
    have:f / (f-g)*(g-f) = -(f / (f-g)*(f-g)):=by grind
    rw [this,e];grind
  ·
   have hg:0≤g:=by grind
   have hd:0<g-f:=by grind
   have e:=div_mul_self (x := -f) hd;refine⟨-f / (g-f),?_,?_,?_⟩
   ·
    apply rat_le_of_mul hd;rw [e];grind
   ·
    apply rat_le_of_mul hd;rw [e];grind
   ·
    rw [e];grind
theorem height (ay cy y:Rat)(h:ay<cy)(h0:ay≤y)(h1:y≤cy):∃ u:Rat,0≤u∧u≤1∧ay+u*(cy-ay)=y:=by
 have hd:0<cy-ay:=by grind
 have e:=div_mul_self (x:=y-ay) hd;refine⟨(y-ay) / (cy-ay),?_,?_,?_⟩
 ·
  apply rat_le_of_mul hd;rw [e];grind
 ·
  apply rat_le_of_mul hd;rw [e];grind
 ·
  rw [e];grind
theorem mul_pos_iff' {d x:Rat}(hd:0<d):0<d*x ↔ 0<x:=by
 constructor
 ·
  intro h
  rcases @Rat.le_total x 0 with k | k
  ·
   have:=Rat.mul_nonneg (Rat.le_of_lt hd) (by grind:0 ≤ -x)
   grind
  ·
   by_cases k':x=0
   ·
    rw [k'] at h;grind
   ·
    grind
 ·
  exact Rat.mul_pos hd
theorem mul_neg_iff' {d x:Rat}(hd:0<d):d*x<0 ↔ x<0:=by
 have:=mul_pos_iff' (d:=d) (x := -x) hd;constructor
 ·
  intro h;have:0 < -x:=this.1 (by grind)
  grind
 ·
  intro h;have:0<d * -x:=this.2 (by grind)
  grind
theorem same_side {ax ay bx cy px py qx qy:Rat}(hn:NoC ax ay bx cy px py qx qy){u v u' v':Rat}
  (u0:0≤u) (u1:u≤1) (v0:0≤v) (v1:v≤1) (u0':0≤u') (u1':u'≤1) (v0':0≤v') (v1':v'≤1)
  (e:ay+u*(cy-ay)=py+v*(qy-py)) (e':ay+u'*(cy-ay)=py+v'*(qy-py)) :
  (0<ax+u*(bx-ax)-(px+v*(qx-px)) ↔ 0<ax+u'*(bx-ax)-(px+v'*(qx-px))):=by
 have key:(0<ax+u*(bx-ax)-(px+v*(qx-px))∧0<ax+u'*(bx-ax)-(px+v'*(qx-px)))∨(ax+u*(bx-ax)-(px+v*(qx-px))<0∧ax+u'*(bx-ax)-(px+v'*(qx-px))<0):=by
  apply Classical.byContradiction;intro hno;obtain⟨l,l0,l1,hl⟩:=lin_zero _ _ (fun h=>hno (.inl h)) (fun h=>hno (.inr h));have i1:0≤l*u':=Rat.mul_nonneg l0 u0';have i2:0≤(1-l)*u:=Rat.mul_nonneg (by grind) u0;have i3:0≤l*(1-u'):=Rat.mul_nonneg l0 (by grind);have i4:0≤(1-l)*(1-u):=Rat.mul_nonneg (by grind) (by grind);have j1:0≤l*v':=Rat.mul_nonneg l0 v0';have j2:0≤(1-l)*v:=Rat.mul_nonneg (by grind) v0;have j3:0≤l*(1-v'):=Rat.mul_nonneg l0 (by grind);have j4:0≤(1-l)*(1-v):=Rat.mul_nonneg (by grind) (by grind);refine hn ((1-l)*u+l*u') ((1-l)*v+l*v') (by grind) (by grind) (by grind) (by grind) (by grind) ?_;have:ay+((1-l)*u+l*u')*(cy-ay)=(1-l)*(ay+u*(cy-ay))+l*(ay+u'*(cy-ay)):=by grind
  rw [this,e,e'];grind
 constructor
 ·
  intro h;rcases key with k | k
  ·
   exact k.2
  ·
   exact absurd h (by grind)
 ·
  intro h;rcases key with k | k
  ·
   exact k.1
  ·
   exact absurd h (by grind)
theorem rc_at {ax ay bx cy x y u:Rat}(e:ay+u*(cy-ay)=y):rc ax ay bx cy x y=(cy-ay)*(ax+u*(bx-ax)-x):=by
 unfold rc;rw [← e];grind
theorem rc_rev (ax ay bx cy x y:Rat):rc bx cy ax ay x y = - rc ax ay bx cy x y:=by unfold rc;grind
theorem crs_rev (ax ay bx cy x y:Rat):crsQ bx cy ax ay x y=crsQ ax ay bx cy x y:=by
 unfold crsQ;rw [rc_rev];have h1:(0 < - rc ax ay bx cy x y)=(rc ax ay bx cy x y<0):=by apply propext;constructor <;> intro h <;> grind
 have h2:(- rc ax ay bx cy x y<0)=(0<rc ax ay bx cy x y):=by apply propext;constructor <;> intro h <;> grind
 simp only [h1,h2];rw [Bool.or_comm]
theorem noC_rev {ax ay bx cy px py qx qy:Rat}(h:NoC ax ay bx cy px py qx qy):NoC bx cy ax ay px py qx qy:=by
 intro u v u0 u1 v0 v1 e e';exact h (1-u) v (by grind) (by grind) v0 v1 (by grind) (by grind)
theorem noC_rev2 {ax ay bx cy px py qx qy:Rat}(h:NoC ax ay bx cy px py qx qy):NoC ax ay bx cy qx qy px py:=by
 intro u v u0 u1 v0 v1 e e';exact h u (1-v) u0 u1 (by grind) (by grind) (by grind) (by grind)
theorem edge_up {ax ay bx cy px py qx qy:Rat}(h1:ay<cy)(h2:py<qy)(hn:NoC ax ay bx cy px py qx qy):
  (crsQ ax ay bx cy px py ^^ crsQ ax ay bx cy qx qy)=(stripQ px py qx qy ax ay ^^ stripQ px py qx qy bx cy):=by
 have hd:0<cy-ay:=by grind
 have hq:0<qy-py:=by grind
 have cP:crsQ ax ay bx cy px py=(decide (ay≤py) && (decide (py<cy) && decide (0<rc ax ay bx cy px py))):=by
  unfold crsQ;by_cases k:cy≤py
  ·
   have:¬ py<ay:=by grind
   simp [this]
  ·
   simp [k]
 have cQ:crsQ ax ay bx cy qx qy=(decide (ay≤qy) && (decide (qy<cy) && decide (0<rc ax ay bx cy qx qy))):=by
  unfold crsQ;by_cases k:cy≤qy
  ·
   have:¬ qy<ay:=by grind
   simp [this]
  ·
   simp [k]
 rw [cP,cQ];unfold stripQ;by_cases hr:cy<py∨qy<ay
 ·
  rcases hr with k | k
  ·
   have a1:¬ py<cy:=by grind
   have a2:¬ qy<cy:=by grind
   have a3:¬ py<ay:=by grind
   simp [a1,a2,a3]
  ·
   have a1:¬ ay≤py:=by grind
   have a2:¬ ay≤qy:=by grind
   have a3:¬ cy≤qy:=by grind
   simp [a1,a2,a3]
 ·
  have k1:py≤cy:=by grind
  have k2:ay≤qy:=by grind
  by_cases c1:ay≤py
  ·
   obtain⟨u,u0,u1,eu⟩:=height ay cy py h1 c1 k1;have r1:(0<rc ax ay bx cy px py)=(0<ax+u*(bx-ax)-(px+0*(qx-px))):=by
    rw [rc_at eu];apply propext;rw [mul_pos_iff' hd];constructor <;> intro h <;> grind
   have n3:¬ py<ay:=by grind
   by_cases c2:cy≤qy
   ·
    obtain⟨v,v0,v1,ev⟩:=height py qy cy h2 k1 c2;have r2:(rc px py qx qy bx cy<0)=(0<ax+1*(bx-ax)-(px+v*(qx-px))):=by
     rw [rc_at ev];apply propext;rw [mul_neg_iff' hq];constructor <;> intro h <;> grind
    have:=same_side hn u0 u1 (v:=0) (by decide) (by decide) (u':=1) (by decide) (by decide) v0 v1 (by grind) (by grind);have n4:¬ qy<cy:=by grind
    simp only [r1,r2,this,c1,n3,c2,n4];by_cases z:py<cy <;> simp [z]
   ·
    have a4:qy<cy:=by grind
    have a5:py<cy:=by grind
    obtain⟨u',u0',u1',eu'⟩:=height ay cy qy h1 k2 (by grind);have r2:(0<rc ax ay bx cy qx qy)=(0<ax+u'*(bx-ax)-(px+1*(qx-px))):=by
     rw [rc_at eu'];apply propext;rw [mul_pos_iff' hd];constructor <;> intro h <;> grind
    have:=same_side hn u0 u1 (v:=0) (by decide) (by decide) u0' u1' (v':=1) (by decide) (by decide) (by grind) (by grind);simp only [r1,r2,this,c1,n3,c2,a4,a5,k2];simp
  ·
   have n1:py<ay:=by grind
   obtain⟨v,v0,v1,ev⟩:=height py qy ay h2 (by grind) k2;have r1:(rc px py qx qy ax ay<0)=(0<ax+0*(bx-ax)-(px+v*(qx-px))):=by
    rw [rc_at ev];apply propext;rw [mul_neg_iff' hq];constructor <;> intro h <;> grind
   have a5:py<cy:=by grind
   by_cases c2:cy≤qy
   ·
    obtain⟨v',v0',v1',ev'⟩:=height py qy cy h2 k1 c2;have r2:(rc px py qx qy bx cy<0)=(0<ax+1*(bx-ax)-(px+v'*(qx-px))):=by
     rw [rc_at ev'];apply propext;rw [mul_neg_iff' hq];constructor <;> intro h <;> grind
    have:=same_side hn (u:=0) (by decide) (by decide) v0 v1 (u':=1) (by decide) (by decide) v0' v1' (by grind) (by grind);have n4:¬ qy<cy:=by grind
    simp only [r1,r2,this,c1,n1,c2,n4,k2,a5];simp
   ·
    have a4:qy<cy:=by grind
    obtain⟨u',u0',u1',eu'⟩:=height ay cy qy h1 k2 (by grind);have r2:(0<rc ax ay bx cy qx qy)=(0<ax+u'*(bx-ax)-(px+1*(qx-px))):=by
     rw [rc_at eu'];apply propext;rw [mul_pos_iff' hd];constructor <;> intro h <;> grind
    have:=same_side hn (u:=0) (by decide) (by decide) v0 v1 u0' u1' (v':=1) (by decide) (by decide) (by grind) (by grind);simp only [r1,r2,this,c1,n1,c2,a4,k2];simp
theorem edge_flat {ax ay bx px py qx qy:Rat}(h2:py<qy)(hn:NoC ax ay bx ay px py qx qy):
  (crsQ ax ay bx ay px py ^^ crsQ ax ay bx ay qx qy)=(stripQ px py qx qy ax ay ^^ stripQ px py qx qy bx ay):=by
 have c0:∀ x y,crsQ ax ay bx ay x y=false:=by
  intro x y;unfold crsQ;by_cases k:ay≤y
  ·
   have:¬ y<ay:=by grind
   simp [this]
  ·
   simp [k]
 rw [c0,c0];unfold stripQ;by_cases k1:py<ay
 ·
  by_cases k2:ay≤qy
  ·
   have hq:0<qy-py:=by grind
   obtain⟨v,v0,v1,ev⟩:=height py qy ay h2 (by grind) k2;have r1:(rc px py qx qy ax ay<0)=(0<ax+0*(bx-ax)-(px+v*(qx-px))):=by
    rw [rc_at ev];apply propext;rw [mul_neg_iff' hq];constructor <;> intro h <;> grind
   have r2:(rc px py qx qy bx ay<0)=(0<ax+1*(bx-ax)-(px+v*(qx-px))):=by
    rw [rc_at ev];apply propext;rw [mul_neg_iff' hq];constructor <;> intro h <;> grind
   have:=same_side hn (u:=0) (by decide) (by decide) v0 v1 (u':=1) (by decide) (by decide) v0 v1 (by grind) (by grind);simp only [r1,r2,this];simp
  ·
   simp [k2]
 ·
  simp [k1]
theorem edge_level {ax ay bx cy px py qx:Rat}(h1:ay<cy)(hn:NoC ax ay bx cy px py qx py):
  crsQ ax ay bx cy px py=crsQ ax ay bx cy qx py:=by
 have hd:0<cy-ay:=by grind
 unfold crsQ;have n1:¬ (cy≤py∧py<ay):=by grind
 by_cases k1:ay≤py
 ·
  by_cases k2:py<cy
  ·
   obtain⟨u,u0,u1,eu⟩:=height ay cy py h1 k1 (by grind);have r1:(0<rc ax ay bx cy px py)=(0<ax+u*(bx-ax)-(px+0*(qx-px))):=by
    rw [rc_at eu];apply propext;rw [mul_pos_iff' hd];constructor <;> intro h <;> grind
   have r2:(0<rc ax ay bx cy qx py)=(0<ax+u*(bx-ax)-(px+1*(qx-px))):=by
    rw [rc_at eu];apply propext;rw [mul_pos_iff' hd];constructor <;> intro h <;> grind
   have:=same_side hn u0 u1 (v:=0) (by decide) (by decide) u0 u1 (v':=1) (by decide) (by decide) (by grind) (by grind);have n3:¬ cy≤py:=by grind
   simp only [r1,r2,this,n3];simp
  ·
   have n3:¬ py<ay:=by grind
   simp [k2,n3]
 ·
  have n3:¬ cy≤py:=by grind
  simp [k1,n3]
theorem edge_any {ax ay bx cy px py qx qy:Rat}(h2:py≤qy)(hn:NoC ax ay bx cy px py qx qy):
  (crsQ ax ay bx cy px py ^^ crsQ ax ay bx cy qx qy)=(stripQ px py qx qy ax ay ^^ stripQ px py qx qy bx cy):=by
 by_cases e:py=qy
 ·
  subst e;have s0:∀ x y,stripQ px py qx py x y=false:=by
   intro x y;unfold stripQ;by_cases k:py<y
   ·
    have:¬ y≤py:=by grind
    simp [this]
   ·
    simp [k]
  rw [s0,s0]
  rcases @Rat.le_total ay cy with o | o
  ·
   by_cases e:ay=cy
   ·
    subst e;have c0:∀ x y,crsQ ax ay bx ay x y=false:=by
     intro x y;unfold crsQ;by_cases k:ay≤y
     ·
      have:¬ y<ay:=by grind
      simp [this]
     ·
      simp [k]
    rw [c0,c0]
   ·
    rw [edge_level (by grind) hn];simp
  ·
   by_cases e:ay=cy
   ·
    subst e;have c0:∀ x y,crsQ ax ay bx ay x y=false:=by
     intro x y;unfold crsQ;by_cases k:ay≤y
     ·
      have:¬ y<ay:=by grind
      simp [this]
     ·
      simp [k]
    rw [c0,c0]
   ·
    rw [← crs_rev,← crs_rev ax ay,edge_level (by grind) (noC_rev hn)];simp
 ·
  have h3:py<qy:=by grind
  rcases @Rat.le_total ay cy with o | o
  ·
   by_cases e:ay=cy
   ·
    subst e;exact edge_flat h3 hn
   ·
    exact edge_up (by grind) h3 hn
  ·
   by_cases e:ay=cy
   ·
    subst e;exact edge_flat h3 hn
   ·
    rw [← crs_rev,← crs_rev ax ay,edge_up (by grind) h3 (noC_rev hn),Bool.xor_comm]
def xorAll:List Bool→Bool
 | []=>false
 | b::l=>b ^^ xorAll l
theorem xorAll_append (l m:List Bool):xorAll (l++m)=(xorAll l ^^ xorAll m):=by
 induction l with
 | nil=>simp [xorAll]
 | cons b l ih=>simp [xorAll,ih]
theorem xorAll_map {α:Type}(l:List α)(f g:α→Bool):xorAll (l.map fun x=>f x ^^ g x)=(xorAll (l.map f) ^^ xorAll (l.map g)):=by
 induction l with
 | nil=>rfl
 | cons x l ih =>
  simp only [List.map_cons,xorAll,ih];cases f x <;> cases g x <;> cases xorAll (l.map f) <;> cases xorAll (l.map g) <;> rfl
def turned (l:List Pt):List Pt:=l.drop 1++l.take 1
def edges (l:List Pt):List Seg:=l.zip (turned l)
theorem turned_length (l:List Pt):(turned l).length=l.length:=by
 unfold turned;simp;omega
theorem edges_length (l:List Pt):(edges l).length=l.length:=by
 unfold edges;simp [turned_length]
theorem edges_fst (l:List Pt):(edges l).map Prod.fst=l:=by
 unfold edges;exact List.map_fst_zip (by rw [turned_length];exact Nat.le_refl _)
theorem edges_snd (l:List Pt):(edges l).map Prod.snd=turned l:=by
 unfold edges;exact List.map_snd_zip (by rw [turned_length];exact Nat.le_refl _)
theorem closed (l:List Pt)(g:Pt→Bool):xorAll ((edges l).map fun e=>g e.1 ^^ g e.2)=false:=by
 rw [xorAll_map (edges l) (fun e=>g e.1) (fun e=>g e.2)];have h1:(edges l).map (fun e=>g e.1)=l.map g:=by
  rw [show (fun e:Seg=>g e.1)=g ∘ Prod.fst from rfl,← List.map_map,edges_fst]
 have h2:(edges l).map (fun e=>g e.2)=(turned l).map g:=by
  rw [show (fun e:Seg=>g e.2)=g ∘ Prod.snd from rfl,← List.map_map,edges_snd]
 rw [h1,h2];unfold turned;rw [List.map_append,xorAll_append,Bool.xor_comm (xorAll ((l.drop 1).map g)),← xorAll_append,← List.map_append,List.take_append_drop];cases xorAll (l.map g) <;> rfl
def par (l:List Pt)(x y:Rat):Bool:=xorAll ((edges l).map fun e=>crsQ e.1.1 e.1.2 e.2.1 e.2.2 x y)
def NoCE (e:Seg)(px py qx qy:Rat):Prop:=NoC e.1.1 e.1.2 e.2.1 e.2.2 px py qx qy
theorem xorAll_congr {α:Type}{l:List α}{f g:α→Bool}(h:∀ x∈l,f x=g x):xorAll (l.map f)=xorAll (l.map g):=by
 rw [List.map_congr_left h]
theorem par_up (l:List Pt){px py qx qy:Rat}(h:py≤qy)(hn:∀ e∈edges l,NoCE e px py qx qy):par l px py=par l qx qy:=by
 have k:xorAll ((edges l).map fun e=>crsQ e.1.1 e.1.2 e.2.1 e.2.2 px py ^^ crsQ e.1.1 e.1.2 e.2.1 e.2.2 qx qy)=false:=by
  rw [xorAll_congr (fun e he=>edge_any h (hn e he))];exact closed l (fun v=>stripQ px py qx qy v.1 v.2)
 rw [xorAll_map] at k;unfold par;revert k;generalize xorAll _=a;generalize xorAll _=b;cases a <;> cases b <;> simp
theorem par_way (l:List Pt){px py qx qy:Rat}(hn:∀ e∈edges l,NoCE e px py qx qy):par l px py=par l qx qy:=by
 rcases @Rat.le_total py qy with h | h
 ·
  exact par_up l h hn
 ·
  exact (par_up l h (fun e he=>noC_rev2 (hn e he))).symm
theorem np {x y:Rat}(hx:x≤0)(hy:0≤y):x*y≤0:=by
 have:=Rat.mul_nonneg (by grind:0 ≤ -x) hy;grind
theorem nn {x y:Rat}(hx:x≤0)(hy:y≤0):0≤x*y:=by
 have:=Rat.mul_nonneg (by grind:0 ≤ -x) (by grind:0 ≤ -y);grind
def shf (p:Pt):Pt:=(p.1,p.2+1)
theorem edges_map (f:Pt→Pt)(l:List Pt):edges (l.map f)=(edges l).map fun e=>(f e.1,f e.2):=by
 unfold edges turned;rw [← List.map_drop,← List.map_take,← List.map_append,List.zip_map];rfl
def nd (s:Seg):Prop:=0<dot s.1 s.2 s.2
theorem segOk_iff (s:Seg):segOk s=true ↔ ptOk s.1=true∧ptOk s.2=true∧¬ (s.1.1=s.2.1∧s.1.2=s.2.2):=by
 unfold segOk;by_cases a:s.1.1=s.2.1 <;> by_cases b:s.1.2=s.2.2 <;> simp [a,b]
theorem ptOk_iff (p:Pt):ptOk p=true ↔ 0≤p.1∧p.1≤9∧0≤p.2∧p.2≤9:=by unfold ptOk;simp
theorem nd_of_ok {s:Seg}(h:segOk s=true):nd s:=dot_self_pos ((segOk_iff s).1 h).2.2
theorem noC_of_meet {e f:Seg}(he:nd e)(hf:nd f)(h:meet e f=false):NoCE e f.1.1 f.1.2 f.2.1 f.2.2:=by
 intro u v u0 u1 v0 v1 hx hy;have:=meet_of_common e f he hf u0 u1 v0 v1 hx hy;rw [h] at this;cases this
theorem par_on (l:List Pt)(f:Seg)(hf:nd f)(hl:∀ e∈edges l,nd e)(h:∀ e∈edges l,meet e f=false){u:Rat}(u0:0≤u)(u1:u≤1):
  par l f.1.1 f.1.2=par l (px f.1 f.2 u) (py f.1 f.2 u):=by
 apply par_way;intro e he a b a0 a1 b0 b1 hx hy;have k0:0≤b*u:=Rat.mul_nonneg b0 u0;have k1:0≤(1-b)*u:=Rat.mul_nonneg (by grind) u0;refine noC_of_meet (hl e he) hf (h e he) a (b*u) a0 a1 k0 (by grind) ?_ ?_
 ·
  rw [hx];unfold px;grind
 ·
  rw [hy];unfold py;grind
def joined (s t:Seg):Bool := !has s t.2 && !has t s.1
def ed (l:List Pt)(i:Nat):Seg:=(l.getD i (0,0),l.getD ((i+1) % l.length) (0,0))
theorem edges_getElem? (l:List Pt)(i:Nat)(h:i<l.length):(edges l)[i]?=some (ed l i):=by
 have h2:(turned l)[i]?=some (l.getD ((i+1) % l.length) (0,0)):=by
  unfold turned;by_cases k:i+1<l.length
  ·
   rw [Nat.mod_eq_of_lt k,List.getElem?_append_left (by simp;omega),List.getElem?_drop,Nat.add_comm 1 i];rw [List.getD_eq_getElem?_getD,List.getElem?_eq_getElem k];rfl
  ·
   have e:i+1=l.length:=by omega
   rw [e,Nat.mod_self,List.getElem?_append_right (by simp;omega)];have:i-(l.drop 1).length=0:=by simp;omega
   rw [this,List.getElem?_take_of_lt (by omega),List.getD_eq_getElem?_getD,List.getElem?_eq_getElem (by omega)];rfl
 unfold edges;rw [List.getElem?_zip_eq_some];refine⟨?_,h2⟩;unfold ed;simp only;rw [List.getD_eq_getElem?_getD,List.getElem?_eq_getElem h];rfl
theorem mem_edges {l:List Pt}{e:Seg}:e∈edges l ↔ ∃ i,i<l.length∧e=ed l i:=by
 rw [List.mem_iff_getElem?];constructor
 ·
  rintro⟨i,hi⟩;have hlt:=(List.getElem?_eq_some_iff.1 hi).1;rw [edges_length] at hlt;rw [edges_getElem? l i hlt] at hi;exact⟨i,hlt,by injection hi with hi;exact hi.symm⟩
 ·
  rintro⟨i,hi,rfl⟩;exact⟨i,edges_getElem? l i hi⟩
def pairOk (l:List Pt)(i j:Nat):Bool:=
 if j≤i then true else if j=i+1 then joined (ed l i) (ed l j) else if i=0∧j+1=l.length then joined (ed l j) (ed l i) else !meet (ed l i) (ed l j)
def loopOk (l:List Pt):Bool:=
 (decide (3≤l.length) && decide (l.length≤8)) && ((edges l).all segOk && (List.range l.length).all fun i=>(List.range l.length).all fun j=>pairOk l i j)
def onB (l:List Pt)(p:Pt):Bool:=(edges l).any fun e=>has e p
def inOf (l:List Pt)(p:Pt):Int:=if onB l p then 0 else if par l p.1 p.2 then 1 else -1
def apartB (a b:List Pt):Bool:=(edges a).all fun e=>(edges b).all fun f => !meet e f
theorem loopOk_iff (l:List Pt):loopOk l=true ↔ 3≤l.length∧l.length≤8∧(∀ e∈edges l,segOk e=true)∧∀ i j,i<l.length→j<l.length→pairOk l i j=true:=by
 unfold loopOk;simp only [Bool.and_eq_true,decide_eq_true_eq,List.all_eq_true,List.mem_range];constructor
 ·
  rintro⟨⟨h1,h2⟩,h3,h4⟩;exact⟨h1,h2,h3,fun i j hi hj=>h4 i hi j hj⟩
 ·
  rintro⟨h1,h2,h3,h4⟩;exact⟨⟨h1,h2⟩,h3,fun i hi j hj=>h4 i j hi hj⟩
theorem onB_iff (l:List Pt)(p:Pt):onB l p=true ↔ ∃ e∈edges l,has e p=true:=by unfold onB;simp
theorem onB_false (l:List Pt)(p:Pt):onB l p=false ↔ ∀ e∈edges l,has e p=false:=by unfold onB;simp
theorem apartB_iff (a b:List Pt):apartB a b=true ↔ ∀ e∈edges a,∀ f∈edges b,meet e f=false:=by unfold apartB;simp
structure Motion (f:Pt→Pt) (s:Int):Prop where
 sq:s*s=1
 dot:∀ a b c,dot (f a) (f b) (f c)=Mort.dot a b c
 cross:∀ a b c,cross (f a) (f b) (f c)=s*Mort.cross a b c
theorem motion_shf:Motion shf 1 where
 sq:=by decide
 dot:=by intro a b c;unfold dot shf;grind
 cross:=by intro a b c;unfold cross shf;grind
def segMap (f:Pt→Pt)(s:Seg):Seg:=(f s.1,f s.2)
theorem Motion.sign {f:Pt→Pt}{s:Int}(h:Motion f s):s=1∨s = -1:=by
 have:=h.sq;have:(s-1)*(s+1)=0:=by grind
 rcases Int.mul_eq_zero.1 this with k | k
 ·
  left;omega
 ·
  right;omega
theorem Motion.has {f:Pt→Pt}{s:Int}(h:Motion f s)(e:Seg)(p:Pt):has (segMap f e) (f p)=has e p:=by
 unfold Mort.has segMap;simp only [h.dot,h.cross]
 rcases h.sign with rfl | rfl
 ·
  simp
 ·
  have:(-1*Mort.cross e.1 e.2 p==0)=(Mort.cross e.1 e.2 p==0):=by
   rw [Bool.eq_iff_iff];simp
  rw [this]
theorem sgn_neg (n:Int):sgn (-n) = - sgn n:=by unfold sgn;split <;> split <;> (try split) <;> (try split) <;> omega
theorem Motion.meet {f:Pt→Pt}{s:Int}(h:Motion f s)(e t:Seg):meet (segMap f e) (segMap f t)=meet e t:=by
 have k:∀ e t:Seg,(decide (sgn (Mort.cross (f e.1) (f e.2) (f t.1))*sgn (Mort.cross (f e.1) (f e.2) (f t.2))<0))=decide (sgn (Mort.cross e.1 e.2 t.1)*sgn (Mort.cross e.1 e.2 t.2)<0):=by
  intro e t;rw [h.cross,h.cross]
  rcases h.sign with rfl | rfl
  ·
   simp
  ·
   have:∀ n:Int,-1*n = -n:=by intro n;omega
   rw [this,this,sgn_neg,sgn_neg,Int.neg_mul_neg]
 unfold Mort.meet;rw [show (segMap f t).1=f t.1 from rfl,show (segMap f t).2=f t.2 from rfl,show (segMap f e).1=f e.1 from rfl,show (segMap f e).2=f e.2 from rfl];rw [h.has,h.has,h.has,h.has,k e t,k t e]
theorem Motion.far {f:Pt→Pt}{s:Int}(h:Motion f s)(e:Seg)(p:Pt):far (segMap f e) (f p)=far e p:=by
 unfold Mort.far segMap;simp only [h.dot,h.cross];have:s*Mort.cross e.1 e.2 p*(s*Mort.cross e.1 e.2 p)=Mort.cross e.1 e.2 p*Mort.cross e.1 e.2 p:=by
  have:=h.sq;have k:s*Mort.cross e.1 e.2 p*(s*Mort.cross e.1 e.2 p)=(s*s)*(Mort.cross e.1 e.2 p*Mort.cross e.1 e.2 p):=by grind
  rw [k,this,Int.one_mul]
 rw [this]
theorem edges_motion (f:Pt→Pt)(l:List Pt):edges (l.map f)=(edges l).map (segMap f):=edges_map f l
theorem ed_map (f:Pt→Pt)(l:List Pt)(i:Nat)(h:i<l.length):ed (l.map f) i=segMap f (ed l i):=by
 have h1:=edges_getElem? (l.map f) i (by simpa using h);rw [edges_motion,List.getElem?_map,edges_getElem? l i h] at h1
 simpa using h1.symm
theorem Motion.joined {f:Pt→Pt}{s:Int}(h:Motion f s)(e t:Seg):joined (segMap f e) (segMap f t)=joined e t:=by
 unfold Mort.joined;rw [show (segMap f t).2=f t.2 from rfl,show (segMap f e).1=f e.1 from rfl,h.has,h.has]
theorem Motion.pairOk {f:Pt→Pt}{s:Int}(h:Motion f s)(l:List Pt){i j:Nat}(hi:i<l.length)(hj:j<l.length):pairOk (l.map f) i j=pairOk l i j:=by
 unfold Mort.pairOk;rw [ed_map f l i hi,ed_map f l j hj,h.joined,h.joined,h.meet,List.length_map]
theorem Motion.inj {f:Pt→Pt}{s:Int}(h:Motion f s){a b:Pt}(hf:nd (a,b)):¬ ((f a).1=(f b).1∧(f a).2=(f b).2):=by
 rintro⟨e1,e2⟩;have:=h.dot a b b;unfold nd at hf;simp only at hf;rw [← this] at hf;unfold Mort.dot at hf;rw [e1,e2] at hf;simp at hf
theorem Motion.loopOk {f:Pt→Pt}{s:Int}(h:Motion f s){l:List Pt}(hl:loopOk l=true)(hg:∀ p∈l,ptOk (f p)=true):loopOk (l.map f)=true:=by
 rw [loopOk_iff] at hl ⊢
 obtain⟨h1,h2,h3,h4⟩:=hl;refine⟨by simpa using h1,by simpa using h2,?_,?_⟩
 ·
  intro e he;rw [edges_motion] at he;obtain⟨e',he',rfl⟩:=List.mem_map.1 he;have m1:e'.1∈l:=by rw [← edges_fst l];exact List.mem_map_of_mem he'
  have m2:e'.2∈l:=by
   have:e'.2∈turned l:=by rw [← edges_snd l];exact List.mem_map_of_mem he'
   unfold turned at this
   rcases List.mem_append.1 this with k | k
   ·
    exact List.mem_of_mem_drop k
   ·
    exact List.mem_of_mem_take k
  exact (segOk_iff _).2 ⟨hg _ m1,hg _ m2,h.inj (nd_of_ok (h3 e' he'))⟩
 ·
  intro i j hi hj;rw [List.length_map] at hi hj;rw [h.pairOk l hi hj];exact h4 i j hi hj
theorem Motion.onB {f:Pt→Pt}{s:Int}(h:Motion f s)(l:List Pt)(p:Pt):onB (l.map f) (f p)=onB l p:=by
 unfold Mort.onB;rw [edges_motion,List.any_map]
 congr 1
 funext e
 exact h.has e p
theorem Motion.apartB {f:Pt→Pt}{s:Int}(h:Motion f s)(a b:List Pt):apartB (a.map f) (b.map f)=apartB a b:=by
 unfold Mort.apartB;rw [edges_motion,edges_motion,List.all_map]
 congr 1
 funext e
 simp only [Function.comp];rw [List.all_map]
 congr 1
 funext t
 simp only [Function.comp];rw [h.meet]
structure Keeps (f:Pt→Pt):Prop where
 motion:∃ s,Motion f s
 par:∀ (l:List Pt) (p:Pt),(∀ e∈edges l,has e p=false)→par (l.map f) (f p).1 (f p).2=Mort.par l p.1 p.2
theorem keeps_shf:Keeps shf:=⟨⟨_,motion_shf⟩,fun l p _=>by
 unfold par;rw [edges_motion,List.map_map]
 congr 1
 apply List.map_congr_left;intro e _;simp only [Function.comp,segMap,shf]
 push_cast
 unfold crsQ rc;have e1:∀ a b:Rat,(a+1≤b+1)=(a≤b):=by intro a b;apply propext;constructor <;> intro h <;> grind
 have e2:∀ a b:Rat,(a+1<b+1)=(a<b):=by intro a b;apply propext;constructor <;> intro h <;> grind
 have e3:∀ a b:Rat,a+1-(b+1)=a-b:=by intro a b;grind
 simp only [e1,e2,e3]⟩
theorem Keeps.inOf {f:Pt→Pt}(h:Keeps f)(l:List Pt)(p:Pt):inOf (l.map f) (f p)=inOf l p:=by
 obtain⟨s,hs⟩:=h.motion;unfold Mort.inOf;rw [hs.onB]
 cases hb:Mort.onB l p with
 | true=>rfl
 | false=>rw [h.par l p ((onB_false l p).1 hb)]
abbrev Plate:=List Pt × List (List Pt)
def nested (o:List Pt)(hs:List (List Pt)):Bool:=
 hs.all fun h=>inOf o (h.getD 0 (0,0))==1
def plateOk (P:Plate):Bool:=
 (decide (P.2.length≤2) && loopOk P.1) && (P.2.all loopOk && (P.2.all (apartB P.1) && (nested P.1 P.2 && match P.2 with
  | [a,b]=>apartB a b && (inOf b (a.getD 0 (0,0)) == -1 && inOf a (b.getD 0 (0,0)) == -1)
  | _=>true)))
def plateEdges (P:Plate):List Seg:=edges P.1++P.2.flatMap edges
def plateInB (P:Plate)(p:Pt):Bool:=inOf P.1 p==1 && P.2.all fun h=>inOf h p == -1
def plateOn (P:Plate)(p:Pt):Bool:=onB P.1 p || P.2.any fun h=>onB h p
def plateInOf (P:Plate)(p:Pt):Int:=if plateOn P p then 0 else if plateInB P p then 1 else -1
def plateIn (P:Plate)(p:Pt):Int:=if plateOk P && ptOk p then plateInOf P p else -1
abbrev Frac:=Int × Int
def fracOk (f:Frac):Bool:=decide (0≤f.1) && (decide (f.1≤99999) && (decide (1≤f.2) && (decide (f.2≤99999) && Int.gcd f.1 f.2==1)))
def red (f:Int × Int):Frac:=(f.1 / (Int.gcd f.1 f.2:Int),f.2 / (Int.gcd f.1 f.2:Int))
def cmp0 (a b:Frac):Int:=if a.1*b.2<b.1*a.2 then -1 else if a.1*b.2>b.1*a.2 then 1 else 0
def fracCmp (a b:Frac):Int:=if fracOk a && fracOk b then cmp0 a b else 2
def inR (f:Int × Int):Prop:=0≤f.1∧f.1≤99999∧1≤f.2∧f.2≤99999
theorem fracOk_iff (f:Frac):fracOk f=true ↔ inR f∧Int.gcd f.1 f.2=1:=by
 unfold fracOk inR;simp only [Bool.and_eq_true,decide_eq_true_eq,beq_iff_eq];constructor
 ·
  rintro⟨h1,h2,h3,h4,h5⟩;exact⟨⟨h1,h2,h3,h4⟩,h5⟩
 ·
  rintro⟨⟨h1,h2,h3,h4⟩,h5⟩;exact⟨h1,h2,h3,h4,h5⟩
theorem gcd_pos {f:Int × Int}(h:inR f):0<Int.gcd f.1 f.2:=Int.gcd_pos_of_ne_zero_right _ (by have:=h.2.2.1;omega)
theorem red_mul (f:Int × Int):(red f).1*(Int.gcd f.1 f.2:Int)=f.1∧(red f).2*(Int.gcd f.1 f.2:Int)=f.2:=
 ⟨Int.ediv_mul_cancel (Int.gcd_dvd_left _ _),Int.ediv_mul_cancel (Int.gcd_dvd_right _ _)⟩
theorem red_inR {f:Int × Int}(h:inR f):inR (red f):=by
 have hg:=gcd_pos h;have hm:=red_mul f;obtain⟨h1,h2,h3,h4⟩:=h;have g1:(1:Int)≤(Int.gcd f.1 f.2:Int):=by omega
 refine⟨?_,?_,?_,?_⟩
 ·
  exact Int.ediv_nonneg h1 (by omega)
 ·
  exact Int.le_trans (Int.ediv_le_self _ h1) h2
 ·
  have:(red f).2≠0:=by intro e;rw [e] at hm;omega
  have:=Int.ediv_nonneg (a:=f.2) (b:=(Int.gcd f.1 f.2:Int)) (by omega) (by omega);unfold red at *;simp only at *;omega
 ·
  exact Int.le_trans (Int.ediv_le_self _ (by omega)) h4
theorem red_ok {f:Int × Int}(h:inR f):fracOk (red f)=true:=by
 rw [fracOk_iff];refine⟨red_inR h,?_⟩;unfold red;exact Int.gcd_ediv_gcd_ediv_gcd (gcd_pos h)
theorem red_of_ok {f:Frac}(h:fracOk f=true):red f=f:=by
 rw [fracOk_iff] at h;unfold red;rw [h.2];simp
theorem val_red {f:Int × Int}(h:inR f):val (red f)=val f:=by
 have hg:=gcd_pos h;have hm:=red_mul f;have hr:=red_inR h;have p1:(0:Rat)<((red f).2:Int):=by exact_mod_cast hr.2.2.1
 have p2:(0:Rat)<(f.2:Int):=by exact_mod_cast h.2.2.1
 have e1:=div_mul_self (x:=((red f).1:Int)) p1;have e2:=div_mul_self (x:=(f.1:Int)) p2;unfold val;have k1:(f.1:Rat)=((red f).1:Int)*((Int.gcd f.1 f.2:Int):Rat):=by exact_mod_cast hm.1.symm
 have k2:(f.2:Rat)=((red f).2:Int)*((Int.gcd f.1 f.2:Int):Rat):=by exact_mod_cast hm.2.symm
 have k3:(0:Rat)<((Int.gcd f.1 f.2:Int):Rat):=by exact_mod_cast hg
 generalize ((red f).1:Rat) / ((red f).2:Rat)=x at *;generalize (f.1:Rat) / (f.2:Rat)=y at *;apply eq_of_mul p2;have:(x-y)*(f.2:Rat)=x*(f.2:Rat)-y*(f.2:Rat):=by grind
 rw [this,e2,k1,k2,← Rat.mul_assoc,e1];exact Rat.sub_self
theorem val_le {a b:Int × Int}(ha:1≤a.2)(hb:1≤b.2):val a≤val b ↔ a.1*b.2≤b.1*a.2:=by
 have p1:(0:Rat)<(a.2:Int):=by exact_mod_cast ha
 have p2:(0:Rat)<(b.2:Int):=by exact_mod_cast hb
 have e1:=div_mul_self (x:=(a.1:Int)) p1;have e2:=div_mul_self (x:=(b.1:Int)) p2;have p12:(0:Rat)<(a.2:Int)*(b.2:Int):=Rat.mul_pos p1 p2;unfold val;rw [← cast_le]
 push_cast
 generalize (a.1:Rat) / (a.2:Rat)=x at *;generalize (b.1:Rat) / (b.2:Rat)=y at *;rw [← e1,← e2];have k1:x*(a.2:Rat)*(b.2:Rat)=x*((a.2:Int)*(b.2:Int)):=by grind
 have k2:y*(b.2:Rat)*(a.2:Rat)=y*((a.2:Int)*(b.2:Int)):=by grind
 rw [k1,k2];constructor
 ·
  intro h;exact Rat.mul_le_mul_of_nonneg_right h (Rat.le_of_lt p12)
 ·
  intro h;exact rat_le_of_mul p12 h
theorem cmp0_neg {a b:Frac}(ha:1≤a.2)(hb:1≤b.2):cmp0 a b<0 ↔ val a<val b:=by
 have:=val_le hb ha;rw [← Rat.not_le,this];unfold cmp0
 split
 ·
  simp;omega
 ·
  split <;> simp <;> omega
theorem fracCmp_ok {a b:Frac}(ha:fracOk a=true)(hb:fracOk b=true):fracCmp a b=cmp0 a b:=by unfold fracCmp;rw [ha,hb];rfl
theorem dvd_coprime {d n m:Int}(h:d ∣ n*m)(hg:Int.gcd d n=1):d ∣ m:=by
 have h1:d.natAbs ∣ n.natAbs*m.natAbs:=by rw [← Int.natAbs_mul];exact Int.natAbs_dvd_natAbs.2 h
 have h2:Nat.Coprime d.natAbs n.natAbs:=hg;exact Int.natAbs_dvd_natAbs.1 (Nat.Coprime.dvd_of_dvd_mul_left h2 h1)
theorem frac_eq {a b:Frac}(ha:fracOk a=true)(hb:fracOk b=true)(h:val a=val b):a=b:=by
 have ha':=(fracOk_iff a).1 ha;have hb':=(fracOk_iff b).1 hb;have a2:=ha'.1.2.2.1;have b2:=hb'.1.2.2.1;have h1:=(val_le a2 b2).1 (by rw [h];exact Rat.le_refl);have h2:=(val_le b2 a2).1 (by rw [h];exact Rat.le_refl);have e:a.1*b.2=b.1*a.2:=by omega
 have d1:a.2 ∣ b.2:=by
  have:a.2 ∣ a.1*b.2:=⟨b.1,by rw [e,Int.mul_comm]⟩;exact dvd_coprime this (by rw [Int.gcd_comm];exact ha'.2)
 have d2:b.2 ∣ a.2:=by
  have:b.2 ∣ b.1*a.2:=⟨a.1,by rw [← e,Int.mul_comm]⟩;exact dvd_coprime this (by rw [Int.gcd_comm];exact hb'.2)
 have e2:a.2=b.2:=Int.le_antisymm (Int.le_of_dvd (by omega) d1) (Int.le_of_dvd (by omega) d2);have e1:a.1=b.1:=by
  rw [e2] at e;exact Int.eq_of_mul_eq_mul_right (by omega) e
 exact Prod.ext e1 e2
def segFar (s:Seg)(p:Pt):Frac:=if segOk s && ptOk p then red (far s p) else (0,0)
def least (a b:Frac):Frac:=if cmp0 b a<0 then b else a
theorem mul_bound {x y:Int}(hx : -9≤x)(hx':x≤9)(hy : -9≤y)(hy':y≤9): -81≤x*y∧x*y≤81:=by
 have h1:0≤(9-x)*(9+y):=Int.mul_nonneg (by omega) (by omega);have h2:0≤(9+x)*(9-y):=Int.mul_nonneg (by omega) (by omega);have h3:0≤(9-x)*(9-y):=Int.mul_nonneg (by omega) (by omega);have h4:0≤(9+x)*(9+y):=Int.mul_nonneg (by omega) (by omega);constructor <;> grind
theorem dot_bound {a b c:Pt}(ha:ptOk a=true)(hb:ptOk b=true)(hc:ptOk c=true): -162≤dot a b c∧dot a b c≤162:=by
 rw [ptOk_iff] at ha hb hc;have h1:=mul_bound (x:=b.1-a.1) (y:=c.1-a.1) (by omega) (by omega) (by omega) (by omega);have h2:=mul_bound (x:=b.2-a.2) (y:=c.2-a.2) (by omega) (by omega) (by omega) (by omega);unfold dot;omega
theorem cross_bound {a b c:Pt}(ha:ptOk a=true)(hb:ptOk b=true)(hc:ptOk c=true): -162≤cross a b c∧cross a b c≤162:=by
 rw [ptOk_iff] at ha hb hc;have h1:=mul_bound (x:=b.1-a.1) (y:=c.2-a.2) (by omega) (by omega) (by omega) (by omega);have h2:=mul_bound (x:=b.2-a.2) (y:=c.1-a.1) (by omega) (by omega) (by omega) (by omega);unfold cross;omega
theorem sq_bound {x:Int}(h : -162≤x)(h':x≤162):x*x≤26244:=by
 have:0≤(162-x)*(162+x):=Int.mul_nonneg (by omega) (by omega)
 grind
theorem far_inR {s:Seg}{p:Pt}(hs:segOk s=true)(hp:ptOk p=true):inR (far s p):=by
 have hs':=(segOk_iff s).1 hs;have hd:=nd_of_ok hs;unfold nd at hd;unfold far inR;have b1:=dot_bound hs'.1 hp hp;have b2:=dot_bound hs'.2.1 hp hp;have b3:=dot_bound hs'.1 hs'.2.1 hs'.2.1;have b4:=cross_bound hs'.1 hs'.2.1 hp;have b5:=sq_bound b4.1 b4.2;have b6:=isq_nn (cross s.1 s.2 p);have b7:=dot_self_nn s.1 p;have b8:=dot_self_nn s.2 p
 split
 ·
  simp only;omega
 ·
  split
  ·
   simp only;omega
  ·
   simp only;omega
theorem segFar_ok {s:Seg}{p:Pt}(hs:segOk s=true)(hp:ptOk p=true):fracOk (segFar s p)=true∧val (segFar s p)=val (far s p):=by
 unfold segFar;rw [hs,hp];exact⟨red_ok (far_inR hs hp),val_red (far_inR hs hp)⟩
theorem least_ok {a b:Frac}(ha:fracOk a=true)(hb:fracOk b=true):fracOk (least a b)=true:=by unfold least;split <;> assumption
theorem val_least {a b:Frac}(ha:fracOk a=true)(hb:fracOk b=true):(val (least a b)≤val a∧val (least a b)≤val b)∧(least a b=a∨least a b=b):=by
 have a2:=((fracOk_iff a).1 ha).1.2.2.1;have b2:=((fracOk_iff b).1 hb).1.2.2.1;unfold least
 split
 ·
  rename_i h
  have:=(cmp0_neg b2 a2).1 h;exact⟨⟨Rat.le_of_lt this,Rat.le_refl⟩,.inr rfl⟩
 ·
  rename_i h
  have:val a≤val b:=by rw [← Rat.not_lt,← cmp0_neg b2 a2];exact h
  exact⟨⟨Rat.le_refl,this⟩,.inl rfl⟩
theorem cross_rev (a b p:Pt):cross b a p = - cross a b p:=by unfold cross;grind
theorem meet_comm (s t:Seg):meet s t=meet t s:=by
 rw [Bool.eq_iff_iff,meet_iff,meet_iff];constructor
 ·
  rintro (⟨a,b⟩ | a | a | a | a)
  ·
   exact .inl ⟨b,a⟩
  ·
   exact .inr (.inr (.inr (.inl a)))
  ·
   exact .inr (.inr (.inr (.inr a)))
  ·
   exact .inr (.inl a)
  ·
   exact .inr (.inr (.inl a))
 ·
  rintro (⟨a,b⟩ | a | a | a | a)
  ·
   exact .inl ⟨b,a⟩
  ·
   exact .inr (.inr (.inr (.inl a)))
  ·
   exact .inr (.inr (.inr (.inr a)))
  ·
   exact .inr (.inl a)
  ·
   exact .inr (.inr (.inl a))
theorem meet_of_both {e f:Seg}(he:nd e)(hf:nd f){p:Pt}(h1:has e p=true)(h2:has f p=true):meet e f=true:=by
 obtain⟨u,u0,u1,ux,uy⟩:=at_of_has e p he h1;obtain⟨v,v0,v1,vx,vy⟩:=at_of_has f p hf h2;exact meet_of_common e f he hf u0 u1 v0 v1 (by rw [← ux,vx]) (by rw [← uy,vy])
def ndl (l:List Pt):Prop:=∀ e∈edges l,nd e
theorem ndl_of_ok {l:List Pt}(h:loopOk l=true):ndl l:=fun e he=>nd_of_ok (((loopOk_iff l).1 h).2.2.1 e he)
theorem has_ends (s:Seg):has s s.1=true∧has s s.2=true:=by
 rw [has_iff,has_iff];have:=dot_self_nn s.1 s.2;exact⟨⟨(cross_self _ _).1,by rw [dot_zero];exact Int.le_refl _,by rw [dot_zero];exact this⟩,⟨(cross_self _ _).2,this,Int.le_refl _⟩⟩
section
variable {l h:List Pt} (hl:ndl l) (hh:ndl h) (ap:apartB l h=true)
include hl hh ap
theorem par_edge {f:Seg}(hf:f∈edges h){u:Rat}(u0:0≤u)(u1:u≤1):par l f.1.1 f.1.2=par l (px f.1 f.2 u) (py f.1 f.2 u):=
 par_on l f (hh f hf) hl (fun e he=>(apartB_iff l h).1 ap e he f hf) u0 u1
theorem par_ends {f:Seg}(hf:f∈edges h):par l f.1.1 f.1.2=par l f.2.1 f.2.2:=by
 have:=par_edge hl hh ap hf (u:=1) (by decide) (by decide);rw [this]
 congr 1
 ·
  unfold px;grind
 ·
  unfold py;grind
theorem par_vertex:∀ i,i<h.length→par l (h.getD i (0,0)).1 (h.getD i (0,0)).2=par l (h.getD 0 (0,0)).1 (h.getD 0 (0,0)).2:=by
 intro i
 induction i with
 | zero=>intro _;rfl
 | succ i ih =>
  intro hi;have:=par_ends hl hh ap (f:=ed h i) (mem_edges.2 ⟨i,by omega,rfl⟩);have e1:(ed h i).1=h.getD i (0,0):=rfl;have e2:(ed h i).2=h.getD (i+1) (0,0):=by unfold ed;simp only;rw [Nat.mod_eq_of_lt hi]
  rw [e1,e2] at this;rw [← this];exact ih (by omega)
theorem par_fst {f:Seg}(hf:f∈edges h):par l f.1.1 f.1.2=par l (h.getD 0 (0,0)).1 (h.getD 0 (0,0)).2:=by
 obtain⟨i,hi,rfl⟩:=mem_edges.1 hf;exact par_vertex hl hh ap i hi
theorem on_side {p:Pt}(hp:onB h p=true):onB l p=false∧par l p.1 p.2=par l (h.getD 0 (0,0)).1 (h.getD 0 (0,0)).2:=by
 obtain⟨f,hf,hfp⟩:=(onB_iff h p).1 hp;constructor
 ·
  rw [onB_false];intro e he
  cases k:has e p with
  | false=>rfl
  | true =>
   have:=meet_of_both (hl e he) (hh f hf) k hfp;rw [(apartB_iff l h).1 ap e he f hf] at this;cases this
 ·
  obtain⟨u,u0,u1,ux,uy⟩:=at_of_has f p (hh f hf) hfp;rw [ux,uy,← par_edge hl hh ap hf u0 u1,par_fst hl hh ap hf]
end
theorem first_on {h:List Pt}(hn:0<h.length):onB h (h.getD 0 (0,0))=true:=by
 rw [onB_iff];exact⟨ed h 0,mem_edges.2 ⟨0,hn,rfl⟩,(has_ends _).1⟩
theorem inOf_vals (l:List Pt)(p:Pt):inOf l p=0∨inOf l p=1∨inOf l p = -1:=by
 unfold inOf;split
 ·
  exact .inl rfl
 ·
  split
  ·
   exact .inr (.inl rfl)
  ·
   exact .inr (.inr rfl)
theorem inOf_zero (l:List Pt)(p:Pt):inOf l p=0 ↔ onB l p=true:=by
 unfold inOf;split
 ·
  simp [*]
 ·
  split <;> simp [*]
theorem on_inOf {l h:List Pt}(hl:ndl l)(hh:ndl h)(ap:apartB l h=true)(hn:0<h.length){p:Pt}(hp:onB h p=true):inOf l p=inOf l (h.getD 0 (0,0)):=by
 obtain⟨a1,a2⟩:=on_side hl hh ap hp;obtain⟨b1,_⟩:=on_side hl hh ap (first_on hn);unfold inOf;rw [a1,b1,a2]
theorem apartB_comm (a b:List Pt):apartB a b=apartB b a:=by
 rw [Bool.eq_iff_iff,apartB_iff,apartB_iff];constructor
 ·
  intro h e he f hf;rw [meet_comm];exact h f hf e he
 ·
  intro h e he f hf;rw [meet_comm];exact h f hf e he
structure PlateGood (P:Plate):Prop where
 outer:loopOk P.1=true
 few:P.2.length≤2
 holes:∀ h∈P.2,loopOk h=true
 away:∀ h∈P.2,apartB P.1 h=true
 inside:∀ h∈P.2,inOf P.1 (h.getD 0 (0,0))=1
 two:∀ a b,P.2=[a,b]→apartB a b=true∧inOf b (a.getD 0 (0,0)) = -1∧inOf a (b.getD 0 (0,0)) = -1
theorem plateOk_iff (P:Plate):plateOk P=true ↔ PlateGood P:=by
 unfold plateOk nested;obtain⟨o,hs⟩:=P;simp only [Bool.and_eq_true,decide_eq_true_eq,List.all_eq_true,beq_iff_eq];constructor
 ·
  rintro⟨⟨h1,h2⟩,h3,h4,h5,h6⟩;refine⟨h2,h1,h3,h4,h5,?_⟩;intro a b e;simp only at e;subst e;simp only [Bool.and_eq_true,beq_iff_eq] at h6;exact h6
 ·
  intro g;refine⟨⟨g.few,g.outer⟩,g.holes,g.away,g.inside,?_⟩;have hf:=g.few
  match hs,g,hf with
  | [],_,_=>rfl
  | [a],_,_=>rfl
  | [a,b],g,_ =>
   obtain⟨x,y,z⟩:=g.two a b rfl;simp only [x,y,z];rfl
  | a::b::c::r,_,hf=>simp at hf
theorem loop_pos {l:List Pt}(h:loopOk l=true):0<l.length:=by have:=((loopOk_iff l).1 h).1;omega
theorem PlateGood.on_hole {P:Plate}(g:PlateGood P){h:List Pt}(hh:h∈P.2){p:Pt}(hp:onB h p=true):inOf P.1 p=1:=by
 rw [on_inOf (ndl_of_ok g.outer) (ndl_of_ok (g.holes h hh)) (g.away h hh) (loop_pos (g.holes h hh)) hp];exact g.inside h hh
theorem fracOk_whole {n:Int}(h0:0≤n)(h1:n≤99999):fracOk (n,1)=true:=by
 rw [fracOk_iff];refine⟨⟨h0,h1,?_,?_⟩,?_⟩
 ·
  show (1:Int)≤1;decide
 ·
  show (1:Int)≤99999;decide
 ·
  exact Int.gcd_one_right ..
def back (s:Seg):Seg:=(s.2,s.1)
theorem segMeet_iff (s t:Seg):segMeet s t=true ↔ segOk s=true∧segOk t=true∧meet s t=true:=by unfold segMeet;simp
end Mort
end
section
namespace Go.Proofs.YtkefmnmoaomlhaaDoor.X
open Go.RowKit Go.Proofs.YtkefmnmoaomlhaaDoorW.PrintWords Go.Proofs.YtkefmnmoaomlhaaDoorW.PrintLast Go.Proofs.YtkefmnmoaomlhaaDoorW.PrintMore
attribute [local go_sem] max2_int min2_int max_two min_two max_three min_three max_four min_four
set_option linter.unusedVariables false
set_option linter.unusedSimpArgs false
def impl_commonDivisor.l0:Nat→Int→Int→Option (Int)
 | 0,_,_=>none
 | k+1,x0,x1=>if x1=0 then (some x0) else (impl_commonDivisor.l0 k x1 (Int.tmod x0 x1))
def impl_commonDivisor.f (k:Nat)(a0:Int)(a1:Int):Option (Int):=impl_commonDivisor.l0 k a0 a1
set_option maxHeartbeats 8000000 in
set_option maxRecDepth 100000 in
theorem impl_commonDivisor.calls (k:Nat)(a0:Int)(a1:Int)(r:Int)(w:World)(h:impl_commonDivisor.f k a0 a1=some r):
  Calls Tryd.prog 59 #[.int .i64 a0,.int .i64 a1] w fun e w'=>e=.returned (.int .i64 r)∧Drawn0 w w':=by
 have H:(impl_commonDivisor.l0 k a0 a1)=some r:=h;clear h;have H':=Aside0.mk H;clear H;go_enter Tryd.func59,Tryd.ntmps59;go_wp2
 repeat (go_quiet (fail);try go_wp2)
 go_loopg [0,1] k (fun kq v0 v1 w'=>∃ (x0_1:Int) (x1_1:Int),v0=.int .i64 x0_1∧v1=.int .i64 x1_1∧Aside0 (impl_commonDivisor.l0 kq x0_1 x1_1=some r)∧Aside0 (kq≤k)∧Drawn0 w w')
 case atStart=>exact⟨(a0),(a1),(by first | rfl | (simp;done) | (simp [*];done)),(by first | rfl | (simp;done) | (simp [*];done)),H',⟨Nat.le_refl _⟩,by repeat (first | exact Drawn0.refl _ | apply Drawn0.step)⟩
 case round =>
  clear H';obtain⟨x0_1,x1_1,rfl,rfl,HA,HK1,⟨m1,rfl⟩⟩:=hrel
  cases gk with
  | zero=>exact absurd HA.out (by simp [impl_commonDivisor.l0])
  | succ k1 =>
   have H:=HA.out;clear HA;simp only [impl_commonDivisor.l0] at H;by_cases c3:x1_1=0
   ·
    rw [if_pos c3] at H;have c3b0:(x1_1==0)=true:=beq_iff_eq.mpr c3;have c3b1:(x1_1 != 0)=false:=bne_eq_false_iff_eq.mpr c3;clear c3;obtain rfl:=Option.some.inj H;go_wp2
    repeat (go_quiet (fail);try go_wp2)
    go_ret;exact⟨by first | rfl | (simp;done) | (simp [*];done),by repeat (first | exact Drawn0.refl _ | apply Drawn0.step)⟩
   ·
    rw [if_neg c3] at H;have c3b0:(x1_1==0)=false:=beq_eq_false_iff_ne.mpr c3;have c3b1:(x1_1 != 0)=true:=bne_iff_ne.mpr c3;have H':=Aside0.mk H;clear H;go_wp2
    repeat (go_quiet (fail);try go_wp2)
    go_roundg k1
    case measure=>have:=HK1.out;omega
    case rel=>exact⟨(x1_1),(Int.tmod x0_1 x1_1),(by first | rfl | (simp;done) | (simp [*];done)),(by first | rfl | (simp;done) | (simp [*];done)),H',⟨by have:=HK1.out;omega⟩,by repeat (first | exact Drawn0.refl _ | apply Drawn0.step)⟩
end Go.Proofs.YtkefmnmoaomlhaaDoor.X
end
section
set_option linter.unusedVariables false
set_option linter.unusedSimpArgs false
namespace Go.Proofs.YtkefmnmoaomlhaaDoor.X
open Go.RowKit Go.Proofs.YtkefmnmoaomlhaaDoorW.PrintWords Go.Proofs.YtkefmnmoaomlhaaDoorW.PrintLast Go.Proofs.YtkefmnmoaomlhaaDoorW.PrintMore
open Mort
theorem gcd_rounds (b:Nat):∀ (a:Nat) (k:Nat),b<k→impl_commonDivisor.l0 k (a:Int) (b:Int)=some ((Nat.gcd a b:Nat):Int):=by
 induction b using Nat.strongRecOn with
 | _ b ih =>
  intro a k hk;obtain⟨k,rfl⟩:∃ m,k=m+1:=⟨k-1,by omega⟩;simp only [impl_commonDivisor.l0];by_cases h0:b=0
  ·
   subst h0;rw [if_pos (by rfl),Nat.gcd_zero_right]
  ·
   rw [if_neg (by omega)];have hm:Int.tmod (a:Int) (b:Int)=((a % b:Nat):Int):=rfl;rw [hm,ih (a % b) (Nat.mod_lt _ (by omega)) b k (by have:=Nat.mod_lt a (show 0<b by omega);omega)];rw [Nat.gcd_comm b (a % b),← Nat.gcd_rec,Nat.gcd_comm]
theorem gcd_told {n d:Int}(hn:0≤n)(hd:0≤d):∃ k,impl_commonDivisor.f k n d=some (Int.gcd n d:Int):=by
 obtain⟨a,rfl⟩:=Int.eq_ofNat_of_zero_le hn;obtain⟨b,rfl⟩:=Int.eq_ofNat_of_zero_le hd;exact⟨b+1,gcd_rounds b a (b+1) (by omega)⟩
set_option maxHeartbeats 1000000 in
set_option maxRecDepth 100000 in
theorem amountOf_ok (n d:Int)(w:World)(h:fracOk (n,d)=true):
  Calls Tryd.prog 60 #[.agg #[.int .i64 n,.int .i64 d]] w fun e w'=>e=.returned (.tuple #[.iface 133 (.agg #[.int .i64 n,.int .i64 d]),.nilIface])∧Below w.heap.size w w':=by
 have hok:=(fracOk_iff _).1 h;obtain⟨⟨h1,h2,h3,h4⟩,h5⟩:=hok;simp only at h1 h2 h3 h4 h5;obtain⟨k,hk⟩:=gcd_told h1 (show 0≤d by omega);rw [h5] at hk;have HK:=Aside0.mk hk;clear hk h5 h;have b1:decide (n<0)=false:=decide_eq_false (by omega);have b2:decide (99999<n)=false:=decide_eq_false (by omega);have b3:decide (d<1)=false:=decide_eq_false (by omega);have b4:decide (99999<d)=false:=decide_eq_false (by omega);go_enter Tryd.func60,Tryd.ntmps60;go_wp2_with (go_at_call 59;refine (impl_commonDivisor.calls k n d 1 _ HK.out).mono ?_;rintro e w' ⟨rfl,⟨nd,rfl⟩⟩);go_ret2;exact⟨rfl,by repeat (first | exact Below.refl _ _ | apply below_alloc | apply pw_below_drewN | apply below_drew1)⟩
theorem cell_boxed {w:World}{v:Value}(o:Obj){p:Addr}(h:w.cell? p=some v):(w.alloc o).cell? p=some v:=pw_cell_below (below_alloc (Below.refl _ _) o) h
set_option maxHeartbeats 1000000 in
set_option maxRecDepth 100000 in
theorem amountOf_bad (n d:Int)(a:Addr)(w:World)(hc:w.cell? ⟨0,0,none⟩=some (.iface 156 (.pointer (some a))))(h:fracOk (n,d)=false):
  Calls Tryd.prog 60 #[.agg #[.int .i64 n,.int .i64 d]] w fun e w'=>e=.returned (.tuple #[.nilIface,.iface 156 (.pointer (some a))])∧Below w.heap.size w w':=by
 have hc1:=cell_boxed (.cells #[.int .i64 n,.int .i64 d] 35) hc;by_cases h1:n<0
 ·
  have b1:decide (n<0)=true:=decide_eq_true h1;clear h1 h;go_enter Tryd.func60,Tryd.ntmps60;go_wp2;go_region
  all_goals (go_wp2;go_ret2;exact⟨rfl,by repeat (first | exact Below.refl _ _ | apply below_alloc | apply pw_below_drewN | apply below_drew1)⟩)
 have b1:decide (n<0)=false:=decide_eq_false h1;by_cases h2:99999<n
 ·
  have b2:decide (99999<n)=true:=decide_eq_true h2;clear h2 h;go_enter Tryd.func60,Tryd.ntmps60;go_wp2;go_region
  all_goals (go_wp2;go_ret2;exact⟨rfl,by repeat (first | exact Below.refl _ _ | apply below_alloc | apply pw_below_drewN | apply below_drew1)⟩)
 have b2:decide (99999<n)=false:=decide_eq_false h2;by_cases h3:d<1
 ·
  have b3:decide (d<1)=true:=decide_eq_true h3;clear h3 h;go_enter Tryd.func60,Tryd.ntmps60;go_wp2;go_region
  all_goals (go_wp2;go_ret2;exact⟨rfl,by repeat (first | exact Below.refl _ _ | apply below_alloc | apply pw_below_drewN | apply below_drew1)⟩)
 have b3:decide (d<1)=false:=decide_eq_false h3;by_cases h4:99999<d
 ·
  have b4:decide (99999<d)=true:=decide_eq_true h4;clear h4 h;go_enter Tryd.func60,Tryd.ntmps60;go_wp2;go_region
  all_goals (go_wp2;go_ret2;exact⟨rfl,by repeat (first | exact Below.refl _ _ | apply below_alloc | apply pw_below_drewN | apply below_drew1)⟩)
 have b4:decide (99999<d)=false:=decide_eq_false h4;have h5:Int.gcd n d≠1:=by
  intro e;rw [(fracOk_iff _).2 ⟨⟨by simp only;omega,by simp only;omega,by simp only;omega,by simp only;omega⟩,e⟩] at h;cases h
 obtain⟨k,hk⟩:=gcd_told (show 0≤n by omega) (show 0≤d by omega);generalize Int.gcd n d=q at h5 hk;have b5:((q:Int) != 1)=true:=bne_iff_ne.mpr (by omega);have HK:=Aside0.mk hk;clear hk h5 h h1 h2 h3 h4;go_enter Tryd.func60,Tryd.ntmps60;go_wp2_with (go_at_call 59;refine (impl_commonDivisor.calls k n d q _ HK.out).mono ?_;rintro e w' ⟨rfl,⟨nd,rfl⟩⟩);go_region
 all_goals (go_wp2;go_ret2;exact⟨rfl,by repeat (first | exact Below.refl _ _ | apply below_alloc | apply pw_below_drewN | apply below_drew1)⟩)
theorem methAgainst (v:Value)(w:World):(Go.method 296 133 v "loop.example/mortiser/impl.against").run Tryd.prog w=.ok (137,v) w:=by kernel_rfl
theorem methParts (v:Value)(w:World):(Go.method 296 133 v "loop.example/mortiser/impl.parts").run Tryd.prog w=.ok (138,v) w:=by kernel_rfl
theorem aheadAgainst (v:Value)(w:World):(nilAhead 296 133 v "loop.example/mortiser/impl.against").run Tryd.prog w=.ok (some false) w:=by kernel_rfl
theorem aheadParts (v:Value)(w:World):(nilAhead 296 133 v "loop.example/mortiser/impl.parts").run Tryd.prog w=.ok (some false) w:=by kernel_rfl
set_option maxHeartbeats 1000000 in
set_option maxRecDepth 100000 in
theorem ratio_parts (n d:Int)(w:World):
  Calls Tryd.prog 138 #[.agg #[.int .i64 n,.int .i64 d]] w fun e w'=>e=.returned (.tuple #[.int .i64 n,.int .i64 d])∧Below w.heap.size w w':=by
 go_enter Tryd.func138,Tryd.ntmps138;go_wp2
 try (go_region;all_goals go_wp2)
 all_goals (go_ret2;exact⟨rfl,by repeat (first | exact Below.refl _ _ | apply below_alloc | apply pw_below_drewN | apply below_drew1)⟩)
theorem prod_wrap {x y:Int}(hx:0≤x)(hx':x≤99999)(hy:0≤y)(hy':y≤99999):wrap64 (x*y)=x*y:=by
 have h1:0≤x*y:=Int.mul_nonneg hx hy;have h2:x*y≤99999*99999:=Int.mul_le_mul hx' hy' hy (by decide);unfold wrap64;omega
set_option maxHeartbeats 1000000 in
set_option maxRecDepth 100000 in
theorem ratio_against (n d m q:Int)(w:World)(h1:inR (n,d))(h2:inR (m,q)):
  Calls Tryd.prog 137 #[.agg #[.int .i64 n,.int .i64 d],.iface 133 (.agg #[.int .i64 m,.int .i64 q])] w fun x w'=>x=.returned (.int .i64 (cmp0 (n,d) (m,q)))∧Below w.heap.size w w':=by
 obtain⟨a1,a2,a3,a4⟩:=h1;obtain⟨b1,b2,b3,b4⟩:=h2;simp only at a1 a2 a3 a4 b1 b2 b3 b4;have hw1:=prod_wrap a1 a2 (show 0≤q by omega) b4;have hw2:=prod_wrap b1 b2 (show 0≤d by omega) a4;have hm:=methParts;have ha:=aheadParts;have hr:cmp0 (n,d) (m,q)=if n*q<m*d then -1 else if m*d<n*q then 1 else 0:=rfl;rw [hr];clear hr a1 a2 a3 a4 b1 b2 b3 b4;have key:∀ (v:Int) (c1:Bool) (c2:Bool),(v=if c1 then -1 else if c2 then 1 else 0)→decide (n*q<m*d)=c1→decide (m*d<n*q)=c2 →
   Calls Tryd.prog 137 #[.agg #[.int .i64 n,.int .i64 d],.iface 133 (.agg #[.int .i64 m,.int .i64 q])] w fun x w'=>x=.returned (.int .i64 v)∧Below w.heap.size w w':=by
  intro v c1 c2 hv t1 t2;cases c1 <;> cases c2 <;> simp only [if_true,if_false,Bool.false_eq_true] at hv <;> subst hv
  all_goals
   go_enter Tryd.func137,Tryd.ntmps137;go_wp2_with (go_at_call 138;refine (ratio_parts m q _).mono ?_;rintro e w1 ⟨rfl,hb⟩;have hk0:=pw_cell_below hb ((blk_cell (heap_alloc_new w _) 0).trans rfl);have hk1:=pw_cell_below hb ((blk_cell (heap_alloc_new w _) 1).trans rfl);have HB:=a0_ (below_step (below_alloc (Below.refl w.heap.size w) _) hb);clear hb);go_region
   all_goals (go_wp2;go_ret;exact⟨rfl,by repeat (first | exact HB.out | apply below_alloc | apply pw_below_drewN | apply below_drew1)⟩)
 refine key _ (decide (n*q<m*d)) (decide (m*d<n*q)) ?_ rfl rfl;simp only [decide_eq_true_eq]
def impl_FracCmp.f (a0_0 a0_1 a1_0 a1_1:Int):Option Int:=some (fracCmp (a0_0,a0_1) (a1_0,a1_1))
set_option maxHeartbeats 1000000 in
set_option maxRecDepth 100000 in
theorem impl_FracCmp.calls (a0_0 a0_1 a1_0 a1_1:Int)(r:Int)(w:World)(hE:ErrW w)(h:impl_FracCmp.f a0_0 a0_1 a1_0 a1_1=some r):
  Calls Tryd.prog 21 #[.agg #[.int .i64 a0_0,.int .i64 a0_1],.agg #[.int .i64 a1_0,.int .i64 a1_1]] w fun e w'=>e=.returned (.int .i64 r)∧Below w.heap.size w w':=by
 have h:=Option.some.inj h;obtain⟨a,hc⟩:=hE;have hm:=methAgainst;have ha:=aheadAgainst;unfold fracCmp at h
 cases hk:fracOk (a0_0,a0_1) with
 | false =>
  rw [hk] at h;simp only [Bool.false_and,Bool.false_eq_true,if_false] at h;subst h;have hc0:=cell_boxed (.cells #[.int .i64 a1_0,.int .i64 a1_1] 35) (cell_boxed (.cells #[.int .i64 a0_0,.int .i64 a0_1] 35) hc);go_enter Tryd.func21,Tryd.ntmps21
  go_wp2_with (first
   | (go_at_call 60;refine (amountOf_bad a0_0 a0_1 a _ hc0 hk).mono ?_;rintro e w1 ⟨rfl,hb⟩;have hc1:=pw_cell_below hb hc0;have HB:=a0_ (below_step (below_alloc (below_alloc (Below.refl w.heap.size w) _) _) hb);clear hb)
   | (go_at_call 61;refine (is_same a _).mono ?_;rintro e w' ⟨rfl,rfl⟩))
  go_ret;exact⟨rfl,HB.out⟩
 | true =>
  have hB0:=below_alloc (below_alloc (Below.refl w.heap.size w) (.cells #[.int .i64 a0_0,.int .i64 a0_1] 35)) (.cells #[.int .i64 a1_0,.int .i64 a1_1] 35);have hc0:=cell_boxed (.cells #[.int .i64 a1_0,.int .i64 a1_1] 35) (cell_boxed (.cells #[.int .i64 a0_0,.int .i64 a0_1] 35) hc);have hx0:=(blk_cell (heap_alloc_new (w.alloc (.cells #[.int .i64 a0_0,.int .i64 a0_1] 35)) (.cells #[.int .i64 a1_0,.int .i64 a1_1] 35)) 0).trans rfl;have hx1:=(blk_cell (heap_alloc_new (w.alloc (.cells #[.int .i64 a0_0,.int .i64 a0_1] 35)) (.cells #[.int .i64 a1_0,.int .i64 a1_1] 35)) 1).trans rfl;rw [World.size_alloc] at hx0 hx1;have HB0:=Aside0.mk hB0;have HX0:=Aside0.mk hx0;have HX1:=Aside0.mk hx1;have HC0:=Aside0.mk hc0;have HC:=Aside0.mk hc;clear hB0 hx0 hx1 hc0 hc
  cases hk2:fracOk (a1_0,a1_1) with
  | false =>
   rw [hk,hk2] at h;simp only [Bool.and_false,Bool.false_eq_true,if_false] at h;subst h;go_enter Tryd.func21,Tryd.ntmps21;go_wp2_with fail;refine (amountOf_ok a0_0 a0_1 _ hk).mono ?_;rintro e w1 ⟨rfl,hb⟩;have hc1:=pw_cell_below hb HC0.out;have hx0:=pw_cell_below hb HX0.out;have hx1:=pw_cell_below hb HX1.out;have HB:=a0_ (below_step HB0.out hb);clear hb HB0 HX0 HX1 HC0;go_wp2_with fail;refine (is_nil a _).mono ?_;rintro e w' ⟨rfl,rfl⟩;go_wp2_with fail;refine (amountOf_bad a1_0 a1_1 a _ hc1 hk2).mono ?_;rintro e w2 ⟨rfl,hb⟩;have hc2:=pw_cell_below hb hc1;have HB2:=a0_ (below_step HB.out hb);clear hb hc1 hx0 hx1;go_wp2_with fail;refine (is_same a _).mono ?_;rintro e w' ⟨rfl,rfl⟩;go_wp2_with fail;go_ret;exact⟨rfl,HB2.out⟩
  | true =>
   rw [hk,hk2] at h;simp only [Bool.and_true,if_true] at h;subst h;go_enter Tryd.func21,Tryd.ntmps21;go_wp2_with fail;refine (amountOf_ok a0_0 a0_1 _ hk).mono ?_;rintro e w1 ⟨rfl,hb⟩;have hc1:=pw_cell_below hb HC0.out;have hx0:=pw_cell_below hb HX0.out;have hx1:=pw_cell_below hb HX1.out;have HB:=a0_ (below_step HB0.out hb);clear hb HB0 HX0 HX1 HC0;go_wp2_with fail;refine (is_nil a _).mono ?_;rintro e w' ⟨rfl,rfl⟩;go_wp2_with fail;refine (amountOf_ok a1_0 a1_1 _ hk2).mono ?_;rintro e w2 ⟨rfl,hb⟩;have hc2:=pw_cell_below hb hc1;have HB2:=a0_ (below_step HB.out hb);clear hb hc1 hx0 hx1;go_wp2_with fail;refine (is_nil a _).mono ?_;rintro e w' ⟨rfl,rfl⟩;go_wp2_with fail;refine (ratio_against a0_0 a0_1 a1_0 a1_1 _ ((fracOk_iff _).1 hk).1 ((fracOk_iff _).1 hk2).1).mono ?_;rintro e w3 ⟨rfl,hb⟩;have HB3:=a0_ (below_step HB2.out hb);clear hb;go_wp2_with fail;go_ret;exact⟨rfl,HB3.out⟩
end Go.Proofs.YtkefmnmoaomlhaaDoor.X
end
section
namespace Go.Proofs.YtkefmnmoaomlhaaDoor.X
open Go.RowKit Go.Proofs.YtkefmnmoaomlhaaDoorW.PrintWords Go.Proofs.YtkefmnmoaomlhaaDoorW.PrintLast Go.Proofs.YtkefmnmoaomlhaaDoorW.PrintMore
attribute [local go_sem] max2_int min2_int max_two min_two max_three min_three max_four min_four
set_option linter.unusedVariables false
set_option linter.unusedSimpArgs false
def spec_l1Gcd.l0:Nat→Int→Int→Option (Int)
 | 0,_,_=>none
 | k+1,x0,x1=>if x1>0 then (if x1=0 then (none) else (spec_l1Gcd.l0 k x1 (Int.tmod x0 x1))) else (some x0)
def spec_l1Gcd.f (k:Nat)(a0:Int)(a1:Int):Option (Int):=spec_l1Gcd.l0 k a0 a1
set_option maxHeartbeats 8000000 in
set_option maxRecDepth 100000 in
theorem spec_l1Gcd.calls (k:Nat)(a0:Int)(a1:Int)(r:Int)(w:World)(h:spec_l1Gcd.f k a0 a1=some r):
  Calls Tryd.prog 121 #[.int .i64 a0,.int .i64 a1] w fun e w'=>e=.returned (.int .i64 r)∧Drawn0 w w':=by
 have H:(spec_l1Gcd.l0 k a0 a1)=some r:=h;clear h;have H':=Aside0.mk H;clear H;go_enter Tryd.func121,Tryd.ntmps121;go_wp2
 repeat (go_quiet (fail);try go_wp2)
 go_loopg [0,1] k (fun kq v0 v1 w'=>∃ (x0_1:Int) (x1_1:Int),v0=.int .i64 x0_1∧v1=.int .i64 x1_1∧Aside0 (spec_l1Gcd.l0 kq x0_1 x1_1=some r)∧Aside0 (kq≤k)∧Drawn0 w w')
 case atStart=>exact⟨(a0),(a1),(by first | rfl | (simp;done) | (simp [*];done)),(by first | rfl | (simp;done) | (simp [*];done)),H',⟨Nat.le_refl _⟩,by repeat (first | exact Drawn0.refl _ | apply Drawn0.step)⟩
 case round =>
  clear H';obtain⟨x0_1,x1_1,rfl,rfl,HA,HK1,⟨m1,rfl⟩⟩:=hrel
  cases gk with
  | zero=>exact absurd HA.out (by simp [spec_l1Gcd.l0])
  | succ k1 =>
   have H:=HA.out;clear HA;simp only [spec_l1Gcd.l0] at H;by_cases c3:x1_1>0
   ·
    rw [if_pos c3] at H;have c3b0:decide (0<x1_1)=true:=decide_eq_true c3;clear c3;by_cases c4:x1_1=0
    ·
     rw [if_pos c4] at H;exact absurd H (by simp)
    ·
     rw [if_neg c4] at H;have c4b0:(x1_1==0)=false:=beq_eq_false_iff_ne.mpr c4;have c4b1:(x1_1 != 0)=true:=bne_iff_ne.mpr c4;have H':=Aside0.mk H;clear H;go_wp2
     repeat (go_quiet (fail);try go_wp2)
     go_roundg k1
     case measure=>have:=HK1.out;omega
     case rel=>exact⟨(x1_1),(Int.tmod x0_1 x1_1),(by first | rfl | (simp;done) | (simp [*];done)),(by first | rfl | (simp;done) | (simp [*];done)),H',⟨by have:=HK1.out;omega⟩,by repeat (first | exact Drawn0.refl _ | apply Drawn0.step)⟩
   ·
    rw [if_neg c3] at H;have c3b0:decide (0<x1_1)=false:=decide_eq_false c3;clear c3;obtain rfl:=Option.some.inj H;go_wp2
    repeat (go_quiet (fail);try go_wp2)
    go_ret;exact⟨by first | rfl | (simp;done) | (simp [*];done),by repeat (first | exact Drawn0.refl _ | apply Drawn0.step)⟩
def spec_l1Of.f (k:Nat)(a0:Int)(a1:Int):Option (Int × Int):=(spec_l1Gcd.f k a0 a1).bind fun t560=>(if t560=0 then (none) else (some (wrap64 (Int.tdiv a0 t560),wrap64 (Int.tdiv a1 t560))))
def spec_l1Of.T2:Bool × List (List Nat × List Nat):=(true,[([],[]),([],[]),([0,1],[0,1]),([],[]),([],[]),([3,4],[3,4]),([2,5],[2,5]),([6,0,1,2,3,4,5,6],[6])])
def spec_l1Of.B2:List Nat:=[0,0,3,0,0,24,63,127]
theorem spec_l1Of.tab2:rtab .any (opsOf Tryd.f119 2)=spec_l1Of.T2:=by kernel_rfl
theorem spec_l1Of.bits2:waitsOk spec_l1Of.T2.2 spec_l1Of.B2=true:=by kernel_rfl
set_option maxHeartbeats 8000000 in
set_option maxRecDepth 100000 in
theorem spec_l1Of.calls (k:Nat)(a0:Int)(a1:Int)(r1:Int)(r2:Int)(w:World)(h:spec_l1Of.f k a0 a1=some (r1,r2)):
  Calls Tryd.prog 119 #[.int .i64 a0,.int .i64 a1] w fun e w'=>e=.returned (.agg #[.int .i64 r1,.int .i64 r2])∧Below w.heap.size w w':=by
 have hu35:=Tryd.underlying35;have HB:=a0_ (Below.refl w.heap.size w);have H:((spec_l1Gcd.f k a0 a1).bind fun t560=>(if t560=0 then (none) else (some (wrap64 (Int.tdiv a0 t560),wrap64 (Int.tdiv a1 t560)))))=some (r1,r2):=h;clear h;replace H:=Option.bind_eq_some_iff.mp H;obtain⟨t560,A30,H⟩:=H
 (try dsimp only at H)
 have A3:=Aside0.mk A30;clear A30;by_cases c4:t560=0
 ·
  rw [if_pos c4] at H;exact absurd H (by simp)
 ·
  rw [if_neg c4] at H;have c4b0:(t560==0)=false:=beq_eq_false_iff_ne.mpr c4;have c4b1:(t560 != 0)=true:=bne_iff_ne.mpr c4;simp only [Option.some.injEq,Prod.mk.injEq] at H;obtain⟨rfl,rfl⟩:=H;go_enter Tryd.func119,Tryd.ntmps119
  try go_wp2_with (first | ((with_reducible refine gate_dst (N:=4) rfl ?_);refine bx_ (N:=4) (cs:=#[.int .i64 0,.int .i64 0]) (t:=35) (h:=?_);intro gb559 hg w5 hbox hb;have BK559:=a0_ (hbox);have GW559:=gh_ HB hg;have GE559:=gh_ HB hg;replace HB:=sb_ HB hb;clear hb hbox hg) | ((with_reducible refine gate_callee (f:=121) rfl ?_);refine gL_ (some 8) Tryd.func121 #[.int .i64 a0,.int .i64 a1] (h:=?_);(with_reducible refine (spec_l1Gcd.calls k a0 a1 t560 _ A3.out).mono ?_);rintro e w' ⟨rfl,⟨nd,rfl⟩⟩;refine⟨_,rfl,?_⟩;(try (rw [drewN_self w5];generalize hq_:World.drewN w5 _=w5;have n0_:Aside0 (w5.heap[gb559]?=some (.cells #[.int .i64 0,.int .i64 0] 35 (0,0))):=⟨by rw [← hq_];exact uq_⟩;have n1_:Aside0 (Below w.heap.size w w5):=⟨by rw [← hq_];exact hB_⟩;clear BK559 HB hq_;have BK559:=n0_;have HB:=n1_;clear n0_ n1_))))
  replace BK559:=a0_ (blk_drew BK559.out);replace HB:=a0_ (below_drew1 HB.out);refine start_ (n:=8) (S:=fun w'=>True) (ds:=[]) (Array.replicate 8 false) (by kernel_rfl) rfl rfl trivial (fun hHeld=>?_);refine with_tabW spec_l1Of.tab2 spec_l1Of.bits2 (fun HT_ HW_=>?_);generalize w5.drew=w6 at BK559 HB hHeld ⊢
  refine pu_ HT_ 0 9 (bm 8 1) ?_;refine pu_ HT_ 1 10 (bm 8 3) ?_;refine pu_ HT_ 2 11 (bm 8 7) ?_;refine pu_ HT_ 3 12 (bm 8 15) ?_;refine pu_ HT_ 4 13 (bm 8 31) ?_;refine pu_ HT_ 5 14 (bm 8 63) ?_;refine pu_ HT_ 6 15 (bm 8 127) ?_;refine one_ (i:=7) (N:=none) (bm 8 255) rfl rfl (one_of HT_.out (by kernel_rfl)) (by decide) (fun K hK=>?_);have hs7:w6.cell? ⟨gb559,0,none⟩=some (.int .i64 0):=bc_;have hfs7:=blk_frozen BK559.out 0;have hs8:w6.cell? ⟨gb559,1,none⟩=some (.int .i64 0):=bc_;have hfs8:=blk_frozen BK559.out 1;refine skip_ (w1:=?_) (by rfl) rfl ?_ ?_;rotate_left
  ·
   go_simp;rfl
  refine hK.out _ _ trivial (fun hHeld=>?_);clear hK K;refine done_ (done_of HT_.out (by kernel_rfl)) ?_
  try go_wp2
  refine bodyPost_ret (results_cell_row rfl _ _ gb559 35 #[.int .i64 (wrap64 (Int.tdiv a0 t560)),.int .i64 (wrap64 (Int.tdiv a1 t560))] (0,0) _ rfl (by (with_reducible repeat (first | refine blk_drewN ?_ _ | refine blk_drew ?_ | refine blk_alloc ?_ _));refine blk_put (cs:=#[.int .i64 (wrap64 (Int.tdiv a0 t560)),.int .i64 0]) ?_ 1 _ rfl;(with_reducible repeat (first | refine blk_drewN ?_ _ | refine blk_drew ?_ | refine blk_alloc ?_ _));refine blk_put (cs:=#[.int .i64 0,.int .i64 0]) ?_ 0 _ rfl;(with_reducible repeat (first | refine blk_drewN ?_ _ | refine blk_drew ?_ | refine blk_alloc ?_ _));exact BK559.out) Tryd.underlying35 rfl (by kernel_rfl)) rfl ?_;exact⟨rr_,hB_⟩
def spec_l6In.f (a0:Int)(a1:Int)(a2:Int):Option (Bool):=if a0≥a1 then (some (decide (a0≤a2))) else (some false)
set_option maxHeartbeats 8000000 in
set_option maxRecDepth 100000 in
theorem spec_l6In.calls (a0:Int)(a1:Int)(a2:Int)(r:Bool)(w:World)(h:spec_l6In.f a0 a1 a2=some r):
  Calls Tryd.prog 58 #[.int .i64 a0,.int .i64 a1,.int .i64 a2] w fun e w'=>e=.returned (.bool r)∧Drawn0 w w':=by
 have H:(if a0≥a1 then (some (decide (a0≤a2))) else (some false))=some r:=h;clear h;by_cases c4:a0≥a1
 ·
  rw [if_pos c4] at H;have c4b0:decide (a1≤a0)=true:=decide_eq_true c4;clear c4;obtain rfl:=Option.some.inj H;go_enter Tryd.func58,Tryd.ntmps58;go_wp2;go_ret;exact⟨by first | rfl | (simp;done) | (simp [*];done),by repeat (first | exact Drawn0.refl _ | apply Drawn0.step)⟩
 ·
  rw [if_neg c4] at H;have c4b0:decide (a1≤a0)=false:=decide_eq_false c4;clear c4;obtain rfl:=Option.some.inj H;go_enter Tryd.func58,Tryd.ntmps58;go_wp2;go_ret;exact⟨by first | rfl | (simp;done) | (simp [*];done),by repeat (first | exact Drawn0.refl _ | apply Drawn0.step)⟩
def IsS123 (w0 W:World)(g:Nat)(f0:List Int)(f1:Int):Prop:=∃ A0 c0,W.heap[g]?=some (.cells #[.slice A0 f0.length c0,.int .i64 f1] 123 (0,0))∧w0.heap.size≤g∧Kd.C (Kd.int .u8) w0 A0 f0.length f0
theorem IsS123.grown {w0 W:World}{g:Nat}{f0:List Int}{f1:Int}{W1:World}{row:Option Nat}(h:IsS123 w0 W g f0 f1)(hw:W.grownBy W1 row)(hne:some g≠row):IsS123 w0 W1 g f0 f1:=by
 obtain⟨A0,c0,hb,hg,hr0⟩:=h;exact⟨A0,c0,blk_grown hb hw hne,hg,hr0⟩
theorem IsS123.own_neN {w0 W:World}{g:Nat}{f0:List Int}{f1:Int}{α:Type}{d:Kd α}{e:Nat}{base:Nat}{ok:Nat→Prop}{v:Value}{xs:List α}(h:IsS123 w0 W g f0 f1)(ho:Kd.N d e W base ok v xs)(ht:e≠123):some g≠v.ownBlock:=by
 obtain⟨A0,c0,hb,hg,hr0⟩:=h;exact Kd.N_ne ho hb ht
theorem IsS123.fresh {w0 W:World}{g:Nat}{f0:List Int}{f1:Int}(h:IsS123 w0 W g f0 f1):∀ k,W.heap.size≤k→k≠g:=by
 obtain⟨A0,c0,hb,hg,hr0⟩:=h;exact Kd.freshB hb
theorem IsS123.kept {w0 W:World}{g:Nat}{f0:List Int}{f1:Int}{W1:World}{S:Nat→Prop}(h:IsS123 w0 W g f0 f1)(hk:Kept W W1 S)(hne:¬ S g):IsS123 w0 W1 g f0 f1:=by
 obtain⟨A0,c0,hb,hg,hr0⟩:=h;exact⟨A0,c0,blk_kept hb hk hne,hg,hr0⟩
theorem IsS123.below {w0 W:World}{g:Nat}{f0:List Int}{f1:Int}{W1:World}(h:IsS123 w0 W g f0 f1)(hw:Below W.heap.size W W1):IsS123 w0 W1 g f0 f1:=h.grown (grown_of_below hw none) (by simp)
theorem IsS123.alloc {w0 W:World}{g:Nat}{f0:List Int}{f1:Int}(h:IsS123 w0 W g f0 f1)(o:Obj):IsS123 w0 (W.alloc o) g f0 f1:=h.below (below_alloc (Below.refl _ _) o)
theorem IsS123.drewN {w0 W:World}{g:Nat}{f0:List Int}{f1:Int}(h:IsS123 w0 W g f0 f1)(m:Nat):IsS123 w0 (W.drewN m) g f0 f1:=h
theorem IsS123.drew {w0 W:World}{g:Nat}{f0:List Int}{f1:Int}(h:IsS123 w0 W g f0 f1):IsS123 w0 W.drew g f0 f1:=h
theorem IsS123.at_ {w0 W:World}{g:Nat}{f0:List Int}{f1:Int}{w':World}{m:Nat}(hq:W.drewN m=w')(h:IsS123 w0 W g f0 f1):IsS123 w0 w' g f0 f1:=by subst hq;exact IsS123.drewN h m
theorem IsS123.apart {w0 W:World}{g:Nat}{f0:List Int}{f1:Int}{α:Type}{d:Kd α}{e:Nat}{base:Nat}{ok:Nat→Prop}{v:Value}{xs:List α}(h:IsS123 w0 W g f0 f1)(ho:d.R e W base ok v xs)(ht:∀ q,q∈e::d.E→q≠123):d.R e W base (fun k=>ok k∧k≠g) v xs:=by
 obtain⟨A0,c0,hb,hg,hr0⟩:=h;exact Kd.R_types ho hb ht
theorem IsS123.own_ne {w0 W:World}{g:Nat}{f0:List Int}{f1:Int}{α:Type}{d:Kd α}{e:Nat}{base:Nat}{ok:Nat→Prop}{v:Value}{xs:List α}(h:IsS123 w0 W g f0 f1)(ho:d.R e W base ok v xs)(ht:e≠123):some g≠v.ownBlock:=by
 obtain⟨A0,c0,hb,hg,hr0⟩:=h;exact Kd.R_ne ho hb ht
theorem IsS123.lt {w0 W:World}{g:Nat}{f0:List Int}{f1:Int}(h:IsS123 w0 W g f0 f1):g<W.heap.size:=by
 obtain⟨A0,c0,hb,hg,hr0⟩:=h;exact blk_lt hb
theorem IsS123.ge {w0 W:World}{g:Nat}{f0:List Int}{f1:Int}(h:IsS123 w0 W g f0 f1):w0.heap.size≤g:=by
 obtain⟨A0,c0,hb,hg,hr0⟩:=h;exact hg
theorem IsS123.ne_blk {w0 W:World}{g:Nat}{f0:List Int}{f1:Int}{a:Nat}{cs:Array Value}{t:TypeId}{fr:Nat × Nat}(h:IsS123 w0 W g f0 f1)(hb2:W.heap[a]?=some (.cells cs t fr))(ht:t≠123):g≠a:=by
 obtain⟨A0,c0,hb,hg,hr0⟩:=h;rintro rfl;rw [hb] at hb2;injection hb2 with hb2;injection hb2 with _ ht2;exact ht ht2.symm
theorem IsS123.far {w0 W:World}{g:Nat}{f0:List Int}{f1:Int}{p:Addr}(h:IsS123 w0 W g f0 f1)(hne:g≠p.block)(u:Value):IsS123 w0 (W.setCell p u) g f0 f1:=by
 obtain⟨A0,c0,hb,hg,hr0⟩:=h;exact⟨A0,c0,blk_far hb hne u,hg,hr0⟩
theorem cellS123_0 {W:World}{g:Nat}{A0:Option Addr}{c0:Nat}{f0:List Int}{f1:Int}(h:W.heap[g]?=some (.cells #[.slice A0 f0.length c0,.int .i64 f1] 123 (0,0))):W.cell? ⟨g,0,none⟩=some (.slice A0 f0.length c0):=(blk_cell h 0).trans rfl
theorem cellS123_1 {W:World}{g:Nat}{A0:Option Addr}{c0:Nat}{f0:List Int}{f1:Int}(h:W.heap[g]?=some (.cells #[.slice A0 f0.length c0,.int .i64 f1] 123 (0,0))):W.cell? ⟨g,1,none⟩=some (.int .i64 f1):=(blk_cell h 1).trans rfl
theorem IsS123.set_1 {w0 W:World}{g:Nat}{f0:List Int}{f1:Int}(h:IsS123 w0 W g f0 f1)(x:Int):IsS123 w0 (W.setCell ⟨g,1,none⟩ (.int .i64 x)) g f0 x:=by
 obtain⟨A0,c0,hb,hg,hr0⟩:=h;exact⟨A0,c0,by simpa using blk_set hb 1 (.int .i64 x),hg,hr0⟩
theorem IsS123.new (w0 W:World)(A0:Option Addr)(c0:Nat)(f0:List Int)(f1:Int)(hB:Below w0.heap.size w0 W)(hr0:Kd.C (Kd.int .u8) w0 A0 f0.length f0):IsS123 w0 (W.alloc (.cells #[.slice A0 f0.length c0,.int .i64 f1] 123)) W.heap.size f0 f1:=⟨A0,c0,by simpa using heap_alloc_new W _,hB.size,hr0⟩
def spec_l6Open.f (l0:List Int):Option (List Int × Int):=if (l0.length:Int)>2000 then (if 2000≤(l0.length:Int) then (some (l0.take 2000,0)) else (none)) else (some (l0,0))
set_option maxHeartbeats 8000000 in
set_option maxRecDepth 100000 in
theorem spec_l6Open.calls (A0:Option Addr)(c0:Nat)(l0:List Int)(r1:List Int)(r2:Int)(w0 w:World)(hB:Below w0.heap.size w0 w)(hr0:Kd.C (Kd.int .u8) w0 A0 l0.length l0)(hc0:l0.length≤c0)(h:spec_l6Open.f l0=some (r1,r2)):
  Calls Tryd.prog 49 #[.slice A0 l0.length c0] w fun e w'=>∃ g_:Nat,e=.returned (.pointer (some ⟨g_,0,none⟩))∧IsS123 w0 w' g_ r1 r2∧Below w0.heap.size w0 w'∧Below w.heap.size w w':=by
 have hu123:=Tryd.underlying123;have HR0:=Aside0.mk hr0;have HC0:=Aside0.mk hc0;clear hr0 hc0;have HBW:=Aside0.mk (Below.refl w.heap.size w);have HW0:=Aside0.mk hB.size;have HB:=Aside0.mk hB;clear hB;have H:(if (l0.length:Int)>2000 then (if 2000≤(l0.length:Int) then (some (l0.take 2000,0)) else (none)) else (some (l0,0)))=some (r1,r2):=h;clear h;by_cases c2:(l0.length:Int)>2000
 ·
  rw [if_pos c2] at H;have c2b0:decide (2000<(l0.length:Int))=true:=decide_eq_true c2;have c2b1:decide (2000<l0.length)=true:=decide_eq_true (by omega);clear c2;by_cases c3:2000≤(l0.length:Int)
  ·
   rw [if_pos c3] at H;have c3b0:=eq_true c3;have c3b1:decide (2000≤(l0.length:Int))=true:=decide_eq_true c3;clear c3;simp only [Option.some.injEq,Prod.mk.injEq] at H;obtain⟨rfl,rfl⟩:=H;obtain⟨i04,hi04,_,hsz4,_⟩:=info_parts info5;obtain⟨hcut4,hA4,hC4⟩:=print_take_of (P:=Tryd.prog) (Value.int .u8) 0 22 5 .i64 Tryd.underlying22 hi04 hsz4 A0 c0 l0 2000 (by omega) (of_decide_eq_true (by first | (with_reducible assumption) | assumption)) HC0.out;have HR101:=Aside0.mk (Kd.C_of_reads (h1:=fun _=>rfl) (hA4 _ (Kd.reads_of_C HR0.out)));have HC101:=Aside0.mk hC4;clear hA4 hC4 hi04 hsz4;go_enter Tryd.func49,Tryd.ntmps49;go_wp2_with (first | ((with_reducible refine gate_dst (N:=10) rfl ?_);refine box_event ?hg (N:=10) ?hd (cs:=#[.slice A0 (l0.take 2000).length c0,.int .i64 0]) (t:=123) ?hr ?_;(case hd=>rfl);(case hg=>rfl);(case hr=>first | (go_simp;done) | (go_simp;rfl));intro gb102 hg w5 hbox hb;have n0_:=Aside0.mk (below_step HBW.out hb);have n1_:=Aside0.mk (below_step (by repeat (first | (with_reducible first | exact HB.out | apply below_alloc | apply pw_below_drewN | apply below_drew1) | exact HB.out)) hb);have n2_:=Aside0.mk (hbox);have n3_:=Aside0.mk ((by rw [hg];exact (below_size (by repeat (first | (with_reducible first | exact HBW.out | apply below_alloc | apply pw_below_drewN | apply below_drew1) | exact HBW.out))):w.heap.size≤gb102));have n4_:=Aside0.mk ((Nat.le_trans HW0.out (by rw [hg];exact (below_size (by repeat (first | (with_reducible first | exact HBW.out | apply below_alloc | apply pw_below_drewN | apply below_drew1) | exact HBW.out))):w.heap.size≤gb102):w0.heap.size≤gb102));clear HBW;clear HB;have HBW:=n0_;have HB:=n1_;have BK102:=n2_;have GW102:=n3_;have GE102:=n4_;clear n0_ n1_ n2_ n3_ n4_;clear hb hbox hg));go_ret
   exact⟨_,rfl,(show IsS123 w0 _ gb102 (l0.take 2000) 0 from ⟨_,_,by (with_reducible repeat (first | refine blk_drewN ?_ _ | refine blk_drew ?_ | refine blk_alloc ?_ _));exact BK102.out,GE102.out,HR101.out⟩),by repeat (first | (with_reducible first | exact HB.out | apply below_alloc | apply pw_below_drewN | apply below_drew1 | refine below_set ?_ GE102.out) | exact HB.out),by repeat (first | (with_reducible first | exact HBW.out | apply below_alloc | apply pw_below_drewN | apply below_drew1 | refine below_set ?_ GW102.out) | exact HBW.out)⟩
  ·
   rw [if_neg c3] at H;exact absurd H (by simp)
 ·
  rw [if_neg c2] at H;have c2b0:decide (2000<(l0.length:Int))=false:=decide_eq_false c2;have c2b1:decide (2000<l0.length)=false:=decide_eq_false (by omega);clear c2;simp only [Option.some.injEq,Prod.mk.injEq] at H;obtain⟨rfl,rfl⟩:=H;go_enter Tryd.func49,Tryd.ntmps49;go_wp2_with (first | ((with_reducible refine gate_dst (N:=10) rfl ?_);refine box_event ?hg (N:=10) ?hd (cs:=#[.slice A0 l0.length c0,.int .i64 0]) (t:=123) ?hr ?_;(case hd=>rfl);(case hg=>rfl);(case hr=>first | (go_simp;done) | (go_simp;rfl));intro gb103 hg w6 hbox hb;have n0_:=Aside0.mk (below_step HBW.out hb);have n1_:=Aside0.mk (below_step (by repeat (first | (with_reducible first | exact HB.out | apply below_alloc | apply pw_below_drewN | apply below_drew1) | exact HB.out)) hb);have n2_:=Aside0.mk (hbox);have n3_:=Aside0.mk ((by rw [hg];exact (below_size (by repeat (first | (with_reducible first | exact HBW.out | apply below_alloc | apply pw_below_drewN | apply below_drew1) | exact HBW.out))):w.heap.size≤gb103));have n4_:=Aside0.mk ((Nat.le_trans HW0.out (by rw [hg];exact (below_size (by repeat (first | (with_reducible first | exact HBW.out | apply below_alloc | apply pw_below_drewN | apply below_drew1) | exact HBW.out))):w.heap.size≤gb103):w0.heap.size≤gb103));clear HBW;clear HB;have HBW:=n0_;have HB:=n1_;have BK103:=n2_;have GW103:=n3_;have GE103:=n4_;clear n0_ n1_ n2_ n3_ n4_;clear hb hbox hg));go_ret
  exact⟨_,rfl,(show IsS123 w0 _ gb103 l0 0 from ⟨_,_,by (with_reducible repeat (first | refine blk_drewN ?_ _ | refine blk_drew ?_ | refine blk_alloc ?_ _));exact BK103.out,GE103.out,HR0.out⟩),by repeat (first | (with_reducible first | exact HB.out | apply below_alloc | apply pw_below_drewN | apply below_drew1 | refine below_set ?_ GE103.out) | exact HB.out),by repeat (first | (with_reducible first | exact HBW.out | apply below_alloc | apply pw_below_drewN | apply below_drew1 | refine below_set ?_ GW103.out) | exact HBW.out)⟩
end Go.Proofs.YtkefmnmoaomlhaaDoor.X
end
section
set_option linter.unusedVariables false
namespace Go.Proofs.YtkefmnmoaomlhaaDoor.X
open Go.RowKit Go.Proofs.YtkefmnmoaomlhaaDoorW.PrintWords Go.Proofs.YtkefmnmoaomlhaaDoorW.PrintLast Go.Proofs.YtkefmnmoaomlhaaDoorW.PrintMore
theorem hI_ {P:Prop}(h:P:=by repeat (first | (with_reducible first | exact HI0.out | apply IsS123.alloc | apply IsS123.drewN | apply IsS123.drew | apply IsS123.set_1 | refine IsS123.far ?_ (Aside0.out (by assumption)) _) | exact HI0.out)):P:=h
theorem hBs_ {P:Prop}(h:P:=by repeat (first | (with_reducible first | exact HB.out | apply below_alloc | apply pw_below_drewN | apply below_drew1 | refine below_set ?_ (IsS123.ge HI0.out) | refine below_set ?_ (Aside0.out (by assumption))) | exact HB.out)):P:=h
theorem sl_ {w0 W W':World}{g gb:Nat}{b:List Int}{p:Int}(_:Aside0 (IsS123 w0 W g b p))(hg:gb=W'.heap.size)(h:IsS123 w0 W' g b p:=by repeat (first | (with_reducible first | exact HI0.out | apply IsS123.alloc | apply IsS123.drewN | apply IsS123.drew | apply IsS123.set_1 | refine IsS123.far ?_ (Aside0.out (by assumption)) _) | exact HI0.out)):Aside0 (g≠gb):=⟨by rw [hg];exact Nat.ne_of_lt (IsS123.lt h)⟩
theorem sr_ {w0 W W':World}{g gb:Nat}{b:List Int}{p:Int}(_:Aside0 (IsS123 w0 W g b p))(hg:gb=W'.heap.size)(h:IsS123 w0 W' g b p:=by repeat (first | (with_reducible first | exact HI0.out | apply IsS123.alloc | apply IsS123.drewN | apply IsS123.drew | apply IsS123.set_1 | refine IsS123.far ?_ (Aside0.out (by assumption)) _) | exact HI0.out)):Aside0 (gb≠g):=⟨by rw [hg];exact Nat.ne_of_gt (IsS123.lt h)⟩
end Go.Proofs.YtkefmnmoaomlhaaDoor.X
end
section
namespace Go.Proofs.YtkefmnmoaomlhaaDoor.X
open Go.RowKit Go.Proofs.YtkefmnmoaomlhaaDoorW.PrintWords Go.Proofs.YtkefmnmoaomlhaaDoorW.PrintLast Go.Proofs.YtkefmnmoaomlhaaDoorW.PrintMore
attribute [local go_sem] max2_int min2_int max_two min_two max_three min_three max_four min_four
set_option linter.unusedVariables false
set_option linter.unusedSimpArgs false
def spec_l6Rd_pick.j0:Nat→Int→Bool→List Int→Int→Option (Int × Int)
 | 0,_,_,_,_=>none
 | k+1,x1,x24,x1000,x1001=>if x24=true then (some (0,x1001)) else (if (wrap64 (x1001-1))<(x1000.length:Int) then (if 0≤(wrap64 (x1001-1)) then (if x1=0 then (none) else (some (Int.tmod (wrap64 (rd x1000 (wrap64 (x1001-1)))) x1,x1001))) else (none)) else (if (x1000.length:Int)=0 then (none) else (if 0≤(Int.tmod (wrap64 (x1001-1)) (x1000.length:Int)) then (if (Int.tmod (wrap64 (x1001-1)) (x1000.length:Int))<(x1000.length:Int) then (if 0≤(Int.tmod (wrap64 ((wrap64 ((wrap64 (x1001-1))*7))+3)) (x1000.length:Int)) then (if (Int.tmod (wrap64 ((wrap64 ((wrap64 (x1001-1))*7))+3)) (x1000.length:Int))<(x1000.length:Int) then (if x1=0 then (none) else (some (Int.tmod (Go.bits .xor .i64 (wrap64 ((wrap64 ((wrap64 ((wrap64 ((wrap64 (rd x1000 (Int.tmod (wrap64 (x1001-1)) (x1000.length:Int))))*131))+(wrap64 ((wrap64 (rd x1000 (Int.tmod (wrap64 ((wrap64 ((wrap64 (x1001-1))*7))+3)) (x1000.length:Int))))*1117))))+(wrap64 ((wrap64 (x1001-1))*29))))+(wrap64 ((wrap64 (Int.tdiv (wrap64 (x1001-1)) (x1000.length:Int)))*53)))) (wrap64 (Int.tdiv (wrap64 ((wrap64 ((wrap64 ((wrap64 ((wrap64 (rd x1000 (Int.tmod (wrap64 (x1001-1)) (x1000.length:Int))))*131))+(wrap64 ((wrap64 (rd x1000 (Int.tmod (wrap64 ((wrap64 ((wrap64 (x1001-1))*7))+3)) (x1000.length:Int))))*1117))))+(wrap64 ((wrap64 (x1001-1))*29))))+(wrap64 ((wrap64 (Int.tdiv (wrap64 (x1001-1)) (x1000.length:Int)))*53)))) 64))) x1,x1001))) else (none)) else (none)) else (none)) else (none))))
def spec_l6Rd_pick.f (k:Nat)(s0_0:List Int)(s0_1:Int)(a1:Int):Option (Int × Int):=if a1<1 then (spec_l6Rd_pick.j0 k a1 true s0_0 (wrap64 (s0_1+1))) else (spec_l6Rd_pick.j0 k a1 ((s0_0.length:Int)==0) s0_0 (wrap64 (s0_1+1)))
set_option maxHeartbeats 8000000 in
set_option maxRecDepth 100000 in
theorem spec_l6Rd_pick.calls (k:Nat)(g:Nat)(s0_0:List Int)(s0_1:Int)(a1:Int)(r1:Int)(r2:Int)(w0 w:World)(hI:IsS123 w0 w g s0_0 s0_1)(hB:Below w0.heap.size w0 w)(h:spec_l6Rd_pick.f k s0_0 s0_1 a1=some (r1,r2)):
  Calls Tryd.prog 74 #[.pointer (some ⟨g,0,none⟩),.int .i64 a1] w fun e w'=>e=.returned (.int .i64 r1)∧IsS123 w0 w' g s0_0 r2∧Below w0.heap.size w0 w'∧KeepBut w w' g none:=by
 have HI0:=Aside0.mk hI;have HK:=a0_ (KeepBut.refl w g none);have HL:=Aside0.mk hB.size;clear hI;have HW0:=Aside0.mk hB.size;have HB:=Aside0.mk hB;clear hB;have H:(if a1<1 then (spec_l6Rd_pick.j0 k a1 true s0_0 (wrap64 (s0_1+1))) else (spec_l6Rd_pick.j0 k a1 ((s0_0.length:Int)==0) s0_0 (wrap64 (s0_1+1))))=some (r1,r2):=h;clear h;have HC3:=Aside0.mk H;clear H;obtain⟨ASz4_0,cSz4_0,HGz4,hgz4,HSz4_0⟩:=HI0.out;have hcz4_0:=cellS123_0 HGz4;have hcz4_1:=cellS123_1 HGz4;have hfz4_1:=blk_frozen HGz4 1;clear HGz4 hgz4;go_enter Tryd.func74,Tryd.ntmps74;go_upto_region 2 with (fail)
 repeat (go_quiet (fail);go_upto_region 2 with (fail))
 go_cut [24] (fun v24 wc=>∃ (kq:Nat) (x24_2:Bool),v24=.bool x24_2∧Aside0 (spec_l6Rd_pick.j0 kq a1 x24_2 s0_0 (wrap64 (s0_1+1))=some (r1,r2))∧Aside0 (kq≤k)∧Aside0 (IsS123 w0 wc g s0_0 (wrap64 (s0_1+1)))∧Aside0 (KeepBut w wc g none)∧Aside0 (Below w0.heap.size w0 wc))
 case first =>
  have H:=HC3.out;clear HC3;by_cases c5:a1<1
  ·
   rw [if_pos c5] at H;have c5b0:decide (a1<1)=true:=decide_eq_true c5;clear c5
   (first | rw [c5b0] | (simp only [i64_w,i32_w];rw [c5b0]) | skip)
   have H':=Aside0.mk H;clear H;go_wp2
   repeat (go_quiet (fail);try go_wp2)
   go_meet
   case rel=>exact⟨_,(true),(by first | rfl | (simp;done) | (simp [*];done)),H',⟨by first | omega | exact Nat.le_refl _⟩,⟨by repeat (first | (with_reducible first | exact HI0.out | apply IsS123.alloc | apply IsS123.drewN | apply IsS123.drew | apply IsS123.set_1) | exact HI0.out)⟩,⟨by repeat (first | (with_reducible first | exact HK.out | apply KeepBut.set_ | apply keep_drewN | apply keep_drew | apply keep_alloc) | exact HK.out)⟩,⟨by repeat (first | (with_reducible first | exact HB.out | apply below_alloc | apply pw_below_drewN | apply below_drew1 | refine below_set ?_ (IsS123.ge HI0.out)) | exact HB.out)⟩⟩
  ·
   rw [if_neg c5] at H;have c5b0:decide (a1<1)=false:=decide_eq_false c5;clear c5
   (first | rw [c5b0] | (simp only [i64_w,i32_w];rw [c5b0]) | skip)
   have H':=Aside0.mk H;clear H;obtain⟨ASz6_0,cSz6_0,HGz6,hgz6,HSz6_0⟩:=HI0.out;have hcz6_0:=cellS123_0 HGz6;have hcz6_1:=cellS123_1 HGz6;have hfz6_1:=blk_frozen HGz6 1;clear HGz6 hgz6;go_wp2
   repeat (go_quiet (fail);try go_wp2)
   go_meet
   case rel=>exact⟨_,(((s0_0.length:Int)==0)),(by first | rfl | (simp;done) | (simp [*];done)),H',⟨by first | omega | exact Nat.le_refl _⟩,⟨by repeat (first | (with_reducible first | exact HI0.out | apply IsS123.alloc | apply IsS123.drewN | apply IsS123.drew | apply IsS123.set_1) | exact HI0.out)⟩,⟨by repeat (first | (with_reducible first | exact HK.out | apply KeepBut.set_ | apply keep_drewN | apply keep_drew | apply keep_alloc) | exact HK.out)⟩,⟨by repeat (first | (with_reducible first | exact HB.out | apply below_alloc | apply pw_below_drewN | apply below_drew1 | refine below_set ?_ (IsS123.ge HI0.out)) | exact HB.out)⟩⟩
 case rest =>
  clear HC3;obtain⟨kq,x24_2,rfl,HA,HJ2,HI0,HK,HB⟩:=hcut
  cases kq with
  | zero=>exact absurd HA.out (by simp [spec_l6Rd_pick.j0])
  | succ kj2 =>
   have H:=HA.out;clear HA;simp only [spec_l6Rd_pick.j0] at H;by_cases c7:x24_2=true
   ·
    subst c7;rw [if_pos rfl] at H
    (try dsimp only at H)
    simp only [Option.some.injEq,Prod.mk.injEq] at H;obtain⟨rfl,rfl⟩:=H;go_wp2
    repeat (go_quiet (fail);try go_wp2)
    go_ret;exact⟨rr_,by repeat (first | (with_reducible first | exact HI0.out | apply IsS123.alloc | apply IsS123.drewN | apply IsS123.drew | apply IsS123.set_1) | exact HI0.out),by repeat (first | (with_reducible first | exact HB.out | apply below_alloc | apply pw_below_drewN | apply below_drew1 | refine below_set ?_ (IsS123.ge HI0.out)) | exact HB.out),by repeat (first | (with_reducible first | exact HK.out | apply KeepBut.set_ | apply keep_drewN | apply keep_drew | apply keep_alloc) | exact HK.out)⟩
   ·
    replace c7:=Bool.eq_false_iff.mpr c7;subst c7;rw [if_neg (show ¬ (false=true) by decide)] at H
    (try dsimp only at H)
    by_cases c8:(wrap64 ((wrap64 (s0_1+1))-1))<(s0_0.length:Int)
    ·
     rw [if_pos c8] at H;have c8b0:decide ((wrap64 ((wrap64 (s0_1+1))-1))<(s0_0.length:Int))=true:=decide_eq_true c8;clear c8;obtain⟨ji9,hji9⟩:∃ j_:Int,(wrap64 ((wrap64 (s0_1+1))-1))=j_:=⟨_,rfl⟩;replace H:(if 0≤(ji9) then (if a1=0 then (none) else (some (Int.tmod (wrap64 (rd s0_0 (ji9))) a1,(wrap64 (s0_1+1))))) else (none))=some (r1,r2):=by first | (rw [hji9] at H;exact H) | (simp only [hji9] at H ⊢;exact H)
     (try rw [hji9] at c8b0)
     have hji9w:(IntKind.i64.wrap ((wrap64 (s0_1+1))-1))=ji9:=(i64_w _).trans hji9;by_cases c10:0≤(ji9)
     ·
      rw [if_pos c10] at H;have c10b0:decide (0≤(ji9))=true:=decide_eq_true c10;clear c10;by_cases c11:a1=0
      ·
       rw [if_pos c11] at H;exact absurd H (by simp)
      ·
       rw [if_neg c11] at H;have c11b0:(a1==0)=false:=beq_eq_false_iff_ne.mpr c11;have c11b1:(a1 != 0)=true:=bne_iff_ne.mpr c11;simp only [Option.some.injEq,Prod.mk.injEq] at H;obtain⟨rfl,rfl⟩:=H;obtain⟨ASz12_0,cSz12_0,HGz12,hgz12,HSz12_0⟩:=HI0.out;have hcz12_0:=cellS123_0 HGz12;have hcz12_1:=cellS123_1 HGz12;have hfz12_1:=blk_frozen HGz12 1;clear HGz12 hgz12;have p104:0≤((ji9):Int):=od_;have q104:(ji9)<(s0_0.length:Int):=od_;obtain⟨ad104,e104,hx104_0⟩:=Kd.at_int HSz12_0 (ji9) p104 q104;cases e104;replace hx104_0:=pw_cell_below HB.out hx104_0;replace p104:=eq_true p104;replace q104:=eq_true q104;go_wp2
       repeat (go_quiet (fail);try go_wp2)
       go_ret;exact⟨by first | rfl | (simp [errW_none,errW_some] <;> rfl) | (simp only [← hji9];first | rfl | (simp [errW_none,errW_some] <;> rfl)) | (simp [*,errW_none,errW_some] <;> rfl),by repeat (first | (with_reducible first | exact HI0.out | apply IsS123.alloc | apply IsS123.drewN | apply IsS123.drew | apply IsS123.set_1) | exact HI0.out),by repeat (first | (with_reducible first | exact HB.out | apply below_alloc | apply pw_below_drewN | apply below_drew1 | refine below_set ?_ (IsS123.ge HI0.out)) | exact HB.out),by repeat (first | (with_reducible first | exact HK.out | apply KeepBut.set_ | apply keep_drewN | apply keep_drew | apply keep_alloc) | exact HK.out)⟩
     ·
      rw [if_neg c10] at H;exact absurd H (by simp)
    ·
     rw [if_neg c8] at H;have c8b0:decide ((wrap64 ((wrap64 (s0_1+1))-1))<(s0_0.length:Int))=false:=decide_eq_false c8;clear c8;by_cases c13:(s0_0.length:Int)=0
     ·
      rw [if_pos c13] at H;exact absurd H (by simp)
     ·
      rw [if_neg c13] at H;have c13b0:((s0_0.length:Int)==0)=false:=beq_eq_false_iff_ne.mpr c13;have c13b1:((s0_0.length:Int) != 0)=true:=bne_iff_ne.mpr c13;have c13b2:¬ (s0_0=[]):=fun h_=>c13 (by rw [h_];rfl)
      obtain⟨ji14,hji14⟩:∃ j_:Int,(Int.tmod (wrap64 ((wrap64 (s0_1+1))-1)) (s0_0.length:Int))=j_:=⟨_,rfl⟩;replace H:(if 0≤(ji14) then (if (ji14)<(s0_0.length:Int) then (if 0≤(Int.tmod (wrap64 ((wrap64 ((wrap64 ((wrap64 (s0_1+1))-1))*7))+3)) (s0_0.length:Int)) then (if (Int.tmod (wrap64 ((wrap64 ((wrap64 ((wrap64 (s0_1+1))-1))*7))+3)) (s0_0.length:Int))<(s0_0.length:Int) then (if a1=0 then (none) else (some (Int.tmod (Go.bits .xor .i64 (wrap64 ((wrap64 ((wrap64 ((wrap64 ((wrap64 (rd s0_0 (ji14)))*131))+(wrap64 ((wrap64 (rd s0_0 (Int.tmod (wrap64 ((wrap64 ((wrap64 ((wrap64 (s0_1+1))-1))*7))+3)) (s0_0.length:Int))))*1117))))+(wrap64 ((wrap64 ((wrap64 (s0_1+1))-1))*29))))+(wrap64 ((wrap64 (Int.tdiv (wrap64 ((wrap64 (s0_1+1))-1)) (s0_0.length:Int)))*53)))) (wrap64 (Int.tdiv (wrap64 ((wrap64 ((wrap64 ((wrap64 ((wrap64 (rd s0_0 (ji14)))*131))+(wrap64 ((wrap64 (rd s0_0 (Int.tmod (wrap64 ((wrap64 ((wrap64 ((wrap64 (s0_1+1))-1))*7))+3)) (s0_0.length:Int))))*1117))))+(wrap64 ((wrap64 ((wrap64 (s0_1+1))-1))*29))))+(wrap64 ((wrap64 (Int.tdiv (wrap64 ((wrap64 (s0_1+1))-1)) (s0_0.length:Int)))*53)))) 64))) a1,(wrap64 (s0_1+1))))) else (none)) else (none)) else (none)) else (none))=some (r1,r2):=by first | (rw [hji14] at H;exact H) | (simp only [hji14] at H ⊢;exact H)
      by_cases c15:0≤(ji14)
      ·
       rw [if_pos c15] at H;have c15b0:decide (0≤(ji14))=true:=decide_eq_true c15;clear c15;by_cases c16:(ji14)<(s0_0.length:Int)
       ·
        rw [if_pos c16] at H;have c16b0:decide ((ji14)<(s0_0.length:Int))=true:=decide_eq_true c16;clear c16;obtain⟨ji17,hji17⟩:∃ j_:Int,(Int.tmod (wrap64 ((wrap64 ((wrap64 ((wrap64 (s0_1+1))-1))*7))+3)) (s0_0.length:Int))=j_:=⟨_,rfl⟩;replace H:(if 0≤(ji17) then (if (ji17)<(s0_0.length:Int) then (if a1=0 then (none) else (some (Int.tmod (Go.bits .xor .i64 (wrap64 ((wrap64 ((wrap64 ((wrap64 ((wrap64 (rd s0_0 (ji14)))*131))+(wrap64 ((wrap64 (rd s0_0 (ji17)))*1117))))+(wrap64 ((wrap64 ((wrap64 (s0_1+1))-1))*29))))+(wrap64 ((wrap64 (Int.tdiv (wrap64 ((wrap64 (s0_1+1))-1)) (s0_0.length:Int)))*53)))) (wrap64 (Int.tdiv (wrap64 ((wrap64 ((wrap64 ((wrap64 ((wrap64 (rd s0_0 (ji14)))*131))+(wrap64 ((wrap64 (rd s0_0 (ji17)))*1117))))+(wrap64 ((wrap64 ((wrap64 (s0_1+1))-1))*29))))+(wrap64 ((wrap64 (Int.tdiv (wrap64 ((wrap64 (s0_1+1))-1)) (s0_0.length:Int)))*53)))) 64))) a1,(wrap64 (s0_1+1))))) else (none)) else (none))=some (r1,r2):=by first | (rw [hji17] at H;exact H) | (simp only [hji17] at H ⊢;exact H)
        by_cases c18:0≤(ji17)
        ·
         rw [if_pos c18] at H;have c18b0:decide (0≤(ji17))=true:=decide_eq_true c18;clear c18;by_cases c19:(ji17)<(s0_0.length:Int)
         ·
          rw [if_pos c19] at H;have c19b0:decide ((ji17)<(s0_0.length:Int))=true:=decide_eq_true c19;clear c19;by_cases c20:a1=0
          ·
           rw [if_pos c20] at H;exact absurd H (by simp)
          ·
           rw [if_neg c20] at H;have c20b0:(a1==0)=false:=beq_eq_false_iff_ne.mpr c20;have c20b1:(a1 != 0)=true:=bne_iff_ne.mpr c20;simp only [Option.some.injEq,Prod.mk.injEq] at H;obtain⟨rfl,rfl⟩:=H;obtain⟨ASz21_0,cSz21_0,HGz21,hgz21,HSz21_0⟩:=HI0.out;have hcz21_0:=cellS123_0 HGz21;have hcz21_1:=cellS123_1 HGz21;have hfz21_1:=blk_frozen HGz21 1;clear HGz21 hgz21;have p105:0≤((ji14):Int):=od_;have q105:(ji14)<(s0_0.length:Int):=od_;obtain⟨ad105,e105,hx105_0⟩:=Kd.at_int HSz21_0 (ji14) p105 q105;cases e105;replace hx105_0:=pw_cell_below HB.out hx105_0;replace p105:=eq_true p105;replace q105:=eq_true q105;have p106:0≤((ji17):Int):=od_;have q106:(ji17)<(s0_0.length:Int):=od_;obtain⟨ad106,e106,hx106_0⟩:=Kd.at_int HSz21_0 (ji17) p106 q106;obtain rfl:ad105=ad106:=(by injection e106);replace hx106_0:=pw_cell_below HB.out hx106_0;replace p106:=eq_true p106;replace q106:=eq_true q106;go_wp2
           repeat (go_quiet (fail);try go_wp2)
           go_ret;exact⟨by first | rfl | (simp [errW_none,errW_some] <;> rfl) | (simp only [← hji14,← hji17];first | rfl | (simp [errW_none,errW_some] <;> rfl)) | (simp [*,errW_none,errW_some] <;> rfl),by repeat (first | (with_reducible first | exact HI0.out | apply IsS123.alloc | apply IsS123.drewN | apply IsS123.drew | apply IsS123.set_1) | exact HI0.out),by repeat (first | (with_reducible first | exact HB.out | apply below_alloc | apply pw_below_drewN | apply below_drew1 | refine below_set ?_ (IsS123.ge HI0.out)) | exact HB.out),by repeat (first | (with_reducible first | exact HK.out | apply KeepBut.set_ | apply keep_drewN | apply keep_drew | apply keep_alloc) | exact HK.out)⟩
         ·
          rw [if_neg c19] at H;exact absurd H (by simp)
        ·
         rw [if_neg c18] at H;exact absurd H (by simp)
       ·
        rw [if_neg c16] at H;exact absurd H (by simp)
      ·
       rw [if_neg c15] at H;exact absurd H (by simp)
end Go.Proofs.YtkefmnmoaomlhaaDoor.X
end
section
set_option linter.unusedVariables false
set_option linter.unusedSimpArgs false
namespace Go.Proofs.YtkefmnmoaomlhaaDoor.X
open Go.RowKit Go.Proofs.YtkefmnmoaomlhaaDoorW.PrintWords Go.Proofs.YtkefmnmoaomlhaaDoorW.PrintLast Go.Proofs.YtkefmnmoaomlhaaDoorW.PrintMore
open Mort
theorem w64 {x:Int}(h : -9223372036854775808≤x)(h':x≤9223372036854775807):wrap64 x=x:=by unfold wrap64;omega
theorem sgcd_rounds (b:Nat):∀ (a:Nat) (k:Nat),b<k→spec_l1Gcd.l0 k (a:Int) (b:Int)=some ((Nat.gcd a b:Nat):Int):=by
 induction b using Nat.strongRecOn with
 | _ b ih =>
  intro a k hk;obtain⟨k,rfl⟩:∃ m,k=m+1:=⟨k-1,by omega⟩;simp only [spec_l1Gcd.l0];by_cases h0:b=0
  ·
   subst h0;rw [if_neg (by decide),Nat.gcd_zero_right]
  ·
   rw [if_pos (by omega),if_neg (by omega)];have hm:Int.tmod (a:Int) (b:Int)=((a % b:Nat):Int):=rfl;rw [hm,ih (a % b) (Nat.mod_lt _ (by omega)) b k (by have:=Nat.mod_lt a (show 0<b by omega);omega)];rw [Nat.gcd_comm b (a % b),← Nat.gcd_rec,Nat.gcd_comm]
theorem sgcd_told {n d:Int}(hn:0≤n)(hd:0≤d){k:Nat}(hk:d<k):spec_l1Gcd.f k n d=some (Int.gcd n d:Int):=by
 obtain⟨a,rfl⟩:=Int.eq_ofNat_of_zero_le hn;obtain⟨b,rfl⟩:=Int.eq_ofNat_of_zero_le hd;exact sgcd_rounds b a k (by omega)
theorem gcd_told' {n d:Int}(hn:0≤n)(hd:0≤d){k:Nat}(hk:d<k):impl_commonDivisor.f k n d=some (Int.gcd n d:Int):=by
 obtain⟨a,rfl⟩:=Int.eq_ofNat_of_zero_le hn;obtain⟨b,rfl⟩:=Int.eq_ofNat_of_zero_le hd;exact gcd_rounds b a k (by omega)
theorem l6In_told (n a b:Int):spec_l6In.f n a b=some (decide (a≤n) && decide (n≤b)):=by
 unfold spec_l6In.f;by_cases h:n≥a
 ·
  rw [if_pos h,decide_eq_true (show a≤n from h)];rfl
 ·
  rw [if_neg h,decide_eq_false (show ¬ a≤n from h)];rfl
theorem l1Of_told {k:Nat}(hk:100000≤k){n d:Int}(h:inR (n,d)):spec_l1Of.f k n d=some ((red (n,d)).1,(red (n,d)).2):=by
 obtain⟨a1,a2,a3,a4⟩:=h;simp only at a1 a2 a3 a4;have hg:=gcd_pos (f:=(n,d)) ⟨a1,a2,a3,a4⟩;unfold spec_l1Of.f;rw [sgcd_told a1 (by omega) (by omega)];simp only [Option.bind_some];simp only at hg;rw [if_neg (by omega)];have e1:Int.tdiv n (Int.gcd n d:Int)=n / (Int.gcd n d:Int):=Int.tdiv_eq_ediv_of_nonneg a1;have e2:Int.tdiv d (Int.gcd n d:Int)=d / (Int.gcd n d:Int):=Int.tdiv_eq_ediv_of_nonneg (by omega);have r:=red_inR (f:=(n,d)) ⟨a1,a2,a3,a4⟩;obtain⟨r1,r2,r3,r4⟩:=r;unfold red at r1 r2 r3 r4 ⊢
 simp only at r1 r2 r3 r4 ⊢
 rw [e1,e2,w64 (by omega) (by omega),w64 (by omega) (by omega)]
def Bytes (l:List Int):Prop:=(∀ x∈l,0≤x∧x≤255)∧l.length≤2000
theorem rd_byte {l:List Int}(h:Bytes l)(i:Int):0≤rd l i∧rd l i≤255:=by
 unfold rd;by_cases hi:i.toNat<l.length
 ·
  rw [List.getD_eq_getElem?_getD,List.getElem?_eq_getElem hi];exact h.1 _ (List.getElem_mem hi)
 ·
  rw [List.getD_eq_getElem?_getD,List.getElem?_eq_none (by omega)];simp
theorem xor_nn {a b:Int}(ha:0≤a)(ha':a<4294967296)(hb:0≤b)(hb':b<4294967296):0≤Go.bits .xor .i64 a b:=by
 obtain⟨x,rfl⟩:=Int.eq_ofNat_of_zero_le ha;obtain⟨y,rfl⟩:=Int.eq_ofNat_of_zero_le hb;have hx:x ^^^ y<2 ^ 32:=Nat.xor_lt_two_pow (by omega) (by omega);have h1:(BitVec.ofInt 64 (x:Int)).toNat=x:=by
  rw [BitVec.ofInt_natCast,BitVec.toNat_ofNat];exact Nat.mod_eq_of_lt (by omega)
 have h2:(BitVec.ofInt 64 (y:Int)).toNat=y:=by
  rw [BitVec.ofInt_natCast,BitVec.toNat_ofNat];exact Nat.mod_eq_of_lt (by omega)
 show 0≤IntKind.i64.wrap ((BitVec.ofInt 64 (x:Int) ^^^ BitVec.ofInt 64 (y:Int)).toNat:Int)
 rw [BitVec.toNat_xor,h1,h2];have:IntKind.i64.wrap ((x ^^^ y:Nat):Int)=wrap64 ((x ^^^ y:Nat):Int):=by
  simp [IntKind.wrap,IntKind.bits,IntKind.signed,wrap64]
  split <;> omega
 rw [this,w64 (by omega) (by omega)];omega
theorem tmod_in {a b:Int}(ha:0≤a)(hb:1≤b):0≤Int.tmod a b∧Int.tmod a b<b:=by
 rw [Int.tmod_eq_emod_of_nonneg ha];exact⟨Int.emod_nonneg _ (by omega),Int.emod_lt_of_pos _ (by omega)⟩
theorem tdiv_in {a b:Int}(ha:0≤a)(hb:1≤b):0≤Int.tdiv a b∧Int.tdiv a b≤a:=by
 rw [Int.tdiv_eq_ediv_of_nonneg ha];exact⟨Int.ediv_nonneg ha (by omega),Int.ediv_le_self _ ha⟩
theorem pick_told {l:List Int}(hl:Bytes l){p n:Int}(hp:0≤p)(hp':p≤1000000)(hn:1≤n)(hn':n≤1000000):
  ∃ r,(∀ k,1≤k→spec_l6Rd_pick.f k l p n=some (r,p+1))∧0≤r∧r<n:=by
 have e1:wrap64 (p+1)=p+1:=w64 (by omega) (by omega);have e2:wrap64 (p+1-1)=p:=by rw [w64 (by omega) (by omega)];omega
 have hlen:=hl.2;by_cases h0:(l.length:Int)=0
 ·
  refine⟨0,fun k hk=>?_,by omega,by omega⟩;obtain⟨k,rfl⟩:∃ m,k=m+1:=⟨k-1,by omega⟩;unfold spec_l6Rd_pick.f;rw [if_neg (by omega),e1];simp only [h0,beq_self_eq_true,spec_l6Rd_pick.j0,if_true]
 ·
  have hb:((l.length:Int)==0)=false:=beq_eq_false_iff_ne.mpr h0;by_cases h1:p<(l.length:Int)
  ·
   have hr:=rd_byte hl p;have e3:wrap64 (rd l p)=rd l p:=w64 (by omega) (by omega);obtain⟨t1,t2⟩:=tmod_in (b:=n) hr.1 hn;refine⟨Int.tmod (rd l p) n,fun k hk=>?_,t1,t2⟩;obtain⟨k,rfl⟩:∃ m,k=m+1:=⟨k-1,by omega⟩;unfold spec_l6Rd_pick.f;rw [if_neg (by omega),e1,hb];simp only [spec_l6Rd_pick.j0,Bool.false_eq_true,if_false];rw [e2,if_pos h1,if_pos hp,if_neg (by omega),e3]
  ·
   have hl1:1≤(l.length:Int):=by omega
   obtain⟨a1,a2⟩:=tmod_in (b:=(l.length:Int)) hp hl1;have e7:wrap64 (p*7)=p*7:=w64 (by omega) (by omega);have e8:wrap64 (p*7+3)=p*7+3:=w64 (by omega) (by omega);obtain⟨b1,b2⟩:=tmod_in (a:=p*7+3) (b:=(l.length:Int)) (by omega) hl1;obtain⟨d1,d2⟩:=tdiv_in (b:=(l.length:Int)) hp hl1;have r1:=rd_byte hl (Int.tmod p (l.length:Int));have r2:=rd_byte hl (Int.tmod (p*7+3) (l.length:Int));have key:∃ X:Int,0≤X∧X<4294967296∧(wrap64 ((wrap64 ((wrap64 ((wrap64 ((wrap64 (rd l (Int.tmod p (l.length:Int))))*131))+(wrap64 ((wrap64 (rd l (Int.tmod (p*7+3) (l.length:Int))))*1117))))+(wrap64 (p*29))))+(wrap64 ((wrap64 (Int.tdiv p (l.length:Int)))*53))))=X:=by
    generalize rd l (Int.tmod p (l.length:Int))=u at *;generalize rd l (Int.tmod (p*7+3) (l.length:Int))=v at *;generalize Int.tdiv p (l.length:Int)=q at *;refine⟨u*131+v*1117+p*29+q*53,by omega,by omega,?_⟩;rw [w64 (x:=u) (by omega) (by omega),w64 (x:=v) (by omega) (by omega),w64 (x:=q) (by omega) (by omega),w64 (x:=u*131) (by omega) (by omega),w64 (x:=v*1117) (by omega) (by omega),w64 (x:=p*29) (by omega) (by omega),w64 (x:=q*53) (by omega) (by omega),w64 (x:=u*131+v*1117) (by omega) (by omega),w64 (x:=u*131+v*1117+p*29) (by omega) (by omega),w64 (by omega) (by omega)]
   obtain⟨X,x1,x2,hX⟩:=key;obtain⟨y1,y2⟩:=tdiv_in (a:=X) (b:=64) x1 (by omega);have e9:wrap64 (Int.tdiv X 64)=Int.tdiv X 64:=w64 (by omega) (by omega);obtain⟨t1,t2⟩:=tmod_in (b:=n) (xor_nn x1 x2 y1 (by omega)) hn;refine⟨Int.tmod (Go.bits .xor .i64 X (Int.tdiv X 64)) n,fun k hk=>?_,t1,t2⟩;obtain⟨k,rfl⟩:∃ m,k=m+1:=⟨k-1,by omega⟩;unfold spec_l6Rd_pick.f;rw [if_neg (by omega),e1,hb];simp only [spec_l6Rd_pick.j0,Bool.false_eq_true,if_false];rw [e2,if_neg h1,if_neg h0,if_pos a1,if_pos a2,e7,e8,if_pos b1,if_pos b2,if_neg (by omega),hX,e9]
theorem open_told (l:List Int)(h:∀ x∈l,(Lit.int .u8 x).wf=true):∃ m,spec_l6Open.f l=some (m,0)∧Bytes m:=by
 have hb:∀ x∈l,0≤x∧x≤255:=fun x hx=>by
  have:=h x hx;simp [Lit.wf,IntKind.min,IntKind.max,IntKind.bits,IntKind.signed] at this;omega
 unfold spec_l6Open.f;by_cases hl:(l.length:Int)>2000
 ·
  rw [if_pos hl,if_pos (by omega)];exact⟨l.take 2000,rfl,fun x hx=>hb x (List.mem_of_mem_take hx),by rw [List.length_take];omega⟩
 ·
  rw [if_neg hl];exact⟨l,rfl,hb,by omega⟩
end Go.Proofs.YtkefmnmoaomlhaaDoor.X
end
