/- FnPlateStrict: the law returns true for every input, and each input reads behind the call as before; part 2 of 7. No condition. Merged by program out of: Squeeze, LaidT, K, HEdges, Geo, FSpecL6In, State, FSpecL6RdPick, EvFrac, Q, EvSeg, FImplJoined, HLoop, HMeets, Cross, HInside, HRings, HRound. -/
import Derived.Test.YtailkppkjhkjpaaGreatDoorMFnPlateStrict1
import Derived.ChangeSame
import Derived.ChangeVars
import Derived.JoinedOf
import Derived.RowKit
import Derived.RowKitTokens
import Derived.LaidLaws
import Derived.WalkSmall
import Derived.Test.YtailkppkjhkjpaaGreatDoorRows
import Derived.Test.YtailkppkjhkjpaaGreatDoorCards
import Derived.Test.YtailkppkjhkjpaaGreatDoorTie
import Derived.Below
import Derived.Deep.Draws
import Derived.Deep.AppendLies
import Derived.Maps.AppendAt
import Derived.OwnWalk
import Derived.Laws.BytesArg
import Derived.Laws.MakeOwn
import Derived.Laws.OwnMore
import Derived.Deep.OwnRows
import Derived.Tactics
import Derived.Lib.ConvBytes
import Derived.Laws.Slices
import Derived.WalkKit
import Derived.KernelRfl
import Derived.RowKit3
import Derived.Deep.LoopGhost
import Derived.Deep.QuietTactic
import Derived.BigQuiet
import Derived.WideLaws
import Derived.Deep.DeepCutAuto
import Derived.Deep.CutBlock
import Derived.Deep.RegionHeld3
import Derived.Laws.Rows
import Derived.Lib.AppendStr
import Derived.ArgAppend
import Derived.Laws.IdiomCopy
import Derived.OrdersHeld
import Derived.Laws.BitsLemmas
import Derived.Test.YtailkppkjhkjpaaGreatDoorProg
import Derived.RangeFuncNested
import Derived.RangeFuncBound
import Derived.RangeFuncLeaves
import Derived.Shelf.Abstract
import Derived.OwnWalkIn
import Derived.TacticsInMore
import Derived.LoopNIn
import Derived.LoopIn
import Derived.BigRegionIn
import Derived.Stop.RegionWithIn
import Derived.IntWalk
import Derived.Laws.Bits64
import Derived.LaidEqlPtr
import Derived.RegionTactic
import Derived.BigRegion
import Derived.BigGuard
import Derived.Lib.SplitLaws
import Derived.Lib.Join
import Derived.Lib.Strings
import Derived.Shelf.Strings.OnBuilder
import Derived.Shelf.Strings.BuilderK
import Derived.Shelf.LaysM
import Derived.Shelf.Strconv.Itoa3
import Derived.Shelf.Strings.Prefix
import Derived.Shelf.Strings.Split
import Derived.SizedLaws
import Derived.ChangeSlices
import Derived.ProofKit
import Derived.OpenShut
import Derived.ShutString
import Derived.ChangeOld
import Derived.SevenTiedAt
set_option linter.all false
section
set_option linter.unusedVariables false
namespace Go.Proofs.YtailkppkjhkjpaaGreatDoor.X
open Go.RowKit Go.Proofs.YtailkppkjhkjpaaGreatDoorW.PrintWords Go.Proofs.YtailkppkjhkjpaaGreatDoorW.PrintLast Go.Proofs.YtailkppkjhkjpaaGreatDoorW.PrintMore
theorem uq_ {P:Prop}(h:P:=by (with_reducible repeat (first | refine blk_drewN ?_ _ | refine blk_drew ?_ | refine blk_alloc ?_ _));refine Aside0.out ?_;assumption):P:=h
theorem hB_ {P:Prop}(h:P:=by repeat (first | (with_reducible first | exact HB.out | apply below_alloc | apply pw_below_drewN | apply below_drew1 | refine below_set ?_ (Aside0.out (by assumption))) | exact HB.out)):P:=h
theorem ma_ {P:Prop}(h:P:=by (try simp only [List.map_toArray,List.map_cons,List.map_nil]);first | done | rfl | (simp only [List.length_drop,List.length_take];rfl)):P:=h
theorem bc_ {w:World}{g i:Nat}{t:TypeId}{cs:Array Value}{v:Value}(h:w.heap[g]?=some (.cells cs t (0,0)):=by refine Aside0.out ?_;assumption)(e:cs[i]?=some v:=by rfl):w.cell? ⟨g,i,none⟩=some v:=(blk_cell h i).trans e
def bmL:Nat→Nat→List Bool
  | 0,_=>[]
  | n+1,m=>(m % 2==1)::bmL n (m / 2)
def bm (n m:Nat):Array Bool:=⟨bmL n m⟩
theorem pu_ {P:Program}{ops:Array Oper}{Q:Exit→Act→World→Prop}{md:Region.Mode}{S:World→Prop}{ds:List Nat}{T:Bool × List (List Nat × List Nat)}{oi:Oper}{v:Value}{fuel:Nat}{l:Array Bool}{a a':Act}{w:World}(HT:Aside0 (rtab md ops=T))(i N:Nat)(l':Array Bool)(h:wpAnyLast P md ops Q S ds fuel l' a' w)(hi:ops[i]?=some oi:=by rfl)(hN:oi.dst=some N:=by rfl)(hc:anyT T l.toList l'.toList i=true:=by kernel_rfl)(hw:Region.wanted oi (yielded ops a.tmps)=true:=by rfl)(hr:∀ w',(execOp a.eval oi).run P w'=.ok (.value v) w':=by (intro w';go_simp;with_reducible rfl))(ha:a.put (some N) v=a':=by (simp only [Act.put,List.setIfInBounds_toArray,List.set_cons_zero,List.set_cons_succ,i64_w,i32_w];rfl))(hQ:∀ c a w,Q (.panic c) (a.put oi.dst v) w→Q (.panic c) a w:=by exact fun _ _ _ h=>h):wpAnyLast P md ops Q S ds (fuel+1) l a w:=pure_ l' hi hN (any_of HT.out hc) hQ (Or.inl ⟨hw,hr⟩) ha h
theorem pv_ {P:Program}{ops:Array Oper}{Q:Exit→Act→World→Prop}{md:Region.Mode}{S:World→Prop}{ds:List Nat}{oi:Oper}{v:Value}{fuel:Nat}{l:Array Bool}{a a':Act}{w:World}(i N:Nat)(l':Array Bool)(h:wpAnyLast P md ops Q S ds fuel l' a' w)(hi:ops[i]?=some oi:=by rfl)(hN:oi.dst=some N:=by rfl)(hc:anyB md ops l l' i=true:=by kernel_rfl)(hw:Region.wanted oi (yielded ops a.tmps)=true:=by rfl)(hr:∀ w',(execOp a.eval oi).run P w'=.ok (.value v) w':=by (intro w';go_simp;with_reducible rfl))(ha:a.put (some N) v=a':=by (simp only [Act.put,List.setIfInBounds_toArray,List.set_cons_zero,List.set_cons_succ,i64_w,i32_w];rfl))(hQ:∀ c a w,Q (.panic c) (a.put oi.dst v) w→Q (.panic c) a w:=by exact fun _ _ _ h=>h):wpAnyLast P md ops Q S ds (fuel+1) l a w:=pure_ l' hi hN hc hQ (Or.inl ⟨hw,hr⟩) ha h
theorem pz_ {P:Program}{ops:Array Oper}{Q:Exit→Act→World→Prop}{md:Region.Mode}{S:World→Prop}{ds:List Nat}{T:Bool × List (List Nat × List Nat)}{oi:Oper}{fuel:Nat}{l:Array Bool}{a a':Act}{w:World}(HT:Aside0 (rtab md ops=T))(i N:Nat)(l':Array Bool)(h:wpAnyLast P md ops Q S ds fuel l' a' w)(hi:ops[i]?=some oi:=by rfl)(hN:oi.dst=some N:=by rfl)(hc:anyT T l.toList l'.toList i=true:=by kernel_rfl)(hw:Region.wanted oi (yielded ops a.tmps)=false:=by rfl)(ha:a.put (some N) undef=a':=by (simp only [Act.put,List.setIfInBounds_toArray,List.set_cons_zero,List.set_cons_succ,i64_w,i32_w];rfl))(hQ:∀ c a w,Q (.panic c) (a.put oi.dst undef) w→Q (.panic c) a w:=by exact fun _ _ _ h=>h):wpAnyLast P md ops Q S ds (fuel+1) l a w:=pure_ l' hi hN (any_of HT.out hc) hQ (Or.inr ⟨hw,rfl⟩) ha h
theorem ta2_ {P:Program}{ops:Array Oper}{Q:Exit→Act→World→Prop}{md:Region.Mode}{S:World→Prop}{ds:List Nat}{T:Bool × List (List Nat × List Nat)}{B:List Nat}{oi:Oper}{v:Value}{fuel:Nat}{l:Array Bool}{a a':Act}{w:World}(HT:Aside0 (rtab md ops=T))(HW:Aside0 (waitsOk T.2 B=true))(i N:Nat)(l':Array Bool)(hS:S w)(h:wpAnyLast P md ops Q S ds fuel l' a' w)(hi:ops[i]?=some oi:=by rfl)(hN:oi.dst=some N:=by rfl)(hc:takeW T B ds l.toList l'.toList i=true:=by kernel_rfl)(hw:Region.wanted oi (yielded ops a.tmps)=true:=by rfl)(hr:∀ w',S w'→(execOp a.eval oi).run P w'=.ok (.value v) w':=by (rintro w' ⟨s0,s1⟩;go_simp;with_reducible rfl))(ha:a.put (some N) v=a':=by (simp only [Act.put,List.setIfInBounds_toArray,List.set_cons_zero,List.set_cons_succ,i64_w,i32_w];rfl))(hQ:∀ c a w,Q (.panic c) (a.put oi.dst v) w→Q (.panic c) a w:=by exact fun _ _ _ h=>h):wpAnyLast P md ops Q S ds (fuel+1) l a w:=take_ l' hi hN (take_ofW HT.out HW.out hc) hQ (Or.inl ⟨hw,hr⟩) hS ha h
theorem ta3_ {P:Program}{ops:Array Oper}{Q:Exit→Act→World→Prop}{md:Region.Mode}{S:World→Prop}{ds:List Nat}{T:Bool × List (List Nat × List Nat)}{B:List Nat}{oi:Oper}{v:Value}{fuel:Nat}{l:Array Bool}{a a':Act}{w:World}(HT:Aside0 (rtab md ops=T))(HW:Aside0 (waitsOk T.2 B=true))(i N:Nat)(l':Array Bool)(hS:S w)(h:wpAnyLast P md ops Q S ds fuel l' a' w)(hi:ops[i]?=some oi:=by rfl)(hN:oi.dst=some N:=by rfl)(hc:takeW T B ds l.toList l'.toList i=true:=by kernel_rfl)(hw:Region.wanted oi (yielded ops a.tmps)=true:=by rfl)(hr:∀ w',S w'→(execOp a.eval oi).run P w'=.ok (.value v) w':=by (rintro w' ⟨s0,s1,s2⟩;go_simp;with_reducible rfl))(ha:a.put (some N) v=a':=by (simp only [Act.put,List.setIfInBounds_toArray,List.set_cons_zero,List.set_cons_succ,i64_w,i32_w];rfl))(hQ:∀ c a w,Q (.panic c) (a.put oi.dst v) w→Q (.panic c) a w:=by exact fun _ _ _ h=>h):wpAnyLast P md ops Q S ds (fuel+1) l a w:=take_ l' hi hN (take_ofW HT.out HW.out hc) hQ (Or.inl ⟨hw,hr⟩) hS ha h
theorem ta4_ {P:Program}{ops:Array Oper}{Q:Exit→Act→World→Prop}{md:Region.Mode}{S:World→Prop}{ds:List Nat}{T:Bool × List (List Nat × List Nat)}{B:List Nat}{oi:Oper}{v:Value}{fuel:Nat}{l:Array Bool}{a a':Act}{w:World}(HT:Aside0 (rtab md ops=T))(HW:Aside0 (waitsOk T.2 B=true))(i N:Nat)(l':Array Bool)(hS:S w)(h:wpAnyLast P md ops Q S ds fuel l' a' w)(hi:ops[i]?=some oi:=by rfl)(hN:oi.dst=some N:=by rfl)(hc:takeW T B ds l.toList l'.toList i=true:=by kernel_rfl)(hw:Region.wanted oi (yielded ops a.tmps)=true:=by rfl)(hr:∀ w',S w'→(execOp a.eval oi).run P w'=.ok (.value v) w':=by (rintro w' ⟨s0,s1,s2,s3⟩;go_simp;with_reducible rfl))(ha:a.put (some N) v=a':=by (simp only [Act.put,List.setIfInBounds_toArray,List.set_cons_zero,List.set_cons_succ,i64_w,i32_w];rfl))(hQ:∀ c a w,Q (.panic c) (a.put oi.dst v) w→Q (.panic c) a w:=by exact fun _ _ _ h=>h):wpAnyLast P md ops Q S ds (fuel+1) l a w:=take_ l' hi hN (take_ofW HT.out HW.out hc) hQ (Or.inl ⟨hw,hr⟩) hS ha h
theorem ta6_ {P:Program}{ops:Array Oper}{Q:Exit→Act→World→Prop}{md:Region.Mode}{S:World→Prop}{ds:List Nat}{T:Bool × List (List Nat × List Nat)}{B:List Nat}{oi:Oper}{v:Value}{fuel:Nat}{l:Array Bool}{a a':Act}{w:World}(HT:Aside0 (rtab md ops=T))(HW:Aside0 (waitsOk T.2 B=true))(i N:Nat)(l':Array Bool)(hS:S w)(h:wpAnyLast P md ops Q S ds fuel l' a' w)(hi:ops[i]?=some oi:=by rfl)(hN:oi.dst=some N:=by rfl)(hc:takeW T B ds l.toList l'.toList i=true:=by kernel_rfl)(hw:Region.wanted oi (yielded ops a.tmps)=true:=by rfl)(hr:∀ w',S w'→(execOp a.eval oi).run P w'=.ok (.value v) w':=by (rintro w' ⟨s0,s1,s2,s3,s4,s5⟩;go_simp;with_reducible rfl))(ha:a.put (some N) v=a':=by (simp only [Act.put,List.setIfInBounds_toArray,List.set_cons_zero,List.set_cons_succ,i64_w,i32_w];rfl))(hQ:∀ c a w,Q (.panic c) (a.put oi.dst v) w→Q (.panic c) a w:=by exact fun _ _ _ h=>h):wpAnyLast P md ops Q S ds (fuel+1) l a w:=take_ l' hi hN (take_ofW HT.out HW.out hc) hQ (Or.inl ⟨hw,hr⟩) hS ha h
theorem tb6_ {P:Program}{ops:Array Oper}{Q:Exit→Act→World→Prop}{md:Region.Mode}{S:World→Prop}{ds:List Nat}{oi:Oper}{v:Value}{fuel:Nat}{l:Array Bool}{a a':Act}{w:World}(i N:Nat)(l':Array Bool)(hS:S w)(h:wpAnyLast P md ops Q S ds fuel l' a' w)(hi:ops[i]?=some oi:=by rfl)(hN:oi.dst=some N:=by rfl)(hc:takeB md ops ds l l' i=true:=by kernel_rfl)(hw:Region.wanted oi (yielded ops a.tmps)=true:=by rfl)(hr:∀ w',S w'→(execOp a.eval oi).run P w'=.ok (.value v) w':=by (rintro w' ⟨s0,s1,s2,s3,s4,s5⟩;go_simp;with_reducible rfl))(ha:a.put (some N) v=a':=by (simp only [Act.put,List.setIfInBounds_toArray,List.set_cons_zero,List.set_cons_succ,i64_w,i32_w];rfl))(hQ:∀ c a w,Q (.panic c) (a.put oi.dst v) w→Q (.panic c) a w:=by exact fun _ _ _ h=>h):wpAnyLast P md ops Q S ds (fuel+1) l a w:=take_ l' hi hN hc hQ (Or.inl ⟨hw,hr⟩) hS ha h
theorem ta8_ {P:Program}{ops:Array Oper}{Q:Exit→Act→World→Prop}{md:Region.Mode}{S:World→Prop}{ds:List Nat}{T:Bool × List (List Nat × List Nat)}{B:List Nat}{oi:Oper}{v:Value}{fuel:Nat}{l:Array Bool}{a a':Act}{w:World}(HT:Aside0 (rtab md ops=T))(HW:Aside0 (waitsOk T.2 B=true))(i N:Nat)(l':Array Bool)(hS:S w)(h:wpAnyLast P md ops Q S ds fuel l' a' w)(hi:ops[i]?=some oi:=by rfl)(hN:oi.dst=some N:=by rfl)(hc:takeW T B ds l.toList l'.toList i=true:=by kernel_rfl)(hw:Region.wanted oi (yielded ops a.tmps)=true:=by rfl)(hr:∀ w',S w'→(execOp a.eval oi).run P w'=.ok (.value v) w':=by (rintro w' ⟨s0,s1,s2,s3,s4,s5,s6,s7⟩;go_simp;with_reducible rfl))(ha:a.put (some N) v=a':=by (simp only [Act.put,List.setIfInBounds_toArray,List.set_cons_zero,List.set_cons_succ,i64_w,i32_w];rfl))(hQ:∀ c a w,Q (.panic c) (a.put oi.dst v) w→Q (.panic c) a w:=by exact fun _ _ _ h=>h):wpAnyLast P md ops Q S ds (fuel+1) l a w:=take_ l' hi hN (take_ofW HT.out HW.out hc) hQ (Or.inl ⟨hw,hr⟩) hS ha h
theorem ta9_ {P:Program}{ops:Array Oper}{Q:Exit→Act→World→Prop}{md:Region.Mode}{S:World→Prop}{ds:List Nat}{T:Bool × List (List Nat × List Nat)}{B:List Nat}{oi:Oper}{v:Value}{fuel:Nat}{l:Array Bool}{a a':Act}{w:World}(HT:Aside0 (rtab md ops=T))(HW:Aside0 (waitsOk T.2 B=true))(i N:Nat)(l':Array Bool)(hS:S w)(h:wpAnyLast P md ops Q S ds fuel l' a' w)(hi:ops[i]?=some oi:=by rfl)(hN:oi.dst=some N:=by rfl)(hc:takeW T B ds l.toList l'.toList i=true:=by kernel_rfl)(hw:Region.wanted oi (yielded ops a.tmps)=true:=by rfl)(hr:∀ w',S w'→(execOp a.eval oi).run P w'=.ok (.value v) w':=by (rintro w' ⟨s0,s1,s2,s3,s4,s5,s6,s7,s8⟩;go_simp;with_reducible rfl))(ha:a.put (some N) v=a':=by (simp only [Act.put,List.setIfInBounds_toArray,List.set_cons_zero,List.set_cons_succ,i64_w,i32_w];rfl))(hQ:∀ c a w,Q (.panic c) (a.put oi.dst v) w→Q (.panic c) a w:=by exact fun _ _ _ h=>h):wpAnyLast P md ops Q S ds (fuel+1) l a w:=take_ l' hi hN (take_ofW HT.out HW.out hc) hQ (Or.inl ⟨hw,hr⟩) hS ha h
theorem ta16_ {P:Program}{ops:Array Oper}{Q:Exit→Act→World→Prop}{md:Region.Mode}{S:World→Prop}{ds:List Nat}{T:Bool × List (List Nat × List Nat)}{B:List Nat}{oi:Oper}{v:Value}{fuel:Nat}{l:Array Bool}{a a':Act}{w:World}(HT:Aside0 (rtab md ops=T))(HW:Aside0 (waitsOk T.2 B=true))(i N:Nat)(l':Array Bool)(hS:S w)(h:wpAnyLast P md ops Q S ds fuel l' a' w)(hi:ops[i]?=some oi:=by rfl)(hN:oi.dst=some N:=by rfl)(hc:takeW T B ds l.toList l'.toList i=true:=by kernel_rfl)(hw:Region.wanted oi (yielded ops a.tmps)=true:=by rfl)(hr:∀ w',S w'→(execOp a.eval oi).run P w'=.ok (.value v) w':=by (rintro w' ⟨s0,s1,s2,s3,s4,s5,s6,s7,s8,s9,s10,s11,s12,s13,s14,s15⟩;go_simp;with_reducible rfl))(ha:a.put (some N) v=a':=by (simp only [Act.put,List.setIfInBounds_toArray,List.set_cons_zero,List.set_cons_succ,i64_w,i32_w];rfl))(hQ:∀ c a w,Q (.panic c) (a.put oi.dst v) w→Q (.panic c) a w:=by exact fun _ _ _ h=>h):wpAnyLast P md ops Q S ds (fuel+1) l a w:=take_ l' hi hN (take_ofW HT.out HW.out hc) hQ (Or.inl ⟨hw,hr⟩) hS ha h
theorem no_ {P:Program}{ops:Array Oper}{Q:Exit→Act→World→Prop}{md:Region.Mode}{S:World→Prop}{ds:List Nat}{fuel:Nat}{l:Array Bool}{a a':Act}{w:World}(ha:a=a':=by (show Act.put _ (some _) _=_;simp only [Act.put,List.setIfInBounds_toArray,List.set_cons_zero,List.set_cons_succ,i64_w,i32_w];rfl))(h:wpAnyLast P md ops Q S ds fuel l a' w):wpAnyLast P md ops Q S ds fuel l a w:=norm_ ha h
theorem bx_ {P:Program}{ops:Array Oper}{rest:List Oper}{o:Oper}{a:Act}{Q:Exit→Act→World→Prop}{W:World}{N:Tmp}{cs:Array Value}{t:TypeId}(hgd:o.guard=none:=by rfl)(hd:o.dst=some N:=by rfl)
    (hr:(execOp a.eval o).run P W=.ok (.value (.pointer (some ⟨W.heap.size,0,none⟩))) (W.alloc (.cells cs t (0,0))):=by first | (go_simp;done) | (go_simp;rfl))
    (h:∀ g,g=W.heap.size→∀ w1,w1.heap[g]?=some (.cells cs t (0,0))→Below W.heap.size W w1→wpList P ops Q rest (a.put o.dst (.pointer (some ⟨g,0,none⟩))) w1):wpList P ops Q (o::rest) a W:=box_event hgd hd hr h
theorem hK_ {w W W':World}{g:Nat}{row row':Option Nat}(_:Aside0 (KeepBut w W g row'))(h:KeepBut w W' g row:=by repeat (first | (with_reducible first | exact HK.out | apply KeepBut.set_ | apply keep_drewN | apply keep_drew | apply keep_alloc | refine keep_far ?_ (Aside0.out (by assumption)) _) | exact HK.out)):KeepBut w W' g row:=h
theorem a0_ {P:Prop}(h:P):Aside0 P:=⟨h⟩
theorem ce_ {w W:World}{p:Addr}{v:Value}(HB:Aside0 (Below w.heap.size w W))(h:w.cell? p=some v):W.cell? p=some v:=pw_cell_below HB.out h
theorem od_ {p:Prop}[Decidable p](h:decide p=true:=by first | (with_reducible assumption) | assumption):p:=of_decide_eq_true h
theorem rr_ {P:Prop}(h:P:=by first | rfl | (simp [errW_none,errW_some] <;> rfl) | (simp [*,errW_none,errW_some] <;> rfl)):P:=h
theorem gw_ {w W W':World}{g gb:Nat}{row':Option Nat}(_:Aside0 (KeepBut w W g row'))(hg:gb=W'.heap.size)(h:KeepBut w W' g none:=by repeat (first | (with_reducible first | exact HK.out | apply KeepBut.set_ | apply keep_drewN | apply keep_drew | apply keep_alloc | refine keep_far ?_ (Aside0.out (by assumption)) _) | exact HK.out)):Aside0 (w.heap.size≤gb):=⟨by rw [hg];exact h.1⟩
theorem gh_ {w W W':World}{gb:Nat}(_:Aside0 (Below w.heap.size w W))(hg:gb=W'.heap.size)(h:Below w.heap.size w W':=by repeat (first | (with_reducible first | exact HB.out | apply below_alloc | apply pw_below_drewN | apply below_drew1 | refine below_set ?_ (Aside0.out (by assumption))) | exact HB.out)):Aside0 (w.heap.size≤gb):=⟨by rw [hg];exact below_size h⟩
theorem nl_ {W W':World}{g gb:Nat}{o:Obj}(_:Aside0 (W.heap[g]?=some o))(hg:gb=W'.heap.size)(h:W'.heap[g]?=some o:=by (with_reducible repeat (first | refine blk_drewN ?_ _ | refine blk_drew ?_ | refine blk_alloc ?_ _));refine Aside0.out ?_;assumption):Aside0 (g≠gb):=⟨by rw [hg];exact Nat.ne_of_lt (blk_lt h)⟩
theorem nr_ {W W':World}{g gb:Nat}{o:Obj}(_:Aside0 (W.heap[g]?=some o))(hg:gb=W'.heap.size)(h:W'.heap[g]?=some o:=by (with_reducible repeat (first | refine blk_drewN ?_ _ | refine blk_drew ?_ | refine blk_alloc ?_ _));refine Aside0.out ?_;assumption):Aside0 (gb≠g):=⟨by rw [hg];exact Nat.ne_of_gt (blk_lt h)⟩
theorem c20_ {W:World}{g t:Nat}{x y:Value}(h:Aside0 (W.heap[g]?=some (.cells #[x,y] t (0,0)))):W.cell? ⟨g,0,none⟩=some x:=(blk_cell h.out 0).trans rfl
theorem c21_ {W:World}{g t:Nat}{x y:Value}(h:Aside0 (W.heap[g]?=some (.cells #[x,y] t (0,0)))):W.cell? ⟨g,1,none⟩=some y:=(blk_cell h.out 1).trans rfl
theorem c40_ {W:World}{g t:Nat}{x y u v:Value}(h:Aside0 (W.heap[g]?=some (.cells #[x,y,u,v] t (0,0)))):W.cell? ⟨g,0,none⟩=some x:=(blk_cell h.out 0).trans rfl
theorem c41_ {W:World}{g t:Nat}{x y u v:Value}(h:Aside0 (W.heap[g]?=some (.cells #[x,y,u,v] t (0,0)))):W.cell? ⟨g,1,none⟩=some y:=(blk_cell h.out 1).trans rfl
theorem c42_ {W:World}{g t:Nat}{x y u v:Value}(h:Aside0 (W.heap[g]?=some (.cells #[x,y,u,v] t (0,0)))):W.cell? ⟨g,2,none⟩=some u:=(blk_cell h.out 2).trans rfl
theorem c43_ {W:World}{g t:Nat}{x y u v:Value}(h:Aside0 (W.heap[g]?=some (.cells #[x,y,u,v] t (0,0)))):W.cell? ⟨g,3,none⟩=some v:=(blk_cell h.out 3).trans rfl
theorem sb_ {w W W' w':World}(_:Aside0 (Below w.heap.size w W))(hb:Below W'.heap.size W' w')(h:Below w.heap.size w W':=by repeat (first | (with_reducible first | exact HB.out | apply below_alloc | apply pw_below_drewN | apply below_drew1 | refine below_set ?_ (Aside0.out (by assumption))) | exact HB.out)):Aside0 (Below w.heap.size w w'):=⟨below_step h hb⟩
theorem kb_ {w W W' w':World}{g:Nat}{row':Option Nat}(_:Aside0 (KeepBut w W g row'))(hb:Below W'.heap.size W' w')(h:KeepBut w W' g none:=by repeat (first | (with_reducible first | exact HK.out | apply KeepBut.set_ | apply keep_drewN | apply keep_drew | apply keep_alloc | refine keep_far ?_ (Aside0.out (by assumption)) _) | exact HK.out)):Aside0 (KeepBut w w' g none):=⟨KeepBut.trans h (KeepBut.of_below hb g none) (.inl rfl)⟩
theorem kk_ {w W W' w':World}{g:Nat}{row':Option Nat}(_:Aside0 (KeepBut w W g row'))(hk:KeepBut W' w' g none)(h:KeepBut w W' g none:=by repeat (first | (with_reducible first | exact HK.out | apply KeepBut.set_ | apply keep_drewN | apply keep_drew | apply keep_alloc | refine keep_far ?_ (Aside0.out (by assumption)) _) | exact HK.out)):Aside0 (KeepBut w w' g none):=⟨KeepBut.trans h hk (.inl rfl)⟩
theorem rb_ {α:Type}{d:Kd α}{e b:Nat}{w W' w':World}{ok:Nat→Prop}{u:Value}{xs:List α}(_:Aside0 (d.R e w b ok u xs))(hb:Below W'.heap.size W' w')(h:d.R e W' b ok u xs:=by (with_reducible repeat (first | apply Kd.R_alloc | apply Kd.R_drewN | apply Kd.R_drew));refine Aside0.out ?_;assumption):Aside0 (d.R e w' b ok u xs):=⟨Kd.R_below h hb⟩
theorem nb_ {α:Type}{d:Kd α}{e b:Nat}{w W' w':World}{ok:Nat→Prop}{u:Value}{xs:List α}(_:Aside0 (Kd.N d e w b ok u xs))(hb:Below W'.heap.size W' w')(h:Kd.N d e W' b ok u xs:=by (with_reducible repeat (first | apply Kd.N_alloc | apply Kd.N_drewN | apply Kd.N_drew));refine Aside0.out ?_;assumption):Aside0 (Kd.N d e w' b ok u xs):=⟨Kd.N_below h hb⟩
theorem fz_ {W:World}{g t:Nat}{cs:Array Value}(h:Aside0 (W.heap[g]?=some (.cells cs t (0,0))))(i:Nat):W.frozen? ⟨g,i,none⟩=false:=blk_frozen h.out i
theorem gL_ {P:Program}{ops:Array Oper}{Q:Exit→Act→World→Prop}{rest:List Oper}{oi:Oper}{a:Act}{w:World}(N:Option Tmp){f:FuncId}{fn:Func}{as0:Array Operand}{ts:Array TypeId}(hf:P.funcs[f]?=some fn)(args:Array Value)(hd:oi.dst=N:=by rfl)(hg:oi.guard=none:=by rfl)(hname:(fn.name == "runtime.NumGoroutine")=false:=by kernel_rfl) (hb:fn.body.isSome=true:=by rfl)
    (hop:oi.op=.call { callee:=.value (.func f),args:=as0,argTypes:=ts }:=by rfl) (hargs:as0.map a.eval=args:=by (try simp only [List.map_toArray,List.map_cons,List.map_nil]);first | done | rfl | (simp only [List.length_drop,List.length_take];rfl))
    (h:Calls P f args w fun e w'=>∃ v,e=.returned v∧wpList P ops Q rest (a.put N v) w'):wpList P ops Q (oi::rest) a w:=goesL_ N hd hg hf hname hb args hop hargs h
theorem vb_ {W W' w':World}{g:Nat}{o:Obj}(_:Aside0 (W.heap[g]?=some o))(hb:Below W'.heap.size W' w')(h:W'.heap[g]?=some o:=by (with_reducible repeat (first | refine blk_drewN ?_ _ | refine blk_drew ?_ | refine blk_alloc ?_ _));refine Aside0.out ?_;assumption):Aside0 (w'.heap[g]?=some o):=⟨blk_below h hb⟩
theorem uf_ {P:Prop}(h:P:=by (repeat (first | (with_reducible refine blk_drewN ?_ _) | (with_reducible refine blk_drew ?_) | (with_reducible refine blk_alloc ?_ _) | (with_reducible refine blk_far ?_ (Aside0.out (by assumption)) _)));refine Aside0.out ?_;assumption):P:=h
theorem uR_ {α:Type}{d:Kd α}{e b:Nat}{w w':World}{ok:Nat→Prop}{u:Value}{xs:List α}(_:Aside0 (d.R e w b ok u xs))(h:d.R e w' b ok u xs:=by (with_reducible repeat (first | apply Kd.R_alloc | apply Kd.R_drewN | apply Kd.R_drew));refine Aside0.out ?_;assumption):d.R e w' b ok u xs:=h
theorem uN_ {α:Type}{d:Kd α}{e b:Nat}{w w':World}{ok:Nat→Prop}{u:Value}{xs:List α}(_:Aside0 (Kd.N d e w b ok u xs))(h:Kd.N d e w' b ok u xs:=by (with_reducible repeat (first | apply Kd.N_alloc | apply Kd.N_drewN | apply Kd.N_drew));refine Aside0.out ?_;assumption):Kd.N d e w' b ok u xs:=h
end Go.Proofs.YtailkppkjhkjpaaGreatDoor.X
end
section
set_option linter.unusedVariables false
namespace Go.Proofs.YtailkppkjhkjpaaGreatDoor
open Go.ChangeShapes Go.WideShapes Go.RowKit
theorem own:ownKnob Tryz.prog.godebug=none:=by kernel_rfl
theorem laidOut:laidOutB Tryz.prog=true:=by kernel_rfl
def litsOf:DataW Unit→List Value
 | .agg l=>l.map fun d=>match d with | .lit (.int k z)=>.int k z | _=>.nilFunc
 | _=>[]
def litsOf2:DataW Unit→List Value
 | .agg l=>(l.map litsOf).flatten
 | _=>[]
noncomputable def putTab (l:List Value):Obj→Obj:=fun
 | .cells _ t frozen=>.cells l.toArray t frozen
 | o=>o
noncomputable def laidWorld (os:Os):World:=
 let w0:=World.holding Tryz.prog os ⟨#[],#[],[]⟩
 { w0 with heap:=((w0.heap.modify 3 (putTab (litsOf Rows.laid_internal_strconv_uint64pow10))).modify 4 (putTab (litsOf Rows.laid_math_bits_deBruijn32tab))).modify 5 (putTab (litsOf Rows.laid_math_bits_deBruijn64tab)) }
noncomputable def laidWorld2 (os:Os):World:=
 let w0:=laidWorld os
 { w0 with heap:=(w0.heap.modify 2 (putTab (litsOf2 Rows.laid_unicode_utf8_acceptRanges))).modify 1 (putTab (litsOf Rows.laid_unicode_utf8_first)) }
set_option maxRecDepth 100000 in
theorem strict_met (os:Os)(args:Array Value):laidMet Tryz.prog Rows.fnPlateStrictRow.laid ((laidWorld2 os).forCall (fun _ _=>0) ⟨#[],args,[]⟩).memory:=
 laidMet_of_run' 8 (by kernel_rfl) (by kernel_rfl)
end Go.Proofs.YtailkppkjhkjpaaGreatDoor
end
section
namespace Go.Proofs.YtailkppkjhkjpaaGreatDoor.X
open Go.RowKit Go.Proofs.YtailkppkjhkjpaaGreatDoorW.PrintWords Go.Proofs.YtailkppkjhkjpaaGreatDoorW.PrintLast Go.Proofs.YtailkppkjhkjpaaGreatDoorW.PrintMore
attribute [local go_sem] max2_int min2_int max_two min_two max_three min_three max_four min_four
set_option linter.unusedVariables false
set_option linter.unusedSimpArgs false
def errW:Option Int→Value
 | none=>.nilIface
 | some c=>.iface 0 (.int .i64 c)
theorem errW_none:errW none=.nilIface:=rfl
theorem errW_some (c:Int):errW (some c)=.iface 0 (.int .i64 c):=rfl
theorem info5:(Tryz.prog.info? 5).map (fun i=>(i.zero,i.size,i.bytes))=some (some (.int .u8 0),1,1):=by kernel_rfl
theorem info24:(Tryz.prog.info? 24).map (fun i=>(i.zero,i.size,i.bytes))=some (some (.slice none 0 0),1,24):=by kernel_rfl
theorem info70:(Tryz.prog.info? 70).map (fun i=>(i.zero,i.size,i.bytes))=some (some (.agg #[(.int .i64 0),(.int .i64 0)]),2,16):=by kernel_rfl
theorem info83:(Tryz.prog.info? 83).map (fun i=>(i.zero,i.size,i.bytes))=some (some (.agg #[(.int .i64 0),(.int .i64 0),(.int .i64 0),(.int .i64 0)]),4,32):=by kernel_rfl
structure S70 where
 f0:Int
 f1:Int
def z70:S70:=⟨(0:Int),(0:Int)⟩
def k70:Kd S70:=Kd.iso (Kd.pair (Kd.int .i64) (Kd.int .i64)) (fun x:S70=>(x.f0,x.f1))
theorem k70_open {w:World}{x:S70}{cs:List Value}(h:k70.K w x cs):cs=[.int .i64 x.f0,.int .i64 x.f1]:=by
 obtain⟨_,_,rfl,rfl,rfl⟩:=h;exact rfl
theorem k70_openM {w:World}{base:Nat}{ok:Nat→Prop}{x:S70}{cs:List Value}(h:k70.M w base ok x cs):cs=[.int .i64 x.f0,.int .i64 x.f1]:=by
 obtain⟨_,_,rfl,rfl,rfl⟩:=h;exact rfl
theorem k70_mkM (w:World)(base:Nat)(ok:Nat→Prop)(x:S70)  : k70.M w base ok x [.int .i64 x.f0,.int .i64 x.f1]:=⟨[.int .i64 x.f0],[.int .i64 x.f1],rfl,rfl,rfl⟩
def rd_T70 (xs:List S70)(i:Int):S70:=xs.getD i.toNat z70
theorem at_T70 {w:World}{A:Option Addr}{n:Nat}{xs:List S70}(h:Kd.C k70 w A n xs)(i:Int)(h0:0≤i)(h1:i<n):∃ ad ,A=some ad∧w.cell? (ad.add (i.toNat*2))=some (.int .i64 (rd_T70 xs i).f0)∧w.cell? ⟨(ad.add (i.toNat*2)).block,(ad.add (i.toNat*2)).off+1,none⟩=some (.int .i64 (rd_T70 xs i).f1):=by
 obtain⟨ad,c,e,_,hK,hc0⟩:=Kd.C_get h z70 i h0 h1;have hc:∀ j u,c[j]?=some u→w.cell? (ad.add (i.toNat*2+j))=some u:=hc0;obtain rfl:=k70_open hK;exact⟨ad,e,hc 0 _ rfl,by rw [← add_field _ _ 1 (by omega)];exact hc 1 _ rfl⟩
structure S83 where
 f0:S70
 f1:S70
def z83:S83:=⟨z70,z70⟩
def k83:Kd S83:=Kd.iso (Kd.pair k70 k70) (fun x:S83=>(x.f0,x.f1))
theorem k83_open {w:World}{x:S83}{cs:List Value}(h:k83.K w x cs):cs=[.int .i64 x.f0.f0,.int .i64 x.f0.f1,.int .i64 x.f1.f0,.int .i64 x.f1.f1]:=by
 obtain⟨_,_,rfl,s0,s2⟩:=h;obtain rfl:=k70_open s0;obtain rfl:=k70_open s2;exact rfl
theorem k83_mkM (w:World)(base:Nat)(ok:Nat→Prop)(x:S83)  : k83.M w base ok x [.int .i64 x.f0.f0,.int .i64 x.f0.f1,.int .i64 x.f1.f0,.int .i64 x.f1.f1]:=⟨[.int .i64 x.f0.f0,.int .i64 x.f0.f1],[.int .i64 x.f1.f0,.int .i64 x.f1.f1],rfl,(k70_mkM w base ok x.f0 ),(k70_mkM w base ok x.f1 )⟩
def rd_T83 (xs:List S83)(i:Int):S83:=xs.getD i.toNat z83
theorem at_T83 {w:World}{A:Option Addr}{n:Nat}{xs:List S83}(h:Kd.C k83 w A n xs)(i:Int)(h0:0≤i)(h1:i<n):∃ ad ,A=some ad∧w.cell? (ad.add (i.toNat*4))=some (.int .i64 (rd_T83 xs i).f0.f0)∧w.cell? ⟨(ad.add (i.toNat*4)).block,(ad.add (i.toNat*4)).off+1,none⟩=some (.int .i64 (rd_T83 xs i).f0.f1)∧w.cell? ⟨(ad.add (i.toNat*4)).block,(ad.add (i.toNat*4)).off+2,none⟩=some (.int .i64 (rd_T83 xs i).f1.f0)∧w.cell? ⟨(ad.add (i.toNat*4)).block,(ad.add (i.toNat*4)).off+3,none⟩=some (.int .i64 (rd_T83 xs i).f1.f1):=by
 obtain⟨ad,c,e,_,hK,hc0⟩:=Kd.C_get h z83 i h0 h1;have hc:∀ j u,c[j]?=some u→w.cell? (ad.add (i.toNat*4+j))=some u:=hc0;obtain rfl:=k83_open hK;exact⟨ad,e,hc 0 _ rfl,by rw [← add_field _ _ 1 (by omega)];exact hc 1 _ rfl,by rw [← add_field _ _ 2 (by omega)];exact hc 2 _ rfl,by rw [← add_field _ _ 3 (by omega)];exact hc 3 _ rfl⟩
def rd_L5 (xs:List (List S70))(i:Int):(List S70):=xs.getD i.toNat ([]:List S70)
theorem at_L5 {w:World}{A:Option Addr}{n:Nat}{xs:List (List S70)}(h:Kd.C (Kd.slice 70 k70) w A n xs)(i:Int)(h0:0≤i)(h1:i<n):∃ ad A0 c0,A=some ad∧w.cell? (ad.add i.toNat)=some (.slice A0 (rd_L5 xs i).length c0)∧(rd_L5 xs i).length≤c0∧k70.C w A0 (rd_L5 xs i).length (rd_L5 xs i):=by
 obtain⟨ad,c,e,_,hK,hc0⟩:=Kd.C_get h ([]:List S70) i h0 h1;have hc:∀ j u,c[j]?=some u→w.cell? (ad.add (i.toNat*1+j))=some u:=hc0;obtain⟨A0,c0,rfl,l0,g0⟩:=hK;exact⟨ad,A0,c0,e,by have hq:=hc 0 _ rfl;rwa [Nat.mul_one,Nat.add_zero] at hq,l0,g0⟩
def stringslite_HasSuffix.f (a0:ByteArray)(a1:ByteArray):Option (Bool):=if (a0.size:Int)≥(a1.size:Int) then (if 0≤(wrap64 ((a0.size:Int)-(a1.size:Int))) then (if (wrap64 ((a0.size:Int)-(a1.size:Int)))≤(a0.size:Int) then (some ((a0.extract ((wrap64 ((a0.size:Int)-(a1.size:Int))):Int).toNat a0.size).toList==a1.toList)) else (none)) else (none)) else (some false)
set_option maxHeartbeats 8000000 in
set_option maxRecDepth 100000 in
theorem stringslite_HasSuffix.calls (a0:ByteArray)(a1:ByteArray)(r:Bool)(w:World)(h:stringslite_HasSuffix.f a0 a1=some r):
  Calls Tryz.prog 36 #[.string a0,.string a1] w fun e w'=>e=.returned (.bool r)∧Drawn0 w w':=by
 have H:(if (a0.size:Int)≥(a1.size:Int) then (if 0≤(wrap64 ((a0.size:Int)-(a1.size:Int))) then (if (wrap64 ((a0.size:Int)-(a1.size:Int)))≤(a0.size:Int) then (some ((a0.extract ((wrap64 ((a0.size:Int)-(a1.size:Int))):Int).toNat a0.size).toList==a1.toList)) else (none)) else (none)) else (some false))=some r:=h;clear h;by_cases c3:(a0.size:Int)≥(a1.size:Int)
 ·
  rw [if_pos c3] at H;have c3b0:decide ((a1.size:Int)≤(a0.size:Int))=true:=decide_eq_true c3;have c3b1:decide (a1.size≤a0.size)=true:=decide_eq_true (Int.ofNat_le.mp c3);clear c3;obtain⟨ji4,hji4⟩:∃ j_:Int,(wrap64 ((a0.size:Int)-(a1.size:Int)))=j_:=⟨_,rfl⟩;replace H:(if 0≤(ji4) then (if (ji4)≤(a0.size:Int) then (some ((a0.extract ((ji4):Int).toNat a0.size).toList==a1.toList)) else (none)) else (none))=some r:=by first | (rw [hji4] at H;exact H) | (simp only [hji4] at H ⊢;exact H)
  have hji4w:(IntKind.i64.wrap ((a0.size:Int)-(a1.size:Int)))=ji4:=(i64_w _).trans hji4;by_cases c5:0≤(ji4)
  ·
   rw [if_pos c5] at H;have c5b0:=eq_true c5;have c5b1:decide (0≤(ji4))=true:=decide_eq_true c5;clear c5;by_cases c6:(ji4)≤(a0.size:Int)
   ·
    rw [if_pos c6] at H;have c6b0:=eq_true c6;have c6b1:decide ((ji4)≤(a0.size:Int))=true:=decide_eq_true c6;clear c6;obtain rfl:=Option.some.inj H;go_enter Tryz.func36,Tryz.ntmps36;go_wp2;go_ret;exact⟨by first | rfl | (simp;done) | (simp only [← hji4] <;> (first | rfl | simp)) | (simp [*];done),by repeat (first | exact Drawn0.refl _ | apply Drawn0.step)⟩
   ·
    rw [if_neg c6] at H;exact absurd H (by simp)
  ·
   rw [if_neg c5] at H;exact absurd H (by simp)
 ·
  rw [if_neg c3] at H;have c3b0:decide ((a1.size:Int)≤(a0.size:Int))=false:=decide_eq_false c3;have c3b1:decide (a1.size≤a0.size)=false:=decide_eq_false (fun h=>c3 (Int.ofNat_le.mpr h));clear c3;obtain rfl:=Option.some.inj H;go_enter Tryz.func36,Tryz.ntmps36;go_wp2;go_ret;exact⟨by first | rfl | (simp;done) | (simp [*];done),by repeat (first | exact Drawn0.refl _ | apply Drawn0.step)⟩
def strings_HasSuffix.f (a0:ByteArray)(a1:ByteArray):Option (Bool):=(stringslite_HasSuffix.f a0 a1).bind fun t462=>(some t462)
set_option maxHeartbeats 8000000 in
set_option maxRecDepth 100000 in
theorem strings_HasSuffix.calls (a0:ByteArray)(a1:ByteArray)(r:Bool)(w:World)(h:strings_HasSuffix.f a0 a1=some r):
  Calls Tryz.prog 18 #[.string a0,.string a1] w fun e w'=>e=.returned (.bool r)∧Drawn0 w w':=by
 have H:((stringslite_HasSuffix.f a0 a1).bind fun t462=>(some t462))=some r:=h;clear h;replace H:=Option.bind_eq_some_iff.mp H;obtain⟨t462,A30,H⟩:=H
 (try dsimp only at H)
 have A3:=Aside0.mk A30;clear A30;obtain rfl:=Option.some.inj H;go_enter Tryz.func18,Tryz.ntmps18;go_wp2_with (first | ((with_reducible refine gate_callee (f:=36) rfl ?_);refine gL_ (some 7) Tryz.func36 #[.string a0,.string a1] (h:=?_);(with_reducible refine (stringslite_HasSuffix.calls a0 a1 t462 _ A3.out).mono ?_);rintro e w' ⟨rfl,⟨nd,rfl⟩⟩;refine⟨_,rfl,?_⟩));go_ret;exact⟨by first | rfl | (simp;done) | (simp [*];done),by repeat (first | exact Drawn0.refl _ | apply Drawn0.step)⟩
def stringslite_TrimSuffix.f (a0:ByteArray)(a1:ByteArray):Option (ByteArray):=(stringslite_HasSuffix.f a0 a1).bind fun t465=>(if t465=true then (if 0≤(wrap64 ((a0.size:Int)-(a1.size:Int))) then (if (wrap64 ((a0.size:Int)-(a1.size:Int)))≤(a0.size:Int) then (some (a0.extract 0 ((wrap64 ((a0.size:Int)-(a1.size:Int))):Int).toNat)) else (none)) else (none)) else (some a0))
set_option maxHeartbeats 8000000 in
set_option maxRecDepth 100000 in
theorem stringslite_TrimSuffix.calls (a0:ByteArray)(a1:ByteArray)(r:ByteArray)(w:World)(h:stringslite_TrimSuffix.f a0 a1=some r):
  Calls Tryz.prog 38 #[.string a0,.string a1] w fun e w'=>e=.returned (.string r)∧Drawn0 w w':=by
 have H:((stringslite_HasSuffix.f a0 a1).bind fun t465=>(if t465=true then (if 0≤(wrap64 ((a0.size:Int)-(a1.size:Int))) then (if (wrap64 ((a0.size:Int)-(a1.size:Int)))≤(a0.size:Int) then (some (a0.extract 0 ((wrap64 ((a0.size:Int)-(a1.size:Int))):Int).toNat)) else (none)) else (none)) else (some a0)))=some r:=h;clear h;replace H:=Option.bind_eq_some_iff.mp H;obtain⟨t465,A30,H⟩:=H
 (try dsimp only at H)
 have A3:=Aside0.mk A30;clear A30;by_cases c4:t465=true
 ·
  subst c4;rw [if_pos rfl] at H
  (try dsimp only at H)
  obtain⟨ji5,hji5⟩:∃ j_:Int,(wrap64 ((a0.size:Int)-(a1.size:Int)))=j_:=⟨_,rfl⟩;replace H:(if 0≤(ji5) then (if (ji5)≤(a0.size:Int) then (some (a0.extract 0 ((ji5):Int).toNat)) else (none)) else (none))=some r:=by first | (rw [hji5] at H;exact H) | (simp only [hji5] at H ⊢;exact H)
  (try rw [hji5] at A3)
  have hji5w:(IntKind.i64.wrap ((a0.size:Int)-(a1.size:Int)))=ji5:=(i64_w _).trans hji5;by_cases c6:0≤(ji5)
  ·
   rw [if_pos c6] at H;have c6b0:=eq_true c6;have c6b1:decide (0≤(ji5))=true:=decide_eq_true c6;clear c6;by_cases c7:(ji5)≤(a0.size:Int)
   ·
    rw [if_pos c7] at H;have c7b0:=eq_true c7;have c7b1:decide ((ji5)≤(a0.size:Int))=true:=decide_eq_true c7;clear c7;obtain rfl:=Option.some.inj H;go_enter Tryz.func38,Tryz.ntmps38;go_wp2_with (first | ((with_reducible refine gate_callee (f:=36) rfl ?_);refine gL_ (some 7) Tryz.func36 #[.string a0,.string a1] (h:=?_);(with_reducible refine (stringslite_HasSuffix.calls a0 a1 true _ A3.out).mono ?_);rintro e w' ⟨rfl,⟨nd,rfl⟩⟩;refine⟨_,rfl,?_⟩));go_ret;exact⟨by first | rfl | (simp;done) | (simp only [← hji5] <;> (first | rfl | simp)) | (simp [*];done),by repeat (first | exact Drawn0.refl _ | apply Drawn0.step)⟩
   ·
    rw [if_neg c7] at H;exact absurd H (by simp)
  ·
   rw [if_neg c6] at H;exact absurd H (by simp)
 ·
  replace c4:=Bool.eq_false_iff.mpr c4;subst c4;rw [if_neg (show ¬ (false=true) by decide)] at H
  (try dsimp only at H)
  obtain rfl:=Option.some.inj H;go_enter Tryz.func38,Tryz.ntmps38;go_wp2_with (first | ((with_reducible refine gate_callee (f:=36) rfl ?_);refine gL_ (some 7) Tryz.func36 #[.string a0,.string a1] (h:=?_);(with_reducible refine (stringslite_HasSuffix.calls a0 a1 false _ A3.out).mono ?_);rintro e w' ⟨rfl,⟨nd,rfl⟩⟩;refine⟨_,rfl,?_⟩));go_ret;exact⟨by first | rfl | (simp;done) | (simp [*];done),by repeat (first | exact Drawn0.refl _ | apply Drawn0.step)⟩
def strings_TrimSuffix.f (a0:ByteArray)(a1:ByteArray):Option (ByteArray):=(stringslite_TrimSuffix.f a0 a1).bind fun t466=>(some t466)
set_option maxHeartbeats 8000000 in
set_option maxRecDepth 100000 in
theorem strings_TrimSuffix.calls (a0:ByteArray)(a1:ByteArray)(r:ByteArray)(w:World)(h:strings_TrimSuffix.f a0 a1=some r):
  Calls Tryz.prog 20 #[.string a0,.string a1] w fun e w'=>e=.returned (.string r)∧Drawn0 w w':=by
 have H:((stringslite_TrimSuffix.f a0 a1).bind fun t466=>(some t466))=some r:=h;clear h;replace H:=Option.bind_eq_some_iff.mp H;obtain⟨t466,A30,H⟩:=H
 (try dsimp only at H)
 have A3:=Aside0.mk A30;clear A30;obtain rfl:=Option.some.inj H;go_enter Tryz.func20,Tryz.ntmps20;go_wp2_with (first | ((with_reducible refine gate_callee (f:=38) rfl ?_);refine gL_ (some 7) Tryz.func38 #[.string a0,.string a1] (h:=?_);(with_reducible refine (stringslite_TrimSuffix.calls a0 a1 t466 _ A3.out).mono ?_);rintro e w' ⟨rfl,⟨nd,rfl⟩⟩;refine⟨_,rfl,?_⟩));go_ret;exact⟨by first | rfl | (simp;done) | (simp [*];done),by repeat (first | exact Drawn0.refl _ | apply Drawn0.step)⟩
end Go.Proofs.YtailkppkjhkjpaaGreatDoor.X
end
section
set_option linter.unusedVariables false
set_option linter.unusedSimpArgs false
namespace Go.Proofs.YtailkppkjhkjpaaGreatDoor.X
open Go.RowKit Go.Shelf Go.Proofs.YtailkppkjhkjpaaGreatDoorW.PrintWords Go.Proofs.YtailkppkjhkjpaaGreatDoorW.PrintLast Go.Proofs.YtailkppkjhkjpaaGreatDoorW.PrintMore
attribute [local go_sem] Oper.semAt_some
def KpE (n₀ Bs:Nat)(A B:World):Prop:=A.heap.size≤B.heap.size∧∀ k,(k<n₀∨k=Bs)→k<A.heap.size→B.heap[k]?=A.heap[k]?
theorem KpE.refl (n₀ Bs:Nat)(A:World):KpE n₀ Bs A A:=⟨Nat.le_refl _,fun _ _ _=>rfl⟩
theorem KpE.trans {n₀ Bs:Nat}{A B C:World}(h:KpE n₀ Bs A B)(k:KpE n₀ Bs B C):KpE n₀ Bs A C:=
 ⟨Nat.le_trans h.1 k.1,fun i hi hl=>(k.2 i hi (Nat.lt_of_lt_of_le hl h.1)).trans (h.2 i hi hl)⟩
theorem KpE.below {n₀ Bs:Nat}{A B:World}(h:Below A.heap.size A B):KpE n₀ Bs A B:=⟨h.size,fun k _ hl=>h.block k hl⟩
theorem KpE.alloc (n₀ Bs:Nat)(A:World)(o:Obj):KpE n₀ Bs A (A.alloc o):=KpE.below (below_alloc (Below.refl _ _) o)
theorem KpE.set {n₀ Bs:Nat}(A:World){p:Addr}(h1:n₀≤p.block)(h2:p.block≠Bs)(u:Value):KpE n₀ Bs A (A.setCell p u):=
 ⟨by simp [World.setCell],fun k hk _=>Below.heap_setCell A p u k (by omega)⟩
theorem KpE.cell {n₀ Bs:Nat}{A B:World}(h:KpE n₀ Bs A B){p:Addr}(hp:p.block<n₀∨p.block=Bs)(hl:p.block<A.heap.size):B.cell? p=A.cell? p:=World.cell?_of_block (w:=A) (h.2 p.block hp hl)
theorem KpE.putObj {n₀ Bs:Nat}(W:World)(l:Nat)(o':Obj)(h1:n₀≤l)(h2:l≠Bs):KpE n₀ Bs W (W.putObj l o'):=
 ⟨by simp [World.putObj],fun k hk _=>World.putObj_heap_other (by omega)⟩
def edS (zs:List S70)(j:Nat):S83:=⟨zs.getD j z70,zs.getD ((j+1) % zs.length) z70⟩
def edV (x:S83):Value:=.agg #[.int .i64 x.f0.f0,.int .i64 x.f0.f1,.int .i64 x.f1.f0,.int .i64 x.f1.f1]
theorem blk_add (ad:Addr)(n:Nat):(ad.add n).block=ad.block:=by unfold Addr.add;split <;> rfl
theorem at_pt {W:World}{A:Option Addr}{zs:List S70}(hC:Kd.C k70 W A zs.length zs)(k:Nat)(h:k<zs.length):
  ∃ ad,A=some ad∧W.cell? (ad.add (k*2))=some (.int .i64 (zs.getD k z70).f0)∧W.cell? ⟨(ad.add (k*2)).block,(ad.add (k*2)).off+1,none⟩=some (.int .i64 (zs.getD k z70).f1):=
 at_T70 hC (k:Int) (by omega) (by omega)
set_option maxRecDepth 100000 in
set_option maxHeartbeats 2000000 in
theorem edges1_in (n:Nat)(hn:1≤n)(l Bs n₀:Nat)(A:Option Addr)(c:Nat)(zs:List S70)(hreach:zs.length≤1000000)
  (hAb:∀ ad,A=some ad→ad.block<n₀) (J Jx:Nat→World→Prop)
  (hJ:∀ k A B,J k A→Below A.heap.size A B→J k B)
  (hY:∀ k W,k<zs.length→J k W→YieldAt Fence.wide (n-1) Tryz.prog l #[.int .i64 (k:Int),edV (edS zs k)] W fun e W' =>
   (e=.returned (.bool true)∧J (k+1) W'∧KpE n₀ Bs W W')∨(e=.returned (.bool false)∧Jx (k+1) W'))
  (W:World) (hBl:Bs<W.heap.size) (hn₀:n₀≤W.heap.size) (hBs:W.cell? ⟨Bs,0,none⟩=some (.slice A zs.length c)) (hC0:Kd.C k70 W A zs.length zs) (h0:J 0 W) :
  CallsIn Fence.wide n Tryz.prog 63 #[.func (.yield l) #[] #[],.pointer (some ⟨Bs,0,none⟩)] W fun e W'=>(∃ v,e=.returned v) ∧
   (J zs.length W'∨∃ k,k≤zs.length∧Jx k W'):=by
 refine callsIn_of_wp Tryz.func63 rfl trivial ?_ rfl;simp only [Tryz.ntmps63,List.size_toArray,List.length_cons,List.length_nil,Nat.reduceAdd,Nat.reduceSub,Array.replicate_succ,Array.replicate_zero,List.push_toArray,List.append_toArray,List.nil_append,List.cons_append];gi_wp2;gi_loopw [7] (fun i wr=>∃ k:Nat,k≤zs.length∧i=.int .i64 k∧J k wr∧KpE n₀ Bs W wr)
  (fun i _=>zs.length-(intOf i).toNat)
 case atStart=>exact⟨0,Nat.zero_le _,rfl,h0,KpE.refl _ _ _⟩
 case round =>
  obtain⟨k,hk,rfl,hJ0,hnx⟩:=hrel;by_cases hlt:k<zs.length
  ·
   have hm:(k+1) % zs.length<zs.length:=Nat.mod_lt _ (by omega);obtain⟨ad,hA,hx0,hx1⟩:=at_pt hC0 k hlt;obtain⟨ad',hA',hy0,hy1⟩:=at_pt hC0 ((k+1) % zs.length) hm;obtain rfl:ad=ad':=by rw [hA] at hA';exact Option.some.inj hA'
   clear hA';have hE0:edV (edS zs k)=.agg #[.int .i64 (zs.getD k z70).f0,.int .i64 (zs.getD k z70).f1,.int .i64 (zs.getD ((k+1) % zs.length) z70).f0,.int .i64 (zs.getD ((k+1) % zs.length) z70).f1]:=rfl;have hE:=Aside0.mk hE0;clear hE0;have hT:Int.tmod ((k:Int)+1) (zs.length:Int)=(((k+1) % zs.length:Nat):Int):=rfl;have hT':=Aside0.mk hT;clear hT;generalize (k+1) % zs.length=m at *;have cBs:wr.cell? ⟨Bs,0,none⟩=some (.slice A zs.length c):=(hnx.cell (.inr rfl) hBl).trans hBs;subst hA;have hadb:ad.block<n₀:=hAb ad rfl;have old:∀ (o:Nat),wr.cell? ⟨ad.block,o,none⟩=W.cell? ⟨ad.block,o,none⟩:=fun o=>hnx.cell (p:=⟨ad.block,o,none⟩) (.inl hadb) (Nat.lt_of_lt_of_le hadb hn₀)
   have old':∀ (o:Nat),wr.cell? (ad.add o)=W.cell? (ad.add o):=fun o=>hnx.cell (p:=ad.add o) (.inl (by rw [blk_add];exact hadb)) (by rw [blk_add];exact Nat.lt_of_lt_of_le hadb hn₀)
   rw [← old'] at hx0 hy0;rw [blk_add,← old] at hx1 hy1;rw [← blk_add ad (k*2)] at hx1;rw [← blk_add ad (m*2)] at hy1;clear old old';generalize (zs.getD k z70).f0=px at *;generalize (zs.getD k z70).f1=py at *;generalize (zs.getD m z70).f0=qx at *;generalize (zs.getD m z70).f1=qy at *;have hu28:=Tryz.underlying70;gi_wp2;have hJ2:=hJ _ _ _ hJ0 (below_drew1 (below_alloc (Below.refl _ wr) (.cells #[.int .i64 px,.int .i64 py] 70)));obtain⟨fn,tmps,assign,body,hy,hR⟩:=YieldAt.mono (R':=fun e W'=>∃ b,e=.returned (.bool b)∧Aside0 ((b=true∧J (k+1) W'∧KpE n₀ Bs ((wr.alloc (.cells #[.int .i64 px,.int .i64 py] 70)).drew) W')∨(b=false∧Jx (k+1) W')))
    (hY k _ hlt hJ2) (fun e W' h=>by
    rcases h with ⟨rfl,h1,h2⟩ | ⟨rfl,h1⟩
    ·
     exact⟨true,rfl,⟨.inl ⟨rfl,h1,h2⟩⟩⟩
    ·
     exact⟨false,rfl,⟨.inr ⟨rfl,h1⟩⟩⟩)
   rw [hE.out] at hy;have later:∀ a v,wr.cell? a=some v→((wr.alloc (.cells #[.int .i64 px,.int .i64 py] 70)).drew).cell? a=some v:=fun a v h=>pw_cell_below (below_drew1 (below_alloc (Below.refl _ wr) _)) h
   have cBs2:=later _ _ cBs;have hy0':=later _ _ hy0;have hy1':=later _ _ hy1;clear later;have hT:=hT'.out;have hw:IntKind.i64.wrap ((k:Int)+1)=(k:Int)+1:=IntWalk.i64_in _ (by omega);have hz:¬ zs.length=0:=by omega
   have hz2:¬ ((zs.length:Int)=0):=by omega
   have hz3:((zs.length:Int)==0)=false:=by simpa using hz2
   gi_region_with (refine hR.mono ?_;rintro e W3 ⟨b,rfl,hb⟩)
   all_goals
    have hb':=hb.out;clear hb;have hn1:KpE n₀ Bs W (wr.alloc (.cells #[.int .i64 px,.int .i64 py] 70)).drew:=hnx.trans (KpE.below (below_drew1 (below_alloc (Below.refl _ wr) _)))
    rcases hb' with ⟨rfl,hj3,hk3⟩ | ⟨rfl,hjx⟩
    ·
     gi_wp2;go_roundw
     case rel=>exact⟨k+1,by omega,by simp,hj3,hn1.trans hk3⟩
     case measure=>simp [intOf];omega
    ·
     gi_wp2;refine bodyPost_ret (results_none rfl _ _ _) rfl ?_;exact⟨⟨_,rfl⟩,.inr ⟨k+1,by omega,hjx⟩⟩
  ·
   obtain rfl:k=zs.length:=by omega
   gi_wp2;go_end0;exact⟨⟨_,rfl⟩,.inl hJ0⟩
end Go.Proofs.YtailkppkjhkjpaaGreatDoor.X
end
section
set_option linter.unusedVariables false
set_option linter.unusedSimpArgs false
namespace Mort
abbrev Pt:=Int × Int
abbrev Seg:=Pt × Pt
def ptOk (p:Pt):Bool:=decide (0≤p.1∧p.1≤9∧0≤p.2∧p.2≤9)
def segOk (s:Seg):Bool:=ptOk s.1 && (ptOk s.2 && !(s.1.1==s.2.1 && s.1.2==s.2.2))
def cross (a b c:Pt):Int:=(b.1-a.1)*(c.2-a.2)-(b.2-a.2)*(c.1-a.1)
def dot (a b c:Pt):Int:=(b.1-a.1)*(c.1-a.1)+(b.2-a.2)*(c.2-a.2)
def sgn (n:Int):Int:=if n<0 then -1 else if n>0 then 1 else 0
def has (s:Seg)(p:Pt):Bool:=cross s.1 s.2 p==0 && (decide (0≤dot s.1 s.2 p) && decide (dot s.1 s.2 p≤dot s.1 s.2 s.2))
def meet (s t:Seg):Bool:=
 (decide (sgn (cross s.1 s.2 t.1)*sgn (cross s.1 s.2 t.2)<0) && decide (sgn (cross t.1 t.2 s.1)*sgn (cross t.1 t.2 s.2)<0)) ||
 (has s t.1 || (has s t.2 || (has t s.1 || has t s.2)))
def segTurn (a b c:Pt):Int:=if ptOk a && (ptOk b && ptOk c) then sgn (cross a b c) else 0
def segHas (s:Seg)(p:Pt):Bool:=segOk s && (ptOk p && has s p)
def segMeet (s t:Seg):Bool:=segOk s && (segOk t && meet s t)
def far (s:Seg)(p:Pt):Int × Int:=
 if dot s.1 s.2 p≤0 then (dot s.1 p p,1) else if dot s.1 s.2 s.2≤dot s.1 s.2 p then (dot s.2 p p,1)
 else (cross s.1 s.2 p*cross s.1 s.2 p,dot s.1 s.2 s.2)
def val (f:Int × Int):Rat:=(f.1:Rat) / (f.2:Rat)
theorem cast_cross (a b c:Pt):((cross a b c:Int):Rat)=((b.1:Rat)-a.1)*(c.2-a.2)-(b.2-a.2)*(c.1-a.1):=by
 unfold cross;push_cast;rfl
theorem cast_le {a b:Int}:(a:Rat)≤(b:Rat) ↔ a≤b:=Rat.intCast_le_intCast
theorem cast_lt {a b:Int}:(a:Rat)<(b:Rat) ↔ a<b:=Rat.intCast_lt_intCast
def px (a b:Pt)(t:Rat):Rat:=a.1+t*(b.1-a.1)
def py (a b:Pt)(t:Rat):Rat:=a.2+t*(b.2-a.2)
theorem meet_iff (s t:Seg):meet s t=true ↔ (sgn (cross s.1 s.2 t.1)*sgn (cross s.1 s.2 t.2)<0∧sgn (cross t.1 t.2 s.1)*sgn (cross t.1 t.2 s.2)<0) ∨
  has s t.1=true∨has s t.2=true∨has t s.1=true∨has t s.2=true:=by
 unfold meet;simp
def nearEnds (s t:Seg)(x:Rat):Prop:=val (far s t.1)≤x∨val (far s t.2)≤x∨val (far t s.1)≤x∨val (far t s.2)≤x
theorem nearEnds.mono {s t:Seg}{x y:Rat}(h:nearEnds s t x)(k:x≤y):nearEnds s t y:=by
 rcases h with h | h | h | h
 ·
  exact .inl (Rat.le_trans h k)
 ·
  exact .inr (.inl (Rat.le_trans h k))
 ·
  exact .inr (.inr (.inl (Rat.le_trans h k)))
 ·
  exact .inr (.inr (.inr (Rat.le_trans h k)))
def rc (ax ay bx cy x y:Rat):Rat:=(bx-ax)*(y-ay)-(cy-ay)*(x-ax)
def crsQ (ax ay bx cy x y:Rat):Bool:=
 (decide (ay≤y) && (decide (y<cy) && decide (0<rc ax ay bx cy x y))) || (decide (cy≤y) && (decide (y<ay) && decide (rc ax ay bx cy x y<0)))
def xorAll:List Bool→Bool
 | []=>false
 | b::l=>b ^^ xorAll l
theorem xorAll_append (l m:List Bool):xorAll (l++m)=(xorAll l ^^ xorAll m):=by
 induction l with
 | nil=>simp [xorAll]
 | cons b l ih=>simp [xorAll,ih]
theorem xorAll_map {α:Type}(l:List α)(f g:α→Bool):xorAll (l.map fun x=>f x ^^ g x)=(xorAll (l.map f) ^^ xorAll (l.map g)):=by
 induction l with
 | nil=>rfl
 | cons x l ih =>
  simp only [List.map_cons,xorAll,ih];cases f x <;> cases g x <;> cases xorAll (l.map f) <;> cases xorAll (l.map g) <;> rfl
def turned (l:List Pt):List Pt:=l.drop 1++l.take 1
def edges (l:List Pt):List Seg:=l.zip (turned l)
theorem turned_length (l:List Pt):(turned l).length=l.length:=by
 unfold turned;simp;omega
theorem edges_length (l:List Pt):(edges l).length=l.length:=by
 unfold edges;simp [turned_length]
theorem edges_fst (l:List Pt):(edges l).map Prod.fst=l:=by
 unfold edges;exact List.map_fst_zip (by rw [turned_length];exact Nat.le_refl _)
theorem edges_snd (l:List Pt):(edges l).map Prod.snd=turned l:=by
 unfold edges;exact List.map_snd_zip (by rw [turned_length];exact Nat.le_refl _)
theorem closed (l:List Pt)(g:Pt→Bool):xorAll ((edges l).map fun e=>g e.1 ^^ g e.2)=false:=by
 rw [xorAll_map (edges l) (fun e=>g e.1) (fun e=>g e.2)];have h1:(edges l).map (fun e=>g e.1)=l.map g:=by
  rw [show (fun e:Seg=>g e.1)=g ∘ Prod.fst from rfl,← List.map_map,edges_fst]
 have h2:(edges l).map (fun e=>g e.2)=(turned l).map g:=by
  rw [show (fun e:Seg=>g e.2)=g ∘ Prod.snd from rfl,← List.map_map,edges_snd]
 rw [h1,h2];unfold turned;rw [List.map_append,xorAll_append,Bool.xor_comm (xorAll ((l.drop 1).map g)),← xorAll_append,← List.map_append,List.take_append_drop];cases xorAll (l.map g) <;> rfl
def par (l:List Pt)(x y:Rat):Bool:=xorAll ((edges l).map fun e=>crsQ e.1.1 e.1.2 e.2.1 e.2.2 x y)
theorem np {x y:Rat}(hx:x≤0)(hy:0≤y):x*y≤0:=by
 have:=Rat.mul_nonneg (by grind:0 ≤ -x) hy;grind
def nd (s:Seg):Prop:=0<dot s.1 s.2 s.2
theorem segOk_iff (s:Seg):segOk s=true ↔ ptOk s.1=true∧ptOk s.2=true∧¬ (s.1.1=s.2.1∧s.1.2=s.2.2):=by
 unfold segOk;by_cases a:s.1.1=s.2.1 <;> by_cases b:s.1.2=s.2.2 <;> simp [a,b]
theorem ptOk_iff (p:Pt):ptOk p=true ↔ 0≤p.1∧p.1≤9∧0≤p.2∧p.2≤9:=by unfold ptOk;simp
def joined (s t:Seg):Bool := !has s t.2 && !has t s.1
def ed (l:List Pt)(i:Nat):Seg:=(l.getD i (0,0),l.getD ((i+1) % l.length) (0,0))
theorem edges_getElem? (l:List Pt)(i:Nat)(h:i<l.length):(edges l)[i]?=some (ed l i):=by
 have h2:(turned l)[i]?=some (l.getD ((i+1) % l.length) (0,0)):=by
  unfold turned;by_cases k:i+1<l.length
  ·
   rw [Nat.mod_eq_of_lt k,List.getElem?_append_left (by simp;omega),List.getElem?_drop,Nat.add_comm 1 i];rw [List.getD_eq_getElem?_getD,List.getElem?_eq_getElem k];rfl
  ·
   have e:i+1=l.length:=by omega
   rw [e,Nat.mod_self,List.getElem?_append_right (by simp;omega)];have:i-(l.drop 1).length=0:=by simp;omega
   rw [this,List.getElem?_take_of_lt (by omega),List.getD_eq_getElem?_getD,List.getElem?_eq_getElem (by omega)];rfl
 unfold edges;rw [List.getElem?_zip_eq_some];refine⟨?_,h2⟩;unfold ed;simp only;rw [List.getD_eq_getElem?_getD,List.getElem?_eq_getElem h];rfl
theorem mem_edges {l:List Pt}{e:Seg}:e∈edges l ↔ ∃ i,i<l.length∧e=ed l i:=by
 rw [List.mem_iff_getElem?];constructor
 ·
  rintro⟨i,hi⟩;have hlt:=(List.getElem?_eq_some_iff.1 hi).1;rw [edges_length] at hlt;rw [edges_getElem? l i hlt] at hi;exact⟨i,hlt,by injection hi with hi;exact hi.symm⟩
 ·
  rintro⟨i,hi,rfl⟩;exact⟨i,edges_getElem? l i hi⟩
def pairOk (l:List Pt)(i j:Nat):Bool:=
 if j≤i then true else if j=i+1 then joined (ed l i) (ed l j) else if i=0∧j+1=l.length then joined (ed l j) (ed l i) else !meet (ed l i) (ed l j)
def loopOk (l:List Pt):Bool:=
 (decide (3≤l.length) && decide (l.length≤8)) && ((edges l).all segOk && (List.range l.length).all fun i=>(List.range l.length).all fun j=>pairOk l i j)
def onB (l:List Pt)(p:Pt):Bool:=(edges l).any fun e=>has e p
def inOf (l:List Pt)(p:Pt):Int:=if onB l p then 0 else if par l p.1 p.2 then 1 else -1
def apartB (a b:List Pt):Bool:=(edges a).all fun e=>(edges b).all fun f => !meet e f
theorem loopOk_iff (l:List Pt):loopOk l=true ↔ 3≤l.length∧l.length≤8∧(∀ e∈edges l,segOk e=true)∧∀ i j,i<l.length→j<l.length→pairOk l i j=true:=by
 unfold loopOk;simp only [Bool.and_eq_true,decide_eq_true_eq,List.all_eq_true,List.mem_range];constructor
 ·
  rintro⟨⟨h1,h2⟩,h3,h4⟩;exact⟨h1,h2,h3,fun i j hi hj=>h4 i hi j hj⟩
 ·
  rintro⟨h1,h2,h3,h4⟩;exact⟨⟨h1,h2⟩,h3,fun i hi j hj=>h4 i j hi hj⟩
theorem onB_iff (l:List Pt)(p:Pt):onB l p=true ↔ ∃ e∈edges l,has e p=true:=by unfold onB;simp
theorem onB_false (l:List Pt)(p:Pt):onB l p=false ↔ ∀ e∈edges l,has e p=false:=by unfold onB;simp
theorem apartB_iff (a b:List Pt):apartB a b=true ↔ ∀ e∈edges a,∀ f∈edges b,meet e f=false:=by unfold apartB;simp
structure Motion (f:Pt→Pt) (s:Int):Prop where
 sq:s*s=1
 dot:∀ a b c,dot (f a) (f b) (f c)=Mort.dot a b c
 cross:∀ a b c,cross (f a) (f b) (f c)=s*Mort.cross a b c
def segMap (f:Pt→Pt)(s:Seg):Seg:=(f s.1,f s.2)
theorem Motion.sign {f:Pt→Pt}{s:Int}(h:Motion f s):s=1∨s = -1:=by
 have:=h.sq;have:(s-1)*(s+1)=0:=by grind
 rcases Int.mul_eq_zero.1 this with k | k
 ·
  left;omega
 ·
  right;omega
theorem Motion.has {f:Pt→Pt}{s:Int}(h:Motion f s)(e:Seg)(p:Pt):has (segMap f e) (f p)=has e p:=by
 unfold Mort.has segMap;simp only [h.dot,h.cross]
 rcases h.sign with rfl | rfl
 ·
  simp
 ·
  have:(-1*Mort.cross e.1 e.2 p==0)=(Mort.cross e.1 e.2 p==0):=by
   rw [Bool.eq_iff_iff];simp
  rw [this]
theorem Motion.far {f:Pt→Pt}{s:Int}(h:Motion f s)(e:Seg)(p:Pt):far (segMap f e) (f p)=far e p:=by
 unfold Mort.far segMap;simp only [h.dot,h.cross];have:s*Mort.cross e.1 e.2 p*(s*Mort.cross e.1 e.2 p)=Mort.cross e.1 e.2 p*Mort.cross e.1 e.2 p:=by
  have:=h.sq;have k:s*Mort.cross e.1 e.2 p*(s*Mort.cross e.1 e.2 p)=(s*s)*(Mort.cross e.1 e.2 p*Mort.cross e.1 e.2 p):=by grind
  rw [k,this,Int.one_mul]
 rw [this]
theorem Motion.inj {f:Pt→Pt}{s:Int}(h:Motion f s){a b:Pt}(hf:nd (a,b)):¬ ((f a).1=(f b).1∧(f a).2=(f b).2):=by
 rintro⟨e1,e2⟩;have:=h.dot a b b;unfold nd at hf;simp only at hf;rw [← this] at hf;unfold Mort.dot at hf;rw [e1,e2] at hf;simp at hf
abbrev Plate:=List Pt × List (List Pt)
def nested (o:List Pt)(hs:List (List Pt)):Bool:=
 hs.all fun h=>inOf o (h.getD 0 (0,0))==1
def plateOk (P:Plate):Bool:=
 (decide (P.2.length≤2) && loopOk P.1) && (P.2.all loopOk && (P.2.all (apartB P.1) && (nested P.1 P.2 && match P.2 with
  | [a,b]=>apartB a b && (inOf b (a.getD 0 (0,0)) == -1 && inOf a (b.getD 0 (0,0)) == -1)
  | _=>true)))
theorem mul_bound {x y:Int}(hx : -9≤x)(hx':x≤9)(hy : -9≤y)(hy':y≤9): -81≤x*y∧x*y≤81:=by
 have h1:0≤(9-x)*(9+y):=Int.mul_nonneg (by omega) (by omega);have h2:0≤(9+x)*(9-y):=Int.mul_nonneg (by omega) (by omega);have h3:0≤(9-x)*(9-y):=Int.mul_nonneg (by omega) (by omega);have h4:0≤(9+x)*(9+y):=Int.mul_nonneg (by omega) (by omega);constructor <;> grind
theorem cross_rev (a b p:Pt):cross b a p = - cross a b p:=by unfold cross;grind
theorem meet_comm (s t:Seg):meet s t=meet t s:=by
 rw [Bool.eq_iff_iff,meet_iff,meet_iff];constructor
 ·
  rintro (⟨a,b⟩ | a | a | a | a)
  ·
   exact .inl ⟨b,a⟩
  ·
   exact .inr (.inr (.inr (.inl a)))
  ·
   exact .inr (.inr (.inr (.inr a)))
  ·
   exact .inr (.inl a)
  ·
   exact .inr (.inr (.inl a))
 ·
  rintro (⟨a,b⟩ | a | a | a | a)
  ·
   exact .inl ⟨b,a⟩
  ·
   exact .inr (.inr (.inr (.inl a)))
  ·
   exact .inr (.inr (.inr (.inr a)))
  ·
   exact .inr (.inl a)
  ·
   exact .inr (.inr (.inl a))
def ndl (l:List Pt):Prop:=∀ e∈edges l,nd e
section
variable {l h:List Pt} (hl:ndl l) (hh:ndl h) (ap:apartB l h=true)
include hl hh ap
end
theorem inOf_zero (l:List Pt)(p:Pt):inOf l p=0 ↔ onB l p=true:=by
 unfold inOf;split
 ·
  simp [*]
 ·
  split <;> simp [*]
theorem apartB_comm (a b:List Pt):apartB a b=apartB b a:=by
 rw [Bool.eq_iff_iff,apartB_iff,apartB_iff];constructor
 ·
  intro h e he f hf;rw [meet_comm];exact h f hf e he
 ·
  intro h e he f hf;rw [meet_comm];exact h f hf e he
theorem loop_pos {l:List Pt}(h:loopOk l=true):0<l.length:=by have:=((loopOk_iff l).1 h).1;omega
def back (s:Seg):Seg:=(s.2,s.1)
theorem segMeet_iff (s t:Seg):segMeet s t=true ↔ segOk s=true∧segOk t=true∧meet s t=true:=by unfold segMeet;simp
end Mort
end
section
namespace Go.Proofs.YtailkppkjhkjpaaGreatDoor.X
open Go.RowKit Go.Proofs.YtailkppkjhkjpaaGreatDoorW.PrintWords Go.Proofs.YtailkppkjhkjpaaGreatDoorW.PrintLast Go.Proofs.YtailkppkjhkjpaaGreatDoorW.PrintMore
attribute [local go_sem] max2_int min2_int max_two min_two max_three min_three max_four min_four
set_option linter.unusedVariables false
set_option linter.unusedSimpArgs false
def spec_l6In.f (a0:Int)(a1:Int)(a2:Int):Option (Bool):=if a0≥a1 then (some (decide (a0≤a2))) else (some false)
set_option maxHeartbeats 8000000 in
set_option maxRecDepth 100000 in
theorem spec_l6In.calls (a0:Int)(a1:Int)(a2:Int)(r:Bool)(w:World)(h:spec_l6In.f a0 a1 a2=some r):
  Calls Tryz.prog 32 #[.int .i64 a0,.int .i64 a1,.int .i64 a2] w fun e w'=>e=.returned (.bool r)∧Drawn0 w w':=by
 have H:(if a0≥a1 then (some (decide (a0≤a2))) else (some false))=some r:=h;clear h;by_cases c4:a0≥a1
 ·
  rw [if_pos c4] at H;have c4b0:decide (a1≤a0)=true:=decide_eq_true c4;clear c4;obtain rfl:=Option.some.inj H;go_enter Tryz.func32,Tryz.ntmps32;go_wp2;go_ret;exact⟨by first | rfl | (simp;done) | (simp [*];done),by repeat (first | exact Drawn0.refl _ | apply Drawn0.step)⟩
 ·
  rw [if_neg c4] at H;have c4b0:decide (a1≤a0)=false:=decide_eq_false c4;clear c4;obtain rfl:=Option.some.inj H;go_enter Tryz.func32,Tryz.ntmps32;go_wp2;go_ret;exact⟨by first | rfl | (simp;done) | (simp [*];done),by repeat (first | exact Drawn0.refl _ | apply Drawn0.step)⟩
def IsS67 (w0 W:World)(g:Nat)(f0:List Int)(f1:Int):Prop:=∃ A0 c0,W.heap[g]?=some (.cells #[.slice A0 f0.length c0,.int .i64 f1] 67 (0,0))∧w0.heap.size≤g∧Kd.C (Kd.int .u8) w0 A0 f0.length f0
theorem IsS67.grown {w0 W:World}{g:Nat}{f0:List Int}{f1:Int}{W1:World}{row:Option Nat}(h:IsS67 w0 W g f0 f1)(hw:W.grownBy W1 row)(hne:some g≠row):IsS67 w0 W1 g f0 f1:=by
 obtain⟨A0,c0,hb,hg,hr0⟩:=h;exact⟨A0,c0,blk_grown hb hw hne,hg,hr0⟩
theorem IsS67.own_neN {w0 W:World}{g:Nat}{f0:List Int}{f1:Int}{α:Type}{d:Kd α}{e:Nat}{base:Nat}{ok:Nat→Prop}{v:Value}{xs:List α}(h:IsS67 w0 W g f0 f1)(ho:Kd.N d e W base ok v xs)(ht:e≠67):some g≠v.ownBlock:=by
 obtain⟨A0,c0,hb,hg,hr0⟩:=h;exact Kd.N_ne ho hb ht
theorem IsS67.fresh {w0 W:World}{g:Nat}{f0:List Int}{f1:Int}(h:IsS67 w0 W g f0 f1):∀ k,W.heap.size≤k→k≠g:=by
 obtain⟨A0,c0,hb,hg,hr0⟩:=h;exact Kd.freshB hb
theorem IsS67.kept {w0 W:World}{g:Nat}{f0:List Int}{f1:Int}{W1:World}{S:Nat→Prop}(h:IsS67 w0 W g f0 f1)(hk:Kept W W1 S)(hne:¬ S g):IsS67 w0 W1 g f0 f1:=by
 obtain⟨A0,c0,hb,hg,hr0⟩:=h;exact⟨A0,c0,blk_kept hb hk hne,hg,hr0⟩
theorem IsS67.below {w0 W:World}{g:Nat}{f0:List Int}{f1:Int}{W1:World}(h:IsS67 w0 W g f0 f1)(hw:Below W.heap.size W W1):IsS67 w0 W1 g f0 f1:=h.grown (grown_of_below hw none) (by simp)
theorem IsS67.alloc {w0 W:World}{g:Nat}{f0:List Int}{f1:Int}(h:IsS67 w0 W g f0 f1)(o:Obj):IsS67 w0 (W.alloc o) g f0 f1:=h.below (below_alloc (Below.refl _ _) o)
theorem IsS67.drewN {w0 W:World}{g:Nat}{f0:List Int}{f1:Int}(h:IsS67 w0 W g f0 f1)(m:Nat):IsS67 w0 (W.drewN m) g f0 f1:=h
theorem IsS67.drew {w0 W:World}{g:Nat}{f0:List Int}{f1:Int}(h:IsS67 w0 W g f0 f1):IsS67 w0 W.drew g f0 f1:=h
theorem IsS67.at_ {w0 W:World}{g:Nat}{f0:List Int}{f1:Int}{w':World}{m:Nat}(hq:W.drewN m=w')(h:IsS67 w0 W g f0 f1):IsS67 w0 w' g f0 f1:=by subst hq;exact IsS67.drewN h m
theorem IsS67.apart {w0 W:World}{g:Nat}{f0:List Int}{f1:Int}{α:Type}{d:Kd α}{e:Nat}{base:Nat}{ok:Nat→Prop}{v:Value}{xs:List α}(h:IsS67 w0 W g f0 f1)(ho:d.R e W base ok v xs)(ht:∀ q,q∈e::d.E→q≠67):d.R e W base (fun k=>ok k∧k≠g) v xs:=by
 obtain⟨A0,c0,hb,hg,hr0⟩:=h;exact Kd.R_types ho hb ht
theorem IsS67.own_ne {w0 W:World}{g:Nat}{f0:List Int}{f1:Int}{α:Type}{d:Kd α}{e:Nat}{base:Nat}{ok:Nat→Prop}{v:Value}{xs:List α}(h:IsS67 w0 W g f0 f1)(ho:d.R e W base ok v xs)(ht:e≠67):some g≠v.ownBlock:=by
 obtain⟨A0,c0,hb,hg,hr0⟩:=h;exact Kd.R_ne ho hb ht
theorem IsS67.lt {w0 W:World}{g:Nat}{f0:List Int}{f1:Int}(h:IsS67 w0 W g f0 f1):g<W.heap.size:=by
 obtain⟨A0,c0,hb,hg,hr0⟩:=h;exact blk_lt hb
theorem IsS67.ge {w0 W:World}{g:Nat}{f0:List Int}{f1:Int}(h:IsS67 w0 W g f0 f1):w0.heap.size≤g:=by
 obtain⟨A0,c0,hb,hg,hr0⟩:=h;exact hg
theorem IsS67.far {w0 W:World}{g:Nat}{f0:List Int}{f1:Int}{p:Addr}(h:IsS67 w0 W g f0 f1)(hne:g≠p.block)(u:Value):IsS67 w0 (W.setCell p u) g f0 f1:=by
 obtain⟨A0,c0,hb,hg,hr0⟩:=h;exact⟨A0,c0,blk_far hb hne u,hg,hr0⟩
theorem cellS67_0 {W:World}{g:Nat}{A0:Option Addr}{c0:Nat}{f0:List Int}{f1:Int}(h:W.heap[g]?=some (.cells #[.slice A0 f0.length c0,.int .i64 f1] 67 (0,0))):W.cell? ⟨g,0,none⟩=some (.slice A0 f0.length c0):=(blk_cell h 0).trans rfl
theorem cellS67_1 {W:World}{g:Nat}{A0:Option Addr}{c0:Nat}{f0:List Int}{f1:Int}(h:W.heap[g]?=some (.cells #[.slice A0 f0.length c0,.int .i64 f1] 67 (0,0))):W.cell? ⟨g,1,none⟩=some (.int .i64 f1):=(blk_cell h 1).trans rfl
theorem IsS67.set_1 {w0 W:World}{g:Nat}{f0:List Int}{f1:Int}(h:IsS67 w0 W g f0 f1)(x:Int):IsS67 w0 (W.setCell ⟨g,1,none⟩ (.int .i64 x)) g f0 x:=by
 obtain⟨A0,c0,hb,hg,hr0⟩:=h;exact⟨A0,c0,by simpa using blk_set hb 1 (.int .i64 x),hg,hr0⟩
theorem IsS67.new (w0 W:World)(A0:Option Addr)(c0:Nat)(f0:List Int)(f1:Int)(hB:Below w0.heap.size w0 W)(hr0:Kd.C (Kd.int .u8) w0 A0 f0.length f0):IsS67 w0 (W.alloc (.cells #[.slice A0 f0.length c0,.int .i64 f1] 67)) W.heap.size f0 f1:=⟨A0,c0,by simpa using heap_alloc_new W _,hB.size,hr0⟩
def spec_l6Open.f (l0:List Int):Option (List Int × Int):=if (l0.length:Int)>2000 then (if 2000≤(l0.length:Int) then (some (l0.take 2000,0)) else (none)) else (some (l0,0))
set_option maxHeartbeats 8000000 in
set_option maxRecDepth 100000 in
theorem spec_l6Open.calls (A0:Option Addr)(c0:Nat)(l0:List Int)(r1:List Int)(r2:Int)(w0 w:World)(hB:Below w0.heap.size w0 w)(hr0:Kd.C (Kd.int .u8) w0 A0 l0.length l0)(hc0:l0.length≤c0)(h:spec_l6Open.f l0=some (r1,r2)):
  Calls Tryz.prog 10 #[.slice A0 l0.length c0] w fun e w'=>∃ g_:Nat,e=.returned (.pointer (some ⟨g_,0,none⟩))∧IsS67 w0 w' g_ r1 r2∧Below w0.heap.size w0 w'∧Below w.heap.size w w':=by
 have hu67:=Tryz.underlying67;have HR0:=Aside0.mk hr0;have HC0:=Aside0.mk hc0;clear hr0 hc0;have HBW:=Aside0.mk (Below.refl w.heap.size w);have HW0:=Aside0.mk hB.size;have HB:=Aside0.mk hB;clear hB;have H:(if (l0.length:Int)>2000 then (if 2000≤(l0.length:Int) then (some (l0.take 2000,0)) else (none)) else (some (l0,0)))=some (r1,r2):=h;clear h;by_cases c2:(l0.length:Int)>2000
 ·
  rw [if_pos c2] at H;have c2b0:decide (2000<(l0.length:Int))=true:=decide_eq_true c2;have c2b1:decide (2000<l0.length)=true:=decide_eq_true (by omega);clear c2;by_cases c3:2000≤(l0.length:Int)
  ·
   rw [if_pos c3] at H;have c3b0:=eq_true c3;have c3b1:decide (2000≤(l0.length:Int))=true:=decide_eq_true c3;clear c3;simp only [Option.some.injEq,Prod.mk.injEq] at H;obtain⟨rfl,rfl⟩:=H;obtain⟨i04,hi04,_,hsz4,_⟩:=info_parts info5;obtain⟨hcut4,hA4,hC4⟩:=print_take_of (P:=Tryz.prog) (Value.int .u8) 0 22 5 .i64 Tryz.underlying22 hi04 hsz4 A0 c0 l0 2000 (by omega) (of_decide_eq_true (by first | (with_reducible assumption) | assumption)) HC0.out;have HR101:=Aside0.mk (Kd.C_of_reads (h1:=fun _=>rfl) (hA4 _ (Kd.reads_of_C HR0.out)));have HC101:=Aside0.mk hC4;clear hA4 hC4 hi04 hsz4;go_enter Tryz.func10,Tryz.ntmps10;go_wp2_with (first | ((with_reducible refine gate_dst (N:=10) rfl ?_);refine box_event ?hg (N:=10) ?hd (cs:=#[.slice A0 (l0.take 2000).length c0,.int .i64 0]) (t:=67) ?hr ?_;(case hd=>rfl);(case hg=>rfl);(case hr=>first | (go_simp;done) | (go_simp;rfl));intro gb102 hg w5 hbox hb;have n0_:=Aside0.mk (below_step HBW.out hb);have n1_:=Aside0.mk (below_step (by repeat (first | (with_reducible first | exact HB.out | apply below_alloc | apply pw_below_drewN | apply below_drew1) | exact HB.out)) hb);have n2_:=Aside0.mk (hbox);have n3_:=Aside0.mk ((by rw [hg];exact (below_size (by repeat (first | (with_reducible first | exact HBW.out | apply below_alloc | apply pw_below_drewN | apply below_drew1) | exact HBW.out))):w.heap.size≤gb102));have n4_:=Aside0.mk ((Nat.le_trans HW0.out (by rw [hg];exact (below_size (by repeat (first | (with_reducible first | exact HBW.out | apply below_alloc | apply pw_below_drewN | apply below_drew1) | exact HBW.out))):w.heap.size≤gb102):w0.heap.size≤gb102));clear HBW;clear HB;have HBW:=n0_;have HB:=n1_;have BK102:=n2_;have GW102:=n3_;have GE102:=n4_;clear n0_ n1_ n2_ n3_ n4_;clear hb hbox hg));go_ret
   exact⟨_,rfl,(show IsS67 w0 _ gb102 (l0.take 2000) 0 from ⟨_,_,by (with_reducible repeat (first | refine blk_drewN ?_ _ | refine blk_drew ?_ | refine blk_alloc ?_ _));exact BK102.out,GE102.out,HR101.out⟩),by repeat (first | (with_reducible first | exact HB.out | apply below_alloc | apply pw_below_drewN | apply below_drew1 | refine below_set ?_ GE102.out) | exact HB.out),by repeat (first | (with_reducible first | exact HBW.out | apply below_alloc | apply pw_below_drewN | apply below_drew1 | refine below_set ?_ GW102.out) | exact HBW.out)⟩
  ·
   rw [if_neg c3] at H;exact absurd H (by simp)
 ·
  rw [if_neg c2] at H;have c2b0:decide (2000<(l0.length:Int))=false:=decide_eq_false c2;have c2b1:decide (2000<l0.length)=false:=decide_eq_false (by omega);clear c2;simp only [Option.some.injEq,Prod.mk.injEq] at H;obtain⟨rfl,rfl⟩:=H;go_enter Tryz.func10,Tryz.ntmps10;go_wp2_with (first | ((with_reducible refine gate_dst (N:=10) rfl ?_);refine box_event ?hg (N:=10) ?hd (cs:=#[.slice A0 l0.length c0,.int .i64 0]) (t:=67) ?hr ?_;(case hd=>rfl);(case hg=>rfl);(case hr=>first | (go_simp;done) | (go_simp;rfl));intro gb103 hg w6 hbox hb;have n0_:=Aside0.mk (below_step HBW.out hb);have n1_:=Aside0.mk (below_step (by repeat (first | (with_reducible first | exact HB.out | apply below_alloc | apply pw_below_drewN | apply below_drew1) | exact HB.out)) hb);have n2_:=Aside0.mk (hbox);have n3_:=Aside0.mk ((by rw [hg];exact (below_size (by repeat (first | (with_reducible first | exact HBW.out | apply below_alloc | apply pw_below_drewN | apply below_drew1) | exact HBW.out))):w.heap.size≤gb103));have n4_:=Aside0.mk ((Nat.le_trans HW0.out (by rw [hg];exact (below_size (by repeat (first | (with_reducible first | exact HBW.out | apply below_alloc | apply pw_below_drewN | apply below_drew1) | exact HBW.out))):w.heap.size≤gb103):w0.heap.size≤gb103));clear HBW;clear HB;have HBW:=n0_;have HB:=n1_;have BK103:=n2_;have GW103:=n3_;have GE103:=n4_;clear n0_ n1_ n2_ n3_ n4_;clear hb hbox hg));go_ret
  exact⟨_,rfl,(show IsS67 w0 _ gb103 l0 0 from ⟨_,_,by (with_reducible repeat (first | refine blk_drewN ?_ _ | refine blk_drew ?_ | refine blk_alloc ?_ _));exact BK103.out,GE103.out,HR0.out⟩),by repeat (first | (with_reducible first | exact HB.out | apply below_alloc | apply pw_below_drewN | apply below_drew1 | refine below_set ?_ GE103.out) | exact HB.out),by repeat (first | (with_reducible first | exact HBW.out | apply below_alloc | apply pw_below_drewN | apply below_drew1 | refine below_set ?_ GW103.out) | exact HBW.out)⟩
end Go.Proofs.YtailkppkjhkjpaaGreatDoor.X
end
section
set_option linter.unusedVariables false
namespace Go.Proofs.YtailkppkjhkjpaaGreatDoor.X
open Go.RowKit Go.Proofs.YtailkppkjhkjpaaGreatDoorW.PrintWords Go.Proofs.YtailkppkjhkjpaaGreatDoorW.PrintLast Go.Proofs.YtailkppkjhkjpaaGreatDoorW.PrintMore
theorem hI_ {P:Prop}(h:P:=by repeat (first | (with_reducible first | exact HI0.out | apply IsS67.alloc | apply IsS67.drewN | apply IsS67.drew | apply IsS67.set_1 | refine IsS67.far ?_ (Aside0.out (by assumption)) _) | exact HI0.out)):P:=h
theorem hBs_ {P:Prop}(h:P:=by repeat (first | (with_reducible first | exact HB.out | apply below_alloc | apply pw_below_drewN | apply below_drew1 | refine below_set ?_ (IsS67.ge HI0.out) | refine below_set ?_ (Aside0.out (by assumption))) | exact HB.out)):P:=h
theorem sl_ {w0 W W':World}{g gb:Nat}{b:List Int}{p:Int}(_:Aside0 (IsS67 w0 W g b p))(hg:gb=W'.heap.size)(h:IsS67 w0 W' g b p:=by repeat (first | (with_reducible first | exact HI0.out | apply IsS67.alloc | apply IsS67.drewN | apply IsS67.drew | apply IsS67.set_1 | refine IsS67.far ?_ (Aside0.out (by assumption)) _) | exact HI0.out)):Aside0 (g≠gb):=⟨by rw [hg];exact Nat.ne_of_lt (IsS67.lt h)⟩
theorem sr_ {w0 W W':World}{g gb:Nat}{b:List Int}{p:Int}(_:Aside0 (IsS67 w0 W g b p))(hg:gb=W'.heap.size)(h:IsS67 w0 W' g b p:=by repeat (first | (with_reducible first | exact HI0.out | apply IsS67.alloc | apply IsS67.drewN | apply IsS67.drew | apply IsS67.set_1 | refine IsS67.far ?_ (Aside0.out (by assumption)) _) | exact HI0.out)):Aside0 (gb≠g):=⟨by rw [hg];exact Nat.ne_of_gt (IsS67.lt h)⟩
end Go.Proofs.YtailkppkjhkjpaaGreatDoor.X
end
section
namespace Go.Proofs.YtailkppkjhkjpaaGreatDoor.X
open Go.RowKit Go.Proofs.YtailkppkjhkjpaaGreatDoorW.PrintWords Go.Proofs.YtailkppkjhkjpaaGreatDoorW.PrintLast Go.Proofs.YtailkppkjhkjpaaGreatDoorW.PrintMore
attribute [local go_sem] max2_int min2_int max_two min_two max_three min_three max_four min_four
set_option linter.unusedVariables false
set_option linter.unusedSimpArgs false
def spec_l6Rd_pick.j0:Nat→Int→Bool→List Int→Int→Option (Int × Int)
 | 0,_,_,_,_=>none
 | k+1,x1,x24,x1000,x1001=>if x24=true then (some (0,x1001)) else (if (wrap64 (x1001-1))<(x1000.length:Int) then (if 0≤(wrap64 (x1001-1)) then (if x1=0 then (none) else (some (Int.tmod (wrap64 (rd x1000 (wrap64 (x1001-1)))) x1,x1001))) else (none)) else (if (x1000.length:Int)=0 then (none) else (if 0≤(Int.tmod (wrap64 (x1001-1)) (x1000.length:Int)) then (if (Int.tmod (wrap64 (x1001-1)) (x1000.length:Int))<(x1000.length:Int) then (if 0≤(Int.tmod (wrap64 ((wrap64 ((wrap64 (x1001-1))*7))+3)) (x1000.length:Int)) then (if (Int.tmod (wrap64 ((wrap64 ((wrap64 (x1001-1))*7))+3)) (x1000.length:Int))<(x1000.length:Int) then (if x1=0 then (none) else (some (Int.tmod (Go.bits .xor .i64 (wrap64 ((wrap64 ((wrap64 ((wrap64 ((wrap64 (rd x1000 (Int.tmod (wrap64 (x1001-1)) (x1000.length:Int))))*131))+(wrap64 ((wrap64 (rd x1000 (Int.tmod (wrap64 ((wrap64 ((wrap64 (x1001-1))*7))+3)) (x1000.length:Int))))*1117))))+(wrap64 ((wrap64 (x1001-1))*29))))+(wrap64 ((wrap64 (Int.tdiv (wrap64 (x1001-1)) (x1000.length:Int)))*53)))) (wrap64 (Int.tdiv (wrap64 ((wrap64 ((wrap64 ((wrap64 ((wrap64 (rd x1000 (Int.tmod (wrap64 (x1001-1)) (x1000.length:Int))))*131))+(wrap64 ((wrap64 (rd x1000 (Int.tmod (wrap64 ((wrap64 ((wrap64 (x1001-1))*7))+3)) (x1000.length:Int))))*1117))))+(wrap64 ((wrap64 (x1001-1))*29))))+(wrap64 ((wrap64 (Int.tdiv (wrap64 (x1001-1)) (x1000.length:Int)))*53)))) 64))) x1,x1001))) else (none)) else (none)) else (none)) else (none))))
def spec_l6Rd_pick.f (k:Nat)(s0_0:List Int)(s0_1:Int)(a1:Int):Option (Int × Int):=if a1<1 then (spec_l6Rd_pick.j0 k a1 true s0_0 (wrap64 (s0_1+1))) else (spec_l6Rd_pick.j0 k a1 ((s0_0.length:Int)==0) s0_0 (wrap64 (s0_1+1)))
set_option maxHeartbeats 8000000 in
set_option maxRecDepth 100000 in
theorem spec_l6Rd_pick.calls (k:Nat)(g:Nat)(s0_0:List Int)(s0_1:Int)(a1:Int)(r1:Int)(r2:Int)(w0 w:World)(hI:IsS67 w0 w g s0_0 s0_1)(hB:Below w0.heap.size w0 w)(h:spec_l6Rd_pick.f k s0_0 s0_1 a1=some (r1,r2)):
  Calls Tryz.prog 13 #[.pointer (some ⟨g,0,none⟩),.int .i64 a1] w fun e w'=>e=.returned (.int .i64 r1)∧IsS67 w0 w' g s0_0 r2∧Below w0.heap.size w0 w'∧KeepBut w w' g none:=by
 have HI0:=Aside0.mk hI;have HK:=a0_ (KeepBut.refl w g none);have HL:=Aside0.mk hB.size;clear hI;have HW0:=Aside0.mk hB.size;have HB:=Aside0.mk hB;clear hB;have H:(if a1<1 then (spec_l6Rd_pick.j0 k a1 true s0_0 (wrap64 (s0_1+1))) else (spec_l6Rd_pick.j0 k a1 ((s0_0.length:Int)==0) s0_0 (wrap64 (s0_1+1))))=some (r1,r2):=h;clear h;have HC3:=Aside0.mk H;clear H;obtain⟨ASz4_0,cSz4_0,HGz4,hgz4,HSz4_0⟩:=HI0.out;have hcz4_0:=cellS67_0 HGz4;have hcz4_1:=cellS67_1 HGz4;have hfz4_1:=blk_frozen HGz4 1;clear HGz4 hgz4;go_enter Tryz.func13,Tryz.ntmps13;go_upto_region 2 with (fail)
 repeat (go_quiet (fail);go_upto_region 2 with (fail))
 go_cut [24] (fun v24 wc=>∃ (kq:Nat) (x24_2:Bool),v24=.bool x24_2∧Aside0 (spec_l6Rd_pick.j0 kq a1 x24_2 s0_0 (wrap64 (s0_1+1))=some (r1,r2))∧Aside0 (kq≤k)∧Aside0 (IsS67 w0 wc g s0_0 (wrap64 (s0_1+1)))∧Aside0 (KeepBut w wc g none)∧Aside0 (Below w0.heap.size w0 wc))
 case first =>
  have H:=HC3.out;clear HC3;by_cases c5:a1<1
  ·
   rw [if_pos c5] at H;have c5b0:decide (a1<1)=true:=decide_eq_true c5;clear c5
   (first | rw [c5b0] | (simp only [i64_w,i32_w];rw [c5b0]) | skip)
   have H':=Aside0.mk H;clear H;go_wp2
   repeat (go_quiet (fail);try go_wp2)
   go_meet
   case rel=>exact⟨_,(true),(by first | rfl | (simp;done) | (simp [*];done)),H',⟨by first | omega | exact Nat.le_refl _⟩,⟨by repeat (first | (with_reducible first | exact HI0.out | apply IsS67.alloc | apply IsS67.drewN | apply IsS67.drew | apply IsS67.set_1) | exact HI0.out)⟩,⟨by repeat (first | (with_reducible first | exact HK.out | apply KeepBut.set_ | apply keep_drewN | apply keep_drew | apply keep_alloc) | exact HK.out)⟩,⟨by repeat (first | (with_reducible first | exact HB.out | apply below_alloc | apply pw_below_drewN | apply below_drew1 | refine below_set ?_ (IsS67.ge HI0.out)) | exact HB.out)⟩⟩
  ·
   rw [if_neg c5] at H;have c5b0:decide (a1<1)=false:=decide_eq_false c5;clear c5
   (first | rw [c5b0] | (simp only [i64_w,i32_w];rw [c5b0]) | skip)
   have H':=Aside0.mk H;clear H;obtain⟨ASz6_0,cSz6_0,HGz6,hgz6,HSz6_0⟩:=HI0.out;have hcz6_0:=cellS67_0 HGz6;have hcz6_1:=cellS67_1 HGz6;have hfz6_1:=blk_frozen HGz6 1;clear HGz6 hgz6;go_wp2
   repeat (go_quiet (fail);try go_wp2)
   go_meet
   case rel=>exact⟨_,(((s0_0.length:Int)==0)),(by first | rfl | (simp;done) | (simp [*];done)),H',⟨by first | omega | exact Nat.le_refl _⟩,⟨by repeat (first | (with_reducible first | exact HI0.out | apply IsS67.alloc | apply IsS67.drewN | apply IsS67.drew | apply IsS67.set_1) | exact HI0.out)⟩,⟨by repeat (first | (with_reducible first | exact HK.out | apply KeepBut.set_ | apply keep_drewN | apply keep_drew | apply keep_alloc) | exact HK.out)⟩,⟨by repeat (first | (with_reducible first | exact HB.out | apply below_alloc | apply pw_below_drewN | apply below_drew1 | refine below_set ?_ (IsS67.ge HI0.out)) | exact HB.out)⟩⟩
 case rest =>
  clear HC3;obtain⟨kq,x24_2,rfl,HA,HJ2,HI0,HK,HB⟩:=hcut
  cases kq with
  | zero=>exact absurd HA.out (by simp [spec_l6Rd_pick.j0])
  | succ kj2 =>
   have H:=HA.out;clear HA;simp only [spec_l6Rd_pick.j0] at H;by_cases c7:x24_2=true
   ·
    subst c7;rw [if_pos rfl] at H
    (try dsimp only at H)
    simp only [Option.some.injEq,Prod.mk.injEq] at H;obtain⟨rfl,rfl⟩:=H;go_wp2
    repeat (go_quiet (fail);try go_wp2)
    go_ret;exact⟨rr_,by repeat (first | (with_reducible first | exact HI0.out | apply IsS67.alloc | apply IsS67.drewN | apply IsS67.drew | apply IsS67.set_1) | exact HI0.out),by repeat (first | (with_reducible first | exact HB.out | apply below_alloc | apply pw_below_drewN | apply below_drew1 | refine below_set ?_ (IsS67.ge HI0.out)) | exact HB.out),by repeat (first | (with_reducible first | exact HK.out | apply KeepBut.set_ | apply keep_drewN | apply keep_drew | apply keep_alloc) | exact HK.out)⟩
   ·
    replace c7:=Bool.eq_false_iff.mpr c7;subst c7;rw [if_neg (show ¬ (false=true) by decide)] at H
    (try dsimp only at H)
    by_cases c8:(wrap64 ((wrap64 (s0_1+1))-1))<(s0_0.length:Int)
    ·
     rw [if_pos c8] at H;have c8b0:decide ((wrap64 ((wrap64 (s0_1+1))-1))<(s0_0.length:Int))=true:=decide_eq_true c8;clear c8;obtain⟨ji9,hji9⟩:∃ j_:Int,(wrap64 ((wrap64 (s0_1+1))-1))=j_:=⟨_,rfl⟩;replace H:(if 0≤(ji9) then (if a1=0 then (none) else (some (Int.tmod (wrap64 (rd s0_0 (ji9))) a1,(wrap64 (s0_1+1))))) else (none))=some (r1,r2):=by first | (rw [hji9] at H;exact H) | (simp only [hji9] at H ⊢;exact H)
     (try rw [hji9] at c8b0)
     have hji9w:(IntKind.i64.wrap ((wrap64 (s0_1+1))-1))=ji9:=(i64_w _).trans hji9;by_cases c10:0≤(ji9)
     ·
      rw [if_pos c10] at H;have c10b0:decide (0≤(ji9))=true:=decide_eq_true c10;clear c10;by_cases c11:a1=0
      ·
       rw [if_pos c11] at H;exact absurd H (by simp)
      ·
       rw [if_neg c11] at H;have c11b0:(a1==0)=false:=beq_eq_false_iff_ne.mpr c11;have c11b1:(a1 != 0)=true:=bne_iff_ne.mpr c11;simp only [Option.some.injEq,Prod.mk.injEq] at H;obtain⟨rfl,rfl⟩:=H;obtain⟨ASz12_0,cSz12_0,HGz12,hgz12,HSz12_0⟩:=HI0.out;have hcz12_0:=cellS67_0 HGz12;have hcz12_1:=cellS67_1 HGz12;have hfz12_1:=blk_frozen HGz12 1;clear HGz12 hgz12;have p189:0≤((ji9):Int):=od_;have q189:(ji9)<(s0_0.length:Int):=od_;obtain⟨ad189,e189,hx189_0⟩:=Kd.at_int HSz12_0 (ji9) p189 q189;cases e189;replace hx189_0:=pw_cell_below HB.out hx189_0;replace p189:=eq_true p189;replace q189:=eq_true q189;go_wp2
       repeat (go_quiet (fail);try go_wp2)
       go_ret;exact⟨by first | rfl | (simp [errW_none,errW_some] <;> rfl) | (simp only [← hji9];first | rfl | (simp [errW_none,errW_some] <;> rfl)) | (simp [*,errW_none,errW_some] <;> rfl),by repeat (first | (with_reducible first | exact HI0.out | apply IsS67.alloc | apply IsS67.drewN | apply IsS67.drew | apply IsS67.set_1) | exact HI0.out),by repeat (first | (with_reducible first | exact HB.out | apply below_alloc | apply pw_below_drewN | apply below_drew1 | refine below_set ?_ (IsS67.ge HI0.out)) | exact HB.out),by repeat (first | (with_reducible first | exact HK.out | apply KeepBut.set_ | apply keep_drewN | apply keep_drew | apply keep_alloc) | exact HK.out)⟩
     ·
      rw [if_neg c10] at H;exact absurd H (by simp)
    ·
     rw [if_neg c8] at H;have c8b0:decide ((wrap64 ((wrap64 (s0_1+1))-1))<(s0_0.length:Int))=false:=decide_eq_false c8;clear c8;by_cases c13:(s0_0.length:Int)=0
     ·
      rw [if_pos c13] at H;exact absurd H (by simp)
     ·
      rw [if_neg c13] at H;have c13b0:((s0_0.length:Int)==0)=false:=beq_eq_false_iff_ne.mpr c13;have c13b1:((s0_0.length:Int) != 0)=true:=bne_iff_ne.mpr c13;have c13b2:¬ (s0_0=[]):=fun h_=>c13 (by rw [h_];rfl)
      obtain⟨ji14,hji14⟩:∃ j_:Int,(Int.tmod (wrap64 ((wrap64 (s0_1+1))-1)) (s0_0.length:Int))=j_:=⟨_,rfl⟩;replace H:(if 0≤(ji14) then (if (ji14)<(s0_0.length:Int) then (if 0≤(Int.tmod (wrap64 ((wrap64 ((wrap64 ((wrap64 (s0_1+1))-1))*7))+3)) (s0_0.length:Int)) then (if (Int.tmod (wrap64 ((wrap64 ((wrap64 ((wrap64 (s0_1+1))-1))*7))+3)) (s0_0.length:Int))<(s0_0.length:Int) then (if a1=0 then (none) else (some (Int.tmod (Go.bits .xor .i64 (wrap64 ((wrap64 ((wrap64 ((wrap64 ((wrap64 (rd s0_0 (ji14)))*131))+(wrap64 ((wrap64 (rd s0_0 (Int.tmod (wrap64 ((wrap64 ((wrap64 ((wrap64 (s0_1+1))-1))*7))+3)) (s0_0.length:Int))))*1117))))+(wrap64 ((wrap64 ((wrap64 (s0_1+1))-1))*29))))+(wrap64 ((wrap64 (Int.tdiv (wrap64 ((wrap64 (s0_1+1))-1)) (s0_0.length:Int)))*53)))) (wrap64 (Int.tdiv (wrap64 ((wrap64 ((wrap64 ((wrap64 ((wrap64 (rd s0_0 (ji14)))*131))+(wrap64 ((wrap64 (rd s0_0 (Int.tmod (wrap64 ((wrap64 ((wrap64 ((wrap64 (s0_1+1))-1))*7))+3)) (s0_0.length:Int))))*1117))))+(wrap64 ((wrap64 ((wrap64 (s0_1+1))-1))*29))))+(wrap64 ((wrap64 (Int.tdiv (wrap64 ((wrap64 (s0_1+1))-1)) (s0_0.length:Int)))*53)))) 64))) a1,(wrap64 (s0_1+1))))) else (none)) else (none)) else (none)) else (none))=some (r1,r2):=by first | (rw [hji14] at H;exact H) | (simp only [hji14] at H ⊢;exact H)
      by_cases c15:0≤(ji14)
      ·
       rw [if_pos c15] at H;have c15b0:decide (0≤(ji14))=true:=decide_eq_true c15;clear c15;by_cases c16:(ji14)<(s0_0.length:Int)
       ·
        rw [if_pos c16] at H;have c16b0:decide ((ji14)<(s0_0.length:Int))=true:=decide_eq_true c16;clear c16;obtain⟨ji17,hji17⟩:∃ j_:Int,(Int.tmod (wrap64 ((wrap64 ((wrap64 ((wrap64 (s0_1+1))-1))*7))+3)) (s0_0.length:Int))=j_:=⟨_,rfl⟩;replace H:(if 0≤(ji17) then (if (ji17)<(s0_0.length:Int) then (if a1=0 then (none) else (some (Int.tmod (Go.bits .xor .i64 (wrap64 ((wrap64 ((wrap64 ((wrap64 ((wrap64 (rd s0_0 (ji14)))*131))+(wrap64 ((wrap64 (rd s0_0 (ji17)))*1117))))+(wrap64 ((wrap64 ((wrap64 (s0_1+1))-1))*29))))+(wrap64 ((wrap64 (Int.tdiv (wrap64 ((wrap64 (s0_1+1))-1)) (s0_0.length:Int)))*53)))) (wrap64 (Int.tdiv (wrap64 ((wrap64 ((wrap64 ((wrap64 ((wrap64 (rd s0_0 (ji14)))*131))+(wrap64 ((wrap64 (rd s0_0 (ji17)))*1117))))+(wrap64 ((wrap64 ((wrap64 (s0_1+1))-1))*29))))+(wrap64 ((wrap64 (Int.tdiv (wrap64 ((wrap64 (s0_1+1))-1)) (s0_0.length:Int)))*53)))) 64))) a1,(wrap64 (s0_1+1))))) else (none)) else (none))=some (r1,r2):=by first | (rw [hji17] at H;exact H) | (simp only [hji17] at H ⊢;exact H)
        by_cases c18:0≤(ji17)
        ·
         rw [if_pos c18] at H;have c18b0:decide (0≤(ji17))=true:=decide_eq_true c18;clear c18;by_cases c19:(ji17)<(s0_0.length:Int)
         ·
          rw [if_pos c19] at H;have c19b0:decide ((ji17)<(s0_0.length:Int))=true:=decide_eq_true c19;clear c19;by_cases c20:a1=0
          ·
           rw [if_pos c20] at H;exact absurd H (by simp)
          ·
           rw [if_neg c20] at H;have c20b0:(a1==0)=false:=beq_eq_false_iff_ne.mpr c20;have c20b1:(a1 != 0)=true:=bne_iff_ne.mpr c20;simp only [Option.some.injEq,Prod.mk.injEq] at H;obtain⟨rfl,rfl⟩:=H;obtain⟨ASz21_0,cSz21_0,HGz21,hgz21,HSz21_0⟩:=HI0.out;have hcz21_0:=cellS67_0 HGz21;have hcz21_1:=cellS67_1 HGz21;have hfz21_1:=blk_frozen HGz21 1;clear HGz21 hgz21;have p190:0≤((ji14):Int):=od_;have q190:(ji14)<(s0_0.length:Int):=od_;obtain⟨ad190,e190,hx190_0⟩:=Kd.at_int HSz21_0 (ji14) p190 q190;cases e190;replace hx190_0:=pw_cell_below HB.out hx190_0;replace p190:=eq_true p190;replace q190:=eq_true q190;have p191:0≤((ji17):Int):=od_;have q191:(ji17)<(s0_0.length:Int):=od_;obtain⟨ad191,e191,hx191_0⟩:=Kd.at_int HSz21_0 (ji17) p191 q191;obtain rfl:ad190=ad191:=(by injection e191);replace hx191_0:=pw_cell_below HB.out hx191_0;replace p191:=eq_true p191;replace q191:=eq_true q191;go_wp2
           repeat (go_quiet (fail);try go_wp2)
           go_ret;exact⟨by first | rfl | (simp [errW_none,errW_some] <;> rfl) | (simp only [← hji14,← hji17];first | rfl | (simp [errW_none,errW_some] <;> rfl)) | (simp [*,errW_none,errW_some] <;> rfl),by repeat (first | (with_reducible first | exact HI0.out | apply IsS67.alloc | apply IsS67.drewN | apply IsS67.drew | apply IsS67.set_1) | exact HI0.out),by repeat (first | (with_reducible first | exact HB.out | apply below_alloc | apply pw_below_drewN | apply below_drew1 | refine below_set ?_ (IsS67.ge HI0.out)) | exact HB.out),by repeat (first | (with_reducible first | exact HK.out | apply KeepBut.set_ | apply keep_drewN | apply keep_drew | apply keep_alloc) | exact HK.out)⟩
         ·
          rw [if_neg c19] at H;exact absurd H (by simp)
        ·
         rw [if_neg c18] at H;exact absurd H (by simp)
       ·
        rw [if_neg c16] at H;exact absurd H (by simp)
      ·
       rw [if_neg c15] at H;exact absurd H (by simp)
end Go.Proofs.YtailkppkjhkjpaaGreatDoor.X
end
section
set_option linter.unusedVariables false
set_option linter.unusedSimpArgs false
namespace Go.Proofs.YtailkppkjhkjpaaGreatDoor.X
open Go.RowKit Go.Proofs.YtailkppkjhkjpaaGreatDoorW.PrintWords Go.Proofs.YtailkppkjhkjpaaGreatDoorW.PrintLast Go.Proofs.YtailkppkjhkjpaaGreatDoorW.PrintMore
open Mort
theorem w64 {x:Int}(h : -9223372036854775808≤x)(h':x≤9223372036854775807):wrap64 x=x:=by unfold wrap64;omega
theorem l6In_told (n a b:Int):spec_l6In.f n a b=some (decide (a≤n) && decide (n≤b)):=by
 unfold spec_l6In.f;by_cases h:n≥a
 ·
  rw [if_pos h,decide_eq_true (show a≤n from h)];rfl
 ·
  rw [if_neg h,decide_eq_false (show ¬ a≤n from h)];rfl
def Bytes (l:List Int):Prop:=(∀ x∈l,0≤x∧x≤255)∧l.length≤2000
theorem rd_byte {l:List Int}(h:Bytes l)(i:Int):0≤rd l i∧rd l i≤255:=by
 unfold rd;by_cases hi:i.toNat<l.length
 ·
  rw [List.getD_eq_getElem?_getD,List.getElem?_eq_getElem hi];exact h.1 _ (List.getElem_mem hi)
 ·
  rw [List.getD_eq_getElem?_getD,List.getElem?_eq_none (by omega)];simp
theorem xor_nn {a b:Int}(ha:0≤a)(ha':a<4294967296)(hb:0≤b)(hb':b<4294967296):0≤Go.bits .xor .i64 a b:=by
 obtain⟨x,rfl⟩:=Int.eq_ofNat_of_zero_le ha;obtain⟨y,rfl⟩:=Int.eq_ofNat_of_zero_le hb;have hx:x ^^^ y<2 ^ 32:=Nat.xor_lt_two_pow (by omega) (by omega);have h1:(BitVec.ofInt 64 (x:Int)).toNat=x:=by
  rw [BitVec.ofInt_natCast,BitVec.toNat_ofNat];exact Nat.mod_eq_of_lt (by omega)
 have h2:(BitVec.ofInt 64 (y:Int)).toNat=y:=by
  rw [BitVec.ofInt_natCast,BitVec.toNat_ofNat];exact Nat.mod_eq_of_lt (by omega)
 show 0≤IntKind.i64.wrap ((BitVec.ofInt 64 (x:Int) ^^^ BitVec.ofInt 64 (y:Int)).toNat:Int)
 rw [BitVec.toNat_xor,h1,h2];have:IntKind.i64.wrap ((x ^^^ y:Nat):Int)=wrap64 ((x ^^^ y:Nat):Int):=by
  simp [IntKind.wrap,IntKind.bits,IntKind.signed,wrap64]
  split <;> omega
 rw [this,w64 (by omega) (by omega)];omega
theorem tmod_in {a b:Int}(ha:0≤a)(hb:1≤b):0≤Int.tmod a b∧Int.tmod a b<b:=by
 rw [Int.tmod_eq_emod_of_nonneg ha];exact⟨Int.emod_nonneg _ (by omega),Int.emod_lt_of_pos _ (by omega)⟩
theorem tdiv_in {a b:Int}(ha:0≤a)(hb:1≤b):0≤Int.tdiv a b∧Int.tdiv a b≤a:=by
 rw [Int.tdiv_eq_ediv_of_nonneg ha];exact⟨Int.ediv_nonneg ha (by omega),Int.ediv_le_self _ ha⟩
theorem pick_told {l:List Int}(hl:Bytes l){p n:Int}(hp:0≤p)(hp':p≤1000000)(hn:1≤n)(hn':n≤1000000):
  ∃ r,(∀ k,1≤k→spec_l6Rd_pick.f k l p n=some (r,p+1))∧0≤r∧r<n:=by
 have e1:wrap64 (p+1)=p+1:=w64 (by omega) (by omega);have e2:wrap64 (p+1-1)=p:=by rw [w64 (by omega) (by omega)];omega
 have hlen:=hl.2;by_cases h0:(l.length:Int)=0
 ·
  refine⟨0,fun k hk=>?_,by omega,by omega⟩;obtain⟨k,rfl⟩:∃ m,k=m+1:=⟨k-1,by omega⟩;unfold spec_l6Rd_pick.f;rw [if_neg (by omega),e1];simp only [h0,beq_self_eq_true,spec_l6Rd_pick.j0,if_true]
 ·
  have hb:((l.length:Int)==0)=false:=beq_eq_false_iff_ne.mpr h0;by_cases h1:p<(l.length:Int)
  ·
   have hr:=rd_byte hl p;have e3:wrap64 (rd l p)=rd l p:=w64 (by omega) (by omega);obtain⟨t1,t2⟩:=tmod_in (b:=n) hr.1 hn;refine⟨Int.tmod (rd l p) n,fun k hk=>?_,t1,t2⟩;obtain⟨k,rfl⟩:∃ m,k=m+1:=⟨k-1,by omega⟩;unfold spec_l6Rd_pick.f;rw [if_neg (by omega),e1,hb];simp only [spec_l6Rd_pick.j0,Bool.false_eq_true,if_false];rw [e2,if_pos h1,if_pos hp,if_neg (by omega),e3]
  ·
   have hl1:1≤(l.length:Int):=by omega
   obtain⟨a1,a2⟩:=tmod_in (b:=(l.length:Int)) hp hl1;have e7:wrap64 (p*7)=p*7:=w64 (by omega) (by omega);have e8:wrap64 (p*7+3)=p*7+3:=w64 (by omega) (by omega);obtain⟨b1,b2⟩:=tmod_in (a:=p*7+3) (b:=(l.length:Int)) (by omega) hl1;obtain⟨d1,d2⟩:=tdiv_in (b:=(l.length:Int)) hp hl1;have r1:=rd_byte hl (Int.tmod p (l.length:Int));have r2:=rd_byte hl (Int.tmod (p*7+3) (l.length:Int));have key:∃ X:Int,0≤X∧X<4294967296∧(wrap64 ((wrap64 ((wrap64 ((wrap64 ((wrap64 (rd l (Int.tmod p (l.length:Int))))*131))+(wrap64 ((wrap64 (rd l (Int.tmod (p*7+3) (l.length:Int))))*1117))))+(wrap64 (p*29))))+(wrap64 ((wrap64 (Int.tdiv p (l.length:Int)))*53))))=X:=by
    generalize rd l (Int.tmod p (l.length:Int))=u at *;generalize rd l (Int.tmod (p*7+3) (l.length:Int))=v at *;generalize Int.tdiv p (l.length:Int)=q at *;refine⟨u*131+v*1117+p*29+q*53,by omega,by omega,?_⟩;rw [w64 (x:=u) (by omega) (by omega),w64 (x:=v) (by omega) (by omega),w64 (x:=q) (by omega) (by omega),w64 (x:=u*131) (by omega) (by omega),w64 (x:=v*1117) (by omega) (by omega),w64 (x:=p*29) (by omega) (by omega),w64 (x:=q*53) (by omega) (by omega),w64 (x:=u*131+v*1117) (by omega) (by omega),w64 (x:=u*131+v*1117+p*29) (by omega) (by omega),w64 (by omega) (by omega)]
   obtain⟨X,x1,x2,hX⟩:=key;obtain⟨y1,y2⟩:=tdiv_in (a:=X) (b:=64) x1 (by omega);have e9:wrap64 (Int.tdiv X 64)=Int.tdiv X 64:=w64 (by omega) (by omega);obtain⟨t1,t2⟩:=tmod_in (b:=n) (xor_nn x1 x2 y1 (by omega)) hn;refine⟨Int.tmod (Go.bits .xor .i64 X (Int.tdiv X 64)) n,fun k hk=>?_,t1,t2⟩;obtain⟨k,rfl⟩:∃ m,k=m+1:=⟨k-1,by omega⟩;unfold spec_l6Rd_pick.f;rw [if_neg (by omega),e1,hb];simp only [spec_l6Rd_pick.j0,Bool.false_eq_true,if_false];rw [e2,if_neg h1,if_neg h0,if_pos a1,if_pos a2,e7,e8,if_pos b1,if_pos b2,if_neg (by omega),hX,e9]
theorem open_told (l:List Int)(h:∀ x∈l,(Lit.int .u8 x).wf=true):∃ m,spec_l6Open.f l=some (m,0)∧Bytes m:=by
 have hb:∀ x∈l,0≤x∧x≤255:=fun x hx=>by
  have:=h x hx;simp [Lit.wf,IntKind.min,IntKind.max,IntKind.bits,IntKind.signed] at this;omega
 unfold spec_l6Open.f;by_cases hl:(l.length:Int)>2000
 ·
  rw [if_pos hl,if_pos (by omega)];exact⟨l.take 2000,rfl,fun x hx=>hb x (List.mem_of_mem_take hx),by rw [List.length_take];omega⟩
 ·
  rw [if_neg hl];exact⟨l,rfl,hb,by omega⟩
end Go.Proofs.YtailkppkjhkjpaaGreatDoor.X
end
section
namespace Go.Proofs.YtailkppkjhkjpaaGreatDoor.X
open Go.RowKit Go.Proofs.YtailkppkjhkjpaaGreatDoorW.PrintWords Go.Proofs.YtailkppkjhkjpaaGreatDoorW.PrintLast Go.Proofs.YtailkppkjhkjpaaGreatDoorW.PrintMore
attribute [local go_sem] max2_int min2_int max_two min_two max_three min_three max_four min_four
set_option linter.unusedVariables false
set_option linter.unusedSimpArgs false
theorem eqA70 (d:Nat)(w:World)(x0 y0:Int)(x1 y1:Int):
  (Op.equalIn (d+2) 70 (.agg #[.int .i64 x0,.int .i64 x1]) (.agg #[.int .i64 y0,.int .i64 y1])).run Tryz.prog w=.ok (x0==y0 && (x1==y1)) w:=by
 refine eqA_of Tryz.underlying70 (by kernel_rfl) ?_;refine eqf_cons (by rfl) (by go_simp;rfl) (by go_simp;rfl) (by go_simp) ?_;exact eqf_last (by rfl) (by go_simp;rfl) (by go_simp;rfl) (by go_simp)
def spec_PtOk.f (a0_0:Int)(a0_1:Int):Option (Bool):=(spec_l6In.f a0_0 0 9).bind fun t113=>(if t113=true then ((spec_l6In.f a0_1 0 9).bind fun t114=>(some t114)) else (some false))
set_option maxHeartbeats 8000000 in
set_option maxRecDepth 100000 in
theorem spec_PtOk.calls (a0_0:Int)(a0_1:Int)(r:Bool)(w:World)(h:spec_PtOk.f a0_0 a0_1=some r):
  Calls Tryz.prog 68 #[.agg #[.int .i64 a0_0,.int .i64 a0_1]] w fun e w'=>e=.returned (.bool r)∧Below w.heap.size w w':=by
 have hu70:=Tryz.underlying70;have HB:=a0_ (Below.refl w.heap.size w);have H:((spec_l6In.f a0_0 0 9).bind fun t113=>(if t113=true then ((spec_l6In.f a0_1 0 9).bind fun t114=>(some t114)) else (some false)))=some r:=h;clear h;replace H:=Option.bind_eq_some_iff.mp H;obtain⟨t113,A20,H⟩:=H
 (try dsimp only at H)
 have A2:=Aside0.mk A20;clear A20;by_cases c3:t113=true
 ·
  subst c3;rw [if_pos rfl] at H
  (try dsimp only at H)
  replace H:=Option.bind_eq_some_iff.mp H;obtain⟨t114,A40,H⟩:=H
  (try dsimp only at H)
  have A4:=Aside0.mk A40;clear A40;obtain rfl:=Option.some.inj H;go_enter Tryz.func68,Tryz.ntmps68;go_wp2_with (first | ((with_reducible refine gate_dst (N:=1) rfl ?_);refine bx_ (N:=1) (cs:=#[.int .i64 a0_0,.int .i64 a0_1]) (t:=70) (h:=?_);intro gb112 hg w5 hbox hb;have BK112:=a0_ (hbox);have GW112:=gh_ HB hg;have GE112:=gh_ HB hg;replace HB:=sb_ HB hb;clear hb hbox hg;have hcz6_0:=c20_ BK112;have hcz6_1:=c21_ BK112;have hfz6_0:=fz_ BK112 0;have hfz6_1:=fz_ BK112 1) | ((with_reducible refine gate_callee (f:=32) rfl ?_);refine gL_ (some 5) Tryz.func32 #[.int .i64 a0_0,.int .i64 0,.int .i64 9] (h:=?_);(with_reducible refine (spec_l6In.calls a0_0 0 9 true _ A2.out).mono ?_);rintro e w' ⟨rfl,⟨nd,rfl⟩⟩;refine⟨_,rfl,?_⟩) | (go_at_call 32;(with_reducible refine (spec_l6In.calls a0_1 0 9 t114 _ A4.out).mono ?_);rintro e w' ⟨rfl,⟨nd,rfl⟩⟩));go_ret;exact⟨rr_,hB_⟩
 ·
  replace c3:=Bool.eq_false_iff.mpr c3;subst c3;rw [if_neg (show ¬ (false=true) by decide)] at H
  (try dsimp only at H)
  obtain rfl:=Option.some.inj H;go_enter Tryz.func68,Tryz.ntmps68;go_wp2_with (first | ((with_reducible refine gate_dst (N:=1) rfl ?_);refine bx_ (N:=1) (cs:=#[.int .i64 a0_0,.int .i64 a0_1]) (t:=70) (h:=?_);intro gb112 hg w7 hbox hb;have BK112:=a0_ (hbox);have GW112:=gh_ HB hg;have GE112:=gh_ HB hg;replace HB:=sb_ HB hb;clear hb hbox hg;have hcz8_0:=c20_ BK112;have hcz8_1:=c21_ BK112;have hfz8_0:=fz_ BK112 0;have hfz8_1:=fz_ BK112 1) | ((with_reducible refine gate_callee (f:=32) rfl ?_);refine gL_ (some 5) Tryz.func32 #[.int .i64 a0_0,.int .i64 0,.int .i64 9] (h:=?_);(with_reducible refine (spec_l6In.calls a0_0 0 9 false _ A2.out).mono ?_);rintro e w' ⟨rfl,⟨nd,rfl⟩⟩;refine⟨_,rfl,?_⟩));go_ret;exact⟨rr_,hB_⟩
attribute [local go_sem high] eqA70
def spec_SegOk.f (a0_0:Int)(a0_1:Int)(a0_2:Int)(a0_3:Int):Option (Bool):=(spec_PtOk.f a0_0 a0_1).bind fun t116=>(if t116=true then ((spec_PtOk.f a0_2 a0_3).bind fun t117=>(if t117=true then (some (!(a0_0==a0_2) || (!(a0_1==a0_3)))) else (some false))) else (some false))
set_option maxHeartbeats 8000000 in
set_option maxRecDepth 100000 in
theorem spec_SegOk.calls (a0_0:Int)(a0_1:Int)(a0_2:Int)(a0_3:Int)(r:Bool)(w:World)(h:spec_SegOk.f a0_0 a0_1 a0_2 a0_3=some r):
  Calls Tryz.prog 50 #[.agg #[.int .i64 a0_0,.int .i64 a0_1,.int .i64 a0_2,.int .i64 a0_3]] w fun e w'=>e=.returned (.bool r)∧Below w.heap.size w w':=by
 have hu83:=Tryz.underlying83;have hu70:=Tryz.underlying70;have HB:=a0_ (Below.refl w.heap.size w);have H:((spec_PtOk.f a0_0 a0_1).bind fun t116=>(if t116=true then ((spec_PtOk.f a0_2 a0_3).bind fun t117=>(if t117=true then (some (!(a0_0==a0_2) || (!(a0_1==a0_3)))) else (some false))) else (some false)))=some r:=h;clear h;replace H:=Option.bind_eq_some_iff.mp H;obtain⟨t116,A20,H⟩:=H
 (try dsimp only at H)
 have A2:=Aside0.mk A20;clear A20;by_cases c3:t116=true
 ·
  subst c3;rw [if_pos rfl] at H
  (try dsimp only at H)
  replace H:=Option.bind_eq_some_iff.mp H;obtain⟨t117,A40,H⟩:=H
  (try dsimp only at H)
  have A4:=Aside0.mk A40;clear A40;by_cases c5:t117=true
  ·
   subst c5;rw [if_pos rfl] at H
   (try dsimp only at H)
   obtain rfl:=Option.some.inj H;go_enter Tryz.func50,Tryz.ntmps50;go_wp2_with (first | ((with_reducible refine gate_dst (N:=1) rfl ?_);refine bx_ (N:=1) (cs:=#[.int .i64 a0_0,.int .i64 a0_1,.int .i64 a0_2,.int .i64 a0_3]) (t:=83) (h:=?_);intro gb115 hg w6 hbox hb;have BK115:=a0_ (hbox);have GW115:=gh_ HB hg;have GE115:=gh_ HB hg;replace HB:=sb_ HB hb;clear hb hbox hg;have hcz7_0:=c40_ BK115;have hcz7_1:=c41_ BK115;have hcz7_2:=c42_ BK115;have hcz7_3:=c43_ BK115;have hfz7_0:=fz_ BK115 0;have hfz7_1:=fz_ BK115 1;have hfz7_2:=fz_ BK115 2;have hfz7_3:=fz_ BK115 3) | ((with_reducible refine gate_callee (f:=68) rfl ?_);refine gL_ (some 5) Tryz.func68 #[.agg #[.int .i64 a0_0,.int .i64 a0_1]] (h:=?_);(with_reducible refine (spec_PtOk.calls a0_0 a0_1 true _ A2.out).mono ?_);rintro e w8 ⟨rfl,hb⟩;refine⟨_,rfl,?_⟩;replace BK115:=vb_ BK115 hb;replace HB:=sb_ HB hb;(try clear hb);have hcz9_0:=c40_ BK115;have hcz9_1:=c41_ BK115;have hcz9_2:=c42_ BK115;have hcz9_3:=c43_ BK115;have hfz9_0:=fz_ BK115 0;have hfz9_1:=fz_ BK115 1;have hfz9_2:=fz_ BK115 2;have hfz9_3:=fz_ BK115 3) | (go_at_call 68;(with_reducible refine (spec_PtOk.calls a0_2 a0_3 true _ A4.out).mono ?_);rintro e w10 ⟨rfl,hb⟩;replace BK115:=vb_ BK115 hb;replace HB:=sb_ HB hb;(try clear hb);have hcz11_0:=c40_ BK115;have hcz11_1:=c41_ BK115;have hcz11_2:=c42_ BK115;have hcz11_3:=c43_ BK115;have hfz11_0:=fz_ BK115 0;have hfz11_1:=fz_ BK115 1;have hfz11_2:=fz_ BK115 2;have hfz11_3:=fz_ BK115 3));go_ret;exact⟨rr_,hB_⟩
  ·
   replace c5:=Bool.eq_false_iff.mpr c5;subst c5;rw [if_neg (show ¬ (false=true) by decide)] at H
   (try dsimp only at H)
   obtain rfl:=Option.some.inj H;go_enter Tryz.func50,Tryz.ntmps50;go_wp2_with (first | ((with_reducible refine gate_dst (N:=1) rfl ?_);refine bx_ (N:=1) (cs:=#[.int .i64 a0_0,.int .i64 a0_1,.int .i64 a0_2,.int .i64 a0_3]) (t:=83) (h:=?_);intro gb115 hg w12 hbox hb;have BK115:=a0_ (hbox);have GW115:=gh_ HB hg;have GE115:=gh_ HB hg;replace HB:=sb_ HB hb;clear hb hbox hg;have hcz13_0:=c40_ BK115;have hcz13_1:=c41_ BK115;have hcz13_2:=c42_ BK115;have hcz13_3:=c43_ BK115;have hfz13_0:=fz_ BK115 0;have hfz13_1:=fz_ BK115 1;have hfz13_2:=fz_ BK115 2;have hfz13_3:=fz_ BK115 3) | ((with_reducible refine gate_callee (f:=68) rfl ?_);refine gL_ (some 5) Tryz.func68 #[.agg #[.int .i64 a0_0,.int .i64 a0_1]] (h:=?_);(with_reducible refine (spec_PtOk.calls a0_0 a0_1 true _ A2.out).mono ?_);rintro e w14 ⟨rfl,hb⟩;refine⟨_,rfl,?_⟩;replace BK115:=vb_ BK115 hb;replace HB:=sb_ HB hb;(try clear hb);have hcz15_0:=c40_ BK115;have hcz15_1:=c41_ BK115;have hcz15_2:=c42_ BK115;have hcz15_3:=c43_ BK115;have hfz15_0:=fz_ BK115 0;have hfz15_1:=fz_ BK115 1;have hfz15_2:=fz_ BK115 2;have hfz15_3:=fz_ BK115 3) | (go_at_call 68;(with_reducible refine (spec_PtOk.calls a0_2 a0_3 false _ A4.out).mono ?_);rintro e w16 ⟨rfl,hb⟩;replace BK115:=vb_ BK115 hb;replace HB:=sb_ HB hb;(try clear hb)));go_ret;exact⟨rr_,hB_⟩
 ·
  replace c3:=Bool.eq_false_iff.mpr c3;subst c3;rw [if_neg (show ¬ (false=true) by decide)] at H
  (try dsimp only at H)
  obtain rfl:=Option.some.inj H;go_enter Tryz.func50,Tryz.ntmps50;go_wp2_with (first | ((with_reducible refine gate_dst (N:=1) rfl ?_);refine bx_ (N:=1) (cs:=#[.int .i64 a0_0,.int .i64 a0_1,.int .i64 a0_2,.int .i64 a0_3]) (t:=83) (h:=?_);intro gb115 hg w17 hbox hb;have BK115:=a0_ (hbox);have GW115:=gh_ HB hg;have GE115:=gh_ HB hg;replace HB:=sb_ HB hb;clear hb hbox hg;have hcz18_0:=c40_ BK115;have hcz18_1:=c41_ BK115;have hcz18_2:=c42_ BK115;have hcz18_3:=c43_ BK115;have hfz18_0:=fz_ BK115 0;have hfz18_1:=fz_ BK115 1;have hfz18_2:=fz_ BK115 2;have hfz18_3:=fz_ BK115 3) | ((with_reducible refine gate_callee (f:=68) rfl ?_);refine gL_ (some 5) Tryz.func68 #[.agg #[.int .i64 a0_0,.int .i64 a0_1]] (h:=?_);(with_reducible refine (spec_PtOk.calls a0_0 a0_1 false _ A2.out).mono ?_);rintro e w19 ⟨rfl,hb⟩;refine⟨_,rfl,?_⟩;replace BK115:=vb_ BK115 hb;replace HB:=sb_ HB hb;(try clear hb)));go_ret;exact⟨rr_,hB_⟩
def impl_along.f (a0_0:Int)(a0_1:Int)(a1_0:Int)(a1_1:Int)(a2_0:Int)(a2_1:Int):Option (Int):=some (wrap64 ((wrap64 ((wrap64 (a1_0-a0_0))*(wrap64 (a2_0-a0_0))))+(wrap64 ((wrap64 (a1_1-a0_1))*(wrap64 (a2_1-a0_1))))))
set_option maxHeartbeats 8000000 in
set_option maxRecDepth 100000 in
theorem impl_along.calls (a0_0:Int)(a0_1:Int)(a1_0:Int)(a1_1:Int)(a2_0:Int)(a2_1:Int)(r:Int)(w:World)(h:impl_along.f a0_0 a0_1 a1_0 a1_1 a2_0 a2_1=some r):
  Calls Tryz.prog 86 #[.agg #[.int .i64 a0_0,.int .i64 a0_1],.agg #[.int .i64 a1_0,.int .i64 a1_1],.agg #[.int .i64 a2_0,.int .i64 a2_1]] w fun e w'=>e=.returned (.int .i64 r)∧Below w.heap.size w w':=by
 have hu70:=Tryz.underlying70;have HB:=a0_ (Below.refl w.heap.size w);have H:(some (wrap64 ((wrap64 ((wrap64 (a1_0-a0_0))*(wrap64 (a2_0-a0_0))))+(wrap64 ((wrap64 (a1_1-a0_1))*(wrap64 (a2_1-a0_1)))))))=some r:=h;clear h;obtain rfl:=Option.some.inj H;go_enter Tryz.func86,Tryz.ntmps86;go_wp2_with (first | ((with_reducible refine gate_dst (N:=3) rfl ?_);refine bx_ (N:=3) (cs:=#[.int .i64 a0_0,.int .i64 a0_1]) (t:=70) (h:=?_);intro gb426 hg w4 hbox hb;have BK426:=a0_ (hbox);have GW426:=gh_ HB hg;have GE426:=gh_ HB hg;replace HB:=sb_ HB hb;clear hb hbox hg) | ((with_reducible refine gate_dst (N:=4) rfl ?_);refine bx_ (N:=4) (cs:=#[.int .i64 a1_0,.int .i64 a1_1]) (t:=70) (h:=?_);intro gb427 hg w5 hbox hb;have BK427:=a0_ (hbox);have GW427:=gh_ HB hg;have GE427:=gh_ HB hg;have NB426_427:=nl_ BK426 hg;have NB427_426:=nr_ BK426 hg;replace BK426:=vb_ BK426 hb;replace HB:=sb_ HB hb;clear hb hbox hg) | ((with_reducible refine gate_dst (N:=5) rfl ?_);refine bx_ (N:=5) (cs:=#[.int .i64 a2_0,.int .i64 a2_1]) (t:=70) (h:=?_);intro gb428 hg w6 hbox hb;have BK428:=a0_ (hbox);have GW428:=gh_ HB hg;have GE428:=gh_ HB hg;have NB426_428:=nl_ BK426 hg;have NB428_426:=nr_ BK426 hg;have NB427_428:=nl_ BK427 hg;have NB428_427:=nr_ BK427 hg;replace BK426:=vb_ BK426 hb;replace BK427:=vb_ BK427 hb;replace HB:=sb_ HB hb;clear hb hbox hg;have hnb7:=NB427_426.out;have hnc7:=NB426_427.out;have hnb8:=NB427_428.out;have hnc8:=NB428_427.out;have hcz9_0:=c20_ BK427;have hcz9_1:=c21_ BK427;have hfz9_0:=fz_ BK427 0;have hfz9_1:=fz_ BK427 1;have hnb10:=NB426_428.out;have hnc10:=NB428_426.out;have hcz11_0:=c20_ BK426;have hcz11_1:=c21_ BK426;have hfz11_0:=fz_ BK426 0;have hfz11_1:=fz_ BK426 1;have hcz12_0:=c20_ BK428;have hcz12_1:=c21_ BK428;have hfz12_0:=fz_ BK428 0;have hfz12_1:=fz_ BK428 1));go_ret;exact⟨rr_,hB_⟩
def impl_between.f (a0_0:Int)(a0_1:Int)(a1_0:Int)(a1_1:Int):Option (Int):=(impl_along.f a0_0 a0_1 a1_0 a1_1 a1_0 a1_1).bind fun t431=>(some t431)
set_option maxHeartbeats 8000000 in
set_option maxRecDepth 100000 in
theorem impl_between.calls (a0_0:Int)(a0_1:Int)(a1_0:Int)(a1_1:Int)(r:Int)(w:World)(h:impl_between.f a0_0 a0_1 a1_0 a1_1=some r):
  Calls Tryz.prog 87 #[.agg #[.int .i64 a0_0,.int .i64 a0_1],.agg #[.int .i64 a1_0,.int .i64 a1_1]] w fun e w'=>e=.returned (.int .i64 r)∧Below w.heap.size w w':=by
 have hu70:=Tryz.underlying70;have HB:=a0_ (Below.refl w.heap.size w);have H:((impl_along.f a0_0 a0_1 a1_0 a1_1 a1_0 a1_1).bind fun t431=>(some t431))=some r:=h;clear h;replace H:=Option.bind_eq_some_iff.mp H;obtain⟨t431,A30,H⟩:=H
 (try dsimp only at H)
 have A3:=Aside0.mk A30;clear A30;obtain rfl:=Option.some.inj H;go_enter Tryz.func87,Tryz.ntmps87;go_wp2_with (first | ((with_reducible refine gate_dst (N:=2) rfl ?_);refine bx_ (N:=2) (cs:=#[.int .i64 a0_0,.int .i64 a0_1]) (t:=70) (h:=?_);intro gb429 hg w4 hbox hb;have BK429:=a0_ (hbox);have GW429:=gh_ HB hg;have GE429:=gh_ HB hg;replace HB:=sb_ HB hb;clear hb hbox hg) | ((with_reducible refine gate_dst (N:=3) rfl ?_);refine bx_ (N:=3) (cs:=#[.int .i64 a1_0,.int .i64 a1_1]) (t:=70) (h:=?_);intro gb430 hg w5 hbox hb;have BK430:=a0_ (hbox);have GW430:=gh_ HB hg;have GE430:=gh_ HB hg;have NB429_430:=nl_ BK429 hg;have NB430_429:=nr_ BK429 hg;replace BK429:=vb_ BK429 hb;replace HB:=sb_ HB hb;clear hb hbox hg;have hnb6:=NB429_430.out;have hnc6:=NB430_429.out;have hcz7_0:=c20_ BK429;have hcz7_1:=c21_ BK429;have hfz7_0:=fz_ BK429 0;have hfz7_1:=fz_ BK429 1;have hcz8_0:=c20_ BK430;have hcz8_1:=c21_ BK430;have hfz8_0:=fz_ BK430 0;have hfz8_1:=fz_ BK430 1) | ((with_reducible refine gate_callee (f:=86) rfl ?_);refine gL_ (some 8) Tryz.func86 #[.agg #[.int .i64 a0_0,.int .i64 a0_1],.agg #[.int .i64 a1_0,.int .i64 a1_1],.agg #[.int .i64 a1_0,.int .i64 a1_1]] (h:=?_);(with_reducible refine (impl_along.calls a0_0 a0_1 a1_0 a1_1 a1_0 a1_1 t431 _ A3.out).mono ?_);rintro e w9 ⟨rfl,hb⟩;refine⟨_,rfl,?_⟩;replace BK429:=vb_ BK429 hb;replace BK430:=vb_ BK430 hb;replace HB:=sb_ HB hb;(try clear hb)));go_ret;exact⟨rr_,hB_⟩
def impl_cross.f (a0_0:Int)(a0_1:Int)(a1_0:Int)(a1_1:Int)(a2_0:Int)(a2_1:Int):Option (Int):=some (wrap64 ((wrap64 ((wrap64 (a1_0-a0_0))*(wrap64 (a2_1-a0_1))))-(wrap64 ((wrap64 (a1_1-a0_1))*(wrap64 (a2_0-a0_0))))))
set_option maxHeartbeats 8000000 in
set_option maxRecDepth 100000 in
theorem impl_cross.calls (a0_0:Int)(a0_1:Int)(a1_0:Int)(a1_1:Int)(a2_0:Int)(a2_1:Int)(r:Int)(w:World)(h:impl_cross.f a0_0 a0_1 a1_0 a1_1 a2_0 a2_1=some r):
  Calls Tryz.prog 85 #[.agg #[.int .i64 a0_0,.int .i64 a0_1],.agg #[.int .i64 a1_0,.int .i64 a1_1],.agg #[.int .i64 a2_0,.int .i64 a2_1]] w fun e w'=>e=.returned (.int .i64 r)∧Below w.heap.size w w':=by
 have hu70:=Tryz.underlying70;have HB:=a0_ (Below.refl w.heap.size w);have H:(some (wrap64 ((wrap64 ((wrap64 (a1_0-a0_0))*(wrap64 (a2_1-a0_1))))-(wrap64 ((wrap64 (a1_1-a0_1))*(wrap64 (a2_0-a0_0)))))))=some r:=h;clear h;obtain rfl:=Option.some.inj H;go_enter Tryz.func85,Tryz.ntmps85;go_wp2_with (first | ((with_reducible refine gate_dst (N:=3) rfl ?_);refine bx_ (N:=3) (cs:=#[.int .i64 a0_0,.int .i64 a0_1]) (t:=70) (h:=?_);intro gb423 hg w4 hbox hb;have BK423:=a0_ (hbox);have GW423:=gh_ HB hg;have GE423:=gh_ HB hg;replace HB:=sb_ HB hb;clear hb hbox hg) | ((with_reducible refine gate_dst (N:=4) rfl ?_);refine bx_ (N:=4) (cs:=#[.int .i64 a1_0,.int .i64 a1_1]) (t:=70) (h:=?_);intro gb424 hg w5 hbox hb;have BK424:=a0_ (hbox);have GW424:=gh_ HB hg;have GE424:=gh_ HB hg;have NB423_424:=nl_ BK423 hg;have NB424_423:=nr_ BK423 hg;replace BK423:=vb_ BK423 hb;replace HB:=sb_ HB hb;clear hb hbox hg) | ((with_reducible refine gate_dst (N:=5) rfl ?_);refine bx_ (N:=5) (cs:=#[.int .i64 a2_0,.int .i64 a2_1]) (t:=70) (h:=?_);intro gb425 hg w6 hbox hb;have BK425:=a0_ (hbox);have GW425:=gh_ HB hg;have GE425:=gh_ HB hg;have NB423_425:=nl_ BK423 hg;have NB425_423:=nr_ BK423 hg;have NB424_425:=nl_ BK424 hg;have NB425_424:=nr_ BK424 hg;replace BK423:=vb_ BK423 hb;replace BK424:=vb_ BK424 hb;replace HB:=sb_ HB hb;clear hb hbox hg;have hnb7:=NB424_423.out;have hnc7:=NB423_424.out;have hnb8:=NB424_425.out;have hnc8:=NB425_424.out;have hcz9_0:=c20_ BK424;have hcz9_1:=c21_ BK424;have hfz9_0:=fz_ BK424 0;have hfz9_1:=fz_ BK424 1;have hnb10:=NB423_425.out;have hnc10:=NB425_423.out;have hcz11_0:=c20_ BK423;have hcz11_1:=c21_ BK423;have hfz11_0:=fz_ BK423 0;have hfz11_1:=fz_ BK423 1;have hcz12_0:=c20_ BK425;have hcz12_1:=c21_ BK425;have hfz12_0:=fz_ BK425 0;have hfz12_1:=fz_ BK425 1));go_ret;exact⟨rr_,hB_⟩
def impl_PtOk.f (a0_0:Int)(a0_1:Int):Option (Bool):=if a0_0≥0 then (if a0_0≤9 then (if a0_1≥0 then (some (decide (a0_1≤9))) else (some false)) else (some false)) else (some false)
set_option maxHeartbeats 8000000 in
set_option maxRecDepth 100000 in
theorem impl_PtOk.calls (a0_0:Int)(a0_1:Int)(r:Bool)(w:World)(h:impl_PtOk.f a0_0 a0_1=some r):
  Calls Tryz.prog 75 #[.agg #[.int .i64 a0_0,.int .i64 a0_1]] w fun e w'=>e=.returned (.bool r)∧Below w.heap.size w w':=by
 have hu70:=Tryz.underlying70;have HB:=a0_ (Below.refl w.heap.size w);have H:(if a0_0≥0 then (if a0_0≤9 then (if a0_1≥0 then (some (decide (a0_1≤9))) else (some false)) else (some false)) else (some false))=some r:=h;clear h;by_cases c2:a0_0≥0
 ·
  rw [if_pos c2] at H;have c2b0:decide (0≤a0_0)=true:=decide_eq_true c2;clear c2;by_cases c3:a0_0≤9
  ·
   rw [if_pos c3] at H;have c3b0:decide (a0_0≤9)=true:=decide_eq_true c3;clear c3;by_cases c4:a0_1≥0
   ·
    rw [if_pos c4] at H;have c4b0:decide (0≤a0_1)=true:=decide_eq_true c4;clear c4;obtain rfl:=Option.some.inj H;go_enter Tryz.func75,Tryz.ntmps75;go_wp2_with (first | ((with_reducible refine gate_dst (N:=1) rfl ?_);refine bx_ (N:=1) (cs:=#[.int .i64 a0_0,.int .i64 a0_1]) (t:=70) (h:=?_);intro gb419 hg w5 hbox hb;have BK419:=a0_ (hbox);have GW419:=gh_ HB hg;have GE419:=gh_ HB hg;replace HB:=sb_ HB hb;clear hb hbox hg;have hcz6_0:=c20_ BK419;have hcz6_1:=c21_ BK419;have hfz6_0:=fz_ BK419 0;have hfz6_1:=fz_ BK419 1));go_ret;exact⟨rr_,hB_⟩
   ·
    rw [if_neg c4] at H;have c4b0:decide (0≤a0_1)=false:=decide_eq_false c4;clear c4;obtain rfl:=Option.some.inj H;go_enter Tryz.func75,Tryz.ntmps75;go_wp2_with (first | ((with_reducible refine gate_dst (N:=1) rfl ?_);refine bx_ (N:=1) (cs:=#[.int .i64 a0_0,.int .i64 a0_1]) (t:=70) (h:=?_);intro gb419 hg w7 hbox hb;have BK419:=a0_ (hbox);have GW419:=gh_ HB hg;have GE419:=gh_ HB hg;replace HB:=sb_ HB hb;clear hb hbox hg;have hcz8_0:=c20_ BK419;have hcz8_1:=c21_ BK419;have hfz8_0:=fz_ BK419 0;have hfz8_1:=fz_ BK419 1));go_ret;exact⟨rr_,hB_⟩
  ·
   rw [if_neg c3] at H;have c3b0:decide (a0_0≤9)=false:=decide_eq_false c3;clear c3;obtain rfl:=Option.some.inj H;go_enter Tryz.func75,Tryz.ntmps75;go_wp2_with (first | ((with_reducible refine gate_dst (N:=1) rfl ?_);refine bx_ (N:=1) (cs:=#[.int .i64 a0_0,.int .i64 a0_1]) (t:=70) (h:=?_);intro gb419 hg w9 hbox hb;have BK419:=a0_ (hbox);have GW419:=gh_ HB hg;have GE419:=gh_ HB hg;replace HB:=sb_ HB hb;clear hb hbox hg;have hcz10_0:=c20_ BK419;have hcz10_1:=c21_ BK419;have hfz10_0:=fz_ BK419 0;have hfz10_1:=fz_ BK419 1));go_ret;exact⟨rr_,hB_⟩
 ·
  rw [if_neg c2] at H;have c2b0:decide (0≤a0_0)=false:=decide_eq_false c2;clear c2;obtain rfl:=Option.some.inj H;go_enter Tryz.func75,Tryz.ntmps75;go_wp2_with (first | ((with_reducible refine gate_dst (N:=1) rfl ?_);refine bx_ (N:=1) (cs:=#[.int .i64 a0_0,.int .i64 a0_1]) (t:=70) (h:=?_);intro gb419 hg w11 hbox hb;have BK419:=a0_ (hbox);have GW419:=gh_ HB hg;have GE419:=gh_ HB hg;replace HB:=sb_ HB hb;clear hb hbox hg;have hcz12_0:=c20_ BK419;have hcz12_1:=c21_ BK419;have hfz12_0:=fz_ BK419 0;have hfz12_1:=fz_ BK419 1));go_ret;exact⟨rr_,hB_⟩
attribute [local go_sem high] eqA70
def impl_SegOk.f (a0_0:Int)(a0_1:Int)(a0_2:Int)(a0_3:Int):Option (Bool):=(impl_PtOk.f a0_0 a0_1).bind fun t421=>(if t421=true then ((impl_PtOk.f a0_2 a0_3).bind fun t422=>(if t422=true then (some (!(a0_0==a0_2) || (!(a0_1==a0_3)))) else (some false))) else (some false))
set_option maxHeartbeats 8000000 in
set_option maxRecDepth 100000 in
theorem impl_SegOk.calls (a0_0:Int)(a0_1:Int)(a0_2:Int)(a0_3:Int)(r:Bool)(w:World)(h:impl_SegOk.f a0_0 a0_1 a0_2 a0_3=some r):
  Calls Tryz.prog 58 #[.agg #[.int .i64 a0_0,.int .i64 a0_1,.int .i64 a0_2,.int .i64 a0_3]] w fun e w'=>e=.returned (.bool r)∧Below w.heap.size w w':=by
 have hu83:=Tryz.underlying83;have hu70:=Tryz.underlying70;have HB:=a0_ (Below.refl w.heap.size w);have H:((impl_PtOk.f a0_0 a0_1).bind fun t421=>(if t421=true then ((impl_PtOk.f a0_2 a0_3).bind fun t422=>(if t422=true then (some (!(a0_0==a0_2) || (!(a0_1==a0_3)))) else (some false))) else (some false)))=some r:=h;clear h;replace H:=Option.bind_eq_some_iff.mp H;obtain⟨t421,A20,H⟩:=H
 (try dsimp only at H)
 have A2:=Aside0.mk A20;clear A20;by_cases c3:t421=true
 ·
  subst c3;rw [if_pos rfl] at H
  (try dsimp only at H)
  replace H:=Option.bind_eq_some_iff.mp H;obtain⟨t422,A40,H⟩:=H
  (try dsimp only at H)
  have A4:=Aside0.mk A40;clear A40;by_cases c5:t422=true
  ·
   subst c5;rw [if_pos rfl] at H
   (try dsimp only at H)
   obtain rfl:=Option.some.inj H;go_enter Tryz.func58,Tryz.ntmps58;go_wp2_with (first | ((with_reducible refine gate_dst (N:=1) rfl ?_);refine bx_ (N:=1) (cs:=#[.int .i64 a0_0,.int .i64 a0_1,.int .i64 a0_2,.int .i64 a0_3]) (t:=83) (h:=?_);intro gb420 hg w6 hbox hb;have BK420:=a0_ (hbox);have GW420:=gh_ HB hg;have GE420:=gh_ HB hg;replace HB:=sb_ HB hb;clear hb hbox hg;have hcz7_0:=c40_ BK420;have hcz7_1:=c41_ BK420;have hcz7_2:=c42_ BK420;have hcz7_3:=c43_ BK420;have hfz7_0:=fz_ BK420 0;have hfz7_1:=fz_ BK420 1;have hfz7_2:=fz_ BK420 2;have hfz7_3:=fz_ BK420 3) | ((with_reducible refine gate_callee (f:=75) rfl ?_);refine gL_ (some 5) Tryz.func75 #[.agg #[.int .i64 a0_0,.int .i64 a0_1]] (h:=?_);(with_reducible refine (impl_PtOk.calls a0_0 a0_1 true _ A2.out).mono ?_);rintro e w8 ⟨rfl,hb⟩;refine⟨_,rfl,?_⟩;replace BK420:=vb_ BK420 hb;replace HB:=sb_ HB hb;(try clear hb);have hcz9_0:=c40_ BK420;have hcz9_1:=c41_ BK420;have hcz9_2:=c42_ BK420;have hcz9_3:=c43_ BK420;have hfz9_0:=fz_ BK420 0;have hfz9_1:=fz_ BK420 1;have hfz9_2:=fz_ BK420 2;have hfz9_3:=fz_ BK420 3) | (go_at_call 75;(with_reducible refine (impl_PtOk.calls a0_2 a0_3 true _ A4.out).mono ?_);rintro e w10 ⟨rfl,hb⟩;replace BK420:=vb_ BK420 hb;replace HB:=sb_ HB hb;(try clear hb);have hcz11_0:=c40_ BK420;have hcz11_1:=c41_ BK420;have hcz11_2:=c42_ BK420;have hcz11_3:=c43_ BK420;have hfz11_0:=fz_ BK420 0;have hfz11_1:=fz_ BK420 1;have hfz11_2:=fz_ BK420 2;have hfz11_3:=fz_ BK420 3));go_ret;exact⟨rr_,hB_⟩
  ·
   replace c5:=Bool.eq_false_iff.mpr c5;subst c5;rw [if_neg (show ¬ (false=true) by decide)] at H
   (try dsimp only at H)
   obtain rfl:=Option.some.inj H;go_enter Tryz.func58,Tryz.ntmps58;go_wp2_with (first | ((with_reducible refine gate_dst (N:=1) rfl ?_);refine bx_ (N:=1) (cs:=#[.int .i64 a0_0,.int .i64 a0_1,.int .i64 a0_2,.int .i64 a0_3]) (t:=83) (h:=?_);intro gb420 hg w12 hbox hb;have BK420:=a0_ (hbox);have GW420:=gh_ HB hg;have GE420:=gh_ HB hg;replace HB:=sb_ HB hb;clear hb hbox hg;have hcz13_0:=c40_ BK420;have hcz13_1:=c41_ BK420;have hcz13_2:=c42_ BK420;have hcz13_3:=c43_ BK420;have hfz13_0:=fz_ BK420 0;have hfz13_1:=fz_ BK420 1;have hfz13_2:=fz_ BK420 2;have hfz13_3:=fz_ BK420 3) | ((with_reducible refine gate_callee (f:=75) rfl ?_);refine gL_ (some 5) Tryz.func75 #[.agg #[.int .i64 a0_0,.int .i64 a0_1]] (h:=?_);(with_reducible refine (impl_PtOk.calls a0_0 a0_1 true _ A2.out).mono ?_);rintro e w14 ⟨rfl,hb⟩;refine⟨_,rfl,?_⟩;replace BK420:=vb_ BK420 hb;replace HB:=sb_ HB hb;(try clear hb);have hcz15_0:=c40_ BK420;have hcz15_1:=c41_ BK420;have hcz15_2:=c42_ BK420;have hcz15_3:=c43_ BK420;have hfz15_0:=fz_ BK420 0;have hfz15_1:=fz_ BK420 1;have hfz15_2:=fz_ BK420 2;have hfz15_3:=fz_ BK420 3) | (go_at_call 75;(with_reducible refine (impl_PtOk.calls a0_2 a0_3 false _ A4.out).mono ?_);rintro e w16 ⟨rfl,hb⟩;replace BK420:=vb_ BK420 hb;replace HB:=sb_ HB hb;(try clear hb)));go_ret;exact⟨rr_,hB_⟩
 ·
  replace c3:=Bool.eq_false_iff.mpr c3;subst c3;rw [if_neg (show ¬ (false=true) by decide)] at H
  (try dsimp only at H)
  obtain rfl:=Option.some.inj H;go_enter Tryz.func58,Tryz.ntmps58;go_wp2_with (first | ((with_reducible refine gate_dst (N:=1) rfl ?_);refine bx_ (N:=1) (cs:=#[.int .i64 a0_0,.int .i64 a0_1,.int .i64 a0_2,.int .i64 a0_3]) (t:=83) (h:=?_);intro gb420 hg w17 hbox hb;have BK420:=a0_ (hbox);have GW420:=gh_ HB hg;have GE420:=gh_ HB hg;replace HB:=sb_ HB hb;clear hb hbox hg;have hcz18_0:=c40_ BK420;have hcz18_1:=c41_ BK420;have hcz18_2:=c42_ BK420;have hcz18_3:=c43_ BK420;have hfz18_0:=fz_ BK420 0;have hfz18_1:=fz_ BK420 1;have hfz18_2:=fz_ BK420 2;have hfz18_3:=fz_ BK420 3) | ((with_reducible refine gate_callee (f:=75) rfl ?_);refine gL_ (some 5) Tryz.func75 #[.agg #[.int .i64 a0_0,.int .i64 a0_1]] (h:=?_);(with_reducible refine (impl_PtOk.calls a0_0 a0_1 false _ A2.out).mono ?_);rintro e w19 ⟨rfl,hb⟩;refine⟨_,rfl,?_⟩;replace BK420:=vb_ BK420 hb;replace HB:=sb_ HB hb;(try clear hb)));go_ret;exact⟨rr_,hB_⟩
def impl_SegHas.j0:Nat→Bool→Int→Int→Int→Int→Int→Int→Option (Bool)
 | 0,_,_,_,_,_,_,_=>none
 | k+1,x22,x433000,x433001,x433002,x433003,x434000,x434001=>if x22=true then (some false) else ((impl_along.f x433000 x433001 x433002 x433003 x434000 x434001).bind fun t437=>(if t437≥0 then ((impl_between.f x433000 x433001 x433002 x433003).bind fun t438=>(some (decide (t437≤t438)))) else (some false)))
def impl_SegHas.f (k:Nat)(a0_0:Int)(a0_1:Int)(a0_2:Int)(a0_3:Int)(a1_0:Int)(a1_1:Int):Option (Bool):=(impl_SegOk.f a0_0 a0_1 a0_2 a0_3).bind fun t434=>(if t434=true then ((impl_PtOk.f a1_0 a1_1).bind fun t435=>(if t435=true then ((impl_cross.f a0_0 a0_1 a0_2 a0_3 a1_0 a1_1).bind fun t436=>(impl_SegHas.j0 k (t436 != 0) a0_0 a0_1 a0_2 a0_3 a1_0 a1_1)) else (impl_SegHas.j0 k true a0_0 a0_1 a0_2 a0_3 a1_0 a1_1))) else (impl_SegHas.j0 k true a0_0 a0_1 a0_2 a0_3 a1_0 a1_1))
set_option maxHeartbeats 8000000 in
set_option maxRecDepth 100000 in
theorem impl_SegHas.calls (k:Nat)(a0_0:Int)(a0_1:Int)(a0_2:Int)(a0_3:Int)(a1_0:Int)(a1_1:Int)(r:Bool)(w:World)(h:impl_SegHas.f k a0_0 a0_1 a0_2 a0_3 a1_0 a1_1=some r):
  Calls Tryz.prog 76 #[.agg #[.int .i64 a0_0,.int .i64 a0_1,.int .i64 a0_2,.int .i64 a0_3],.agg #[.int .i64 a1_0,.int .i64 a1_1]] w fun e w'=>e=.returned (.bool r)∧Below w.heap.size w w':=by
 have hu83:=Tryz.underlying83;have hu70:=Tryz.underlying70;have HB:=a0_ (Below.refl w.heap.size w);have H:((impl_SegOk.f a0_0 a0_1 a0_2 a0_3).bind fun t434=>(if t434=true then ((impl_PtOk.f a1_0 a1_1).bind fun t435=>(if t435=true then ((impl_cross.f a0_0 a0_1 a0_2 a0_3 a1_0 a1_1).bind fun t436=>(impl_SegHas.j0 k (t436 != 0) a0_0 a0_1 a0_2 a0_3 a1_0 a1_1)) else (impl_SegHas.j0 k true a0_0 a0_1 a0_2 a0_3 a1_0 a1_1))) else (impl_SegHas.j0 k true a0_0 a0_1 a0_2 a0_3 a1_0 a1_1)))=some r:=h;clear h;have HC3:=Aside0.mk H;clear H;go_enter Tryz.func76,Tryz.ntmps76;go_upto_region 1 with (first | ((with_reducible refine gate_dst (N:=2) rfl ?_);refine bx_ (N:=2) (cs:=#[.int .i64 a0_0,.int .i64 a0_1,.int .i64 a0_2,.int .i64 a0_3]) (t:=83) (h:=?_);intro gb432 hg w4 hbox hb;have BK432:=a0_ (hbox);have GW432:=gh_ HB hg;have GE432:=gh_ HB hg;replace HB:=sb_ HB hb;clear hb hbox hg) | ((with_reducible refine gate_dst (N:=3) rfl ?_);refine bx_ (N:=3) (cs:=#[.int .i64 a1_0,.int .i64 a1_1]) (t:=70) (h:=?_);intro gb433 hg w5 hbox hb;have BK433:=a0_ (hbox);have GW433:=gh_ HB hg;have GE433:=gh_ HB hg;have NB432_433:=nl_ BK432 hg;have NB433_432:=nr_ BK432 hg;replace BK432:=vb_ BK432 hb;replace HB:=sb_ HB hb;clear hb hbox hg))
 (try simp only [Act.put,List.setIfInBounds_toArray,List.set_cons_zero,List.set_cons_succ])
 go_cut [22] (fun v22 wc=>∃ (kq:Nat) (x22_2:Bool),v22=.bool x22_2∧Aside0 (impl_SegHas.j0 kq x22_2 a0_0 a0_1 a0_2 a0_3 a1_0 a1_1=some r)∧Aside0 (kq≤k)∧Aside0 (wc.heap[gb432]?=some (.cells #[.int .i64 a0_0,.int .i64 a0_1,.int .i64 a0_2,.int .i64 a0_3] 83 (0,0)))∧Aside0 (wc.heap[gb433]?=some (.cells #[.int .i64 a1_0,.int .i64 a1_1] 70 (0,0)))∧Aside0 (Below w.heap.size w wc))
 case first =>
  have H:=HC3.out;clear HC3;replace H:=Option.bind_eq_some_iff.mp H;obtain⟨t434,A60,H⟩:=H
  (try dsimp only at H)
  have A6:=Aside0.mk A60;clear A60;by_cases c7:t434=true
  ·
   subst c7;rw [if_pos rfl] at H
   (try dsimp only at H)
   replace H:=Option.bind_eq_some_iff.mp H;obtain⟨t435,A80,H⟩:=H
   (try dsimp only at H)
   have A8:=Aside0.mk A80;clear A80;by_cases c9:t435=true
   ·
    subst c9;rw [if_pos rfl] at H
    (try dsimp only at H)
    replace H:=Option.bind_eq_some_iff.mp H;obtain⟨t436,A100,H⟩:=H
    (try dsimp only at H)
    have A10:=Aside0.mk A100;clear A100;have H':=Aside0.mk H;clear H;have hnb11:=NB432_433.out;have hnc11:=NB433_432.out;have hcz12_0:=c40_ BK432;have hcz12_1:=c41_ BK432;have hcz12_2:=c42_ BK432;have hcz12_3:=c43_ BK432;have hfz12_0:=fz_ BK432 0;have hfz12_1:=fz_ BK432 1;have hfz12_2:=fz_ BK432 2;have hfz12_3:=fz_ BK432 3;go_wp2_with (first | ((with_reducible refine gate_callee (f:=58) rfl ?_);refine gL_ (some 7) Tryz.func58 #[.agg #[.int .i64 a0_0,.int .i64 a0_1,.int .i64 a0_2,.int .i64 a0_3]] (h:=?_);(with_reducible refine (impl_SegOk.calls a0_0 a0_1 a0_2 a0_3 true _ A6.out).mono ?_);rintro e w13 ⟨rfl,hb⟩;refine⟨_,rfl,?_⟩;replace BK432:=vb_ BK432 hb;replace BK433:=vb_ BK433 hb;replace HB:=sb_ HB hb;(try clear hb);have hcz14_0:=c20_ BK433;have hcz14_1:=c21_ BK433;have hfz14_0:=fz_ BK433 0;have hfz14_1:=fz_ BK433 1) | (go_at_call 75;(with_reducible refine (impl_PtOk.calls a1_0 a1_1 true _ A8.out).mono ?_);rintro e w15 ⟨rfl,hb⟩;replace BK432:=vb_ BK432 hb;replace BK433:=vb_ BK433 hb;replace HB:=sb_ HB hb;(try clear hb);have hcz16_0:=c40_ BK432;have hcz16_1:=c41_ BK432;have hcz16_2:=c42_ BK432;have hcz16_3:=c43_ BK432;have hfz16_0:=fz_ BK432 0;have hfz16_1:=fz_ BK432 1;have hfz16_2:=fz_ BK432 2;have hfz16_3:=fz_ BK432 3;have hcz17_0:=c20_ BK433;have hcz17_1:=c21_ BK433;have hfz17_0:=fz_ BK433 0;have hfz17_1:=fz_ BK433 1) | (go_at_call 85;(with_reducible refine (impl_cross.calls a0_0 a0_1 a0_2 a0_3 a1_0 a1_1 t436 _ A10.out).mono ?_);rintro e w18 ⟨rfl,hb⟩;replace BK432:=vb_ BK432 hb;replace BK433:=vb_ BK433 hb;replace HB:=sb_ HB hb;(try clear hb)));go_meet
    case rel=>exact⟨_,((t436 != 0)),(by first | rfl | (simp;done) | (simp [*];done)),H',⟨by first | omega | exact Nat.le_refl _⟩,⟨uq_⟩,⟨uq_⟩,⟨hB_⟩⟩
   ·
    replace c9:=Bool.eq_false_iff.mpr c9;subst c9;rw [if_neg (show ¬ (false=true) by decide)] at H
    (try dsimp only at H)
    have H':=Aside0.mk H;clear H;have hnb19:=NB432_433.out;have hnc19:=NB433_432.out;have hcz20_0:=c40_ BK432;have hcz20_1:=c41_ BK432;have hcz20_2:=c42_ BK432;have hcz20_3:=c43_ BK432;have hfz20_0:=fz_ BK432 0;have hfz20_1:=fz_ BK432 1;have hfz20_2:=fz_ BK432 2;have hfz20_3:=fz_ BK432 3;go_wp2_with (first | ((with_reducible refine gate_callee (f:=58) rfl ?_);refine gL_ (some 7) Tryz.func58 #[.agg #[.int .i64 a0_0,.int .i64 a0_1,.int .i64 a0_2,.int .i64 a0_3]] (h:=?_);(with_reducible refine (impl_SegOk.calls a0_0 a0_1 a0_2 a0_3 true _ A6.out).mono ?_);rintro e w21 ⟨rfl,hb⟩;refine⟨_,rfl,?_⟩;replace BK432:=vb_ BK432 hb;replace BK433:=vb_ BK433 hb;replace HB:=sb_ HB hb;(try clear hb);have hcz22_0:=c20_ BK433;have hcz22_1:=c21_ BK433;have hfz22_0:=fz_ BK433 0;have hfz22_1:=fz_ BK433 1) | (go_at_call 75;(with_reducible refine (impl_PtOk.calls a1_0 a1_1 false _ A8.out).mono ?_);rintro e w23 ⟨rfl,hb⟩;replace BK432:=vb_ BK432 hb;replace BK433:=vb_ BK433 hb;replace HB:=sb_ HB hb;(try clear hb)));go_meet
    case rel=>exact⟨_,(true),(by first | rfl | (simp;done) | (simp [*];done)),H',⟨by first | omega | exact Nat.le_refl _⟩,⟨uq_⟩,⟨uq_⟩,⟨hB_⟩⟩
  ·
   replace c7:=Bool.eq_false_iff.mpr c7;subst c7;rw [if_neg (show ¬ (false=true) by decide)] at H
   (try dsimp only at H)
   have H':=Aside0.mk H;clear H;have hnb24:=NB432_433.out;have hnc24:=NB433_432.out;have hcz25_0:=c40_ BK432;have hcz25_1:=c41_ BK432;have hcz25_2:=c42_ BK432;have hcz25_3:=c43_ BK432;have hfz25_0:=fz_ BK432 0;have hfz25_1:=fz_ BK432 1;have hfz25_2:=fz_ BK432 2;have hfz25_3:=fz_ BK432 3;go_wp2_with (first | ((with_reducible refine gate_callee (f:=58) rfl ?_);refine gL_ (some 7) Tryz.func58 #[.agg #[.int .i64 a0_0,.int .i64 a0_1,.int .i64 a0_2,.int .i64 a0_3]] (h:=?_);(with_reducible refine (impl_SegOk.calls a0_0 a0_1 a0_2 a0_3 false _ A6.out).mono ?_);rintro e w26 ⟨rfl,hb⟩;refine⟨_,rfl,?_⟩;replace BK432:=vb_ BK432 hb;replace BK433:=vb_ BK433 hb;replace HB:=sb_ HB hb;(try clear hb)));go_meet
   case rel=>exact⟨_,(true),(by first | rfl | (simp;done) | (simp [*];done)),H',⟨by first | omega | exact Nat.le_refl _⟩,⟨uq_⟩,⟨uq_⟩,⟨hB_⟩⟩
 case rest =>
  clear HC3;obtain⟨kq,x22_2,rfl,HA,HJ2,BK432,BK433,HB⟩:=hcut
  cases kq with
  | zero=>exact absurd HA.out (by simp [impl_SegHas.j0])
  | succ kj2 =>
   have H:=HA.out;clear HA;simp only [impl_SegHas.j0] at H;by_cases c27:x22_2=true
   ·
    subst c27;rw [if_pos rfl] at H
    (try dsimp only at H)
    obtain rfl:=Option.some.inj H;go_wp2;go_ret;exact⟨rr_,hB_⟩
   ·
    replace c27:=Bool.eq_false_iff.mpr c27;subst c27;rw [if_neg (show ¬ (false=true) by decide)] at H
    (try dsimp only at H)
    replace H:=Option.bind_eq_some_iff.mp H;obtain⟨t437,A280,H⟩:=H
    (try dsimp only at H)
    have A28:=Aside0.mk A280;clear A280;by_cases c29:t437≥0
    ·
     rw [if_pos c29] at H;have c29b0:decide (0≤t437)=true:=decide_eq_true c29;clear c29;replace H:=Option.bind_eq_some_iff.mp H;obtain⟨t438,A300,H⟩:=H
     (try dsimp only at H)
     have A30:=Aside0.mk A300;clear A300;obtain rfl:=Option.some.inj H;have hnb31:=NB432_433.out;have hnc31:=NB433_432.out;have hcz32_0:=c40_ BK432;have hcz32_1:=c41_ BK432;have hcz32_2:=c42_ BK432;have hcz32_3:=c43_ BK432;have hfz32_0:=fz_ BK432 0;have hfz32_1:=fz_ BK432 1;have hfz32_2:=fz_ BK432 2;have hfz32_3:=fz_ BK432 3;have hcz33_0:=c20_ BK433;have hcz33_1:=c21_ BK433;have hfz33_0:=fz_ BK433 0;have hfz33_1:=fz_ BK433 1;go_wp2_with (first | ((with_reducible refine gate_callee (f:=86) rfl ?_);refine gL_ (some 28) Tryz.func86 #[.agg #[.int .i64 a0_0,.int .i64 a0_1],.agg #[.int .i64 a0_2,.int .i64 a0_3],.agg #[.int .i64 a1_0,.int .i64 a1_1]] (h:=?_);(with_reducible refine (impl_along.calls a0_0 a0_1 a0_2 a0_3 a1_0 a1_1 t437 _ A28.out).mono ?_);rintro e w34 ⟨rfl,hb⟩;refine⟨_,rfl,?_⟩;replace BK432:=vb_ BK432 hb;replace BK433:=vb_ BK433 hb;replace HB:=sb_ HB hb;(try clear hb);have hcz35_0:=c40_ BK432;have hcz35_1:=c41_ BK432;have hcz35_2:=c42_ BK432;have hcz35_3:=c43_ BK432;have hfz35_0:=fz_ BK432 0;have hfz35_1:=fz_ BK432 1;have hfz35_2:=fz_ BK432 2;have hfz35_3:=fz_ BK432 3) | (go_at_call 87;(with_reducible refine (impl_between.calls a0_0 a0_1 a0_2 a0_3 t438 _ A30.out).mono ?_);rintro e w36 ⟨rfl,hb⟩;replace BK432:=vb_ BK432 hb;replace BK433:=vb_ BK433 hb;replace HB:=sb_ HB hb;(try clear hb)));go_ret;exact⟨rr_,hB_⟩
    ·
     rw [if_neg c29] at H;have c29b0:decide (0≤t437)=false:=decide_eq_false c29;clear c29;obtain rfl:=Option.some.inj H;have hnb37:=NB432_433.out;have hnc37:=NB433_432.out;have hcz38_0:=c40_ BK432;have hcz38_1:=c41_ BK432;have hcz38_2:=c42_ BK432;have hcz38_3:=c43_ BK432;have hfz38_0:=fz_ BK432 0;have hfz38_1:=fz_ BK432 1;have hfz38_2:=fz_ BK432 2;have hfz38_3:=fz_ BK432 3;have hcz39_0:=c20_ BK433;have hcz39_1:=c21_ BK433;have hfz39_0:=fz_ BK433 0;have hfz39_1:=fz_ BK433 1;go_wp2_with (first | ((with_reducible refine gate_callee (f:=86) rfl ?_);refine gL_ (some 28) Tryz.func86 #[.agg #[.int .i64 a0_0,.int .i64 a0_1],.agg #[.int .i64 a0_2,.int .i64 a0_3],.agg #[.int .i64 a1_0,.int .i64 a1_1]] (h:=?_);(with_reducible refine (impl_along.calls a0_0 a0_1 a0_2 a0_3 a1_0 a1_1 t437 _ A28.out).mono ?_);rintro e w40 ⟨rfl,hb⟩;refine⟨_,rfl,?_⟩;replace BK432:=vb_ BK432 hb;replace BK433:=vb_ BK433 hb;replace HB:=sb_ HB hb;(try clear hb)));go_ret;exact⟨rr_,hB_⟩
def impl_SegTurn.j0:Nat→Bool→Int→Int→Int→Int→Int→Int→Option (Int)
 | 0,_,_,_,_,_,_,_=>none
 | k+1,x20,x444000,x444001,x445000,x445001,x446000,x446001=>if x20=true then (some 0) else ((impl_cross.f x444000 x444001 x445000 x445001 x446000 x446001).bind fun t449=>(if t449>0 then (some 1) else (if t449<0 then (some (-1)) else (some 0))))
def impl_SegTurn.f (k:Nat)(a0_0:Int)(a0_1:Int)(a1_0:Int)(a1_1:Int)(a2_0:Int)(a2_1:Int):Option (Int):=(impl_PtOk.f a0_0 a0_1).bind fun t446=>(if t446=true then ((impl_PtOk.f a1_0 a1_1).bind fun t447=>(if t447=true then ((impl_PtOk.f a2_0 a2_1).bind fun t448=>(impl_SegTurn.j0 k (!t448) a0_0 a0_1 a1_0 a1_1 a2_0 a2_1)) else (impl_SegTurn.j0 k true a0_0 a0_1 a1_0 a1_1 a2_0 a2_1))) else (impl_SegTurn.j0 k true a0_0 a0_1 a1_0 a1_1 a2_0 a2_1))
set_option maxHeartbeats 8000000 in
set_option maxRecDepth 100000 in
theorem impl_SegTurn.calls (k:Nat)(a0_0:Int)(a0_1:Int)(a1_0:Int)(a1_1:Int)(a2_0:Int)(a2_1:Int)(r:Int)(w:World)(h:impl_SegTurn.f k a0_0 a0_1 a1_0 a1_1 a2_0 a2_1=some r):
  Calls Tryz.prog 77 #[.agg #[.int .i64 a0_0,.int .i64 a0_1],.agg #[.int .i64 a1_0,.int .i64 a1_1],.agg #[.int .i64 a2_0,.int .i64 a2_1]] w fun e w'=>e=.returned (.int .i64 r)∧Below w.heap.size w w':=by
 have hu70:=Tryz.underlying70;have HB:=a0_ (Below.refl w.heap.size w);have H:((impl_PtOk.f a0_0 a0_1).bind fun t446=>(if t446=true then ((impl_PtOk.f a1_0 a1_1).bind fun t447=>(if t447=true then ((impl_PtOk.f a2_0 a2_1).bind fun t448=>(impl_SegTurn.j0 k (!t448) a0_0 a0_1 a1_0 a1_1 a2_0 a2_1)) else (impl_SegTurn.j0 k true a0_0 a0_1 a1_0 a1_1 a2_0 a2_1))) else (impl_SegTurn.j0 k true a0_0 a0_1 a1_0 a1_1 a2_0 a2_1)))=some r:=h;clear h;have HC4:=Aside0.mk H;clear H;go_enter Tryz.func77,Tryz.ntmps77;go_upto_region 1 with (first | ((with_reducible refine gate_dst (N:=3) rfl ?_);refine bx_ (N:=3) (cs:=#[.int .i64 a0_0,.int .i64 a0_1]) (t:=70) (h:=?_);intro gb443 hg w5 hbox hb;have BK443:=a0_ (hbox);have GW443:=gh_ HB hg;have GE443:=gh_ HB hg;replace HB:=sb_ HB hb;clear hb hbox hg) | ((with_reducible refine gate_dst (N:=4) rfl ?_);refine bx_ (N:=4) (cs:=#[.int .i64 a1_0,.int .i64 a1_1]) (t:=70) (h:=?_);intro gb444 hg w6 hbox hb;have BK444:=a0_ (hbox);have GW444:=gh_ HB hg;have GE444:=gh_ HB hg;have NB443_444:=nl_ BK443 hg;have NB444_443:=nr_ BK443 hg;replace BK443:=vb_ BK443 hb;replace HB:=sb_ HB hb;clear hb hbox hg) | ((with_reducible refine gate_dst (N:=5) rfl ?_);refine bx_ (N:=5) (cs:=#[.int .i64 a2_0,.int .i64 a2_1]) (t:=70) (h:=?_);intro gb445 hg w7 hbox hb;have BK445:=a0_ (hbox);have GW445:=gh_ HB hg;have GE445:=gh_ HB hg;have NB443_445:=nl_ BK443 hg;have NB445_443:=nr_ BK443 hg;have NB444_445:=nl_ BK444 hg;have NB445_444:=nr_ BK444 hg;replace BK443:=vb_ BK443 hb;replace BK444:=vb_ BK444 hb;replace HB:=sb_ HB hb;clear hb hbox hg))
 (try simp only [Act.put,List.setIfInBounds_toArray,List.set_cons_zero,List.set_cons_succ])
 go_cut [20] (fun v20 wc=>∃ (kq:Nat) (x20_3:Bool),v20=.bool x20_3∧Aside0 (impl_SegTurn.j0 kq x20_3 a0_0 a0_1 a1_0 a1_1 a2_0 a2_1=some r)∧Aside0 (kq≤k)∧Aside0 (wc.heap[gb443]?=some (.cells #[.int .i64 a0_0,.int .i64 a0_1] 70 (0,0)))∧Aside0 (wc.heap[gb444]?=some (.cells #[.int .i64 a1_0,.int .i64 a1_1] 70 (0,0)))∧Aside0 (wc.heap[gb445]?=some (.cells #[.int .i64 a2_0,.int .i64 a2_1] 70 (0,0)))∧Aside0 (Below w.heap.size w wc))
 case first =>
  have H:=HC4.out;clear HC4;replace H:=Option.bind_eq_some_iff.mp H;obtain⟨t446,A80,H⟩:=H
  (try dsimp only at H)
  have A8:=Aside0.mk A80;clear A80;by_cases c9:t446=true
  ·
   subst c9;rw [if_pos rfl] at H
   (try dsimp only at H)
   replace H:=Option.bind_eq_some_iff.mp H;obtain⟨t447,A100,H⟩:=H
   (try dsimp only at H)
   have A10:=Aside0.mk A100;clear A100;by_cases c11:t447=true
   ·
    subst c11;rw [if_pos rfl] at H
    (try dsimp only at H)
    replace H:=Option.bind_eq_some_iff.mp H;obtain⟨t448,A120,H⟩:=H
    (try dsimp only at H)
    have A12:=Aside0.mk A120;clear A120;have H':=Aside0.mk H;clear H;have hnb13:=NB443_444.out;have hnc13:=NB444_443.out;have hnb14:=NB443_445.out;have hnc14:=NB445_443.out;have hcz15_0:=c20_ BK443;have hcz15_1:=c21_ BK443;have hfz15_0:=fz_ BK443 0;have hfz15_1:=fz_ BK443 1;go_wp2_with (first | ((with_reducible refine gate_callee (f:=75) rfl ?_);refine gL_ (some 9) Tryz.func75 #[.agg #[.int .i64 a0_0,.int .i64 a0_1]] (h:=?_);(with_reducible refine (impl_PtOk.calls a0_0 a0_1 true _ A8.out).mono ?_);rintro e w16 ⟨rfl,hb⟩;refine⟨_,rfl,?_⟩;replace BK443:=vb_ BK443 hb;replace BK444:=vb_ BK444 hb;replace BK445:=vb_ BK445 hb;replace HB:=sb_ HB hb;(try clear hb);have hnb17:=NB444_445.out;have hnc17:=NB445_444.out;have hcz18_0:=c20_ BK444;have hcz18_1:=c21_ BK444;have hfz18_0:=fz_ BK444 0;have hfz18_1:=fz_ BK444 1) | (go_at_call 75;(with_reducible refine (impl_PtOk.calls a1_0 a1_1 true _ A10.out).mono ?_);rintro e w19 ⟨rfl,hb⟩;replace BK443:=vb_ BK443 hb;replace BK444:=vb_ BK444 hb;replace BK445:=vb_ BK445 hb;replace HB:=sb_ HB hb;(try clear hb);have hcz20_0:=c20_ BK445;have hcz20_1:=c21_ BK445;have hfz20_0:=fz_ BK445 0;have hfz20_1:=fz_ BK445 1) | (go_at_call 75;(with_reducible refine (impl_PtOk.calls a2_0 a2_1 t448 _ A12.out).mono ?_);rintro e w21 ⟨rfl,hb⟩;replace BK443:=vb_ BK443 hb;replace BK444:=vb_ BK444 hb;replace BK445:=vb_ BK445 hb;replace HB:=sb_ HB hb;(try clear hb)));go_meet
    case rel=>exact⟨_,(!t448),(by first | rfl | (simp;done) | (simp [*];done)),H',⟨by first | omega | exact Nat.le_refl _⟩,⟨uq_⟩,⟨uq_⟩,⟨uq_⟩,⟨hB_⟩⟩
   ·
    replace c11:=Bool.eq_false_iff.mpr c11;subst c11;rw [if_neg (show ¬ (false=true) by decide)] at H
    (try dsimp only at H)
    have H':=Aside0.mk H;clear H;have hnb22:=NB443_444.out;have hnc22:=NB444_443.out;have hnb23:=NB443_445.out;have hnc23:=NB445_443.out;have hcz24_0:=c20_ BK443;have hcz24_1:=c21_ BK443;have hfz24_0:=fz_ BK443 0;have hfz24_1:=fz_ BK443 1;go_wp2_with (first | ((with_reducible refine gate_callee (f:=75) rfl ?_);refine gL_ (some 9) Tryz.func75 #[.agg #[.int .i64 a0_0,.int .i64 a0_1]] (h:=?_);(with_reducible refine (impl_PtOk.calls a0_0 a0_1 true _ A8.out).mono ?_);rintro e w25 ⟨rfl,hb⟩;refine⟨_,rfl,?_⟩;replace BK443:=vb_ BK443 hb;replace BK444:=vb_ BK444 hb;replace BK445:=vb_ BK445 hb;replace HB:=sb_ HB hb;(try clear hb);have hnb26:=NB444_445.out;have hnc26:=NB445_444.out;have hcz27_0:=c20_ BK444;have hcz27_1:=c21_ BK444;have hfz27_0:=fz_ BK444 0;have hfz27_1:=fz_ BK444 1) | (go_at_call 75;(with_reducible refine (impl_PtOk.calls a1_0 a1_1 false _ A10.out).mono ?_);rintro e w28 ⟨rfl,hb⟩;replace BK443:=vb_ BK443 hb;replace BK444:=vb_ BK444 hb;replace BK445:=vb_ BK445 hb;replace HB:=sb_ HB hb;(try clear hb)));go_meet
    case rel=>exact⟨_,(true),(by first | rfl | (simp;done) | (simp [*];done)),H',⟨by first | omega | exact Nat.le_refl _⟩,⟨uq_⟩,⟨uq_⟩,⟨uq_⟩,⟨hB_⟩⟩
  ·
   replace c9:=Bool.eq_false_iff.mpr c9;subst c9;rw [if_neg (show ¬ (false=true) by decide)] at H
   (try dsimp only at H)
   have H':=Aside0.mk H;clear H;have hnb29:=NB443_444.out;have hnc29:=NB444_443.out;have hnb30:=NB443_445.out;have hnc30:=NB445_443.out;have hcz31_0:=c20_ BK443;have hcz31_1:=c21_ BK443;have hfz31_0:=fz_ BK443 0;have hfz31_1:=fz_ BK443 1;go_wp2_with (first | ((with_reducible refine gate_callee (f:=75) rfl ?_);refine gL_ (some 9) Tryz.func75 #[.agg #[.int .i64 a0_0,.int .i64 a0_1]] (h:=?_);(with_reducible refine (impl_PtOk.calls a0_0 a0_1 false _ A8.out).mono ?_);rintro e w32 ⟨rfl,hb⟩;refine⟨_,rfl,?_⟩;replace BK443:=vb_ BK443 hb;replace BK444:=vb_ BK444 hb;replace BK445:=vb_ BK445 hb;replace HB:=sb_ HB hb;(try clear hb)));go_meet
   case rel=>exact⟨_,(true),(by first | rfl | (simp;done) | (simp [*];done)),H',⟨by first | omega | exact Nat.le_refl _⟩,⟨uq_⟩,⟨uq_⟩,⟨uq_⟩,⟨hB_⟩⟩
 case rest =>
  clear HC4;obtain⟨kq,x20_3,rfl,HA,HJ3,BK443,BK444,BK445,HB⟩:=hcut
  cases kq with
  | zero=>exact absurd HA.out (by simp [impl_SegTurn.j0])
  | succ kj3 =>
   have H:=HA.out;clear HA;simp only [impl_SegTurn.j0] at H;by_cases c33:x20_3=true
   ·
    subst c33;rw [if_pos rfl] at H
    (try dsimp only at H)
    obtain rfl:=Option.some.inj H;go_wp2;go_ret;exact⟨rr_,hB_⟩
   ·
    replace c33:=Bool.eq_false_iff.mpr c33;subst c33;rw [if_neg (show ¬ (false=true) by decide)] at H
    (try dsimp only at H)
    replace H:=Option.bind_eq_some_iff.mp H;obtain⟨t449,A340,H⟩:=H
    (try dsimp only at H)
    have A34:=Aside0.mk A340;clear A340;by_cases c35:t449>0
    ·
     rw [if_pos c35] at H;have c35b0:decide (0<t449)=true:=decide_eq_true c35;clear c35;obtain rfl:=Option.some.inj H;have hnb36:=NB443_444.out;have hnc36:=NB444_443.out;have hnb37:=NB443_445.out;have hnc37:=NB445_443.out;have hcz38_0:=c20_ BK443;have hcz38_1:=c21_ BK443;have hfz38_0:=fz_ BK443 0;have hfz38_1:=fz_ BK443 1;have hnb39:=NB444_445.out;have hnc39:=NB445_444.out;have hcz40_0:=c20_ BK444;have hcz40_1:=c21_ BK444;have hfz40_0:=fz_ BK444 0;have hfz40_1:=fz_ BK444 1;have hcz41_0:=c20_ BK445;have hcz41_1:=c21_ BK445;have hfz41_0:=fz_ BK445 0;have hfz41_1:=fz_ BK445 1;go_wp2_with (first | ((with_reducible refine gate_callee (f:=85) rfl ?_);refine gL_ (some 24) Tryz.func85 #[.agg #[.int .i64 a0_0,.int .i64 a0_1],.agg #[.int .i64 a1_0,.int .i64 a1_1],.agg #[.int .i64 a2_0,.int .i64 a2_1]] (h:=?_);(with_reducible refine (impl_cross.calls a0_0 a0_1 a1_0 a1_1 a2_0 a2_1 t449 _ A34.out).mono ?_);rintro e w42 ⟨rfl,hb⟩;refine⟨_,rfl,?_⟩;replace BK443:=vb_ BK443 hb;replace BK444:=vb_ BK444 hb;replace BK445:=vb_ BK445 hb;replace HB:=sb_ HB hb;(try clear hb)));go_ret;exact⟨rr_,hB_⟩
    ·
     rw [if_neg c35] at H;have c35b0:decide (0<t449)=false:=decide_eq_false c35;clear c35;by_cases c43:t449<0
     ·
      rw [if_pos c43] at H;have c43b0:decide (t449<0)=true:=decide_eq_true c43;clear c43;obtain rfl:=Option.some.inj H;have hnb44:=NB443_444.out;have hnc44:=NB444_443.out;have hnb45:=NB443_445.out;have hnc45:=NB445_443.out;have hcz46_0:=c20_ BK443;have hcz46_1:=c21_ BK443;have hfz46_0:=fz_ BK443 0;have hfz46_1:=fz_ BK443 1;have hnb47:=NB444_445.out;have hnc47:=NB445_444.out;have hcz48_0:=c20_ BK444;have hcz48_1:=c21_ BK444;have hfz48_0:=fz_ BK444 0;have hfz48_1:=fz_ BK444 1;have hcz49_0:=c20_ BK445;have hcz49_1:=c21_ BK445;have hfz49_0:=fz_ BK445 0;have hfz49_1:=fz_ BK445 1;go_wp2_with (first | ((with_reducible refine gate_callee (f:=85) rfl ?_);refine gL_ (some 24) Tryz.func85 #[.agg #[.int .i64 a0_0,.int .i64 a0_1],.agg #[.int .i64 a1_0,.int .i64 a1_1],.agg #[.int .i64 a2_0,.int .i64 a2_1]] (h:=?_);(with_reducible refine (impl_cross.calls a0_0 a0_1 a1_0 a1_1 a2_0 a2_1 t449 _ A34.out).mono ?_);rintro e w50 ⟨rfl,hb⟩;refine⟨_,rfl,?_⟩;replace BK443:=vb_ BK443 hb;replace BK444:=vb_ BK444 hb;replace BK445:=vb_ BK445 hb;replace HB:=sb_ HB hb;(try clear hb)));go_ret;exact⟨rr_,hB_⟩
     ·
      rw [if_neg c43] at H;have c43b0:decide (t449<0)=false:=decide_eq_false c43;clear c43;obtain rfl:=Option.some.inj H;have hnb51:=NB443_444.out;have hnc51:=NB444_443.out;have hnb52:=NB443_445.out;have hnc52:=NB445_443.out;have hcz53_0:=c20_ BK443;have hcz53_1:=c21_ BK443;have hfz53_0:=fz_ BK443 0;have hfz53_1:=fz_ BK443 1;have hnb54:=NB444_445.out;have hnc54:=NB445_444.out;have hcz55_0:=c20_ BK444;have hcz55_1:=c21_ BK444;have hfz55_0:=fz_ BK444 0;have hfz55_1:=fz_ BK444 1;have hcz56_0:=c20_ BK445;have hcz56_1:=c21_ BK445;have hfz56_0:=fz_ BK445 0;have hfz56_1:=fz_ BK445 1;go_wp2_with (first | ((with_reducible refine gate_callee (f:=85) rfl ?_);refine gL_ (some 24) Tryz.func85 #[.agg #[.int .i64 a0_0,.int .i64 a0_1],.agg #[.int .i64 a1_0,.int .i64 a1_1],.agg #[.int .i64 a2_0,.int .i64 a2_1]] (h:=?_);(with_reducible refine (impl_cross.calls a0_0 a0_1 a1_0 a1_1 a2_0 a2_1 t449 _ A34.out).mono ?_);rintro e w57 ⟨rfl,hb⟩;refine⟨_,rfl,?_⟩;replace BK443:=vb_ BK443 hb;replace BK444:=vb_ BK444 hb;replace BK445:=vb_ BK445 hb;replace HB:=sb_ HB hb;(try clear hb)));go_ret;exact⟨rr_,hB_⟩
mutual
def impl_SegMeet.j0:Nat→Bool→Int→Int→Int→Int→Int→Int→Int→Int→Option (Bool)
 | 0,_,_,_,_,_,_,_,_,_=>none
 | k+1,x12,x451000,x451001,x451002,x451003,x452000,x452001,x452002,x452003=>if x12=true then (some false) else ((impl_SegHas.f k x451000 x451001 x451002 x451003 x452000 x452001).bind fun t454=>(if t454=true then (impl_SegMeet.j1 k true x451000 x451001 x451002 x451003 x452000 x452001 x452002 x452003) else ((impl_SegHas.f k x451000 x451001 x451002 x451003 x452002 x452003).bind fun t455=>(if t455=true then (impl_SegMeet.j1 k true x451000 x451001 x451002 x451003 x452000 x452001 x452002 x452003) else ((impl_SegHas.f k x452000 x452001 x452002 x452003 x451000 x451001).bind fun t456=>(if t456=true then (impl_SegMeet.j1 k true x451000 x451001 x451002 x451003 x452000 x452001 x452002 x452003) else ((impl_SegHas.f k x452000 x452001 x452002 x452003 x451002 x451003).bind fun t457=>(impl_SegMeet.j1 k t457 x451000 x451001 x451002 x451003 x452000 x452001 x452002 x452003))))))))
def impl_SegMeet.j1:Nat→Bool→Int→Int→Int→Int→Int→Int→Int→Int→Option (Bool)
 | 0,_,_,_,_,_,_,_,_,_=>none
 | k+1,x34,x451000,x451001,x451002,x451003,x452000,x452001,x452002,x452003=>if x34=true then (some true) else ((impl_SegTurn.f k x451000 x451001 x451002 x451003 x452000 x452001).bind fun t458=>((impl_SegTurn.f k x451000 x451001 x451002 x451003 x452002 x452003).bind fun t459=>(if (wrap64 (t458*t459))<0 then ((impl_SegTurn.f k x452000 x452001 x452002 x452003 x451000 x451001).bind fun t460=>((impl_SegTurn.f k x452000 x452001 x452002 x452003 x451002 x451003).bind fun t461=>(some (decide ((wrap64 (t460*t461))<0))))) else (some false))))
end
def impl_SegMeet.f (k:Nat)(a0_0:Int)(a0_1:Int)(a0_2:Int)(a0_3:Int)(a1_0:Int)(a1_1:Int)(a1_2:Int)(a1_3:Int):Option (Bool):=(impl_SegOk.f a0_0 a0_1 a0_2 a0_3).bind fun t452=>(if t452=true then ((impl_SegOk.f a1_0 a1_1 a1_2 a1_3).bind fun t453=>(impl_SegMeet.j0 k (!t453) a0_0 a0_1 a0_2 a0_3 a1_0 a1_1 a1_2 a1_3)) else (impl_SegMeet.j0 k true a0_0 a0_1 a0_2 a0_3 a1_0 a1_1 a1_2 a1_3))
def impl_SegMeet.T5:Bool × List (List Nat × List Nat):=(true,[([],[]),([0],[0]),([],[]),([2],[2]),([],[]),([4],[4]),([1,3,5],[1,3,5]),([],[]),([7],[7]),([],[]),([9],[9]),([],[]),([11],[11]),([8,10,12,6],[8,10,12]),([6,13],[6,13]),([14],[14]),([15,13],[15]),([16],[16]),([17,16],[16,17]),([16],[16]),([19,16],[16,19]),([16],[16]),([21,16],[16,21]),([18,20,22,16,16],[16,18,20,22]),([16],[16]),([24,16],[16,24]),([16],[16]),([26,16],[16,26]),([16],[16]),([28,16],[16,28]),([25,27,29,23,16],[16,25,27,29]),([23,30,16],[16,23,30]),([31,16],[16,31]),([16,32],[16,32]),([33,30,0,1,2,3,4,5,6,7,8,9,10,11,12,13,14,15,16,17,18,19,20,21,22,23,24,25,26,27,28,29,30,31,32,33],[33])])
def impl_SegMeet.B5:List Nat:=[0,1,0,4,0,16,63,0,128,0,512,0,2048,8191,16383,32767,65535,131071,262143,131071,655359,131071,2228223,8388607,131071,16908287,131071,67239935,131071,268566527,1073741823,2147483647,4294967295,8589934591,17179869183]
theorem impl_SegMeet.tab5:rtab .any (opsOf Tryz.f60 5)=impl_SegMeet.T5:=by kernel_rfl
theorem impl_SegMeet.bits5:waitsOk impl_SegMeet.T5.2 impl_SegMeet.B5=true:=by kernel_rfl
set_option maxHeartbeats 8000000 in
set_option maxRecDepth 100000 in
theorem impl_SegMeet.calls (k:Nat)(a0_0:Int)(a0_1:Int)(a0_2:Int)(a0_3:Int)(a1_0:Int)(a1_1:Int)(a1_2:Int)(a1_3:Int)(r:Bool)(w:World)(h:impl_SegMeet.f k a0_0 a0_1 a0_2 a0_3 a1_0 a1_1 a1_2 a1_3=some r):
  Calls Tryz.prog 60 #[.agg #[.int .i64 a0_0,.int .i64 a0_1,.int .i64 a0_2,.int .i64 a0_3],.agg #[.int .i64 a1_0,.int .i64 a1_1,.int .i64 a1_2,.int .i64 a1_3]] w fun e w'=>e=.returned (.bool r)∧Below w.heap.size w w':=by
 have hu83:=Tryz.underlying83;have hu70:=Tryz.underlying70;have HB:=a0_ (Below.refl w.heap.size w);have H:((impl_SegOk.f a0_0 a0_1 a0_2 a0_3).bind fun t452=>(if t452=true then ((impl_SegOk.f a1_0 a1_1 a1_2 a1_3).bind fun t453=>(impl_SegMeet.j0 k (!t453) a0_0 a0_1 a0_2 a0_3 a1_0 a1_1 a1_2 a1_3)) else (impl_SegMeet.j0 k true a0_0 a0_1 a0_2 a0_3 a1_0 a1_1 a1_2 a1_3)))=some r:=h;clear h;have HC3:=Aside0.mk H;clear H;go_enter Tryz.func60,Tryz.ntmps60;go_upto_region 1 with (first | ((with_reducible refine gate_dst (N:=2) rfl ?_);refine bx_ (N:=2) (cs:=#[.int .i64 a0_0,.int .i64 a0_1,.int .i64 a0_2,.int .i64 a0_3]) (t:=83) (h:=?_);intro gb450 hg w4 hbox hb;have BK450:=a0_ (hbox);have GW450:=gh_ HB hg;have GE450:=gh_ HB hg;replace HB:=sb_ HB hb;clear hb hbox hg) | ((with_reducible refine gate_dst (N:=3) rfl ?_);refine bx_ (N:=3) (cs:=#[.int .i64 a1_0,.int .i64 a1_1,.int .i64 a1_2,.int .i64 a1_3]) (t:=83) (h:=?_);intro gb451 hg w5 hbox hb;have BK451:=a0_ (hbox);have GW451:=gh_ HB hg;have GE451:=gh_ HB hg;have NB450_451:=nl_ BK450 hg;have NB451_450:=nr_ BK450 hg;replace BK450:=vb_ BK450 hb;replace HB:=sb_ HB hb;clear hb hbox hg))
 (try simp only [Act.put,List.setIfInBounds_toArray,List.set_cons_zero,List.set_cons_succ])
 go_cut [12] (fun v12 wc=>∃ (kq:Nat) (x12_2:Bool),v12=.bool x12_2∧Aside0 (impl_SegMeet.j0 kq x12_2 a0_0 a0_1 a0_2 a0_3 a1_0 a1_1 a1_2 a1_3=some r)∧Aside0 (kq≤k)∧Aside0 (wc.heap[gb450]?=some (.cells #[.int .i64 a0_0,.int .i64 a0_1,.int .i64 a0_2,.int .i64 a0_3] 83 (0,0)))∧Aside0 (wc.heap[gb451]?=some (.cells #[.int .i64 a1_0,.int .i64 a1_1,.int .i64 a1_2,.int .i64 a1_3] 83 (0,0)))∧Aside0 (Below w.heap.size w wc))
 case first =>
  have H:=HC3.out;clear HC3;replace H:=Option.bind_eq_some_iff.mp H;obtain⟨t452,A60,H⟩:=H
  (try dsimp only at H)
  have A6:=Aside0.mk A60;clear A60;by_cases c7:t452=true
  ·
   subst c7;rw [if_pos rfl] at H
   (try dsimp only at H)
   replace H:=Option.bind_eq_some_iff.mp H;obtain⟨t453,A80,H⟩:=H
   (try dsimp only at H)
   have A8:=Aside0.mk A80;clear A80;have H':=Aside0.mk H;clear H;have hnb9:=NB450_451.out;have hnc9:=NB451_450.out;have hcz10_0:=c40_ BK450;have hcz10_1:=c41_ BK450;have hcz10_2:=c42_ BK450;have hcz10_3:=c43_ BK450;have hfz10_0:=fz_ BK450 0;have hfz10_1:=fz_ BK450 1;have hfz10_2:=fz_ BK450 2;have hfz10_3:=fz_ BK450 3;go_wp2_with (first | ((with_reducible refine gate_callee (f:=58) rfl ?_);refine gL_ (some 6) Tryz.func58 #[.agg #[.int .i64 a0_0,.int .i64 a0_1,.int .i64 a0_2,.int .i64 a0_3]] (h:=?_);(with_reducible refine (impl_SegOk.calls a0_0 a0_1 a0_2 a0_3 true _ A6.out).mono ?_);rintro e w11 ⟨rfl,hb⟩;refine⟨_,rfl,?_⟩;replace BK450:=vb_ BK450 hb;replace BK451:=vb_ BK451 hb;replace HB:=sb_ HB hb;(try clear hb);have hcz12_0:=c40_ BK451;have hcz12_1:=c41_ BK451;have hcz12_2:=c42_ BK451;have hcz12_3:=c43_ BK451;have hfz12_0:=fz_ BK451 0;have hfz12_1:=fz_ BK451 1;have hfz12_2:=fz_ BK451 2;have hfz12_3:=fz_ BK451 3) | (go_at_call 58;(with_reducible refine (impl_SegOk.calls a1_0 a1_1 a1_2 a1_3 t453 _ A8.out).mono ?_);rintro e w13 ⟨rfl,hb⟩;replace BK450:=vb_ BK450 hb;replace BK451:=vb_ BK451 hb;replace HB:=sb_ HB hb;(try clear hb)));go_meet
   case rel=>exact⟨_,(!t453),(by first | rfl | (simp;done) | (simp [*];done)),H',⟨by first | omega | exact Nat.le_refl _⟩,⟨uq_⟩,⟨uq_⟩,⟨hB_⟩⟩
  ·
   replace c7:=Bool.eq_false_iff.mpr c7;subst c7;rw [if_neg (show ¬ (false=true) by decide)] at H
   (try dsimp only at H)
   have H':=Aside0.mk H;clear H;have hnb14:=NB450_451.out;have hnc14:=NB451_450.out;have hcz15_0:=c40_ BK450;have hcz15_1:=c41_ BK450;have hcz15_2:=c42_ BK450;have hcz15_3:=c43_ BK450;have hfz15_0:=fz_ BK450 0;have hfz15_1:=fz_ BK450 1;have hfz15_2:=fz_ BK450 2;have hfz15_3:=fz_ BK450 3;go_wp2_with (first | ((with_reducible refine gate_callee (f:=58) rfl ?_);refine gL_ (some 6) Tryz.func58 #[.agg #[.int .i64 a0_0,.int .i64 a0_1,.int .i64 a0_2,.int .i64 a0_3]] (h:=?_);(with_reducible refine (impl_SegOk.calls a0_0 a0_1 a0_2 a0_3 false _ A6.out).mono ?_);rintro e w16 ⟨rfl,hb⟩;refine⟨_,rfl,?_⟩;replace BK450:=vb_ BK450 hb;replace BK451:=vb_ BK451 hb;replace HB:=sb_ HB hb;(try clear hb)));go_meet
   case rel=>exact⟨_,(true),(by first | rfl | (simp;done) | (simp [*];done)),H',⟨by first | omega | exact Nat.le_refl _⟩,⟨uq_⟩,⟨uq_⟩,⟨hB_⟩⟩
 case rest =>
  clear HC3;obtain⟨kq,x12_2,rfl,HA,HJ2,BK450,BK451,HB⟩:=hcut
  cases kq with
  | zero=>exact absurd HA.out (by simp [impl_SegMeet.j0])
  | succ kj2 =>
   have H:=HA.out;clear HA;simp only [impl_SegMeet.j0] at H;by_cases c17:x12_2=true
   ·
    subst c17;rw [if_pos rfl] at H
    (try dsimp only at H)
    obtain rfl:=Option.some.inj H;go_wp2;go_ret;exact⟨rr_,hB_⟩
   ·
    replace c17:=Bool.eq_false_iff.mpr c17;subst c17;rw [if_neg (show ¬ (false=true) by decide)] at H
    (try dsimp only at H)
    have HC18:=Aside0.mk H;clear H;go_upto_region 3 with (fail)
    go_cut [34] (fun v34 wc=>∃ (kq:Nat) (x34_17:Bool),v34=.bool x34_17∧Aside0 (impl_SegMeet.j1 kq x34_17 a0_0 a0_1 a0_2 a0_3 a1_0 a1_1 a1_2 a1_3=some r)∧Aside0 (kq≤kj2)∧Aside0 (wc.heap[gb450]?=some (.cells #[.int .i64 a0_0,.int .i64 a0_1,.int .i64 a0_2,.int .i64 a0_3] 83 (0,0)))∧Aside0 (wc.heap[gb451]?=some (.cells #[.int .i64 a1_0,.int .i64 a1_1,.int .i64 a1_2,.int .i64 a1_3] 83 (0,0)))∧Aside0 (Below w.heap.size w wc))
    case first =>
     have H:=HC18.out;clear HC18;replace H:=Option.bind_eq_some_iff.mp H;obtain⟨t454,A190,H⟩:=H
     (try dsimp only at H)
     have A19:=Aside0.mk A190;clear A190;by_cases c20:t454=true
     ·
      subst c20;rw [if_pos rfl] at H
      (try dsimp only at H)
      have H':=Aside0.mk H;clear H;have hnb21:=NB450_451.out;have hnc21:=NB451_450.out;have hcz22_0:=c40_ BK450;have hcz22_1:=c41_ BK450;have hcz22_2:=c42_ BK450;have hcz22_3:=c43_ BK450;have hfz22_0:=fz_ BK450 0;have hfz22_1:=fz_ BK450 1;have hfz22_2:=fz_ BK450 2;have hfz22_3:=fz_ BK450 3;have hcz23_0:=c40_ BK451;have hcz23_1:=c41_ BK451;have hcz23_2:=c42_ BK451;have hcz23_3:=c43_ BK451;have hfz23_0:=fz_ BK451 0;have hfz23_1:=fz_ BK451 1;have hfz23_2:=fz_ BK451 2;have hfz23_3:=fz_ BK451 3;go_wp2_with (first | ((with_reducible refine gate_callee (f:=76) rfl ?_);refine gL_ (some 16) Tryz.func76 #[.agg #[.int .i64 a0_0,.int .i64 a0_1,.int .i64 a0_2,.int .i64 a0_3],.agg #[.int .i64 a1_0,.int .i64 a1_1]] (h:=?_);(with_reducible refine (impl_SegHas.calls kj2 a0_0 a0_1 a0_2 a0_3 a1_0 a1_1 true _ A19.out).mono ?_);rintro e w24 ⟨rfl,hb⟩;refine⟨_,rfl,?_⟩;replace BK450:=vb_ BK450 hb;replace BK451:=vb_ BK451 hb;replace HB:=sb_ HB hb;(try clear hb)));go_meet
      case rel=>exact⟨_,(true),(by first | rfl | (simp;done) | (simp [*];done)),H',⟨by have:=HJ2.out;first | omega | exact Nat.le_refl _⟩,⟨uq_⟩,⟨uq_⟩,⟨hB_⟩⟩
     ·
      replace c20:=Bool.eq_false_iff.mpr c20;subst c20;rw [if_neg (show ¬ (false=true) by decide)] at H
      (try dsimp only at H)
      replace H:=Option.bind_eq_some_iff.mp H;obtain⟨t455,A250,H⟩:=H
      (try dsimp only at H)
      have A25:=Aside0.mk A250;clear A250;by_cases c26:t455=true
      ·
       subst c26;rw [if_pos rfl] at H
       (try dsimp only at H)
       have H':=Aside0.mk H;clear H;have hnb27:=NB450_451.out;have hnc27:=NB451_450.out;have hcz28_0:=c40_ BK450;have hcz28_1:=c41_ BK450;have hcz28_2:=c42_ BK450;have hcz28_3:=c43_ BK450;have hfz28_0:=fz_ BK450 0;have hfz28_1:=fz_ BK450 1;have hfz28_2:=fz_ BK450 2;have hfz28_3:=fz_ BK450 3;have hcz29_0:=c40_ BK451;have hcz29_1:=c41_ BK451;have hcz29_2:=c42_ BK451;have hcz29_3:=c43_ BK451;have hfz29_0:=fz_ BK451 0;have hfz29_1:=fz_ BK451 1;have hfz29_2:=fz_ BK451 2;have hfz29_3:=fz_ BK451 3;go_wp2_with (first | ((with_reducible refine gate_callee (f:=76) rfl ?_);refine gL_ (some 16) Tryz.func76 #[.agg #[.int .i64 a0_0,.int .i64 a0_1,.int .i64 a0_2,.int .i64 a0_3],.agg #[.int .i64 a1_0,.int .i64 a1_1]] (h:=?_);(with_reducible refine (impl_SegHas.calls kj2 a0_0 a0_1 a0_2 a0_3 a1_0 a1_1 false _ A19.out).mono ?_);rintro e w30 ⟨rfl,hb⟩;refine⟨_,rfl,?_⟩;replace BK450:=vb_ BK450 hb;replace BK451:=vb_ BK451 hb;replace HB:=sb_ HB hb;(try clear hb);have hcz31_0:=c40_ BK450;have hcz31_1:=c41_ BK450;have hcz31_2:=c42_ BK450;have hcz31_3:=c43_ BK450;have hfz31_0:=fz_ BK450 0;have hfz31_1:=fz_ BK450 1;have hfz31_2:=fz_ BK450 2;have hfz31_3:=fz_ BK450 3;have hcz32_0:=c40_ BK451;have hcz32_1:=c41_ BK451;have hcz32_2:=c42_ BK451;have hcz32_3:=c43_ BK451;have hfz32_0:=fz_ BK451 0;have hfz32_1:=fz_ BK451 1;have hfz32_2:=fz_ BK451 2;have hfz32_3:=fz_ BK451 3) | (go_at_call 76;(with_reducible refine (impl_SegHas.calls kj2 a0_0 a0_1 a0_2 a0_3 a1_2 a1_3 true _ A25.out).mono ?_);rintro e w33 ⟨rfl,hb⟩;replace BK450:=vb_ BK450 hb;replace BK451:=vb_ BK451 hb;replace HB:=sb_ HB hb;(try clear hb)));go_meet
       case rel=>exact⟨_,(true),(by first | rfl | (simp;done) | (simp [*];done)),H',⟨by have:=HJ2.out;first | omega | exact Nat.le_refl _⟩,⟨uq_⟩,⟨uq_⟩,⟨hB_⟩⟩
      ·
       replace c26:=Bool.eq_false_iff.mpr c26;subst c26;rw [if_neg (show ¬ (false=true) by decide)] at H
       (try dsimp only at H)
       replace H:=Option.bind_eq_some_iff.mp H;obtain⟨t456,A340,H⟩:=H
       (try dsimp only at H)
       have A34:=Aside0.mk A340;clear A340;by_cases c35:t456=true
       ·
        subst c35;rw [if_pos rfl] at H
        (try dsimp only at H)
        have H':=Aside0.mk H;clear H;have hnb36:=NB450_451.out;have hnc36:=NB451_450.out;have hcz37_0:=c40_ BK450;have hcz37_1:=c41_ BK450;have hcz37_2:=c42_ BK450;have hcz37_3:=c43_ BK450;have hfz37_0:=fz_ BK450 0;have hfz37_1:=fz_ BK450 1;have hfz37_2:=fz_ BK450 2;have hfz37_3:=fz_ BK450 3;have hcz38_0:=c40_ BK451;have hcz38_1:=c41_ BK451;have hcz38_2:=c42_ BK451;have hcz38_3:=c43_ BK451;have hfz38_0:=fz_ BK451 0;have hfz38_1:=fz_ BK451 1;have hfz38_2:=fz_ BK451 2;have hfz38_3:=fz_ BK451 3
        go_wp2_with (first | ((with_reducible refine gate_callee (f:=76) rfl ?_);refine gL_ (some 16) Tryz.func76 #[.agg #[.int .i64 a0_0,.int .i64 a0_1,.int .i64 a0_2,.int .i64 a0_3],.agg #[.int .i64 a1_0,.int .i64 a1_1]] (h:=?_);(with_reducible refine (impl_SegHas.calls kj2 a0_0 a0_1 a0_2 a0_3 a1_0 a1_1 false _ A19.out).mono ?_);rintro e w39 ⟨rfl,hb⟩;refine⟨_,rfl,?_⟩;replace BK450:=vb_ BK450 hb;replace BK451:=vb_ BK451 hb;replace HB:=sb_ HB hb;(try clear hb);have hcz40_0:=c40_ BK450;have hcz40_1:=c41_ BK450;have hcz40_2:=c42_ BK450;have hcz40_3:=c43_ BK450;have hfz40_0:=fz_ BK450 0;have hfz40_1:=fz_ BK450 1;have hfz40_2:=fz_ BK450 2;have hfz40_3:=fz_ BK450 3;have hcz41_0:=c40_ BK451;have hcz41_1:=c41_ BK451;have hcz41_2:=c42_ BK451;have hcz41_3:=c43_ BK451;have hfz41_0:=fz_ BK451 0;have hfz41_1:=fz_ BK451 1;have hfz41_2:=fz_ BK451 2;have hfz41_3:=fz_ BK451 3) | (go_at_call 76;(with_reducible refine (impl_SegHas.calls kj2 a0_0 a0_1 a0_2 a0_3 a1_2 a1_3 false _ A25.out).mono ?_);rintro e w42 ⟨rfl,hb⟩;replace BK450:=vb_ BK450 hb;replace BK451:=vb_ BK451 hb;replace HB:=sb_ HB hb;(try clear hb);have hcz43_0:=c40_ BK451;have hcz43_1:=c41_ BK451;have hcz43_2:=c42_ BK451;have hcz43_3:=c43_ BK451;have hfz43_0:=fz_ BK451 0;have hfz43_1:=fz_ BK451 1;have hfz43_2:=fz_ BK451 2;have hfz43_3:=fz_ BK451 3;have hcz44_0:=c40_ BK450;have hcz44_1:=c41_ BK450;have hcz44_2:=c42_ BK450;have hcz44_3:=c43_ BK450;have hfz44_0:=fz_ BK450 0;have hfz44_1:=fz_ BK450 1;have hfz44_2:=fz_ BK450 2;have hfz44_3:=fz_ BK450 3) | (go_at_call 76;(with_reducible refine (impl_SegHas.calls kj2 a1_0 a1_1 a1_2 a1_3 a0_0 a0_1 true _ A34.out).mono ?_);rintro e w45 ⟨rfl,hb⟩;replace BK450:=vb_ BK450 hb;replace BK451:=vb_ BK451 hb;replace HB:=sb_ HB hb;(try clear hb)));go_meet
        case rel=>exact⟨_,(true),(by first | rfl | (simp;done) | (simp [*];done)),H',⟨by have:=HJ2.out;first | omega | exact Nat.le_refl _⟩,⟨uq_⟩,⟨uq_⟩,⟨hB_⟩⟩
       ·
        replace c35:=Bool.eq_false_iff.mpr c35;subst c35;rw [if_neg (show ¬ (false=true) by decide)] at H
        (try dsimp only at H)
        replace H:=Option.bind_eq_some_iff.mp H;obtain⟨t457,A460,H⟩:=H
        (try dsimp only at H)
        have A46:=Aside0.mk A460;clear A460;have H':=Aside0.mk H;clear H;have hnb47:=NB450_451.out;have hnc47:=NB451_450.out;have hcz48_0:=c40_ BK450;have hcz48_1:=c41_ BK450;have hcz48_2:=c42_ BK450;have hcz48_3:=c43_ BK450;have hfz48_0:=fz_ BK450 0;have hfz48_1:=fz_ BK450 1;have hfz48_2:=fz_ BK450 2;have hfz48_3:=fz_ BK450 3;have hcz49_0:=c40_ BK451;have hcz49_1:=c41_ BK451;have hcz49_2:=c42_ BK451;have hcz49_3:=c43_ BK451;have hfz49_0:=fz_ BK451 0;have hfz49_1:=fz_ BK451 1;have hfz49_2:=fz_ BK451 2;have hfz49_3:=fz_ BK451 3
        go_wp2_with (first | ((with_reducible refine gate_callee (f:=76) rfl ?_);refine gL_ (some 16) Tryz.func76 #[.agg #[.int .i64 a0_0,.int .i64 a0_1,.int .i64 a0_2,.int .i64 a0_3],.agg #[.int .i64 a1_0,.int .i64 a1_1]] (h:=?_);(with_reducible refine (impl_SegHas.calls kj2 a0_0 a0_1 a0_2 a0_3 a1_0 a1_1 false _ A19.out).mono ?_);rintro e w50 ⟨rfl,hb⟩;refine⟨_,rfl,?_⟩;replace BK450:=vb_ BK450 hb;replace BK451:=vb_ BK451 hb;replace HB:=sb_ HB hb;(try clear hb);have hcz51_0:=c40_ BK450;have hcz51_1:=c41_ BK450;have hcz51_2:=c42_ BK450;have hcz51_3:=c43_ BK450;have hfz51_0:=fz_ BK450 0;have hfz51_1:=fz_ BK450 1;have hfz51_2:=fz_ BK450 2;have hfz51_3:=fz_ BK450 3;have hcz52_0:=c40_ BK451;have hcz52_1:=c41_ BK451;have hcz52_2:=c42_ BK451;have hcz52_3:=c43_ BK451;have hfz52_0:=fz_ BK451 0;have hfz52_1:=fz_ BK451 1;have hfz52_2:=fz_ BK451 2;have hfz52_3:=fz_ BK451 3) | (go_at_call 76;(with_reducible refine (impl_SegHas.calls kj2 a0_0 a0_1 a0_2 a0_3 a1_2 a1_3 false _ A25.out).mono ?_);rintro e w53 ⟨rfl,hb⟩;replace BK450:=vb_ BK450 hb;replace BK451:=vb_ BK451 hb;replace HB:=sb_ HB hb;(try clear hb);have hcz54_0:=c40_ BK451;have hcz54_1:=c41_ BK451;have hcz54_2:=c42_ BK451;have hcz54_3:=c43_ BK451;have hfz54_0:=fz_ BK451 0;have hfz54_1:=fz_ BK451 1;have hfz54_2:=fz_ BK451 2;have hfz54_3:=fz_ BK451 3;have hcz55_0:=c40_ BK450;have hcz55_1:=c41_ BK450;have hcz55_2:=c42_ BK450;have hcz55_3:=c43_ BK450;have hfz55_0:=fz_ BK450 0;have hfz55_1:=fz_ BK450 1;have hfz55_2:=fz_ BK450 2;have hfz55_3:=fz_ BK450 3) | (go_at_call 76;(with_reducible refine (impl_SegHas.calls kj2 a1_0 a1_1 a1_2 a1_3 a0_0 a0_1 false _ A34.out).mono ?_);rintro e w56 ⟨rfl,hb⟩;replace BK450:=vb_ BK450 hb;replace BK451:=vb_ BK451 hb;replace HB:=sb_ HB hb;(try clear hb);have hcz57_0:=c40_ BK451;have hcz57_1:=c41_ BK451;have hcz57_2:=c42_ BK451;have hcz57_3:=c43_ BK451;have hfz57_0:=fz_ BK451 0;have hfz57_1:=fz_ BK451 1;have hfz57_2:=fz_ BK451 2;have hfz57_3:=fz_ BK451 3;have hcz58_0:=c40_ BK450;have hcz58_1:=c41_ BK450;have hcz58_2:=c42_ BK450;have hcz58_3:=c43_ BK450;have hfz58_0:=fz_ BK450 0;have hfz58_1:=fz_ BK450 1;have hfz58_2:=fz_ BK450 2;have hfz58_3:=fz_ BK450 3) | (go_at_call 76;(with_reducible refine (impl_SegHas.calls kj2 a1_0 a1_1 a1_2 a1_3 a0_2 a0_3 t457 _ A46.out).mono ?_);rintro e w59 ⟨rfl,hb⟩;replace BK450:=vb_ BK450 hb;replace BK451:=vb_ BK451 hb;replace HB:=sb_ HB hb;(try clear hb)))
        go_meet
        case rel=>exact⟨_,(t457),(by first | rfl | (simp;done) | (simp [*];done)),H',⟨by have:=HJ2.out;first | omega | exact Nat.le_refl _⟩,⟨uq_⟩,⟨uq_⟩,⟨hB_⟩⟩
    case rest =>
     clear HC18;obtain⟨kq,x34_17,rfl,HA,HJ17,BK450,BK451,HB⟩:=hcut
     cases kq with
     | zero=>exact absurd HA.out (by simp [impl_SegMeet.j1])
     | succ kj17 =>
      have H:=HA.out;clear HA;simp only [impl_SegMeet.j1] at H;by_cases c60:x34_17=true
      ·
       subst c60;rw [if_pos rfl] at H
       (try dsimp only at H)
       obtain rfl:=Option.some.inj H;go_wp2;go_ret;exact⟨rr_,hB_⟩
      ·
       replace c60:=Bool.eq_false_iff.mpr c60;subst c60;rw [if_neg (show ¬ (false=true) by decide)] at H
       (try dsimp only at H)
       replace H:=Option.bind_eq_some_iff.mp H;obtain⟨t458,A610,H⟩:=H
       (try dsimp only at H)
       have A61:=Aside0.mk A610;clear A610;replace H:=Option.bind_eq_some_iff.mp H;obtain⟨t459,A620,H⟩:=H
       (try dsimp only at H)
       have A62:=Aside0.mk A620;clear A620;by_cases c63:(wrap64 (t458*t459))<0
       ·
        rw [if_pos c63] at H;have c63b0:decide ((wrap64 (t458*t459))<0)=true:=decide_eq_true c63;clear c63;replace H:=Option.bind_eq_some_iff.mp H;obtain⟨t460,A640,H⟩:=H
        (try dsimp only at H)
        have A64:=Aside0.mk A640;clear A640;replace H:=Option.bind_eq_some_iff.mp H;obtain⟨t461,A650,H⟩:=H
        (try dsimp only at H)
        have A65:=Aside0.mk A650;clear A650;obtain rfl:=Option.some.inj H
        try go_wp2
        replace BK450:=a0_ (blk_drew BK450.out);replace BK451:=a0_ (blk_drew BK451.out);replace HB:=a0_ (below_drew1 HB.out);refine start_ (n:=35) (S:=fun w'=>w'.cell? ⟨gb450,0,none⟩=some (.int .i64 a0_0)∧w'.cell? ⟨gb450,1,none⟩=some (.int .i64 a0_1)∧w'.cell? ⟨gb450,2,none⟩=some (.int .i64 a0_2)∧w'.cell? ⟨gb450,3,none⟩=some (.int .i64 a0_3)∧w'.cell? ⟨gb451,0,none⟩=some (.int .i64 a1_0)∧w'.cell? ⟨gb451,1,none⟩=some (.int .i64 a1_1)∧w'.cell? ⟨gb451,2,none⟩=some (.int .i64 a1_2)∧w'.cell? ⟨gb451,3,none⟩=some (.int .i64 a1_3)) (ds:=[]) (Array.replicate 35 false) (by kernel_rfl) rfl rfl ⟨bc_,bc_,bc_,bc_,bc_,bc_,bc_,bc_⟩ (fun hHeld=>?_);refine with_tabW impl_SegMeet.tab5 impl_SegMeet.bits5 (fun HT_ HW_=>?_);generalize wc.drew=w66 at BK450 BK451 HB hHeld ⊢
        refine pu_ HT_ 0 35 (bm 35 1) ?_;refine pu_ HT_ 2 37 (bm 35 5) ?_;refine pu_ HT_ 4 39 (bm 35 21) ?_;refine pu_ HT_ 7 42 (bm 35 149) ?_;refine pu_ HT_ 9 44 (bm 35 661) ?_;refine pu_ HT_ 11 46 (bm 35 2709) ?_;refine ta8_ HT_ HW_ 1 36 (bm 35 2711) hHeld ?_;refine ta8_ HT_ HW_ 3 38 (bm 35 2719) hHeld ?_;refine ta8_ HT_ HW_ 5 40 (bm 35 2751) hHeld ?_;refine ta8_ HT_ HW_ 8 43 (bm 35 3007) hHeld ?_;refine ta8_ HT_ HW_ 10 45 (bm 35 4031) hHeld ?_;refine ta8_ HT_ HW_ 12 47 (bm 35 8127) hHeld ?_;refine one_ (i:=6) (N:=some 41) (bm 35 8191) rfl rfl (one_of HT_.out (by kernel_rfl)) (by decide) (fun K hK=>?_);refine goes_ Tryz.func77 (by kernel_rfl) rfl #[.agg #[.int .i64 a0_0,.int .i64 a0_1],.agg #[.int .i64 a0_2,.int .i64 a0_3],.agg #[.int .i64 a1_0,.int .i64 a1_1]] (by rfl) rfl rfl ma_ ?_
        with_reducible refine (impl_SegTurn.calls kj17 a0_0 a0_1 a0_2 a0_3 a1_0 a1_1 t458 _ A61.out).mono ?_
        rintro e w67 ⟨rfl,hb⟩;refine⟨_,rfl,?_⟩;replace BK450:=vb_ BK450 hb;replace BK451:=vb_ BK451 hb;replace HB:=sb_ HB hb
        (try clear hb)
        (try clear hb2)
        (try clear hk)
        (try clear hi)
        refine hK.out _ _ ⟨bc_,bc_,bc_,bc_,bc_,bc_,bc_,bc_⟩ (fun hHeld=>?_);clear hK K;refine no_ (h:=?_);refine one_ (i:=13) (N:=some 48) (bm 35 16383) rfl rfl (one_of HT_.out (by kernel_rfl)) (by decide) (fun K hK=>?_);refine goes_ Tryz.func77 (by kernel_rfl) rfl #[.agg #[.int .i64 a0_0,.int .i64 a0_1],.agg #[.int .i64 a0_2,.int .i64 a0_3],.agg #[.int .i64 a1_2,.int .i64 a1_3]] (by rfl) rfl rfl ma_ ?_
        with_reducible refine (impl_SegTurn.calls kj17 a0_0 a0_1 a0_2 a0_3 a1_2 a1_3 t459 _ A62.out).mono ?_
        rintro e w68 ⟨rfl,hb⟩;refine⟨_,rfl,?_⟩;replace BK450:=vb_ BK450 hb;replace BK451:=vb_ BK451 hb;replace HB:=sb_ HB hb
        (try clear hb)
        (try clear hb2)
        (try clear hk)
        (try clear hi)
        refine hK.out _ _ ⟨bc_,bc_,bc_,bc_,bc_,bc_,bc_,bc_⟩ (fun hHeld=>?_);clear hK K;refine no_ (h:=?_);refine pu_ HT_ 14 49 (bm 35 32767) ?_;refine pu_ HT_ 15 50 (bm 35 65535) ?_;refine pu_ HT_ 16 51 (bm 35 131071) ?_;refine pu_ HT_ 17 52 (bm 35 262143) ?_;refine pu_ HT_ 19 54 (bm 35 786431) ?_;refine pu_ HT_ 21 56 (bm 35 2883583) ?_;refine pu_ HT_ 24 59 (bm 35 19660799) ?_;refine pu_ HT_ 26 61 (bm 35 86769663) ?_;refine pu_ HT_ 28 63 (bm 35 355205119) ?_;refine ta8_ HT_ HW_ 18 53 (bm 35 355467263) hHeld ?_;refine ta8_ HT_ HW_ 20 55 (bm 35 356515839) hHeld ?_;refine ta8_ HT_ HW_ 22 57 (bm 35 360710143) hHeld ?_;refine ta8_ HT_ HW_ 25 60 (bm 35 394264575) hHeld ?_;refine ta8_ HT_ HW_ 27 62 (bm 35 528482303) hHeld ?_;refine ta8_ HT_ HW_ 29 64 (bm 35 1065353215) hHeld ?_;refine one_ (i:=23) (N:=some 58) (bm 35 1073741823) rfl rfl (one_of HT_.out (by kernel_rfl)) (by decide) (fun K hK=>?_);refine goes_ Tryz.func77 (by kernel_rfl) rfl #[.agg #[.int .i64 a1_0,.int .i64 a1_1],.agg #[.int .i64 a1_2,.int .i64 a1_3],.agg #[.int .i64 a0_0,.int .i64 a0_1]] (by rfl) rfl rfl ma_ ?_
        with_reducible refine (impl_SegTurn.calls kj17 a1_0 a1_1 a1_2 a1_3 a0_0 a0_1 t460 _ A64.out).mono ?_
        rintro e w69 ⟨rfl,hb⟩;refine⟨_,rfl,?_⟩;replace BK450:=vb_ BK450 hb;replace BK451:=vb_ BK451 hb;replace HB:=sb_ HB hb
        (try clear hb)
        (try clear hb2)
        (try clear hk)
        (try clear hi)
        refine hK.out _ _ ⟨bc_,bc_,bc_,bc_,bc_,bc_,bc_,bc_⟩ (fun hHeld=>?_);clear hK K;refine no_ (h:=?_);refine one_ (i:=30) (N:=some 65) (bm 35 2147483647) rfl rfl (one_of HT_.out (by kernel_rfl)) (by decide) (fun K hK=>?_);refine goes_ Tryz.func77 (by kernel_rfl) rfl #[.agg #[.int .i64 a1_0,.int .i64 a1_1],.agg #[.int .i64 a1_2,.int .i64 a1_3],.agg #[.int .i64 a0_2,.int .i64 a0_3]] (by rfl) rfl rfl ma_ ?_
        with_reducible refine (impl_SegTurn.calls kj17 a1_0 a1_1 a1_2 a1_3 a0_2 a0_3 t461 _ A65.out).mono ?_
        rintro e w70 ⟨rfl,hb⟩;refine⟨_,rfl,?_⟩;replace BK450:=vb_ BK450 hb;replace BK451:=vb_ BK451 hb;replace HB:=sb_ HB hb
        (try clear hb)
        (try clear hb2)
        (try clear hk)
        (try clear hi)
        refine hK.out _ _ ⟨bc_,bc_,bc_,bc_,bc_,bc_,bc_,bc_⟩ (fun hHeld=>?_);clear hK K;refine no_ (h:=?_);refine pu_ HT_ 31 66 (bm 35 4294967295) ?_;refine pu_ HT_ 32 67 (bm 35 8589934591) ?_;refine pu_ HT_ 33 68 (bm 35 17179869183) ?_;refine pu_ HT_ 34 4 (bm 35 34359738367) ?_;refine done_ (done_of HT_.out (by kernel_rfl)) ?_
        try go_wp2
        go_ret;exact⟨rr_,hB_⟩
       ·
        rw [if_neg c63] at H;have c63b0:decide ((wrap64 (t458*t459))<0)=false:=decide_eq_false c63;clear c63;obtain rfl:=Option.some.inj H
        try go_wp2
        replace BK450:=a0_ (blk_drew BK450.out);replace BK451:=a0_ (blk_drew BK451.out);replace HB:=a0_ (below_drew1 HB.out);refine start_ (n:=35) (S:=fun w'=>w'.cell? ⟨gb450,0,none⟩=some (.int .i64 a0_0)∧w'.cell? ⟨gb450,1,none⟩=some (.int .i64 a0_1)∧w'.cell? ⟨gb450,2,none⟩=some (.int .i64 a0_2)∧w'.cell? ⟨gb450,3,none⟩=some (.int .i64 a0_3)∧w'.cell? ⟨gb451,0,none⟩=some (.int .i64 a1_0)∧w'.cell? ⟨gb451,1,none⟩=some (.int .i64 a1_1)∧w'.cell? ⟨gb451,2,none⟩=some (.int .i64 a1_2)∧w'.cell? ⟨gb451,3,none⟩=some (.int .i64 a1_3)) (ds:=[]) (Array.replicate 35 false) (by kernel_rfl) rfl rfl ⟨bc_,bc_,bc_,bc_,bc_,bc_,bc_,bc_⟩ (fun hHeld=>?_);refine with_tabW impl_SegMeet.tab5 impl_SegMeet.bits5 (fun HT_ HW_=>?_);generalize wc.drew=w71 at BK450 BK451 HB hHeld ⊢
        refine pu_ HT_ 0 35 (bm 35 1) ?_;refine pu_ HT_ 2 37 (bm 35 5) ?_;refine pu_ HT_ 4 39 (bm 35 21) ?_;refine pu_ HT_ 7 42 (bm 35 149) ?_;refine pu_ HT_ 9 44 (bm 35 661) ?_;refine pu_ HT_ 11 46 (bm 35 2709) ?_;refine ta8_ HT_ HW_ 1 36 (bm 35 2711) hHeld ?_;refine ta8_ HT_ HW_ 3 38 (bm 35 2719) hHeld ?_;refine ta8_ HT_ HW_ 5 40 (bm 35 2751) hHeld ?_;refine ta8_ HT_ HW_ 8 43 (bm 35 3007) hHeld ?_;refine ta8_ HT_ HW_ 10 45 (bm 35 4031) hHeld ?_;refine ta8_ HT_ HW_ 12 47 (bm 35 8127) hHeld ?_;refine one_ (i:=6) (N:=some 41) (bm 35 8191) rfl rfl (one_of HT_.out (by kernel_rfl)) (by decide) (fun K hK=>?_);refine goes_ Tryz.func77 (by kernel_rfl) rfl #[.agg #[.int .i64 a0_0,.int .i64 a0_1],.agg #[.int .i64 a0_2,.int .i64 a0_3],.agg #[.int .i64 a1_0,.int .i64 a1_1]] (by rfl) rfl rfl ma_ ?_
        with_reducible refine (impl_SegTurn.calls kj17 a0_0 a0_1 a0_2 a0_3 a1_0 a1_1 t458 _ A61.out).mono ?_
        rintro e w72 ⟨rfl,hb⟩;refine⟨_,rfl,?_⟩;replace BK450:=vb_ BK450 hb;replace BK451:=vb_ BK451 hb;replace HB:=sb_ HB hb
        (try clear hb)
        (try clear hb2)
        (try clear hk)
        (try clear hi)
        refine hK.out _ _ ⟨bc_,bc_,bc_,bc_,bc_,bc_,bc_,bc_⟩ (fun hHeld=>?_);clear hK K;refine no_ (h:=?_);refine one_ (i:=13) (N:=some 48) (bm 35 16383) rfl rfl (one_of HT_.out (by kernel_rfl)) (by decide) (fun K hK=>?_);refine goes_ Tryz.func77 (by kernel_rfl) rfl #[.agg #[.int .i64 a0_0,.int .i64 a0_1],.agg #[.int .i64 a0_2,.int .i64 a0_3],.agg #[.int .i64 a1_2,.int .i64 a1_3]] (by rfl) rfl rfl ma_ ?_
        with_reducible refine (impl_SegTurn.calls kj17 a0_0 a0_1 a0_2 a0_3 a1_2 a1_3 t459 _ A62.out).mono ?_
        rintro e w73 ⟨rfl,hb⟩;refine⟨_,rfl,?_⟩;replace BK450:=vb_ BK450 hb;replace BK451:=vb_ BK451 hb;replace HB:=sb_ HB hb
        (try clear hb)
        (try clear hb2)
        (try clear hk)
        (try clear hi)
        refine hK.out _ _ ⟨bc_,bc_,bc_,bc_,bc_,bc_,bc_,bc_⟩ (fun hHeld=>?_);clear hK K;refine no_ (h:=?_);refine pu_ HT_ 14 49 (bm 35 32767) ?_;refine pu_ HT_ 15 50 (bm 35 65535) ?_;refine pu_ HT_ 16 51 (bm 35 131071) ?_;refine pz_ HT_ 17 52 (bm 35 262143) ?_;refine pz_ HT_ 18 53 (bm 35 524287) ?_;refine pz_ HT_ 19 54 (bm 35 1048575) ?_;refine pz_ HT_ 20 55 (bm 35 2097151) ?_;refine pz_ HT_ 21 56 (bm 35 4194303) ?_;refine pz_ HT_ 22 57 (bm 35 8388607) ?_;refine pz_ HT_ 23 58 (bm 35 16777215) ?_;refine pz_ HT_ 24 59 (bm 35 33554431) ?_;refine pz_ HT_ 25 60 (bm 35 67108863) ?_;refine pz_ HT_ 26 61 (bm 35 134217727) ?_;refine pz_ HT_ 27 62 (bm 35 268435455) ?_;refine pz_ HT_ 28 63 (bm 35 536870911) ?_;refine pz_ HT_ 29 64 (bm 35 1073741823) ?_;refine pz_ HT_ 30 65 (bm 35 2147483647) ?_;refine pz_ HT_ 31 66 (bm 35 4294967295) ?_;refine pz_ HT_ 32 67 (bm 35 8589934591) ?_;refine pu_ HT_ 33 68 (bm 35 17179869183) ?_;refine pu_ HT_ 34 4 (bm 35 34359738367) ?_;refine done_ (done_of HT_.out (by kernel_rfl)) ?_
        try go_wp2
        go_ret;exact⟨rr_,hB_⟩
def spec_l2Cross.f (a0_0:Int)(a0_1:Int)(a1_0:Int)(a1_1:Int)(a2_0:Int)(a2_1:Int):Option (Int):=some (wrap64 ((wrap64 ((wrap64 (a1_0-a0_0))*(wrap64 (a2_1-a0_1))))-(wrap64 ((wrap64 (a1_1-a0_1))*(wrap64 (a2_0-a0_0))))))
set_option maxHeartbeats 8000000 in
set_option maxRecDepth 100000 in
theorem spec_l2Cross.calls (a0_0:Int)(a0_1:Int)(a1_0:Int)(a1_1:Int)(a2_0:Int)(a2_1:Int)(r:Int)(w:World)(h:spec_l2Cross.f a0_0 a0_1 a1_0 a1_1 a2_0 a2_1=some r):
  Calls Tryz.prog 53 #[.agg #[.int .i64 a0_0,.int .i64 a0_1],.agg #[.int .i64 a1_0,.int .i64 a1_1],.agg #[.int .i64 a2_0,.int .i64 a2_1]] w fun e w'=>e=.returned (.int .i64 r)∧Below w.heap.size w w':=by
 have hu70:=Tryz.underlying70;have HB:=a0_ (Below.refl w.heap.size w);have H:(some (wrap64 ((wrap64 ((wrap64 (a1_0-a0_0))*(wrap64 (a2_1-a0_1))))-(wrap64 ((wrap64 (a1_1-a0_1))*(wrap64 (a2_0-a0_0)))))))=some r:=h;clear h;obtain rfl:=Option.some.inj H;go_enter Tryz.func53,Tryz.ntmps53;go_wp2_with (first | ((with_reducible refine gate_dst (N:=3) rfl ?_);refine bx_ (N:=3) (cs:=#[.int .i64 a0_0,.int .i64 a0_1]) (t:=70) (h:=?_);intro gb118 hg w4 hbox hb;have BK118:=a0_ (hbox);have GW118:=gh_ HB hg;have GE118:=gh_ HB hg;replace HB:=sb_ HB hb;clear hb hbox hg) | ((with_reducible refine gate_dst (N:=4) rfl ?_);refine bx_ (N:=4) (cs:=#[.int .i64 a1_0,.int .i64 a1_1]) (t:=70) (h:=?_);intro gb119 hg w5 hbox hb;have BK119:=a0_ (hbox);have GW119:=gh_ HB hg;have GE119:=gh_ HB hg;have NB118_119:=nl_ BK118 hg;have NB119_118:=nr_ BK118 hg;replace BK118:=vb_ BK118 hb;replace HB:=sb_ HB hb;clear hb hbox hg) | ((with_reducible refine gate_dst (N:=5) rfl ?_);refine bx_ (N:=5) (cs:=#[.int .i64 a2_0,.int .i64 a2_1]) (t:=70) (h:=?_);intro gb120 hg w6 hbox hb;have BK120:=a0_ (hbox);have GW120:=gh_ HB hg;have GE120:=gh_ HB hg;have NB118_120:=nl_ BK118 hg;have NB120_118:=nr_ BK118 hg;have NB119_120:=nl_ BK119 hg;have NB120_119:=nr_ BK119 hg;replace BK118:=vb_ BK118 hb;replace BK119:=vb_ BK119 hb;replace HB:=sb_ HB hb;clear hb hbox hg;have hnb7:=NB119_118.out;have hnc7:=NB118_119.out;have hnb8:=NB119_120.out;have hnc8:=NB120_119.out;have hcz9_0:=c20_ BK119;have hcz9_1:=c21_ BK119;have hfz9_0:=fz_ BK119 0;have hfz9_1:=fz_ BK119 1;have hnb10:=NB118_120.out;have hnc10:=NB120_118.out;have hcz11_0:=c20_ BK118;have hcz11_1:=c21_ BK118;have hfz11_0:=fz_ BK118 0;have hfz11_1:=fz_ BK118 1;have hcz12_0:=c20_ BK120;have hcz12_1:=c21_ BK120;have hfz12_0:=fz_ BK120 0;have hfz12_1:=fz_ BK120 1));go_ret;exact⟨rr_,hB_⟩
def spec_l2Dot.f (a0_0:Int)(a0_1:Int)(a1_0:Int)(a1_1:Int)(a2_0:Int)(a2_1:Int):Option (Int):=some (wrap64 ((wrap64 ((wrap64 (a1_0-a0_0))*(wrap64 (a2_0-a0_0))))+(wrap64 ((wrap64 (a1_1-a0_1))*(wrap64 (a2_1-a0_1))))))
set_option maxHeartbeats 8000000 in
set_option maxRecDepth 100000 in
theorem spec_l2Dot.calls (a0_0:Int)(a0_1:Int)(a1_0:Int)(a1_1:Int)(a2_0:Int)(a2_1:Int)(r:Int)(w:World)(h:spec_l2Dot.f a0_0 a0_1 a1_0 a1_1 a2_0 a2_1=some r):
  Calls Tryz.prog 69 #[.agg #[.int .i64 a0_0,.int .i64 a0_1],.agg #[.int .i64 a1_0,.int .i64 a1_1],.agg #[.int .i64 a2_0,.int .i64 a2_1]] w fun e w'=>e=.returned (.int .i64 r)∧Below w.heap.size w w':=by
 have hu70:=Tryz.underlying70;have HB:=a0_ (Below.refl w.heap.size w);have H:(some (wrap64 ((wrap64 ((wrap64 (a1_0-a0_0))*(wrap64 (a2_0-a0_0))))+(wrap64 ((wrap64 (a1_1-a0_1))*(wrap64 (a2_1-a0_1)))))))=some r:=h;clear h;obtain rfl:=Option.some.inj H;go_enter Tryz.func69,Tryz.ntmps69;go_wp2_with (first | ((with_reducible refine gate_dst (N:=3) rfl ?_);refine bx_ (N:=3) (cs:=#[.int .i64 a0_0,.int .i64 a0_1]) (t:=70) (h:=?_);intro gb121 hg w4 hbox hb;have BK121:=a0_ (hbox);have GW121:=gh_ HB hg;have GE121:=gh_ HB hg;replace HB:=sb_ HB hb;clear hb hbox hg) | ((with_reducible refine gate_dst (N:=4) rfl ?_);refine bx_ (N:=4) (cs:=#[.int .i64 a1_0,.int .i64 a1_1]) (t:=70) (h:=?_);intro gb122 hg w5 hbox hb;have BK122:=a0_ (hbox);have GW122:=gh_ HB hg;have GE122:=gh_ HB hg;have NB121_122:=nl_ BK121 hg;have NB122_121:=nr_ BK121 hg;replace BK121:=vb_ BK121 hb;replace HB:=sb_ HB hb;clear hb hbox hg) | ((with_reducible refine gate_dst (N:=5) rfl ?_);refine bx_ (N:=5) (cs:=#[.int .i64 a2_0,.int .i64 a2_1]) (t:=70) (h:=?_);intro gb123 hg w6 hbox hb;have BK123:=a0_ (hbox);have GW123:=gh_ HB hg;have GE123:=gh_ HB hg;have NB121_123:=nl_ BK121 hg;have NB123_121:=nr_ BK121 hg;have NB122_123:=nl_ BK122 hg;have NB123_122:=nr_ BK122 hg;replace BK121:=vb_ BK121 hb;replace BK122:=vb_ BK122 hb;replace HB:=sb_ HB hb;clear hb hbox hg;have hnb7:=NB122_121.out;have hnc7:=NB121_122.out;have hnb8:=NB122_123.out;have hnc8:=NB123_122.out;have hcz9_0:=c20_ BK122;have hcz9_1:=c21_ BK122;have hfz9_0:=fz_ BK122 0;have hfz9_1:=fz_ BK122 1;have hnb10:=NB121_123.out;have hnc10:=NB123_121.out;have hcz11_0:=c20_ BK121;have hcz11_1:=c21_ BK121;have hfz11_0:=fz_ BK121 0;have hfz11_1:=fz_ BK121 1;have hcz12_0:=c20_ BK123;have hcz12_1:=c21_ BK123;have hfz12_0:=fz_ BK123 0;have hfz12_1:=fz_ BK123 1));go_ret;exact⟨rr_,hB_⟩
def spec_l2Has.f (a0_0:Int)(a0_1:Int)(a0_2:Int)(a0_3:Int)(a1_0:Int)(a1_1:Int):Option (Bool):=(spec_l2Cross.f a0_0 a0_1 a0_2 a0_3 a1_0 a1_1).bind fun t126=>(if t126=0 then ((spec_l2Dot.f a0_0 a0_1 a0_2 a0_3 a1_0 a1_1).bind fun t127=>((spec_l2Dot.f a0_0 a0_1 a0_2 a0_3 a0_2 a0_3).bind fun t128=>((spec_l6In.f t127 0 t128).bind fun t129=>(some t129)))) else (some false))
def spec_l2Has.T1:Bool × List (List Nat × List Nat):=(true,[([],[]),([0],[0]),([],[]),([2],[2]),([],[]),([1,3,4],[1,3,4]),([5],[5]),([6,5],[6]),([7],[7]),([8,7],[7,8]),([7],[7]),([10,7],[7,10]),([7],[7]),([9,11,12,7,7],[7,9,11,12]),([7],[7]),([14,7],[7,14]),([7],[7]),([16,7],[7,16]),([7],[7]),([18,7],[7,18]),([15,17,19,13,7],[7,15,17,19]),([13,20,20,7],[7,13,20]),([7,21],[7,21]),([22,21,0,1,2,3,4,5,6,7,8,9,10,11,12,13,14,15,16,17,18,19,20,21,22],[22])])
def spec_l2Has.B1:List Nat:=[0,1,0,4,0,31,63,127,255,511,255,1279,255,8191,255,16639,255,65791,255,262399,1048575,2097151,4194303,8388607]
theorem spec_l2Has.tab1:rtab .any (opsOf Tryz.f51 1)=spec_l2Has.T1:=by kernel_rfl
theorem spec_l2Has.bits1:waitsOk spec_l2Has.T1.2 spec_l2Has.B1=true:=by kernel_rfl
set_option maxHeartbeats 8000000 in
set_option maxRecDepth 100000 in
theorem spec_l2Has.calls (a0_0:Int)(a0_1:Int)(a0_2:Int)(a0_3:Int)(a1_0:Int)(a1_1:Int)(r:Bool)(w:World)(h:spec_l2Has.f a0_0 a0_1 a0_2 a0_3 a1_0 a1_1=some r):
  Calls Tryz.prog 51 #[.agg #[.int .i64 a0_0,.int .i64 a0_1,.int .i64 a0_2,.int .i64 a0_3],.agg #[.int .i64 a1_0,.int .i64 a1_1]] w fun e w'=>e=.returned (.bool r)∧Below w.heap.size w w':=by
 have hu83:=Tryz.underlying83;have hu70:=Tryz.underlying70;have HB:=a0_ (Below.refl w.heap.size w);have H:((spec_l2Cross.f a0_0 a0_1 a0_2 a0_3 a1_0 a1_1).bind fun t126=>(if t126=0 then ((spec_l2Dot.f a0_0 a0_1 a0_2 a0_3 a1_0 a1_1).bind fun t127=>((spec_l2Dot.f a0_0 a0_1 a0_2 a0_3 a0_2 a0_3).bind fun t128=>((spec_l6In.f t127 0 t128).bind fun t129=>(some t129)))) else (some false)))=some r:=h;clear h;replace H:=Option.bind_eq_some_iff.mp H;obtain⟨t126,A30,H⟩:=H
 (try dsimp only at H)
 have A3:=Aside0.mk A30;clear A30;by_cases c4:t126=0
 ·
  rw [if_pos c4] at H;have c4b0:(t126==0)=true:=beq_iff_eq.mpr c4;have c4b1:(t126 != 0)=false:=bne_eq_false_iff_eq.mpr c4;clear c4;replace H:=Option.bind_eq_some_iff.mp H;obtain⟨t127,A50,H⟩:=H
  (try dsimp only at H)
  have A5:=Aside0.mk A50;clear A50;replace H:=Option.bind_eq_some_iff.mp H;obtain⟨t128,A60,H⟩:=H
  (try dsimp only at H)
  have A6:=Aside0.mk A60;clear A60;replace H:=Option.bind_eq_some_iff.mp H;obtain⟨t129,A70,H⟩:=H
  (try dsimp only at H)
  have A7:=Aside0.mk A70;clear A70;obtain rfl:=Option.some.inj H;go_enter Tryz.func51,Tryz.ntmps51
  try go_wp2_with (first | ((with_reducible refine gate_dst (N:=2) rfl ?_);refine bx_ (N:=2) (cs:=#[.int .i64 a0_0,.int .i64 a0_1,.int .i64 a0_2,.int .i64 a0_3]) (t:=83) (h:=?_);intro gb124 hg w8 hbox hb;have BK124:=a0_ (hbox);have GW124:=gh_ HB hg;have GE124:=gh_ HB hg;replace HB:=sb_ HB hb;clear hb hbox hg) | ((with_reducible refine gate_dst (N:=3) rfl ?_);refine bx_ (N:=3) (cs:=#[.int .i64 a1_0,.int .i64 a1_1]) (t:=70) (h:=?_);intro gb125 hg w9 hbox hb;have BK125:=a0_ (hbox);have GW125:=gh_ HB hg;have GE125:=gh_ HB hg;have NB124_125:=nl_ BK124 hg;have NB125_124:=nr_ BK124 hg;replace BK124:=vb_ BK124 hb;replace HB:=sb_ HB hb;clear hb hbox hg))
  replace BK124:=a0_ (blk_drew BK124.out);replace BK125:=a0_ (blk_drew BK125.out);replace HB:=a0_ (below_drew1 HB.out);refine start_ (n:=24) (S:=fun w'=>w'.cell? ⟨gb124,0,none⟩=some (.int .i64 a0_0)∧w'.cell? ⟨gb124,1,none⟩=some (.int .i64 a0_1)∧w'.cell? ⟨gb124,2,none⟩=some (.int .i64 a0_2)∧w'.cell? ⟨gb124,3,none⟩=some (.int .i64 a0_3)∧w'.cell? ⟨gb125,0,none⟩=some (.int .i64 a1_0)∧w'.cell? ⟨gb125,1,none⟩=some (.int .i64 a1_1)) (ds:=[]) (Array.replicate 24 false) (by kernel_rfl) rfl rfl ⟨bc_,bc_,bc_,bc_,bc_,bc_⟩ (fun hHeld=>?_);refine with_tabW spec_l2Has.tab1 spec_l2Has.bits1 (fun HT_ HW_=>?_);generalize w9.drew=w10 at BK124 BK125 HB hHeld ⊢
  refine pu_ HT_ 0 5 (bm 24 1) ?_;refine pu_ HT_ 2 7 (bm 24 5) ?_;refine ta6_ HT_ HW_ 1 6 (bm 24 7) hHeld ?_;refine ta6_ HT_ HW_ 3 8 (bm 24 15) hHeld ?_;refine ta6_ HT_ HW_ 4 9 (bm 24 31) hHeld ?_;refine one_ (i:=5) (N:=some 10) (bm 24 63) rfl rfl (one_of HT_.out (by kernel_rfl)) (by decide) (fun K hK=>?_);refine goes_ Tryz.func53 (by kernel_rfl) rfl #[.agg #[.int .i64 a0_0,.int .i64 a0_1],.agg #[.int .i64 a0_2,.int .i64 a0_3],.agg #[.int .i64 a1_0,.int .i64 a1_1]] (by rfl) rfl rfl ma_ ?_
  with_reducible refine (spec_l2Cross.calls a0_0 a0_1 a0_2 a0_3 a1_0 a1_1 t126 _ A3.out).mono ?_
  rintro e w11 ⟨rfl,hb⟩;refine⟨_,rfl,?_⟩;replace BK124:=vb_ BK124 hb;replace BK125:=vb_ BK125 hb;replace HB:=sb_ HB hb
  (try clear hb)
  (try clear hb2)
  (try clear hk)
  (try clear hi)
  refine hK.out _ _ ⟨bc_,bc_,bc_,bc_,bc_,bc_⟩ (fun hHeld=>?_);clear hK K;refine no_ (h:=?_);refine pu_ HT_ 6 11 (bm 24 127) ?_;refine pu_ HT_ 7 12 (bm 24 255) ?_;refine pu_ HT_ 8 13 (bm 24 511) ?_;refine pu_ HT_ 10 15 (bm 24 1535) ?_;refine pu_ HT_ 14 19 (bm 24 17919) ?_;refine pu_ HT_ 16 21 (bm 24 83455) ?_;refine pu_ HT_ 18 23 (bm 24 345599) ?_;refine ta6_ HT_ HW_ 9 14 (bm 24 346111) hHeld ?_;refine ta6_ HT_ HW_ 11 16 (bm 24 348159) hHeld ?_;refine ta6_ HT_ HW_ 12 17 (bm 24 352255) hHeld ?_;refine ta6_ HT_ HW_ 15 20 (bm 24 385023) hHeld ?_;refine ta6_ HT_ HW_ 17 22 (bm 24 516095) hHeld ?_;refine ta6_ HT_ HW_ 19 24 (bm 24 1040383) hHeld ?_;refine one_ (i:=13) (N:=some 18) (bm 24 1048575) rfl rfl (one_of HT_.out (by kernel_rfl)) (by decide) (fun K hK=>?_);refine goes_ Tryz.func69 (by kernel_rfl) rfl #[.agg #[.int .i64 a0_0,.int .i64 a0_1],.agg #[.int .i64 a0_2,.int .i64 a0_3],.agg #[.int .i64 a1_0,.int .i64 a1_1]] (by rfl) rfl rfl ma_ ?_
  with_reducible refine (spec_l2Dot.calls a0_0 a0_1 a0_2 a0_3 a1_0 a1_1 t127 _ A5.out).mono ?_
  rintro e w12 ⟨rfl,hb⟩;refine⟨_,rfl,?_⟩;replace BK124:=vb_ BK124 hb;replace BK125:=vb_ BK125 hb;replace HB:=sb_ HB hb
  (try clear hb)
  (try clear hb2)
  (try clear hk)
  (try clear hi)
  refine hK.out _ _ ⟨bc_,bc_,bc_,bc_,bc_,bc_⟩ (fun hHeld=>?_);clear hK K;refine no_ (h:=?_);refine one_ (i:=20) (N:=some 25) (bm 24 2097151) rfl rfl (one_of HT_.out (by kernel_rfl)) (by decide) (fun K hK=>?_);refine goes_ Tryz.func69 (by kernel_rfl) rfl #[.agg #[.int .i64 a0_0,.int .i64 a0_1],.agg #[.int .i64 a0_2,.int .i64 a0_3],.agg #[.int .i64 a0_2,.int .i64 a0_3]] (by rfl) rfl rfl ma_ ?_
  with_reducible refine (spec_l2Dot.calls a0_0 a0_1 a0_2 a0_3 a0_2 a0_3 t128 _ A6.out).mono ?_
  rintro e w13 ⟨rfl,hb⟩;refine⟨_,rfl,?_⟩;replace BK124:=vb_ BK124 hb;replace BK125:=vb_ BK125 hb;replace HB:=sb_ HB hb
  (try clear hb)
  (try clear hb2)
  (try clear hk)
  (try clear hi)
  refine hK.out _ _ ⟨bc_,bc_,bc_,bc_,bc_,bc_⟩ (fun hHeld=>?_);clear hK K;refine no_ (h:=?_);refine one_ (i:=21) (N:=some 26) (bm 24 4194303) rfl rfl (one_of HT_.out (by kernel_rfl)) (by decide) (fun K hK=>?_);refine goes_ Tryz.func32 (by kernel_rfl) rfl #[.int .i64 t127,.int .i64 0,.int .i64 t128] (by rfl) rfl rfl ma_ ?_
  with_reducible refine (spec_l6In.calls t127 0 t128 t129 _ A7.out).mono ?_
  rintro e w' ⟨rfl,⟨nd,rfl⟩⟩;refine⟨_,rfl,?_⟩;refine hK.out _ _ ⟨bc_,bc_,bc_,bc_,bc_,bc_⟩ (fun hHeld=>?_);clear hK K;refine no_ (h:=?_);refine pu_ HT_ 22 27 (bm 24 8388607) ?_;refine pu_ HT_ 23 4 (bm 24 16777215) ?_;refine done_ (done_of HT_.out (by kernel_rfl)) ?_
  try go_wp2
  go_ret;exact⟨rr_,hB_⟩
 ·
  rw [if_neg c4] at H;have c4b0:(t126==0)=false:=beq_eq_false_iff_ne.mpr c4;have c4b1:(t126 != 0)=true:=bne_iff_ne.mpr c4;obtain rfl:=Option.some.inj H;go_enter Tryz.func51,Tryz.ntmps51
  try go_wp2_with (first | ((with_reducible refine gate_dst (N:=2) rfl ?_);refine bx_ (N:=2) (cs:=#[.int .i64 a0_0,.int .i64 a0_1,.int .i64 a0_2,.int .i64 a0_3]) (t:=83) (h:=?_);intro gb124 hg w14 hbox hb;have BK124:=a0_ (hbox);have GW124:=gh_ HB hg;have GE124:=gh_ HB hg;replace HB:=sb_ HB hb;clear hb hbox hg) | ((with_reducible refine gate_dst (N:=3) rfl ?_);refine bx_ (N:=3) (cs:=#[.int .i64 a1_0,.int .i64 a1_1]) (t:=70) (h:=?_);intro gb125 hg w15 hbox hb;have BK125:=a0_ (hbox);have GW125:=gh_ HB hg;have GE125:=gh_ HB hg;have NB124_125:=nl_ BK124 hg;have NB125_124:=nr_ BK124 hg;replace BK124:=vb_ BK124 hb;replace HB:=sb_ HB hb;clear hb hbox hg))
  replace BK124:=a0_ (blk_drew BK124.out);replace BK125:=a0_ (blk_drew BK125.out);replace HB:=a0_ (below_drew1 HB.out);refine start_ (n:=24) (S:=fun w'=>w'.cell? ⟨gb124,0,none⟩=some (.int .i64 a0_0)∧w'.cell? ⟨gb124,1,none⟩=some (.int .i64 a0_1)∧w'.cell? ⟨gb124,2,none⟩=some (.int .i64 a0_2)∧w'.cell? ⟨gb124,3,none⟩=some (.int .i64 a0_3)∧w'.cell? ⟨gb125,0,none⟩=some (.int .i64 a1_0)∧w'.cell? ⟨gb125,1,none⟩=some (.int .i64 a1_1)) (ds:=[]) (Array.replicate 24 false) (by kernel_rfl) rfl rfl ⟨bc_,bc_,bc_,bc_,bc_,bc_⟩ (fun hHeld=>?_);refine with_tabW spec_l2Has.tab1 spec_l2Has.bits1 (fun HT_ HW_=>?_);generalize w15.drew=w16 at BK124 BK125 HB hHeld ⊢
  refine pu_ HT_ 0 5 (bm 24 1) ?_;refine pu_ HT_ 2 7 (bm 24 5) ?_;refine ta6_ HT_ HW_ 1 6 (bm 24 7) hHeld ?_;refine ta6_ HT_ HW_ 3 8 (bm 24 15) hHeld ?_;refine ta6_ HT_ HW_ 4 9 (bm 24 31) hHeld ?_;refine one_ (i:=5) (N:=some 10) (bm 24 63) rfl rfl (one_of HT_.out (by kernel_rfl)) (by decide) (fun K hK=>?_);refine goes_ Tryz.func53 (by kernel_rfl) rfl #[.agg #[.int .i64 a0_0,.int .i64 a0_1],.agg #[.int .i64 a0_2,.int .i64 a0_3],.agg #[.int .i64 a1_0,.int .i64 a1_1]] (by rfl) rfl rfl ma_ ?_
  with_reducible refine (spec_l2Cross.calls a0_0 a0_1 a0_2 a0_3 a1_0 a1_1 t126 _ A3.out).mono ?_
  rintro e w17 ⟨rfl,hb⟩;refine⟨_,rfl,?_⟩;replace BK124:=vb_ BK124 hb;replace BK125:=vb_ BK125 hb;replace HB:=sb_ HB hb
  (try clear hb)
  (try clear hb2)
  (try clear hk)
  (try clear hi)
  refine hK.out _ _ ⟨bc_,bc_,bc_,bc_,bc_,bc_⟩ (fun hHeld=>?_);clear hK K;refine no_ (h:=?_);refine pu_ HT_ 6 11 (bm 24 127) ?_;refine pu_ HT_ 7 12 (bm 24 255) ?_;refine pz_ HT_ 8 13 (bm 24 511) ?_;refine pz_ HT_ 9 14 (bm 24 1023) ?_;refine pz_ HT_ 10 15 (bm 24 2047) ?_;refine pz_ HT_ 11 16 (bm 24 4095) ?_;refine pz_ HT_ 12 17 (bm 24 8191) ?_;refine pz_ HT_ 13 18 (bm 24 16383) ?_;refine pz_ HT_ 14 19 (bm 24 32767) ?_;refine pz_ HT_ 15 20 (bm 24 65535) ?_;refine pz_ HT_ 16 21 (bm 24 131071) ?_;refine pz_ HT_ 17 22 (bm 24 262143) ?_;refine pz_ HT_ 18 23 (bm 24 524287) ?_;refine pz_ HT_ 19 24 (bm 24 1048575) ?_;refine pz_ HT_ 20 25 (bm 24 2097151) ?_;refine pz_ HT_ 21 26 (bm 24 4194303) ?_;refine pu_ HT_ 22 27 (bm 24 8388607) ?_;refine pu_ HT_ 23 4 (bm 24 16777215) ?_;refine done_ (done_of HT_.out (by kernel_rfl)) ?_
  try go_wp2
  go_ret;exact⟨rr_,hB_⟩
def spec_l2Sign.f (a0:Int):Option (Int):=if a0<0 then (some (-1)) else (if a0>0 then (some 1) else (some 0))
set_option maxHeartbeats 8000000 in
set_option maxRecDepth 100000 in
theorem spec_l2Sign.calls (a0:Int)(r:Int)(w:World)(h:spec_l2Sign.f a0=some r):
  Calls Tryz.prog 70 #[.int .i64 a0] w fun e w'=>e=.returned (.int .i64 r)∧Drawn0 w w':=by
 have H:(if a0<0 then (some (-1)) else (if a0>0 then (some 1) else (some 0)))=some r:=h;clear h;by_cases c2:a0<0
 ·
  rw [if_pos c2] at H;have c2b0:decide (a0<0)=true:=decide_eq_true c2;clear c2;obtain rfl:=Option.some.inj H;go_enter Tryz.func70,Tryz.ntmps70;go_wp2;go_ret;exact⟨by first | rfl | (simp;done) | (simp [*];done),by repeat (first | exact Drawn0.refl _ | apply Drawn0.step)⟩
 ·
  rw [if_neg c2] at H;have c2b0:decide (a0<0)=false:=decide_eq_false c2;clear c2;by_cases c3:a0>0
  ·
   rw [if_pos c3] at H;have c3b0:decide (0<a0)=true:=decide_eq_true c3;clear c3;obtain rfl:=Option.some.inj H;go_enter Tryz.func70,Tryz.ntmps70;go_wp2;go_ret;exact⟨by first | rfl | (simp;done) | (simp [*];done),by repeat (first | exact Drawn0.refl _ | apply Drawn0.step)⟩
  ·
   rw [if_neg c3] at H;have c3b0:decide (0<a0)=false:=decide_eq_false c3;clear c3;obtain rfl:=Option.some.inj H;go_enter Tryz.func70,Tryz.ntmps70;go_wp2;go_ret;exact⟨by first | rfl | (simp;done) | (simp [*];done),by repeat (first | exact Drawn0.refl _ | apply Drawn0.step)⟩
end Go.Proofs.YtailkppkjhkjpaaGreatDoor.X
end
section
set_option linter.unusedVariables false
set_option linter.unusedSimpArgs false
namespace Go.Proofs.YtailkppkjhkjpaaGreatDoor.X
open Go.RowKit Go.Proofs.YtailkppkjhkjpaaGreatDoorW.PrintWords Go.Proofs.YtailkppkjhkjpaaGreatDoorW.PrintLast Go.Proofs.YtailkppkjhkjpaaGreatDoorW.PrintMore
open Mort
theorem iPtOk (x y:Int):impl_PtOk.f x y=some (ptOk (x,y)):=by
 unfold impl_PtOk.f ptOk;by_cases h1:0≤x <;> by_cases h2:x≤9 <;> by_cases h3:0≤y <;> by_cases h4:y≤9 <;> simp [h1,h2,h3,h4]
theorem sPtOk (x y:Int):spec_PtOk.f x y=some (ptOk (x,y)):=by
 unfold spec_PtOk.f ptOk;simp only [l6In_told,Option.bind_some];by_cases h1:0≤x <;> by_cases h2:x≤9 <;> by_cases h3:0≤y <;> by_cases h4:y≤9 <;> simp [h1,h2,h3,h4]
theorem iSegOk (a b c d:Int):impl_SegOk.f a b c d=some (segOk ((a,b),(c,d))):=by
 unfold impl_SegOk.f segOk;simp only [iPtOk,Option.bind_some];cases ptOk (a,b) <;> cases ptOk (c,d) <;> simp [Bool.not_and]
theorem sSegOk (a b c d:Int):spec_SegOk.f a b c d=some (segOk ((a,b),(c,d))):=by
 unfold spec_SegOk.f segOk;simp only [sPtOk,Option.bind_some];cases ptOk (a,b) <;> cases ptOk (c,d) <;> simp [Bool.not_and]
section
variable {a b c d e f:Int} (h1:ptOk (a,b)=true) (h2:ptOk (c,d)=true) (h3:ptOk (e,f)=true)
include h1 h2 h3
theorem cross_nowrap:wrap64 ((wrap64 ((wrap64 (c-a))*(wrap64 (f-b))))-(wrap64 ((wrap64 (d-b))*(wrap64 (e-a)))))=cross (a,b) (c,d) (e,f):=by
 rw [ptOk_iff] at h1 h2 h3;simp only at h1 h2 h3;rw [w64 (x:=c-a) (by omega) (by omega),w64 (x:=f-b) (by omega) (by omega),w64 (x:=d-b) (by omega) (by omega),w64 (x:=e-a) (by omega) (by omega)];have b1:=mul_bound (x:=c-a) (y:=f-b) (by omega) (by omega) (by omega) (by omega);have b2:=mul_bound (x:=d-b) (y:=e-a) (by omega) (by omega) (by omega) (by omega);rw [w64 (x:=(c-a)*(f-b)) (by omega) (by omega),w64 (x:=(d-b)*(e-a)) (by omega) (by omega),w64 (by omega) (by omega)];rfl
theorem dot_nowrap:wrap64 ((wrap64 ((wrap64 (c-a))*(wrap64 (e-a))))+(wrap64 ((wrap64 (d-b))*(wrap64 (f-b)))))=dot (a,b) (c,d) (e,f):=by
 rw [ptOk_iff] at h1 h2 h3;simp only at h1 h2 h3;rw [w64 (x:=c-a) (by omega) (by omega),w64 (x:=f-b) (by omega) (by omega),w64 (x:=d-b) (by omega) (by omega),w64 (x:=e-a) (by omega) (by omega)];have b1:=mul_bound (x:=c-a) (y:=e-a) (by omega) (by omega) (by omega) (by omega);have b2:=mul_bound (x:=d-b) (y:=f-b) (by omega) (by omega) (by omega) (by omega);rw [w64 (x:=(c-a)*(e-a)) (by omega) (by omega),w64 (x:=(d-b)*(f-b)) (by omega) (by omega),w64 (by omega) (by omega)];rfl
theorem iCross:impl_cross.f a b c d e f=some (cross (a,b) (c,d) (e,f)):=congrArg some (cross_nowrap h1 h2 h3)
theorem iAlong:impl_along.f a b c d e f=some (dot (a,b) (c,d) (e,f)):=congrArg some (dot_nowrap h1 h2 h3)
theorem sCross:spec_l2Cross.f a b c d e f=some (cross (a,b) (c,d) (e,f)):=congrArg some (cross_nowrap h1 h2 h3)
theorem sDot:spec_l2Dot.f a b c d e f=some (dot (a,b) (c,d) (e,f)):=congrArg some (dot_nowrap h1 h2 h3)
end
theorem iBetween {a b c d:Int}(h1:ptOk (a,b)=true)(h2:ptOk (c,d)=true):impl_between.f a b c d=some (dot (a,b) (c,d) (c,d)):=by
 unfold impl_between.f;rw [iAlong h1 h2 h2];rfl
theorem segOk_ends {a b c d:Int}(h:segOk ((a,b),(c,d))=true):ptOk (a,b)=true∧ptOk (c,d)=true:=⟨((segOk_iff _).1 h).1,((segOk_iff _).1 h).2.1⟩
theorem iSegHas {k:Nat}(hk:1≤k)(a b c d e f:Int):impl_SegHas.f k a b c d e f=some (segHas ((a,b),(c,d)) (e,f)):=by
 obtain⟨k,rfl⟩:∃ m,k=m+1:=⟨k-1,by omega⟩;unfold impl_SegHas.f segHas has;simp only [impl_SegHas.j0,iSegOk,iPtOk,Option.bind_some]
 cases hs:segOk ((a,b),(c,d)) with
 | false=>simp
 | true =>
  cases hp:ptOk (e,f) with
  | false=>simp
  | true =>
   obtain⟨o1,o2⟩:=segOk_ends hs;simp only [if_true,iCross o1 o2 hp,iAlong o1 o2 hp,iBetween o1 o2,Option.bind_some];by_cases z:cross (a,b) (c,d) (e,f)=0
   ·
    simp only [z,bne_self_eq_false,Bool.false_eq_true,if_false,beq_self_eq_true,Bool.true_and];by_cases z1:0≤dot (a,b) (c,d) (e,f)
    ·
     rw [if_pos z1,decide_eq_true z1];rfl
    ·
     rw [if_neg z1,decide_eq_false z1];rfl
   ·
    rw [bne_iff_ne.mpr z,beq_eq_false_iff_ne.mpr z];rfl
theorem iSegTurn {k:Nat}(hk:1≤k)(a b c d e f:Int):impl_SegTurn.f k a b c d e f=some (segTurn (a,b) (c,d) (e,f)):=by
 obtain⟨k,rfl⟩:∃ m,k=m+1:=⟨k-1,by omega⟩;unfold impl_SegTurn.f segTurn;simp only [impl_SegTurn.j0,iPtOk,Option.bind_some]
 cases h1:ptOk (a,b) with
 | false=>simp
 | true =>
  cases h2:ptOk (c,d) with
  | false=>simp
  | true =>
   cases h3:ptOk (e,f) with
   | false=>simp
   | true =>
    simp only [if_true,Bool.not_true,Bool.false_eq_true,if_false,iCross h1 h2 h3,Option.bind_some,Bool.and_self];unfold sgn;by_cases z:cross (a,b) (c,d) (e,f)>0
    ·
     rw [if_pos z,if_neg (by omega),if_pos z]
    ·
     rw [if_neg z];by_cases z':cross (a,b) (c,d) (e,f)<0
     ·
      rw [if_pos z',if_pos z']
     ·
      rw [if_neg z',if_neg z',if_neg z]
theorem sgn_in (n:Int): -1≤sgn n∧sgn n≤1:=by unfold sgn;split <;> (try split) <;> omega
theorem turn_mul (x y:Int):wrap64 (sgn x*sgn y)=sgn x*sgn y:=by
 have h1:=sgn_in x;have h2:=sgn_in y;have h3:=mul_bound (x:=sgn x) (y:=sgn y) (by omega) (by omega) (by omega) (by omega);exact w64 (by omega) (by omega)
theorem iSegMeet {k:Nat}(hk:3≤k)(a b c d e f g h:Int):impl_SegMeet.f k a b c d e f g h=some (segMeet ((a,b),(c,d)) ((e,f),(g,h))):=by
 obtain⟨k,rfl⟩:∃ m,k=m+1+1:=⟨k-2,by omega⟩;unfold impl_SegMeet.f segMeet;simp only [impl_SegMeet.j0,iSegOk,Option.bind_some]
 cases hs:segOk ((a,b),(c,d)) with
 | false=>simp
 | true =>
  cases ht:segOk ((e,f),(g,h)) with
  | false=>simp
  | true =>
   obtain⟨o1,o2⟩:=segOk_ends hs;obtain⟨o3,o4⟩:=segOk_ends ht;simp only [if_true,Bool.not_true,Bool.false_eq_true,if_false,Bool.true_and];simp only [iSegHas (show 1≤k+1 by omega),iSegTurn (show 1≤k by omega),impl_SegMeet.j1,Option.bind_some,if_true];unfold segHas segTurn meet;simp only [hs,ht,o1,o2,o3,o4,Bool.true_and,Bool.and_self,if_true,turn_mul];cases has ((a,b),(c,d)) (e,f) <;> simp
   cases has ((a,b),(c,d)) (g,h) <;> simp
   cases has ((e,f),(g,h)) (a,b) <;> simp
   cases has ((e,f),(g,h)) (c,d) <;> simp
   by_cases z:sgn (cross (a,b) (c,d) (e,f))*sgn (cross (a,b) (c,d) (g,h))<0
   ·
    simp [z]
   ·
    simp [z]
theorem sSign (n:Int):spec_l2Sign.f n=some (sgn n):=by
 unfold spec_l2Sign.f sgn
 split
 ·
  rfl
 ·
  split <;> rfl
theorem sHas {a b c d e f:Int}(h1:ptOk (a,b)=true)(h2:ptOk (c,d)=true)(h3:ptOk (e,f)=true):spec_l2Has.f a b c d e f=some (has ((a,b),(c,d)) (e,f)):=by
 unfold spec_l2Has.f has;simp only [sCross h1 h2 h3,sDot h1 h2 h3,sDot h1 h2 h2,l6In_told,Option.bind_some];by_cases z:cross (a,b) (c,d) (e,f)=0
 ·
  simp [z]
 ·
  rw [if_neg z,beq_eq_false_iff_ne.mpr z];rfl
end Go.Proofs.YtailkppkjhkjpaaGreatDoor.X
end
section
namespace Go.Proofs.YtailkppkjhkjpaaGreatDoor.X
open Go.RowKit Go.Proofs.YtailkppkjhkjpaaGreatDoorW.PrintWords Go.Proofs.YtailkppkjhkjpaaGreatDoorW.PrintLast Go.Proofs.YtailkppkjhkjpaaGreatDoorW.PrintMore
attribute [local go_sem] max2_int min2_int max_two min_two max_three min_three max_four min_four
set_option linter.unusedVariables false
set_option linter.unusedSimpArgs false
def impl_joined.f (k:Nat)(a0_0:Int)(a0_1:Int)(a0_2:Int)(a0_3:Int)(a1_0:Int)(a1_1:Int)(a1_2:Int)(a1_3:Int):Option (Bool):=(impl_SegHas.f k a0_0 a0_1 a0_2 a0_3 a1_2 a1_3).bind fun t441=>(if t441=true then (some false) else ((impl_SegHas.f k a1_0 a1_1 a1_2 a1_3 a0_0 a0_1).bind fun t442=>(some (!t442))))
set_option maxHeartbeats 8000000 in
set_option maxRecDepth 100000 in
theorem impl_joined.calls (k:Nat)(a0_0:Int)(a0_1:Int)(a0_2:Int)(a0_3:Int)(a1_0:Int)(a1_1:Int)(a1_2:Int)(a1_3:Int)(r:Bool)(w:World)(h:impl_joined.f k a0_0 a0_1 a0_2 a0_3 a1_0 a1_1 a1_2 a1_3=some r):
  Calls Tryz.prog 59 #[.agg #[.int .i64 a0_0,.int .i64 a0_1,.int .i64 a0_2,.int .i64 a0_3],.agg #[.int .i64 a1_0,.int .i64 a1_1,.int .i64 a1_2,.int .i64 a1_3]] w fun e w'=>e=.returned (.bool r)∧Below w.heap.size w w':=by
 have hu83:=Tryz.underlying83;have hu70:=Tryz.underlying70;have HB:=a0_ (Below.refl w.heap.size w);have H:((impl_SegHas.f k a0_0 a0_1 a0_2 a0_3 a1_2 a1_3).bind fun t441=>(if t441=true then (some false) else ((impl_SegHas.f k a1_0 a1_1 a1_2 a1_3 a0_0 a0_1).bind fun t442=>(some (!t442)))))=some r:=h;clear h;replace H:=Option.bind_eq_some_iff.mp H;obtain⟨t441,A30,H⟩:=H
 (try dsimp only at H)
 have A3:=Aside0.mk A30;clear A30;by_cases c4:t441=true
 ·
  subst c4;rw [if_pos rfl] at H
  (try dsimp only at H)
  obtain rfl:=Option.some.inj H;go_enter Tryz.func59,Tryz.ntmps59;go_wp2_with (first | ((with_reducible refine gate_dst (N:=2) rfl ?_);refine bx_ (N:=2) (cs:=#[.int .i64 a0_0,.int .i64 a0_1,.int .i64 a0_2,.int .i64 a0_3]) (t:=83) (h:=?_);intro gb439 hg w5 hbox hb;have BK439:=a0_ (hbox);have GW439:=gh_ HB hg;have GE439:=gh_ HB hg;replace HB:=sb_ HB hb;clear hb hbox hg) | ((with_reducible refine gate_dst (N:=3) rfl ?_);refine bx_ (N:=3) (cs:=#[.int .i64 a1_0,.int .i64 a1_1,.int .i64 a1_2,.int .i64 a1_3]) (t:=83) (h:=?_);intro gb440 hg w6 hbox hb;have BK440:=a0_ (hbox);have GW440:=gh_ HB hg;have GE440:=gh_ HB hg;have NB439_440:=nl_ BK439 hg;have NB440_439:=nr_ BK439 hg;replace BK439:=vb_ BK439 hb;replace HB:=sb_ HB hb;clear hb hbox hg;have hnb7:=NB439_440.out;have hnc7:=NB440_439.out;have hcz8_0:=c40_ BK439;have hcz8_1:=c41_ BK439;have hcz8_2:=c42_ BK439;have hcz8_3:=c43_ BK439;have hfz8_0:=fz_ BK439 0;have hfz8_1:=fz_ BK439 1;have hfz8_2:=fz_ BK439 2;have hfz8_3:=fz_ BK439 3;have hcz9_0:=c40_ BK440;have hcz9_1:=c41_ BK440;have hcz9_2:=c42_ BK440;have hcz9_3:=c43_ BK440;have hfz9_0:=fz_ BK440 0;have hfz9_1:=fz_ BK440 1;have hfz9_2:=fz_ BK440 2;have hfz9_3:=fz_ BK440 3) | ((with_reducible refine gate_callee (f:=76) rfl ?_);refine gL_ (some 8) Tryz.func76 #[.agg #[.int .i64 a0_0,.int .i64 a0_1,.int .i64 a0_2,.int .i64 a0_3],.agg #[.int .i64 a1_2,.int .i64 a1_3]] (h:=?_);(with_reducible refine (impl_SegHas.calls k a0_0 a0_1 a0_2 a0_3 a1_2 a1_3 true _ A3.out).mono ?_);rintro e w10 ⟨rfl,hb⟩;refine⟨_,rfl,?_⟩;replace BK439:=vb_ BK439 hb;replace BK440:=vb_ BK440 hb;replace HB:=sb_ HB hb;(try clear hb)));go_ret;exact⟨rr_,hB_⟩
 ·
  replace c4:=Bool.eq_false_iff.mpr c4;subst c4;rw [if_neg (show ¬ (false=true) by decide)] at H
  (try dsimp only at H)
  replace H:=Option.bind_eq_some_iff.mp H;obtain⟨t442,A110,H⟩:=H
  (try dsimp only at H)
  have A11:=Aside0.mk A110;clear A110;obtain rfl:=Option.some.inj H;go_enter Tryz.func59,Tryz.ntmps59
  go_wp2_with (first | ((with_reducible refine gate_dst (N:=2) rfl ?_);refine bx_ (N:=2) (cs:=#[.int .i64 a0_0,.int .i64 a0_1,.int .i64 a0_2,.int .i64 a0_3]) (t:=83) (h:=?_);intro gb439 hg w12 hbox hb;have BK439:=a0_ (hbox);have GW439:=gh_ HB hg;have GE439:=gh_ HB hg;replace HB:=sb_ HB hb;clear hb hbox hg) | ((with_reducible refine gate_dst (N:=3) rfl ?_);refine bx_ (N:=3) (cs:=#[.int .i64 a1_0,.int .i64 a1_1,.int .i64 a1_2,.int .i64 a1_3]) (t:=83) (h:=?_);intro gb440 hg w13 hbox hb;have BK440:=a0_ (hbox);have GW440:=gh_ HB hg;have GE440:=gh_ HB hg;have NB439_440:=nl_ BK439 hg;have NB440_439:=nr_ BK439 hg;replace BK439:=vb_ BK439 hb;replace HB:=sb_ HB hb;clear hb hbox hg;have hnb14:=NB439_440.out;have hnc14:=NB440_439.out;have hcz15_0:=c40_ BK439;have hcz15_1:=c41_ BK439;have hcz15_2:=c42_ BK439;have hcz15_3:=c43_ BK439;have hfz15_0:=fz_ BK439 0;have hfz15_1:=fz_ BK439 1;have hfz15_2:=fz_ BK439 2;have hfz15_3:=fz_ BK439 3;have hcz16_0:=c40_ BK440;have hcz16_1:=c41_ BK440;have hcz16_2:=c42_ BK440;have hcz16_3:=c43_ BK440;have hfz16_0:=fz_ BK440 0;have hfz16_1:=fz_ BK440 1;have hfz16_2:=fz_ BK440 2;have hfz16_3:=fz_ BK440 3) | ((with_reducible refine gate_callee (f:=76) rfl ?_);refine gL_ (some 8) Tryz.func76 #[.agg #[.int .i64 a0_0,.int .i64 a0_1,.int .i64 a0_2,.int .i64 a0_3],.agg #[.int .i64 a1_2,.int .i64 a1_3]] (h:=?_);(with_reducible refine (impl_SegHas.calls k a0_0 a0_1 a0_2 a0_3 a1_2 a1_3 false _ A3.out).mono ?_);rintro e w17 ⟨rfl,hb⟩;refine⟨_,rfl,?_⟩;replace BK439:=vb_ BK439 hb;replace BK440:=vb_ BK440 hb;replace HB:=sb_ HB hb;(try clear hb);have hcz18_0:=c40_ BK440;have hcz18_1:=c41_ BK440;have hcz18_2:=c42_ BK440;have hcz18_3:=c43_ BK440;have hfz18_0:=fz_ BK440 0;have hfz18_1:=fz_ BK440 1;have hfz18_2:=fz_ BK440 2;have hfz18_3:=fz_ BK440 3;have hcz19_0:=c40_ BK439;have hcz19_1:=c41_ BK439;have hcz19_2:=c42_ BK439;have hcz19_3:=c43_ BK439;have hfz19_0:=fz_ BK439 0;have hfz19_1:=fz_ BK439 1;have hfz19_2:=fz_ BK439 2;have hfz19_3:=fz_ BK439 3) | (go_at_call 76;(with_reducible refine (impl_SegHas.calls k a1_0 a1_1 a1_2 a1_3 a0_0 a0_1 t442 _ A11.out).mono ?_);rintro e w20 ⟨rfl,hb⟩;replace BK439:=vb_ BK439 hb;replace BK440:=vb_ BK440 hb;replace HB:=sb_ HB hb;(try clear hb)))
  go_ret;exact⟨rr_,hB_⟩
end Go.Proofs.YtailkppkjhkjpaaGreatDoor.X
end
section
set_option linter.unusedVariables false
set_option linter.unusedSimpArgs false
namespace Go.Proofs.YtailkppkjhkjpaaGreatDoor.X
open Go.RowKit Go.Shelf Go.Proofs.YtailkppkjhkjpaaGreatDoorW.PrintWords Go.Proofs.YtailkppkjhkjpaaGreatDoorW.PrintLast Go.Proofs.YtailkppkjhkjpaaGreatDoorW.PrintMore
open Mort (edges loopOk pairOk ed segOk meet joined ptOk)
attribute [local go_sem] Oper.semAt_some
def mark (D:Nat):Deferred:={ target:=.collected D,args:=#[] }
theorem leavesM_marks {n:Nat}{fn:Func}{tmps:Array Value}{R:Ending→World→Prop}:∀ (Ds:List Nat) (w:World),Ds.Nodup→(∀ D∈Ds,w.heap[D]?=some (.deferred (some []))) →
  (∀ w',(∀ k,k ∉ Ds→w'.heap[k]?=w.heap[k]?)→w'.heap.size=w.heap.size→w'.os=w.os→w'.tape=w.tape→w'.output=w.output→LeavesIn Fence.wide n Tryz.prog fn tmps R [] .returning w') →
  LeavesInM Fence.wide n Tryz.prog fn tmps R (Ds.map mark) .returning w
 | [],w,_,_,h=>h w (fun _ _=>rfl) rfl rfl rfl rfl
 | D::Ds,w,hn,hD,h=>by
  have hK:=hD D List.mem_cons_self;have hlt:D<w.heap.size:=(Array.getElem?_eq_some_iff.1 hK).1;refine⟨by simp,.inl ⟨D,_,rfl,run_takeDeferred hK,?_⟩⟩;rw [List.nodup_cons] at hn;refine leavesM_marks Ds _ hn.2 (fun E hE=>?_) (fun w' h1 h2 h3 h4 h5=>h w' (fun k hk=>?_) ?_ h3 h4 h5)
  ·
   rw [World.putObj_heap_other (by rintro rfl;exact hn.1 hE)];exact hD E (List.mem_cons_of_mem _ hE)
  ·
   rw [h1 k (fun e=>hk (List.mem_cons_of_mem _ e)),World.putObj_heap_other (by rintro rfl;exact hk List.mem_cons_self)]
  ·
   rw [h2];simp [World.putObj]
theorem edges_in (n:Nat)(A:Option Addr)(len c:Nat)(w:World):
  CallsIn Fence.wide n Tryz.prog 43 #[.slice A len c] w fun e w'=>e=.returned (.func (.func 63) #[] #[.pointer (some ⟨w.heap.size,0,none⟩)])∧w'=w.alloc (.cells #[.slice A len c] 24):=by
 refine callsIn_of_wp Tryz.func43 rfl trivial ?_ rfl;simp only [Tryz.ntmps43,List.size_toArray,List.length_cons,List.length_nil,Nat.reduceAdd,Nat.reduceSub,Array.replicate_succ,Array.replicate_zero,List.push_toArray,List.append_toArray,List.nil_append,List.cons_append];gi_wp2;go_ret;exact⟨rfl,rfl⟩
theorem grown_none {A B:World}(h:Below A.heap.size A B):A.grownBy B none:=⟨h.os,h.tape,h.output,h.size,fun k hk _=>h.block k hk⟩
abbrev encE (zs:List S70) (i:Fin zs.length):Array Value:=#[.int .i64 ((i:Nat):Int),edV (edS zs i)]
theorem edges_stops (n:Nat)(hn:1≤n)(Bs n₀:Nat)(A:Option Addr)(c:Nat)(zs:List S70)(hreach:zs.length≤1000000)(hAb:∀ ad,A=some ad→ad.block<n₀)
  (w:World) (hBs:Bs<w.heap.size) (hn₀:n₀≤w.heap.size) (hc:w.cell? ⟨Bs,0,none⟩=some (.slice A zs.length c)) (hC:Kd.C k70 w A zs.length zs) :
  SeqStopsK Fence.wide n Tryz.prog 63 #[.pointer (some ⟨Bs,0,none⟩)] (encE zs) (KpE n₀ Bs) (fun ys=>ys=List.finRange zs.length)
   (fun pre=>∃ k,k≤zs.length∧pre=(List.finRange zs.length).take k) zs.length w:=fun l J Jx W hW hJ _ hY h0=>by
 have take_succ:∀ k (hk:k<zs.length),(List.finRange zs.length).take (k+1)=(List.finRange zs.length).take k++[⟨k,hk⟩]:=fun k hk=>by
  rw [List.take_succ_eq_append_getElem (by simpa using hk)];simp
 refine (edges1_in n hn l Bs n₀ A c zs hreach hAb (fun k W=>J ((List.finRange zs.length).take k) W) (fun k W=>Jx ((List.finRange zs.length).take k) W)
  (fun k X Y hj hb=>hJ _ X Y none hj (grown_none hb) (fun r e=>by cases e)) (fun k X hk hj=>?_) W (Nat.lt_of_lt_of_le hBs hW.size) (Nat.le_trans hn₀ hW.size)
  ((hW.cell (p:=⟨Bs,0,none⟩) hBs).trans hc) (Kd.C_below hC hW) (by simpa using h0)).mono ?_
 ·
  rw [take_succ k hk];exact hY _ ⟨k,hk⟩ X hj (by simp;omega)
 ·
  rintro e W' ⟨he,hj | ⟨k,hk,hj⟩⟩
  ·
   exact⟨he,.inl ⟨_,rfl,by rwa [List.take_of_length_le (by simp)] at hj⟩⟩
  ·
   exact⟨he,.inr ⟨_,⟨k,hk,rfl⟩,hj⟩⟩
theorem blk_own {β:Type}(B:Nat)(o:β→Obj)(hc:∀ s,(o s).isCells=true):Own (fun s W=>W.heap[B]?=some (o s)):=fun s X Y row hs hg hrow =>
 (hg.block B (Array.getElem?_eq_some_iff.1 hs).1 (fun e=>by obtain⟨o',ho,h'⟩:=hrow B e.symm;rw [hs] at ho;cases ho;rw [hc] at h';cases h')).trans hs
def ptP (x:S70):Mort.Pt:=(x.f0,x.f1)
def sgP (x:S83):Mort.Seg:=(ptP x.f0,ptP x.f1)
theorem ptP_getD (zs:List S70)(j:Nat):(zs.map ptP).getD j (0,0)=ptP (zs.getD j z70):=by
 rw [List.getD_eq_getElem?_getD,List.getD_eq_getElem?_getD,List.getElem?_map];cases zs[j]? <;> rfl
theorem ed_edS (zs:List S70)(j:Nat):ed (zs.map ptP) j=sgP (edS zs j):=by
 unfold ed edS sgP;rw [ptP_getD,ptP_getD,List.length_map]
theorem keeps_below {B:Nat}{W W':World}(h:Below W.heap.size W W'):KeepsFrom B W W':=
 ⟨h.size,fun k o _ hk _=>(h.block k (Array.getElem?_eq_some_iff.1 hk).1).trans hk⟩
theorem box_later {W W':World}{B:Nat}{t:TypeId}{v:Value}(h:Boxed W B t v)(hb:Below W.heap.size W W'):Boxed W' B t v:=(hb.block B h.lt).trans h
theorem below_row {n₀:Nat}{w W W':World}(h:Below n₀ w W)(hn:n₀≤w.heap.size)(hb:Below W.heap.size W W'):Below n₀ w W':=h.trans (hb.mono (Nat.le_trans hn h.size))
theorem row_lt {w:World}{A:Option Addr}{zs:List S70}(hC:Kd.C k70 w A zs.length zs)(hz:0<zs.length):∀ ad,A=some ad→ad.block<w.heap.size:=fun ad e=>by
 obtain⟨ad',e',h0,_⟩:=at_pt hC 0 hz;rw [e] at e';cases e';have:=World.block_lt_of_cell? w _ h0
 rwa [blk_add] at this
def segObj (x:S83):Obj:=.cells #[.int .i64 x.f0.f0,.int .i64 x.f0.f1,.int .i64 x.f1.f0,.int .i64 x.f1.f1] 83 (0,0)
theorem segObj_own (B:Nat)(x:S83):Own (fun (_:Unit) W=>W.heap[B]?=some (segObj x)):=blk_own B (fun _=>segObj x) (fun _=>rfl)
theorem blk_later {W w1:World}{D:Nat}{o:Obj}(h:W.heap[D]?=some o)(hb:Below W.heap.size W w1):w1.heap[D]?=some o:=(hb.block D (Array.getElem?_eq_some_iff.1 h).1).trans h
theorem blk_alloc' {W:World}{D:Nat}{o:Obj}(h:W.heap[D]?=some o)(o':Obj):(W.alloc o').heap[D]?=some o:=(Below.heap_alloc W o' D (Array.getElem?_eq_some_iff.1 h).1).trans h
theorem blk_set {W:World}{D:Nat}{o:Obj}(h:W.heap[D]?=some o)(hc:o.isCells=false){B:Nat}{t:TypeId}{v:Value}(hb:Boxed W B t v)(u:Value):(W.setCell ⟨B,0,none⟩ u).heap[D]?=some o:=
 (Below.heap_setCell W ⟨B,0,none⟩ u D (by rintro rfl;have e:=h.symm.trans hb;cases e;cases hc)).trans h
theorem ownFrom_blk {β:Type}{B D:Nat}{o:Obj}(hD:D<B):OwnFrom B (fun (_:β) W=>W.heap[D]?=some o):=fun _ X Y row hs hg hr =>
 (hg.block D (Array.getElem?_eq_some_iff.1 hs).1 (fun e=>by have:=(hr D e.symm).1;omega)).trans hs
theorem ownFrom_kpE {β:Type}{n₀ Bs B:Nat}{w₀:World}(hB:w₀.heap.size≤B):OwnFrom B (fun (_:β) W=>KpE n₀ Bs w₀ W):=fun _ X Y row hs hg hr =>
 ⟨Nat.le_trans hs.1 hg.size,fun k hk hl=>(hg.block k (Nat.lt_of_lt_of_le hl hs.1) (fun e=>by have:=(hr k e.symm).1;omega)).trans (hs.2 k hk hl)⟩
theorem marks_boxed {W w':World}{Ds:List Nat}{B:Nat}{t:TypeId}{v:Value}(h:Boxed W B t v)(hD:∀ D∈Ds,W.heap[D]?=some (.deferred (some [])))(h1:∀ k,k ∉ Ds→w'.heap[k]?=W.heap[k]?):Boxed w' B t v:=
 (h1 B (fun e=>by have:=(hD B e).symm.trans h;cases this)).trans h
theorem marks_below {n₀:Nat}{w W w':World}{Ds:List Nat}(hB:Below n₀ w W)(hD:∀ D∈Ds,n₀≤D)(h1:∀ k,k ∉ Ds→w'.heap[k]?=W.heap[k]?)(h2:w'.heap.size=W.heap.size)(h3:w'.os=W.os)(h4:w'.tape=W.tape)(h5:w'.output=W.output):Below n₀ w w':=
 hB.trans ⟨h3,h4,h5,by omega,fun k hk=>h1 k (fun e=>by have:=hD k e;omega)⟩
theorem below_step_ {W w1 w2:World}(h:Below W.heap.size W w1)(k:Below w1.heap.size w1 w2):Below W.heap.size W w2:=h.trans (k.mono h.size)
theorem box_other {W:World}{B B':Nat}{t:TypeId}{v:Value}(h:Boxed W B t v)(hne:B≠B')(u:Value):Boxed (W.setCell ⟨B',0,none⟩ u) B t v:=Boxed.other h hne u
theorem blk_other {W:World}{D B':Nat}{o:Obj}(h:W.heap[D]?=some o)(hne:D≠B')(u:Value):(W.setCell ⟨B',0,none⟩ u).heap[D]?=some o:=(Below.heap_setCell W ⟨B',0,none⟩ u D hne).trans h
end Go.Proofs.YtailkppkjhkjpaaGreatDoor.X
end
section
set_option linter.unusedVariables false
set_option linter.unusedSimpArgs false
namespace Go.Proofs.YtailkppkjhkjpaaGreatDoor.X
open Go.RowKit Go.Shelf Go.Proofs.YtailkppkjhkjpaaGreatDoorW.PrintWords Go.Proofs.YtailkppkjhkjpaaGreatDoorW.PrintLast Go.Proofs.YtailkppkjhkjpaaGreatDoorW.PrintMore
open Mort (edges segMeet)
attribute [local go_sem] Oper.semAt_some
structure RingAt (W:World) (b:Nat) (A:Option Addr) (c:Nat) (zs:List S70) (nx:Option Addr):Prop where
 pts:W.cell? ⟨b,0,none⟩=some (.slice A zs.length c)
 nxt:W.cell? ⟨b,1,none⟩=some (.pointer nx)
 row:Kd.C k70 W A zs.length zs
 cap:zs.length≤c
theorem RingAt.later {W W':World}{b c:Nat}{A nx:Option Addr}{zs:List S70}(h:RingAt W b A c zs nx)(hb:Below W.heap.size W W'):RingAt W' b A c zs nx:=
 ⟨pw_cell_below hb h.pts,pw_cell_below hb h.nxt,Kd.C_below h.row hb,h.cap⟩
theorem RingAt.alloc {W:World}{b c:Nat}{A nx:Option Addr}{zs:List S70}(h:RingAt W b A c zs nx)(o:Obj):RingAt (W.alloc o) b A c zs nx:=h.later (below_alloc (Below.refl _ W) o)
theorem RingAt.lt {W:World}{b c:Nat}{A nx:Option Addr}{zs:List S70}(h:RingAt W b A c zs nx):b<W.heap.size:=World.block_lt_of_cell? W _ h.pts
def meetsB (zs ys:List S70):Bool:=(List.finRange zs.length).any fun i=>(List.finRange ys.length).any fun j=>segMeet (sgP (edS zs i)) (sgP (edS ys j))
set_option maxHeartbeats 4000000 in
set_option maxRecDepth 100000 in
theorem meets_calls (b1 b2:Nat)(A1 A2 n1 n2:Option Addr)(c1 c2:Nat)(zs ys:List S70)(r:Bool)(w:World)(h1:RingAt w b1 A1 c1 zs n1)(h2:RingAt w b2 A2 c2 ys n2)(hl1:0<zs.length∧zs.length≤8)(hl2:0<ys.length∧ys.length≤8)(h:meetsB zs ys=r):
  Calls Tryz.prog 61 #[.pointer (some ⟨b1,0,none⟩),.pointer (some ⟨b2,0,none⟩)] w fun e w'=>e=.returned (.bool r)∧Below w.heap.size w w':=by
 have hR:=Aside0.mk h;clear h;have hu61:=Tryz.underlying83;obtain⟨p1,_,k1,_⟩:=h1;refine (callsIn_wide (n:=9)).1 ?_;refine callsIn_of_wp_marks Tryz.func61 rfl trivial ?_ rfl;simp only [Tryz.ntmps61,List.size_toArray,List.length_cons,List.length_nil,Nat.reduceAdd,Nat.reduceSub,Array.replicate_succ,Array.replicate_zero,List.push_toArray,List.append_toArray,List.nil_append,List.cons_append];have hAb1:=row_lt k1 hl1.1;have hAb2:=row_lt h2.row hl2.1;have q1:((w.alloc (.cells #[.pointer (some ⟨b2,0,none⟩)] 53)).alloc (.cells #[.bool false] 4)).cell? ⟨b1,0,none⟩=some (.slice A1 zs.length c1):=pw_cell_below (below_alloc (below_alloc (Below.refl _ w) _) _) p1;gi_wp2_with (refine⟨trivial,?_⟩;gi_at_call 43;refine (edges_in _ _ _ _ _).mono ?_;rintro e w' ⟨rfl,rfl⟩);have bO:=((Boxed.new w 53 (.pointer (some ⟨b2,0,none⟩))).alloc (.cells #[.bool false] 4)).alloc (.cells #[.slice A1 zs.length c1] 24);have bR:=(Boxed.new (w.alloc (.cells #[.pointer (some ⟨b2,0,none⟩)] 53)) 4 (.bool false)).alloc (.cells #[.slice A1 zs.length c1] 24);have bC:=Boxed.new ((w.alloc (.cells #[.pointer (some ⟨b2,0,none⟩)] 53)).alloc (.cells #[.bool false] 4)) 24 (.slice A1 zs.length c1);simp only [World.size_alloc] at bR bC;have hB0:Below w.heap.size w (((w.alloc (.cells #[.pointer (some ⟨b2,0,none⟩)] 53)).alloc (.cells #[.bool false] 4)).alloc (.cells #[.slice A1 zs.length c1] 24)):=below_alloc (below_alloc (below_alloc (Below.refl _ w) _) _) _;have hsz:(((w.alloc (.cells #[.pointer (some ⟨b2,0,none⟩)] 53)).alloc (.cells #[.bool false] 4)).alloc (.cells #[.slice A1 zs.length c1] 24)).heap.size=w.heap.size+3:=by simp
 obtain⟨W0,hW0⟩:∃ W0,((w.alloc (.cells #[.pointer (some ⟨b2,0,none⟩)] 53)).alloc (.cells #[.bool false] 4)).alloc (.cells #[.slice A1 zs.length c1] 24)=W0:=⟨_,rfl⟩;rw [hW0] at bO bR bC hB0 hsz ⊢
 clear hW0 q1;refine wpIn_rangeFunc_ownH rfl (by omega) (gf:=63) (lb:=#[.pointer (some ⟨w.heap.size+1+1,0,none⟩)]) rfl trivial (enters_of Tryz.func63 (by kernel_rfl) rfl)
  (edges_stops 8 (by omega) (w.heap.size+1+1) w.heap.size A1 c1 zs (by omega) hAb1 W0 (by omega) (by omega) bC.cell (Kd.C_below k1 hB0)) (fun h k=>KpE.trans h k) (fun W l o o' hl _ _ _=>KpE.putObj W l o' (by omega) (by omega)) (Below.refl _ _) (fun _=>rfl)
  (fun pre W=>(((∀ x∈pre,∀ y:Fin ys.length,segMeet (sgP (edS zs (x:Fin zs.length))) (sgP (edS ys y))=false)∧Boxed W (w.heap.size+1) 4 (.bool false))∧Boxed W w.heap.size 53 (.pointer (some ⟨b2,0,none⟩)))∧Below w.heap.size w W)
  (fun c pre W=>((c=.ret∧∃ (x:Fin zs.length) (y:Fin ys.length),segMeet (sgP (edS zs x)) (sgP (edS ys y))=true)∧Boxed W (w.heap.size+1) 4 (.bool true))∧Below w.heap.size w W)
  (OwnFrom.and (OwnFrom.and (OwnFrom.and (ownFrom_pure _ _) (Own.from (boxed_own _ _ _) _)) (Own.from (boxed_own _ _ _) _)) (ownFrom_below (Nat.le_refl _) (by omega)))
  (fun c=>OwnFrom.and (OwnFrom.and (ownFrom_pure _ _) (Own.from (boxed_own _ _ _) _)) (ownFrom_below (Nat.le_refl _) (by omega)))
  ⟨⟨⟨by simp,bR⟩,bO⟩,hB0⟩
  (fun x a' W=>∃ Bx,W.heap[Bx]?=some (segObj (edS zs x))∧a'={ tmps:=#[.pointer (some ⟨b1,0,none⟩),.pointer (some ⟨b2,0,none⟩),undef,.pointer (some ⟨w.heap.size,0,none⟩),.pointer (some ⟨w.heap.size+1,0,none⟩),undef,.pointer (some ⟨Bx,0,none⟩),undef,undef,.pointer (some ⟨b1,0,none⟩),.pointer (some ⟨b1,0,none⟩),.pointer (some ⟨b1,0,none⟩),.slice A1 zs.length c1,.func (.func 63) #[] #[.pointer (some ⟨w.heap.size+1+1,0,none⟩)],.int .i64 ((x:Nat):Int),.agg #[.int .i64 (edS zs x).f0.f0,.int .i64 (edS zs x).f0.f1,.int .i64 (edS zs x).f1.f0,.int .i64 (edS zs x).f1.f1],undef,undef,undef,undef,undef,undef,undef,undef,undef,undef],defers:=[] })
  (fun x a' _ X Y row hs hg hr=>by obtain⟨Bx,e2,e3⟩:=hs;exact⟨Bx,segObj_own Bx (edS zs x) () X Y row e2 hg (fun r e=>(hr r e).2),e3⟩)
  ?assign ?body ?done ?stop
 case assign =>
  rintro l pre x W K ⟨⟨⟨hq,bR1⟩,bO1⟩,hB1⟩ hK;have hBs:=hB1.size;dsimp only [encE,edV];gi_wp2;exact hK _ _ ((KeepsOthers.alloc _ _).from _) (KpE.alloc _ _ _ _) ⟨⟨⟨hq,bR1.alloc _⟩,bO1.alloc _⟩,below_alloc hB1 _⟩ ⟨W.heap.size,World.alloc_heap_new W _,rfl⟩
 case body =>
  rintro l pre x a' W hl ⟨rr,hrr⟩ ⟨⟨⟨hq,bR1⟩,bO1⟩,hB1⟩ ⟨Bx,bX,rfl⟩ hlt;have hO:=h2.later hB1;have cO:=bO1.cell;have p2:=hO.pts;gi_wp2_with (refine⟨trivial,?_⟩;gi_at_call 43;refine (CallsIn.inRound l (edges_in _ _ _ _ _)).mono ?_;rintro e w' ⟨rfl,rfl⟩);clear cO p2;have bN:=Boxed.new W 24 (.slice A2 ys.length c2);have hr':(W.alloc (.cells #[.slice A2 ys.length c2] 24)).heap[l]?=some (.loop rr):=blk_alloc' hrr _;have bR2:=bR1.alloc (.cells #[.slice A2 ys.length c2] 24);have bO2:=bO1.alloc (.cells #[.slice A2 ys.length c2] 24);have bX2:=blk_alloc' bX (.cells #[.slice A2 ys.length c2] 24);have hB2:=below_alloc hB1 (.cells #[.slice A2 ys.length c2] 24);have hE2:=KpE.alloc w.heap.size (w.heap.size+1+1) W (.cells #[.slice A2 ys.length c2] 24);have hF2:=(KeepsOthers.alloc W (.cells #[.slice A2 ys.length c2] 24)).from W0.heap.size;have hsz3:(W.alloc (.cells #[.slice A2 ys.length c2] 24)).heap.size=W.heap.size+1:=by simp
  have hBW:=hB1.size;have hRW:=bR1.lt;obtain⟨W3,hW3⟩:∃ W3,W.alloc (.cells #[.slice A2 ys.length c2] 24)=W3:=⟨_,rfl⟩;rw [hW3] at bN hr' bR2 bO2 bX2 hB2 hE2 hF2 hsz3 ⊢
  clear hW3;obtain⟨Bc,hBc⟩:∃ Bc,W.heap.size=Bc:=⟨_,rfl⟩;rw [hBc] at bN ⊢
  refine wpIn_rangeFunc_ownN (l₀:=l) (r₀:=rr) rfl hr' (by omega) (gf:=63) (lb:=#[.pointer (some ⟨Bc,0,none⟩)]) rfl trivial (enters_of Tryz.func63 (by kernel_rfl) rfl)
   ((edges_stops 6 (by omega) Bc w.heap.size A2 c2 ys (by omega) hAb2 W3 (by omega) (by omega) bN.cell (Kd.C_below h2.row hB2)).inRound l) (fun h k=>KpE.trans h k) (fun W l o o' hl _ _ _=>KpE.putObj W l o' (by omega) (by omega)) (Below.refl _ _) (fun _=>rfl)
   (fun pre' W'=>((((∀ y∈pre',segMeet (sgP (edS zs x)) (sgP (edS ys (y:Fin ys.length)))=false)∧Boxed W' (w.heap.size+1) 4 (.bool false))∧Boxed W' w.heap.size 53 (.pointer (some ⟨b2,0,none⟩)))∧W'.heap[Bx]?=some (segObj (edS zs x)))∧(Below w.heap.size w W'∧KpE w.heap.size (w.heap.size+1+1) W W')∧KeepsFrom W0.heap.size W W')
   (fun c pre' W'=>((c=.ret∧∃ y:Fin ys.length,segMeet (sgP (edS zs x)) (sgP (edS ys y))=true)∧Boxed W' (w.heap.size+1) 4 (.bool true))∧Below w.heap.size w W'∧KeepsFrom W0.heap.size W W')
   (OwnFrom.and (OwnFrom.and (OwnFrom.and (OwnFrom.and (ownFrom_pure _ _) (Own.from (boxed_own _ _ _) _)) (Own.from (boxed_own _ _ _) _)) (Own.from (blk_own _ (fun _=>segObj (edS zs x)) (fun _=>rfl)) _)) (OwnFrom.and (OwnFrom.and (ownFrom_below (Nat.le_refl _) (by omega)) (ownFrom_kpE (by omega))) (ownFrom_keepsFrom (by omega))))
   (fun c=>OwnFrom.and (OwnFrom.and (ownFrom_pure _ _) (Own.from (boxed_own _ _ _) _)) (OwnFrom.and (ownFrom_below (Nat.le_refl _) (by omega)) (ownFrom_keepsFrom (by omega))))
   ⟨⟨⟨⟨by simp,bR2⟩,bO2⟩,bX2⟩,⟨hB2,hE2⟩,hF2⟩
   (fun y a'' W'=>∃ Bt,W'.heap[Bt]?=some (segObj (edS ys y))∧a''={ tmps:=#[.pointer (some ⟨b1,0,none⟩),.pointer (some ⟨b2,0,none⟩),undef,.pointer (some ⟨w.heap.size,0,none⟩),.pointer (some ⟨w.heap.size+1,0,none⟩),undef,.pointer (some ⟨Bx,0,none⟩),undef,.pointer (some ⟨Bt,0,none⟩),.pointer (some ⟨b1,0,none⟩),.pointer (some ⟨b1,0,none⟩),.pointer (some ⟨b1,0,none⟩),.slice A1 zs.length c1,.func (.func 63) #[] #[.pointer (some ⟨w.heap.size+1+1,0,none⟩)],.int .i64 ((x:Nat):Int),.agg #[.int .i64 (edS zs x).f0.f0,.int .i64 (edS zs x).f0.f1,.int .i64 (edS zs x).f1.f0,.int .i64 (edS zs x).f1.f1],.pointer (some ⟨b2,0,none⟩),.pointer (some ⟨b2,0,none⟩),.pointer (some ⟨b2,0,none⟩),.slice A2 ys.length c2,.func (.func 63) #[] #[.pointer (some ⟨Bc,0,none⟩)],.int .i64 ((y:Nat):Int),.agg #[.int .i64 (edS ys y).f0.f0,.int .i64 (edS ys y).f0.f1,.int .i64 (edS ys y).f1.f0,.int .i64 (edS ys y).f1.f1],undef,undef,undef],defers:=[] })
   (fun y a'' _ X Y row hs hg hr=>by obtain⟨Bt,e2,e3⟩:=hs;exact⟨Bt,segObj_own Bt (edS ys y) () X Y row e2 hg (fun r e=>(hr r e).2),e3⟩)
   ?assign2 ?body2 ?done2 ?stop2
  case assign2 =>
   rintro l2 pre' y W' K ⟨⟨⟨⟨hq2,bR⟩,bO⟩,bX⟩,⟨hB,hE⟩,hF⟩ hKK;dsimp only [encE,edV];gi_wp2;exact hKK _ _ ((KeepsOthers.alloc _ _).from _) (KpE.alloc _ _ _ _) ⟨⟨⟨⟨hq2,bR.alloc _⟩,bO.alloc _⟩,blk_alloc' bX _⟩,⟨below_alloc hB _,hE.trans (KpE.alloc _ _ _ _)⟩,hF.trans ((KeepsOthers.alloc _ _).from _)⟩ ⟨W'.heap.size,World.alloc_heap_new W' _,rfl⟩
  case body2 =>
   rintro l2 pre' y a'' W' _ _ ⟨⟨⟨⟨hq2,bR⟩,bO⟩,bX⟩,⟨hB,hE⟩,hF⟩ ⟨Bt,bT,rfl⟩ _;have cX0:W'.cell? ⟨Bx,0,none⟩=some (.int .i64 (edS zs x).f0.f0):=(blk_cell bX 0).trans rfl;have cX1:W'.cell? ⟨Bx,1,none⟩=some (.int .i64 (edS zs x).f0.f1):=(blk_cell bX 1).trans rfl;have cX2:W'.cell? ⟨Bx,2,none⟩=some (.int .i64 (edS zs x).f1.f0):=(blk_cell bX 2).trans rfl;have cX3:W'.cell? ⟨Bx,3,none⟩=some (.int .i64 (edS zs x).f1.f1):=(blk_cell bX 3).trans rfl;have cT0:W'.cell? ⟨Bt,0,none⟩=some (.int .i64 (edS ys y).f0.f0):=(blk_cell bT 0).trans rfl;have cT1:W'.cell? ⟨Bt,1,none⟩=some (.int .i64 (edS ys y).f0.f1):=(blk_cell bT 1).trans rfl;have cT2:W'.cell? ⟨Bt,2,none⟩=some (.int .i64 (edS ys y).f1.f0):=(blk_cell bT 2).trans rfl;have cT3:W'.cell? ⟨Bt,3,none⟩=some (.int .i64 (edS ys y).f1.f1):=(blk_cell bT 3).trans rfl;have HJ:=iSegMeet (k:=3) (by omega) (edS zs x).f0.f0 (edS zs x).f0.f1 (edS zs x).f1.f0 (edS zs x).f1.f1 (edS ys y).f0.f0 (edS ys y).f0.f1 (edS ys y).f1.f0 (edS ys y).f1.f1
   cases hb:segMeet (sgP (edS zs x)) (sgP (edS ys y)) with
   | false =>
    replace HJ:=HJ.trans (congrArg some hb);gi_wp2_with (refine⟨trivial,?_⟩;gi_at_call 60;refine (CallsIn.inRound l2 (callsIn_wide.2 (impl_SegMeet.calls 3 _ _ _ _ _ _ _ _ false _ HJ))).mono ?_;rintro e w1 ⟨rfl,hb1⟩);exact⟨keeps_below hb1,KpE.below hb1,⟨⟨⟨fun z hz=>(List.mem_append.1 hz).elim (hq2 z) (fun e=>by simp at e;subst e;exact hb),box_later bR hb1⟩,box_later bO hb1⟩,blk_later bX hb1⟩,⟨below_row hB (Nat.le_refl _) hb1,hE.trans (KpE.below hb1)⟩,hF.trans (keeps_below hb1)⟩
   | true =>
    replace HJ:=HJ.trans (congrArg some hb);gi_wp2_with (refine⟨trivial,?_⟩;gi_at_call 60;refine (CallsIn.inRound l2 (callsIn_wide.2 (impl_SegMeet.calls 3 _ _ _ _ _ _ _ _ true _ HJ))).mono ?_;rintro e w1 ⟨rfl,hb1⟩;have cR1:=(box_later bR hb1).cell;have fR1:=(box_later bR hb1).frozen);exact⟨(keeps_below hb1).trans ((KeepsOthers.setCell _ _ _).from _),⟨⟨rfl,y,hb⟩,(box_later bR hb1).set _⟩,(below_row hB (Nat.le_refl _) hb1).setCell (p:=⟨w.heap.size+1,0,none⟩) (by simp) _,(hF.trans (keeps_below hb1)).trans ((KeepsOthers.setCell _ _ _).from _)⟩
  case done2 =>
   rintro ys' W' rfl ⟨⟨⟨⟨hq2,bR⟩,bO⟩,bX⟩,⟨hB,hE⟩,hF⟩;gi_wp2;exact⟨hF,hE,⟨⟨fun z hz y=>(List.mem_append.1 hz).elim (fun hm=>hq z hm y) (fun e=>by simp at e;subst e;exact hq2 y (List.mem_finRange _)),bR⟩,bO⟩,hB⟩
  case stop2 =>
   rintro c pre' W' hpre ⟨⟨⟨rfl,y,hy⟩,bR⟩,hB,hF⟩;gi_wp2;exact⟨hF,⟨⟨rfl,x,y,hy⟩,bR⟩,hB⟩
 case stop =>
  rintro D c pre W hD _ ⟨⟨⟨rfl,x,y,hs⟩,bR1⟩,hB1⟩ hK;obtain rfl:r=true:=by
   rw [← hR.out];unfold meetsB;rw [List.any_eq_true];exact⟨x,List.mem_finRange _,List.any_eq_true.2 ⟨y,List.mem_finRange _,hs⟩⟩
  gi_wp2;have hD1:∀ E∈[D],W.heap[E]?=some (.deferred (some [])):=by simpa using hK
  refine leavesM_marks [D] W (by simp) hD1 (fun w' h1 h2 h3 h4 h5=>?_);have hc5:=(marks_boxed bR1 hD1 h1).cell;refine⟨.bool true,?_,rfl,marks_below hB1 (by simp;omega) h1 h2 h3 h4 h5⟩;simp [results,Tryz.f61,go_sem,hc5]
 case done =>
  rintro D ys' W hD rfl ⟨⟨⟨hq,bR1⟩,bO1⟩,hB1⟩ hK;obtain rfl:r=false:=by
   rw [← hR.out];unfold meetsB;rw [List.any_eq_false];intro x _;rw [Bool.not_eq_true,List.any_eq_false];intro y _;rw [Bool.not_eq_true];exact hq x (List.mem_finRange _) y
  have cR:=bR1.cell;have fR:=bR1.frozen;gi_wp2;have hD1:∀ E∈[D],(W.setCell ⟨w.heap.size+1,0,none⟩ (.bool false)).heap[E]?=some (.deferred (some [])):=by
   intro E hE;simp at hE;subst hE;exact blk_set hK rfl bR1 _
  refine leavesM_marks [D] _ (by simp) hD1 (fun w' h1 h2 h3 h4 h5=>?_);have hc5:=(marks_boxed (bR1.set (.bool false)) hD1 h1).cell;refine⟨.bool false,?_,rfl,marks_below (hB1.setCell (p:=⟨w.heap.size+1,0,none⟩) (by simp) _) (by simp;omega) h1 h2 h3 h4 h5⟩;simp [results,Tryz.f61,go_sem,hc5]
end Go.Proofs.YtailkppkjhkjpaaGreatDoor.X
end
section
set_option linter.unusedVariables false
namespace Mort
def crsI (e:Seg)(p:Pt):Bool:=
 (decide (e.1.2≤p.2) && (decide (p.2<e.2.2) && decide (0<cross e.1 e.2 p))) || (decide (e.2.2≤p.2) && (decide (p.2<e.1.2) && decide (cross e.1 e.2 p<0)))
theorem rc_cast (a b p:Pt):rc a.1 a.2 b.1 b.2 p.1 p.2=((cross a b p:Int):Rat):=by
 rw [cast_cross];rfl
theorem crsI_eq (e:Seg)(p:Pt):crsQ e.1.1 e.1.2 e.2.1 e.2.2 p.1 p.2=crsI e p:=by
 unfold crsQ crsI;rw [rc_cast e.1 e.2 p];have h1:decide ((e.1.2:Rat)≤(p.2:Rat))=decide (e.1.2≤p.2):=by rw [decide_eq_decide];exact cast_le
 have h2:decide ((p.2:Rat)<(e.2.2:Rat))=decide (p.2<e.2.2):=by rw [decide_eq_decide];exact cast_lt
 have h3:decide ((e.2.2:Rat)≤(p.2:Rat))=decide (e.2.2≤p.2):=by rw [decide_eq_decide];exact cast_le
 have h4:decide ((p.2:Rat)<(e.1.2:Rat))=decide (p.2<e.1.2):=by rw [decide_eq_decide];exact cast_lt
 have h5:decide (0<((cross e.1 e.2 p:Int):Rat))=decide (0<cross e.1 e.2 p):=by
  rw [decide_eq_decide];have:=@cast_lt 0 (cross e.1 e.2 p);simpa using this
 have h6:decide (((cross e.1 e.2 p:Int):Rat)<0)=decide (cross e.1 e.2 p<0):=by
  rw [decide_eq_decide];have:=@cast_lt (cross e.1 e.2 p) 0;simpa using this
 rw [h1,h2,h3,h4,h5,h6]
def sideOf (b:Bool):Int:=if b then 1 else -1
def inRun (es:List Seg)(p:Pt):Int:=sideOf (xorAll (es.map fun e=>crsI e p))
theorem inRun_snoc (es:List Seg)(e:Seg)(p:Pt):inRun (es++[e]) p=if crsI e p then-inRun es p else inRun es p:=by
 unfold inRun sideOf;rw [List.map_append,xorAll_append];cases xorAll (es.map fun e=>crsI e p) <;> cases h:crsI e p <;> simp [xorAll,h]
theorem inRun_end {l:List Pt}{p:Pt}(h:∀ e∈edges l,has e p=false):inRun (edges l) p=inOf l p:=by
 unfold inOf inRun sideOf par;rw [(onB_false l p).2 h];have:((edges l).map fun e=>crsQ e.1.1 e.1.2 e.2.1 e.2.2 p.1 p.2)=(edges l).map fun e=>crsI e p:=List.map_congr_left fun e _=>crsI_eq e p
 rw [this];cases xorAll ((edges l).map fun e=>crsI e p) <;> rfl
theorem inOf_on {l:List Pt}{p:Pt}{e:Seg}(he:e∈edges l)(h:has e p=true):inOf l p=0:=(inOf_zero l p).2 ((onB_iff l p).2 ⟨e,he,h⟩)
theorem edges_eq (l:List Pt):edges l=(List.range l.length).map (ed l):=by
 apply List.ext_getElem?;intro i;by_cases h:i<l.length
 ·
  rw [edges_getElem? l i h];simp [h]
 ·
  rw [List.getElem?_eq_none (by rw [edges_length];omega),List.getElem?_eq_none (by simp;omega)]
end Mort
end
section
set_option linter.unusedVariables false
set_option linter.unusedSimpArgs false
namespace Go.Proofs.YtailkppkjhkjpaaGreatDoor.X
open Go.RowKit Go.Shelf Go.Proofs.YtailkppkjhkjpaaGreatDoorW.PrintWords Go.Proofs.YtailkppkjhkjpaaGreatDoorW.PrintLast Go.Proofs.YtailkppkjhkjpaaGreatDoorW.PrintMore
open Mort (edges loopOk ed segOk ptOk segHas inOf inRun crsI segTurn cross)
attribute [local go_sem] Oper.semAt_some
def impl_insideOf.f (l0:List S70)(a1_0 a1_1:Int):Option Int:=if loopOk (l0.map ptP)=true∧ptOk (a1_0,a1_1)=true then some (inOf (l0.map ptP) (a1_0,a1_1)) else none
def preE (l0:List S70)(pre:List (Fin l0.length)):List Mort.Seg:=pre.map fun (i:Fin l0.length)=>sgP (edS l0 (i:Nat))
theorem preE_snoc (l0:List S70)(pre:List (Fin l0.length))(x:Fin l0.length):preE l0 (pre++[x])=preE l0 pre++[sgP (edS l0 x)]:=by simp [preE]
theorem preE_all (l0:List S70):preE l0 (List.finRange l0.length)=edges (l0.map ptP):=by
 rw [Mort.edges_eq];unfold preE;apply List.ext_getElem
 ·
  simp
 ·
  intro i h1 h2;simp [ed_edS]
set_option maxHeartbeats 4000000 in
set_option maxRecDepth 100000 in
theorem impl_insideOf.calls (A0:Option Addr)(c0:Nat)(l0:List S70)(a1_0 a1_1:Int)(r:Int)(w:World)(hr0:Kd.C k70 w A0 l0.length l0)(hc0:l0.length≤c0)(h:impl_insideOf.f l0 a1_0 a1_1=some r):
  Calls Tryz.prog 62 #[.slice A0 l0.length c0,.agg #[.int .i64 a1_0,.int .i64 a1_1]] w fun e w'=>e=.returned (.int .i64 r)∧Below w.heap.size w w':=by
 unfold impl_insideOf.f at h
 split at h
 case isFalse=>cases h
 rename_i hok
 obtain⟨hl,hp⟩:=hok;have h:=Option.some.inj h;have hS:=(Mort.loopOk_iff _).1 hl;rw [List.length_map] at hS;obtain⟨hl3,hl8,hsg,_⟩:=hS;have hok:∀ i:Fin l0.length,segOk (sgP (edS l0 i))=true:=fun i=>by rw [← ed_edS];exact hsg _ (Mort.mem_edges.2 ⟨i,by simpa using i.2,rfl⟩)
 have hmem:∀ i:Fin l0.length,sgP (edS l0 i)∈edges (l0.map ptP):=fun i=>by rw [← ed_edS];exact Mort.mem_edges.2 ⟨i,by simpa using i.2,rfl⟩
 clear hsg;have HR:=Aside0.mk h;clear h;have hu61:=Tryz.underlying83;have hu28:=Tryz.underlying70;refine (callsIn_wide (n:=9)).1 ?_;refine callsIn_of_wp_marks Tryz.func62 rfl trivial ?_ rfl;simp only [Tryz.ntmps62,List.size_toArray,List.length_cons,List.length_nil,Nat.reduceAdd,Nat.reduceSub,Array.replicate_succ,Array.replicate_zero,List.push_toArray,List.append_toArray,List.nil_append,List.cons_append];have hAb:=row_lt hr0 (by omega);gi_wp2_with (refine⟨trivial,?_⟩;gi_at_call 43;refine (edges_in _ _ _ _ _).mono ?_;rintro e w' ⟨rfl,rfl⟩);have bP:((((w.alloc (.cells #[.int .i64 a1_0,.int .i64 a1_1] 70)).alloc (.cells #[.int .i64 0] 3)).alloc (.cells #[.int .i64 (-1)] 3)).alloc (.cells #[.slice A0 l0.length c0] 24)).heap[w.heap.size]?=some (.cells #[.int .i64 a1_0,.int .i64 a1_1] 70 (0,0)):=blk_alloc' (blk_alloc' (blk_alloc' (World.alloc_heap_new w _) _) _) _;have bR:=((Boxed.new (w.alloc (.cells #[.int .i64 a1_0,.int .i64 a1_1] 70)) 3 (.int .i64 0)).alloc (.cells #[.int .i64 (-1)] 3)).alloc (.cells #[.slice A0 l0.length c0] 24);have bI:=(Boxed.new ((w.alloc (.cells #[.int .i64 a1_0,.int .i64 a1_1] 70)).alloc (.cells #[.int .i64 0] 3)) 3 (.int .i64 (-1))).alloc (.cells #[.slice A0 l0.length c0] 24);have bC:=Boxed.new (((w.alloc (.cells #[.int .i64 a1_0,.int .i64 a1_1] 70)).alloc (.cells #[.int .i64 0] 3)).alloc (.cells #[.int .i64 (-1)] 3)) 24 (.slice A0 l0.length c0);simp only [World.size_alloc] at bR bI bC;have hB0:Below w.heap.size w ((((w.alloc (.cells #[.int .i64 a1_0,.int .i64 a1_1] 70)).alloc (.cells #[.int .i64 0] 3)).alloc (.cells #[.int .i64 (-1)] 3)).alloc (.cells #[.slice A0 l0.length c0] 24)):=below_alloc (below_alloc (below_alloc (below_alloc (Below.refl _ w) _) _) _) _;have hsz:((((w.alloc (.cells #[.int .i64 a1_0,.int .i64 a1_1] 70)).alloc (.cells #[.int .i64 0] 3)).alloc (.cells #[.int .i64 (-1)] 3)).alloc (.cells #[.slice A0 l0.length c0] 24)).heap.size=w.heap.size+4:=by simp
 obtain⟨W0,hW0⟩:∃ W0,(((w.alloc (.cells #[.int .i64 a1_0,.int .i64 a1_1] 70)).alloc (.cells #[.int .i64 0] 3)).alloc (.cells #[.int .i64 (-1)] 3)).alloc (.cells #[.slice A0 l0.length c0] 24)=W0:=⟨_,rfl⟩;rw [hW0] at bP bR bI bC hB0 hsz ⊢
 clear hW0;refine wpIn_rangeFunc_ownH rfl (by omega) (gf:=63) (lb:=#[.pointer (some ⟨w.heap.size+1+1+1,0,none⟩)]) rfl trivial (enters_of Tryz.func63 (by kernel_rfl) rfl)
  (edges_stops 8 (by omega) (w.heap.size+1+1+1) w.heap.size A0 c0 l0 (by omega) hAb W0 (by omega) (by omega) bC.cell (Kd.C_below hr0 hB0)) (fun h k=>KpE.trans h k) (fun W l o o' hl _ _ _=>KpE.putObj W l o' (by omega) (by omega)) (Below.refl _ _) (fun _=>rfl)
  (fun pre W=>((((∀ x∈pre,Mort.has (sgP (edS l0 (x:Fin l0.length))) (a1_0,a1_1)=false)∧Boxed W (w.heap.size+1) 3 (.int .i64 0))∧Boxed W (w.heap.size+1+1) 3 (.int .i64 (inRun (preE l0 pre) (a1_0,a1_1))))∧W.heap[w.heap.size]?=some (.cells #[.int .i64 a1_0,.int .i64 a1_1] 70 (0,0)))∧Below w.heap.size w W)
  (fun c pre W=>((c=.ret∧∃ x:Fin l0.length,Mort.has (sgP (edS l0 x)) (a1_0,a1_1)=true)∧Boxed W (w.heap.size+1) 3 (.int .i64 0))∧Below w.heap.size w W)
  (OwnFrom.and (OwnFrom.and (OwnFrom.and (OwnFrom.and (ownFrom_pure _ _) (Own.from (boxed_own _ _ _) _)) (Own.from (boxed_own _ _ (fun pre=>.int .i64 (inRun (preE l0 pre) (a1_0,a1_1)))) _)) (Own.from (blk_own _ (fun _=>.cells #[.int .i64 a1_0,.int .i64 a1_1] 70 (0,0)) (fun _=>rfl)) _)) (ownFrom_below (Nat.le_refl _) (by omega)))
  (fun c=>OwnFrom.and (OwnFrom.and (ownFrom_pure _ _) (Own.from (boxed_own _ _ _) _)) (ownFrom_below (Nat.le_refl _) (by omega)))
  ⟨⟨⟨⟨by simp,bR⟩,bI⟩,bP⟩,hB0⟩
  (fun x a' W=>∃ Bx,W.heap[Bx]?=some (segObj (edS l0 x))∧a'={ tmps:=#[.slice A0 l0.length c0,.agg #[.int .i64 a1_0,.int .i64 a1_1],undef,.pointer (some ⟨w.heap.size,0,none⟩),.pointer (some ⟨w.heap.size+1,0,none⟩),.pointer (some ⟨w.heap.size+1+1,0,none⟩),undef,.pointer (some ⟨Bx,0,none⟩),undef,undef,undef,.slice A0 l0.length c0,.func (.func 63) #[] #[.pointer (some ⟨w.heap.size+1+1+1,0,none⟩)],.int .i64 ((x:Nat):Int),.agg #[.int .i64 (edS l0 x).f0.f0,.int .i64 (edS l0 x).f0.f1,.int .i64 (edS l0 x).f1.f0,.int .i64 (edS l0 x).f1.f1],undef,undef,undef,undef,undef,undef,undef,undef,undef,undef,undef,undef,undef,undef,undef,undef,undef,undef,undef,undef,undef,undef,undef,undef,undef,undef,undef,undef,undef,undef,undef,undef,undef,undef,undef,undef,undef,undef,undef,undef,undef,undef,undef,undef,undef,undef,undef,undef,undef,undef,undef,undef],defers:=[] })
  (fun x a' _ X Y row hs hg hr=>by obtain⟨Bx,e2,e3⟩:=hs;exact⟨Bx,segObj_own Bx (edS l0 x) () X Y row e2 hg (fun r e=>(hr r e).2),e3⟩)
  ?assign ?body ?done ?stop
 case assign =>
  rintro l pre x W K ⟨⟨⟨⟨hq,bR1⟩,bI1⟩,bP1⟩,hB1⟩ hK;have hBs:=hB1.size;dsimp only [encE,edV];gi_wp2;exact hK _ _ ((KeepsOthers.alloc _ _).from _) (KpE.alloc _ _ _ _) ⟨⟨⟨⟨hq,bR1.alloc _⟩,bI1.alloc _⟩,blk_alloc' bP1 _⟩,below_alloc hB1 _⟩ ⟨W.heap.size,World.alloc_heap_new W _,rfl⟩
 case body =>
  rintro l pre x a' W hl ⟨rr,hrr⟩ ⟨⟨⟨⟨hq,bR1⟩,bI1⟩,bP1⟩,hB1⟩ ⟨Bx,bX,rfl⟩ hlt;have hsx:=hok x;have hE:=preE_snoc l0 pre x;have hIn:=Mort.inRun_snoc (preE l0 pre) (sgP (edS l0 x)) (a1_0,a1_1);rw [← hE] at hIn;have hvals:inRun (preE l0 pre) (a1_0,a1_1)=1∨inRun (preE l0 pre) (a1_0,a1_1) = -1:=by unfold inRun Mort.sideOf;split <;> simp
  have HX:=Aside0.mk hIn;clear hIn hE;generalize inRun (preE l0 pre) (a1_0,a1_1)=v at *;have hx1:=(Mort.segOk_iff _).1 hsx;have HH:=iSegHas (k:=2) (by omega) (edS l0 x).f0.f0 (edS l0 x).f0.f1 (edS l0 x).f1.f0 (edS l0 x).f1.f1 a1_0 a1_1;have HT:=iSegTurn (k:=2) (by omega) (edS l0 x).f0.f0 (edS l0 x).f0.f1 (edS l0 x).f1.f0 (edS l0 x).f1.f1 a1_0 a1_1;have eH:segHas (sgP (edS l0 x)) (a1_0,a1_1)=Mort.has (sgP (edS l0 x)) (a1_0,a1_1):=by unfold segHas;rw [hsx,hp];rfl
  have eT:segTurn ((edS l0 x).f0.f0,(edS l0 x).f0.f1) ((edS l0 x).f1.f0,(edS l0 x).f1.f1) (a1_0,a1_1)=Mort.sgn (cross (sgP (edS l0 x)).1 (sgP (edS l0 x)).2 (a1_0,a1_1)):=by
   unfold segTurn;rw [show ptOk ((edS l0 x).f0.f0,(edS l0 x).f0.f1)=true from hx1.1,show ptOk ((edS l0 x).f1.f0,(edS l0 x).f1.f1)=true from hx1.2.1,hp];rfl
  replace HH:=HH.trans (congrArg some eH);rw [eT] at HT;clear eH eT;have hmx:=hmem x;have hC:crsI (sgP (edS l0 x)) (a1_0,a1_1)=((decide ((edS l0 x).f0.f1≤a1_1) && (decide (a1_1<(edS l0 x).f1.f1) && decide (0<cross (sgP (edS l0 x)).1 (sgP (edS l0 x)).2 (a1_0,a1_1)))) || (decide ((edS l0 x).f1.f1≤a1_1) && (decide (a1_1<(edS l0 x).f0.f1) && decide (cross (sgP (edS l0 x)).1 (sgP (edS l0 x)).2 (a1_0,a1_1)<0)))):=rfl;have cX0:W.cell? ⟨Bx,0,none⟩=some (.int .i64 (edS l0 x).f0.f0):=(blk_cell bX 0).trans rfl;have cX1:W.cell? ⟨Bx,1,none⟩=some (.int .i64 (edS l0 x).f0.f1):=(blk_cell bX 1).trans rfl;have cX2:W.cell? ⟨Bx,2,none⟩=some (.int .i64 (edS l0 x).f1.f0):=(blk_cell bX 2).trans rfl;have cX3:W.cell? ⟨Bx,3,none⟩=some (.int .i64 (edS l0 x).f1.f1):=(blk_cell bX 3).trans rfl;have cP0:W.cell? ⟨w.heap.size,0,none⟩=some (.int .i64 a1_0):=(blk_cell bP1 0).trans rfl;have cP1:W.cell? ⟨w.heap.size,1,none⟩=some (.int .i64 a1_1):=(blk_cell bP1 1).trans rfl;clear bX;generalize cross (sgP (edS l0 x)).1 (sgP (edS l0 x)).2 (a1_0,a1_1)=cz at *;generalize hsp:sgP (edS l0 x)=sx at *;have hsp':=Aside0.mk hsp;clear hsp hx1;generalize (edS l0 x).f0.f0=ax at *;generalize (edS l0 x).f0.f1=ay at *;generalize (edS l0 x).f1.f0=bx at *;generalize (edS l0 x).f1.f1=by_ at *;have hv1 : -1≤v:=by omega
  have hv2:v≤1:=by omega
  clear hvals;have ht:(0<Mort.sgn cz ↔ 0<cz)∧(Mort.sgn cz<0 ↔ cz<0):=by unfold Mort.sgn;split <;> (try split) <;> omega
  generalize Mort.sgn cz=t at *;have cI:=bI1.cell;have fI:=bI1.frozen;have cR:=bR1.cell;have fR:=bR1.frozen;have later:∀ w1,Below W.heap.size W w1→∀ a y,W.cell? a=some y→w1.cell? a=some y:=fun w1 hb a y h=>pw_cell_below hb h
  cases hh:Mort.has sx (a1_0,a1_1) with
  | true =>
   rw [hh] at HH;gi_wp2_with (refine⟨trivial,?_⟩;gi_at_call 76;refine (CallsIn.inRound l (callsIn_wide.2 (impl_SegHas.calls 2 _ _ _ _ _ _ true _ HH))).mono ?_;rintro e w1 ⟨rfl,hb⟩;have cR1:=(box_later bR1 hb).cell;have fR1:=(box_later bR1 hb).frozen);exact⟨(keeps_below hb).trans ((KeepsOthers.setCell _ _ _).from _),⟨⟨rfl,x,by rw [hsp'.out];exact hh⟩,(box_later bR1 hb).set _⟩,(below_row hB1 (Nat.le_refl _) hb).setCell (p:=⟨w.heap.size+1,0,none⟩) (by simp) _⟩
  | false =>
   rw [hh] at HH;by_cases u1:ay≤a1_1
   ·
    by_cases u2:a1_1<by_
    ·
     by_cases u5:0<t
     ·
      have d1:decide (ay≤a1_1)=true:=decide_eq_true (by omega);have d2:decide (a1_1<by_)=true:=decide_eq_true (by omega);have d3:decide (by_≤a1_1)=false:=decide_eq_false (by omega);have d4:decide (a1_1<ay)=false:=decide_eq_false (by omega);have d5:decide (0<t)=true:=decide_eq_true (by omega);have d5':decide (0<cz)=true:=decide_eq_true (by omega);have hcv:crsI sx (a1_0,a1_1)=true:=by rw [hC,d1,d2,d3,d4,d5'];simp
      clear hC
      gi_wp2_with (first
       | (refine⟨trivial,?_⟩;gi_at_call 76;refine (CallsIn.inRound l (callsIn_wide.2 (impl_SegHas.calls 2 _ _ _ _ _ _ false _ HH))).mono ?_;rintro e w1 ⟨rfl,hb⟩;have dP0:=later _ hb _ _ cP0;have dP1:=later _ hb _ _ cP1;have dX0:=later _ hb _ _ cX0;have dX1:=later _ hb _ _ cX1;have dX2:=later _ hb _ _ cX2;have dX3:=later _ hb _ _ cX3)
       | (refine⟨trivial,?_⟩;gi_at_call 77;refine (CallsIn.inRound l (callsIn_wide.2 (impl_SegTurn.calls 2 _ _ _ _ _ _ t _ HT))).mono ?_;rintro e w2 ⟨rfl,hb2⟩;have cI1:=(box_later (box_later bI1 hb) hb2).cell;have fI1:=(box_later (box_later bI1 hb) hb2).frozen))
      have HV:inRun (preE l0 (pre++[x])) (a1_0,a1_1) = -v:=by rw [HX.out,hcv];rfl
      exact⟨(keeps_below (below_step_ hb hb2)).trans ((KeepsOthers.setCell _ _ _).from _),(KpE.below (below_step_ hb hb2)).trans (KpE.set _ (by simp;omega) (by simp) _),⟨⟨⟨fun z hz=>(List.mem_append.1 hz).elim (hq z) (fun e=>by simp at e;subst e;rw [hsp'.out];exact hh),box_other (box_later bR1 (below_step_ hb hb2)) (by omega) _⟩,by rw [HV];exact (box_later bI1 (below_step_ hb hb2)).set _⟩,blk_other (blk_later bP1 (below_step_ hb hb2)) (by omega) _⟩,(below_row hB1 (Nat.le_refl _) (below_step_ hb hb2)).setCell (p:=⟨w.heap.size+1+1,0,none⟩) (by simp;omega) _⟩
     ·
      have d1:decide (ay≤a1_1)=true:=decide_eq_true (by omega);have d2:decide (a1_1<by_)=true:=decide_eq_true (by omega);have d3:decide (by_≤a1_1)=false:=decide_eq_false (by omega);have d4:decide (a1_1<ay)=false:=decide_eq_false (by omega);have d5:decide (0<t)=false:=decide_eq_false (by omega);have d5':decide (0<cz)=false:=decide_eq_false (by omega);have hcv:crsI sx (a1_0,a1_1)=false:=by rw [hC,d1,d2,d3,d4,d5'];simp
      clear hC
      gi_wp2_with (first
       | (refine⟨trivial,?_⟩;gi_at_call 76;refine (CallsIn.inRound l (callsIn_wide.2 (impl_SegHas.calls 2 _ _ _ _ _ _ false _ HH))).mono ?_;rintro e w1 ⟨rfl,hb⟩;have dP0:=later _ hb _ _ cP0;have dP1:=later _ hb _ _ cP1;have dX0:=later _ hb _ _ cX0;have dX1:=later _ hb _ _ cX1;have dX2:=later _ hb _ _ cX2;have dX3:=later _ hb _ _ cX3)
       | (refine⟨trivial,?_⟩;gi_at_call 77;refine (CallsIn.inRound l (callsIn_wide.2 (impl_SegTurn.calls 2 _ _ _ _ _ _ t _ HT))).mono ?_;rintro e w2 ⟨rfl,hb2⟩;have cI1:=(box_later (box_later bI1 hb) hb2).cell;have fI1:=(box_later (box_later bI1 hb) hb2).frozen))
      have HV:inRun (preE l0 (pre++[x])) (a1_0,a1_1)=v:=by rw [HX.out,hcv];rfl
      exact⟨keeps_below (below_step_ hb hb2),KpE.below (below_step_ hb hb2),⟨⟨⟨fun z hz=>(List.mem_append.1 hz).elim (hq z) (fun e=>by simp at e;subst e;rw [hsp'.out];exact hh),box_later bR1 (below_step_ hb hb2)⟩,by rw [HV];exact box_later bI1 (below_step_ hb hb2)⟩,blk_later bP1 (below_step_ hb hb2)⟩,below_row hB1 (Nat.le_refl _) (below_step_ hb hb2)⟩
    ·
     have d1:decide (ay≤a1_1)=true:=decide_eq_true (by omega);have d2:decide (a1_1<by_)=false:=decide_eq_false (by omega);have d3:decide (by_≤a1_1)=true:=decide_eq_true (by omega);have d4:decide (a1_1<ay)=false:=decide_eq_false (by omega);have hcv:crsI sx (a1_0,a1_1)=false:=by rw [hC,d1,d2,d3,d4];simp
     clear hC
     gi_wp2_with (first
      | (refine⟨trivial,?_⟩;gi_at_call 76;refine (CallsIn.inRound l (callsIn_wide.2 (impl_SegHas.calls 2 _ _ _ _ _ _ false _ HH))).mono ?_;rintro e w1 ⟨rfl,hb⟩;have dP0:=later _ hb _ _ cP0;have dP1:=later _ hb _ _ cP1;have dX0:=later _ hb _ _ cX0;have dX1:=later _ hb _ _ cX1;have dX2:=later _ hb _ _ cX2;have dX3:=later _ hb _ _ cX3)
      | (refine⟨trivial,?_⟩;gi_at_call 77;refine (CallsIn.inRound l (callsIn_wide.2 (impl_SegTurn.calls 2 _ _ _ _ _ _ t _ HT))).mono ?_;rintro e w2 ⟨rfl,hb2⟩;have cI1:=(box_later (box_later bI1 hb) hb2).cell;have fI1:=(box_later (box_later bI1 hb) hb2).frozen))
     have HV:inRun (preE l0 (pre++[x])) (a1_0,a1_1)=v:=by rw [HX.out,hcv];rfl
     exact⟨keeps_below (below_step_ hb hb2),KpE.below (below_step_ hb hb2),⟨⟨⟨fun z hz=>(List.mem_append.1 hz).elim (hq z) (fun e=>by simp at e;subst e;rw [hsp'.out];exact hh),box_later bR1 (below_step_ hb hb2)⟩,by rw [HV];exact box_later bI1 (below_step_ hb hb2)⟩,blk_later bP1 (below_step_ hb hb2)⟩,below_row hB1 (Nat.le_refl _) (below_step_ hb hb2)⟩
   ·
    by_cases u2:a1_1<by_
    ·
     have d1:decide (ay≤a1_1)=false:=decide_eq_false (by omega);have d2:decide (a1_1<by_)=true:=decide_eq_true (by omega);have d3:decide (by_≤a1_1)=false:=decide_eq_false (by omega);have d4:decide (a1_1<ay)=true:=decide_eq_true (by omega);have hcv:crsI sx (a1_0,a1_1)=false:=by rw [hC,d1,d2,d3,d4];simp
     clear hC
     gi_wp2_with (first
      | (refine⟨trivial,?_⟩;gi_at_call 76;refine (CallsIn.inRound l (callsIn_wide.2 (impl_SegHas.calls 2 _ _ _ _ _ _ false _ HH))).mono ?_;rintro e w1 ⟨rfl,hb⟩;have dP0:=later _ hb _ _ cP0;have dP1:=later _ hb _ _ cP1;have dX0:=later _ hb _ _ cX0;have dX1:=later _ hb _ _ cX1;have dX2:=later _ hb _ _ cX2;have dX3:=later _ hb _ _ cX3)
      | (refine⟨trivial,?_⟩;gi_at_call 77;refine (CallsIn.inRound l (callsIn_wide.2 (impl_SegTurn.calls 2 _ _ _ _ _ _ t _ HT))).mono ?_;rintro e w2 ⟨rfl,hb2⟩;have cI1:=(box_later (box_later bI1 hb) hb2).cell;have fI1:=(box_later (box_later bI1 hb) hb2).frozen))
     have HV:inRun (preE l0 (pre++[x])) (a1_0,a1_1)=v:=by rw [HX.out,hcv];rfl
     exact⟨keeps_below (below_step_ hb hb2),KpE.below (below_step_ hb hb2),⟨⟨⟨fun z hz=>(List.mem_append.1 hz).elim (hq z) (fun e=>by simp at e;subst e;rw [hsp'.out];exact hh),box_later bR1 (below_step_ hb hb2)⟩,by rw [HV];exact box_later bI1 (below_step_ hb hb2)⟩,blk_later bP1 (below_step_ hb hb2)⟩,below_row hB1 (Nat.le_refl _) (below_step_ hb hb2)⟩
    ·
     by_cases u5:t<0
     ·
      have d1:decide (ay≤a1_1)=false:=decide_eq_false (by omega);have d2:decide (a1_1<by_)=false:=decide_eq_false (by omega);have d3:decide (by_≤a1_1)=true:=decide_eq_true (by omega);have d4:decide (a1_1<ay)=true:=decide_eq_true (by omega);have d6:decide (t<0)=true:=decide_eq_true (by omega);have d6':decide (cz<0)=true:=decide_eq_true (by omega);have hcv:crsI sx (a1_0,a1_1)=true:=by rw [hC,d1,d2,d3,d4,d6'];simp
      clear hC
      gi_wp2_with (first
       | (refine⟨trivial,?_⟩;gi_at_call 76;refine (CallsIn.inRound l (callsIn_wide.2 (impl_SegHas.calls 2 _ _ _ _ _ _ false _ HH))).mono ?_;rintro e w1 ⟨rfl,hb⟩;have dP0:=later _ hb _ _ cP0;have dP1:=later _ hb _ _ cP1;have dX0:=later _ hb _ _ cX0;have dX1:=later _ hb _ _ cX1;have dX2:=later _ hb _ _ cX2;have dX3:=later _ hb _ _ cX3)
       | (refine⟨trivial,?_⟩;gi_at_call 77;refine (CallsIn.inRound l (callsIn_wide.2 (impl_SegTurn.calls 2 _ _ _ _ _ _ t _ HT))).mono ?_;rintro e w2 ⟨rfl,hb2⟩;have cI1:=(box_later (box_later bI1 hb) hb2).cell;have fI1:=(box_later (box_later bI1 hb) hb2).frozen))
      have HV:inRun (preE l0 (pre++[x])) (a1_0,a1_1) = -v:=by rw [HX.out,hcv];rfl
      exact⟨(keeps_below (below_step_ hb hb2)).trans ((KeepsOthers.setCell _ _ _).from _),(KpE.below (below_step_ hb hb2)).trans (KpE.set _ (by simp;omega) (by simp) _),⟨⟨⟨fun z hz=>(List.mem_append.1 hz).elim (hq z) (fun e=>by simp at e;subst e;rw [hsp'.out];exact hh),box_other (box_later bR1 (below_step_ hb hb2)) (by omega) _⟩,by rw [HV];exact (box_later bI1 (below_step_ hb hb2)).set _⟩,blk_other (blk_later bP1 (below_step_ hb hb2)) (by omega) _⟩,(below_row hB1 (Nat.le_refl _) (below_step_ hb hb2)).setCell (p:=⟨w.heap.size+1+1,0,none⟩) (by simp;omega) _⟩
     ·
      have d1:decide (ay≤a1_1)=false:=decide_eq_false (by omega);have d2:decide (a1_1<by_)=false:=decide_eq_false (by omega);have d3:decide (by_≤a1_1)=true:=decide_eq_true (by omega);have d4:decide (a1_1<ay)=true:=decide_eq_true (by omega);have d6:decide (t<0)=false:=decide_eq_false (by omega);have d6':decide (cz<0)=false:=decide_eq_false (by omega);have hcv:crsI sx (a1_0,a1_1)=false:=by rw [hC,d1,d2,d3,d4,d6'];simp
      clear hC
      gi_wp2_with (first
       | (refine⟨trivial,?_⟩;gi_at_call 76;refine (CallsIn.inRound l (callsIn_wide.2 (impl_SegHas.calls 2 _ _ _ _ _ _ false _ HH))).mono ?_;rintro e w1 ⟨rfl,hb⟩;have dP0:=later _ hb _ _ cP0;have dP1:=later _ hb _ _ cP1;have dX0:=later _ hb _ _ cX0;have dX1:=later _ hb _ _ cX1;have dX2:=later _ hb _ _ cX2;have dX3:=later _ hb _ _ cX3)
       | (refine⟨trivial,?_⟩;gi_at_call 77;refine (CallsIn.inRound l (callsIn_wide.2 (impl_SegTurn.calls 2 _ _ _ _ _ _ t _ HT))).mono ?_;rintro e w2 ⟨rfl,hb2⟩;have cI1:=(box_later (box_later bI1 hb) hb2).cell;have fI1:=(box_later (box_later bI1 hb) hb2).frozen))
      have HV:inRun (preE l0 (pre++[x])) (a1_0,a1_1)=v:=by rw [HX.out,hcv];rfl
      exact⟨keeps_below (below_step_ hb hb2),KpE.below (below_step_ hb hb2),⟨⟨⟨fun z hz=>(List.mem_append.1 hz).elim (hq z) (fun e=>by simp at e;subst e;rw [hsp'.out];exact hh),box_later bR1 (below_step_ hb hb2)⟩,by rw [HV];exact box_later bI1 (below_step_ hb hb2)⟩,blk_later bP1 (below_step_ hb hb2)⟩,below_row hB1 (Nat.le_refl _) (below_step_ hb hb2)⟩
 case stop =>
  rintro D c pre W hD _ ⟨⟨⟨rfl,x,hs⟩,bR1⟩,hB1⟩ hK;obtain rfl:r=0:=by rw [← HR.out];exact Mort.inOf_on (hmem x) hs
  gi_wp2;have hD1:∀ E∈[D],W.heap[E]?=some (.deferred (some [])):=by simpa using hK
  refine leavesM_marks [D] W (by simp) hD1 (fun w' h1 h2 h3 h4 h5=>?_);have hc5:=(marks_boxed bR1 hD1 h1).cell;refine⟨.int .i64 0,?_,rfl,marks_below hB1 (by simp;omega) h1 h2 h3 h4 h5⟩;simp [results,Tryz.f62,go_sem,hc5]
 case done =>
  rintro D ys W hD rfl ⟨⟨⟨⟨hq,bR1⟩,bI1⟩,bP1⟩,hB1⟩ hK;have hV:inRun (preE l0 (List.finRange l0.length)) (a1_0,a1_1)=r:=by
   rw [preE_all,Mort.inRun_end,HR.out];intro e he;obtain⟨i,hi,rfl⟩:=Mort.mem_edges.1 he;rw [ed_edS];exact hq ⟨i,by simpa using hi⟩ (List.mem_finRange _)
  rw [hV] at bI1;clear hV;have cI:=bI1.cell;have cR:=bR1.cell;have fR:=bR1.frozen;gi_wp2;have hD1:∀ E∈[D],(W.setCell ⟨w.heap.size+1,0,none⟩ (.int .i64 r)).heap[E]?=some (.deferred (some [])):=by
   intro E hE;simp at hE;subst hE;exact blk_set hK rfl bR1 _
  refine leavesM_marks [D] _ (by simp) hD1 (fun w' h1 h2 h3 h4 h5=>?_);have hc5:=(marks_boxed (bR1.set (.int .i64 r)) hD1 h1).cell;refine⟨.int .i64 r,?_,rfl,marks_below (hB1.setCell (p:=⟨w.heap.size+1,0,none⟩) (by simp) _) (by simp;omega) h1 h2 h3 h4 h5⟩;simp [results,Tryz.f62,go_sem,hc5]
end Go.Proofs.YtailkppkjhkjpaaGreatDoor.X
end
section
set_option linter.unusedVariables false
set_option linter.unusedSimpArgs false
namespace Go.Proofs.YtailkppkjhkjpaaGreatDoor.X
open Go.RowKit Go.Shelf Go.Proofs.YtailkppkjhkjpaaGreatDoorW.PrintWords Go.Proofs.YtailkppkjhkjpaaGreatDoorW.PrintLast Go.Proofs.YtailkppkjhkjpaaGreatDoorW.PrintMore
open Mort (edges segMeet loopOk ptOk inOf)
def RingsAt (W:World):Option Addr→List (List S70)→Prop
 | p,[]=>p=none
 | p,zs::rest=>∃ b A c nx,p=some ⟨b,0,none⟩∧RingAt W b A c zs nx∧RingsAt W nx rest
theorem RingsAt.later {W W':World}(hb:Below W.heap.size W W'):∀ {p:Option Addr} {R:List (List S70)},RingsAt W p R→RingsAt W' p R
 | _,[],h=>h
 | _,_::_,⟨b,A,c,nx,e,h,k⟩=>⟨b,A,c,nx,e,h.later hb,RingsAt.later hb k⟩
def Small (R:List (List S70)):Prop:=∀ z∈R,0<z.length∧z.length≤8
def apartAll:List (List S70)→Bool
 | []=>true
 | z::rest=>(rest.all fun y => !meetsB z y) && apartAll rest
set_option maxHeartbeats 4000000 in
set_option maxRecDepth 100000 in
theorem apart_calls (b:Nat)(R:List (List S70))(r:Bool)(w:World)(hR:RingsAt w (some ⟨b,0,none⟩) R)(hS:Small R)(h:apartAll R=r):
  Calls Tryz.prog 41 #[.pointer (some ⟨b,0,none⟩)] w fun e w'=>e=.returned (.bool r)∧Below w.heap.size w w':=by
 have HR:=Aside0.mk h;clear h;go_enter Tryz.func41,Tryz.ntmps41;go_wp2;go_loopg [3] R.length (fun kq v3 wr=>∃ (p:Option Addr) (rest:List (List S70)),v3=.pointer p∧Aside0 (kq=rest.length∧RingsAt wr p rest∧Small rest∧apartAll rest=r∧Below w.heap.size w wr))
 case atStart=>exact⟨_,R,rfl,⟨rfl,hR,hS,HR.out,Below.refl _ _⟩⟩
 case round =>
  obtain⟨p,rest,rfl,H⟩:=hrel;obtain⟨hk,hr,hs,ha,hB⟩:=H.out;clear H
  cases rest with
  | nil =>
   obtain rfl:p=none:=hr;obtain rfl:true=r:=ha;clear HR;have HB:=Aside0.mk hB;clear hB hk;go_wp2;go_ret;exact⟨rfl,HB.out⟩
  | cons z rest =>
   obtain⟨b1,A1,c1,n1,rfl,hz,hrest⟩:=hr;have hn:=hz.nxt;have HZ:=a0_ (And.intro hz (And.intro hrest (And.intro hs (And.intro ha (And.intro hB hk)))));clear hz hrest hs ha hB hk HR;go_wp2;go_loopg [4] rest.length (fun kq v4 w2=>∃ (q:Option Addr) (rest2:List (List S70)),v4=.pointer q∧Aside0 (kq=rest2.length∧RingsAt w2 q rest2∧Small rest2∧((rest2.all fun y => !meetsB z y) && apartAll rest)=r∧RingAt w2 b1 A1 c1 z n1∧RingsAt w2 n1 rest∧Below w.heap.size w w2))
   case atStart =>
    obtain⟨hz,hrest,hs,ha,hB,hk⟩:=HZ.out;exact⟨n1,rest,rfl,⟨rfl,hrest,fun y hy=>hs y (List.mem_cons_of_mem _ hy),ha,hz,hrest,hB⟩⟩
   case round =>
    obtain⟨q,rest2,rfl,H⟩:=hrel;obtain⟨hk2,hr2,hs2,ha2,hz2,hrest2,hB2⟩:=H.out;clear H hn
    cases rest2 with
    | nil =>
     obtain rfl:q=none:=hr2;simp only [List.all_nil,Bool.true_and] at ha2;have hn2:=hz2.nxt;obtain⟨_,_,hs,_,_,hk⟩:=HZ.out;have HZ2:=a0_ (And.intro hrest2 (And.intro (show Small rest from fun y hy=>hs y (List.mem_cons_of_mem _ hy)) (And.intro ha2 (And.intro hB2 hk))));clear hz2 hrest2 ha2 hB2 hk2 hs2 hs hk HZ;go_wp2;obtain⟨h1,h2,h3,h4,h5⟩:=HZ2.out;go_roundg rest.length
     case measure=>rw [h5];simp
     case rel=>exact⟨n1,rest,rfl,⟨rfl,h1,h2,h3,h4⟩⟩
    | cons y rest2 =>
     obtain⟨b2,A2,c2,n2,rfl,hy,hrr⟩:=hr2;obtain⟨_,_,hs,_,_,_⟩:=HZ.out;have hsz:=hs z List.mem_cons_self;have hsy:=hs2 y List.mem_cons_self;have hny:=hy.nxt
     cases hm:meetsB z y with
     | true =>
      obtain rfl:false=r:=by rw [← ha2];simp [hm]
      have HK:=a0_ (And.intro hz2 (And.intro hy (And.intro hsz (And.intro hsy (And.intro hm hB2)))));clear hz2 hy hsz hsy hm hB2 hk2 hs2 ha2 hrest2 hrr hs HZ;go_wp2_with (go_at_call 61;refine (meets_calls b1 b2 A1 A2 n1 n2 c1 c2 z y true _ HK.out.1 HK.out.2.1 HK.out.2.2.1 HK.out.2.2.2.1 HK.out.2.2.2.2.1).mono ?_;rintro e w3 ⟨rfl,hb⟩);go_ret;exact⟨rfl,below_step HK.out.2.2.2.2.2 hb⟩
     | false =>
      have ha3:((rest2.all fun y => !meetsB z y) && apartAll rest)=r:=by rw [← ha2];simp [hm]
      have HK:=a0_ (And.intro hz2 (And.intro hy (And.intro hsz (And.intro hsy (And.intro hm (And.intro hB2 (And.intro hrr (And.intro (show Small rest2 from fun u hu=>hs2 u (List.mem_cons_of_mem _ hu)) (And.intro ha3 (And.intro hrest2 hk2))))))))));clear hz2 hy hsz hsy hm hB2 hk2 hs2 ha2 ha3 hrest2 hrr hs;go_wp2_with (go_at_call 61;refine (meets_calls b1 b2 A1 A2 n1 n2 c1 c2 z y false _ HK.out.1 HK.out.2.1 HK.out.2.2.1 HK.out.2.2.2.1 HK.out.2.2.2.2.1).mono ?_;rintro e w3 ⟨rfl,hb⟩;have hny3:=pw_cell_below hb hny);obtain⟨k1,k2,k3,k4,k5,k6,k7,k8,k9,k10,k11⟩:=HK.out;go_roundg rest2.length
      case measure=>rw [k11];simp
      case rel=>exact⟨n2,rest2,rfl,⟨rfl,k7.later hb,k8,k9,k1.later hb,k10.later hb,below_step k6 hb⟩⟩
def ptrAt (bs:List Nat)(i:Nat):Option Addr:=(bs[i]?).map fun b=>(⟨b,0,none⟩:Addr)
structure RingsIx (W:World) (bs:List Nat) (H:List (List S70)):Prop where
 len:bs.length=H.length
 nd:bs.Nodup
 ring:∀ i,i<H.length→∃ A c,RingAt W (bs.getD i 0) A c (H.getD i []) (ptrAt bs (i+1))∧W.heap[bs.getD i 0]?=some (.cells #[.slice A (H.getD i []).length c,.pointer (ptrAt bs (i+1))] 55 (0,0))
theorem RingsIx.later {W W':World}{bs:List Nat}{H:List (List S70)}(h:RingsIx W bs H)(hb:Below W.heap.size W W'):RingsIx W' bs H:=
 ⟨h.len,h.nd,fun i hi=>by obtain⟨A,c,k,o⟩:=h.ring i hi;exact⟨A,c,k.later hb,blk_later o hb⟩⟩
theorem ptrAt_some {bs:List Nat}{i:Nat}(h:i<bs.length):ptrAt bs i=some ⟨bs.getD i 0,0,none⟩:=by
 unfold ptrAt;rw [List.getD_eq_getElem?_getD,List.getElem?_eq_getElem h];rfl
theorem ptrAt_none {bs:List Nat}{i:Nat}(h:bs.length≤i):ptrAt bs i=none:=by
 unfold ptrAt;rw [List.getElem?_eq_none h];rfl
theorem RingsIx.at {W:World}{bs:List Nat}{H:List (List S70)}(h:RingsIx W bs H):∀ (n k:Nat),H.length-k=n→RingsAt W (ptrAt bs k) (H.drop k):=by
 intro n
 induction n with
 | zero =>
  intro k hk;have hl:=h.len;rw [List.drop_of_length_le (by omega),ptrAt_none (by omega)];rfl
 | succ n ih =>
  intro k hk;have hl:=h.len;have hlt:k<H.length:=by omega
  rw [ptrAt_some (by omega),List.drop_eq_getElem_cons hlt];obtain⟨A,c,hr,_⟩:=h.ring k hlt;have e:H.getD k []=H[k]:=by rw [List.getD_eq_getElem?_getD,List.getElem?_eq_getElem hlt];rfl
  rw [e] at hr;exact⟨_,A,c,_,rfl,hr,ih (k+1) (by omega)⟩
theorem infoRing:(Tryz.prog.info? 55).map (fun i=>(i.zero,i.size,i.bytes))=some (some (.agg #[.slice none 0 0,.pointer none]),2,32):=by kernel_rfl
theorem neq_same (w:World)(a:Addr):(binOp .neq 53 (.pointer (some a)) (.pointer (some a))).run Tryz.prog w=.ok (.bool false) w:=by
 obtain⟨i0,hi,hz0,hz1,hz2⟩:=info_parts infoRing;have h:∀ d:Nat,(Op.equalIn (d+1) 53 (.pointer (some a)) (.pointer (some a))).run Tryz.prog w=.ok true w:=fun d=>by
  simp [Op.equalIn,run_underlying Tryz.underlying53,sizeOf,typeInfo,hi,run_sameAddr_same]
 simp only [binOp];simp [Op.equal,Op.maxDepth,h 9999]
theorem neq_other (w:World){a b:Nat}{ca cb:Array Value}{ta tb:TypeId}(hne:a≠b)(ha:w.heap[a]?=some (.cells ca ta (0,0)))(hb:w.heap[b]?=some (.cells cb tb (0,0))):
  (binOp .neq 53 (.pointer (some ⟨a,0,none⟩)) (.pointer (some ⟨b,0,none⟩))).run Tryz.prog w=.ok (.bool true) w:=by
 obtain⟨i0,hi,hz0,hz1,hz2⟩:=info_parts infoRing;have h:∀ d:Nat,(Op.equalIn (d+1) 53 (.pointer (some ⟨a,0,none⟩)) (.pointer (some ⟨b,0,none⟩))).run Tryz.prog w=.ok false w:=fun d=>by
  have hs:=run_sameAddr_other (P:=Tryz.prog) w (a:=⟨a,0,none⟩) (b:=⟨b,0,none⟩) (by simpa using hne) ha hb;simp [Op.equalIn,run_underlying Tryz.underlying53,sizeOf,typeInfo,hi,hz1,hs]
 simp only [binOp];simp [Op.equal,Op.maxDepth,h 9999]
structure BodyAt (W:World) (b:Nat) (bs:List Nat) (o:List S70) (H:List (List S70)):Prop where
 outer:∃ A c,RingAt W b A c o (ptrAt bs 0)
 holes:RingsIx W bs H
theorem BodyAt.later {W W':World}{b:Nat}{bs:List Nat}{o:List S70}{H:List (List S70)}(h:BodyAt W b bs o H)(hb:Below W.heap.size W W'):BodyAt W' b bs o H:=
 ⟨by obtain⟨A,c,k⟩:=h.outer;exact⟨A,c,k.later hb⟩,h.holes.later hb⟩
theorem BodyAt.rings {W:World}{b:Nat}{bs:List Nat}{o:List S70}{H:List (List S70)}(h:BodyAt W b bs o H):RingsAt W (some ⟨b,0,none⟩) (o::H):=by
 obtain⟨A,c,k⟩:=h.outer;have:=h.holes.at _ 0 rfl;rw [List.drop_zero] at this;exact⟨b,A,c,_,rfl,k,this⟩
def fstP (z:List S70):Mort.Pt:=ptP (z.getD 0 z70)
def inS (z:List S70)(p:Mort.Pt):Int:=inOf (z.map ptP) p
def okN (H:List (List S70))(i j:Nat):Bool:=i==j || inS (H.getD j []) (fstP (H.getD i [])) == -1
def rowN (o:List S70)(H:List (List S70))(i:Nat):Bool:=inS o (fstP (H.getD i []))==1 && (List.range' 0 H.length).all (okN H i)
def nestedAll (o:List S70)(H:List (List S70)):Bool:=(List.range' 0 H.length).all (rowN o H)
theorem inside_told (b:Nat)(A nx:Option Addr)(c:Nat)(z:List S70)(x y:Int)(w:World)(h:RingAt w b A c z nx)(hz:loopOk (z.map ptP)=true)(hp:ptOk (x,y)=true):
  Calls Tryz.prog 62 #[.slice A z.length c,.agg #[.int .i64 x,.int .i64 y]] w fun e w'=>e=.returned (.int .i64 (inS z (x,y)))∧Below w.heap.size w w':=
 impl_insideOf.calls A c z x y _ w h.row h.cap (by unfold impl_insideOf.f;rw [if_pos ⟨hz,hp⟩];rfl)
set_option maxHeartbeats 4000000 in
set_option maxRecDepth 100000 in
theorem nested_calls (b:Nat)(bs:List Nat)(o:List S70)(H:List (List S70))(r:Bool)(w:World)(hB:BodyAt w b bs o H)(ho:loopOk (o.map ptP)=true)(hH:∀ z∈H,loopOk (z.map ptP)=true)(h:nestedAll o H=r):
  Calls Tryz.prog 42 #[.pointer (some ⟨b,0,none⟩)] w fun e w'=>e=.returned (.bool r)∧Below w.heap.size w w':=by
 have hh:∀ i,i<H.length→loopOk ((H.getD i []).map ptP)=true:=fun i hi=>by
  rw [List.getD_eq_getElem?_getD,List.getElem?_eq_getElem hi];exact hH _ (List.getElem_mem hi)
 have hpos:∀ i,i<H.length→0<(H.getD i []).length:=fun i hi=>by have:=Mort.loop_pos (hh i hi);simpa using this
 have hfst:∀ i,i<H.length→ptOk (fstP (H.getD i []))=true:=fun i hi=>by
  have h1:=((Mort.loopOk_iff _).1 (hh i hi)).2.2.1;have h2:=(Mort.segOk_iff _).1 (h1 _ (Mort.mem_edges.2 ⟨0,by have:=hpos i hi;simpa using this,rfl⟩));rw [ed_edS] at h2;exact h2.1
 clear hH;have hu28:=Tryz.underlying70;have HR:=Aside0.mk h;have HB0:=Aside0.mk hB;obtain⟨A0,c0,hout⟩:=hB.outer;have hn0:=hout.nxt;have hlen:=hB.holes.len;have HH:=a0_ (And.intro ho (And.intro hh (And.intro hpos (And.intro hfst hlen))));clear h hB hout ho hh hpos hfst hlen;go_enter Tryz.func42,Tryz.ntmps42;go_wp2;go_loopg [3] H.length (fun kq v3 wr=>∃ i:Nat,v3=.pointer (ptrAt bs i)∧Aside0 (kq=H.length-i∧i≤H.length∧BodyAt wr b bs o H∧(List.range' i (H.length-i)).all (rowN o H)=r∧Below w.heap.size w wr))
 case atStart=>exact⟨0,rfl,⟨rfl,Nat.zero_le _,HB0.out,HR.out,Below.refl _ _⟩⟩
 case round =>
  obtain⟨i,rfl,H1⟩:=hrel;obtain⟨hk,hi,hB,ha,hBw⟩:=H1.out;obtain⟨ho,hh,hpos,hfst,hlen⟩:=HH.out;clear H1 hn0;by_cases hlt:i<H.length
  ·
   obtain⟨A1,c1,hring,_⟩:=hB.holes.ring i hlt;obtain⟨A2,c2,hout⟩:=hB.outer;have hpi:=ptrAt_some (bs:=bs) (i:=i) (by omega);obtain⟨ad,hA1,hx0,hx1⟩:=at_pt hring.row 0 (hpos i hlt);have hpts:=hring.pts;have hl0:0<(H.getD i []).length:=hpos i hlt;rw [hpi];subst hA1;have p0:wr.cell? ad=some (.int .i64 ((H.getD i []).getD 0 z70).f0):=by have:=hx0;rwa [Nat.zero_mul,show ad.add 0=ad from rfl] at this
   have p1:wr.cell? ⟨ad.block,ad.off+1,none⟩=some (.int .i64 ((H.getD i []).getD 0 z70).f1):=by have:=hx1;rwa [Nat.zero_mul,show ad.add 0=ad from rfl] at this
   clear hx0 hx1;have hf0:ptOk (((H.getD i []).getD 0 z70).f0,((H.getD i []).getD 0 z70).f1)=true:=hfst i hlt;have hF:=a0_ (show fstP (H.getD i [])=(((H.getD i []).getD 0 z70).f0,((H.getD i []).getD 0 z70).f1) from rfl);generalize ((H.getD i []).getD 0 z70).f0=fx at *;generalize ((H.getD i []).getD 0 z70).f1=fy at *;have HK:=a0_ (And.intro hB (And.intro ha (And.intro hBw (And.intro hk (And.intro hring (And.intro hout (And.intro hf0 (And.intro hh ho))))))));have lo:=hout.pts;have bi1:=hring.pts;have bi2:=hring.nxt;clear hB ha hBw hk hring hout hpos hfst hlen hi hpi hf0 hh ho HB0 HR;generalize (H.getD i []).length=lz at *;generalize hbi:bs.getD i 0=bi at *;have hbi':=Aside0.mk hbi;clear hbi;go_wp2;have lo1:=pw_cell_below (below_drew1 (below_alloc (Below.refl _ wr) (.cells #[.int .i64 fx,.int .i64 fy] 70))) lo;have hb0:=below_drew1 (below_alloc (Below.refl wr.heap.size wr) (.cells #[.int .i64 fx,.int .i64 fy] 70));have nb:=World.alloc_heap_new wr (.cells #[.int .i64 fx,.int .i64 fy] 70 (0,0));have f0:((wr.alloc (.cells #[.int .i64 fx,.int .i64 fy] 70)).drew).cell? ⟨wr.heap.size,0,none⟩=some (.int .i64 fx):=(blk_cell nb 0).trans rfl;have f1:((wr.alloc (.cells #[.int .i64 fx,.int .i64 fy] 70)).drew).cell? ⟨wr.heap.size,1,none⟩=some (.int .i64 fy):=(blk_cell nb 1).trans rfl;generalize hg:wr.heap.size=g at *;go_region_held3 (fun W=>W.cell? ⟨b,0,none⟩=some (.slice A2 o.length c2)∧W.cell? ⟨g,0,none⟩=some (.int .i64 fx)∧W.cell? ⟨g,1,none⟩=some (.int .i64 fy))
    (first | exact⟨pw_cell_below hb lo1,pw_cell_below hb f0,pw_cell_below hb f1⟩ | go_keep)
    (first | (go_at_call 62;refine (inside_told b A2 _ c2 o fx fy _ (HK.out.2.2.2.2.2.1.later (hg▸hb0)) HK.out.2.2.2.2.2.2.2.2 HK.out.2.2.2.2.2.2.1).mono ?_;rintro e w3 ⟨rfl,hb⟩))
   have hBd:=HK.out.1.later (hg▸hb0);have hBd3:=hBd.later hb;have hw3:Below w.heap.size w w3:=below_step (below_step HK.out.2.2.1 (hg▸hb0)) hb;have nb3:w3.heap[g]?=some (.cells #[.int .i64 fx,.int .i64 fy] 70 (0,0)):=(hb.block g (Array.getElem?_eq_some_iff.1 nb).1).trans nb;have hall:=HK.out.2.1;obtain⟨m,hm⟩:∃ m,H.length-i=m+1:=⟨H.length-i-1,by omega⟩;rw [hm,List.range'_succ,List.all_cons] at hall;have hrow:rowN o H i=(inS o (fx,fy)==1 && (List.range' 0 H.length).all (okN H i)):=by unfold rowN;rw [hF.out]
   rw [hrow] at hall;have HL:=a0_ (And.intro hall (And.intro hm (And.intro hBd3 (And.intro hw3 (And.intro nb3 HK.out.2.2.2.1)))));have hG:=Aside0.mk hg;clear hall hm hrow hBd hBd3 hw3 nb3 nb hb0 hb lo lo1 f0 f1 bi1 bi2 p0 p1 hg hu28
   cases hin:(inS o (fx,fy)==1) with
   | false =>
    have e1:(inS o (fx,fy) != 1)=true:=by rw [bne,hin];rfl
    obtain rfl:false=r:=by rw [← HL.out.1,hin];rfl
    clear hin;go_wp2;go_ret;exact⟨rfl,HL.out.2.2.2.1⟩
   | true =>
    have e1:(inS o (fx,fy) != 1)=false:=by rw [bne,hin];rfl
    have hall2:((List.range' 0 H.length).all (okN H i) && (List.range' (i+1) m).all (rowN o H))=r:=by rw [← HL.out.1,hin];rfl
    have HA:=Aside0.mk hall2;clear hin hall2;generalize (inS o (fx,fy) != 1)=t30 at e1 ⊢
    subst e1;obtain⟨A3,c3,hout3⟩:=HL.out.2.2.1.outer;have lo2:=hout3.nxt;clear hout3;go_wp2;clear lo2;go_loopg [5] H.length (fun kq v5 w4=>∃ j:Nat,v5=.pointer (ptrAt bs j)∧Aside0 (kq=H.length-j∧j≤H.length∧BodyAt w4 b bs o H∧w4.heap[g]?=some (.cells #[.int .i64 fx,.int .i64 fy] 70 (0,0))∧((List.range' j (H.length-j)).all (okN H i) && (List.range' (i+1) m).all (rowN o H))=r∧Below w.heap.size w w4))
    case atStart=>exact⟨0,rfl,⟨rfl,Nat.zero_le _,HL.out.2.2.1,HL.out.2.2.2.2.1,HA.out,HL.out.2.2.2.1⟩⟩
    case round =>
     obtain⟨j,rfl,H2⟩:=hrel;obtain⟨hkj,hj,hBj,hgj,haj,hwj⟩:=H2.out;have HKJ:=Aside0.mk hkj;clear H2;by_cases hjlt:j<H.length
     ·
      obtain⟨A4,c4,hringj,hoj⟩:=hBj.holes.ring j hjlt;have hl:=hBj.holes.len;have hpj:=ptrAt_some (bs:=bs) (i:=j) (by omega);rw [hpj];obtain⟨m2,hm2⟩:∃ m2,H.length-j=m2+1:=⟨H.length-j-1,by omega⟩;rw [hm2,List.range'_succ,List.all_cons] at haj;by_cases hij:j=i
      ·
       subst hij;rw [hbi'.out];rw [hbi'.out] at hringj;have bj2:=hringj.nxt;have haj2:((List.range' (j+1) m2).all (okN H j) && (List.range' (j+1) m).all (rowN o H))=r:=by rw [← haj];simp [okN]
       have HJ:=a0_ (And.intro haj2 (And.intro hBj (And.intro hgj (And.intro hwj (And.intro hm2 hjlt)))));clear haj haj2 hBj hgj hwj hm2 hjlt hringj hl hpj hkj hj;have hsame:=neq_same;go_wp2;have bj3:wr.drew.cell? ⟨bi,1,none⟩=some (.pointer (ptrAt bs (j+1))):=bj2;go_region;go_wp2;obtain⟨k1,k2,k3,k4,k5,k6⟩:=HJ.out;have hdr:=below_drew1 (Below.refl wr.heap.size wr);go_roundg m2
       case measure=>have:=HKJ.out;omega
       case rel=>exact⟨j+1,rfl,⟨by omega,by omega,k2.later hdr,k3,by rw [show H.length-(j+1)=m2 by omega];exact k1,below_step k4 hdr⟩⟩
      ·
       obtain⟨A5,c5,hringi,hoi⟩:=hBj.holes.ring i hlt;rw [hbi'.out] at hoi;have hbij:bs.getD j 0≠bi:=by
        rw [← hbi'.out,List.getD_eq_getElem?_getD,List.getD_eq_getElem?_getD,List.getElem?_eq_getElem (by omega:j<bs.length),List.getElem?_eq_getElem (by omega:i<bs.length)];intro e;exact hij ((List.getElem_inj hBj.holes.nd).1 (by simpa using e))
       generalize hbj:bs.getD j 0=bj at *;have hbj':=Aside0.mk hbj;clear hbj;have bj1:=hringj.pts;have bj2:=hringj.nxt;have hneq:∀ W:World,W.heap[bj]?=some (.cells #[.slice A4 (H.getD j []).length c4,.pointer (ptrAt bs (j+1))] 55 (0,0))→W.heap[bi]?=some (.cells #[.slice A5 (H.getD i []).length c5,.pointer (ptrAt bs (i+1))] 55 (0,0)) →
         (binOp .neq 53 (.pointer (some ⟨bj,0,none⟩)) (.pointer (some ⟨bi,0,none⟩))).run Tryz.prog W=.ok (.bool true) W:=fun W h1 h2=>neq_other W hbij h1 h2
       have hin2:okN H i j=(inS (H.getD j []) (fx,fy) == -1):=by
        unfold okN;rw [hF.out,show (i==j)=false from beq_false_of_ne (Ne.symm hij)];rfl
       rw [hin2] at haj;have hu28:=Tryz.underlying70;have HJ:=a0_ (And.intro haj (And.intro hBj (And.intro hgj (And.intro hwj (And.intro hm2 (And.intro hjlt (And.intro hringj (And.intro (HK.out.2.2.2.2.2.2.2.1 j hjlt) HK.out.2.2.2.2.2.2.1))))))));clear haj hBj hwj hm2 hjlt hringj hl hpj hkj hj hringi hin2;have fb0:wr.drew.cell? ⟨g,0,none⟩=some (.int .i64 fx):=(blk_cell hgj 0).trans rfl;have fb1:wr.drew.cell? ⟨g,1,none⟩=some (.int .i64 fy):=(blk_cell hgj 1).trans rfl;have bj1':wr.drew.cell? ⟨bj,0,none⟩=some (.slice A4 (H.getD j []).length c4):=bj1;have hoj':wr.drew.heap[bj]?=some (.cells #[.slice A4 (H.getD j []).length c4,.pointer (ptrAt bs (j+1))] 55 (0,0)):=hoj;have hoi':wr.drew.heap[bi]?=some (.cells #[.slice A5 (H.getD i []).length c5,.pointer (ptrAt bs (i+1))] 55 (0,0)):=hoi;clear hgj hoj hoi bj1;generalize H.getD j []=zj at *;generalize H.getD i []=zi at *;have bj2':wr.drew.cell? ⟨bj,1,none⟩=some (.pointer (ptrAt bs (j+1))):=bj2;clear bj2
       cases hin:(inS zj (fx,fy) == -1) with
       | false =>
        have e1:(inS zj (fx,fy) != -1)=true:=by rw [bne,hin];rfl
        obtain rfl:false=r:=by rw [← HJ.out.1,hin];rfl
        clear hin;go_wp2;go_region_held3 (fun W=>W.cell? ⟨g,0,none⟩=some (.int .i64 fx)∧W.cell? ⟨g,1,none⟩=some (.int .i64 fy)∧W.cell? ⟨bj,0,none⟩=some (.slice A4 zj.length c4)∧W.heap[bj]?=some (.cells #[.slice A4 zj.length c4,.pointer (ptrAt bs (j+1))] 55 (0,0))∧W.heap[bi]?=some (.cells #[.slice A5 zi.length c5,.pointer (ptrAt bs (i+1))] 55 (0,0)))
         (first | exact⟨pw_cell_below hb fb0,pw_cell_below hb fb1,pw_cell_below hb bj1',blk_later hoj' hb,blk_later hoi' hb⟩ | go_keep)
         (first | (go_at_call 62;refine (inside_told bj A4 _ c4 zj fx fy _ (HJ.out.2.2.2.2.2.2.1.later (below_drew1 (Below.refl wr.heap.size wr))) HJ.out.2.2.2.2.2.2.2.1 HJ.out.2.2.2.2.2.2.2.2).mono ?_;rintro e w5 ⟨rfl,hb⟩;have bj5:=pw_cell_below hb bj2'))
        go_wp2;go_ret;exact⟨rfl,below_step (below_drew1 HJ.out.2.2.2.1) hb⟩
       | true =>
        have e1:(inS zj (fx,fy) != -1)=false:=by rw [bne,hin];rfl
        have haj2:((List.range' (j+1) m2).all (okN H i) && (List.range' (i+1) m).all (rowN o H))=r:=by rw [← HJ.out.1,hin];rfl
        have HA2:=Aside0.mk haj2;clear hin haj2;go_wp2;go_region_held3 (fun W=>W.cell? ⟨g,0,none⟩=some (.int .i64 fx)∧W.cell? ⟨g,1,none⟩=some (.int .i64 fy)∧W.cell? ⟨bj,0,none⟩=some (.slice A4 zj.length c4)∧W.heap[bj]?=some (.cells #[.slice A4 zj.length c4,.pointer (ptrAt bs (j+1))] 55 (0,0))∧W.heap[bi]?=some (.cells #[.slice A5 zi.length c5,.pointer (ptrAt bs (i+1))] 55 (0,0)))
         (first | exact⟨pw_cell_below hb fb0,pw_cell_below hb fb1,pw_cell_below hb bj1',blk_later hoj' hb,blk_later hoi' hb⟩ | go_keep)
         (first | (go_at_call 62;refine (inside_told bj A4 _ c4 zj fx fy _ (HJ.out.2.2.2.2.2.2.1.later (below_drew1 (Below.refl wr.heap.size wr))) HJ.out.2.2.2.2.2.2.2.1 HJ.out.2.2.2.2.2.2.2.2).mono ?_;rintro e w5 ⟨rfl,hb⟩;have bj5:=pw_cell_below hb bj2'))
        go_wp2;obtain⟨k1,k2,k3,k4,k5,k6,_⟩:=HJ.out;have hdr:=below_drew1 (Below.refl wr.heap.size wr);go_roundg m2
        case measure=>have:=HKJ.out;omega
        case rel=>exact⟨j+1,rfl,⟨by omega,by omega,(k2.later hdr).later hb,(hb.block g (Array.getElem?_eq_some_iff.1 k3).1).trans k3,by rw [show H.length-(j+1)=m2 by omega];exact HA2.out,below_step (below_drew1 k4) hb⟩⟩
     ·
      obtain rfl:j=H.length:=by omega
      have hl:=hBj.holes.len;rw [ptrAt_none (by omega)];rw [Nat.sub_self,List.range'_zero,List.all_nil,Bool.true_and] at haj;obtain⟨A6,c6,hring6,_⟩:=hBj.holes.ring i hlt;rw [hbi'.out] at hring6;have bi6:=hring6.nxt;have HJ:=a0_ (And.intro haj (And.intro hBj hwj));clear haj hBj hwj hring6 hl hkj hj hjlt;go_wp2;obtain⟨k1,k2,k3⟩:=HJ.out;go_roundg m
      case measure=>have:=HL.out.2.1;have:=HL.out.2.2.2.2.2;omega
      case rel=>exact⟨i+1,rfl,⟨by have:=HL.out.2.1;omega,by omega,k2,by rw [show H.length-(i+1)=m by have:=HL.out.2.1;omega];exact k1,k3⟩⟩
  ·
   obtain rfl:i=H.length:=by omega
   rw [Nat.sub_self,List.range'_zero,List.all_nil] at ha;obtain rfl:=ha;rw [ptrAt_none (by omega)];have HW:=Aside0.mk hBw;clear hBw hB hk hi hh hpos hfst HB0 HR HH hlt;go_wp2;go_ret;exact⟨rfl,HW.out⟩
end Go.Proofs.YtailkppkjhkjpaaGreatDoor.X
end
section
set_option linter.unusedVariables false
set_option linter.unusedSimpArgs false
namespace Go.Proofs.YtailkppkjhkjpaaGreatDoor.X
open Go.RowKit Go.Shelf Go.Proofs.YtailkppkjhkjpaaGreatDoorW.PrintWords Go.Proofs.YtailkppkjhkjpaaGreatDoorW.PrintLast Go.Proofs.YtailkppkjhkjpaaGreatDoorW.PrintMore
section
variable {l n:Nat} {P:Program} {ops:Array Oper} {Q:Exit→Act→World→Prop}
theorem upon_inRound {o:Oper}{a:Act}{K:Act→World→Prop}{r:Result Next}(h:o.upon P a K Q r):o.uponIn (Fence.wide.inRound l) n P a K Q r:=by
 cases r with
 | ok x w' =>
  cases x with
  | value v=>exact h
  | skip=>exact h
  | defer d=>exact h
  | enter f args=>exact⟨fun hd=>(by cases hd),CallsIn.inRound l (callsIn_wide.2 h)⟩
  | row rw_ args=>exact⟨fun hd=>(by cases hd),fun c cs _=>by obtain⟨v,w1,h1,h2⟩:=h c cs;exact⟨v,w1,h1,stepsIn_wide.2 h2⟩⟩
  | _=>exact h.elim
 | halt x w'=>cases x <;> exact h
theorem wpOps_inRound (hd:∀ (i:Nat) (o:Oper),ops[i]?=some o→∀ c,o.op≠.defer c)(hno:LetsOut Q→False):∀ (is:List Nat) (a:Act) (w:World),wpOps P ops Q is a w→wpOpsIn (Fence.wide.inRound l) n P ops Q is a w:=by
 intro is
 induction is with
 | nil=>exact fun a w h=>h
 | cons i rest ih =>
  intro a w h;simp only [wpOps] at h;simp only [wpOpsIn]
  cases ho:ops[i]? with
  | none=>rw [ho] at h;exact ih a w h
  | some o =>
   rw [ho] at h;simp only at h ⊢
   split at h
   ·
    rename_i hw
    rw [if_pos hw]
    rcases h with h | ⟨_,h⟩
    ·
     refine⟨fun _ _=>trivial,?_⟩;rw [show (Fence.wide.inRound l).round=some l from rfl,Oper.semAt_some l _ o (hd i o ho)];refine upon_inRound ?_;exact Oper.wp_mono (fun a w h=>ih a w h) h
    ·
     exact (hno h).elim
   ·
    rename_i hw
    rw [if_neg hw];exact⟨fun _ _=>trivial,ih _ _ h⟩
theorem region_inRound {id k:Nat}{S:World→Prop}{ds:List Nat}{a:Act}{w:World}(lst:Array Bool)(hm:P.follows .mixedOrders=true)(hn:ops.size=k)(hl:Array.replicate k false=lst)
  (hd:∀ (i:Nat) (o:Oper),ops[i]?=some o→∀ c,o.op≠.defer c) (hno:LetsOut Q→False) (hS:S w.drew) (h:S w.drew→wpAnyLast P .any ops Q S ds k lst a w.drew) :
  (Code.region id ops true).wpIn (Fence.wide.inRound l) n P Q a w:=by
 subst hn;subst hl;refine wpIn_region_draw fun t=>wpOps_inRound hd hno _ _ _ ?_
 simp only [Region.schedule,hm,Bool.true_or,if_true];exact wpAny_sound ops.size t _ a _ (wpAny_of_last _ _ _ _ (h hS))
end
structure Built (w W:World) (n₀ bb:Nat) (bs:List Nat) (A0:Option Addr) (c0:Nat) (o:List S70) (H:List (List S70)) (v:Value):Prop where
 body:W.heap[bb]?=some (.cells #[.slice A0 o.length c0,.pointer (ptrAt bs 0),v] 58 (0,0))
 lo:n₀≤bb
 len:bs.length=H.length
 nd:(bb::bs).Nodup
 ring:∀ j,j<H.length→n₀≤bs.getD j 0∧∃ A c,W.heap[bs.getD j 0]?=some (.cells #[.slice A (H.getD j []).length c,.pointer (ptrAt bs (j+1))] 55 (0,0))∧Kd.C k70 w A (H.getD j []).length (H.getD j [])∧(H.getD j []).length≤c
theorem Built.later {w W W':World}{n₀ bb:Nat}{bs:List Nat}{A0:Option Addr}{c0:Nat}{o:List S70}{H:List (List S70)}{v:Value}(h:Built w W n₀ bb bs A0 c0 o H v)(hb:Below W.heap.size W W'):Built w W' n₀ bb bs A0 c0 o H v:=
 ⟨blk_later h.body hb,h.lo,h.len,h.nd,fun j hj=>by obtain⟨l,A,c,k1,k2,k3⟩:=h.ring j hj;exact⟨l,A,c,blk_later k1 hb,k2,k3⟩⟩
theorem getD_lt {α:Type}{l:List α}{i:Nat}{d:α}(h:i<l.length):l.getD i d=l[i]:=by rw [List.getD_eq_getElem?_getD,List.getElem?_eq_getElem h];rfl
theorem getD_snoc_lt {α:Type}{l:List α}{x d:α}{i:Nat}(h:i<l.length):(l++[x]).getD i d=l.getD i d:=by
 rw [List.getD_eq_getElem?_getD,List.getD_eq_getElem?_getD,List.getElem?_append_left h]
theorem getD_snoc_eq {α:Type}{l:List α}{x d:α}:(l++[x]).getD l.length d=x:=by
 rw [List.getD_eq_getElem?_getD,List.getElem?_append_right (Nat.le_refl _),Nat.sub_self];rfl
theorem ptrAt_snoc_lt {bs:List Nat}{q i:Nat}(h:i<bs.length):ptrAt (bs++[q]) i=ptrAt bs i:=by unfold ptrAt;rw [List.getElem?_append_left h]
theorem ptrAt_snoc_eq {bs:List Nat}{q:Nat}:ptrAt (bs++[q]) bs.length=some ⟨q,0,none⟩:=by unfold ptrAt;rw [List.getElem?_append_right (Nat.le_refl _),Nat.sub_self];rfl
def lastOf (bb:Nat)(bs:List Nat):Nat:=(bb::bs).getD bs.length 0
theorem lastOf_pos {bb:Nat}{bs:List Nat}(h:0<bs.length):lastOf bb bs=bs.getD (bs.length-1) 0:=by
 unfold lastOf;obtain⟨m,hm⟩:∃ m,bs.length=m+1:=⟨bs.length-1,by omega⟩;rw [hm];simp
theorem lastOf_snoc (bb q:Nat)(bs:List Nat):lastOf bb (bs++[q])=q:=by
 unfold lastOf;rw [List.length_append,← List.cons_append];exact getD_snoc_eq (l:=bb::bs)
theorem Built.last_cells {w W:World}{n₀ bb:Nat}{bs:List Nat}{A0:Option Addr}{c0:Nat}{o:List S70}{H:List (List S70)}{v:Value}(h:Built w W n₀ bb bs A0 c0 o H v):
  ∃ (y:Value) (cs:List Value) (t:TypeId),W.heap[lastOf bb bs]?=some (.cells (#[y,.pointer none]++cs.toArray) t (0,0))∧n₀≤lastOf bb bs:=by
 cases bs with
 | nil=>exact⟨_,[v],_,h.body,h.lo⟩
 | cons q qs =>
  have hp:0<(q::qs).length:=by simp
  rw [lastOf_pos hp];have hl:=h.len;obtain⟨l,A,c,k1,_⟩:=h.ring ((q::qs).length-1) (by omega);rw [show (q::qs).length-1+1=(q::qs).length by omega,ptrAt_none (Nat.le_refl _)] at k1;exact⟨_,[],_,k1,l⟩
theorem Built.push {w W:World}{n₀ bb:Nat}{bs:List Nat}{A0:Option Addr}{c0:Nat}{o:List S70}{H:List (List S70)}{v:Value}(h:Built w W n₀ bb bs A0 c0 o H v)(A:Option Addr)(c:Nat)(z:List S70)(hz:Kd.C k70 w A z.length z)(hc:z.length≤c)(hn:n₀≤W.heap.size):
  Built w ((W.alloc (.cells #[.slice A z.length c,.pointer none] 55)).setCell ⟨lastOf bb bs,1,none⟩ (.pointer (some ⟨W.heap.size,0,none⟩))) n₀ bb (bs++[W.heap.size]) A0 c0 o (H++[z]) v:=by
 have hl:=h.len;have hnd:=h.nd;have hblt:∀ j,j<H.length→bs.getD j 0<W.heap.size:=fun j hj=>by obtain⟨_,_,_,k1,_⟩:=h.ring j hj;exact (Array.getElem?_eq_some_iff.1 k1).1
 have hbb:bb<W.heap.size:=(Array.getElem?_eq_some_iff.1 h.body).1;have hq:W.heap.size ∉ bb::bs:=by
  intro hm
  rcases List.mem_cons.1 hm with e | hm
  ·
   omega
  ·
   obtain⟨j,hj,e⟩:=List.getElem_of_mem hm;have:=hblt j (by omega);rw [getD_lt hj,e] at this;omega
 have hlast:lastOf bb bs∈bb::bs:=by
  unfold lastOf;rw [getD_lt (by simp)];exact List.getElem_mem _
 have far:∀ k,k≠lastOf bb bs→∀ ob,W.heap[k]?=some ob→((W.alloc (.cells #[.slice A z.length c,.pointer none] 55)).setCell ⟨lastOf bb bs,1,none⟩ (.pointer (some ⟨W.heap.size,0,none⟩))).heap[k]?=some ob:=fun k hk ob hob=>by
  rw [Below.heap_setCell _ _ _ _ hk];exact blk_alloc' hob _
 refine⟨?_,h.lo,by simp [hl],?_,?_⟩
 ·
  cases bs with
  | nil =>
   have:=blk_put (cs:=#[.slice A0 o.length c0,.pointer none,v]) (blk_alloc' h.body (.cells #[.slice A z.length c,.pointer none] 55)) 1 (.pointer (some ⟨W.heap.size,0,none⟩)) rfl;exact this
  | cons q qs =>
   have e:ptrAt (q::qs++[W.heap.size]) 0=ptrAt (q::qs) 0:=ptrAt_snoc_lt (by simp);rw [e];refine far bb ?_ _ h.body;rw [lastOf_pos (by simp)];intro e2;rw [List.nodup_cons] at hnd;refine hnd.1 ?_;rw [e2,getD_lt (by simp)];exact List.getElem_mem _
 ·
  rw [← List.cons_append,List.nodup_append];exact⟨hnd,by simp,fun a ha b hb=>by simp at hb;subst hb;intro e;subst e;exact hq ha⟩
 ·
  intro j hj;rw [List.length_append] at hj;by_cases hlt:j<H.length
  ·
   obtain⟨l,A1,c1,k1,k2,k3⟩:=h.ring j hlt;rw [getD_snoc_lt hlt,getD_snoc_lt (by omega:j<bs.length)];refine⟨l,A1,c1,?_,k2,k3⟩;by_cases he:j+1=H.length
   ·
    have e1:lastOf bb bs=bs.getD j 0:=by rw [lastOf_pos (by omega)];congr 1;omega
    rw [show j+1=bs.length by omega,ptrAt_snoc_eq,e1];rw [show j+1=bs.length by omega,ptrAt_none (Nat.le_refl _)] at k1;exact blk_put (cs:=#[.slice A1 (H.getD j []).length c1,.pointer none]) (blk_alloc' k1 (.cells #[.slice A z.length c,.pointer none] 55)) 1 (.pointer (some ⟨W.heap.size,0,none⟩)) rfl
   ·
    rw [ptrAt_snoc_lt (by omega)];refine far _ ?_ _ k1;rw [lastOf_pos (by omega)];rw [List.nodup_cons] at hnd;rw [getD_lt (by omega),getD_lt (by omega)];intro e;have:=(List.getElem_inj hnd.2).1 e;omega
  ·
   have e:j=H.length:=by simp at hj;omega
   subst e;rw [getD_snoc_eq,← hl,getD_snoc_eq,ptrAt_none (by simp)];refine⟨hn,A,c,?_,hz,hc⟩;rw [Below.heap_setCell _ _ _ _ (by intro e;simp only at e;rw [← e] at hlast;exact hq hlast)];exact World.alloc_heap_new W _
theorem Built.bodyAt {w W:World}{bb:Nat}{bs:List Nat}{A0:Option Addr}{c0:Nat}{o:List S70}{H:List (List S70)}{v:Value}(h:Built w W w.heap.size bb bs A0 c0 o H v)(hb:Below w.heap.size w W)(ho:Kd.C k70 w A0 o.length o)(hc:o.length≤c0):
  BodyAt W bb bs o H:=
 ⟨⟨A0,c0,(blk_cell h.body 0).trans rfl,(blk_cell h.body 1).trans rfl,Kd.C_below ho hb,hc⟩,h.len,(List.nodup_cons.1 h.nd).2,fun j hj=>by
  obtain⟨l,A,c,k1,k2,k3⟩:=h.ring j hj
  exact⟨A,c,⟨(blk_cell k1 0).trans rfl,(blk_cell k1 1).trans rfl,Kd.C_below k2 hb,k3⟩,k1⟩⟩
end Go.Proofs.YtailkppkjhkjpaaGreatDoor.X
end
