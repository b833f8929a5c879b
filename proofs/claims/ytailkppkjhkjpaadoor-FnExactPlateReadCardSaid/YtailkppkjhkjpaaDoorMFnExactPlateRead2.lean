/- FnExactPlateRead: the law returns true for every input, and each input reads behind the call as before; part 2 of 4. No condition. Merged by program out of: Squeeze, LaidT, K, HEdges, Geo, FSpecL6In, State, EvFrac, Q, EvSeg, FImplJoined, HLoop, HMeets, Cross, HInside. -/
import Derived.Test.YtailkppkjhkjpaaDoorMFnExactPlateRead1
import Derived.ChangeSame
import Derived.ChangeVars
import Derived.JoinedOf
import Derived.RowKit
import Derived.RowKitTokens
import Derived.LaidLaws
import Derived.WalkSmall
import Derived.Test.YtailkppkjhkjpaaDoorRows
import Derived.Test.YtailkppkjhkjpaaDoorCards
import Derived.Test.YtailkppkjhkjpaaDoorTie
import Derived.Below
import Derived.Deep.Draws
import Derived.Deep.AppendLies
import Derived.Maps.AppendAt
import Derived.OwnWalk
import Derived.Laws.BytesArg
import Derived.Laws.MakeOwn
import Derived.Laws.OwnMore
import Derived.Deep.OwnRows
import Derived.Tactics
import Derived.Lib.ConvBytes
import Derived.Laws.Slices
import Derived.WalkKit
import Derived.KernelRfl
import Derived.RowKit3
import Derived.Deep.LoopGhost
import Derived.Deep.QuietTactic
import Derived.BigQuiet
import Derived.WideLaws
import Derived.Deep.DeepCutAuto
import Derived.Deep.CutBlock
import Derived.Deep.RegionHeld3
import Derived.Laws.Rows
import Derived.Lib.AppendStr
import Derived.ArgAppend
import Derived.Laws.IdiomCopy
import Derived.OrdersHeld
import Derived.Laws.BitsLemmas
import Derived.Test.YtailkppkjhkjpaaDoorProg
import Derived.RangeFuncNested
import Derived.RangeFuncBound
import Derived.RangeFuncLeaves
import Derived.Shelf.Abstract
import Derived.OwnWalkIn
import Derived.TacticsInMore
import Derived.LoopNIn
import Derived.LoopIn
import Derived.BigRegionIn
import Derived.Stop.RegionWithIn
import Derived.IntWalk
import Derived.Laws.Bits64
import Derived.LaidEqlPtr
import Derived.RegionTactic
import Derived.BigRegion
import Derived.BigGuard
import Derived.Lib.SplitLaws
import Derived.Lib.Join
import Derived.Lib.Strings
import Derived.Shelf.Strings.OnBuilder
import Derived.Shelf.Strings.BuilderK
import Derived.Shelf.LaysM
import Derived.Shelf.Strconv.Itoa3
import Derived.Shelf.Strings.Prefix
import Derived.Shelf.Strings.Split
import Derived.SizedLaws
import Derived.ChangeSlices
import Derived.ProofKit
import Derived.OpenShut
import Derived.ShutString
import Derived.ChangeOld
import Derived.SevenTiedAt
set_option linter.all false
section
set_option linter.unusedVariables false
namespace Go.Proofs.YtailkppkjhkjpaaDoor.X
open Go.RowKit Go.Proofs.YtailkppkjhkjpaaDoorW.PrintWords Go.Proofs.YtailkppkjhkjpaaDoorW.PrintLast Go.Proofs.YtailkppkjhkjpaaDoorW.PrintMore
theorem uq_ {P:Prop}(h:P:=by (with_reducible repeat (first | refine blk_drewN ?_ _ | refine blk_drew ?_ | refine blk_alloc ?_ _));refine Aside0.out ?_;assumption):P:=h
theorem hB_ {P:Prop}(h:P:=by repeat (first | (with_reducible first | exact HB.out | apply below_alloc | apply pw_below_drewN | apply below_drew1 | refine below_set ?_ (Aside0.out (by assumption))) | exact HB.out)):P:=h
theorem ma_ {P:Prop}(h:P:=by (try simp only [List.map_toArray,List.map_cons,List.map_nil]);first | done | rfl | (simp only [List.length_drop,List.length_take];rfl)):P:=h
theorem bc_ {w:World}{g i:Nat}{t:TypeId}{cs:Array Value}{v:Value}(h:w.heap[g]?=some (.cells cs t (0,0)):=by refine Aside0.out ?_;assumption)(e:cs[i]?=some v:=by rfl):w.cell? ⟨g,i,none⟩=some v:=(blk_cell h i).trans e
def bmL:Nat→Nat→List Bool
  | 0,_=>[]
  | n+1,m=>(m % 2==1)::bmL n (m / 2)
def bm (n m:Nat):Array Bool:=⟨bmL n m⟩
theorem pu_ {P:Program}{ops:Array Oper}{Q:Exit→Act→World→Prop}{md:Region.Mode}{S:World→Prop}{ds:List Nat}{T:Bool × List (List Nat × List Nat)}{oi:Oper}{v:Value}{fuel:Nat}{l:Array Bool}{a a':Act}{w:World}(HT:Aside0 (rtab md ops=T))(i N:Nat)(l':Array Bool)(h:wpAnyLast P md ops Q S ds fuel l' a' w)(hi:ops[i]?=some oi:=by rfl)(hN:oi.dst=some N:=by rfl)(hc:anyT T l.toList l'.toList i=true:=by kernel_rfl)(hw:Region.wanted oi (yielded ops a.tmps)=true:=by rfl)(hr:∀ w',(execOp a.eval oi).run P w'=.ok (.value v) w':=by (intro w';go_simp;with_reducible rfl))(ha:a.put (some N) v=a':=by (simp only [Act.put,List.setIfInBounds_toArray,List.set_cons_zero,List.set_cons_succ,i64_w,i32_w];rfl))(hQ:∀ c a w,Q (.panic c) (a.put oi.dst v) w→Q (.panic c) a w:=by exact fun _ _ _ h=>h):wpAnyLast P md ops Q S ds (fuel+1) l a w:=pure_ l' hi hN (any_of HT.out hc) hQ (Or.inl ⟨hw,hr⟩) ha h
theorem pv_ {P:Program}{ops:Array Oper}{Q:Exit→Act→World→Prop}{md:Region.Mode}{S:World→Prop}{ds:List Nat}{oi:Oper}{v:Value}{fuel:Nat}{l:Array Bool}{a a':Act}{w:World}(i N:Nat)(l':Array Bool)(h:wpAnyLast P md ops Q S ds fuel l' a' w)(hi:ops[i]?=some oi:=by rfl)(hN:oi.dst=some N:=by rfl)(hc:anyB md ops l l' i=true:=by kernel_rfl)(hw:Region.wanted oi (yielded ops a.tmps)=true:=by rfl)(hr:∀ w',(execOp a.eval oi).run P w'=.ok (.value v) w':=by (intro w';go_simp;with_reducible rfl))(ha:a.put (some N) v=a':=by (simp only [Act.put,List.setIfInBounds_toArray,List.set_cons_zero,List.set_cons_succ,i64_w,i32_w];rfl))(hQ:∀ c a w,Q (.panic c) (a.put oi.dst v) w→Q (.panic c) a w:=by exact fun _ _ _ h=>h):wpAnyLast P md ops Q S ds (fuel+1) l a w:=pure_ l' hi hN hc hQ (Or.inl ⟨hw,hr⟩) ha h
theorem pz_ {P:Program}{ops:Array Oper}{Q:Exit→Act→World→Prop}{md:Region.Mode}{S:World→Prop}{ds:List Nat}{T:Bool × List (List Nat × List Nat)}{oi:Oper}{fuel:Nat}{l:Array Bool}{a a':Act}{w:World}(HT:Aside0 (rtab md ops=T))(i N:Nat)(l':Array Bool)(h:wpAnyLast P md ops Q S ds fuel l' a' w)(hi:ops[i]?=some oi:=by rfl)(hN:oi.dst=some N:=by rfl)(hc:anyT T l.toList l'.toList i=true:=by kernel_rfl)(hw:Region.wanted oi (yielded ops a.tmps)=false:=by rfl)(ha:a.put (some N) undef=a':=by (simp only [Act.put,List.setIfInBounds_toArray,List.set_cons_zero,List.set_cons_succ,i64_w,i32_w];rfl))(hQ:∀ c a w,Q (.panic c) (a.put oi.dst undef) w→Q (.panic c) a w:=by exact fun _ _ _ h=>h):wpAnyLast P md ops Q S ds (fuel+1) l a w:=pure_ l' hi hN (any_of HT.out hc) hQ (Or.inr ⟨hw,rfl⟩) ha h
theorem ta2_ {P:Program}{ops:Array Oper}{Q:Exit→Act→World→Prop}{md:Region.Mode}{S:World→Prop}{ds:List Nat}{T:Bool × List (List Nat × List Nat)}{B:List Nat}{oi:Oper}{v:Value}{fuel:Nat}{l:Array Bool}{a a':Act}{w:World}(HT:Aside0 (rtab md ops=T))(HW:Aside0 (waitsOk T.2 B=true))(i N:Nat)(l':Array Bool)(hS:S w)(h:wpAnyLast P md ops Q S ds fuel l' a' w)(hi:ops[i]?=some oi:=by rfl)(hN:oi.dst=some N:=by rfl)(hc:takeW T B ds l.toList l'.toList i=true:=by kernel_rfl)(hw:Region.wanted oi (yielded ops a.tmps)=true:=by rfl)(hr:∀ w',S w'→(execOp a.eval oi).run P w'=.ok (.value v) w':=by (rintro w' ⟨s0,s1⟩;go_simp;with_reducible rfl))(ha:a.put (some N) v=a':=by (simp only [Act.put,List.setIfInBounds_toArray,List.set_cons_zero,List.set_cons_succ,i64_w,i32_w];rfl))(hQ:∀ c a w,Q (.panic c) (a.put oi.dst v) w→Q (.panic c) a w:=by exact fun _ _ _ h=>h):wpAnyLast P md ops Q S ds (fuel+1) l a w:=take_ l' hi hN (take_ofW HT.out HW.out hc) hQ (Or.inl ⟨hw,hr⟩) hS ha h
theorem ta3_ {P:Program}{ops:Array Oper}{Q:Exit→Act→World→Prop}{md:Region.Mode}{S:World→Prop}{ds:List Nat}{T:Bool × List (List Nat × List Nat)}{B:List Nat}{oi:Oper}{v:Value}{fuel:Nat}{l:Array Bool}{a a':Act}{w:World}(HT:Aside0 (rtab md ops=T))(HW:Aside0 (waitsOk T.2 B=true))(i N:Nat)(l':Array Bool)(hS:S w)(h:wpAnyLast P md ops Q S ds fuel l' a' w)(hi:ops[i]?=some oi:=by rfl)(hN:oi.dst=some N:=by rfl)(hc:takeW T B ds l.toList l'.toList i=true:=by kernel_rfl)(hw:Region.wanted oi (yielded ops a.tmps)=true:=by rfl)(hr:∀ w',S w'→(execOp a.eval oi).run P w'=.ok (.value v) w':=by (rintro w' ⟨s0,s1,s2⟩;go_simp;with_reducible rfl))(ha:a.put (some N) v=a':=by (simp only [Act.put,List.setIfInBounds_toArray,List.set_cons_zero,List.set_cons_succ,i64_w,i32_w];rfl))(hQ:∀ c a w,Q (.panic c) (a.put oi.dst v) w→Q (.panic c) a w:=by exact fun _ _ _ h=>h):wpAnyLast P md ops Q S ds (fuel+1) l a w:=take_ l' hi hN (take_ofW HT.out HW.out hc) hQ (Or.inl ⟨hw,hr⟩) hS ha h
theorem ta4_ {P:Program}{ops:Array Oper}{Q:Exit→Act→World→Prop}{md:Region.Mode}{S:World→Prop}{ds:List Nat}{T:Bool × List (List Nat × List Nat)}{B:List Nat}{oi:Oper}{v:Value}{fuel:Nat}{l:Array Bool}{a a':Act}{w:World}(HT:Aside0 (rtab md ops=T))(HW:Aside0 (waitsOk T.2 B=true))(i N:Nat)(l':Array Bool)(hS:S w)(h:wpAnyLast P md ops Q S ds fuel l' a' w)(hi:ops[i]?=some oi:=by rfl)(hN:oi.dst=some N:=by rfl)(hc:takeW T B ds l.toList l'.toList i=true:=by kernel_rfl)(hw:Region.wanted oi (yielded ops a.tmps)=true:=by rfl)(hr:∀ w',S w'→(execOp a.eval oi).run P w'=.ok (.value v) w':=by (rintro w' ⟨s0,s1,s2,s3⟩;go_simp;with_reducible rfl))(ha:a.put (some N) v=a':=by (simp only [Act.put,List.setIfInBounds_toArray,List.set_cons_zero,List.set_cons_succ,i64_w,i32_w];rfl))(hQ:∀ c a w,Q (.panic c) (a.put oi.dst v) w→Q (.panic c) a w:=by exact fun _ _ _ h=>h):wpAnyLast P md ops Q S ds (fuel+1) l a w:=take_ l' hi hN (take_ofW HT.out HW.out hc) hQ (Or.inl ⟨hw,hr⟩) hS ha h
theorem ta6_ {P:Program}{ops:Array Oper}{Q:Exit→Act→World→Prop}{md:Region.Mode}{S:World→Prop}{ds:List Nat}{T:Bool × List (List Nat × List Nat)}{B:List Nat}{oi:Oper}{v:Value}{fuel:Nat}{l:Array Bool}{a a':Act}{w:World}(HT:Aside0 (rtab md ops=T))(HW:Aside0 (waitsOk T.2 B=true))(i N:Nat)(l':Array Bool)(hS:S w)(h:wpAnyLast P md ops Q S ds fuel l' a' w)(hi:ops[i]?=some oi:=by rfl)(hN:oi.dst=some N:=by rfl)(hc:takeW T B ds l.toList l'.toList i=true:=by kernel_rfl)(hw:Region.wanted oi (yielded ops a.tmps)=true:=by rfl)(hr:∀ w',S w'→(execOp a.eval oi).run P w'=.ok (.value v) w':=by (rintro w' ⟨s0,s1,s2,s3,s4,s5⟩;go_simp;with_reducible rfl))(ha:a.put (some N) v=a':=by (simp only [Act.put,List.setIfInBounds_toArray,List.set_cons_zero,List.set_cons_succ,i64_w,i32_w];rfl))(hQ:∀ c a w,Q (.panic c) (a.put oi.dst v) w→Q (.panic c) a w:=by exact fun _ _ _ h=>h):wpAnyLast P md ops Q S ds (fuel+1) l a w:=take_ l' hi hN (take_ofW HT.out HW.out hc) hQ (Or.inl ⟨hw,hr⟩) hS ha h
theorem tb6_ {P:Program}{ops:Array Oper}{Q:Exit→Act→World→Prop}{md:Region.Mode}{S:World→Prop}{ds:List Nat}{oi:Oper}{v:Value}{fuel:Nat}{l:Array Bool}{a a':Act}{w:World}(i N:Nat)(l':Array Bool)(hS:S w)(h:wpAnyLast P md ops Q S ds fuel l' a' w)(hi:ops[i]?=some oi:=by rfl)(hN:oi.dst=some N:=by rfl)(hc:takeB md ops ds l l' i=true:=by kernel_rfl)(hw:Region.wanted oi (yielded ops a.tmps)=true:=by rfl)(hr:∀ w',S w'→(execOp a.eval oi).run P w'=.ok (.value v) w':=by (rintro w' ⟨s0,s1,s2,s3,s4,s5⟩;go_simp;with_reducible rfl))(ha:a.put (some N) v=a':=by (simp only [Act.put,List.setIfInBounds_toArray,List.set_cons_zero,List.set_cons_succ,i64_w,i32_w];rfl))(hQ:∀ c a w,Q (.panic c) (a.put oi.dst v) w→Q (.panic c) a w:=by exact fun _ _ _ h=>h):wpAnyLast P md ops Q S ds (fuel+1) l a w:=take_ l' hi hN hc hQ (Or.inl ⟨hw,hr⟩) hS ha h
theorem ta8_ {P:Program}{ops:Array Oper}{Q:Exit→Act→World→Prop}{md:Region.Mode}{S:World→Prop}{ds:List Nat}{T:Bool × List (List Nat × List Nat)}{B:List Nat}{oi:Oper}{v:Value}{fuel:Nat}{l:Array Bool}{a a':Act}{w:World}(HT:Aside0 (rtab md ops=T))(HW:Aside0 (waitsOk T.2 B=true))(i N:Nat)(l':Array Bool)(hS:S w)(h:wpAnyLast P md ops Q S ds fuel l' a' w)(hi:ops[i]?=some oi:=by rfl)(hN:oi.dst=some N:=by rfl)(hc:takeW T B ds l.toList l'.toList i=true:=by kernel_rfl)(hw:Region.wanted oi (yielded ops a.tmps)=true:=by rfl)(hr:∀ w',S w'→(execOp a.eval oi).run P w'=.ok (.value v) w':=by (rintro w' ⟨s0,s1,s2,s3,s4,s5,s6,s7⟩;go_simp;with_reducible rfl))(ha:a.put (some N) v=a':=by (simp only [Act.put,List.setIfInBounds_toArray,List.set_cons_zero,List.set_cons_succ,i64_w,i32_w];rfl))(hQ:∀ c a w,Q (.panic c) (a.put oi.dst v) w→Q (.panic c) a w:=by exact fun _ _ _ h=>h):wpAnyLast P md ops Q S ds (fuel+1) l a w:=take_ l' hi hN (take_ofW HT.out HW.out hc) hQ (Or.inl ⟨hw,hr⟩) hS ha h
theorem ta9_ {P:Program}{ops:Array Oper}{Q:Exit→Act→World→Prop}{md:Region.Mode}{S:World→Prop}{ds:List Nat}{T:Bool × List (List Nat × List Nat)}{B:List Nat}{oi:Oper}{v:Value}{fuel:Nat}{l:Array Bool}{a a':Act}{w:World}(HT:Aside0 (rtab md ops=T))(HW:Aside0 (waitsOk T.2 B=true))(i N:Nat)(l':Array Bool)(hS:S w)(h:wpAnyLast P md ops Q S ds fuel l' a' w)(hi:ops[i]?=some oi:=by rfl)(hN:oi.dst=some N:=by rfl)(hc:takeW T B ds l.toList l'.toList i=true:=by kernel_rfl)(hw:Region.wanted oi (yielded ops a.tmps)=true:=by rfl)(hr:∀ w',S w'→(execOp a.eval oi).run P w'=.ok (.value v) w':=by (rintro w' ⟨s0,s1,s2,s3,s4,s5,s6,s7,s8⟩;go_simp;with_reducible rfl))(ha:a.put (some N) v=a':=by (simp only [Act.put,List.setIfInBounds_toArray,List.set_cons_zero,List.set_cons_succ,i64_w,i32_w];rfl))(hQ:∀ c a w,Q (.panic c) (a.put oi.dst v) w→Q (.panic c) a w:=by exact fun _ _ _ h=>h):wpAnyLast P md ops Q S ds (fuel+1) l a w:=take_ l' hi hN (take_ofW HT.out HW.out hc) hQ (Or.inl ⟨hw,hr⟩) hS ha h
theorem ta16_ {P:Program}{ops:Array Oper}{Q:Exit→Act→World→Prop}{md:Region.Mode}{S:World→Prop}{ds:List Nat}{T:Bool × List (List Nat × List Nat)}{B:List Nat}{oi:Oper}{v:Value}{fuel:Nat}{l:Array Bool}{a a':Act}{w:World}(HT:Aside0 (rtab md ops=T))(HW:Aside0 (waitsOk T.2 B=true))(i N:Nat)(l':Array Bool)(hS:S w)(h:wpAnyLast P md ops Q S ds fuel l' a' w)(hi:ops[i]?=some oi:=by rfl)(hN:oi.dst=some N:=by rfl)(hc:takeW T B ds l.toList l'.toList i=true:=by kernel_rfl)(hw:Region.wanted oi (yielded ops a.tmps)=true:=by rfl)(hr:∀ w',S w'→(execOp a.eval oi).run P w'=.ok (.value v) w':=by (rintro w' ⟨s0,s1,s2,s3,s4,s5,s6,s7,s8,s9,s10,s11,s12,s13,s14,s15⟩;go_simp;with_reducible rfl))(ha:a.put (some N) v=a':=by (simp only [Act.put,List.setIfInBounds_toArray,List.set_cons_zero,List.set_cons_succ,i64_w,i32_w];rfl))(hQ:∀ c a w,Q (.panic c) (a.put oi.dst v) w→Q (.panic c) a w:=by exact fun _ _ _ h=>h):wpAnyLast P md ops Q S ds (fuel+1) l a w:=take_ l' hi hN (take_ofW HT.out HW.out hc) hQ (Or.inl ⟨hw,hr⟩) hS ha h
theorem no_ {P:Program}{ops:Array Oper}{Q:Exit→Act→World→Prop}{md:Region.Mode}{S:World→Prop}{ds:List Nat}{fuel:Nat}{l:Array Bool}{a a':Act}{w:World}(ha:a=a':=by (show Act.put _ (some _) _=_;simp only [Act.put,List.setIfInBounds_toArray,List.set_cons_zero,List.set_cons_succ,i64_w,i32_w];rfl))(h:wpAnyLast P md ops Q S ds fuel l a' w):wpAnyLast P md ops Q S ds fuel l a w:=norm_ ha h
theorem bx_ {P:Program}{ops:Array Oper}{rest:List Oper}{o:Oper}{a:Act}{Q:Exit→Act→World→Prop}{W:World}{N:Tmp}{cs:Array Value}{t:TypeId}(hgd:o.guard=none:=by rfl)(hd:o.dst=some N:=by rfl)
    (hr:(execOp a.eval o).run P W=.ok (.value (.pointer (some ⟨W.heap.size,0,none⟩))) (W.alloc (.cells cs t (0,0))):=by first | (go_simp;done) | (go_simp;rfl))
    (h:∀ g,g=W.heap.size→∀ w1,w1.heap[g]?=some (.cells cs t (0,0))→Below W.heap.size W w1→wpList P ops Q rest (a.put o.dst (.pointer (some ⟨g,0,none⟩))) w1):wpList P ops Q (o::rest) a W:=box_event hgd hd hr h
theorem a0_ {P:Prop}(h:P):Aside0 P:=⟨h⟩
theorem ce_ {w W:World}{p:Addr}{v:Value}(HB:Aside0 (Below w.heap.size w W))(h:w.cell? p=some v):W.cell? p=some v:=pw_cell_below HB.out h
theorem od_ {p:Prop}[Decidable p](h:decide p=true:=by first | (with_reducible assumption) | assumption):p:=of_decide_eq_true h
theorem rr_ {P:Prop}(h:P:=by first | rfl | (simp [errW_none,errW_some] <;> rfl) | (simp [*,errW_none,errW_some] <;> rfl)):P:=h
theorem gh_ {w W W':World}{gb:Nat}(_:Aside0 (Below w.heap.size w W))(hg:gb=W'.heap.size)(h:Below w.heap.size w W':=by repeat (first | (with_reducible first | exact HB.out | apply below_alloc | apply pw_below_drewN | apply below_drew1 | refine below_set ?_ (Aside0.out (by assumption))) | exact HB.out)):Aside0 (w.heap.size≤gb):=⟨by rw [hg];exact below_size h⟩
theorem nl_ {W W':World}{g gb:Nat}{o:Obj}(_:Aside0 (W.heap[g]?=some o))(hg:gb=W'.heap.size)(h:W'.heap[g]?=some o:=by (with_reducible repeat (first | refine blk_drewN ?_ _ | refine blk_drew ?_ | refine blk_alloc ?_ _));refine Aside0.out ?_;assumption):Aside0 (g≠gb):=⟨by rw [hg];exact Nat.ne_of_lt (blk_lt h)⟩
theorem nr_ {W W':World}{g gb:Nat}{o:Obj}(_:Aside0 (W.heap[g]?=some o))(hg:gb=W'.heap.size)(h:W'.heap[g]?=some o:=by (with_reducible repeat (first | refine blk_drewN ?_ _ | refine blk_drew ?_ | refine blk_alloc ?_ _));refine Aside0.out ?_;assumption):Aside0 (gb≠g):=⟨by rw [hg];exact Nat.ne_of_gt (blk_lt h)⟩
theorem c20_ {W:World}{g t:Nat}{x y:Value}(h:Aside0 (W.heap[g]?=some (.cells #[x,y] t (0,0)))):W.cell? ⟨g,0,none⟩=some x:=(blk_cell h.out 0).trans rfl
theorem c21_ {W:World}{g t:Nat}{x y:Value}(h:Aside0 (W.heap[g]?=some (.cells #[x,y] t (0,0)))):W.cell? ⟨g,1,none⟩=some y:=(blk_cell h.out 1).trans rfl
theorem c40_ {W:World}{g t:Nat}{x y u v:Value}(h:Aside0 (W.heap[g]?=some (.cells #[x,y,u,v] t (0,0)))):W.cell? ⟨g,0,none⟩=some x:=(blk_cell h.out 0).trans rfl
theorem c41_ {W:World}{g t:Nat}{x y u v:Value}(h:Aside0 (W.heap[g]?=some (.cells #[x,y,u,v] t (0,0)))):W.cell? ⟨g,1,none⟩=some y:=(blk_cell h.out 1).trans rfl
theorem c42_ {W:World}{g t:Nat}{x y u v:Value}(h:Aside0 (W.heap[g]?=some (.cells #[x,y,u,v] t (0,0)))):W.cell? ⟨g,2,none⟩=some u:=(blk_cell h.out 2).trans rfl
theorem c43_ {W:World}{g t:Nat}{x y u v:Value}(h:Aside0 (W.heap[g]?=some (.cells #[x,y,u,v] t (0,0)))):W.cell? ⟨g,3,none⟩=some v:=(blk_cell h.out 3).trans rfl
theorem sb_ {w W W' w':World}(_:Aside0 (Below w.heap.size w W))(hb:Below W'.heap.size W' w')(h:Below w.heap.size w W':=by repeat (first | (with_reducible first | exact HB.out | apply below_alloc | apply pw_below_drewN | apply below_drew1 | refine below_set ?_ (Aside0.out (by assumption))) | exact HB.out)):Aside0 (Below w.heap.size w w'):=⟨below_step h hb⟩
theorem rb_ {α:Type}{d:Kd α}{e b:Nat}{w W' w':World}{ok:Nat→Prop}{u:Value}{xs:List α}(_:Aside0 (d.R e w b ok u xs))(hb:Below W'.heap.size W' w')(h:d.R e W' b ok u xs:=by (with_reducible repeat (first | apply Kd.R_alloc | apply Kd.R_drewN | apply Kd.R_drew));refine Aside0.out ?_;assumption):Aside0 (d.R e w' b ok u xs):=⟨Kd.R_below h hb⟩
theorem fz_ {W:World}{g t:Nat}{cs:Array Value}(h:Aside0 (W.heap[g]?=some (.cells cs t (0,0))))(i:Nat):W.frozen? ⟨g,i,none⟩=false:=blk_frozen h.out i
theorem gL_ {P:Program}{ops:Array Oper}{Q:Exit→Act→World→Prop}{rest:List Oper}{oi:Oper}{a:Act}{w:World}(N:Option Tmp){f:FuncId}{fn:Func}{as0:Array Operand}{ts:Array TypeId}(hf:P.funcs[f]?=some fn)(args:Array Value)(hd:oi.dst=N:=by rfl)(hg:oi.guard=none:=by rfl)(hname:(fn.name == "runtime.NumGoroutine")=false:=by kernel_rfl) (hb:fn.body.isSome=true:=by rfl)
    (hop:oi.op=.call { callee:=.value (.func f),args:=as0,argTypes:=ts }:=by rfl) (hargs:as0.map a.eval=args:=by (try simp only [List.map_toArray,List.map_cons,List.map_nil]);first | done | rfl | (simp only [List.length_drop,List.length_take];rfl))
    (h:Calls P f args w fun e w'=>∃ v,e=.returned v∧wpList P ops Q rest (a.put N v) w'):wpList P ops Q (oi::rest) a w:=goesL_ N hd hg hf hname hb args hop hargs h
theorem vb_ {W W' w':World}{g:Nat}{o:Obj}(_:Aside0 (W.heap[g]?=some o))(hb:Below W'.heap.size W' w')(h:W'.heap[g]?=some o:=by (with_reducible repeat (first | refine blk_drewN ?_ _ | refine blk_drew ?_ | refine blk_alloc ?_ _));refine Aside0.out ?_;assumption):Aside0 (w'.heap[g]?=some o):=⟨blk_below h hb⟩
theorem uR_ {α:Type}{d:Kd α}{e b:Nat}{w w':World}{ok:Nat→Prop}{u:Value}{xs:List α}(_:Aside0 (d.R e w b ok u xs))(h:d.R e w' b ok u xs:=by (with_reducible repeat (first | apply Kd.R_alloc | apply Kd.R_drewN | apply Kd.R_drew));refine Aside0.out ?_;assumption):d.R e w' b ok u xs:=h
end Go.Proofs.YtailkppkjhkjpaaDoor.X
end
section
set_option linter.unusedVariables false
namespace Go.Proofs.YtailkppkjhkjpaaDoor
open Go.ChangeShapes Go.WideShapes Go.RowKit
theorem own:ownKnob Tryd.prog.godebug=none:=by kernel_rfl
theorem laidOut:laidOutB Tryd.prog=true:=by kernel_rfl
def litsOf:DataW Unit→List Value
 | .agg l=>l.map fun d=>match d with | .lit (.int k z)=>.int k z | _=>.nilFunc
 | _=>[]
def litsOf2:DataW Unit→List Value
 | .agg l=>(l.map litsOf).flatten
 | _=>[]
noncomputable def putTab (l:List Value):Obj→Obj:=fun
 | .cells _ t frozen=>.cells l.toArray t frozen
 | o=>o
noncomputable def laidWorld (os:Os):World:=
 let w0:=World.holding Tryd.prog os ⟨#[],#[],[]⟩
 { w0 with heap:=((w0.heap.modify 3 (putTab (litsOf Rows.laid_internal_strconv_uint64pow10))).modify 4 (putTab (litsOf Rows.laid_math_bits_deBruijn32tab))).modify 5 (putTab (litsOf Rows.laid_math_bits_deBruijn64tab)) }
noncomputable def laidWorld2 (os:Os):World:=
 let w0:=laidWorld os
 { w0 with heap:=(w0.heap.modify 2 (putTab (litsOf2 Rows.laid_unicode_utf8_acceptRanges))).modify 1 (putTab (litsOf Rows.laid_unicode_utf8_first)) }
set_option maxRecDepth 100000 in
theorem read_met (os:Os)(args:Array Value):laidMet Tryd.prog Rows.fnExactPlateReadRow.laid ((laidWorld2 os).forCall (fun _ _=>0) ⟨#[],args,[]⟩).memory:=
 laidMet_of_run' 8 (by kernel_rfl) (by kernel_rfl)
end Go.Proofs.YtailkppkjhkjpaaDoor
end
section
namespace Go.Proofs.YtailkppkjhkjpaaDoor.X
open Go.RowKit Go.Proofs.YtailkppkjhkjpaaDoorW.PrintWords Go.Proofs.YtailkppkjhkjpaaDoorW.PrintLast Go.Proofs.YtailkppkjhkjpaaDoorW.PrintMore
attribute [local go_sem] max2_int min2_int max_two min_two max_three min_three max_four min_four
set_option linter.unusedVariables false
set_option linter.unusedSimpArgs false
def errW:Option Int→Value
 | none=>.nilIface
 | some c=>.iface 0 (.int .i64 c)
theorem errW_none:errW none=.nilIface:=rfl
theorem errW_some (c:Int):errW (some c)=.iface 0 (.int .i64 c):=rfl
theorem info23:(Tryd.prog.info? 23).map (fun i=>(i.zero,i.size,i.bytes))=some (some (.slice none 0 0),1,24):=by kernel_rfl
theorem info37:(Tryd.prog.info? 37).map (fun i=>(i.zero,i.size,i.bytes))=some (some (.agg #[(.int .i64 0),(.int .i64 0)]),2,16):=by kernel_rfl
theorem info89:(Tryd.prog.info? 89).map (fun i=>(i.zero,i.size,i.bytes))=some (some (.agg #[(.int .i64 0),(.int .i64 0),(.int .i64 0),(.int .i64 0)]),4,32):=by kernel_rfl
structure S37 where
 f0:Int
 f1:Int
def z37:S37:=⟨(0:Int),(0:Int)⟩
def k37:Kd S37:=Kd.iso (Kd.pair (Kd.int .i64) (Kd.int .i64)) (fun x:S37=>(x.f0,x.f1))
theorem k37_open {w:World}{x:S37}{cs:List Value}(h:k37.K w x cs):cs=[.int .i64 x.f0,.int .i64 x.f1]:=by
 obtain⟨_,_,rfl,rfl,rfl⟩:=h;exact rfl
theorem k37_openM {w:World}{base:Nat}{ok:Nat→Prop}{x:S37}{cs:List Value}(h:k37.M w base ok x cs):cs=[.int .i64 x.f0,.int .i64 x.f1]:=by
 obtain⟨_,_,rfl,rfl,rfl⟩:=h;exact rfl
theorem k37_mkM (w:World)(base:Nat)(ok:Nat→Prop)(x:S37)  : k37.M w base ok x [.int .i64 x.f0,.int .i64 x.f1]:=⟨[.int .i64 x.f0],[.int .i64 x.f1],rfl,rfl,rfl⟩
def rd_T37 (xs:List S37)(i:Int):S37:=xs.getD i.toNat z37
theorem at_T37 {w:World}{A:Option Addr}{n:Nat}{xs:List S37}(h:Kd.C k37 w A n xs)(i:Int)(h0:0≤i)(h1:i<n):∃ ad ,A=some ad∧w.cell? (ad.add (i.toNat*2))=some (.int .i64 (rd_T37 xs i).f0)∧w.cell? ⟨(ad.add (i.toNat*2)).block,(ad.add (i.toNat*2)).off+1,none⟩=some (.int .i64 (rd_T37 xs i).f1):=by
 obtain⟨ad,c,e,_,hK,hc0⟩:=Kd.C_get h z37 i h0 h1;have hc:∀ j u,c[j]?=some u→w.cell? (ad.add (i.toNat*2+j))=some u:=hc0;obtain rfl:=k37_open hK;exact⟨ad,e,hc 0 _ rfl,by rw [← add_field _ _ 1 (by omega)];exact hc 1 _ rfl⟩
structure S89 where
 f0:S37
 f1:S37
def z89:S89:=⟨z37,z37⟩
def k89:Kd S89:=Kd.iso (Kd.pair k37 k37) (fun x:S89=>(x.f0,x.f1))
theorem k89_open {w:World}{x:S89}{cs:List Value}(h:k89.K w x cs):cs=[.int .i64 x.f0.f0,.int .i64 x.f0.f1,.int .i64 x.f1.f0,.int .i64 x.f1.f1]:=by
 obtain⟨_,_,rfl,s0,s2⟩:=h;obtain rfl:=k37_open s0;obtain rfl:=k37_open s2;exact rfl
theorem k89_mkM (w:World)(base:Nat)(ok:Nat→Prop)(x:S89)  : k89.M w base ok x [.int .i64 x.f0.f0,.int .i64 x.f0.f1,.int .i64 x.f1.f0,.int .i64 x.f1.f1]:=⟨[.int .i64 x.f0.f0,.int .i64 x.f0.f1],[.int .i64 x.f1.f0,.int .i64 x.f1.f1],rfl,(k37_mkM w base ok x.f0 ),(k37_mkM w base ok x.f1 )⟩
def rd_T89 (xs:List S89)(i:Int):S89:=xs.getD i.toNat z89
theorem at_T89 {w:World}{A:Option Addr}{n:Nat}{xs:List S89}(h:Kd.C k89 w A n xs)(i:Int)(h0:0≤i)(h1:i<n):∃ ad ,A=some ad∧w.cell? (ad.add (i.toNat*4))=some (.int .i64 (rd_T89 xs i).f0.f0)∧w.cell? ⟨(ad.add (i.toNat*4)).block,(ad.add (i.toNat*4)).off+1,none⟩=some (.int .i64 (rd_T89 xs i).f0.f1)∧w.cell? ⟨(ad.add (i.toNat*4)).block,(ad.add (i.toNat*4)).off+2,none⟩=some (.int .i64 (rd_T89 xs i).f1.f0)∧w.cell? ⟨(ad.add (i.toNat*4)).block,(ad.add (i.toNat*4)).off+3,none⟩=some (.int .i64 (rd_T89 xs i).f1.f1):=by
 obtain⟨ad,c,e,_,hK,hc0⟩:=Kd.C_get h z89 i h0 h1;have hc:∀ j u,c[j]?=some u→w.cell? (ad.add (i.toNat*4+j))=some u:=hc0;obtain rfl:=k89_open hK;exact⟨ad,e,hc 0 _ rfl,by rw [← add_field _ _ 1 (by omega)];exact hc 1 _ rfl,by rw [← add_field _ _ 2 (by omega)];exact hc 2 _ rfl,by rw [← add_field _ _ 3 (by omega)];exact hc 3 _ rfl⟩
def rd_L5 (xs:List (List S37))(i:Int):(List S37):=xs.getD i.toNat ([]:List S37)
theorem at_L5 {w:World}{A:Option Addr}{n:Nat}{xs:List (List S37)}(h:Kd.C (Kd.slice 37 k37) w A n xs)(i:Int)(h0:0≤i)(h1:i<n):∃ ad A0 c0,A=some ad∧w.cell? (ad.add i.toNat)=some (.slice A0 (rd_L5 xs i).length c0)∧(rd_L5 xs i).length≤c0∧k37.C w A0 (rd_L5 xs i).length (rd_L5 xs i):=by
 obtain⟨ad,c,e,_,hK,hc0⟩:=Kd.C_get h ([]:List S37) i h0 h1;have hc:∀ j u,c[j]?=some u→w.cell? (ad.add (i.toNat*1+j))=some u:=hc0;obtain⟨A0,c0,rfl,l0,g0⟩:=hK;exact⟨ad,A0,c0,e,by have hq:=hc 0 _ rfl;rwa [Nat.mul_one,Nat.add_zero] at hq,l0,g0⟩
def laws_markPtS.l0:Nat→List (S37)→Int→Int→Option (Int × (List (S37)))
 | 0,_,_,_=>none
 | k+1,x0,x1,x5=>if x5<(x0.length:Int) then (if 0≤x5 then ((some (x0.set (x5:Int).toNat (⟨x1,(rd_T37 x0 x5).f1⟩:S37):List (S37))).bind fun y538=>(laws_markPtS.l0 k (y538.set (x5:Int).toNat (⟨(rd_T37 y538 x5).f0,wrap64 (x1+1)⟩:S37)) (wrap64 ((wrap64 (x1+1))+1)) (wrap64 (x5+1)))) else (none)) else (some (x1,x0))
def laws_markPtS.f (k:Nat)(l0:List (S37))(a1:Int):Option (Int × (List (S37))):=laws_markPtS.l0 k l0 a1 0
set_option maxHeartbeats 8000000 in
set_option maxRecDepth 100000 in
theorem laws_markPtS.calls (k:Nat)(P0_:Nat→Prop)(u9000_:Value)(l0:List (S37))(a1:Int)(r1:Int)(r2:List (S37))(w0 w:World)(hB:Below w0.heap.size w0 w)(ho0:Kd.R k37 37 w w0.heap.size P0_ u9000_ l0)(h:laws_markPtS.f k l0 a1=some (r1,r2)):
  Calls Tryd.prog 41 #[u9000_,.int .i64 a1] w fun e w'=>e=.returned (.int .i64 r1)∧Kd.R k37 37 w' w0.heap.size (fun k_=>(P0_ k_∨w.heap.size≤k_)) u9000_ r2∧Below w0.heap.size w0 w'∧Kept w w' (fun k_=>P0_ k_):=by
 have HO0:=a0_ (show Kd.R k37 37 w w0.heap.size (fun k_=>(P0_ k_∨w.heap.size≤k_)) u9000_ l0 from Kd.R_mono ho0 (fun k_ hk=>(.inl hk)));have HK:=a0_ (Kept.refl w (fun k_=>P0_ k_));have HW0:=Aside0.mk hB.size;have HB:=Aside0.mk hB;clear hB;have H:(laws_markPtS.l0 k l0 a1 0)=some (r1,r2):=h;clear h;have H':=Aside0.mk H;clear H;go_enter Tryd.func41,Tryd.ntmps41;go_wp2;go_loopg [1,5] k (fun kq v1 v5 w'=>∃ (x0_1:List (S37)) (x1_1:Int) (x5_1:Int),v1=.int .i64 x1_1∧v5=.int .i64 x5_1∧Aside0 (laws_markPtS.l0 kq x0_1 x1_1 x5_1=some (r1,r2))∧Aside0 (kq≤k)∧Aside0 (Kd.R k37 37 w' w0.heap.size (fun k_=>(P0_ k_∨w.heap.size≤k_)) u9000_ x0_1)∧Aside0 (Kept w w' (fun k_=>P0_ k_))∧Aside0 (Below w0.heap.size w0 w'))
 case atStart=>exact⟨(l0),(a1),(0),(by first | rfl | (simp;done) | (simp [*];done)),(by first | rfl | (simp;done) | (simp [*];done)),H',⟨Nat.le_refl _⟩,⟨by (with_reducible repeat (first | apply Kd.R_alloc | apply Kd.R_drewN | apply Kd.R_drew));exact HO0.out⟩,⟨by repeat (first | (with_reducible first | exact HK.out | apply Kept.alloc | apply Kept.drewN | apply Kept.drew) | exact HK.out)⟩,⟨hB_⟩⟩
 case round =>
  clear H';obtain⟨x0_1,x1_1,x5_1,rfl,rfl,HA,HK1,HO_0,HK,HB⟩:=hrel
  cases gk with
  | zero=>exact absurd HA.out (by simp [laws_markPtS.l0])
  | succ k1 =>
   have H:=HA.out;clear HA;simp only [laws_markPtS.l0] at H;by_cases c3:x5_1<(x0_1.length:Int)
   ·
    rw [if_pos c3] at H;have c3b0:decide (x5_1<(x0_1.length:Int))=true:=decide_eq_true c3;clear c3;by_cases c4:0≤x5_1
    ·
     rw [if_pos c4] at H;have c4b0:decide (0≤x5_1)=true:=decide_eq_true c4;clear c4;obtain⟨y538,hy538⟩:∃ y_:List (S37),y_=(x0_1.set (x5_1:Int).toNat (⟨x1_1,(rd_T37 x0_1 x5_1).f1⟩:S37)):=⟨_,rfl⟩;replace H:(laws_markPtS.l0 k1 (y538.set (x5_1:Int).toNat (⟨(rd_T37 y538 x5_1).f0,wrap64 (x1_1+1)⟩:S37)) (wrap64 ((wrap64 (x1_1+1))+1)) (wrap64 (x5_1+1)))=some (r1,r2):=by first | (rw [hy538];with_reducible exact H) | (have H2_:=(Option.bind_some _ _).symm.trans H;rw [hy538];with_reducible exact H2_) | (have H2_:=(Option.bind_some _ _).symm.trans H;with_reducible exact H2_) | with_reducible exact H | (rw [hy538];exact H) | exact H
     have Ny538:=Aside0.mk hy538;clear hy538;obtain⟨y539,hy539⟩:∃ y_:List (S37),y_=(y538.set (x5_1:Int).toNat (⟨(rd_T37 y538 x5_1).f0,wrap64 (x1_1+1)⟩:S37)):=⟨_,rfl⟩;replace H:(laws_markPtS.l0 k1 y539 (wrap64 ((wrap64 (x1_1+1))+1)) (wrap64 (x5_1+1)))=some (r1,r2):=by first | (rw [hy539];with_reducible exact H) | (have H2_:=(Option.bind_some _ _).symm.trans H;rw [hy539];with_reducible exact H2_) | (have H2_:=(Option.bind_some _ _).symm.trans H;with_reducible exact H2_) | with_reducible exact H | (rw [hy539];exact H) | exact H
     have Ny539:=Aside0.mk hy539;clear hy539;have H':=Aside0.mk H;clear H;obtain⟨Ao7,co7,eo7⟩:=Kd.R_slice HO_0.out;subst eo7;have p5:0≤(x5_1:Int):=od_;have q5:(x5_1:Int)<((x0_1.length:Int):Int):=od_;obtain⟨go5,co5,eo5,gb5,gl5,cl5,HG5⟩:=Kd.R_form HO_0.out (by omega)
     (first | cases eo5 | (injection eo5 with ea_ en_ ec_;(first | subst ea_ | (injection ea_ with ea_;subst ea_));subst ec_;clear en_))
     have GB5:=Aside0.mk gb5;have GG5:=Aside0.mk HG5;clear gb5 gl5 HG5;have HMgo5:=a0_ (show (P0_ go5∨w.heap.size≤go5) from (HO_0.out.1 _ rfl));obtain⟨ce5,hcl5,hM5,hcc5,hfr5⟩:=Kd.R_elem HO_0.out z37 (x5_1:Int) p5 q5;obtain rfl:=k37_openM hM5;have hx5_0:wr.cell? ⟨go5,(x5_1:Int).toNat*2,none⟩=some (.int .i64 ((rd_T37 x0_1 x5_1).f0)):=hcc5 0 _ rfl;have hx5_1:wr.cell? ⟨go5,(x5_1:Int).toNat*2+1,none⟩=some (.int .i64 ((rd_T37 x0_1 x5_1).f1)):=hcc5 1 _ rfl;have hf5_0:wr.frozen? ⟨go5,(x5_1:Int).toNat*2,none⟩=false:=hfr5 0;have hf5_1:wr.frozen? ⟨go5,(x5_1:Int).toNat*2+1,none⟩=false:=hfr5 1;clear hcl5 hcc5 hfr5;(try clear hM5);replace p5:=eq_true p5;replace q5:=eq_true q5;have HX8:=a0_ (show Kd.R k37 37 wr w0.heap.size (fun k_=>(P0_ k_∨w.heap.size≤k_)) (.slice (some ⟨go5,0,none⟩) x0_1.length co7) x0_1 from (uR_ HO_0));obtain⟨ce8,hcl8,hM8,hcc8,hfr8⟩:=Kd.R_elem HX8.out z37 (x5_1:Int) (od_) (by have h_:(x5_1:Int)<((x0_1.length:Int):Int):=od_;first | exact h_ | (have e_:=(Kd.R_reads' HO_0.out).1;omega) | simpa using h_);obtain rfl:=k37_openM hM8;have HP8:=Kd.R_seg HX8.out (x5_1:Int) (od_) (by have h_:(x5_1:Int)<((x0_1.length:Int):Int):=od_;first | exact h_ | (have e_:=(Kd.R_reads' HO_0.out).1;omega) | simpa using h_) (seg:=[.int .i64 x1_1]) (j:=0) hcl8 hcc8 (show 1≤2 from by decide) (x':=(⟨x1_1,(rd_T37 x0_1 x5_1).f1⟩:S37)) (k37_mkM _ _ _ (⟨x1_1,(rd_T37 x0_1 x5_1).f1⟩:S37) ) (fun _ hk=>hk);have hx8_0:=hcc8 0 _ rfl
     (try simp only [show (k37).sz=2 from rfl,Nat.mul_one,Nat.add_zero] at hx8_0)
     have hf8_0:=hfr8 0
     (try simp only [show (k37).sz=2 from rfl,Nat.mul_one,Nat.add_zero] at hf8_0)
     clear hcl8 hcc8 hfr8;(try clear hM8)
     go_wp2_with (first | ((with_reducible refine gate_store (t:=3) (p:=16) rfl ?_);refine store_event (t:=3) (p:=16) (v:=?vo_w9) (w1:=(wr.setCell ⟨go5,(x5_1:Int).toNat*2,none⟩ (.int .i64 x1_1))) ?hg ?ho ?hn ?hr ?_;(case ho=>rfl);(case hg=>rfl);(case hn=>rfl);(case hr=>first | (go_simp;done) | (go_simp;rfl));intro w9 hw;have hg:wr.grownBy w9 (some go5):=(by rw [hw];exact HP8.2);have hp_:Kd.R k37 37 w9 w0.heap.size (fun k_=>(P0_ k_∨w.heap.size≤k_)) (.slice (some ⟨go5,0,none⟩) x0_1.length co7) y538:=(by rw [hw,Ny538.out];exact HP8.1);clear HP8;replace HB:=a0_ ((by rw [hw];exact below_set (HB.out) GB5.out:Below w0.heap.size w0 w9));replace HK:=a0_ (Kept.of_grown (S:=(fun k_=>P0_ k_)) hg (by repeat (first | (with_reducible first | exact HK.out | apply Kept.alloc | apply Kept.drewN | apply Kept.drew) | exact HK.out)) (fun k_ e_=>(HO_0.out.1 k_ e_)));replace HO_0:=a0_ (hp_);clear hg hw hp_;have p6:0≤(x5_1:Int):=od_;have q6:(x5_1:Int)<((x0_1.length:Int):Int):=od_;obtain⟨ce6,hcl6,hM6,hcc6,hfr6⟩:=Kd.R_elem HO_0.out z37 (x5_1:Int) p6 q6;obtain rfl:=k37_openM hM6;have hx6_0:w9.cell? ⟨go5,(x5_1:Int).toNat*2,none⟩=some (.int .i64 ((rd_T37 y538 x5_1).f0)):=hcc6 0 _ rfl;have hx6_1:w9.cell? ⟨go5,(x5_1:Int).toNat*2+1,none⟩=some (.int .i64 ((rd_T37 y538 x5_1).f1)):=hcc6 1 _ rfl;have hf6_0:w9.frozen? ⟨go5,(x5_1:Int).toNat*2,none⟩=false:=hfr6 0;have hf6_1:w9.frozen? ⟨go5,(x5_1:Int).toNat*2+1,none⟩=false:=hfr6 1;clear hcl6 hcc6 hfr6;(try clear hM6);replace p6:=eq_true p6;replace q6:=eq_true q6;have HX10:=a0_ (show Kd.R k37 37 w9 w0.heap.size (fun k_=>(P0_ k_∨w.heap.size≤k_)) (.slice (some ⟨go5,0,none⟩) x0_1.length co7) y538 from (uR_ HO_0));obtain⟨ce10,hcl10,hM10,hcc10,hfr10⟩:=Kd.R_elem HX10.out z37 (x5_1:Int) (od_) (by have h_:(x5_1:Int)<((x0_1.length:Int):Int):=od_;first | exact h_ | (have e_:=(Kd.R_reads' HO_0.out).1;omega) | simpa using h_);obtain rfl:=k37_openM hM10;have HP10:=Kd.R_seg HX10.out (x5_1:Int) (od_) (by have h_:(x5_1:Int)<((x0_1.length:Int):Int):=od_;first | exact h_ | (have e_:=(Kd.R_reads' HO_0.out).1;omega) | simpa using h_) (seg:=[.int .i64 (wrap64 (x1_1+1))]) (j:=1) hcl10 hcc10 (show 2≤2 from by decide) (x':=(⟨(rd_T37 y538 x5_1).f0,wrap64 (x1_1+1)⟩:S37)) (k37_mkM _ _ _ (⟨(rd_T37 y538 x5_1).f0,wrap64 (x1_1+1)⟩:S37) ) (fun _ hk=>hk);have hx10_1:=hcc10 1 _ rfl;(try simp only [show (k37).sz=2 from rfl,Nat.mul_one,Nat.add_zero] at hx10_1);have hf10_1:=hfr10 1;(try simp only [show (k37).sz=2 from rfl,Nat.mul_one,Nat.add_zero] at hf10_1);clear hcl10 hcc10 hfr10;(try clear hM10)) | ((with_reducible refine gate_store (t:=3) (p:=23) rfl ?_);refine store_event (t:=3) (p:=23) (v:=?vo_w11) (w1:=(w9.setCell ⟨go5,(x5_1:Int).toNat*2+1,none⟩ (.int .i64 (wrap64 (x1_1+1))))) ?hg ?ho ?hn ?hr ?_;(case ho=>rfl);(case hg=>rfl);(case hn=>rfl);(case hr=>first | (go_simp;done) | (go_simp;rfl));intro w11 hw;have hg:w9.grownBy w11 (some go5):=(by rw [hw];exact HP10.2);have hp_:Kd.R k37 37 w11 w0.heap.size (fun k_=>(P0_ k_∨w.heap.size≤k_)) (.slice (some ⟨go5,0,none⟩) x0_1.length co7) y539:=(by rw [hw,Ny539.out];exact HP10.1);clear HP10;replace HB:=a0_ ((by rw [hw];exact below_set (HB.out) GB5.out:Below w0.heap.size w0 w11));replace HK:=a0_ (Kept.of_grown (S:=(fun k_=>P0_ k_)) hg (by repeat (first | (with_reducible first | exact HK.out | apply Kept.alloc | apply Kept.drewN | apply Kept.drew) | exact HK.out)) (fun k_ e_=>(HO_0.out.1 k_ e_)));replace HO_0:=a0_ (hp_);clear hg hw hp_))
     go_roundg k1
     case measure=>have:=HK1.out;omega
     case rel=>exact⟨(y539),(wrap64 ((wrap64 (x1_1+1))+1)),(wrap64 (x5_1+1)),(by first | rfl | (simp;done) | (simp [*];done)),(by first | rfl | (simp;done) | (simp [*];done)),H',⟨by have:=HK1.out;omega⟩,⟨by (with_reducible repeat (first | apply Kd.R_alloc | apply Kd.R_drewN | apply Kd.R_drew));exact HO_0.out⟩,⟨by repeat (first | (with_reducible first | exact HK.out | apply Kept.alloc | apply Kept.drewN | apply Kept.drew) | exact HK.out)⟩,⟨hB_⟩⟩
    ·
     rw [if_neg c4] at H;exact absurd H (by simp)
   ·
    rw [if_neg c3] at H;have c3b0:decide (x5_1<(x0_1.length:Int))=false:=decide_eq_false c3;clear c3;simp only [Option.some.injEq,Prod.mk.injEq] at H;obtain⟨rfl,rfl⟩:=H;obtain⟨Ao12,co12,eo12⟩:=Kd.R_slice HO_0.out;subst eo12;go_wp2;go_ret;exact⟨rr_,by (with_reducible repeat (first | apply Kd.R_alloc | apply Kd.R_drewN | apply Kd.R_drew));exact HO_0.out,by repeat (first | (with_reducible first | exact HB.out | apply below_alloc | apply pw_below_drewN | apply below_drew1) | exact HB.out),by repeat (first | (with_reducible first | exact HK.out | apply Kept.alloc | apply Kept.drewN | apply Kept.drew) | exact HK.out)⟩
def laws_heldPtS.l0:Nat→List (S37)→Int→Int→Option (Int)
 | 0,_,_,_=>none
 | k+1,x0,x1,x5=>if x5<(x0.length:Int) then (if 0≤x5 then (if ((rd_T37 x0 x5).f0)=x1 then (if ((rd_T37 x0 x5).f1)=(wrap64 (x1+1)) then (laws_heldPtS.l0 k x0 (wrap64 ((wrap64 (x1+1))+1)) (wrap64 (x5+1))) else (some (-1))) else (some (-1))) else (none)) else (some x1)
def laws_heldPtS.f (k:Nat)(l0:List (S37))(a1:Int):Option (Int):=laws_heldPtS.l0 k l0 a1 0
set_option maxHeartbeats 8000000 in
set_option maxRecDepth 100000 in
theorem laws_heldPtS.calls (k:Nat)(A0:Option Addr)(c0:Nat)(l0:List (S37))(a1:Int)(r:Int)(w:World)(hr0:Kd.C k37 w A0 l0.length l0)(hc0:l0.length≤c0)(h:laws_heldPtS.f k l0 a1=some r):
  Calls Tryd.prog 43 #[.slice A0 l0.length c0,.int .i64 a1] w fun e w'=>e=.returned (.int .i64 r)∧Drawn0 w w':=by
 have HR0:=Aside0.mk hr0;have HC0:=Aside0.mk hc0;clear hr0 hc0;have H:(laws_heldPtS.l0 k l0 a1 0)=some r:=h;clear h;have H':=Aside0.mk H;clear H;go_enter Tryd.func43,Tryd.ntmps43;go_wp2;go_loopg [1,5] k (fun kq v1 v5 w'=>∃ (x1_1:Int) (x5_1:Int),v1=.int .i64 x1_1∧v5=.int .i64 x5_1∧Aside0 (laws_heldPtS.l0 kq l0 x1_1 x5_1=some r)∧Aside0 (kq≤k)∧Drawn0 w w')
 case atStart=>exact⟨(a1),(0),(by first | rfl | (simp;done) | (simp [*];done)),(by first | rfl | (simp;done) | (simp [*];done)),H',⟨Nat.le_refl _⟩,by repeat (first | exact Drawn0.refl _ | apply Drawn0.step)⟩
 case round =>
  clear H';obtain⟨x1_1,x5_1,rfl,rfl,HA,HK1,⟨m1,rfl⟩⟩:=hrel
  cases gk with
  | zero=>exact absurd HA.out (by simp [laws_heldPtS.l0])
  | succ k1 =>
   have H:=HA.out;clear HA;simp only [laws_heldPtS.l0] at H;by_cases c3:x5_1<(l0.length:Int)
   ·
    rw [if_pos c3] at H;have c3b0:decide (x5_1<(l0.length:Int))=true:=decide_eq_true c3;clear c3;by_cases c4:0≤x5_1
    ·
     rw [if_pos c4] at H;have c4b0:decide (0≤x5_1)=true:=decide_eq_true c4;clear c4;by_cases c5:((rd_T37 l0 x5_1).f0)=x1_1
     ·
      rw [if_pos c5] at H;have c5b0:(((rd_T37 l0 x5_1).f0)==x1_1)=true:=beq_iff_eq.mpr c5;have c5b1:(((rd_T37 l0 x5_1).f0) != x1_1)=false:=bne_eq_false_iff_eq.mpr c5;clear c5;by_cases c6:((rd_T37 l0 x5_1).f1)=(wrap64 (x1_1+1))
      ·
       rw [if_pos c6] at H;have c6b0:(((rd_T37 l0 x5_1).f1)==(wrap64 (x1_1+1)))=true:=beq_iff_eq.mpr c6;have c6b1:(((rd_T37 l0 x5_1).f1) != (wrap64 (x1_1+1)))=false:=bne_eq_false_iff_eq.mpr c6;clear c6;have H':=Aside0.mk H;clear H;have p544:0≤(x5_1:Int):=od_;have q544:x5_1<(l0.length:Int):=od_;obtain⟨ad544,e544,hx544_0,hx544_1⟩:=at_T37 HR0.out x5_1 p544 q544;cases e544;replace p544:=eq_true p544;replace q544:=eq_true q544;have p545:0≤(x5_1:Int):=od_;have q545:x5_1<(l0.length:Int):=od_;obtain⟨ad545,e545,hx545_0,hx545_1⟩:=at_T37 HR0.out x5_1 p545 q545;obtain rfl:ad544=ad545:=(by injection e545);replace p545:=eq_true p545;replace q545:=eq_true q545;go_wp2;go_roundg k1
       case measure=>have:=HK1.out;omega
       case rel=>exact⟨(wrap64 ((wrap64 (x1_1+1))+1)),(wrap64 (x5_1+1)),(by first | rfl | (simp;done) | (simp [*];done)),(by first | rfl | (simp;done) | (simp [*];done)),H',⟨by have:=HK1.out;omega⟩,by repeat (first | exact Drawn0.refl _ | apply Drawn0.step)⟩
      ·
       rw [if_neg c6] at H;have c6b0:(((rd_T37 l0 x5_1).f1)==(wrap64 (x1_1+1)))=false:=beq_eq_false_iff_ne.mpr c6;have c6b1:(((rd_T37 l0 x5_1).f1) != (wrap64 (x1_1+1)))=true:=bne_iff_ne.mpr c6;obtain rfl:=Option.some.inj H;have p544:0≤(x5_1:Int):=od_;have q544:x5_1<(l0.length:Int):=od_;obtain⟨ad544,e544,hx544_0,hx544_1⟩:=at_T37 HR0.out x5_1 p544 q544;cases e544;replace p544:=eq_true p544;replace q544:=eq_true q544;have p545:0≤(x5_1:Int):=od_;have q545:x5_1<(l0.length:Int):=od_;obtain⟨ad545,e545,hx545_0,hx545_1⟩:=at_T37 HR0.out x5_1 p545 q545;obtain rfl:ad544=ad545:=(by injection e545);replace p545:=eq_true p545;replace q545:=eq_true q545;go_wp2;go_ret;exact⟨by first | rfl | (simp;done) | (simp [*];done),by repeat (first | exact Drawn0.refl _ | apply Drawn0.step)⟩
     ·
      rw [if_neg c5] at H;have c5b0:(((rd_T37 l0 x5_1).f0)==x1_1)=false:=beq_eq_false_iff_ne.mpr c5;have c5b1:(((rd_T37 l0 x5_1).f0) != x1_1)=true:=bne_iff_ne.mpr c5;obtain rfl:=Option.some.inj H;have p544:0≤(x5_1:Int):=od_;have q544:x5_1<(l0.length:Int):=od_;obtain⟨ad544,e544,hx544_0,hx544_1⟩:=at_T37 HR0.out x5_1 p544 q544;cases e544;replace p544:=eq_true p544;replace q544:=eq_true q544;go_wp2;go_ret;exact⟨by first | rfl | (simp;done) | (simp [*];done),by repeat (first | exact Drawn0.refl _ | apply Drawn0.step)⟩
    ·
     rw [if_neg c4] at H;exact absurd H (by simp)
   ·
    rw [if_neg c3] at H;have c3b0:decide (x5_1<(l0.length:Int))=false:=decide_eq_false c3;clear c3;obtain rfl:=Option.some.inj H;go_wp2;go_ret;exact⟨by first | rfl | (simp;done) | (simp [*];done),by repeat (first | exact Drawn0.refl _ | apply Drawn0.step)⟩
def laws_heldPtSS.l0:Nat→List (List (S37))→Int→Int→Option (Int)
 | 0,_,_,_=>none
 | k+1,x0,x1,x5=>if x5<(x0.length:Int) then (if 0≤x5 then ((laws_heldPtS.f k (rd_L5 x0 x5) x1).bind fun t547=>(if t547<0 then (some (-1)) else (laws_heldPtSS.l0 k x0 t547 (wrap64 (x5+1))))) else (none)) else (some x1)
def laws_heldPtSS.f (k:Nat)(l0:List (List (S37)))(a1:Int):Option (Int):=laws_heldPtSS.l0 k l0 a1 0
set_option maxHeartbeats 8000000 in
set_option maxRecDepth 100000 in
theorem laws_heldPtSS.calls (k:Nat)(A0:Option Addr)(c0:Nat)(l0:List (List (S37)))(a1:Int)(r:Int)(w:World)(hr0:Kd.C (Kd.slice 37 k37) w A0 l0.length l0)(hc0:l0.length≤c0)(h:laws_heldPtSS.f k l0 a1=some r):
  Calls Tryd.prog 44 #[.slice A0 l0.length c0,.int .i64 a1] w fun e w'=>e=.returned (.int .i64 r)∧Drawn0 w w':=by
 have HR0:=Aside0.mk hr0;have HC0:=Aside0.mk hc0;clear hr0 hc0;have H:(laws_heldPtSS.l0 k l0 a1 0)=some r:=h;clear h;have H':=Aside0.mk H;clear H;go_enter Tryd.func44,Tryd.ntmps44;go_wp2;go_loopg [1,5] k (fun kq v1 v5 w'=>∃ (x1_1:Int) (x5_1:Int),v1=.int .i64 x1_1∧v5=.int .i64 x5_1∧Aside0 (laws_heldPtSS.l0 kq l0 x1_1 x5_1=some r)∧Aside0 (kq≤k)∧Drawn0 w w')
 case atStart=>exact⟨(a1),(0),(by first | rfl | (simp;done) | (simp [*];done)),(by first | rfl | (simp;done) | (simp [*];done)),H',⟨Nat.le_refl _⟩,by repeat (first | exact Drawn0.refl _ | apply Drawn0.step)⟩
 case round =>
  clear H';obtain⟨x1_1,x5_1,rfl,rfl,HA,HK1,⟨m1,rfl⟩⟩:=hrel
  cases gk with
  | zero=>exact absurd HA.out (by simp [laws_heldPtSS.l0])
  | succ k1 =>
   have H:=HA.out;clear HA;simp only [laws_heldPtSS.l0] at H;by_cases c3:x5_1<(l0.length:Int)
   ·
    rw [if_pos c3] at H;have c3b0:decide (x5_1<(l0.length:Int))=true:=decide_eq_true c3;clear c3;by_cases c4:0≤x5_1
    ·
     rw [if_pos c4] at H;have c4b0:decide (0≤x5_1)=true:=decide_eq_true c4;clear c4;replace H:=Option.bind_eq_some_iff.mp H;obtain⟨t547,A50,H⟩:=H
     (try dsimp only at H)
     have A5:=Aside0.mk A50;clear A50;by_cases c6:t547<0
     ·
      rw [if_pos c6] at H;have c6b0:decide (t547<0)=true:=decide_eq_true c6;clear c6;obtain rfl:=Option.some.inj H;have p546:0≤(x5_1:Int):=od_;have q546:x5_1<(l0.length:Int):=od_;obtain⟨ad546,A546_0,c546_0,e546,hx546_0,hl546_0,hi546_0⟩:=at_L5 HR0.out x5_1 p546 q546;cases e546;have HR546_0:=Aside0.mk hi546_0;have HC546_0:=Aside0.mk hl546_0;clear hi546_0 hl546_0;replace p546:=eq_true p546;replace q546:=eq_true q546;go_wp2_with (first | ((with_reducible refine gate_callee (f:=43) rfl ?_);refine gL_ (some 17) Tryd.func43 #[.slice A546_0 (rd_L5 l0 x5_1).length c546_0,.int .i64 x1_1] (h:=?_);(with_reducible refine (laws_heldPtS.calls k1 _ _ (rd_L5 l0 x5_1) x1_1 t547 _ ?side1 ?side2 A5.out).mono ?_);(case side1=>repeat (first | exact HR546_0.out | (with_reducible refine Kd.C_alloc ?_ _) | (with_reducible refine Kd.C_drewN ?_ _) | (with_reducible refine Kd.C_drew ?_)));(case side2=>exact HC546_0.out);rintro e w' ⟨rfl,⟨nd,rfl⟩⟩;refine⟨_,rfl,?_⟩));go_ret;exact⟨by first | rfl | (simp;done) | (simp [*];done),by repeat (first | exact Drawn0.refl _ | apply Drawn0.step)⟩
     ·
      rw [if_neg c6] at H;have c6b0:decide (t547<0)=false:=decide_eq_false c6;clear c6;have H':=Aside0.mk H;clear H;have p546:0≤(x5_1:Int):=od_;have q546:x5_1<(l0.length:Int):=od_;obtain⟨ad546,A546_0,c546_0,e546,hx546_0,hl546_0,hi546_0⟩:=at_L5 HR0.out x5_1 p546 q546;cases e546;have HR546_0:=Aside0.mk hi546_0;have HC546_0:=Aside0.mk hl546_0;clear hi546_0 hl546_0;replace p546:=eq_true p546;replace q546:=eq_true q546;go_wp2_with (first | ((with_reducible refine gate_callee (f:=43) rfl ?_);refine gL_ (some 17) Tryd.func43 #[.slice A546_0 (rd_L5 l0 x5_1).length c546_0,.int .i64 x1_1] (h:=?_);(with_reducible refine (laws_heldPtS.calls k1 _ _ (rd_L5 l0 x5_1) x1_1 t547 _ ?side1 ?side2 A5.out).mono ?_);(case side1=>repeat (first | exact HR546_0.out | (with_reducible refine Kd.C_alloc ?_ _) | (with_reducible refine Kd.C_drewN ?_ _) | (with_reducible refine Kd.C_drew ?_)));(case side2=>exact HC546_0.out);rintro e w' ⟨rfl,⟨nd,rfl⟩⟩;refine⟨_,rfl,?_⟩));go_roundg k1
      case measure=>have:=HK1.out;omega
      case rel=>exact⟨(t547),(wrap64 (x5_1+1)),(by first | rfl | (simp;done) | (simp [*];done)),(by first | rfl | (simp;done) | (simp [*];done)),H',⟨by have:=HK1.out;omega⟩,by repeat (first | exact Drawn0.refl _ | apply Drawn0.step)⟩
    ·
     rw [if_neg c4] at H;exact absurd H (by simp)
   ·
    rw [if_neg c3] at H;have c3b0:decide (x5_1<(l0.length:Int))=false:=decide_eq_false c3;clear c3;obtain rfl:=Option.some.inj H;go_wp2;go_ret;exact⟨by first | rfl | (simp;done) | (simp [*];done),by repeat (first | exact Drawn0.refl _ | apply Drawn0.step)⟩
def laws_heldPlate.f (k:Nat)(l0_0:List (S37))(l0_1:List (List (S37)))(a1:Int):Option (Int):=(laws_heldPtS.f k l0_0 a1).bind fun t549=>(if t549<0 then (some (-1)) else ((laws_heldPtSS.f k l0_1 t549).bind fun t550=>(if t550<0 then (some (-1)) else (some t550))))
set_option maxHeartbeats 8000000 in
set_option maxRecDepth 100000 in
theorem laws_heldPlate.calls (k:Nat)(A0_0:Option Addr)(c0_0:Nat)(l0_0:List (S37))(A0_1:Option Addr)(c0_1:Nat)(l0_1:List (List (S37)))(a1:Int)(r:Int)(w:World)(hr0_0:Kd.C k37 w A0_0 l0_0.length l0_0)(hc0_0:l0_0.length≤c0_0)(hr0_1:Kd.C (Kd.slice 37 k37) w A0_1 l0_1.length l0_1)(hc0_1:l0_1.length≤c0_1)(h:laws_heldPlate.f k l0_0 l0_1 a1=some r):
  Calls Tryd.prog 15 #[.agg #[.slice A0_0 l0_0.length c0_0,.slice A0_1 l0_1.length c0_1],.int .i64 a1] w fun e w'=>e=.returned (.int .i64 r)∧Below w.heap.size w w':=by
 have hu26:=Tryd.underlying26;have HR0_0:=Aside0.mk hr0_0;have HC0_0:=Aside0.mk hc0_0;clear hr0_0 hc0_0;have HR0_1:=Aside0.mk hr0_1;have HC0_1:=Aside0.mk hc0_1;clear hr0_1 hc0_1;have HB:=a0_ (Below.refl w.heap.size w);have H:((laws_heldPtS.f k l0_0 a1).bind fun t549=>(if t549<0 then (some (-1)) else ((laws_heldPtSS.f k l0_1 t549).bind fun t550=>(if t550<0 then (some (-1)) else (some t550)))))=some r:=h;clear h;replace H:=Option.bind_eq_some_iff.mp H;obtain⟨t549,A30,H⟩:=H
 (try dsimp only at H)
 have A3:=Aside0.mk A30;clear A30;by_cases c4:t549<0
 ·
  rw [if_pos c4] at H;have c4b0:decide (t549<0)=true:=decide_eq_true c4;clear c4;obtain rfl:=Option.some.inj H;go_enter Tryd.func15,Tryd.ntmps15;go_wp2_with (first | ((with_reducible refine gate_dst (N:=2) rfl ?_);refine bx_ (N:=2) (cs:=#[.slice A0_0 l0_0.length c0_0,.slice A0_1 l0_1.length c0_1]) (t:=26) (h:=?_);intro gb548 hg w5 hbox hb;have BK548:=a0_ (hbox);have GW548:=gh_ HB hg;have GE548:=gh_ HB hg;replace HB:=sb_ HB hb;clear hb hbox hg;have hcz6_0:=c20_ BK548;have hcz6_1:=c21_ BK548;have hfz6_0:=fz_ BK548 0;have hfz6_1:=fz_ BK548 1) | ((with_reducible refine gate_callee (f:=43) rfl ?_);refine gL_ (some 8) Tryd.func43 #[.slice A0_0 l0_0.length c0_0,.int .i64 a1] (h:=?_);(with_reducible refine (laws_heldPtS.calls k _ _ l0_0 a1 t549 _ ?side1 ?side2 A3.out).mono ?_);(case side1=>repeat (first | exact (Kd.C_below HR0_0.out HB.out) | (with_reducible refine Kd.C_alloc ?_ _) | (with_reducible refine Kd.C_drewN ?_ _) | (with_reducible refine Kd.C_drew ?_)));(case side2=>exact HC0_0.out);rintro e w' ⟨rfl,⟨nd,rfl⟩⟩;refine⟨_,rfl,?_⟩));go_ret;exact⟨rr_,hB_⟩
 ·
  rw [if_neg c4] at H;have c4b0:decide (t549<0)=false:=decide_eq_false c4;clear c4;replace H:=Option.bind_eq_some_iff.mp H;obtain⟨t550,A70,H⟩:=H
  (try dsimp only at H)
  have A7:=Aside0.mk A70;clear A70;by_cases c8:t550<0
  ·
   rw [if_pos c8] at H;have c8b0:decide (t550<0)=true:=decide_eq_true c8;clear c8;obtain rfl:=Option.some.inj H;go_enter Tryd.func15,Tryd.ntmps15;go_wp2_with (first | ((with_reducible refine gate_dst (N:=2) rfl ?_);refine bx_ (N:=2) (cs:=#[.slice A0_0 l0_0.length c0_0,.slice A0_1 l0_1.length c0_1]) (t:=26) (h:=?_);intro gb548 hg w9 hbox hb;have BK548:=a0_ (hbox);have GW548:=gh_ HB hg;have GE548:=gh_ HB hg;replace HB:=sb_ HB hb;clear hb hbox hg;have hcz10_0:=c20_ BK548;have hcz10_1:=c21_ BK548;have hfz10_0:=fz_ BK548 0;have hfz10_1:=fz_ BK548 1) | ((with_reducible refine gate_callee (f:=43) rfl ?_);refine gL_ (some 8) Tryd.func43 #[.slice A0_0 l0_0.length c0_0,.int .i64 a1] (h:=?_);(with_reducible refine (laws_heldPtS.calls k _ _ l0_0 a1 t549 _ ?side1 ?side2 A3.out).mono ?_);(case side1=>repeat (first | exact (Kd.C_below HR0_0.out HB.out) | (with_reducible refine Kd.C_alloc ?_ _) | (with_reducible refine Kd.C_drewN ?_ _) | (with_reducible refine Kd.C_drew ?_)));(case side2=>exact HC0_0.out);rintro e w' ⟨rfl,⟨nd,rfl⟩⟩;refine⟨_,rfl,?_⟩) | ((with_reducible refine gate_callee (f:=44) rfl ?_);refine gL_ (some 14) Tryd.func44 #[.slice A0_1 l0_1.length c0_1,.int .i64 t549] (h:=?_);(with_reducible refine (laws_heldPtSS.calls k _ _ l0_1 t549 t550 _ ?side1 ?side2 A7.out).mono ?_);(case side1=>repeat (first | exact (Kd.C_below HR0_1.out hB_) | (with_reducible refine Kd.C_alloc ?_ _) | (with_reducible refine Kd.C_drewN ?_ _) | (with_reducible refine Kd.C_drew ?_)));(case side2=>exact HC0_1.out);rintro e w' ⟨rfl,⟨nd,rfl⟩⟩;refine⟨_,rfl,?_⟩));go_ret;exact⟨rr_,hB_⟩
  ·
   rw [if_neg c8] at H;have c8b0:decide (t550<0)=false:=decide_eq_false c8;clear c8;obtain rfl:=Option.some.inj H;go_enter Tryd.func15,Tryd.ntmps15;go_wp2_with (first | ((with_reducible refine gate_dst (N:=2) rfl ?_);refine bx_ (N:=2) (cs:=#[.slice A0_0 l0_0.length c0_0,.slice A0_1 l0_1.length c0_1]) (t:=26) (h:=?_);intro gb548 hg w11 hbox hb;have BK548:=a0_ (hbox);have GW548:=gh_ HB hg;have GE548:=gh_ HB hg;replace HB:=sb_ HB hb;clear hb hbox hg;have hcz12_0:=c20_ BK548;have hcz12_1:=c21_ BK548;have hfz12_0:=fz_ BK548 0;have hfz12_1:=fz_ BK548 1) | ((with_reducible refine gate_callee (f:=43) rfl ?_);refine gL_ (some 8) Tryd.func43 #[.slice A0_0 l0_0.length c0_0,.int .i64 a1] (h:=?_);(with_reducible refine (laws_heldPtS.calls k _ _ l0_0 a1 t549 _ ?side1 ?side2 A3.out).mono ?_);(case side1=>repeat (first | exact (Kd.C_below HR0_0.out HB.out) | (with_reducible refine Kd.C_alloc ?_ _) | (with_reducible refine Kd.C_drewN ?_ _) | (with_reducible refine Kd.C_drew ?_)));(case side2=>exact HC0_0.out);rintro e w' ⟨rfl,⟨nd,rfl⟩⟩;refine⟨_,rfl,?_⟩) | ((with_reducible refine gate_callee (f:=44) rfl ?_);refine gL_ (some 14) Tryd.func44 #[.slice A0_1 l0_1.length c0_1,.int .i64 t549] (h:=?_);(with_reducible refine (laws_heldPtSS.calls k _ _ l0_1 t549 t550 _ ?side1 ?side2 A7.out).mono ?_);(case side1=>repeat (first | exact (Kd.C_below HR0_1.out hB_) | (with_reducible refine Kd.C_alloc ?_ _) | (with_reducible refine Kd.C_drewN ?_ _) | (with_reducible refine Kd.C_drew ?_)));(case side2=>exact HC0_1.out);rintro e w' ⟨rfl,⟨nd,rfl⟩⟩;refine⟨_,rfl,?_⟩));go_ret;exact⟨rr_,hB_⟩
def laws_eqPt.f (a0_0:Int)(a0_1:Int)(a1_0:Int)(a1_1:Int):Option (Bool):=if a0_0=a1_0 then (if a0_1=a1_1 then (some true) else (some false)) else (some false)
set_option maxHeartbeats 8000000 in
set_option maxRecDepth 100000 in
theorem laws_eqPt.calls (a0_0:Int)(a0_1:Int)(a1_0:Int)(a1_1:Int)(r:Bool)(w:World)(h:laws_eqPt.f a0_0 a0_1 a1_0 a1_1=some r):
  Calls Tryd.prog 71 #[.agg #[.int .i64 a0_0,.int .i64 a0_1],.agg #[.int .i64 a1_0,.int .i64 a1_1]] w fun e w'=>e=.returned (.bool r)∧Below w.heap.size w w':=by
 have hu37:=Tryd.underlying37;have HB:=a0_ (Below.refl w.heap.size w);have H:(if a0_0=a1_0 then (if a0_1=a1_1 then (some true) else (some false)) else (some false))=some r:=h;clear h;by_cases c3:a0_0=a1_0
 ·
  rw [if_pos c3] at H;have c3b0:(a0_0==a1_0)=true:=beq_iff_eq.mpr c3;have c3b1:(a0_0 != a1_0)=false:=bne_eq_false_iff_eq.mpr c3;clear c3;by_cases c4:a0_1=a1_1
  ·
   rw [if_pos c4] at H;have c4b0:(a0_1==a1_1)=true:=beq_iff_eq.mpr c4;have c4b1:(a0_1 != a1_1)=false:=bne_eq_false_iff_eq.mpr c4;clear c4;obtain rfl:=Option.some.inj H;go_enter Tryd.func71,Tryd.ntmps71;go_wp2_with (first | ((with_reducible refine gate_dst (N:=2) rfl ?_);refine bx_ (N:=2) (cs:=#[.int .i64 a0_0,.int .i64 a0_1]) (t:=37) (h:=?_);intro gb526 hg w5 hbox hb;have BK526:=a0_ (hbox);have GW526:=gh_ HB hg;have GE526:=gh_ HB hg;replace HB:=sb_ HB hb;clear hb hbox hg) | ((with_reducible refine gate_dst (N:=3) rfl ?_);refine bx_ (N:=3) (cs:=#[.int .i64 a1_0,.int .i64 a1_1]) (t:=37) (h:=?_);intro gb527 hg w6 hbox hb;have BK527:=a0_ (hbox);have GW527:=gh_ HB hg;have GE527:=gh_ HB hg;have NB526_527:=nl_ BK526 hg;have NB527_526:=nr_ BK526 hg;replace BK526:=vb_ BK526 hb;replace HB:=sb_ HB hb;clear hb hbox hg;have hnb7:=NB526_527.out;have hnc7:=NB527_526.out;have hcz8_0:=c20_ BK526;have hcz8_1:=c21_ BK526;have hfz8_0:=fz_ BK526 0;have hfz8_1:=fz_ BK526 1;have hcz9_0:=c20_ BK527;have hcz9_1:=c21_ BK527;have hfz9_0:=fz_ BK527 0;have hfz9_1:=fz_ BK527 1));go_ret;exact⟨rr_,hB_⟩
  ·
   rw [if_neg c4] at H;have c4b0:(a0_1==a1_1)=false:=beq_eq_false_iff_ne.mpr c4;have c4b1:(a0_1 != a1_1)=true:=bne_iff_ne.mpr c4;obtain rfl:=Option.some.inj H;go_enter Tryd.func71,Tryd.ntmps71;go_wp2_with (first | ((with_reducible refine gate_dst (N:=2) rfl ?_);refine bx_ (N:=2) (cs:=#[.int .i64 a0_0,.int .i64 a0_1]) (t:=37) (h:=?_);intro gb526 hg w10 hbox hb;have BK526:=a0_ (hbox);have GW526:=gh_ HB hg;have GE526:=gh_ HB hg;replace HB:=sb_ HB hb;clear hb hbox hg) | ((with_reducible refine gate_dst (N:=3) rfl ?_);refine bx_ (N:=3) (cs:=#[.int .i64 a1_0,.int .i64 a1_1]) (t:=37) (h:=?_);intro gb527 hg w11 hbox hb;have BK527:=a0_ (hbox);have GW527:=gh_ HB hg;have GE527:=gh_ HB hg;have NB526_527:=nl_ BK526 hg;have NB527_526:=nr_ BK526 hg;replace BK526:=vb_ BK526 hb;replace HB:=sb_ HB hb;clear hb hbox hg;have hnb12:=NB526_527.out;have hnc12:=NB527_526.out;have hcz13_0:=c20_ BK526;have hcz13_1:=c21_ BK526;have hfz13_0:=fz_ BK526 0;have hfz13_1:=fz_ BK526 1;have hcz14_0:=c20_ BK527;have hcz14_1:=c21_ BK527;have hfz14_0:=fz_ BK527 0;have hfz14_1:=fz_ BK527 1));go_ret;exact⟨rr_,hB_⟩
 ·
  rw [if_neg c3] at H;have c3b0:(a0_0==a1_0)=false:=beq_eq_false_iff_ne.mpr c3;have c3b1:(a0_0 != a1_0)=true:=bne_iff_ne.mpr c3;obtain rfl:=Option.some.inj H;go_enter Tryd.func71,Tryd.ntmps71;go_wp2_with (first | ((with_reducible refine gate_dst (N:=2) rfl ?_);refine bx_ (N:=2) (cs:=#[.int .i64 a0_0,.int .i64 a0_1]) (t:=37) (h:=?_);intro gb526 hg w15 hbox hb;have BK526:=a0_ (hbox);have GW526:=gh_ HB hg;have GE526:=gh_ HB hg;replace HB:=sb_ HB hb;clear hb hbox hg) | ((with_reducible refine gate_dst (N:=3) rfl ?_);refine bx_ (N:=3) (cs:=#[.int .i64 a1_0,.int .i64 a1_1]) (t:=37) (h:=?_);intro gb527 hg w16 hbox hb;have BK527:=a0_ (hbox);have GW527:=gh_ HB hg;have GE527:=gh_ HB hg;have NB526_527:=nl_ BK526 hg;have NB527_526:=nr_ BK526 hg;replace BK526:=vb_ BK526 hb;replace HB:=sb_ HB hb;clear hb hbox hg;have hnb17:=NB526_527.out;have hnc17:=NB527_526.out;have hcz18_0:=c20_ BK526;have hcz18_1:=c21_ BK526;have hfz18_0:=fz_ BK526 0;have hfz18_1:=fz_ BK526 1;have hcz19_0:=c20_ BK527;have hcz19_1:=c21_ BK527;have hfz19_0:=fz_ BK527 0;have hfz19_1:=fz_ BK527 1));go_ret;exact⟨rr_,hB_⟩
def laws_eqPtS.l0:Nat→List (S37)→List (S37)→Int→Option (Bool)
 | 0,_,_,_=>none
 | k+1,x0,x1,x5=>if x5<(x0.length:Int) then (if 0≤x5 then (if x5<(x1.length:Int) then ((laws_eqPt.f ((rd_T37 x0 x5).f0) ((rd_T37 x0 x5).f1) ((rd_T37 x1 x5).f0) ((rd_T37 x1 x5).f1)).bind fun t530=>(if t530=true then (laws_eqPtS.l0 k x0 x1 (wrap64 (x5+1))) else (some false))) else (none)) else (none)) else (some true)
def laws_eqPtS.f (k:Nat)(l0:List (S37))(l1:List (S37)):Option (Bool):=if (l0.length:Int)=(l1.length:Int) then (laws_eqPtS.l0 k l0 l1 0) else (some false)
def laws_eqPtS.T6:Bool × List (List Nat × List Nat):=(true,[([],[]),([],[]),([0,1],[0,1]),([2],[2]),([],[]),([],[]),([4,5],[4,5]),([6],[6]),([3,7],[3,7]),([8],[8])])
def laws_eqPtS.B6:List Nat:=[0,0,3,7,0,0,48,112,255,511]
theorem laws_eqPtS.tab6:rtab .any (opsOf Tryd.f39 6)=laws_eqPtS.T6:=by kernel_rfl
theorem laws_eqPtS.bits6:waitsOk laws_eqPtS.T6.2 laws_eqPtS.B6=true:=by kernel_rfl
set_option maxHeartbeats 8000000 in
set_option maxRecDepth 100000 in
theorem laws_eqPtS.calls (k:Nat)(A0:Option Addr)(c0:Nat)(l0:List (S37))(A1:Option Addr)(c1:Nat)(l1:List (S37))(r:Bool)(w:World)(hr0:Kd.C k37 w A0 l0.length l0)(hc0:l0.length≤c0)(hr1:Kd.C k37 w A1 l1.length l1)(hc1:l1.length≤c1)(h:laws_eqPtS.f k l0 l1=some r):
  Calls Tryd.prog 39 #[.slice A0 l0.length c0,.slice A1 l1.length c1] w fun e w'=>e=.returned (.bool r)∧Below w.heap.size w w':=by
 have hu37:=Tryd.underlying37;have HR0:=Aside0.mk hr0;have HC0:=Aside0.mk hc0;clear hr0 hc0;have HR1:=Aside0.mk hr1;have HC1:=Aside0.mk hc1;clear hr1 hc1;have HB:=a0_ (Below.refl w.heap.size w);have H:(if (l0.length:Int)=(l1.length:Int) then (laws_eqPtS.l0 k l0 l1 0) else (some false))=some r:=h;clear h;by_cases c3:(l0.length:Int)=(l1.length:Int)
 ·
  rw [if_pos c3] at H;have c3b0:((l0.length:Int)==(l1.length:Int))=true:=beq_iff_eq.mpr c3;have c3b1:((l0.length:Int) != (l1.length:Int))=false:=bne_eq_false_iff_eq.mpr c3;have c3b2:(l0.length==l1.length)=true:=by first | simpa using c3 | (simp at c3 ⊢;omega)
  clear c3;have H':=Aside0.mk H;clear H;go_enter Tryd.func39,Tryd.ntmps39;go_wp2;go_loopg [5] k (fun kq v5 w'=>∃ (x5_1:Int),v5=.int .i64 x5_1∧Aside0 (laws_eqPtS.l0 kq l0 l1 x5_1=some r)∧Aside0 (kq≤k)∧Aside0 (Below w.heap.size w w'))
  case atStart=>exact⟨(0),(by first | rfl | (simp;done) | (simp [*];done)),H',⟨Nat.le_refl _⟩,⟨hB_⟩⟩
  case round =>
   clear H';obtain⟨x5_1,rfl,HA,HK1,HB⟩:=hrel
   cases gk with
   | zero=>exact absurd HA.out (by simp [laws_eqPtS.l0])
   | succ k1 =>
    have H:=HA.out;clear HA;simp only [laws_eqPtS.l0] at H;by_cases c4:x5_1<(l0.length:Int)
    ·
     rw [if_pos c4] at H;have c4b0:decide (x5_1<(l0.length:Int))=true:=decide_eq_true c4;clear c4;by_cases c5:0≤x5_1
     ·
      rw [if_pos c5] at H;have c5b0:decide (0≤x5_1)=true:=decide_eq_true c5;clear c5;by_cases c6:x5_1<(l1.length:Int)
      ·
       rw [if_pos c6] at H;have c6b0:decide (x5_1<(l1.length:Int))=true:=decide_eq_true c6;clear c6;replace H:=Option.bind_eq_some_iff.mp H;obtain⟨t530,A70,H⟩:=H
       (try dsimp only at H)
       have A7:=Aside0.mk A70;clear A70;by_cases c8:t530=true
       ·
        subst c8;rw [if_pos rfl] at H
        (try dsimp only at H)
        have H':=Aside0.mk H;clear H
        try go_wp2
        replace HB:=a0_ (below_drew1 HB.out);have p528:0≤(x5_1:Int):=od_;have q528:x5_1<(l0.length:Int):=od_;obtain⟨ad528,e528,hx528_0,hx528_1⟩:=at_T37 HR0.out x5_1 p528 q528;have hw528_1:=hx528_1;have hw528_0:=hx528_0;cases e528;replace hx528_0:=ce_ HB hx528_0;replace hx528_1:=ce_ HB hx528_1;replace p528:=eq_true p528;replace q528:=eq_true q528;have p529:0≤(x5_1:Int):=od_;have q529:x5_1<(l1.length:Int):=od_;obtain⟨ad529,e529,hx529_0,hx529_1⟩:=at_T37 HR1.out x5_1 p529 q529;have hw529_1:=hx529_1;have hw529_0:=hx529_0;cases e529;replace hx529_0:=ce_ HB hx529_0;replace hx529_1:=ce_ HB hx529_1;replace p529:=eq_true p529;replace q529:=eq_true q529;refine start_ (n:=10) (S:=fun w'=>w'.cell? (ad528.add ((x5_1).toNat*2))=some (.int .i64 ((rd_T37 l0 x5_1).f0))∧w'.cell? ⟨(ad528.add ((x5_1).toNat*2)).block,(ad528.add ((x5_1).toNat*2)).off+1,none⟩=some (.int .i64 ((rd_T37 l0 x5_1).f1))∧w'.cell? (ad529.add ((x5_1).toNat*2))=some (.int .i64 ((rd_T37 l1 x5_1).f0))∧w'.cell? ⟨(ad529.add ((x5_1).toNat*2)).block,(ad529.add ((x5_1).toNat*2)).off+1,none⟩=some (.int .i64 ((rd_T37 l1 x5_1).f1))) (ds:=[]) (Array.replicate 10 false) (by kernel_rfl) rfl rfl ⟨(ce_ HB hw528_0),(ce_ HB hw528_1),(ce_ HB hw529_0),(ce_ HB hw529_1)⟩ (fun hHeld=>?_);refine with_tabW laws_eqPtS.tab6 laws_eqPtS.bits6 (fun HT_ HW_=>?_);generalize wr.drew=w9 at HB hx528_0 hx528_1 hx529_0 hx529_1 hHeld ⊢
        refine pu_ HT_ 0 17 (bm 10 1) ?_;refine pu_ HT_ 1 18 (bm 10 3) ?_;refine pu_ HT_ 2 19 (bm 10 7) ?_;refine pu_ HT_ 4 21 (bm 10 23) ?_;refine pu_ HT_ 5 22 (bm 10 55) ?_;refine pu_ HT_ 6 23 (bm 10 119) ?_;refine ta4_ HT_ HW_ 3 20 (bm 10 127) hHeld ?_;refine ta4_ HT_ HW_ 7 24 (bm 10 255) hHeld ?_;refine one_ (i:=8) (N:=some 25) (bm 10 511) rfl rfl (one_of HT_.out (by kernel_rfl)) (by decide) (fun K hK=>?_);refine goes_ Tryd.func71 (by kernel_rfl) rfl #[.agg #[.int .i64 ((rd_T37 l0 x5_1).f0),.int .i64 ((rd_T37 l0 x5_1).f1)],.agg #[.int .i64 ((rd_T37 l1 x5_1).f0),.int .i64 ((rd_T37 l1 x5_1).f1)]] (by rfl) rfl rfl ma_ ?_
        with_reducible refine (laws_eqPt.calls ((rd_T37 l0 x5_1).f0) ((rd_T37 l0 x5_1).f1) ((rd_T37 l1 x5_1).f0) ((rd_T37 l1 x5_1).f1) true _ A7.out).mono ?_
        rintro e w10 ⟨rfl,hb⟩;refine⟨_,rfl,?_⟩;replace HB:=sb_ HB hb
        (try clear hb)
        (try clear hb2)
        (try clear hk)
        (try clear hi)
        refine hK.out _ _ ⟨(ce_ HB hw528_0),(ce_ HB hw528_1),(ce_ HB hw529_0),(ce_ HB hw529_1)⟩ (fun hHeld=>?_);clear hK K;refine no_ (h:=?_);refine pu_ HT_ 9 26 (bm 10 1023) ?_;refine done_ (done_of HT_.out (by kernel_rfl)) ?_
        try go_wp2
        go_roundg k1
        case measure=>have:=HK1.out;omega
        case rel=>exact⟨(wrap64 (x5_1+1)),(by first | rfl | (simp;done) | (simp [*];done)),H',⟨by have:=HK1.out;omega⟩,⟨hB_⟩⟩
       ·
        replace c8:=Bool.eq_false_iff.mpr c8;subst c8;rw [if_neg (show ¬ (false=true) by decide)] at H
        (try dsimp only at H)
        obtain rfl:=Option.some.inj H
        try go_wp2
        replace HB:=a0_ (below_drew1 HB.out);have p528:0≤(x5_1:Int):=od_;have q528:x5_1<(l0.length:Int):=od_;obtain⟨ad528,e528,hx528_0,hx528_1⟩:=at_T37 HR0.out x5_1 p528 q528;have hw528_1:=hx528_1;have hw528_0:=hx528_0;cases e528;replace hx528_0:=ce_ HB hx528_0;replace hx528_1:=ce_ HB hx528_1;replace p528:=eq_true p528;replace q528:=eq_true q528;have p529:0≤(x5_1:Int):=od_;have q529:x5_1<(l1.length:Int):=od_;obtain⟨ad529,e529,hx529_0,hx529_1⟩:=at_T37 HR1.out x5_1 p529 q529;have hw529_1:=hx529_1;have hw529_0:=hx529_0;cases e529;replace hx529_0:=ce_ HB hx529_0;replace hx529_1:=ce_ HB hx529_1;replace p529:=eq_true p529;replace q529:=eq_true q529;refine start_ (n:=10) (S:=fun w'=>w'.cell? (ad528.add ((x5_1).toNat*2))=some (.int .i64 ((rd_T37 l0 x5_1).f0))∧w'.cell? ⟨(ad528.add ((x5_1).toNat*2)).block,(ad528.add ((x5_1).toNat*2)).off+1,none⟩=some (.int .i64 ((rd_T37 l0 x5_1).f1))∧w'.cell? (ad529.add ((x5_1).toNat*2))=some (.int .i64 ((rd_T37 l1 x5_1).f0))∧w'.cell? ⟨(ad529.add ((x5_1).toNat*2)).block,(ad529.add ((x5_1).toNat*2)).off+1,none⟩=some (.int .i64 ((rd_T37 l1 x5_1).f1))) (ds:=[]) (Array.replicate 10 false) (by kernel_rfl) rfl rfl ⟨(ce_ HB hw528_0),(ce_ HB hw528_1),(ce_ HB hw529_0),(ce_ HB hw529_1)⟩ (fun hHeld=>?_);refine with_tabW laws_eqPtS.tab6 laws_eqPtS.bits6 (fun HT_ HW_=>?_);generalize wr.drew=w11 at HB hx528_0 hx528_1 hx529_0 hx529_1 hHeld ⊢
        refine pu_ HT_ 0 17 (bm 10 1) ?_;refine pu_ HT_ 1 18 (bm 10 3) ?_;refine pu_ HT_ 2 19 (bm 10 7) ?_;refine pu_ HT_ 4 21 (bm 10 23) ?_;refine pu_ HT_ 5 22 (bm 10 55) ?_;refine pu_ HT_ 6 23 (bm 10 119) ?_;refine ta4_ HT_ HW_ 3 20 (bm 10 127) hHeld ?_;refine ta4_ HT_ HW_ 7 24 (bm 10 255) hHeld ?_;refine one_ (i:=8) (N:=some 25) (bm 10 511) rfl rfl (one_of HT_.out (by kernel_rfl)) (by decide) (fun K hK=>?_);refine goes_ Tryd.func71 (by kernel_rfl) rfl #[.agg #[.int .i64 ((rd_T37 l0 x5_1).f0),.int .i64 ((rd_T37 l0 x5_1).f1)],.agg #[.int .i64 ((rd_T37 l1 x5_1).f0),.int .i64 ((rd_T37 l1 x5_1).f1)]] (by rfl) rfl rfl ma_ ?_
        with_reducible refine (laws_eqPt.calls ((rd_T37 l0 x5_1).f0) ((rd_T37 l0 x5_1).f1) ((rd_T37 l1 x5_1).f0) ((rd_T37 l1 x5_1).f1) false _ A7.out).mono ?_
        rintro e w12 ⟨rfl,hb⟩;refine⟨_,rfl,?_⟩;replace HB:=sb_ HB hb
        (try clear hb)
        (try clear hb2)
        (try clear hk)
        (try clear hi)
        refine hK.out _ _ ⟨(ce_ HB hw528_0),(ce_ HB hw528_1),(ce_ HB hw529_0),(ce_ HB hw529_1)⟩ (fun hHeld=>?_);clear hK K;refine no_ (h:=?_);refine pu_ HT_ 9 26 (bm 10 1023) ?_;refine done_ (done_of HT_.out (by kernel_rfl)) ?_
        try go_wp2
        go_ret;exact⟨rr_,hB_⟩
      ·
       rw [if_neg c6] at H;exact absurd H (by simp)
     ·
      rw [if_neg c5] at H;exact absurd H (by simp)
    ·
     rw [if_neg c4] at H;have c4b0:decide (x5_1<(l0.length:Int))=false:=decide_eq_false c4;clear c4;obtain rfl:=Option.some.inj H;go_wp2;go_ret;exact⟨rr_,hB_⟩
 ·
  rw [if_neg c3] at H;have c3b0:((l0.length:Int)==(l1.length:Int))=false:=beq_eq_false_iff_ne.mpr c3;have c3b1:((l0.length:Int) != (l1.length:Int))=true:=bne_iff_ne.mpr c3;have c3b2:(l0.length==l1.length)=false:=by first | simpa using c3 | (simp at c3 ⊢;omega)
  obtain rfl:=Option.some.inj H;go_enter Tryd.func39,Tryd.ntmps39;go_wp2;go_ret;exact⟨rr_,hB_⟩
def laws_eqPtSS.l0:Nat→List (List (S37))→List (List (S37))→Int→Option (Bool)
 | 0,_,_,_=>none
 | k+1,x0,x1,x5=>if x5<(x0.length:Int) then (if 0≤x5 then (if x5<(x1.length:Int) then ((laws_eqPtS.f k (rd_L5 x0 x5) (rd_L5 x1 x5)).bind fun t533=>(if t533=true then (laws_eqPtSS.l0 k x0 x1 (wrap64 (x5+1))) else (some false))) else (none)) else (none)) else (some true)
def laws_eqPtSS.f (k:Nat)(l0:List (List (S37)))(l1:List (List (S37))):Option (Bool):=if (l0.length:Int)=(l1.length:Int) then (laws_eqPtSS.l0 k l0 l1 0) else (some false)
def laws_eqPtSS.T6:Bool × List (List Nat × List Nat):=(true,[([],[]),([],[]),([0,1],[0,1]),([2],[2]),([],[]),([],[]),([4,5],[4,5]),([6],[6]),([3,7],[3,7]),([8],[8])])
def laws_eqPtSS.B6:List Nat:=[0,0,3,7,0,0,48,112,255,511]
theorem laws_eqPtSS.tab6:rtab .any (opsOf Tryd.f40 6)=laws_eqPtSS.T6:=by kernel_rfl
theorem laws_eqPtSS.bits6:waitsOk laws_eqPtSS.T6.2 laws_eqPtSS.B6=true:=by kernel_rfl
set_option maxHeartbeats 8000000 in
set_option maxRecDepth 100000 in
theorem laws_eqPtSS.calls (k:Nat)(A0:Option Addr)(c0:Nat)(l0:List (List (S37)))(A1:Option Addr)(c1:Nat)(l1:List (List (S37)))(r:Bool)(w:World)(hr0:Kd.C (Kd.slice 37 k37) w A0 l0.length l0)(hc0:l0.length≤c0)(hr1:Kd.C (Kd.slice 37 k37) w A1 l1.length l1)(hc1:l1.length≤c1)(h:laws_eqPtSS.f k l0 l1=some r):
  Calls Tryd.prog 40 #[.slice A0 l0.length c0,.slice A1 l1.length c1] w fun e w'=>e=.returned (.bool r)∧Below w.heap.size w w':=by
 have HR0:=Aside0.mk hr0;have HC0:=Aside0.mk hc0;clear hr0 hc0;have HR1:=Aside0.mk hr1;have HC1:=Aside0.mk hc1;clear hr1 hc1;have HB:=a0_ (Below.refl w.heap.size w);have H:(if (l0.length:Int)=(l1.length:Int) then (laws_eqPtSS.l0 k l0 l1 0) else (some false))=some r:=h;clear h;by_cases c3:(l0.length:Int)=(l1.length:Int)
 ·
  rw [if_pos c3] at H;have c3b0:((l0.length:Int)==(l1.length:Int))=true:=beq_iff_eq.mpr c3;have c3b1:((l0.length:Int) != (l1.length:Int))=false:=bne_eq_false_iff_eq.mpr c3;have c3b2:(l0.length==l1.length)=true:=by first | simpa using c3 | (simp at c3 ⊢;omega)
  clear c3;have H':=Aside0.mk H;clear H;go_enter Tryd.func40,Tryd.ntmps40;go_wp2;go_loopg [5] k (fun kq v5 w'=>∃ (x5_1:Int),v5=.int .i64 x5_1∧Aside0 (laws_eqPtSS.l0 kq l0 l1 x5_1=some r)∧Aside0 (kq≤k)∧Aside0 (Below w.heap.size w w'))
  case atStart=>exact⟨(0),(by first | rfl | (simp;done) | (simp [*];done)),H',⟨Nat.le_refl _⟩,⟨hB_⟩⟩
  case round =>
   clear H';obtain⟨x5_1,rfl,HA,HK1,HB⟩:=hrel
   cases gk with
   | zero=>exact absurd HA.out (by simp [laws_eqPtSS.l0])
   | succ k1 =>
    have H:=HA.out;clear HA;simp only [laws_eqPtSS.l0] at H;by_cases c4:x5_1<(l0.length:Int)
    ·
     rw [if_pos c4] at H;have c4b0:decide (x5_1<(l0.length:Int))=true:=decide_eq_true c4;clear c4;by_cases c5:0≤x5_1
     ·
      rw [if_pos c5] at H;have c5b0:decide (0≤x5_1)=true:=decide_eq_true c5;clear c5;by_cases c6:x5_1<(l1.length:Int)
      ·
       rw [if_pos c6] at H;have c6b0:decide (x5_1<(l1.length:Int))=true:=decide_eq_true c6;clear c6;replace H:=Option.bind_eq_some_iff.mp H;obtain⟨t533,A70,H⟩:=H
       (try dsimp only at H)
       have A7:=Aside0.mk A70;clear A70;by_cases c8:t533=true
       ·
        subst c8;rw [if_pos rfl] at H
        (try dsimp only at H)
        have H':=Aside0.mk H;clear H
        try go_wp2
        replace HB:=a0_ (below_drew1 HB.out);have p531:0≤(x5_1:Int):=od_;have q531:x5_1<(l0.length:Int):=od_;obtain⟨ad531,A531_0,c531_0,e531,hx531_0,hl531_0,hi531_0⟩:=at_L5 HR0.out x5_1 p531 q531;have hw531_0:=hx531_0;cases e531;replace hx531_0:=ce_ HB hx531_0;have HR531_0:=Aside0.mk hi531_0;have HC531_0:=Aside0.mk hl531_0;clear hi531_0 hl531_0;replace p531:=eq_true p531;replace q531:=eq_true q531;have p532:0≤(x5_1:Int):=od_;have q532:x5_1<(l1.length:Int):=od_;obtain⟨ad532,A532_0,c532_0,e532,hx532_0,hl532_0,hi532_0⟩:=at_L5 HR1.out x5_1 p532 q532;have hw532_0:=hx532_0;cases e532;replace hx532_0:=ce_ HB hx532_0;have HR532_0:=Aside0.mk hi532_0;have HC532_0:=Aside0.mk hl532_0;clear hi532_0 hl532_0;replace p532:=eq_true p532;replace q532:=eq_true q532;refine start_ (n:=10) (S:=fun w'=>w'.cell? (ad531.add (x5_1).toNat)=some (.slice A531_0 (rd_L5 l0 x5_1).length c531_0)∧w'.cell? (ad532.add (x5_1).toNat)=some (.slice A532_0 (rd_L5 l1 x5_1).length c532_0)) (ds:=[]) (Array.replicate 10 false) (by kernel_rfl) rfl rfl ⟨(ce_ HB hw531_0),(ce_ HB hw532_0)⟩ (fun hHeld=>?_);refine with_tabW laws_eqPtSS.tab6 laws_eqPtSS.bits6 (fun HT_ HW_=>?_);generalize wr.drew=w9 at HB HR531_0 HR532_0 hx531_0 hx532_0 hHeld ⊢
        refine pu_ HT_ 0 17 (bm 10 1) ?_;refine pu_ HT_ 1 18 (bm 10 3) ?_;refine pu_ HT_ 2 19 (bm 10 7) ?_;refine pu_ HT_ 4 21 (bm 10 23) ?_;refine pu_ HT_ 5 22 (bm 10 55) ?_;refine pu_ HT_ 6 23 (bm 10 119) ?_;refine ta2_ HT_ HW_ 3 20 (bm 10 127) hHeld ?_;refine ta2_ HT_ HW_ 7 24 (bm 10 255) hHeld ?_;refine one_ (i:=8) (N:=some 25) (bm 10 511) rfl rfl (one_of HT_.out (by kernel_rfl)) (by decide) (fun K hK=>?_);refine goes_ Tryd.func39 (by kernel_rfl) rfl #[.slice A531_0 (rd_L5 l0 x5_1).length c531_0,.slice A532_0 (rd_L5 l1 x5_1).length c532_0] (by rfl) rfl rfl ma_ ?_
        with_reducible refine (laws_eqPtS.calls k1 _ _ (rd_L5 l0 x5_1) _ _ (rd_L5 l1 x5_1) true _ ?side1 ?side2 ?side3 ?side4 A7.out).mono ?_
        (case side1=>repeat (first | exact (Kd.C_below HR531_0.out HB.out) | (with_reducible refine Kd.C_alloc ?_ _) | (with_reducible refine Kd.C_drewN ?_ _) | (with_reducible refine Kd.C_drew ?_)))
        (case side2=>exact HC531_0.out)
        (case side3=>repeat (first | exact (Kd.C_below HR532_0.out HB.out) | (with_reducible refine Kd.C_alloc ?_ _) | (with_reducible refine Kd.C_drewN ?_ _) | (with_reducible refine Kd.C_drew ?_)))
        (case side4=>exact HC532_0.out)
        rintro e w10 ⟨rfl,hb⟩;refine⟨_,rfl,?_⟩;replace HB:=sb_ HB hb
        (try clear hb)
        (try clear hb2)
        (try clear hk)
        (try clear hi)
        refine hK.out _ _ ⟨(ce_ HB hw531_0),(ce_ HB hw532_0)⟩ (fun hHeld=>?_);clear hK K;refine no_ (h:=?_);refine pu_ HT_ 9 26 (bm 10 1023) ?_;refine done_ (done_of HT_.out (by kernel_rfl)) ?_
        try go_wp2
        go_roundg k1
        case measure=>have:=HK1.out;omega
        case rel=>exact⟨(wrap64 (x5_1+1)),(by first | rfl | (simp;done) | (simp [*];done)),H',⟨by have:=HK1.out;omega⟩,⟨hB_⟩⟩
       ·
        replace c8:=Bool.eq_false_iff.mpr c8;subst c8;rw [if_neg (show ¬ (false=true) by decide)] at H
        (try dsimp only at H)
        obtain rfl:=Option.some.inj H
        try go_wp2
        replace HB:=a0_ (below_drew1 HB.out);have p531:0≤(x5_1:Int):=od_;have q531:x5_1<(l0.length:Int):=od_;obtain⟨ad531,A531_0,c531_0,e531,hx531_0,hl531_0,hi531_0⟩:=at_L5 HR0.out x5_1 p531 q531;have hw531_0:=hx531_0;cases e531;replace hx531_0:=ce_ HB hx531_0;have HR531_0:=Aside0.mk hi531_0;have HC531_0:=Aside0.mk hl531_0;clear hi531_0 hl531_0;replace p531:=eq_true p531;replace q531:=eq_true q531;have p532:0≤(x5_1:Int):=od_;have q532:x5_1<(l1.length:Int):=od_;obtain⟨ad532,A532_0,c532_0,e532,hx532_0,hl532_0,hi532_0⟩:=at_L5 HR1.out x5_1 p532 q532;have hw532_0:=hx532_0;cases e532;replace hx532_0:=ce_ HB hx532_0;have HR532_0:=Aside0.mk hi532_0;have HC532_0:=Aside0.mk hl532_0;clear hi532_0 hl532_0;replace p532:=eq_true p532;replace q532:=eq_true q532;refine start_ (n:=10) (S:=fun w'=>w'.cell? (ad531.add (x5_1).toNat)=some (.slice A531_0 (rd_L5 l0 x5_1).length c531_0)∧w'.cell? (ad532.add (x5_1).toNat)=some (.slice A532_0 (rd_L5 l1 x5_1).length c532_0)) (ds:=[]) (Array.replicate 10 false) (by kernel_rfl) rfl rfl ⟨(ce_ HB hw531_0),(ce_ HB hw532_0)⟩ (fun hHeld=>?_);refine with_tabW laws_eqPtSS.tab6 laws_eqPtSS.bits6 (fun HT_ HW_=>?_);generalize wr.drew=w11 at HB HR531_0 HR532_0 hx531_0 hx532_0 hHeld ⊢
        refine pu_ HT_ 0 17 (bm 10 1) ?_;refine pu_ HT_ 1 18 (bm 10 3) ?_;refine pu_ HT_ 2 19 (bm 10 7) ?_;refine pu_ HT_ 4 21 (bm 10 23) ?_;refine pu_ HT_ 5 22 (bm 10 55) ?_;refine pu_ HT_ 6 23 (bm 10 119) ?_;refine ta2_ HT_ HW_ 3 20 (bm 10 127) hHeld ?_;refine ta2_ HT_ HW_ 7 24 (bm 10 255) hHeld ?_;refine one_ (i:=8) (N:=some 25) (bm 10 511) rfl rfl (one_of HT_.out (by kernel_rfl)) (by decide) (fun K hK=>?_);refine goes_ Tryd.func39 (by kernel_rfl) rfl #[.slice A531_0 (rd_L5 l0 x5_1).length c531_0,.slice A532_0 (rd_L5 l1 x5_1).length c532_0] (by rfl) rfl rfl ma_ ?_
        with_reducible refine (laws_eqPtS.calls k1 _ _ (rd_L5 l0 x5_1) _ _ (rd_L5 l1 x5_1) false _ ?side1 ?side2 ?side3 ?side4 A7.out).mono ?_
        (case side1=>repeat (first | exact (Kd.C_below HR531_0.out HB.out) | (with_reducible refine Kd.C_alloc ?_ _) | (with_reducible refine Kd.C_drewN ?_ _) | (with_reducible refine Kd.C_drew ?_)))
        (case side2=>exact HC531_0.out)
        (case side3=>repeat (first | exact (Kd.C_below HR532_0.out HB.out) | (with_reducible refine Kd.C_alloc ?_ _) | (with_reducible refine Kd.C_drewN ?_ _) | (with_reducible refine Kd.C_drew ?_)))
        (case side4=>exact HC532_0.out)
        rintro e w12 ⟨rfl,hb⟩;refine⟨_,rfl,?_⟩;replace HB:=sb_ HB hb
        (try clear hb)
        (try clear hb2)
        (try clear hk)
        (try clear hi)
        refine hK.out _ _ ⟨(ce_ HB hw531_0),(ce_ HB hw532_0)⟩ (fun hHeld=>?_);clear hK K;refine no_ (h:=?_);refine pu_ HT_ 9 26 (bm 10 1023) ?_;refine done_ (done_of HT_.out (by kernel_rfl)) ?_
        try go_wp2
        go_ret;exact⟨rr_,hB_⟩
      ·
       rw [if_neg c6] at H;exact absurd H (by simp)
     ·
      rw [if_neg c5] at H;exact absurd H (by simp)
    ·
     rw [if_neg c4] at H;have c4b0:decide (x5_1<(l0.length:Int))=false:=decide_eq_false c4;clear c4;obtain rfl:=Option.some.inj H;go_wp2;go_ret;exact⟨rr_,hB_⟩
 ·
  rw [if_neg c3] at H;have c3b0:((l0.length:Int)==(l1.length:Int))=false:=beq_eq_false_iff_ne.mpr c3;have c3b1:((l0.length:Int) != (l1.length:Int))=true:=bne_iff_ne.mpr c3;have c3b2:(l0.length==l1.length)=false:=by first | simpa using c3 | (simp at c3 ⊢;omega)
  obtain rfl:=Option.some.inj H;go_enter Tryd.func40,Tryd.ntmps40;go_wp2;go_ret;exact⟨rr_,hB_⟩
def laws_eqPlate.f (k:Nat)(l0_0:List (S37))(l0_1:List (List (S37)))(l1_0:List (S37))(l1_1:List (List (S37))):Option (Bool):=(laws_eqPtS.f k l0_0 l1_0).bind fun t536=>(if t536=true then ((laws_eqPtSS.f k l0_1 l1_1).bind fun t537=>(if t537=true then (some true) else (some false))) else (some false))
set_option maxHeartbeats 8000000 in
set_option maxRecDepth 100000 in
theorem laws_eqPlate.calls (k:Nat)(A0_0:Option Addr)(c0_0:Nat)(l0_0:List (S37))(A0_1:Option Addr)(c0_1:Nat)(l0_1:List (List (S37)))(A1_0:Option Addr)(c1_0:Nat)(l1_0:List (S37))(A1_1:Option Addr)(c1_1:Nat)(l1_1:List (List (S37)))(r:Bool)(w:World)(hr0_0:Kd.C k37 w A0_0 l0_0.length l0_0)(hc0_0:l0_0.length≤c0_0)(hr0_1:Kd.C (Kd.slice 37 k37) w A0_1 l0_1.length l0_1)(hc0_1:l0_1.length≤c0_1)(hr1_0:Kd.C k37 w A1_0 l1_0.length l1_0)(hc1_0:l1_0.length≤c1_0)(hr1_1:Kd.C (Kd.slice 37 k37) w A1_1 l1_1.length l1_1)(hc1_1:l1_1.length≤c1_1)(h:laws_eqPlate.f k l0_0 l0_1 l1_0 l1_1=some r):
  Calls Tryd.prog 13 #[.agg #[.slice A0_0 l0_0.length c0_0,.slice A0_1 l0_1.length c0_1],.agg #[.slice A1_0 l1_0.length c1_0,.slice A1_1 l1_1.length c1_1]] w fun e w'=>e=.returned (.bool r)∧Below w.heap.size w w':=by
 have hu26:=Tryd.underlying26;have HR0_0:=Aside0.mk hr0_0;have HC0_0:=Aside0.mk hc0_0;clear hr0_0 hc0_0;have HR0_1:=Aside0.mk hr0_1;have HC0_1:=Aside0.mk hc0_1;clear hr0_1 hc0_1;have HR1_0:=Aside0.mk hr1_0;have HC1_0:=Aside0.mk hc1_0;clear hr1_0 hc1_0;have HR1_1:=Aside0.mk hr1_1;have HC1_1:=Aside0.mk hc1_1;clear hr1_1 hc1_1;have HB:=a0_ (Below.refl w.heap.size w);have H:((laws_eqPtS.f k l0_0 l1_0).bind fun t536=>(if t536=true then ((laws_eqPtSS.f k l0_1 l1_1).bind fun t537=>(if t537=true then (some true) else (some false))) else (some false)))=some r:=h;clear h;replace H:=Option.bind_eq_some_iff.mp H;obtain⟨t536,A30,H⟩:=H
 (try dsimp only at H)
 have A3:=Aside0.mk A30;clear A30;by_cases c4:t536=true
 ·
  subst c4;rw [if_pos rfl] at H
  (try dsimp only at H)
  replace H:=Option.bind_eq_some_iff.mp H;obtain⟨t537,A50,H⟩:=H
  (try dsimp only at H)
  have A5:=Aside0.mk A50;clear A50;by_cases c6:t537=true
  ·
   subst c6;rw [if_pos rfl] at H
   (try dsimp only at H)
   obtain rfl:=Option.some.inj H;go_enter Tryd.func13,Tryd.ntmps13
   go_wp2_with (first | ((with_reducible refine gate_dst (N:=2) rfl ?_);refine bx_ (N:=2) (cs:=#[.slice A0_0 l0_0.length c0_0,.slice A0_1 l0_1.length c0_1]) (t:=26) (h:=?_);intro gb534 hg w7 hbox hb;have BK534:=a0_ (hbox);have GW534:=gh_ HB hg;have GE534:=gh_ HB hg;replace HB:=sb_ HB hb;clear hb hbox hg) | ((with_reducible refine gate_dst (N:=3) rfl ?_);refine bx_ (N:=3) (cs:=#[.slice A1_0 l1_0.length c1_0,.slice A1_1 l1_1.length c1_1]) (t:=26) (h:=?_);intro gb535 hg w8 hbox hb;have BK535:=a0_ (hbox);have GW535:=gh_ HB hg;have GE535:=gh_ HB hg;have NB534_535:=nl_ BK534 hg;have NB535_534:=nr_ BK534 hg;replace BK534:=vb_ BK534 hb;replace HB:=sb_ HB hb;clear hb hbox hg;have hnb9:=NB534_535.out;have hnc9:=NB535_534.out;have hcz10_0:=c20_ BK534;have hcz10_1:=c21_ BK534;have hfz10_0:=fz_ BK534 0;have hfz10_1:=fz_ BK534 1;have hcz11_0:=c20_ BK535;have hcz11_1:=c21_ BK535;have hfz11_0:=fz_ BK535 0;have hfz11_1:=fz_ BK535 1) | ((with_reducible refine gate_callee (f:=39) rfl ?_);refine gL_ (some 9) Tryd.func39 #[.slice A0_0 l0_0.length c0_0,.slice A1_0 l1_0.length c1_0] (h:=?_);(with_reducible refine (laws_eqPtS.calls k _ _ l0_0 _ _ l1_0 true _ ?side1 ?side2 ?side3 ?side4 A3.out).mono ?_);(case side1=>repeat (first | exact (Kd.C_below HR0_0.out HB.out) | (with_reducible refine Kd.C_alloc ?_ _) | (with_reducible refine Kd.C_drewN ?_ _) | (with_reducible refine Kd.C_drew ?_)));(case side2=>exact HC0_0.out);(case side3=>repeat (first | exact (Kd.C_below HR1_0.out HB.out) | (with_reducible refine Kd.C_alloc ?_ _) | (with_reducible refine Kd.C_drewN ?_ _) | (with_reducible refine Kd.C_drew ?_)));(case side4=>exact HC1_0.out);rintro e w12 ⟨rfl,hb⟩;refine⟨_,rfl,?_⟩;replace BK534:=vb_ BK534 hb;replace BK535:=vb_ BK535 hb;replace HB:=sb_ HB hb;(try clear hb);have hcz13_0:=c20_ BK534;have hcz13_1:=c21_ BK534;have hfz13_0:=fz_ BK534 0;have hfz13_1:=fz_ BK534 1;have hcz14_0:=c20_ BK535;have hcz14_1:=c21_ BK535;have hfz14_0:=fz_ BK535 0;have hfz14_1:=fz_ BK535 1) | ((with_reducible refine gate_callee (f:=40) rfl ?_);refine gL_ (some 15) Tryd.func40 #[.slice A0_1 l0_1.length c0_1,.slice A1_1 l1_1.length c1_1] (h:=?_);(with_reducible refine (laws_eqPtSS.calls k _ _ l0_1 _ _ l1_1 true _ ?side1 ?side2 ?side3 ?side4 A5.out).mono ?_);(case side1=>repeat (first | exact (Kd.C_below HR0_1.out HB.out) | (with_reducible refine Kd.C_alloc ?_ _) | (with_reducible refine Kd.C_drewN ?_ _) | (with_reducible refine Kd.C_drew ?_)));(case side2=>exact HC0_1.out);(case side3=>repeat (first | exact (Kd.C_below HR1_1.out HB.out) | (with_reducible refine Kd.C_alloc ?_ _) | (with_reducible refine Kd.C_drewN ?_ _) | (with_reducible refine Kd.C_drew ?_)));(case side4=>exact HC1_1.out);rintro e w15 ⟨rfl,hb⟩;refine⟨_,rfl,?_⟩;replace BK534:=vb_ BK534 hb;replace BK535:=vb_ BK535 hb;replace HB:=sb_ HB hb;(try clear hb)))
   go_ret;exact⟨rr_,hB_⟩
  ·
   replace c6:=Bool.eq_false_iff.mpr c6;subst c6;rw [if_neg (show ¬ (false=true) by decide)] at H
   (try dsimp only at H)
   obtain rfl:=Option.some.inj H;go_enter Tryd.func13,Tryd.ntmps13
   go_wp2_with (first | ((with_reducible refine gate_dst (N:=2) rfl ?_);refine bx_ (N:=2) (cs:=#[.slice A0_0 l0_0.length c0_0,.slice A0_1 l0_1.length c0_1]) (t:=26) (h:=?_);intro gb534 hg w16 hbox hb;have BK534:=a0_ (hbox);have GW534:=gh_ HB hg;have GE534:=gh_ HB hg;replace HB:=sb_ HB hb;clear hb hbox hg) | ((with_reducible refine gate_dst (N:=3) rfl ?_);refine bx_ (N:=3) (cs:=#[.slice A1_0 l1_0.length c1_0,.slice A1_1 l1_1.length c1_1]) (t:=26) (h:=?_);intro gb535 hg w17 hbox hb;have BK535:=a0_ (hbox);have GW535:=gh_ HB hg;have GE535:=gh_ HB hg;have NB534_535:=nl_ BK534 hg;have NB535_534:=nr_ BK534 hg;replace BK534:=vb_ BK534 hb;replace HB:=sb_ HB hb;clear hb hbox hg;have hnb18:=NB534_535.out;have hnc18:=NB535_534.out;have hcz19_0:=c20_ BK534;have hcz19_1:=c21_ BK534;have hfz19_0:=fz_ BK534 0;have hfz19_1:=fz_ BK534 1;have hcz20_0:=c20_ BK535;have hcz20_1:=c21_ BK535;have hfz20_0:=fz_ BK535 0;have hfz20_1:=fz_ BK535 1) | ((with_reducible refine gate_callee (f:=39) rfl ?_);refine gL_ (some 9) Tryd.func39 #[.slice A0_0 l0_0.length c0_0,.slice A1_0 l1_0.length c1_0] (h:=?_);(with_reducible refine (laws_eqPtS.calls k _ _ l0_0 _ _ l1_0 true _ ?side1 ?side2 ?side3 ?side4 A3.out).mono ?_);(case side1=>repeat (first | exact (Kd.C_below HR0_0.out HB.out) | (with_reducible refine Kd.C_alloc ?_ _) | (with_reducible refine Kd.C_drewN ?_ _) | (with_reducible refine Kd.C_drew ?_)));(case side2=>exact HC0_0.out);(case side3=>repeat (first | exact (Kd.C_below HR1_0.out HB.out) | (with_reducible refine Kd.C_alloc ?_ _) | (with_reducible refine Kd.C_drewN ?_ _) | (with_reducible refine Kd.C_drew ?_)));(case side4=>exact HC1_0.out);rintro e w21 ⟨rfl,hb⟩;refine⟨_,rfl,?_⟩;replace BK534:=vb_ BK534 hb;replace BK535:=vb_ BK535 hb;replace HB:=sb_ HB hb;(try clear hb);have hcz22_0:=c20_ BK534;have hcz22_1:=c21_ BK534;have hfz22_0:=fz_ BK534 0;have hfz22_1:=fz_ BK534 1;have hcz23_0:=c20_ BK535;have hcz23_1:=c21_ BK535;have hfz23_0:=fz_ BK535 0;have hfz23_1:=fz_ BK535 1) | ((with_reducible refine gate_callee (f:=40) rfl ?_);refine gL_ (some 15) Tryd.func40 #[.slice A0_1 l0_1.length c0_1,.slice A1_1 l1_1.length c1_1] (h:=?_);(with_reducible refine (laws_eqPtSS.calls k _ _ l0_1 _ _ l1_1 false _ ?side1 ?side2 ?side3 ?side4 A5.out).mono ?_);(case side1=>repeat (first | exact (Kd.C_below HR0_1.out HB.out) | (with_reducible refine Kd.C_alloc ?_ _) | (with_reducible refine Kd.C_drewN ?_ _) | (with_reducible refine Kd.C_drew ?_)));(case side2=>exact HC0_1.out);(case side3=>repeat (first | exact (Kd.C_below HR1_1.out HB.out) | (with_reducible refine Kd.C_alloc ?_ _) | (with_reducible refine Kd.C_drewN ?_ _) | (with_reducible refine Kd.C_drew ?_)));(case side4=>exact HC1_1.out);rintro e w24 ⟨rfl,hb⟩;refine⟨_,rfl,?_⟩;replace BK534:=vb_ BK534 hb;replace BK535:=vb_ BK535 hb;replace HB:=sb_ HB hb;(try clear hb)))
   go_ret;exact⟨rr_,hB_⟩
 ·
  replace c4:=Bool.eq_false_iff.mpr c4;subst c4;rw [if_neg (show ¬ (false=true) by decide)] at H
  (try dsimp only at H)
  obtain rfl:=Option.some.inj H;go_enter Tryd.func13,Tryd.ntmps13;go_wp2_with (first | ((with_reducible refine gate_dst (N:=2) rfl ?_);refine bx_ (N:=2) (cs:=#[.slice A0_0 l0_0.length c0_0,.slice A0_1 l0_1.length c0_1]) (t:=26) (h:=?_);intro gb534 hg w25 hbox hb;have BK534:=a0_ (hbox);have GW534:=gh_ HB hg;have GE534:=gh_ HB hg;replace HB:=sb_ HB hb;clear hb hbox hg) | ((with_reducible refine gate_dst (N:=3) rfl ?_);refine bx_ (N:=3) (cs:=#[.slice A1_0 l1_0.length c1_0,.slice A1_1 l1_1.length c1_1]) (t:=26) (h:=?_);intro gb535 hg w26 hbox hb;have BK535:=a0_ (hbox);have GW535:=gh_ HB hg;have GE535:=gh_ HB hg;have NB534_535:=nl_ BK534 hg;have NB535_534:=nr_ BK534 hg;replace BK534:=vb_ BK534 hb;replace HB:=sb_ HB hb;clear hb hbox hg;have hnb27:=NB534_535.out;have hnc27:=NB535_534.out;have hcz28_0:=c20_ BK534;have hcz28_1:=c21_ BK534;have hfz28_0:=fz_ BK534 0;have hfz28_1:=fz_ BK534 1;have hcz29_0:=c20_ BK535;have hcz29_1:=c21_ BK535;have hfz29_0:=fz_ BK535 0;have hfz29_1:=fz_ BK535 1) | ((with_reducible refine gate_callee (f:=39) rfl ?_);refine gL_ (some 9) Tryd.func39 #[.slice A0_0 l0_0.length c0_0,.slice A1_0 l1_0.length c1_0] (h:=?_);(with_reducible refine (laws_eqPtS.calls k _ _ l0_0 _ _ l1_0 false _ ?side1 ?side2 ?side3 ?side4 A3.out).mono ?_);(case side1=>repeat (first | exact (Kd.C_below HR0_0.out HB.out) | (with_reducible refine Kd.C_alloc ?_ _) | (with_reducible refine Kd.C_drewN ?_ _) | (with_reducible refine Kd.C_drew ?_)));(case side2=>exact HC0_0.out);(case side3=>repeat (first | exact (Kd.C_below HR1_0.out HB.out) | (with_reducible refine Kd.C_alloc ?_ _) | (with_reducible refine Kd.C_drewN ?_ _) | (with_reducible refine Kd.C_drew ?_)));(case side4=>exact HC1_0.out);rintro e w30 ⟨rfl,hb⟩;refine⟨_,rfl,?_⟩;replace BK534:=vb_ BK534 hb;replace BK535:=vb_ BK535 hb;replace HB:=sb_ HB hb;(try clear hb)));go_ret;exact⟨rr_,hB_⟩
def stringslite_HasSuffix.f (a0:ByteArray)(a1:ByteArray):Option (Bool):=if (a0.size:Int)≥(a1.size:Int) then (if 0≤(wrap64 ((a0.size:Int)-(a1.size:Int))) then (if (wrap64 ((a0.size:Int)-(a1.size:Int)))≤(a0.size:Int) then (some ((a0.extract ((wrap64 ((a0.size:Int)-(a1.size:Int))):Int).toNat a0.size).toList==a1.toList)) else (none)) else (none)) else (some false)
set_option maxHeartbeats 8000000 in
set_option maxRecDepth 100000 in
theorem stringslite_HasSuffix.calls (a0:ByteArray)(a1:ByteArray)(r:Bool)(w:World)(h:stringslite_HasSuffix.f a0 a1=some r):
  Calls Tryd.prog 64 #[.string a0,.string a1] w fun e w'=>e=.returned (.bool r)∧Drawn0 w w':=by
 have H:(if (a0.size:Int)≥(a1.size:Int) then (if 0≤(wrap64 ((a0.size:Int)-(a1.size:Int))) then (if (wrap64 ((a0.size:Int)-(a1.size:Int)))≤(a0.size:Int) then (some ((a0.extract ((wrap64 ((a0.size:Int)-(a1.size:Int))):Int).toNat a0.size).toList==a1.toList)) else (none)) else (none)) else (some false))=some r:=h;clear h;by_cases c3:(a0.size:Int)≥(a1.size:Int)
 ·
  rw [if_pos c3] at H;have c3b0:decide ((a1.size:Int)≤(a0.size:Int))=true:=decide_eq_true c3;have c3b1:decide (a1.size≤a0.size)=true:=decide_eq_true (Int.ofNat_le.mp c3);clear c3;obtain⟨ji4,hji4⟩:∃ j_:Int,(wrap64 ((a0.size:Int)-(a1.size:Int)))=j_:=⟨_,rfl⟩;replace H:(if 0≤(ji4) then (if (ji4)≤(a0.size:Int) then (some ((a0.extract ((ji4):Int).toNat a0.size).toList==a1.toList)) else (none)) else (none))=some r:=by first | (rw [hji4] at H;exact H) | (simp only [hji4] at H ⊢;exact H)
  have hji4w:(IntKind.i64.wrap ((a0.size:Int)-(a1.size:Int)))=ji4:=(i64_w _).trans hji4;by_cases c5:0≤(ji4)
  ·
   rw [if_pos c5] at H;have c5b0:=eq_true c5;have c5b1:decide (0≤(ji4))=true:=decide_eq_true c5;clear c5;by_cases c6:(ji4)≤(a0.size:Int)
   ·
    rw [if_pos c6] at H;have c6b0:=eq_true c6;have c6b1:decide ((ji4)≤(a0.size:Int))=true:=decide_eq_true c6;clear c6;obtain rfl:=Option.some.inj H;go_enter Tryd.func64,Tryd.ntmps64;go_wp2;go_ret;exact⟨by first | rfl | (simp;done) | (simp only [← hji4] <;> (first | rfl | simp)) | (simp [*];done),by repeat (first | exact Drawn0.refl _ | apply Drawn0.step)⟩
   ·
    rw [if_neg c6] at H;exact absurd H (by simp)
  ·
   rw [if_neg c5] at H;exact absurd H (by simp)
 ·
  rw [if_neg c3] at H;have c3b0:decide ((a1.size:Int)≤(a0.size:Int))=false:=decide_eq_false c3;have c3b1:decide (a1.size≤a0.size)=false:=decide_eq_false (fun h=>c3 (Int.ofNat_le.mpr h));clear c3;obtain rfl:=Option.some.inj H;go_enter Tryd.func64,Tryd.ntmps64;go_wp2;go_ret;exact⟨by first | rfl | (simp;done) | (simp [*];done),by repeat (first | exact Drawn0.refl _ | apply Drawn0.step)⟩
def strings_HasSuffix.f (a0:ByteArray)(a1:ByteArray):Option (Bool):=(stringslite_HasSuffix.f a0 a1).bind fun t428=>(some t428)
set_option maxHeartbeats 8000000 in
set_option maxRecDepth 100000 in
theorem strings_HasSuffix.calls (a0:ByteArray)(a1:ByteArray)(r:Bool)(w:World)(h:strings_HasSuffix.f a0 a1=some r):
  Calls Tryd.prog 30 #[.string a0,.string a1] w fun e w'=>e=.returned (.bool r)∧Drawn0 w w':=by
 have H:((stringslite_HasSuffix.f a0 a1).bind fun t428=>(some t428))=some r:=h;clear h;replace H:=Option.bind_eq_some_iff.mp H;obtain⟨t428,A30,H⟩:=H
 (try dsimp only at H)
 have A3:=Aside0.mk A30;clear A30;obtain rfl:=Option.some.inj H;go_enter Tryd.func30,Tryd.ntmps30;go_wp2_with (first | ((with_reducible refine gate_callee (f:=64) rfl ?_);refine gL_ (some 7) Tryd.func64 #[.string a0,.string a1] (h:=?_);(with_reducible refine (stringslite_HasSuffix.calls a0 a1 t428 _ A3.out).mono ?_);rintro e w' ⟨rfl,⟨nd,rfl⟩⟩;refine⟨_,rfl,?_⟩));go_ret;exact⟨by first | rfl | (simp;done) | (simp [*];done),by repeat (first | exact Drawn0.refl _ | apply Drawn0.step)⟩
def stringslite_TrimSuffix.f (a0:ByteArray)(a1:ByteArray):Option (ByteArray):=(stringslite_HasSuffix.f a0 a1).bind fun t431=>(if t431=true then (if 0≤(wrap64 ((a0.size:Int)-(a1.size:Int))) then (if (wrap64 ((a0.size:Int)-(a1.size:Int)))≤(a0.size:Int) then (some (a0.extract 0 ((wrap64 ((a0.size:Int)-(a1.size:Int))):Int).toNat)) else (none)) else (none)) else (some a0))
set_option maxHeartbeats 8000000 in
set_option maxRecDepth 100000 in
theorem stringslite_TrimSuffix.calls (a0:ByteArray)(a1:ByteArray)(r:ByteArray)(w:World)(h:stringslite_TrimSuffix.f a0 a1=some r):
  Calls Tryd.prog 66 #[.string a0,.string a1] w fun e w'=>e=.returned (.string r)∧Drawn0 w w':=by
 have H:((stringslite_HasSuffix.f a0 a1).bind fun t431=>(if t431=true then (if 0≤(wrap64 ((a0.size:Int)-(a1.size:Int))) then (if (wrap64 ((a0.size:Int)-(a1.size:Int)))≤(a0.size:Int) then (some (a0.extract 0 ((wrap64 ((a0.size:Int)-(a1.size:Int))):Int).toNat)) else (none)) else (none)) else (some a0)))=some r:=h;clear h;replace H:=Option.bind_eq_some_iff.mp H;obtain⟨t431,A30,H⟩:=H
 (try dsimp only at H)
 have A3:=Aside0.mk A30;clear A30;by_cases c4:t431=true
 ·
  subst c4;rw [if_pos rfl] at H
  (try dsimp only at H)
  obtain⟨ji5,hji5⟩:∃ j_:Int,(wrap64 ((a0.size:Int)-(a1.size:Int)))=j_:=⟨_,rfl⟩;replace H:(if 0≤(ji5) then (if (ji5)≤(a0.size:Int) then (some (a0.extract 0 ((ji5):Int).toNat)) else (none)) else (none))=some r:=by first | (rw [hji5] at H;exact H) | (simp only [hji5] at H ⊢;exact H)
  (try rw [hji5] at A3)
  have hji5w:(IntKind.i64.wrap ((a0.size:Int)-(a1.size:Int)))=ji5:=(i64_w _).trans hji5;by_cases c6:0≤(ji5)
  ·
   rw [if_pos c6] at H;have c6b0:=eq_true c6;have c6b1:decide (0≤(ji5))=true:=decide_eq_true c6;clear c6;by_cases c7:(ji5)≤(a0.size:Int)
   ·
    rw [if_pos c7] at H;have c7b0:=eq_true c7;have c7b1:decide ((ji5)≤(a0.size:Int))=true:=decide_eq_true c7;clear c7;obtain rfl:=Option.some.inj H;go_enter Tryd.func66,Tryd.ntmps66;go_wp2_with (first | ((with_reducible refine gate_callee (f:=64) rfl ?_);refine gL_ (some 7) Tryd.func64 #[.string a0,.string a1] (h:=?_);(with_reducible refine (stringslite_HasSuffix.calls a0 a1 true _ A3.out).mono ?_);rintro e w' ⟨rfl,⟨nd,rfl⟩⟩;refine⟨_,rfl,?_⟩));go_ret;exact⟨by first | rfl | (simp;done) | (simp only [← hji5] <;> (first | rfl | simp)) | (simp [*];done),by repeat (first | exact Drawn0.refl _ | apply Drawn0.step)⟩
   ·
    rw [if_neg c7] at H;exact absurd H (by simp)
  ·
   rw [if_neg c6] at H;exact absurd H (by simp)
 ·
  replace c4:=Bool.eq_false_iff.mpr c4;subst c4;rw [if_neg (show ¬ (false=true) by decide)] at H
  (try dsimp only at H)
  obtain rfl:=Option.some.inj H;go_enter Tryd.func66,Tryd.ntmps66;go_wp2_with (first | ((with_reducible refine gate_callee (f:=64) rfl ?_);refine gL_ (some 7) Tryd.func64 #[.string a0,.string a1] (h:=?_);(with_reducible refine (stringslite_HasSuffix.calls a0 a1 false _ A3.out).mono ?_);rintro e w' ⟨rfl,⟨nd,rfl⟩⟩;refine⟨_,rfl,?_⟩));go_ret;exact⟨by first | rfl | (simp;done) | (simp [*];done),by repeat (first | exact Drawn0.refl _ | apply Drawn0.step)⟩
def strings_TrimSuffix.f (a0:ByteArray)(a1:ByteArray):Option (ByteArray):=(stringslite_TrimSuffix.f a0 a1).bind fun t432=>(some t432)
set_option maxHeartbeats 8000000 in
set_option maxRecDepth 100000 in
theorem strings_TrimSuffix.calls (a0:ByteArray)(a1:ByteArray)(r:ByteArray)(w:World)(h:strings_TrimSuffix.f a0 a1=some r):
  Calls Tryd.prog 32 #[.string a0,.string a1] w fun e w'=>e=.returned (.string r)∧Drawn0 w w':=by
 have H:((stringslite_TrimSuffix.f a0 a1).bind fun t432=>(some t432))=some r:=h;clear h;replace H:=Option.bind_eq_some_iff.mp H;obtain⟨t432,A30,H⟩:=H
 (try dsimp only at H)
 have A3:=Aside0.mk A30;clear A30;obtain rfl:=Option.some.inj H;go_enter Tryd.func32,Tryd.ntmps32;go_wp2_with (first | ((with_reducible refine gate_callee (f:=66) rfl ?_);refine gL_ (some 7) Tryd.func66 #[.string a0,.string a1] (h:=?_);(with_reducible refine (stringslite_TrimSuffix.calls a0 a1 t432 _ A3.out).mono ?_);rintro e w' ⟨rfl,⟨nd,rfl⟩⟩;refine⟨_,rfl,?_⟩));go_ret;exact⟨by first | rfl | (simp;done) | (simp [*];done),by repeat (first | exact Drawn0.refl _ | apply Drawn0.step)⟩
end Go.Proofs.YtailkppkjhkjpaaDoor.X
end
section
set_option linter.unusedVariables false
set_option linter.unusedSimpArgs false
namespace Go.Proofs.YtailkppkjhkjpaaDoor.X
open Go.RowKit Go.Shelf Go.Proofs.YtailkppkjhkjpaaDoorW.PrintWords Go.Proofs.YtailkppkjhkjpaaDoorW.PrintLast Go.Proofs.YtailkppkjhkjpaaDoorW.PrintMore
attribute [local go_sem] Oper.semAt_some
def KpE (n₀ Bs:Nat)(A B:World):Prop:=A.heap.size≤B.heap.size∧∀ k,(k<n₀∨k=Bs)→k<A.heap.size→B.heap[k]?=A.heap[k]?
theorem KpE.refl (n₀ Bs:Nat)(A:World):KpE n₀ Bs A A:=⟨Nat.le_refl _,fun _ _ _=>rfl⟩
theorem KpE.trans {n₀ Bs:Nat}{A B C:World}(h:KpE n₀ Bs A B)(k:KpE n₀ Bs B C):KpE n₀ Bs A C:=
 ⟨Nat.le_trans h.1 k.1,fun i hi hl=>(k.2 i hi (Nat.lt_of_lt_of_le hl h.1)).trans (h.2 i hi hl)⟩
theorem KpE.below {n₀ Bs:Nat}{A B:World}(h:Below A.heap.size A B):KpE n₀ Bs A B:=⟨h.size,fun k _ hl=>h.block k hl⟩
theorem KpE.alloc (n₀ Bs:Nat)(A:World)(o:Obj):KpE n₀ Bs A (A.alloc o):=KpE.below (below_alloc (Below.refl _ _) o)
theorem KpE.set {n₀ Bs:Nat}(A:World){p:Addr}(h1:n₀≤p.block)(h2:p.block≠Bs)(u:Value):KpE n₀ Bs A (A.setCell p u):=
 ⟨by simp [World.setCell],fun k hk _=>Below.heap_setCell A p u k (by omega)⟩
theorem KpE.cell {n₀ Bs:Nat}{A B:World}(h:KpE n₀ Bs A B){p:Addr}(hp:p.block<n₀∨p.block=Bs)(hl:p.block<A.heap.size):B.cell? p=A.cell? p:=World.cell?_of_block (w:=A) (h.2 p.block hp hl)
theorem KpE.putObj {n₀ Bs:Nat}(W:World)(l:Nat)(o':Obj)(h1:n₀≤l)(h2:l≠Bs):KpE n₀ Bs W (W.putObj l o'):=
 ⟨by simp [World.putObj],fun k hk _=>World.putObj_heap_other (by omega)⟩
def edS (zs:List S37)(j:Nat):S89:=⟨zs.getD j z37,zs.getD ((j+1) % zs.length) z37⟩
def edV (x:S89):Value:=.agg #[.int .i64 x.f0.f0,.int .i64 x.f0.f1,.int .i64 x.f1.f0,.int .i64 x.f1.f1]
theorem blk_add (ad:Addr)(n:Nat):(ad.add n).block=ad.block:=by unfold Addr.add;split <;> rfl
theorem at_pt {W:World}{A:Option Addr}{zs:List S37}(hC:Kd.C k37 W A zs.length zs)(k:Nat)(h:k<zs.length):
  ∃ ad,A=some ad∧W.cell? (ad.add (k*2))=some (.int .i64 (zs.getD k z37).f0)∧W.cell? ⟨(ad.add (k*2)).block,(ad.add (k*2)).off+1,none⟩=some (.int .i64 (zs.getD k z37).f1):=
 at_T37 hC (k:Int) (by omega) (by omega)
set_option maxRecDepth 100000 in
set_option maxHeartbeats 2000000 in
theorem edges1_in (n:Nat)(hn:1≤n)(l Bs n₀:Nat)(A:Option Addr)(c:Nat)(zs:List S37)(hreach:zs.length≤1000000)
  (hAb:∀ ad,A=some ad→ad.block<n₀) (J Jx:Nat→World→Prop)
  (hJ:∀ k A B,J k A→Below A.heap.size A B→J k B)
  (hY:∀ k W,k<zs.length→J k W→YieldAt Fence.wide (n-1) Tryd.prog l #[.int .i64 (k:Int),edV (edS zs k)] W fun e W' =>
   (e=.returned (.bool true)∧J (k+1) W'∧KpE n₀ Bs W W')∨(e=.returned (.bool false)∧Jx (k+1) W'))
  (W:World) (hBl:Bs<W.heap.size) (hn₀:n₀≤W.heap.size) (hBs:W.cell? ⟨Bs,0,none⟩=some (.slice A zs.length c)) (hC0:Kd.C k37 W A zs.length zs) (h0:J 0 W) :
  CallsIn Fence.wide n Tryd.prog 81 #[.func (.yield l) #[] #[],.pointer (some ⟨Bs,0,none⟩)] W fun e W'=>(∃ v,e=.returned v) ∧
   (J zs.length W'∨∃ k,k≤zs.length∧Jx k W'):=by
 refine callsIn_of_wp Tryd.func81 rfl trivial ?_ rfl;simp only [Tryd.ntmps81,List.size_toArray,List.length_cons,List.length_nil,Nat.reduceAdd,Nat.reduceSub,Array.replicate_succ,Array.replicate_zero,List.push_toArray,List.append_toArray,List.nil_append,List.cons_append];gi_wp2;gi_loopw [7] (fun i wr=>∃ k:Nat,k≤zs.length∧i=.int .i64 k∧J k wr∧KpE n₀ Bs W wr)
  (fun i _=>zs.length-(intOf i).toNat)
 case atStart=>exact⟨0,Nat.zero_le _,rfl,h0,KpE.refl _ _ _⟩
 case round =>
  obtain⟨k,hk,rfl,hJ0,hnx⟩:=hrel;by_cases hlt:k<zs.length
  ·
   have hm:(k+1) % zs.length<zs.length:=Nat.mod_lt _ (by omega);obtain⟨ad,hA,hx0,hx1⟩:=at_pt hC0 k hlt;obtain⟨ad',hA',hy0,hy1⟩:=at_pt hC0 ((k+1) % zs.length) hm;obtain rfl:ad=ad':=by rw [hA] at hA';exact Option.some.inj hA'
   clear hA';have hE0:edV (edS zs k)=.agg #[.int .i64 (zs.getD k z37).f0,.int .i64 (zs.getD k z37).f1,.int .i64 (zs.getD ((k+1) % zs.length) z37).f0,.int .i64 (zs.getD ((k+1) % zs.length) z37).f1]:=rfl;have hE:=Aside0.mk hE0;clear hE0;have hT:Int.tmod ((k:Int)+1) (zs.length:Int)=(((k+1) % zs.length:Nat):Int):=rfl;have hT':=Aside0.mk hT;clear hT;generalize (k+1) % zs.length=m at *;have cBs:wr.cell? ⟨Bs,0,none⟩=some (.slice A zs.length c):=(hnx.cell (.inr rfl) hBl).trans hBs;subst hA;have hadb:ad.block<n₀:=hAb ad rfl;have old:∀ (o:Nat),wr.cell? ⟨ad.block,o,none⟩=W.cell? ⟨ad.block,o,none⟩:=fun o=>hnx.cell (p:=⟨ad.block,o,none⟩) (.inl hadb) (Nat.lt_of_lt_of_le hadb hn₀)
   have old':∀ (o:Nat),wr.cell? (ad.add o)=W.cell? (ad.add o):=fun o=>hnx.cell (p:=ad.add o) (.inl (by rw [blk_add];exact hadb)) (by rw [blk_add];exact Nat.lt_of_lt_of_le hadb hn₀)
   rw [← old'] at hx0 hy0;rw [blk_add,← old] at hx1 hy1;rw [← blk_add ad (k*2)] at hx1;rw [← blk_add ad (m*2)] at hy1;clear old old';generalize (zs.getD k z37).f0=px at *;generalize (zs.getD k z37).f1=py at *;generalize (zs.getD m z37).f0=qx at *;generalize (zs.getD m z37).f1=qy at *;have hu28:=Tryd.underlying37;gi_wp2;have hJ2:=hJ _ _ _ hJ0 (below_drew1 (below_alloc (Below.refl _ wr) (.cells #[.int .i64 px,.int .i64 py] 37)));obtain⟨fn,tmps,assign,body,hy,hR⟩:=YieldAt.mono (R':=fun e W'=>∃ b,e=.returned (.bool b)∧Aside0 ((b=true∧J (k+1) W'∧KpE n₀ Bs ((wr.alloc (.cells #[.int .i64 px,.int .i64 py] 37)).drew) W')∨(b=false∧Jx (k+1) W')))
    (hY k _ hlt hJ2) (fun e W' h=>by
    rcases h with ⟨rfl,h1,h2⟩ | ⟨rfl,h1⟩
    ·
     exact⟨true,rfl,⟨.inl ⟨rfl,h1,h2⟩⟩⟩
    ·
     exact⟨false,rfl,⟨.inr ⟨rfl,h1⟩⟩⟩)
   rw [hE.out] at hy;have later:∀ a v,wr.cell? a=some v→((wr.alloc (.cells #[.int .i64 px,.int .i64 py] 37)).drew).cell? a=some v:=fun a v h=>pw_cell_below (below_drew1 (below_alloc (Below.refl _ wr) _)) h
   have cBs2:=later _ _ cBs;have hy0':=later _ _ hy0;have hy1':=later _ _ hy1;clear later;have hT:=hT'.out;have hw:IntKind.i64.wrap ((k:Int)+1)=(k:Int)+1:=IntWalk.i64_in _ (by omega);have hz:¬ zs.length=0:=by omega
   have hz2:¬ ((zs.length:Int)=0):=by omega
   have hz3:((zs.length:Int)==0)=false:=by simpa using hz2
   gi_region_with (refine hR.mono ?_;rintro e W3 ⟨b,rfl,hb⟩)
   all_goals
    have hb':=hb.out;clear hb;have hn1:KpE n₀ Bs W (wr.alloc (.cells #[.int .i64 px,.int .i64 py] 37)).drew:=hnx.trans (KpE.below (below_drew1 (below_alloc (Below.refl _ wr) _)))
    rcases hb' with ⟨rfl,hj3,hk3⟩ | ⟨rfl,hjx⟩
    ·
     gi_wp2;go_roundw
     case rel=>exact⟨k+1,by omega,by simp,hj3,hn1.trans hk3⟩
     case measure=>simp [intOf];omega
    ·
     gi_wp2;refine bodyPost_ret (results_none rfl _ _ _) rfl ?_;exact⟨⟨_,rfl⟩,.inr ⟨k+1,by omega,hjx⟩⟩
  ·
   obtain rfl:k=zs.length:=by omega
   gi_wp2;go_end0;exact⟨⟨_,rfl⟩,.inl hJ0⟩
end Go.Proofs.YtailkppkjhkjpaaDoor.X
end
section
set_option linter.unusedVariables false
set_option linter.unusedSimpArgs false
namespace Mort
abbrev Pt:=Int × Int
abbrev Seg:=Pt × Pt
def ptOk (p:Pt):Bool:=decide (0≤p.1∧p.1≤9∧0≤p.2∧p.2≤9)
def segOk (s:Seg):Bool:=ptOk s.1 && (ptOk s.2 && !(s.1.1==s.2.1 && s.1.2==s.2.2))
def cross (a b c:Pt):Int:=(b.1-a.1)*(c.2-a.2)-(b.2-a.2)*(c.1-a.1)
def dot (a b c:Pt):Int:=(b.1-a.1)*(c.1-a.1)+(b.2-a.2)*(c.2-a.2)
def sgn (n:Int):Int:=if n<0 then -1 else if n>0 then 1 else 0
def has (s:Seg)(p:Pt):Bool:=cross s.1 s.2 p==0 && (decide (0≤dot s.1 s.2 p) && decide (dot s.1 s.2 p≤dot s.1 s.2 s.2))
def meet (s t:Seg):Bool:=
 (decide (sgn (cross s.1 s.2 t.1)*sgn (cross s.1 s.2 t.2)<0) && decide (sgn (cross t.1 t.2 s.1)*sgn (cross t.1 t.2 s.2)<0)) ||
 (has s t.1 || (has s t.2 || (has t s.1 || has t s.2)))
def segTurn (a b c:Pt):Int:=if ptOk a && (ptOk b && ptOk c) then sgn (cross a b c) else 0
def segHas (s:Seg)(p:Pt):Bool:=segOk s && (ptOk p && has s p)
def segMeet (s t:Seg):Bool:=segOk s && (segOk t && meet s t)
def far (s:Seg)(p:Pt):Int × Int:=
 if dot s.1 s.2 p≤0 then (dot s.1 p p,1) else if dot s.1 s.2 s.2≤dot s.1 s.2 p then (dot s.2 p p,1)
 else (cross s.1 s.2 p*cross s.1 s.2 p,dot s.1 s.2 s.2)
def val (f:Int × Int):Rat:=(f.1:Rat) / (f.2:Rat)
theorem cast_cross (a b c:Pt):((cross a b c:Int):Rat)=((b.1:Rat)-a.1)*(c.2-a.2)-(b.2-a.2)*(c.1-a.1):=by
 unfold cross;push_cast;rfl
theorem cast_le {a b:Int}:(a:Rat)≤(b:Rat) ↔ a≤b:=Rat.intCast_le_intCast
theorem cast_lt {a b:Int}:(a:Rat)<(b:Rat) ↔ a<b:=Rat.intCast_lt_intCast
def px (a b:Pt)(t:Rat):Rat:=a.1+t*(b.1-a.1)
def py (a b:Pt)(t:Rat):Rat:=a.2+t*(b.2-a.2)
theorem meet_iff (s t:Seg):meet s t=true ↔ (sgn (cross s.1 s.2 t.1)*sgn (cross s.1 s.2 t.2)<0∧sgn (cross t.1 t.2 s.1)*sgn (cross t.1 t.2 s.2)<0) ∨
  has s t.1=true∨has s t.2=true∨has t s.1=true∨has t s.2=true:=by
 unfold meet;simp
def nearEnds (s t:Seg)(x:Rat):Prop:=val (far s t.1)≤x∨val (far s t.2)≤x∨val (far t s.1)≤x∨val (far t s.2)≤x
theorem nearEnds.mono {s t:Seg}{x y:Rat}(h:nearEnds s t x)(k:x≤y):nearEnds s t y:=by
 rcases h with h | h | h | h
 ·
  exact .inl (Rat.le_trans h k)
 ·
  exact .inr (.inl (Rat.le_trans h k))
 ·
  exact .inr (.inr (.inl (Rat.le_trans h k)))
 ·
  exact .inr (.inr (.inr (Rat.le_trans h k)))
def rc (ax ay bx cy x y:Rat):Rat:=(bx-ax)*(y-ay)-(cy-ay)*(x-ax)
def crsQ (ax ay bx cy x y:Rat):Bool:=
 (decide (ay≤y) && (decide (y<cy) && decide (0<rc ax ay bx cy x y))) || (decide (cy≤y) && (decide (y<ay) && decide (rc ax ay bx cy x y<0)))
def xorAll:List Bool→Bool
 | []=>false
 | b::l=>b ^^ xorAll l
theorem xorAll_append (l m:List Bool):xorAll (l++m)=(xorAll l ^^ xorAll m):=by
 induction l with
 | nil=>simp [xorAll]
 | cons b l ih=>simp [xorAll,ih]
theorem xorAll_map {α:Type}(l:List α)(f g:α→Bool):xorAll (l.map fun x=>f x ^^ g x)=(xorAll (l.map f) ^^ xorAll (l.map g)):=by
 induction l with
 | nil=>rfl
 | cons x l ih =>
  simp only [List.map_cons,xorAll,ih];cases f x <;> cases g x <;> cases xorAll (l.map f) <;> cases xorAll (l.map g) <;> rfl
def turned (l:List Pt):List Pt:=l.drop 1++l.take 1
def edges (l:List Pt):List Seg:=l.zip (turned l)
theorem turned_length (l:List Pt):(turned l).length=l.length:=by
 unfold turned;simp;omega
theorem edges_length (l:List Pt):(edges l).length=l.length:=by
 unfold edges;simp [turned_length]
theorem edges_fst (l:List Pt):(edges l).map Prod.fst=l:=by
 unfold edges;exact List.map_fst_zip (by rw [turned_length];exact Nat.le_refl _)
theorem edges_snd (l:List Pt):(edges l).map Prod.snd=turned l:=by
 unfold edges;exact List.map_snd_zip (by rw [turned_length];exact Nat.le_refl _)
theorem closed (l:List Pt)(g:Pt→Bool):xorAll ((edges l).map fun e=>g e.1 ^^ g e.2)=false:=by
 rw [xorAll_map (edges l) (fun e=>g e.1) (fun e=>g e.2)];have h1:(edges l).map (fun e=>g e.1)=l.map g:=by
  rw [show (fun e:Seg=>g e.1)=g ∘ Prod.fst from rfl,← List.map_map,edges_fst]
 have h2:(edges l).map (fun e=>g e.2)=(turned l).map g:=by
  rw [show (fun e:Seg=>g e.2)=g ∘ Prod.snd from rfl,← List.map_map,edges_snd]
 rw [h1,h2];unfold turned;rw [List.map_append,xorAll_append,Bool.xor_comm (xorAll ((l.drop 1).map g)),← xorAll_append,← List.map_append,List.take_append_drop];cases xorAll (l.map g) <;> rfl
def par (l:List Pt)(x y:Rat):Bool:=xorAll ((edges l).map fun e=>crsQ e.1.1 e.1.2 e.2.1 e.2.2 x y)
theorem np {x y:Rat}(hx:x≤0)(hy:0≤y):x*y≤0:=by
 have:=Rat.mul_nonneg (by grind:0 ≤ -x) hy;grind
def nd (s:Seg):Prop:=0<dot s.1 s.2 s.2
theorem segOk_iff (s:Seg):segOk s=true ↔ ptOk s.1=true∧ptOk s.2=true∧¬ (s.1.1=s.2.1∧s.1.2=s.2.2):=by
 unfold segOk;by_cases a:s.1.1=s.2.1 <;> by_cases b:s.1.2=s.2.2 <;> simp [a,b]
theorem ptOk_iff (p:Pt):ptOk p=true ↔ 0≤p.1∧p.1≤9∧0≤p.2∧p.2≤9:=by unfold ptOk;simp
def joined (s t:Seg):Bool := !has s t.2 && !has t s.1
def ed (l:List Pt)(i:Nat):Seg:=(l.getD i (0,0),l.getD ((i+1) % l.length) (0,0))
theorem edges_getElem? (l:List Pt)(i:Nat)(h:i<l.length):(edges l)[i]?=some (ed l i):=by
 have h2:(turned l)[i]?=some (l.getD ((i+1) % l.length) (0,0)):=by
  unfold turned;by_cases k:i+1<l.length
  ·
   rw [Nat.mod_eq_of_lt k,List.getElem?_append_left (by simp;omega),List.getElem?_drop,Nat.add_comm 1 i];rw [List.getD_eq_getElem?_getD,List.getElem?_eq_getElem k];rfl
  ·
   have e:i+1=l.length:=by omega
   rw [e,Nat.mod_self,List.getElem?_append_right (by simp;omega)];have:i-(l.drop 1).length=0:=by simp;omega
   rw [this,List.getElem?_take_of_lt (by omega),List.getD_eq_getElem?_getD,List.getElem?_eq_getElem (by omega)];rfl
 unfold edges;rw [List.getElem?_zip_eq_some];refine⟨?_,h2⟩;unfold ed;simp only;rw [List.getD_eq_getElem?_getD,List.getElem?_eq_getElem h];rfl
theorem mem_edges {l:List Pt}{e:Seg}:e∈edges l ↔ ∃ i,i<l.length∧e=ed l i:=by
 rw [List.mem_iff_getElem?];constructor
 ·
  rintro⟨i,hi⟩;have hlt:=(List.getElem?_eq_some_iff.1 hi).1;rw [edges_length] at hlt;rw [edges_getElem? l i hlt] at hi;exact⟨i,hlt,by injection hi with hi;exact hi.symm⟩
 ·
  rintro⟨i,hi,rfl⟩;exact⟨i,edges_getElem? l i hi⟩
def pairOk (l:List Pt)(i j:Nat):Bool:=
 if j≤i then true else if j=i+1 then joined (ed l i) (ed l j) else if i=0∧j+1=l.length then joined (ed l j) (ed l i) else !meet (ed l i) (ed l j)
def loopOk (l:List Pt):Bool:=
 (decide (3≤l.length) && decide (l.length≤8)) && ((edges l).all segOk && (List.range l.length).all fun i=>(List.range l.length).all fun j=>pairOk l i j)
def onB (l:List Pt)(p:Pt):Bool:=(edges l).any fun e=>has e p
def inOf (l:List Pt)(p:Pt):Int:=if onB l p then 0 else if par l p.1 p.2 then 1 else -1
def apartB (a b:List Pt):Bool:=(edges a).all fun e=>(edges b).all fun f => !meet e f
theorem loopOk_iff (l:List Pt):loopOk l=true ↔ 3≤l.length∧l.length≤8∧(∀ e∈edges l,segOk e=true)∧∀ i j,i<l.length→j<l.length→pairOk l i j=true:=by
 unfold loopOk;simp only [Bool.and_eq_true,decide_eq_true_eq,List.all_eq_true,List.mem_range];constructor
 ·
  rintro⟨⟨h1,h2⟩,h3,h4⟩;exact⟨h1,h2,h3,fun i j hi hj=>h4 i hi j hj⟩
 ·
  rintro⟨h1,h2,h3,h4⟩;exact⟨⟨h1,h2⟩,h3,fun i hi j hj=>h4 i j hi hj⟩
theorem onB_iff (l:List Pt)(p:Pt):onB l p=true ↔ ∃ e∈edges l,has e p=true:=by unfold onB;simp
theorem onB_false (l:List Pt)(p:Pt):onB l p=false ↔ ∀ e∈edges l,has e p=false:=by unfold onB;simp
theorem apartB_iff (a b:List Pt):apartB a b=true ↔ ∀ e∈edges a,∀ f∈edges b,meet e f=false:=by unfold apartB;simp
structure Motion (f:Pt→Pt) (s:Int):Prop where
 sq:s*s=1
 dot:∀ a b c,dot (f a) (f b) (f c)=Mort.dot a b c
 cross:∀ a b c,cross (f a) (f b) (f c)=s*Mort.cross a b c
def segMap (f:Pt→Pt)(s:Seg):Seg:=(f s.1,f s.2)
theorem Motion.sign {f:Pt→Pt}{s:Int}(h:Motion f s):s=1∨s = -1:=by
 have:=h.sq;have:(s-1)*(s+1)=0:=by grind
 rcases Int.mul_eq_zero.1 this with k | k
 ·
  left;omega
 ·
  right;omega
theorem Motion.has {f:Pt→Pt}{s:Int}(h:Motion f s)(e:Seg)(p:Pt):has (segMap f e) (f p)=has e p:=by
 unfold Mort.has segMap;simp only [h.dot,h.cross]
 rcases h.sign with rfl | rfl
 ·
  simp
 ·
  have:(-1*Mort.cross e.1 e.2 p==0)=(Mort.cross e.1 e.2 p==0):=by
   rw [Bool.eq_iff_iff];simp
  rw [this]
theorem Motion.inj {f:Pt→Pt}{s:Int}(h:Motion f s){a b:Pt}(hf:nd (a,b)):¬ ((f a).1=(f b).1∧(f a).2=(f b).2):=by
 rintro⟨e1,e2⟩;have:=h.dot a b b;unfold nd at hf;simp only at hf;rw [← this] at hf;unfold Mort.dot at hf;rw [e1,e2] at hf;simp at hf
abbrev Plate:=List Pt × List (List Pt)
def nested (o:List Pt)(hs:List (List Pt)):Bool:=
 hs.all fun h=>inOf o (h.getD 0 (0,0))==1
def plateOk (P:Plate):Bool:=
 (decide (P.2.length≤2) && loopOk P.1) && (P.2.all loopOk && (P.2.all (apartB P.1) && (nested P.1 P.2 && match P.2 with
  | [a,b]=>apartB a b && (inOf b (a.getD 0 (0,0)) == -1 && inOf a (b.getD 0 (0,0)) == -1)
  | _=>true)))
theorem mul_bound {x y:Int}(hx : -9≤x)(hx':x≤9)(hy : -9≤y)(hy':y≤9): -81≤x*y∧x*y≤81:=by
 have h1:0≤(9-x)*(9+y):=Int.mul_nonneg (by omega) (by omega);have h2:0≤(9+x)*(9-y):=Int.mul_nonneg (by omega) (by omega);have h3:0≤(9-x)*(9-y):=Int.mul_nonneg (by omega) (by omega);have h4:0≤(9+x)*(9+y):=Int.mul_nonneg (by omega) (by omega);constructor <;> grind
theorem cross_rev (a b p:Pt):cross b a p = - cross a b p:=by unfold cross;grind
theorem meet_comm (s t:Seg):meet s t=meet t s:=by
 rw [Bool.eq_iff_iff,meet_iff,meet_iff];constructor
 ·
  rintro (⟨a,b⟩ | a | a | a | a)
  ·
   exact .inl ⟨b,a⟩
  ·
   exact .inr (.inr (.inr (.inl a)))
  ·
   exact .inr (.inr (.inr (.inr a)))
  ·
   exact .inr (.inl a)
  ·
   exact .inr (.inr (.inl a))
 ·
  rintro (⟨a,b⟩ | a | a | a | a)
  ·
   exact .inl ⟨b,a⟩
  ·
   exact .inr (.inr (.inr (.inl a)))
  ·
   exact .inr (.inr (.inr (.inr a)))
  ·
   exact .inr (.inl a)
  ·
   exact .inr (.inr (.inl a))
def ndl (l:List Pt):Prop:=∀ e∈edges l,nd e
section
variable {l h:List Pt} (hl:ndl l) (hh:ndl h) (ap:apartB l h=true)
include hl hh ap
end
theorem inOf_zero (l:List Pt)(p:Pt):inOf l p=0 ↔ onB l p=true:=by
 unfold inOf;split
 ·
  simp [*]
 ·
  split <;> simp [*]
theorem apartB_comm (a b:List Pt):apartB a b=apartB b a:=by
 rw [Bool.eq_iff_iff,apartB_iff,apartB_iff];constructor
 ·
  intro h e he f hf;rw [meet_comm];exact h f hf e he
 ·
  intro h e he f hf;rw [meet_comm];exact h f hf e he
theorem loop_pos {l:List Pt}(h:loopOk l=true):0<l.length:=by have:=((loopOk_iff l).1 h).1;omega
def back (s:Seg):Seg:=(s.2,s.1)
theorem segMeet_iff (s t:Seg):segMeet s t=true ↔ segOk s=true∧segOk t=true∧meet s t=true:=by unfold segMeet;simp
end Mort
end
section
namespace Go.Proofs.YtailkppkjhkjpaaDoor.X
open Go.RowKit Go.Proofs.YtailkppkjhkjpaaDoorW.PrintWords Go.Proofs.YtailkppkjhkjpaaDoorW.PrintLast Go.Proofs.YtailkppkjhkjpaaDoorW.PrintMore
attribute [local go_sem] max2_int min2_int max_two min_two max_three min_three max_four min_four
set_option linter.unusedVariables false
set_option linter.unusedSimpArgs false
def spec_l6In.f (a0:Int)(a1:Int)(a2:Int):Option (Bool):=if a0≥a1 then (some (decide (a0≤a2))) else (some false)
set_option maxHeartbeats 8000000 in
set_option maxRecDepth 100000 in
theorem spec_l6In.calls (a0:Int)(a1:Int)(a2:Int)(r:Bool)(w:World)(h:spec_l6In.f a0 a1 a2=some r):
  Calls Tryd.prog 52 #[.int .i64 a0,.int .i64 a1,.int .i64 a2] w fun e w'=>e=.returned (.bool r)∧Drawn0 w w':=by
 have H:(if a0≥a1 then (some (decide (a0≤a2))) else (some false))=some r:=h;clear h;by_cases c4:a0≥a1
 ·
  rw [if_pos c4] at H;have c4b0:decide (a1≤a0)=true:=decide_eq_true c4;clear c4;obtain rfl:=Option.some.inj H;go_enter Tryd.func52,Tryd.ntmps52;go_wp2;go_ret;exact⟨by first | rfl | (simp;done) | (simp [*];done),by repeat (first | exact Drawn0.refl _ | apply Drawn0.step)⟩
 ·
  rw [if_neg c4] at H;have c4b0:decide (a1≤a0)=false:=decide_eq_false c4;clear c4;obtain rfl:=Option.some.inj H;go_enter Tryd.func52,Tryd.ntmps52;go_wp2;go_ret;exact⟨by first | rfl | (simp;done) | (simp [*];done),by repeat (first | exact Drawn0.refl _ | apply Drawn0.step)⟩
def IsS83 (w0 W:World)(g:Nat)(f0:List Int)(f1:Int):Prop:=∃ A0 c0,W.heap[g]?=some (.cells #[.slice A0 f0.length c0,.int .i64 f1] 83 (0,0))∧w0.heap.size≤g∧Kd.C (Kd.int .u8) w0 A0 f0.length f0
theorem IsS83.grown {w0 W:World}{g:Nat}{f0:List Int}{f1:Int}{W1:World}{row:Option Nat}(h:IsS83 w0 W g f0 f1)(hw:W.grownBy W1 row)(hne:some g≠row):IsS83 w0 W1 g f0 f1:=by
 obtain⟨A0,c0,hb,hg,hr0⟩:=h;exact⟨A0,c0,blk_grown hb hw hne,hg,hr0⟩
theorem IsS83.kept {w0 W:World}{g:Nat}{f0:List Int}{f1:Int}{W1:World}{S:Nat→Prop}(h:IsS83 w0 W g f0 f1)(hk:Kept W W1 S)(hne:¬ S g):IsS83 w0 W1 g f0 f1:=by
 obtain⟨A0,c0,hb,hg,hr0⟩:=h;exact⟨A0,c0,blk_kept hb hk hne,hg,hr0⟩
theorem IsS83.below {w0 W:World}{g:Nat}{f0:List Int}{f1:Int}{W1:World}(h:IsS83 w0 W g f0 f1)(hw:Below W.heap.size W W1):IsS83 w0 W1 g f0 f1:=h.grown (grown_of_below hw none) (by simp)
theorem IsS83.alloc {w0 W:World}{g:Nat}{f0:List Int}{f1:Int}(h:IsS83 w0 W g f0 f1)(o:Obj):IsS83 w0 (W.alloc o) g f0 f1:=h.below (below_alloc (Below.refl _ _) o)
theorem IsS83.drewN {w0 W:World}{g:Nat}{f0:List Int}{f1:Int}(h:IsS83 w0 W g f0 f1)(m:Nat):IsS83 w0 (W.drewN m) g f0 f1:=h
theorem IsS83.drew {w0 W:World}{g:Nat}{f0:List Int}{f1:Int}(h:IsS83 w0 W g f0 f1):IsS83 w0 W.drew g f0 f1:=h
theorem IsS83.at_ {w0 W:World}{g:Nat}{f0:List Int}{f1:Int}{w':World}{m:Nat}(hq:W.drewN m=w')(h:IsS83 w0 W g f0 f1):IsS83 w0 w' g f0 f1:=by subst hq;exact IsS83.drewN h m
theorem IsS83.apart {w0 W:World}{g:Nat}{f0:List Int}{f1:Int}{α:Type}{d:Kd α}{e:Nat}{base:Nat}{ok:Nat→Prop}{v:Value}{xs:List α}(h:IsS83 w0 W g f0 f1)(ho:d.R e W base ok v xs)(ht:∀ q,q∈e::d.E→q≠83):d.R e W base (fun k=>ok k∧k≠g) v xs:=by
 obtain⟨A0,c0,hb,hg,hr0⟩:=h;exact Kd.R_types ho hb ht
theorem IsS83.lt {w0 W:World}{g:Nat}{f0:List Int}{f1:Int}(h:IsS83 w0 W g f0 f1):g<W.heap.size:=by
 obtain⟨A0,c0,hb,hg,hr0⟩:=h;exact blk_lt hb
theorem IsS83.new (w0 W:World)(A0:Option Addr)(c0:Nat)(f0:List Int)(f1:Int)(hB:Below w0.heap.size w0 W)(hr0:Kd.C (Kd.int .u8) w0 A0 f0.length f0):IsS83 w0 (W.alloc (.cells #[.slice A0 f0.length c0,.int .i64 f1] 83)) W.heap.size f0 f1:=⟨A0,c0,by simpa using heap_alloc_new W _,hB.size,hr0⟩
end Go.Proofs.YtailkppkjhkjpaaDoor.X
end
section
set_option linter.unusedVariables false
namespace Go.Proofs.YtailkppkjhkjpaaDoor.X
open Go.RowKit Go.Proofs.YtailkppkjhkjpaaDoorW.PrintWords Go.Proofs.YtailkppkjhkjpaaDoorW.PrintLast Go.Proofs.YtailkppkjhkjpaaDoorW.PrintMore
theorem hI_ {P:Prop}(h:P:=by repeat (first | (with_reducible first | exact HI0.out | apply IsS83.alloc | apply IsS83.drewN | apply IsS83.drew | apply IsS83.set_1 | refine IsS83.far ?_ (Aside0.out (by assumption)) _) | exact HI0.out)):P:=h
theorem hBs_ {P:Prop}(h:P:=by repeat (first | (with_reducible first | exact HB.out | apply below_alloc | apply pw_below_drewN | apply below_drew1 | refine below_set ?_ (IsS83.ge HI0.out) | refine below_set ?_ (Aside0.out (by assumption))) | exact HB.out)):P:=h
theorem sl_ {w0 W W':World}{g gb:Nat}{b:List Int}{p:Int}(_:Aside0 (IsS83 w0 W g b p))(hg:gb=W'.heap.size)(h:IsS83 w0 W' g b p:=by repeat (first | (with_reducible first | exact HI0.out | apply IsS83.alloc | apply IsS83.drewN | apply IsS83.drew | apply IsS83.set_1 | refine IsS83.far ?_ (Aside0.out (by assumption)) _) | exact HI0.out)):Aside0 (g≠gb):=⟨by rw [hg];exact Nat.ne_of_lt (IsS83.lt h)⟩
theorem sr_ {w0 W W':World}{g gb:Nat}{b:List Int}{p:Int}(_:Aside0 (IsS83 w0 W g b p))(hg:gb=W'.heap.size)(h:IsS83 w0 W' g b p:=by repeat (first | (with_reducible first | exact HI0.out | apply IsS83.alloc | apply IsS83.drewN | apply IsS83.drew | apply IsS83.set_1 | refine IsS83.far ?_ (Aside0.out (by assumption)) _) | exact HI0.out)):Aside0 (gb≠g):=⟨by rw [hg];exact Nat.ne_of_gt (IsS83.lt h)⟩
end Go.Proofs.YtailkppkjhkjpaaDoor.X
end
section
set_option linter.unusedVariables false
set_option linter.unusedSimpArgs false
namespace Go.Proofs.YtailkppkjhkjpaaDoor.X
open Go.RowKit Go.Proofs.YtailkppkjhkjpaaDoorW.PrintWords Go.Proofs.YtailkppkjhkjpaaDoorW.PrintLast Go.Proofs.YtailkppkjhkjpaaDoorW.PrintMore
open Mort
theorem w64 {x:Int}(h : -9223372036854775808≤x)(h':x≤9223372036854775807):wrap64 x=x:=by unfold wrap64;omega
theorem l6In_told (n a b:Int):spec_l6In.f n a b=some (decide (a≤n) && decide (n≤b)):=by
 unfold spec_l6In.f;by_cases h:n≥a
 ·
  rw [if_pos h,decide_eq_true (show a≤n from h)];rfl
 ·
  rw [if_neg h,decide_eq_false (show ¬ a≤n from h)];rfl
end Go.Proofs.YtailkppkjhkjpaaDoor.X
end
section
namespace Go.Proofs.YtailkppkjhkjpaaDoor.X
open Go.RowKit Go.Proofs.YtailkppkjhkjpaaDoorW.PrintWords Go.Proofs.YtailkppkjhkjpaaDoorW.PrintLast Go.Proofs.YtailkppkjhkjpaaDoorW.PrintMore
attribute [local go_sem] max2_int min2_int max_two min_two max_three min_three max_four min_four
set_option linter.unusedVariables false
set_option linter.unusedSimpArgs false
theorem eqA37 (d:Nat)(w:World)(x0 y0:Int)(x1 y1:Int):
  (Op.equalIn (d+2) 37 (.agg #[.int .i64 x0,.int .i64 x1]) (.agg #[.int .i64 y0,.int .i64 y1])).run Tryd.prog w=.ok (x0==y0 && (x1==y1)) w:=by
 refine eqA_of Tryd.underlying37 (by kernel_rfl) ?_;refine eqf_cons (by rfl) (by go_simp;rfl) (by go_simp;rfl) (by go_simp) ?_;exact eqf_last (by rfl) (by go_simp;rfl) (by go_simp;rfl) (by go_simp)
def spec_PtOk.f (a0_0:Int)(a0_1:Int):Option (Bool):=(spec_l6In.f a0_0 0 9).bind fun t133=>(if t133=true then ((spec_l6In.f a0_1 0 9).bind fun t134=>(some t134)) else (some false))
set_option maxHeartbeats 8000000 in
set_option maxRecDepth 100000 in
theorem spec_PtOk.calls (a0_0:Int)(a0_1:Int)(r:Bool)(w:World)(h:spec_PtOk.f a0_0 a0_1=some r):
  Calls Tryd.prog 20 #[.agg #[.int .i64 a0_0,.int .i64 a0_1]] w fun e w'=>e=.returned (.bool r)∧Below w.heap.size w w':=by
 have hu37:=Tryd.underlying37;have HB:=a0_ (Below.refl w.heap.size w);have H:((spec_l6In.f a0_0 0 9).bind fun t133=>(if t133=true then ((spec_l6In.f a0_1 0 9).bind fun t134=>(some t134)) else (some false)))=some r:=h;clear h;replace H:=Option.bind_eq_some_iff.mp H;obtain⟨t133,A20,H⟩:=H
 (try dsimp only at H)
 have A2:=Aside0.mk A20;clear A20;by_cases c3:t133=true
 ·
  subst c3;rw [if_pos rfl] at H
  (try dsimp only at H)
  replace H:=Option.bind_eq_some_iff.mp H;obtain⟨t134,A40,H⟩:=H
  (try dsimp only at H)
  have A4:=Aside0.mk A40;clear A40;obtain rfl:=Option.some.inj H;go_enter Tryd.func20,Tryd.ntmps20;go_wp2_with (first | ((with_reducible refine gate_dst (N:=1) rfl ?_);refine bx_ (N:=1) (cs:=#[.int .i64 a0_0,.int .i64 a0_1]) (t:=37) (h:=?_);intro gb132 hg w5 hbox hb;have BK132:=a0_ (hbox);have GW132:=gh_ HB hg;have GE132:=gh_ HB hg;replace HB:=sb_ HB hb;clear hb hbox hg;have hcz6_0:=c20_ BK132;have hcz6_1:=c21_ BK132;have hfz6_0:=fz_ BK132 0;have hfz6_1:=fz_ BK132 1) | ((with_reducible refine gate_callee (f:=52) rfl ?_);refine gL_ (some 5) Tryd.func52 #[.int .i64 a0_0,.int .i64 0,.int .i64 9] (h:=?_);(with_reducible refine (spec_l6In.calls a0_0 0 9 true _ A2.out).mono ?_);rintro e w' ⟨rfl,⟨nd,rfl⟩⟩;refine⟨_,rfl,?_⟩) | (go_at_call 52;(with_reducible refine (spec_l6In.calls a0_1 0 9 t134 _ A4.out).mono ?_);rintro e w' ⟨rfl,⟨nd,rfl⟩⟩));go_ret;exact⟨rr_,hB_⟩
 ·
  replace c3:=Bool.eq_false_iff.mpr c3;subst c3;rw [if_neg (show ¬ (false=true) by decide)] at H
  (try dsimp only at H)
  obtain rfl:=Option.some.inj H;go_enter Tryd.func20,Tryd.ntmps20;go_wp2_with (first | ((with_reducible refine gate_dst (N:=1) rfl ?_);refine bx_ (N:=1) (cs:=#[.int .i64 a0_0,.int .i64 a0_1]) (t:=37) (h:=?_);intro gb132 hg w7 hbox hb;have BK132:=a0_ (hbox);have GW132:=gh_ HB hg;have GE132:=gh_ HB hg;replace HB:=sb_ HB hb;clear hb hbox hg;have hcz8_0:=c20_ BK132;have hcz8_1:=c21_ BK132;have hfz8_0:=fz_ BK132 0;have hfz8_1:=fz_ BK132 1) | ((with_reducible refine gate_callee (f:=52) rfl ?_);refine gL_ (some 5) Tryd.func52 #[.int .i64 a0_0,.int .i64 0,.int .i64 9] (h:=?_);(with_reducible refine (spec_l6In.calls a0_0 0 9 false _ A2.out).mono ?_);rintro e w' ⟨rfl,⟨nd,rfl⟩⟩;refine⟨_,rfl,?_⟩));go_ret;exact⟨rr_,hB_⟩
attribute [local go_sem high] eqA37
def spec_SegOk.f (a0_0:Int)(a0_1:Int)(a0_2:Int)(a0_3:Int):Option (Bool):=(spec_PtOk.f a0_0 a0_1).bind fun t136=>(if t136=true then ((spec_PtOk.f a0_2 a0_3).bind fun t137=>(if t137=true then (some (!(a0_0==a0_2) || (!(a0_1==a0_3)))) else (some false))) else (some false))
set_option maxHeartbeats 8000000 in
set_option maxRecDepth 100000 in
theorem spec_SegOk.calls (a0_0:Int)(a0_1:Int)(a0_2:Int)(a0_3:Int)(r:Bool)(w:World)(h:spec_SegOk.f a0_0 a0_1 a0_2 a0_3=some r):
  Calls Tryd.prog 73 #[.agg #[.int .i64 a0_0,.int .i64 a0_1,.int .i64 a0_2,.int .i64 a0_3]] w fun e w'=>e=.returned (.bool r)∧Below w.heap.size w w':=by
 have hu89:=Tryd.underlying89;have hu37:=Tryd.underlying37;have HB:=a0_ (Below.refl w.heap.size w);have H:((spec_PtOk.f a0_0 a0_1).bind fun t136=>(if t136=true then ((spec_PtOk.f a0_2 a0_3).bind fun t137=>(if t137=true then (some (!(a0_0==a0_2) || (!(a0_1==a0_3)))) else (some false))) else (some false)))=some r:=h;clear h;replace H:=Option.bind_eq_some_iff.mp H;obtain⟨t136,A20,H⟩:=H
 (try dsimp only at H)
 have A2:=Aside0.mk A20;clear A20;by_cases c3:t136=true
 ·
  subst c3;rw [if_pos rfl] at H
  (try dsimp only at H)
  replace H:=Option.bind_eq_some_iff.mp H;obtain⟨t137,A40,H⟩:=H
  (try dsimp only at H)
  have A4:=Aside0.mk A40;clear A40;by_cases c5:t137=true
  ·
   subst c5;rw [if_pos rfl] at H
   (try dsimp only at H)
   obtain rfl:=Option.some.inj H;go_enter Tryd.func73,Tryd.ntmps73;go_wp2_with (first | ((with_reducible refine gate_dst (N:=1) rfl ?_);refine bx_ (N:=1) (cs:=#[.int .i64 a0_0,.int .i64 a0_1,.int .i64 a0_2,.int .i64 a0_3]) (t:=89) (h:=?_);intro gb135 hg w6 hbox hb;have BK135:=a0_ (hbox);have GW135:=gh_ HB hg;have GE135:=gh_ HB hg;replace HB:=sb_ HB hb;clear hb hbox hg;have hcz7_0:=c40_ BK135;have hcz7_1:=c41_ BK135;have hcz7_2:=c42_ BK135;have hcz7_3:=c43_ BK135;have hfz7_0:=fz_ BK135 0;have hfz7_1:=fz_ BK135 1;have hfz7_2:=fz_ BK135 2;have hfz7_3:=fz_ BK135 3) | ((with_reducible refine gate_callee (f:=20) rfl ?_);refine gL_ (some 5) Tryd.func20 #[.agg #[.int .i64 a0_0,.int .i64 a0_1]] (h:=?_);(with_reducible refine (spec_PtOk.calls a0_0 a0_1 true _ A2.out).mono ?_);rintro e w8 ⟨rfl,hb⟩;refine⟨_,rfl,?_⟩;replace BK135:=vb_ BK135 hb;replace HB:=sb_ HB hb;(try clear hb);have hcz9_0:=c40_ BK135;have hcz9_1:=c41_ BK135;have hcz9_2:=c42_ BK135;have hcz9_3:=c43_ BK135;have hfz9_0:=fz_ BK135 0;have hfz9_1:=fz_ BK135 1;have hfz9_2:=fz_ BK135 2;have hfz9_3:=fz_ BK135 3) | (go_at_call 20;(with_reducible refine (spec_PtOk.calls a0_2 a0_3 true _ A4.out).mono ?_);rintro e w10 ⟨rfl,hb⟩;replace BK135:=vb_ BK135 hb;replace HB:=sb_ HB hb;(try clear hb);have hcz11_0:=c40_ BK135;have hcz11_1:=c41_ BK135;have hcz11_2:=c42_ BK135;have hcz11_3:=c43_ BK135;have hfz11_0:=fz_ BK135 0;have hfz11_1:=fz_ BK135 1;have hfz11_2:=fz_ BK135 2;have hfz11_3:=fz_ BK135 3));go_ret;exact⟨rr_,hB_⟩
  ·
   replace c5:=Bool.eq_false_iff.mpr c5;subst c5;rw [if_neg (show ¬ (false=true) by decide)] at H
   (try dsimp only at H)
   obtain rfl:=Option.some.inj H;go_enter Tryd.func73,Tryd.ntmps73;go_wp2_with (first | ((with_reducible refine gate_dst (N:=1) rfl ?_);refine bx_ (N:=1) (cs:=#[.int .i64 a0_0,.int .i64 a0_1,.int .i64 a0_2,.int .i64 a0_3]) (t:=89) (h:=?_);intro gb135 hg w12 hbox hb;have BK135:=a0_ (hbox);have GW135:=gh_ HB hg;have GE135:=gh_ HB hg;replace HB:=sb_ HB hb;clear hb hbox hg;have hcz13_0:=c40_ BK135;have hcz13_1:=c41_ BK135;have hcz13_2:=c42_ BK135;have hcz13_3:=c43_ BK135;have hfz13_0:=fz_ BK135 0;have hfz13_1:=fz_ BK135 1;have hfz13_2:=fz_ BK135 2;have hfz13_3:=fz_ BK135 3) | ((with_reducible refine gate_callee (f:=20) rfl ?_);refine gL_ (some 5) Tryd.func20 #[.agg #[.int .i64 a0_0,.int .i64 a0_1]] (h:=?_);(with_reducible refine (spec_PtOk.calls a0_0 a0_1 true _ A2.out).mono ?_);rintro e w14 ⟨rfl,hb⟩;refine⟨_,rfl,?_⟩;replace BK135:=vb_ BK135 hb;replace HB:=sb_ HB hb;(try clear hb);have hcz15_0:=c40_ BK135;have hcz15_1:=c41_ BK135;have hcz15_2:=c42_ BK135;have hcz15_3:=c43_ BK135;have hfz15_0:=fz_ BK135 0;have hfz15_1:=fz_ BK135 1;have hfz15_2:=fz_ BK135 2;have hfz15_3:=fz_ BK135 3) | (go_at_call 20;(with_reducible refine (spec_PtOk.calls a0_2 a0_3 false _ A4.out).mono ?_);rintro e w16 ⟨rfl,hb⟩;replace BK135:=vb_ BK135 hb;replace HB:=sb_ HB hb;(try clear hb)));go_ret;exact⟨rr_,hB_⟩
 ·
  replace c3:=Bool.eq_false_iff.mpr c3;subst c3;rw [if_neg (show ¬ (false=true) by decide)] at H
  (try dsimp only at H)
  obtain rfl:=Option.some.inj H;go_enter Tryd.func73,Tryd.ntmps73;go_wp2_with (first | ((with_reducible refine gate_dst (N:=1) rfl ?_);refine bx_ (N:=1) (cs:=#[.int .i64 a0_0,.int .i64 a0_1,.int .i64 a0_2,.int .i64 a0_3]) (t:=89) (h:=?_);intro gb135 hg w17 hbox hb;have BK135:=a0_ (hbox);have GW135:=gh_ HB hg;have GE135:=gh_ HB hg;replace HB:=sb_ HB hb;clear hb hbox hg;have hcz18_0:=c40_ BK135;have hcz18_1:=c41_ BK135;have hcz18_2:=c42_ BK135;have hcz18_3:=c43_ BK135;have hfz18_0:=fz_ BK135 0;have hfz18_1:=fz_ BK135 1;have hfz18_2:=fz_ BK135 2;have hfz18_3:=fz_ BK135 3) | ((with_reducible refine gate_callee (f:=20) rfl ?_);refine gL_ (some 5) Tryd.func20 #[.agg #[.int .i64 a0_0,.int .i64 a0_1]] (h:=?_);(with_reducible refine (spec_PtOk.calls a0_0 a0_1 false _ A2.out).mono ?_);rintro e w19 ⟨rfl,hb⟩;refine⟨_,rfl,?_⟩;replace BK135:=vb_ BK135 hb;replace HB:=sb_ HB hb;(try clear hb)));go_ret;exact⟨rr_,hB_⟩
def impl_along.f (a0_0:Int)(a0_1:Int)(a1_0:Int)(a1_1:Int)(a2_0:Int)(a2_1:Int):Option (Int):=some (wrap64 ((wrap64 ((wrap64 (a1_0-a0_0))*(wrap64 (a2_0-a0_0))))+(wrap64 ((wrap64 (a1_1-a0_1))*(wrap64 (a2_1-a0_1))))))
set_option maxHeartbeats 8000000 in
set_option maxRecDepth 100000 in
theorem impl_along.calls (a0_0:Int)(a0_1:Int)(a1_0:Int)(a1_1:Int)(a2_0:Int)(a2_1:Int)(r:Int)(w:World)(h:impl_along.f a0_0 a0_1 a1_0 a1_1 a2_0 a2_1=some r):
  Calls Tryd.prog 93 #[.agg #[.int .i64 a0_0,.int .i64 a0_1],.agg #[.int .i64 a1_0,.int .i64 a1_1],.agg #[.int .i64 a2_0,.int .i64 a2_1]] w fun e w'=>e=.returned (.int .i64 r)∧Below w.heap.size w w':=by
 have hu37:=Tryd.underlying37;have HB:=a0_ (Below.refl w.heap.size w);have H:(some (wrap64 ((wrap64 ((wrap64 (a1_0-a0_0))*(wrap64 (a2_0-a0_0))))+(wrap64 ((wrap64 (a1_1-a0_1))*(wrap64 (a2_1-a0_1)))))))=some r:=h;clear h;obtain rfl:=Option.some.inj H;go_enter Tryd.func93,Tryd.ntmps93;go_wp2_with (first | ((with_reducible refine gate_dst (N:=3) rfl ?_);refine bx_ (N:=3) (cs:=#[.int .i64 a0_0,.int .i64 a0_1]) (t:=37) (h:=?_);intro gb352 hg w4 hbox hb;have BK352:=a0_ (hbox);have GW352:=gh_ HB hg;have GE352:=gh_ HB hg;replace HB:=sb_ HB hb;clear hb hbox hg) | ((with_reducible refine gate_dst (N:=4) rfl ?_);refine bx_ (N:=4) (cs:=#[.int .i64 a1_0,.int .i64 a1_1]) (t:=37) (h:=?_);intro gb353 hg w5 hbox hb;have BK353:=a0_ (hbox);have GW353:=gh_ HB hg;have GE353:=gh_ HB hg;have NB352_353:=nl_ BK352 hg;have NB353_352:=nr_ BK352 hg;replace BK352:=vb_ BK352 hb;replace HB:=sb_ HB hb;clear hb hbox hg) | ((with_reducible refine gate_dst (N:=5) rfl ?_);refine bx_ (N:=5) (cs:=#[.int .i64 a2_0,.int .i64 a2_1]) (t:=37) (h:=?_);intro gb354 hg w6 hbox hb;have BK354:=a0_ (hbox);have GW354:=gh_ HB hg;have GE354:=gh_ HB hg;have NB352_354:=nl_ BK352 hg;have NB354_352:=nr_ BK352 hg;have NB353_354:=nl_ BK353 hg;have NB354_353:=nr_ BK353 hg;replace BK352:=vb_ BK352 hb;replace BK353:=vb_ BK353 hb;replace HB:=sb_ HB hb;clear hb hbox hg;have hnb7:=NB353_352.out;have hnc7:=NB352_353.out;have hnb8:=NB353_354.out;have hnc8:=NB354_353.out;have hcz9_0:=c20_ BK353;have hcz9_1:=c21_ BK353;have hfz9_0:=fz_ BK353 0;have hfz9_1:=fz_ BK353 1;have hnb10:=NB352_354.out;have hnc10:=NB354_352.out;have hcz11_0:=c20_ BK352;have hcz11_1:=c21_ BK352;have hfz11_0:=fz_ BK352 0;have hfz11_1:=fz_ BK352 1;have hcz12_0:=c20_ BK354;have hcz12_1:=c21_ BK354;have hfz12_0:=fz_ BK354 0;have hfz12_1:=fz_ BK354 1));go_ret;exact⟨rr_,hB_⟩
def impl_between.f (a0_0:Int)(a0_1:Int)(a1_0:Int)(a1_1:Int):Option (Int):=(impl_along.f a0_0 a0_1 a1_0 a1_1 a1_0 a1_1).bind fun t357=>(some t357)
set_option maxHeartbeats 8000000 in
set_option maxRecDepth 100000 in
theorem impl_between.calls (a0_0:Int)(a0_1:Int)(a1_0:Int)(a1_1:Int)(r:Int)(w:World)(h:impl_between.f a0_0 a0_1 a1_0 a1_1=some r):
  Calls Tryd.prog 94 #[.agg #[.int .i64 a0_0,.int .i64 a0_1],.agg #[.int .i64 a1_0,.int .i64 a1_1]] w fun e w'=>e=.returned (.int .i64 r)∧Below w.heap.size w w':=by
 have hu37:=Tryd.underlying37;have HB:=a0_ (Below.refl w.heap.size w);have H:((impl_along.f a0_0 a0_1 a1_0 a1_1 a1_0 a1_1).bind fun t357=>(some t357))=some r:=h;clear h;replace H:=Option.bind_eq_some_iff.mp H;obtain⟨t357,A30,H⟩:=H
 (try dsimp only at H)
 have A3:=Aside0.mk A30;clear A30;obtain rfl:=Option.some.inj H;go_enter Tryd.func94,Tryd.ntmps94;go_wp2_with (first | ((with_reducible refine gate_dst (N:=2) rfl ?_);refine bx_ (N:=2) (cs:=#[.int .i64 a0_0,.int .i64 a0_1]) (t:=37) (h:=?_);intro gb355 hg w4 hbox hb;have BK355:=a0_ (hbox);have GW355:=gh_ HB hg;have GE355:=gh_ HB hg;replace HB:=sb_ HB hb;clear hb hbox hg) | ((with_reducible refine gate_dst (N:=3) rfl ?_);refine bx_ (N:=3) (cs:=#[.int .i64 a1_0,.int .i64 a1_1]) (t:=37) (h:=?_);intro gb356 hg w5 hbox hb;have BK356:=a0_ (hbox);have GW356:=gh_ HB hg;have GE356:=gh_ HB hg;have NB355_356:=nl_ BK355 hg;have NB356_355:=nr_ BK355 hg;replace BK355:=vb_ BK355 hb;replace HB:=sb_ HB hb;clear hb hbox hg;have hnb6:=NB355_356.out;have hnc6:=NB356_355.out;have hcz7_0:=c20_ BK355;have hcz7_1:=c21_ BK355;have hfz7_0:=fz_ BK355 0;have hfz7_1:=fz_ BK355 1;have hcz8_0:=c20_ BK356;have hcz8_1:=c21_ BK356;have hfz8_0:=fz_ BK356 0;have hfz8_1:=fz_ BK356 1) | ((with_reducible refine gate_callee (f:=93) rfl ?_);refine gL_ (some 8) Tryd.func93 #[.agg #[.int .i64 a0_0,.int .i64 a0_1],.agg #[.int .i64 a1_0,.int .i64 a1_1],.agg #[.int .i64 a1_0,.int .i64 a1_1]] (h:=?_);(with_reducible refine (impl_along.calls a0_0 a0_1 a1_0 a1_1 a1_0 a1_1 t357 _ A3.out).mono ?_);rintro e w9 ⟨rfl,hb⟩;refine⟨_,rfl,?_⟩;replace BK355:=vb_ BK355 hb;replace BK356:=vb_ BK356 hb;replace HB:=sb_ HB hb;(try clear hb)));go_ret;exact⟨rr_,hB_⟩
def impl_cross.f (a0_0:Int)(a0_1:Int)(a1_0:Int)(a1_1:Int)(a2_0:Int)(a2_1:Int):Option (Int):=some (wrap64 ((wrap64 ((wrap64 (a1_0-a0_0))*(wrap64 (a2_1-a0_1))))-(wrap64 ((wrap64 (a1_1-a0_1))*(wrap64 (a2_0-a0_0))))))
set_option maxHeartbeats 8000000 in
set_option maxRecDepth 100000 in
theorem impl_cross.calls (a0_0:Int)(a0_1:Int)(a1_0:Int)(a1_1:Int)(a2_0:Int)(a2_1:Int)(r:Int)(w:World)(h:impl_cross.f a0_0 a0_1 a1_0 a1_1 a2_0 a2_1=some r):
  Calls Tryd.prog 92 #[.agg #[.int .i64 a0_0,.int .i64 a0_1],.agg #[.int .i64 a1_0,.int .i64 a1_1],.agg #[.int .i64 a2_0,.int .i64 a2_1]] w fun e w'=>e=.returned (.int .i64 r)∧Below w.heap.size w w':=by
 have hu37:=Tryd.underlying37;have HB:=a0_ (Below.refl w.heap.size w);have H:(some (wrap64 ((wrap64 ((wrap64 (a1_0-a0_0))*(wrap64 (a2_1-a0_1))))-(wrap64 ((wrap64 (a1_1-a0_1))*(wrap64 (a2_0-a0_0)))))))=some r:=h;clear h;obtain rfl:=Option.some.inj H;go_enter Tryd.func92,Tryd.ntmps92;go_wp2_with (first | ((with_reducible refine gate_dst (N:=3) rfl ?_);refine bx_ (N:=3) (cs:=#[.int .i64 a0_0,.int .i64 a0_1]) (t:=37) (h:=?_);intro gb349 hg w4 hbox hb;have BK349:=a0_ (hbox);have GW349:=gh_ HB hg;have GE349:=gh_ HB hg;replace HB:=sb_ HB hb;clear hb hbox hg) | ((with_reducible refine gate_dst (N:=4) rfl ?_);refine bx_ (N:=4) (cs:=#[.int .i64 a1_0,.int .i64 a1_1]) (t:=37) (h:=?_);intro gb350 hg w5 hbox hb;have BK350:=a0_ (hbox);have GW350:=gh_ HB hg;have GE350:=gh_ HB hg;have NB349_350:=nl_ BK349 hg;have NB350_349:=nr_ BK349 hg;replace BK349:=vb_ BK349 hb;replace HB:=sb_ HB hb;clear hb hbox hg) | ((with_reducible refine gate_dst (N:=5) rfl ?_);refine bx_ (N:=5) (cs:=#[.int .i64 a2_0,.int .i64 a2_1]) (t:=37) (h:=?_);intro gb351 hg w6 hbox hb;have BK351:=a0_ (hbox);have GW351:=gh_ HB hg;have GE351:=gh_ HB hg;have NB349_351:=nl_ BK349 hg;have NB351_349:=nr_ BK349 hg;have NB350_351:=nl_ BK350 hg;have NB351_350:=nr_ BK350 hg;replace BK349:=vb_ BK349 hb;replace BK350:=vb_ BK350 hb;replace HB:=sb_ HB hb;clear hb hbox hg;have hnb7:=NB350_349.out;have hnc7:=NB349_350.out;have hnb8:=NB350_351.out;have hnc8:=NB351_350.out;have hcz9_0:=c20_ BK350;have hcz9_1:=c21_ BK350;have hfz9_0:=fz_ BK350 0;have hfz9_1:=fz_ BK350 1;have hnb10:=NB349_351.out;have hnc10:=NB351_349.out;have hcz11_0:=c20_ BK349;have hcz11_1:=c21_ BK349;have hfz11_0:=fz_ BK349 0;have hfz11_1:=fz_ BK349 1;have hcz12_0:=c20_ BK351;have hcz12_1:=c21_ BK351;have hfz12_0:=fz_ BK351 0;have hfz12_1:=fz_ BK351 1));go_ret;exact⟨rr_,hB_⟩
def impl_PtOk.f (a0_0:Int)(a0_1:Int):Option (Bool):=if a0_0≥0 then (if a0_0≤9 then (if a0_1≥0 then (some (decide (a0_1≤9))) else (some false)) else (some false)) else (some false)
set_option maxHeartbeats 8000000 in
set_option maxRecDepth 100000 in
theorem impl_PtOk.calls (a0_0:Int)(a0_1:Int)(r:Bool)(w:World)(h:impl_PtOk.f a0_0 a0_1=some r):
  Calls Tryd.prog 46 #[.agg #[.int .i64 a0_0,.int .i64 a0_1]] w fun e w'=>e=.returned (.bool r)∧Below w.heap.size w w':=by
 have hu37:=Tryd.underlying37;have HB:=a0_ (Below.refl w.heap.size w);have H:(if a0_0≥0 then (if a0_0≤9 then (if a0_1≥0 then (some (decide (a0_1≤9))) else (some false)) else (some false)) else (some false))=some r:=h;clear h;by_cases c2:a0_0≥0
 ·
  rw [if_pos c2] at H;have c2b0:decide (0≤a0_0)=true:=decide_eq_true c2;clear c2;by_cases c3:a0_0≤9
  ·
   rw [if_pos c3] at H;have c3b0:decide (a0_0≤9)=true:=decide_eq_true c3;clear c3;by_cases c4:a0_1≥0
   ·
    rw [if_pos c4] at H;have c4b0:decide (0≤a0_1)=true:=decide_eq_true c4;clear c4;obtain rfl:=Option.some.inj H;go_enter Tryd.func46,Tryd.ntmps46;go_wp2_with (first | ((with_reducible refine gate_dst (N:=1) rfl ?_);refine bx_ (N:=1) (cs:=#[.int .i64 a0_0,.int .i64 a0_1]) (t:=37) (h:=?_);intro gb345 hg w5 hbox hb;have BK345:=a0_ (hbox);have GW345:=gh_ HB hg;have GE345:=gh_ HB hg;replace HB:=sb_ HB hb;clear hb hbox hg;have hcz6_0:=c20_ BK345;have hcz6_1:=c21_ BK345;have hfz6_0:=fz_ BK345 0;have hfz6_1:=fz_ BK345 1));go_ret;exact⟨rr_,hB_⟩
   ·
    rw [if_neg c4] at H;have c4b0:decide (0≤a0_1)=false:=decide_eq_false c4;clear c4;obtain rfl:=Option.some.inj H;go_enter Tryd.func46,Tryd.ntmps46;go_wp2_with (first | ((with_reducible refine gate_dst (N:=1) rfl ?_);refine bx_ (N:=1) (cs:=#[.int .i64 a0_0,.int .i64 a0_1]) (t:=37) (h:=?_);intro gb345 hg w7 hbox hb;have BK345:=a0_ (hbox);have GW345:=gh_ HB hg;have GE345:=gh_ HB hg;replace HB:=sb_ HB hb;clear hb hbox hg;have hcz8_0:=c20_ BK345;have hcz8_1:=c21_ BK345;have hfz8_0:=fz_ BK345 0;have hfz8_1:=fz_ BK345 1));go_ret;exact⟨rr_,hB_⟩
  ·
   rw [if_neg c3] at H;have c3b0:decide (a0_0≤9)=false:=decide_eq_false c3;clear c3;obtain rfl:=Option.some.inj H;go_enter Tryd.func46,Tryd.ntmps46;go_wp2_with (first | ((with_reducible refine gate_dst (N:=1) rfl ?_);refine bx_ (N:=1) (cs:=#[.int .i64 a0_0,.int .i64 a0_1]) (t:=37) (h:=?_);intro gb345 hg w9 hbox hb;have BK345:=a0_ (hbox);have GW345:=gh_ HB hg;have GE345:=gh_ HB hg;replace HB:=sb_ HB hb;clear hb hbox hg;have hcz10_0:=c20_ BK345;have hcz10_1:=c21_ BK345;have hfz10_0:=fz_ BK345 0;have hfz10_1:=fz_ BK345 1));go_ret;exact⟨rr_,hB_⟩
 ·
  rw [if_neg c2] at H;have c2b0:decide (0≤a0_0)=false:=decide_eq_false c2;clear c2;obtain rfl:=Option.some.inj H;go_enter Tryd.func46,Tryd.ntmps46;go_wp2_with (first | ((with_reducible refine gate_dst (N:=1) rfl ?_);refine bx_ (N:=1) (cs:=#[.int .i64 a0_0,.int .i64 a0_1]) (t:=37) (h:=?_);intro gb345 hg w11 hbox hb;have BK345:=a0_ (hbox);have GW345:=gh_ HB hg;have GE345:=gh_ HB hg;replace HB:=sb_ HB hb;clear hb hbox hg;have hcz12_0:=c20_ BK345;have hcz12_1:=c21_ BK345;have hfz12_0:=fz_ BK345 0;have hfz12_1:=fz_ BK345 1));go_ret;exact⟨rr_,hB_⟩
attribute [local go_sem high] eqA37
def impl_SegOk.f (a0_0:Int)(a0_1:Int)(a0_2:Int)(a0_3:Int):Option (Bool):=(impl_PtOk.f a0_0 a0_1).bind fun t347=>(if t347=true then ((impl_PtOk.f a0_2 a0_3).bind fun t348=>(if t348=true then (some (!(a0_0==a0_2) || (!(a0_1==a0_3)))) else (some false))) else (some false))
set_option maxHeartbeats 8000000 in
set_option maxRecDepth 100000 in
theorem impl_SegOk.calls (a0_0:Int)(a0_1:Int)(a0_2:Int)(a0_3:Int)(r:Bool)(w:World)(h:impl_SegOk.f a0_0 a0_1 a0_2 a0_3=some r):
  Calls Tryd.prog 68 #[.agg #[.int .i64 a0_0,.int .i64 a0_1,.int .i64 a0_2,.int .i64 a0_3]] w fun e w'=>e=.returned (.bool r)∧Below w.heap.size w w':=by
 have hu89:=Tryd.underlying89;have hu37:=Tryd.underlying37;have HB:=a0_ (Below.refl w.heap.size w);have H:((impl_PtOk.f a0_0 a0_1).bind fun t347=>(if t347=true then ((impl_PtOk.f a0_2 a0_3).bind fun t348=>(if t348=true then (some (!(a0_0==a0_2) || (!(a0_1==a0_3)))) else (some false))) else (some false)))=some r:=h;clear h;replace H:=Option.bind_eq_some_iff.mp H;obtain⟨t347,A20,H⟩:=H
 (try dsimp only at H)
 have A2:=Aside0.mk A20;clear A20;by_cases c3:t347=true
 ·
  subst c3;rw [if_pos rfl] at H
  (try dsimp only at H)
  replace H:=Option.bind_eq_some_iff.mp H;obtain⟨t348,A40,H⟩:=H
  (try dsimp only at H)
  have A4:=Aside0.mk A40;clear A40;by_cases c5:t348=true
  ·
   subst c5;rw [if_pos rfl] at H
   (try dsimp only at H)
   obtain rfl:=Option.some.inj H;go_enter Tryd.func68,Tryd.ntmps68;go_wp2_with (first | ((with_reducible refine gate_dst (N:=1) rfl ?_);refine bx_ (N:=1) (cs:=#[.int .i64 a0_0,.int .i64 a0_1,.int .i64 a0_2,.int .i64 a0_3]) (t:=89) (h:=?_);intro gb346 hg w6 hbox hb;have BK346:=a0_ (hbox);have GW346:=gh_ HB hg;have GE346:=gh_ HB hg;replace HB:=sb_ HB hb;clear hb hbox hg;have hcz7_0:=c40_ BK346;have hcz7_1:=c41_ BK346;have hcz7_2:=c42_ BK346;have hcz7_3:=c43_ BK346;have hfz7_0:=fz_ BK346 0;have hfz7_1:=fz_ BK346 1;have hfz7_2:=fz_ BK346 2;have hfz7_3:=fz_ BK346 3) | ((with_reducible refine gate_callee (f:=46) rfl ?_);refine gL_ (some 5) Tryd.func46 #[.agg #[.int .i64 a0_0,.int .i64 a0_1]] (h:=?_);(with_reducible refine (impl_PtOk.calls a0_0 a0_1 true _ A2.out).mono ?_);rintro e w8 ⟨rfl,hb⟩;refine⟨_,rfl,?_⟩;replace BK346:=vb_ BK346 hb;replace HB:=sb_ HB hb;(try clear hb);have hcz9_0:=c40_ BK346;have hcz9_1:=c41_ BK346;have hcz9_2:=c42_ BK346;have hcz9_3:=c43_ BK346;have hfz9_0:=fz_ BK346 0;have hfz9_1:=fz_ BK346 1;have hfz9_2:=fz_ BK346 2;have hfz9_3:=fz_ BK346 3) | (go_at_call 46;(with_reducible refine (impl_PtOk.calls a0_2 a0_3 true _ A4.out).mono ?_);rintro e w10 ⟨rfl,hb⟩;replace BK346:=vb_ BK346 hb;replace HB:=sb_ HB hb;(try clear hb);have hcz11_0:=c40_ BK346;have hcz11_1:=c41_ BK346;have hcz11_2:=c42_ BK346;have hcz11_3:=c43_ BK346;have hfz11_0:=fz_ BK346 0;have hfz11_1:=fz_ BK346 1;have hfz11_2:=fz_ BK346 2;have hfz11_3:=fz_ BK346 3));go_ret;exact⟨rr_,hB_⟩
  ·
   replace c5:=Bool.eq_false_iff.mpr c5;subst c5;rw [if_neg (show ¬ (false=true) by decide)] at H
   (try dsimp only at H)
   obtain rfl:=Option.some.inj H;go_enter Tryd.func68,Tryd.ntmps68;go_wp2_with (first | ((with_reducible refine gate_dst (N:=1) rfl ?_);refine bx_ (N:=1) (cs:=#[.int .i64 a0_0,.int .i64 a0_1,.int .i64 a0_2,.int .i64 a0_3]) (t:=89) (h:=?_);intro gb346 hg w12 hbox hb;have BK346:=a0_ (hbox);have GW346:=gh_ HB hg;have GE346:=gh_ HB hg;replace HB:=sb_ HB hb;clear hb hbox hg;have hcz13_0:=c40_ BK346;have hcz13_1:=c41_ BK346;have hcz13_2:=c42_ BK346;have hcz13_3:=c43_ BK346;have hfz13_0:=fz_ BK346 0;have hfz13_1:=fz_ BK346 1;have hfz13_2:=fz_ BK346 2;have hfz13_3:=fz_ BK346 3) | ((with_reducible refine gate_callee (f:=46) rfl ?_);refine gL_ (some 5) Tryd.func46 #[.agg #[.int .i64 a0_0,.int .i64 a0_1]] (h:=?_);(with_reducible refine (impl_PtOk.calls a0_0 a0_1 true _ A2.out).mono ?_);rintro e w14 ⟨rfl,hb⟩;refine⟨_,rfl,?_⟩;replace BK346:=vb_ BK346 hb;replace HB:=sb_ HB hb;(try clear hb);have hcz15_0:=c40_ BK346;have hcz15_1:=c41_ BK346;have hcz15_2:=c42_ BK346;have hcz15_3:=c43_ BK346;have hfz15_0:=fz_ BK346 0;have hfz15_1:=fz_ BK346 1;have hfz15_2:=fz_ BK346 2;have hfz15_3:=fz_ BK346 3) | (go_at_call 46;(with_reducible refine (impl_PtOk.calls a0_2 a0_3 false _ A4.out).mono ?_);rintro e w16 ⟨rfl,hb⟩;replace BK346:=vb_ BK346 hb;replace HB:=sb_ HB hb;(try clear hb)));go_ret;exact⟨rr_,hB_⟩
 ·
  replace c3:=Bool.eq_false_iff.mpr c3;subst c3;rw [if_neg (show ¬ (false=true) by decide)] at H
  (try dsimp only at H)
  obtain rfl:=Option.some.inj H;go_enter Tryd.func68,Tryd.ntmps68;go_wp2_with (first | ((with_reducible refine gate_dst (N:=1) rfl ?_);refine bx_ (N:=1) (cs:=#[.int .i64 a0_0,.int .i64 a0_1,.int .i64 a0_2,.int .i64 a0_3]) (t:=89) (h:=?_);intro gb346 hg w17 hbox hb;have BK346:=a0_ (hbox);have GW346:=gh_ HB hg;have GE346:=gh_ HB hg;replace HB:=sb_ HB hb;clear hb hbox hg;have hcz18_0:=c40_ BK346;have hcz18_1:=c41_ BK346;have hcz18_2:=c42_ BK346;have hcz18_3:=c43_ BK346;have hfz18_0:=fz_ BK346 0;have hfz18_1:=fz_ BK346 1;have hfz18_2:=fz_ BK346 2;have hfz18_3:=fz_ BK346 3) | ((with_reducible refine gate_callee (f:=46) rfl ?_);refine gL_ (some 5) Tryd.func46 #[.agg #[.int .i64 a0_0,.int .i64 a0_1]] (h:=?_);(with_reducible refine (impl_PtOk.calls a0_0 a0_1 false _ A2.out).mono ?_);rintro e w19 ⟨rfl,hb⟩;refine⟨_,rfl,?_⟩;replace BK346:=vb_ BK346 hb;replace HB:=sb_ HB hb;(try clear hb)));go_ret;exact⟨rr_,hB_⟩
def impl_SegHas.j0:Nat→Bool→Int→Int→Int→Int→Int→Int→Option (Bool)
 | 0,_,_,_,_,_,_,_=>none
 | k+1,x22,x359000,x359001,x359002,x359003,x360000,x360001=>if x22=true then (some false) else ((impl_along.f x359000 x359001 x359002 x359003 x360000 x360001).bind fun t363=>(if t363≥0 then ((impl_between.f x359000 x359001 x359002 x359003).bind fun t364=>(some (decide (t363≤t364)))) else (some false)))
def impl_SegHas.f (k:Nat)(a0_0:Int)(a0_1:Int)(a0_2:Int)(a0_3:Int)(a1_0:Int)(a1_1:Int):Option (Bool):=(impl_SegOk.f a0_0 a0_1 a0_2 a0_3).bind fun t360=>(if t360=true then ((impl_PtOk.f a1_0 a1_1).bind fun t361=>(if t361=true then ((impl_cross.f a0_0 a0_1 a0_2 a0_3 a1_0 a1_1).bind fun t362=>(impl_SegHas.j0 k (t362 != 0) a0_0 a0_1 a0_2 a0_3 a1_0 a1_1)) else (impl_SegHas.j0 k true a0_0 a0_1 a0_2 a0_3 a1_0 a1_1))) else (impl_SegHas.j0 k true a0_0 a0_1 a0_2 a0_3 a1_0 a1_1))
set_option maxHeartbeats 8000000 in
set_option maxRecDepth 100000 in
theorem impl_SegHas.calls (k:Nat)(a0_0:Int)(a0_1:Int)(a0_2:Int)(a0_3:Int)(a1_0:Int)(a1_1:Int)(r:Bool)(w:World)(h:impl_SegHas.f k a0_0 a0_1 a0_2 a0_3 a1_0 a1_1=some r):
  Calls Tryd.prog 77 #[.agg #[.int .i64 a0_0,.int .i64 a0_1,.int .i64 a0_2,.int .i64 a0_3],.agg #[.int .i64 a1_0,.int .i64 a1_1]] w fun e w'=>e=.returned (.bool r)∧Below w.heap.size w w':=by
 have hu89:=Tryd.underlying89;have hu37:=Tryd.underlying37;have HB:=a0_ (Below.refl w.heap.size w);have H:((impl_SegOk.f a0_0 a0_1 a0_2 a0_3).bind fun t360=>(if t360=true then ((impl_PtOk.f a1_0 a1_1).bind fun t361=>(if t361=true then ((impl_cross.f a0_0 a0_1 a0_2 a0_3 a1_0 a1_1).bind fun t362=>(impl_SegHas.j0 k (t362 != 0) a0_0 a0_1 a0_2 a0_3 a1_0 a1_1)) else (impl_SegHas.j0 k true a0_0 a0_1 a0_2 a0_3 a1_0 a1_1))) else (impl_SegHas.j0 k true a0_0 a0_1 a0_2 a0_3 a1_0 a1_1)))=some r:=h;clear h;have HC3:=Aside0.mk H;clear H;go_enter Tryd.func77,Tryd.ntmps77;go_upto_region 1 with (first | ((with_reducible refine gate_dst (N:=2) rfl ?_);refine bx_ (N:=2) (cs:=#[.int .i64 a0_0,.int .i64 a0_1,.int .i64 a0_2,.int .i64 a0_3]) (t:=89) (h:=?_);intro gb358 hg w4 hbox hb;have BK358:=a0_ (hbox);have GW358:=gh_ HB hg;have GE358:=gh_ HB hg;replace HB:=sb_ HB hb;clear hb hbox hg) | ((with_reducible refine gate_dst (N:=3) rfl ?_);refine bx_ (N:=3) (cs:=#[.int .i64 a1_0,.int .i64 a1_1]) (t:=37) (h:=?_);intro gb359 hg w5 hbox hb;have BK359:=a0_ (hbox);have GW359:=gh_ HB hg;have GE359:=gh_ HB hg;have NB358_359:=nl_ BK358 hg;have NB359_358:=nr_ BK358 hg;replace BK358:=vb_ BK358 hb;replace HB:=sb_ HB hb;clear hb hbox hg))
 (try simp only [Act.put,List.setIfInBounds_toArray,List.set_cons_zero,List.set_cons_succ])
 go_cut [22] (fun v22 wc=>∃ (kq:Nat) (x22_2:Bool),v22=.bool x22_2∧Aside0 (impl_SegHas.j0 kq x22_2 a0_0 a0_1 a0_2 a0_3 a1_0 a1_1=some r)∧Aside0 (kq≤k)∧Aside0 (wc.heap[gb358]?=some (.cells #[.int .i64 a0_0,.int .i64 a0_1,.int .i64 a0_2,.int .i64 a0_3] 89 (0,0)))∧Aside0 (wc.heap[gb359]?=some (.cells #[.int .i64 a1_0,.int .i64 a1_1] 37 (0,0)))∧Aside0 (Below w.heap.size w wc))
 case first =>
  have H:=HC3.out;clear HC3;replace H:=Option.bind_eq_some_iff.mp H;obtain⟨t360,A60,H⟩:=H
  (try dsimp only at H)
  have A6:=Aside0.mk A60;clear A60;by_cases c7:t360=true
  ·
   subst c7;rw [if_pos rfl] at H
   (try dsimp only at H)
   replace H:=Option.bind_eq_some_iff.mp H;obtain⟨t361,A80,H⟩:=H
   (try dsimp only at H)
   have A8:=Aside0.mk A80;clear A80;by_cases c9:t361=true
   ·
    subst c9;rw [if_pos rfl] at H
    (try dsimp only at H)
    replace H:=Option.bind_eq_some_iff.mp H;obtain⟨t362,A100,H⟩:=H
    (try dsimp only at H)
    have A10:=Aside0.mk A100;clear A100;have H':=Aside0.mk H;clear H;have hnb11:=NB358_359.out;have hnc11:=NB359_358.out;have hcz12_0:=c40_ BK358;have hcz12_1:=c41_ BK358;have hcz12_2:=c42_ BK358;have hcz12_3:=c43_ BK358;have hfz12_0:=fz_ BK358 0;have hfz12_1:=fz_ BK358 1;have hfz12_2:=fz_ BK358 2;have hfz12_3:=fz_ BK358 3;go_wp2_with (first | ((with_reducible refine gate_callee (f:=68) rfl ?_);refine gL_ (some 7) Tryd.func68 #[.agg #[.int .i64 a0_0,.int .i64 a0_1,.int .i64 a0_2,.int .i64 a0_3]] (h:=?_);(with_reducible refine (impl_SegOk.calls a0_0 a0_1 a0_2 a0_3 true _ A6.out).mono ?_);rintro e w13 ⟨rfl,hb⟩;refine⟨_,rfl,?_⟩;replace BK358:=vb_ BK358 hb;replace BK359:=vb_ BK359 hb;replace HB:=sb_ HB hb;(try clear hb);have hcz14_0:=c20_ BK359;have hcz14_1:=c21_ BK359;have hfz14_0:=fz_ BK359 0;have hfz14_1:=fz_ BK359 1) | (go_at_call 46;(with_reducible refine (impl_PtOk.calls a1_0 a1_1 true _ A8.out).mono ?_);rintro e w15 ⟨rfl,hb⟩;replace BK358:=vb_ BK358 hb;replace BK359:=vb_ BK359 hb;replace HB:=sb_ HB hb;(try clear hb);have hcz16_0:=c40_ BK358;have hcz16_1:=c41_ BK358;have hcz16_2:=c42_ BK358;have hcz16_3:=c43_ BK358;have hfz16_0:=fz_ BK358 0;have hfz16_1:=fz_ BK358 1;have hfz16_2:=fz_ BK358 2;have hfz16_3:=fz_ BK358 3;have hcz17_0:=c20_ BK359;have hcz17_1:=c21_ BK359;have hfz17_0:=fz_ BK359 0;have hfz17_1:=fz_ BK359 1) | (go_at_call 92;(with_reducible refine (impl_cross.calls a0_0 a0_1 a0_2 a0_3 a1_0 a1_1 t362 _ A10.out).mono ?_);rintro e w18 ⟨rfl,hb⟩;replace BK358:=vb_ BK358 hb;replace BK359:=vb_ BK359 hb;replace HB:=sb_ HB hb;(try clear hb)));go_meet
    case rel=>exact⟨_,((t362 != 0)),(by first | rfl | (simp;done) | (simp [*];done)),H',⟨by first | omega | exact Nat.le_refl _⟩,⟨uq_⟩,⟨uq_⟩,⟨hB_⟩⟩
   ·
    replace c9:=Bool.eq_false_iff.mpr c9;subst c9;rw [if_neg (show ¬ (false=true) by decide)] at H
    (try dsimp only at H)
    have H':=Aside0.mk H;clear H;have hnb19:=NB358_359.out;have hnc19:=NB359_358.out;have hcz20_0:=c40_ BK358;have hcz20_1:=c41_ BK358;have hcz20_2:=c42_ BK358;have hcz20_3:=c43_ BK358;have hfz20_0:=fz_ BK358 0;have hfz20_1:=fz_ BK358 1;have hfz20_2:=fz_ BK358 2;have hfz20_3:=fz_ BK358 3;go_wp2_with (first | ((with_reducible refine gate_callee (f:=68) rfl ?_);refine gL_ (some 7) Tryd.func68 #[.agg #[.int .i64 a0_0,.int .i64 a0_1,.int .i64 a0_2,.int .i64 a0_3]] (h:=?_);(with_reducible refine (impl_SegOk.calls a0_0 a0_1 a0_2 a0_3 true _ A6.out).mono ?_);rintro e w21 ⟨rfl,hb⟩;refine⟨_,rfl,?_⟩;replace BK358:=vb_ BK358 hb;replace BK359:=vb_ BK359 hb;replace HB:=sb_ HB hb;(try clear hb);have hcz22_0:=c20_ BK359;have hcz22_1:=c21_ BK359;have hfz22_0:=fz_ BK359 0;have hfz22_1:=fz_ BK359 1) | (go_at_call 46;(with_reducible refine (impl_PtOk.calls a1_0 a1_1 false _ A8.out).mono ?_);rintro e w23 ⟨rfl,hb⟩;replace BK358:=vb_ BK358 hb;replace BK359:=vb_ BK359 hb;replace HB:=sb_ HB hb;(try clear hb)));go_meet
    case rel=>exact⟨_,(true),(by first | rfl | (simp;done) | (simp [*];done)),H',⟨by first | omega | exact Nat.le_refl _⟩,⟨uq_⟩,⟨uq_⟩,⟨hB_⟩⟩
  ·
   replace c7:=Bool.eq_false_iff.mpr c7;subst c7;rw [if_neg (show ¬ (false=true) by decide)] at H
   (try dsimp only at H)
   have H':=Aside0.mk H;clear H;have hnb24:=NB358_359.out;have hnc24:=NB359_358.out;have hcz25_0:=c40_ BK358;have hcz25_1:=c41_ BK358;have hcz25_2:=c42_ BK358;have hcz25_3:=c43_ BK358;have hfz25_0:=fz_ BK358 0;have hfz25_1:=fz_ BK358 1;have hfz25_2:=fz_ BK358 2;have hfz25_3:=fz_ BK358 3;go_wp2_with (first | ((with_reducible refine gate_callee (f:=68) rfl ?_);refine gL_ (some 7) Tryd.func68 #[.agg #[.int .i64 a0_0,.int .i64 a0_1,.int .i64 a0_2,.int .i64 a0_3]] (h:=?_);(with_reducible refine (impl_SegOk.calls a0_0 a0_1 a0_2 a0_3 false _ A6.out).mono ?_);rintro e w26 ⟨rfl,hb⟩;refine⟨_,rfl,?_⟩;replace BK358:=vb_ BK358 hb;replace BK359:=vb_ BK359 hb;replace HB:=sb_ HB hb;(try clear hb)));go_meet
   case rel=>exact⟨_,(true),(by first | rfl | (simp;done) | (simp [*];done)),H',⟨by first | omega | exact Nat.le_refl _⟩,⟨uq_⟩,⟨uq_⟩,⟨hB_⟩⟩
 case rest =>
  clear HC3;obtain⟨kq,x22_2,rfl,HA,HJ2,BK358,BK359,HB⟩:=hcut
  cases kq with
  | zero=>exact absurd HA.out (by simp [impl_SegHas.j0])
  | succ kj2 =>
   have H:=HA.out;clear HA;simp only [impl_SegHas.j0] at H;by_cases c27:x22_2=true
   ·
    subst c27;rw [if_pos rfl] at H
    (try dsimp only at H)
    obtain rfl:=Option.some.inj H;go_wp2;go_ret;exact⟨rr_,hB_⟩
   ·
    replace c27:=Bool.eq_false_iff.mpr c27;subst c27;rw [if_neg (show ¬ (false=true) by decide)] at H
    (try dsimp only at H)
    replace H:=Option.bind_eq_some_iff.mp H;obtain⟨t363,A280,H⟩:=H
    (try dsimp only at H)
    have A28:=Aside0.mk A280;clear A280;by_cases c29:t363≥0
    ·
     rw [if_pos c29] at H;have c29b0:decide (0≤t363)=true:=decide_eq_true c29;clear c29;replace H:=Option.bind_eq_some_iff.mp H;obtain⟨t364,A300,H⟩:=H
     (try dsimp only at H)
     have A30:=Aside0.mk A300;clear A300;obtain rfl:=Option.some.inj H;have hnb31:=NB358_359.out;have hnc31:=NB359_358.out;have hcz32_0:=c40_ BK358;have hcz32_1:=c41_ BK358;have hcz32_2:=c42_ BK358;have hcz32_3:=c43_ BK358;have hfz32_0:=fz_ BK358 0;have hfz32_1:=fz_ BK358 1;have hfz32_2:=fz_ BK358 2;have hfz32_3:=fz_ BK358 3;have hcz33_0:=c20_ BK359;have hcz33_1:=c21_ BK359;have hfz33_0:=fz_ BK359 0;have hfz33_1:=fz_ BK359 1;go_wp2_with (first | ((with_reducible refine gate_callee (f:=93) rfl ?_);refine gL_ (some 28) Tryd.func93 #[.agg #[.int .i64 a0_0,.int .i64 a0_1],.agg #[.int .i64 a0_2,.int .i64 a0_3],.agg #[.int .i64 a1_0,.int .i64 a1_1]] (h:=?_);(with_reducible refine (impl_along.calls a0_0 a0_1 a0_2 a0_3 a1_0 a1_1 t363 _ A28.out).mono ?_);rintro e w34 ⟨rfl,hb⟩;refine⟨_,rfl,?_⟩;replace BK358:=vb_ BK358 hb;replace BK359:=vb_ BK359 hb;replace HB:=sb_ HB hb;(try clear hb);have hcz35_0:=c40_ BK358;have hcz35_1:=c41_ BK358;have hcz35_2:=c42_ BK358;have hcz35_3:=c43_ BK358;have hfz35_0:=fz_ BK358 0;have hfz35_1:=fz_ BK358 1;have hfz35_2:=fz_ BK358 2;have hfz35_3:=fz_ BK358 3) | (go_at_call 94;(with_reducible refine (impl_between.calls a0_0 a0_1 a0_2 a0_3 t364 _ A30.out).mono ?_);rintro e w36 ⟨rfl,hb⟩;replace BK358:=vb_ BK358 hb;replace BK359:=vb_ BK359 hb;replace HB:=sb_ HB hb;(try clear hb)));go_ret;exact⟨rr_,hB_⟩
    ·
     rw [if_neg c29] at H;have c29b0:decide (0≤t363)=false:=decide_eq_false c29;clear c29;obtain rfl:=Option.some.inj H;have hnb37:=NB358_359.out;have hnc37:=NB359_358.out;have hcz38_0:=c40_ BK358;have hcz38_1:=c41_ BK358;have hcz38_2:=c42_ BK358;have hcz38_3:=c43_ BK358;have hfz38_0:=fz_ BK358 0;have hfz38_1:=fz_ BK358 1;have hfz38_2:=fz_ BK358 2;have hfz38_3:=fz_ BK358 3;have hcz39_0:=c20_ BK359;have hcz39_1:=c21_ BK359;have hfz39_0:=fz_ BK359 0;have hfz39_1:=fz_ BK359 1;go_wp2_with (first | ((with_reducible refine gate_callee (f:=93) rfl ?_);refine gL_ (some 28) Tryd.func93 #[.agg #[.int .i64 a0_0,.int .i64 a0_1],.agg #[.int .i64 a0_2,.int .i64 a0_3],.agg #[.int .i64 a1_0,.int .i64 a1_1]] (h:=?_);(with_reducible refine (impl_along.calls a0_0 a0_1 a0_2 a0_3 a1_0 a1_1 t363 _ A28.out).mono ?_);rintro e w40 ⟨rfl,hb⟩;refine⟨_,rfl,?_⟩;replace BK358:=vb_ BK358 hb;replace BK359:=vb_ BK359 hb;replace HB:=sb_ HB hb;(try clear hb)));go_ret;exact⟨rr_,hB_⟩
def impl_SegTurn.j0:Nat→Bool→Int→Int→Int→Int→Int→Int→Option (Int)
 | 0,_,_,_,_,_,_,_=>none
 | k+1,x20,x370000,x370001,x371000,x371001,x372000,x372001=>if x20=true then (some 0) else ((impl_cross.f x370000 x370001 x371000 x371001 x372000 x372001).bind fun t375=>(if t375>0 then (some 1) else (if t375<0 then (some (-1)) else (some 0))))
def impl_SegTurn.f (k:Nat)(a0_0:Int)(a0_1:Int)(a1_0:Int)(a1_1:Int)(a2_0:Int)(a2_1:Int):Option (Int):=(impl_PtOk.f a0_0 a0_1).bind fun t372=>(if t372=true then ((impl_PtOk.f a1_0 a1_1).bind fun t373=>(if t373=true then ((impl_PtOk.f a2_0 a2_1).bind fun t374=>(impl_SegTurn.j0 k (!t374) a0_0 a0_1 a1_0 a1_1 a2_0 a2_1)) else (impl_SegTurn.j0 k true a0_0 a0_1 a1_0 a1_1 a2_0 a2_1))) else (impl_SegTurn.j0 k true a0_0 a0_1 a1_0 a1_1 a2_0 a2_1))
set_option maxHeartbeats 8000000 in
set_option maxRecDepth 100000 in
theorem impl_SegTurn.calls (k:Nat)(a0_0:Int)(a0_1:Int)(a1_0:Int)(a1_1:Int)(a2_0:Int)(a2_1:Int)(r:Int)(w:World)(h:impl_SegTurn.f k a0_0 a0_1 a1_0 a1_1 a2_0 a2_1=some r):
  Calls Tryd.prog 78 #[.agg #[.int .i64 a0_0,.int .i64 a0_1],.agg #[.int .i64 a1_0,.int .i64 a1_1],.agg #[.int .i64 a2_0,.int .i64 a2_1]] w fun e w'=>e=.returned (.int .i64 r)∧Below w.heap.size w w':=by
 have hu37:=Tryd.underlying37;have HB:=a0_ (Below.refl w.heap.size w);have H:((impl_PtOk.f a0_0 a0_1).bind fun t372=>(if t372=true then ((impl_PtOk.f a1_0 a1_1).bind fun t373=>(if t373=true then ((impl_PtOk.f a2_0 a2_1).bind fun t374=>(impl_SegTurn.j0 k (!t374) a0_0 a0_1 a1_0 a1_1 a2_0 a2_1)) else (impl_SegTurn.j0 k true a0_0 a0_1 a1_0 a1_1 a2_0 a2_1))) else (impl_SegTurn.j0 k true a0_0 a0_1 a1_0 a1_1 a2_0 a2_1)))=some r:=h;clear h;have HC4:=Aside0.mk H;clear H;go_enter Tryd.func78,Tryd.ntmps78;go_upto_region 1 with (first | ((with_reducible refine gate_dst (N:=3) rfl ?_);refine bx_ (N:=3) (cs:=#[.int .i64 a0_0,.int .i64 a0_1]) (t:=37) (h:=?_);intro gb369 hg w5 hbox hb;have BK369:=a0_ (hbox);have GW369:=gh_ HB hg;have GE369:=gh_ HB hg;replace HB:=sb_ HB hb;clear hb hbox hg) | ((with_reducible refine gate_dst (N:=4) rfl ?_);refine bx_ (N:=4) (cs:=#[.int .i64 a1_0,.int .i64 a1_1]) (t:=37) (h:=?_);intro gb370 hg w6 hbox hb;have BK370:=a0_ (hbox);have GW370:=gh_ HB hg;have GE370:=gh_ HB hg;have NB369_370:=nl_ BK369 hg;have NB370_369:=nr_ BK369 hg;replace BK369:=vb_ BK369 hb;replace HB:=sb_ HB hb;clear hb hbox hg) | ((with_reducible refine gate_dst (N:=5) rfl ?_);refine bx_ (N:=5) (cs:=#[.int .i64 a2_0,.int .i64 a2_1]) (t:=37) (h:=?_);intro gb371 hg w7 hbox hb;have BK371:=a0_ (hbox);have GW371:=gh_ HB hg;have GE371:=gh_ HB hg;have NB369_371:=nl_ BK369 hg;have NB371_369:=nr_ BK369 hg;have NB370_371:=nl_ BK370 hg;have NB371_370:=nr_ BK370 hg;replace BK369:=vb_ BK369 hb;replace BK370:=vb_ BK370 hb;replace HB:=sb_ HB hb;clear hb hbox hg))
 (try simp only [Act.put,List.setIfInBounds_toArray,List.set_cons_zero,List.set_cons_succ])
 go_cut [20] (fun v20 wc=>∃ (kq:Nat) (x20_3:Bool),v20=.bool x20_3∧Aside0 (impl_SegTurn.j0 kq x20_3 a0_0 a0_1 a1_0 a1_1 a2_0 a2_1=some r)∧Aside0 (kq≤k)∧Aside0 (wc.heap[gb369]?=some (.cells #[.int .i64 a0_0,.int .i64 a0_1] 37 (0,0)))∧Aside0 (wc.heap[gb370]?=some (.cells #[.int .i64 a1_0,.int .i64 a1_1] 37 (0,0)))∧Aside0 (wc.heap[gb371]?=some (.cells #[.int .i64 a2_0,.int .i64 a2_1] 37 (0,0)))∧Aside0 (Below w.heap.size w wc))
 case first =>
  have H:=HC4.out;clear HC4;replace H:=Option.bind_eq_some_iff.mp H;obtain⟨t372,A80,H⟩:=H
  (try dsimp only at H)
  have A8:=Aside0.mk A80;clear A80;by_cases c9:t372=true
  ·
   subst c9;rw [if_pos rfl] at H
   (try dsimp only at H)
   replace H:=Option.bind_eq_some_iff.mp H;obtain⟨t373,A100,H⟩:=H
   (try dsimp only at H)
   have A10:=Aside0.mk A100;clear A100;by_cases c11:t373=true
   ·
    subst c11;rw [if_pos rfl] at H
    (try dsimp only at H)
    replace H:=Option.bind_eq_some_iff.mp H;obtain⟨t374,A120,H⟩:=H
    (try dsimp only at H)
    have A12:=Aside0.mk A120;clear A120;have H':=Aside0.mk H;clear H;have hnb13:=NB369_370.out;have hnc13:=NB370_369.out;have hnb14:=NB369_371.out;have hnc14:=NB371_369.out;have hcz15_0:=c20_ BK369;have hcz15_1:=c21_ BK369;have hfz15_0:=fz_ BK369 0;have hfz15_1:=fz_ BK369 1;go_wp2_with (first | ((with_reducible refine gate_callee (f:=46) rfl ?_);refine gL_ (some 9) Tryd.func46 #[.agg #[.int .i64 a0_0,.int .i64 a0_1]] (h:=?_);(with_reducible refine (impl_PtOk.calls a0_0 a0_1 true _ A8.out).mono ?_);rintro e w16 ⟨rfl,hb⟩;refine⟨_,rfl,?_⟩;replace BK369:=vb_ BK369 hb;replace BK370:=vb_ BK370 hb;replace BK371:=vb_ BK371 hb;replace HB:=sb_ HB hb;(try clear hb);have hnb17:=NB370_371.out;have hnc17:=NB371_370.out;have hcz18_0:=c20_ BK370;have hcz18_1:=c21_ BK370;have hfz18_0:=fz_ BK370 0;have hfz18_1:=fz_ BK370 1) | (go_at_call 46;(with_reducible refine (impl_PtOk.calls a1_0 a1_1 true _ A10.out).mono ?_);rintro e w19 ⟨rfl,hb⟩;replace BK369:=vb_ BK369 hb;replace BK370:=vb_ BK370 hb;replace BK371:=vb_ BK371 hb;replace HB:=sb_ HB hb;(try clear hb);have hcz20_0:=c20_ BK371;have hcz20_1:=c21_ BK371;have hfz20_0:=fz_ BK371 0;have hfz20_1:=fz_ BK371 1) | (go_at_call 46;(with_reducible refine (impl_PtOk.calls a2_0 a2_1 t374 _ A12.out).mono ?_);rintro e w21 ⟨rfl,hb⟩;replace BK369:=vb_ BK369 hb;replace BK370:=vb_ BK370 hb;replace BK371:=vb_ BK371 hb;replace HB:=sb_ HB hb;(try clear hb)));go_meet
    case rel=>exact⟨_,(!t374),(by first | rfl | (simp;done) | (simp [*];done)),H',⟨by first | omega | exact Nat.le_refl _⟩,⟨uq_⟩,⟨uq_⟩,⟨uq_⟩,⟨hB_⟩⟩
   ·
    replace c11:=Bool.eq_false_iff.mpr c11;subst c11;rw [if_neg (show ¬ (false=true) by decide)] at H
    (try dsimp only at H)
    have H':=Aside0.mk H;clear H;have hnb22:=NB369_370.out;have hnc22:=NB370_369.out;have hnb23:=NB369_371.out;have hnc23:=NB371_369.out;have hcz24_0:=c20_ BK369;have hcz24_1:=c21_ BK369;have hfz24_0:=fz_ BK369 0;have hfz24_1:=fz_ BK369 1;go_wp2_with (first | ((with_reducible refine gate_callee (f:=46) rfl ?_);refine gL_ (some 9) Tryd.func46 #[.agg #[.int .i64 a0_0,.int .i64 a0_1]] (h:=?_);(with_reducible refine (impl_PtOk.calls a0_0 a0_1 true _ A8.out).mono ?_);rintro e w25 ⟨rfl,hb⟩;refine⟨_,rfl,?_⟩;replace BK369:=vb_ BK369 hb;replace BK370:=vb_ BK370 hb;replace BK371:=vb_ BK371 hb;replace HB:=sb_ HB hb;(try clear hb);have hnb26:=NB370_371.out;have hnc26:=NB371_370.out;have hcz27_0:=c20_ BK370;have hcz27_1:=c21_ BK370;have hfz27_0:=fz_ BK370 0;have hfz27_1:=fz_ BK370 1) | (go_at_call 46;(with_reducible refine (impl_PtOk.calls a1_0 a1_1 false _ A10.out).mono ?_);rintro e w28 ⟨rfl,hb⟩;replace BK369:=vb_ BK369 hb;replace BK370:=vb_ BK370 hb;replace BK371:=vb_ BK371 hb;replace HB:=sb_ HB hb;(try clear hb)));go_meet
    case rel=>exact⟨_,(true),(by first | rfl | (simp;done) | (simp [*];done)),H',⟨by first | omega | exact Nat.le_refl _⟩,⟨uq_⟩,⟨uq_⟩,⟨uq_⟩,⟨hB_⟩⟩
  ·
   replace c9:=Bool.eq_false_iff.mpr c9;subst c9;rw [if_neg (show ¬ (false=true) by decide)] at H
   (try dsimp only at H)
   have H':=Aside0.mk H;clear H;have hnb29:=NB369_370.out;have hnc29:=NB370_369.out;have hnb30:=NB369_371.out;have hnc30:=NB371_369.out;have hcz31_0:=c20_ BK369;have hcz31_1:=c21_ BK369;have hfz31_0:=fz_ BK369 0;have hfz31_1:=fz_ BK369 1;go_wp2_with (first | ((with_reducible refine gate_callee (f:=46) rfl ?_);refine gL_ (some 9) Tryd.func46 #[.agg #[.int .i64 a0_0,.int .i64 a0_1]] (h:=?_);(with_reducible refine (impl_PtOk.calls a0_0 a0_1 false _ A8.out).mono ?_);rintro e w32 ⟨rfl,hb⟩;refine⟨_,rfl,?_⟩;replace BK369:=vb_ BK369 hb;replace BK370:=vb_ BK370 hb;replace BK371:=vb_ BK371 hb;replace HB:=sb_ HB hb;(try clear hb)));go_meet
   case rel=>exact⟨_,(true),(by first | rfl | (simp;done) | (simp [*];done)),H',⟨by first | omega | exact Nat.le_refl _⟩,⟨uq_⟩,⟨uq_⟩,⟨uq_⟩,⟨hB_⟩⟩
 case rest =>
  clear HC4;obtain⟨kq,x20_3,rfl,HA,HJ3,BK369,BK370,BK371,HB⟩:=hcut
  cases kq with
  | zero=>exact absurd HA.out (by simp [impl_SegTurn.j0])
  | succ kj3 =>
   have H:=HA.out;clear HA;simp only [impl_SegTurn.j0] at H;by_cases c33:x20_3=true
   ·
    subst c33;rw [if_pos rfl] at H
    (try dsimp only at H)
    obtain rfl:=Option.some.inj H;go_wp2;go_ret;exact⟨rr_,hB_⟩
   ·
    replace c33:=Bool.eq_false_iff.mpr c33;subst c33;rw [if_neg (show ¬ (false=true) by decide)] at H
    (try dsimp only at H)
    replace H:=Option.bind_eq_some_iff.mp H;obtain⟨t375,A340,H⟩:=H
    (try dsimp only at H)
    have A34:=Aside0.mk A340;clear A340;by_cases c35:t375>0
    ·
     rw [if_pos c35] at H;have c35b0:decide (0<t375)=true:=decide_eq_true c35;clear c35;obtain rfl:=Option.some.inj H;have hnb36:=NB369_370.out;have hnc36:=NB370_369.out;have hnb37:=NB369_371.out;have hnc37:=NB371_369.out;have hcz38_0:=c20_ BK369;have hcz38_1:=c21_ BK369;have hfz38_0:=fz_ BK369 0;have hfz38_1:=fz_ BK369 1;have hnb39:=NB370_371.out;have hnc39:=NB371_370.out;have hcz40_0:=c20_ BK370;have hcz40_1:=c21_ BK370;have hfz40_0:=fz_ BK370 0;have hfz40_1:=fz_ BK370 1;have hcz41_0:=c20_ BK371;have hcz41_1:=c21_ BK371;have hfz41_0:=fz_ BK371 0;have hfz41_1:=fz_ BK371 1;go_wp2_with (first | ((with_reducible refine gate_callee (f:=92) rfl ?_);refine gL_ (some 24) Tryd.func92 #[.agg #[.int .i64 a0_0,.int .i64 a0_1],.agg #[.int .i64 a1_0,.int .i64 a1_1],.agg #[.int .i64 a2_0,.int .i64 a2_1]] (h:=?_);(with_reducible refine (impl_cross.calls a0_0 a0_1 a1_0 a1_1 a2_0 a2_1 t375 _ A34.out).mono ?_);rintro e w42 ⟨rfl,hb⟩;refine⟨_,rfl,?_⟩;replace BK369:=vb_ BK369 hb;replace BK370:=vb_ BK370 hb;replace BK371:=vb_ BK371 hb;replace HB:=sb_ HB hb;(try clear hb)));go_ret;exact⟨rr_,hB_⟩
    ·
     rw [if_neg c35] at H;have c35b0:decide (0<t375)=false:=decide_eq_false c35;clear c35;by_cases c43:t375<0
     ·
      rw [if_pos c43] at H;have c43b0:decide (t375<0)=true:=decide_eq_true c43;clear c43;obtain rfl:=Option.some.inj H;have hnb44:=NB369_370.out;have hnc44:=NB370_369.out;have hnb45:=NB369_371.out;have hnc45:=NB371_369.out;have hcz46_0:=c20_ BK369;have hcz46_1:=c21_ BK369;have hfz46_0:=fz_ BK369 0;have hfz46_1:=fz_ BK369 1;have hnb47:=NB370_371.out;have hnc47:=NB371_370.out;have hcz48_0:=c20_ BK370;have hcz48_1:=c21_ BK370;have hfz48_0:=fz_ BK370 0;have hfz48_1:=fz_ BK370 1;have hcz49_0:=c20_ BK371;have hcz49_1:=c21_ BK371;have hfz49_0:=fz_ BK371 0;have hfz49_1:=fz_ BK371 1;go_wp2_with (first | ((with_reducible refine gate_callee (f:=92) rfl ?_);refine gL_ (some 24) Tryd.func92 #[.agg #[.int .i64 a0_0,.int .i64 a0_1],.agg #[.int .i64 a1_0,.int .i64 a1_1],.agg #[.int .i64 a2_0,.int .i64 a2_1]] (h:=?_);(with_reducible refine (impl_cross.calls a0_0 a0_1 a1_0 a1_1 a2_0 a2_1 t375 _ A34.out).mono ?_);rintro e w50 ⟨rfl,hb⟩;refine⟨_,rfl,?_⟩;replace BK369:=vb_ BK369 hb;replace BK370:=vb_ BK370 hb;replace BK371:=vb_ BK371 hb;replace HB:=sb_ HB hb;(try clear hb)));go_ret;exact⟨rr_,hB_⟩
     ·
      rw [if_neg c43] at H;have c43b0:decide (t375<0)=false:=decide_eq_false c43;clear c43;obtain rfl:=Option.some.inj H;have hnb51:=NB369_370.out;have hnc51:=NB370_369.out;have hnb52:=NB369_371.out;have hnc52:=NB371_369.out;have hcz53_0:=c20_ BK369;have hcz53_1:=c21_ BK369;have hfz53_0:=fz_ BK369 0;have hfz53_1:=fz_ BK369 1;have hnb54:=NB370_371.out;have hnc54:=NB371_370.out;have hcz55_0:=c20_ BK370;have hcz55_1:=c21_ BK370;have hfz55_0:=fz_ BK370 0;have hfz55_1:=fz_ BK370 1;have hcz56_0:=c20_ BK371;have hcz56_1:=c21_ BK371;have hfz56_0:=fz_ BK371 0;have hfz56_1:=fz_ BK371 1;go_wp2_with (first | ((with_reducible refine gate_callee (f:=92) rfl ?_);refine gL_ (some 24) Tryd.func92 #[.agg #[.int .i64 a0_0,.int .i64 a0_1],.agg #[.int .i64 a1_0,.int .i64 a1_1],.agg #[.int .i64 a2_0,.int .i64 a2_1]] (h:=?_);(with_reducible refine (impl_cross.calls a0_0 a0_1 a1_0 a1_1 a2_0 a2_1 t375 _ A34.out).mono ?_);rintro e w57 ⟨rfl,hb⟩;refine⟨_,rfl,?_⟩;replace BK369:=vb_ BK369 hb;replace BK370:=vb_ BK370 hb;replace BK371:=vb_ BK371 hb;replace HB:=sb_ HB hb;(try clear hb)));go_ret;exact⟨rr_,hB_⟩
mutual
def impl_SegMeet.j0:Nat→Bool→Int→Int→Int→Int→Int→Int→Int→Int→Option (Bool)
 | 0,_,_,_,_,_,_,_,_,_=>none
 | k+1,x12,x377000,x377001,x377002,x377003,x378000,x378001,x378002,x378003=>if x12=true then (some false) else ((impl_SegHas.f k x377000 x377001 x377002 x377003 x378000 x378001).bind fun t380=>(if t380=true then (impl_SegMeet.j1 k true x377000 x377001 x377002 x377003 x378000 x378001 x378002 x378003) else ((impl_SegHas.f k x377000 x377001 x377002 x377003 x378002 x378003).bind fun t381=>(if t381=true then (impl_SegMeet.j1 k true x377000 x377001 x377002 x377003 x378000 x378001 x378002 x378003) else ((impl_SegHas.f k x378000 x378001 x378002 x378003 x377000 x377001).bind fun t382=>(if t382=true then (impl_SegMeet.j1 k true x377000 x377001 x377002 x377003 x378000 x378001 x378002 x378003) else ((impl_SegHas.f k x378000 x378001 x378002 x378003 x377002 x377003).bind fun t383=>(impl_SegMeet.j1 k t383 x377000 x377001 x377002 x377003 x378000 x378001 x378002 x378003))))))))
def impl_SegMeet.j1:Nat→Bool→Int→Int→Int→Int→Int→Int→Int→Int→Option (Bool)
 | 0,_,_,_,_,_,_,_,_,_=>none
 | k+1,x34,x377000,x377001,x377002,x377003,x378000,x378001,x378002,x378003=>if x34=true then (some true) else ((impl_SegTurn.f k x377000 x377001 x377002 x377003 x378000 x378001).bind fun t384=>((impl_SegTurn.f k x377000 x377001 x377002 x377003 x378002 x378003).bind fun t385=>(if (wrap64 (t384*t385))<0 then ((impl_SegTurn.f k x378000 x378001 x378002 x378003 x377000 x377001).bind fun t386=>((impl_SegTurn.f k x378000 x378001 x378002 x378003 x377002 x377003).bind fun t387=>(some (decide ((wrap64 (t386*t387))<0))))) else (some false))))
end
def impl_SegMeet.f (k:Nat)(a0_0:Int)(a0_1:Int)(a0_2:Int)(a0_3:Int)(a1_0:Int)(a1_1:Int)(a1_2:Int)(a1_3:Int):Option (Bool):=(impl_SegOk.f a0_0 a0_1 a0_2 a0_3).bind fun t378=>(if t378=true then ((impl_SegOk.f a1_0 a1_1 a1_2 a1_3).bind fun t379=>(impl_SegMeet.j0 k (!t379) a0_0 a0_1 a0_2 a0_3 a1_0 a1_1 a1_2 a1_3)) else (impl_SegMeet.j0 k true a0_0 a0_1 a0_2 a0_3 a1_0 a1_1 a1_2 a1_3))
def impl_SegMeet.T5:Bool × List (List Nat × List Nat):=(true,[([],[]),([0],[0]),([],[]),([2],[2]),([],[]),([4],[4]),([1,3,5],[1,3,5]),([],[]),([7],[7]),([],[]),([9],[9]),([],[]),([11],[11]),([8,10,12,6],[8,10,12]),([6,13],[6,13]),([14],[14]),([15,13],[15]),([16],[16]),([17,16],[16,17]),([16],[16]),([19,16],[16,19]),([16],[16]),([21,16],[16,21]),([18,20,22,16,16],[16,18,20,22]),([16],[16]),([24,16],[16,24]),([16],[16]),([26,16],[16,26]),([16],[16]),([28,16],[16,28]),([25,27,29,23,16],[16,25,27,29]),([23,30,16],[16,23,30]),([31,16],[16,31]),([16,32],[16,32]),([33,30,0,1,2,3,4,5,6,7,8,9,10,11,12,13,14,15,16,17,18,19,20,21,22,23,24,25,26,27,28,29,30,31,32,33],[33])])
def impl_SegMeet.B5:List Nat:=[0,1,0,4,0,16,63,0,128,0,512,0,2048,8191,16383,32767,65535,131071,262143,131071,655359,131071,2228223,8388607,131071,16908287,131071,67239935,131071,268566527,1073741823,2147483647,4294967295,8589934591,17179869183]
theorem impl_SegMeet.tab5:rtab .any (opsOf Tryd.f70 5)=impl_SegMeet.T5:=by kernel_rfl
theorem impl_SegMeet.bits5:waitsOk impl_SegMeet.T5.2 impl_SegMeet.B5=true:=by kernel_rfl
set_option maxHeartbeats 8000000 in
set_option maxRecDepth 100000 in
theorem impl_SegMeet.calls (k:Nat)(a0_0:Int)(a0_1:Int)(a0_2:Int)(a0_3:Int)(a1_0:Int)(a1_1:Int)(a1_2:Int)(a1_3:Int)(r:Bool)(w:World)(h:impl_SegMeet.f k a0_0 a0_1 a0_2 a0_3 a1_0 a1_1 a1_2 a1_3=some r):
  Calls Tryd.prog 70 #[.agg #[.int .i64 a0_0,.int .i64 a0_1,.int .i64 a0_2,.int .i64 a0_3],.agg #[.int .i64 a1_0,.int .i64 a1_1,.int .i64 a1_2,.int .i64 a1_3]] w fun e w'=>e=.returned (.bool r)∧Below w.heap.size w w':=by
 have hu89:=Tryd.underlying89;have hu37:=Tryd.underlying37;have HB:=a0_ (Below.refl w.heap.size w);have H:((impl_SegOk.f a0_0 a0_1 a0_2 a0_3).bind fun t378=>(if t378=true then ((impl_SegOk.f a1_0 a1_1 a1_2 a1_3).bind fun t379=>(impl_SegMeet.j0 k (!t379) a0_0 a0_1 a0_2 a0_3 a1_0 a1_1 a1_2 a1_3)) else (impl_SegMeet.j0 k true a0_0 a0_1 a0_2 a0_3 a1_0 a1_1 a1_2 a1_3)))=some r:=h;clear h;have HC3:=Aside0.mk H;clear H;go_enter Tryd.func70,Tryd.ntmps70;go_upto_region 1 with (first | ((with_reducible refine gate_dst (N:=2) rfl ?_);refine bx_ (N:=2) (cs:=#[.int .i64 a0_0,.int .i64 a0_1,.int .i64 a0_2,.int .i64 a0_3]) (t:=89) (h:=?_);intro gb376 hg w4 hbox hb;have BK376:=a0_ (hbox);have GW376:=gh_ HB hg;have GE376:=gh_ HB hg;replace HB:=sb_ HB hb;clear hb hbox hg) | ((with_reducible refine gate_dst (N:=3) rfl ?_);refine bx_ (N:=3) (cs:=#[.int .i64 a1_0,.int .i64 a1_1,.int .i64 a1_2,.int .i64 a1_3]) (t:=89) (h:=?_);intro gb377 hg w5 hbox hb;have BK377:=a0_ (hbox);have GW377:=gh_ HB hg;have GE377:=gh_ HB hg;have NB376_377:=nl_ BK376 hg;have NB377_376:=nr_ BK376 hg;replace BK376:=vb_ BK376 hb;replace HB:=sb_ HB hb;clear hb hbox hg))
 (try simp only [Act.put,List.setIfInBounds_toArray,List.set_cons_zero,List.set_cons_succ])
 go_cut [12] (fun v12 wc=>∃ (kq:Nat) (x12_2:Bool),v12=.bool x12_2∧Aside0 (impl_SegMeet.j0 kq x12_2 a0_0 a0_1 a0_2 a0_3 a1_0 a1_1 a1_2 a1_3=some r)∧Aside0 (kq≤k)∧Aside0 (wc.heap[gb376]?=some (.cells #[.int .i64 a0_0,.int .i64 a0_1,.int .i64 a0_2,.int .i64 a0_3] 89 (0,0)))∧Aside0 (wc.heap[gb377]?=some (.cells #[.int .i64 a1_0,.int .i64 a1_1,.int .i64 a1_2,.int .i64 a1_3] 89 (0,0)))∧Aside0 (Below w.heap.size w wc))
 case first =>
  have H:=HC3.out;clear HC3;replace H:=Option.bind_eq_some_iff.mp H;obtain⟨t378,A60,H⟩:=H
  (try dsimp only at H)
  have A6:=Aside0.mk A60;clear A60;by_cases c7:t378=true
  ·
   subst c7;rw [if_pos rfl] at H
   (try dsimp only at H)
   replace H:=Option.bind_eq_some_iff.mp H;obtain⟨t379,A80,H⟩:=H
   (try dsimp only at H)
   have A8:=Aside0.mk A80;clear A80;have H':=Aside0.mk H;clear H;have hnb9:=NB376_377.out;have hnc9:=NB377_376.out;have hcz10_0:=c40_ BK376;have hcz10_1:=c41_ BK376;have hcz10_2:=c42_ BK376;have hcz10_3:=c43_ BK376;have hfz10_0:=fz_ BK376 0;have hfz10_1:=fz_ BK376 1;have hfz10_2:=fz_ BK376 2;have hfz10_3:=fz_ BK376 3;go_wp2_with (first | ((with_reducible refine gate_callee (f:=68) rfl ?_);refine gL_ (some 6) Tryd.func68 #[.agg #[.int .i64 a0_0,.int .i64 a0_1,.int .i64 a0_2,.int .i64 a0_3]] (h:=?_);(with_reducible refine (impl_SegOk.calls a0_0 a0_1 a0_2 a0_3 true _ A6.out).mono ?_);rintro e w11 ⟨rfl,hb⟩;refine⟨_,rfl,?_⟩;replace BK376:=vb_ BK376 hb;replace BK377:=vb_ BK377 hb;replace HB:=sb_ HB hb;(try clear hb);have hcz12_0:=c40_ BK377;have hcz12_1:=c41_ BK377;have hcz12_2:=c42_ BK377;have hcz12_3:=c43_ BK377;have hfz12_0:=fz_ BK377 0;have hfz12_1:=fz_ BK377 1;have hfz12_2:=fz_ BK377 2;have hfz12_3:=fz_ BK377 3) | (go_at_call 68;(with_reducible refine (impl_SegOk.calls a1_0 a1_1 a1_2 a1_3 t379 _ A8.out).mono ?_);rintro e w13 ⟨rfl,hb⟩;replace BK376:=vb_ BK376 hb;replace BK377:=vb_ BK377 hb;replace HB:=sb_ HB hb;(try clear hb)));go_meet
   case rel=>exact⟨_,(!t379),(by first | rfl | (simp;done) | (simp [*];done)),H',⟨by first | omega | exact Nat.le_refl _⟩,⟨uq_⟩,⟨uq_⟩,⟨hB_⟩⟩
  ·
   replace c7:=Bool.eq_false_iff.mpr c7;subst c7;rw [if_neg (show ¬ (false=true) by decide)] at H
   (try dsimp only at H)
   have H':=Aside0.mk H;clear H;have hnb14:=NB376_377.out;have hnc14:=NB377_376.out;have hcz15_0:=c40_ BK376;have hcz15_1:=c41_ BK376;have hcz15_2:=c42_ BK376;have hcz15_3:=c43_ BK376;have hfz15_0:=fz_ BK376 0;have hfz15_1:=fz_ BK376 1;have hfz15_2:=fz_ BK376 2;have hfz15_3:=fz_ BK376 3;go_wp2_with (first | ((with_reducible refine gate_callee (f:=68) rfl ?_);refine gL_ (some 6) Tryd.func68 #[.agg #[.int .i64 a0_0,.int .i64 a0_1,.int .i64 a0_2,.int .i64 a0_3]] (h:=?_);(with_reducible refine (impl_SegOk.calls a0_0 a0_1 a0_2 a0_3 false _ A6.out).mono ?_);rintro e w16 ⟨rfl,hb⟩;refine⟨_,rfl,?_⟩;replace BK376:=vb_ BK376 hb;replace BK377:=vb_ BK377 hb;replace HB:=sb_ HB hb;(try clear hb)));go_meet
   case rel=>exact⟨_,(true),(by first | rfl | (simp;done) | (simp [*];done)),H',⟨by first | omega | exact Nat.le_refl _⟩,⟨uq_⟩,⟨uq_⟩,⟨hB_⟩⟩
 case rest =>
  clear HC3;obtain⟨kq,x12_2,rfl,HA,HJ2,BK376,BK377,HB⟩:=hcut
  cases kq with
  | zero=>exact absurd HA.out (by simp [impl_SegMeet.j0])
  | succ kj2 =>
   have H:=HA.out;clear HA;simp only [impl_SegMeet.j0] at H;by_cases c17:x12_2=true
   ·
    subst c17;rw [if_pos rfl] at H
    (try dsimp only at H)
    obtain rfl:=Option.some.inj H;go_wp2;go_ret;exact⟨rr_,hB_⟩
   ·
    replace c17:=Bool.eq_false_iff.mpr c17;subst c17;rw [if_neg (show ¬ (false=true) by decide)] at H
    (try dsimp only at H)
    have HC18:=Aside0.mk H;clear H;go_upto_region 3 with (fail)
    go_cut [34] (fun v34 wc=>∃ (kq:Nat) (x34_17:Bool),v34=.bool x34_17∧Aside0 (impl_SegMeet.j1 kq x34_17 a0_0 a0_1 a0_2 a0_3 a1_0 a1_1 a1_2 a1_3=some r)∧Aside0 (kq≤kj2)∧Aside0 (wc.heap[gb376]?=some (.cells #[.int .i64 a0_0,.int .i64 a0_1,.int .i64 a0_2,.int .i64 a0_3] 89 (0,0)))∧Aside0 (wc.heap[gb377]?=some (.cells #[.int .i64 a1_0,.int .i64 a1_1,.int .i64 a1_2,.int .i64 a1_3] 89 (0,0)))∧Aside0 (Below w.heap.size w wc))
    case first =>
     have H:=HC18.out;clear HC18;replace H:=Option.bind_eq_some_iff.mp H;obtain⟨t380,A190,H⟩:=H
     (try dsimp only at H)
     have A19:=Aside0.mk A190;clear A190;by_cases c20:t380=true
     ·
      subst c20;rw [if_pos rfl] at H
      (try dsimp only at H)
      have H':=Aside0.mk H;clear H;have hnb21:=NB376_377.out;have hnc21:=NB377_376.out;have hcz22_0:=c40_ BK376;have hcz22_1:=c41_ BK376;have hcz22_2:=c42_ BK376;have hcz22_3:=c43_ BK376;have hfz22_0:=fz_ BK376 0;have hfz22_1:=fz_ BK376 1;have hfz22_2:=fz_ BK376 2;have hfz22_3:=fz_ BK376 3;have hcz23_0:=c40_ BK377;have hcz23_1:=c41_ BK377;have hcz23_2:=c42_ BK377;have hcz23_3:=c43_ BK377;have hfz23_0:=fz_ BK377 0;have hfz23_1:=fz_ BK377 1;have hfz23_2:=fz_ BK377 2;have hfz23_3:=fz_ BK377 3;go_wp2_with (first | ((with_reducible refine gate_callee (f:=77) rfl ?_);refine gL_ (some 16) Tryd.func77 #[.agg #[.int .i64 a0_0,.int .i64 a0_1,.int .i64 a0_2,.int .i64 a0_3],.agg #[.int .i64 a1_0,.int .i64 a1_1]] (h:=?_);(with_reducible refine (impl_SegHas.calls kj2 a0_0 a0_1 a0_2 a0_3 a1_0 a1_1 true _ A19.out).mono ?_);rintro e w24 ⟨rfl,hb⟩;refine⟨_,rfl,?_⟩;replace BK376:=vb_ BK376 hb;replace BK377:=vb_ BK377 hb;replace HB:=sb_ HB hb;(try clear hb)));go_meet
      case rel=>exact⟨_,(true),(by first | rfl | (simp;done) | (simp [*];done)),H',⟨by have:=HJ2.out;first | omega | exact Nat.le_refl _⟩,⟨uq_⟩,⟨uq_⟩,⟨hB_⟩⟩
     ·
      replace c20:=Bool.eq_false_iff.mpr c20;subst c20;rw [if_neg (show ¬ (false=true) by decide)] at H
      (try dsimp only at H)
      replace H:=Option.bind_eq_some_iff.mp H;obtain⟨t381,A250,H⟩:=H
      (try dsimp only at H)
      have A25:=Aside0.mk A250;clear A250;by_cases c26:t381=true
      ·
       subst c26;rw [if_pos rfl] at H
       (try dsimp only at H)
       have H':=Aside0.mk H;clear H;have hnb27:=NB376_377.out;have hnc27:=NB377_376.out;have hcz28_0:=c40_ BK376;have hcz28_1:=c41_ BK376;have hcz28_2:=c42_ BK376;have hcz28_3:=c43_ BK376;have hfz28_0:=fz_ BK376 0;have hfz28_1:=fz_ BK376 1;have hfz28_2:=fz_ BK376 2;have hfz28_3:=fz_ BK376 3;have hcz29_0:=c40_ BK377;have hcz29_1:=c41_ BK377;have hcz29_2:=c42_ BK377;have hcz29_3:=c43_ BK377;have hfz29_0:=fz_ BK377 0;have hfz29_1:=fz_ BK377 1;have hfz29_2:=fz_ BK377 2;have hfz29_3:=fz_ BK377 3;go_wp2_with (first | ((with_reducible refine gate_callee (f:=77) rfl ?_);refine gL_ (some 16) Tryd.func77 #[.agg #[.int .i64 a0_0,.int .i64 a0_1,.int .i64 a0_2,.int .i64 a0_3],.agg #[.int .i64 a1_0,.int .i64 a1_1]] (h:=?_);(with_reducible refine (impl_SegHas.calls kj2 a0_0 a0_1 a0_2 a0_3 a1_0 a1_1 false _ A19.out).mono ?_);rintro e w30 ⟨rfl,hb⟩;refine⟨_,rfl,?_⟩;replace BK376:=vb_ BK376 hb;replace BK377:=vb_ BK377 hb;replace HB:=sb_ HB hb;(try clear hb);have hcz31_0:=c40_ BK376;have hcz31_1:=c41_ BK376;have hcz31_2:=c42_ BK376;have hcz31_3:=c43_ BK376;have hfz31_0:=fz_ BK376 0;have hfz31_1:=fz_ BK376 1;have hfz31_2:=fz_ BK376 2;have hfz31_3:=fz_ BK376 3;have hcz32_0:=c40_ BK377;have hcz32_1:=c41_ BK377;have hcz32_2:=c42_ BK377;have hcz32_3:=c43_ BK377;have hfz32_0:=fz_ BK377 0;have hfz32_1:=fz_ BK377 1;have hfz32_2:=fz_ BK377 2;have hfz32_3:=fz_ BK377 3) | (go_at_call 77;(with_reducible refine (impl_SegHas.calls kj2 a0_0 a0_1 a0_2 a0_3 a1_2 a1_3 true _ A25.out).mono ?_);rintro e w33 ⟨rfl,hb⟩;replace BK376:=vb_ BK376 hb;replace BK377:=vb_ BK377 hb;replace HB:=sb_ HB hb;(try clear hb)));go_meet
       case rel=>exact⟨_,(true),(by first | rfl | (simp;done) | (simp [*];done)),H',⟨by have:=HJ2.out;first | omega | exact Nat.le_refl _⟩,⟨uq_⟩,⟨uq_⟩,⟨hB_⟩⟩
      ·
       replace c26:=Bool.eq_false_iff.mpr c26;subst c26;rw [if_neg (show ¬ (false=true) by decide)] at H
       (try dsimp only at H)
       replace H:=Option.bind_eq_some_iff.mp H;obtain⟨t382,A340,H⟩:=H
       (try dsimp only at H)
       have A34:=Aside0.mk A340;clear A340;by_cases c35:t382=true
       ·
        subst c35;rw [if_pos rfl] at H
        (try dsimp only at H)
        have H':=Aside0.mk H;clear H;have hnb36:=NB376_377.out;have hnc36:=NB377_376.out;have hcz37_0:=c40_ BK376;have hcz37_1:=c41_ BK376;have hcz37_2:=c42_ BK376;have hcz37_3:=c43_ BK376;have hfz37_0:=fz_ BK376 0;have hfz37_1:=fz_ BK376 1;have hfz37_2:=fz_ BK376 2;have hfz37_3:=fz_ BK376 3;have hcz38_0:=c40_ BK377;have hcz38_1:=c41_ BK377;have hcz38_2:=c42_ BK377;have hcz38_3:=c43_ BK377;have hfz38_0:=fz_ BK377 0;have hfz38_1:=fz_ BK377 1;have hfz38_2:=fz_ BK377 2;have hfz38_3:=fz_ BK377 3
        go_wp2_with (first | ((with_reducible refine gate_callee (f:=77) rfl ?_);refine gL_ (some 16) Tryd.func77 #[.agg #[.int .i64 a0_0,.int .i64 a0_1,.int .i64 a0_2,.int .i64 a0_3],.agg #[.int .i64 a1_0,.int .i64 a1_1]] (h:=?_);(with_reducible refine (impl_SegHas.calls kj2 a0_0 a0_1 a0_2 a0_3 a1_0 a1_1 false _ A19.out).mono ?_);rintro e w39 ⟨rfl,hb⟩;refine⟨_,rfl,?_⟩;replace BK376:=vb_ BK376 hb;replace BK377:=vb_ BK377 hb;replace HB:=sb_ HB hb;(try clear hb);have hcz40_0:=c40_ BK376;have hcz40_1:=c41_ BK376;have hcz40_2:=c42_ BK376;have hcz40_3:=c43_ BK376;have hfz40_0:=fz_ BK376 0;have hfz40_1:=fz_ BK376 1;have hfz40_2:=fz_ BK376 2;have hfz40_3:=fz_ BK376 3;have hcz41_0:=c40_ BK377;have hcz41_1:=c41_ BK377;have hcz41_2:=c42_ BK377;have hcz41_3:=c43_ BK377;have hfz41_0:=fz_ BK377 0;have hfz41_1:=fz_ BK377 1;have hfz41_2:=fz_ BK377 2;have hfz41_3:=fz_ BK377 3) | (go_at_call 77;(with_reducible refine (impl_SegHas.calls kj2 a0_0 a0_1 a0_2 a0_3 a1_2 a1_3 false _ A25.out).mono ?_);rintro e w42 ⟨rfl,hb⟩;replace BK376:=vb_ BK376 hb;replace BK377:=vb_ BK377 hb;replace HB:=sb_ HB hb;(try clear hb);have hcz43_0:=c40_ BK377;have hcz43_1:=c41_ BK377;have hcz43_2:=c42_ BK377;have hcz43_3:=c43_ BK377;have hfz43_0:=fz_ BK377 0;have hfz43_1:=fz_ BK377 1;have hfz43_2:=fz_ BK377 2;have hfz43_3:=fz_ BK377 3;have hcz44_0:=c40_ BK376;have hcz44_1:=c41_ BK376;have hcz44_2:=c42_ BK376;have hcz44_3:=c43_ BK376;have hfz44_0:=fz_ BK376 0;have hfz44_1:=fz_ BK376 1;have hfz44_2:=fz_ BK376 2;have hfz44_3:=fz_ BK376 3) | (go_at_call 77;(with_reducible refine (impl_SegHas.calls kj2 a1_0 a1_1 a1_2 a1_3 a0_0 a0_1 true _ A34.out).mono ?_);rintro e w45 ⟨rfl,hb⟩;replace BK376:=vb_ BK376 hb;replace BK377:=vb_ BK377 hb;replace HB:=sb_ HB hb;(try clear hb)));go_meet
        case rel=>exact⟨_,(true),(by first | rfl | (simp;done) | (simp [*];done)),H',⟨by have:=HJ2.out;first | omega | exact Nat.le_refl _⟩,⟨uq_⟩,⟨uq_⟩,⟨hB_⟩⟩
       ·
        replace c35:=Bool.eq_false_iff.mpr c35;subst c35;rw [if_neg (show ¬ (false=true) by decide)] at H
        (try dsimp only at H)
        replace H:=Option.bind_eq_some_iff.mp H;obtain⟨t383,A460,H⟩:=H
        (try dsimp only at H)
        have A46:=Aside0.mk A460;clear A460;have H':=Aside0.mk H;clear H;have hnb47:=NB376_377.out;have hnc47:=NB377_376.out;have hcz48_0:=c40_ BK376;have hcz48_1:=c41_ BK376;have hcz48_2:=c42_ BK376;have hcz48_3:=c43_ BK376;have hfz48_0:=fz_ BK376 0;have hfz48_1:=fz_ BK376 1;have hfz48_2:=fz_ BK376 2;have hfz48_3:=fz_ BK376 3;have hcz49_0:=c40_ BK377;have hcz49_1:=c41_ BK377;have hcz49_2:=c42_ BK377;have hcz49_3:=c43_ BK377;have hfz49_0:=fz_ BK377 0;have hfz49_1:=fz_ BK377 1;have hfz49_2:=fz_ BK377 2;have hfz49_3:=fz_ BK377 3
        go_wp2_with (first | ((with_reducible refine gate_callee (f:=77) rfl ?_);refine gL_ (some 16) Tryd.func77 #[.agg #[.int .i64 a0_0,.int .i64 a0_1,.int .i64 a0_2,.int .i64 a0_3],.agg #[.int .i64 a1_0,.int .i64 a1_1]] (h:=?_);(with_reducible refine (impl_SegHas.calls kj2 a0_0 a0_1 a0_2 a0_3 a1_0 a1_1 false _ A19.out).mono ?_);rintro e w50 ⟨rfl,hb⟩;refine⟨_,rfl,?_⟩;replace BK376:=vb_ BK376 hb;replace BK377:=vb_ BK377 hb;replace HB:=sb_ HB hb;(try clear hb);have hcz51_0:=c40_ BK376;have hcz51_1:=c41_ BK376;have hcz51_2:=c42_ BK376;have hcz51_3:=c43_ BK376;have hfz51_0:=fz_ BK376 0;have hfz51_1:=fz_ BK376 1;have hfz51_2:=fz_ BK376 2;have hfz51_3:=fz_ BK376 3;have hcz52_0:=c40_ BK377;have hcz52_1:=c41_ BK377;have hcz52_2:=c42_ BK377;have hcz52_3:=c43_ BK377;have hfz52_0:=fz_ BK377 0;have hfz52_1:=fz_ BK377 1;have hfz52_2:=fz_ BK377 2;have hfz52_3:=fz_ BK377 3) | (go_at_call 77;(with_reducible refine (impl_SegHas.calls kj2 a0_0 a0_1 a0_2 a0_3 a1_2 a1_3 false _ A25.out).mono ?_);rintro e w53 ⟨rfl,hb⟩;replace BK376:=vb_ BK376 hb;replace BK377:=vb_ BK377 hb;replace HB:=sb_ HB hb;(try clear hb);have hcz54_0:=c40_ BK377;have hcz54_1:=c41_ BK377;have hcz54_2:=c42_ BK377;have hcz54_3:=c43_ BK377;have hfz54_0:=fz_ BK377 0;have hfz54_1:=fz_ BK377 1;have hfz54_2:=fz_ BK377 2;have hfz54_3:=fz_ BK377 3;have hcz55_0:=c40_ BK376;have hcz55_1:=c41_ BK376;have hcz55_2:=c42_ BK376;have hcz55_3:=c43_ BK376;have hfz55_0:=fz_ BK376 0;have hfz55_1:=fz_ BK376 1;have hfz55_2:=fz_ BK376 2;have hfz55_3:=fz_ BK376 3) | (go_at_call 77;(with_reducible refine (impl_SegHas.calls kj2 a1_0 a1_1 a1_2 a1_3 a0_0 a0_1 false _ A34.out).mono ?_);rintro e w56 ⟨rfl,hb⟩;replace BK376:=vb_ BK376 hb;replace BK377:=vb_ BK377 hb;replace HB:=sb_ HB hb;(try clear hb);have hcz57_0:=c40_ BK377;have hcz57_1:=c41_ BK377;have hcz57_2:=c42_ BK377;have hcz57_3:=c43_ BK377;have hfz57_0:=fz_ BK377 0;have hfz57_1:=fz_ BK377 1;have hfz57_2:=fz_ BK377 2;have hfz57_3:=fz_ BK377 3;have hcz58_0:=c40_ BK376;have hcz58_1:=c41_ BK376;have hcz58_2:=c42_ BK376;have hcz58_3:=c43_ BK376;have hfz58_0:=fz_ BK376 0;have hfz58_1:=fz_ BK376 1;have hfz58_2:=fz_ BK376 2;have hfz58_3:=fz_ BK376 3) | (go_at_call 77;(with_reducible refine (impl_SegHas.calls kj2 a1_0 a1_1 a1_2 a1_3 a0_2 a0_3 t383 _ A46.out).mono ?_);rintro e w59 ⟨rfl,hb⟩;replace BK376:=vb_ BK376 hb;replace BK377:=vb_ BK377 hb;replace HB:=sb_ HB hb;(try clear hb)))
        go_meet
        case rel=>exact⟨_,(t383),(by first | rfl | (simp;done) | (simp [*];done)),H',⟨by have:=HJ2.out;first | omega | exact Nat.le_refl _⟩,⟨uq_⟩,⟨uq_⟩,⟨hB_⟩⟩
    case rest =>
     clear HC18;obtain⟨kq,x34_17,rfl,HA,HJ17,BK376,BK377,HB⟩:=hcut
     cases kq with
     | zero=>exact absurd HA.out (by simp [impl_SegMeet.j1])
     | succ kj17 =>
      have H:=HA.out;clear HA;simp only [impl_SegMeet.j1] at H;by_cases c60:x34_17=true
      ·
       subst c60;rw [if_pos rfl] at H
       (try dsimp only at H)
       obtain rfl:=Option.some.inj H;go_wp2;go_ret;exact⟨rr_,hB_⟩
      ·
       replace c60:=Bool.eq_false_iff.mpr c60;subst c60;rw [if_neg (show ¬ (false=true) by decide)] at H
       (try dsimp only at H)
       replace H:=Option.bind_eq_some_iff.mp H;obtain⟨t384,A610,H⟩:=H
       (try dsimp only at H)
       have A61:=Aside0.mk A610;clear A610;replace H:=Option.bind_eq_some_iff.mp H;obtain⟨t385,A620,H⟩:=H
       (try dsimp only at H)
       have A62:=Aside0.mk A620;clear A620;by_cases c63:(wrap64 (t384*t385))<0
       ·
        rw [if_pos c63] at H;have c63b0:decide ((wrap64 (t384*t385))<0)=true:=decide_eq_true c63;clear c63;replace H:=Option.bind_eq_some_iff.mp H;obtain⟨t386,A640,H⟩:=H
        (try dsimp only at H)
        have A64:=Aside0.mk A640;clear A640;replace H:=Option.bind_eq_some_iff.mp H;obtain⟨t387,A650,H⟩:=H
        (try dsimp only at H)
        have A65:=Aside0.mk A650;clear A650;obtain rfl:=Option.some.inj H
        try go_wp2
        replace BK376:=a0_ (blk_drew BK376.out);replace BK377:=a0_ (blk_drew BK377.out);replace HB:=a0_ (below_drew1 HB.out);refine start_ (n:=35) (S:=fun w'=>w'.cell? ⟨gb376,0,none⟩=some (.int .i64 a0_0)∧w'.cell? ⟨gb376,1,none⟩=some (.int .i64 a0_1)∧w'.cell? ⟨gb376,2,none⟩=some (.int .i64 a0_2)∧w'.cell? ⟨gb376,3,none⟩=some (.int .i64 a0_3)∧w'.cell? ⟨gb377,0,none⟩=some (.int .i64 a1_0)∧w'.cell? ⟨gb377,1,none⟩=some (.int .i64 a1_1)∧w'.cell? ⟨gb377,2,none⟩=some (.int .i64 a1_2)∧w'.cell? ⟨gb377,3,none⟩=some (.int .i64 a1_3)) (ds:=[]) (Array.replicate 35 false) (by kernel_rfl) rfl rfl ⟨bc_,bc_,bc_,bc_,bc_,bc_,bc_,bc_⟩ (fun hHeld=>?_);refine with_tabW impl_SegMeet.tab5 impl_SegMeet.bits5 (fun HT_ HW_=>?_);generalize wc.drew=w66 at BK376 BK377 HB hHeld ⊢
        refine pu_ HT_ 0 35 (bm 35 1) ?_;refine pu_ HT_ 2 37 (bm 35 5) ?_;refine pu_ HT_ 4 39 (bm 35 21) ?_;refine pu_ HT_ 7 42 (bm 35 149) ?_;refine pu_ HT_ 9 44 (bm 35 661) ?_;refine pu_ HT_ 11 46 (bm 35 2709) ?_;refine ta8_ HT_ HW_ 1 36 (bm 35 2711) hHeld ?_;refine ta8_ HT_ HW_ 3 38 (bm 35 2719) hHeld ?_;refine ta8_ HT_ HW_ 5 40 (bm 35 2751) hHeld ?_;refine ta8_ HT_ HW_ 8 43 (bm 35 3007) hHeld ?_;refine ta8_ HT_ HW_ 10 45 (bm 35 4031) hHeld ?_;refine ta8_ HT_ HW_ 12 47 (bm 35 8127) hHeld ?_;refine one_ (i:=6) (N:=some 41) (bm 35 8191) rfl rfl (one_of HT_.out (by kernel_rfl)) (by decide) (fun K hK=>?_);refine goes_ Tryd.func78 (by kernel_rfl) rfl #[.agg #[.int .i64 a0_0,.int .i64 a0_1],.agg #[.int .i64 a0_2,.int .i64 a0_3],.agg #[.int .i64 a1_0,.int .i64 a1_1]] (by rfl) rfl rfl ma_ ?_
        with_reducible refine (impl_SegTurn.calls kj17 a0_0 a0_1 a0_2 a0_3 a1_0 a1_1 t384 _ A61.out).mono ?_
        rintro e w67 ⟨rfl,hb⟩;refine⟨_,rfl,?_⟩;replace BK376:=vb_ BK376 hb;replace BK377:=vb_ BK377 hb;replace HB:=sb_ HB hb
        (try clear hb)
        (try clear hb2)
        (try clear hk)
        (try clear hi)
        refine hK.out _ _ ⟨bc_,bc_,bc_,bc_,bc_,bc_,bc_,bc_⟩ (fun hHeld=>?_);clear hK K;refine no_ (h:=?_);refine one_ (i:=13) (N:=some 48) (bm 35 16383) rfl rfl (one_of HT_.out (by kernel_rfl)) (by decide) (fun K hK=>?_);refine goes_ Tryd.func78 (by kernel_rfl) rfl #[.agg #[.int .i64 a0_0,.int .i64 a0_1],.agg #[.int .i64 a0_2,.int .i64 a0_3],.agg #[.int .i64 a1_2,.int .i64 a1_3]] (by rfl) rfl rfl ma_ ?_
        with_reducible refine (impl_SegTurn.calls kj17 a0_0 a0_1 a0_2 a0_3 a1_2 a1_3 t385 _ A62.out).mono ?_
        rintro e w68 ⟨rfl,hb⟩;refine⟨_,rfl,?_⟩;replace BK376:=vb_ BK376 hb;replace BK377:=vb_ BK377 hb;replace HB:=sb_ HB hb
        (try clear hb)
        (try clear hb2)
        (try clear hk)
        (try clear hi)
        refine hK.out _ _ ⟨bc_,bc_,bc_,bc_,bc_,bc_,bc_,bc_⟩ (fun hHeld=>?_);clear hK K;refine no_ (h:=?_);refine pu_ HT_ 14 49 (bm 35 32767) ?_;refine pu_ HT_ 15 50 (bm 35 65535) ?_;refine pu_ HT_ 16 51 (bm 35 131071) ?_;refine pu_ HT_ 17 52 (bm 35 262143) ?_;refine pu_ HT_ 19 54 (bm 35 786431) ?_;refine pu_ HT_ 21 56 (bm 35 2883583) ?_;refine pu_ HT_ 24 59 (bm 35 19660799) ?_;refine pu_ HT_ 26 61 (bm 35 86769663) ?_;refine pu_ HT_ 28 63 (bm 35 355205119) ?_;refine ta8_ HT_ HW_ 18 53 (bm 35 355467263) hHeld ?_;refine ta8_ HT_ HW_ 20 55 (bm 35 356515839) hHeld ?_;refine ta8_ HT_ HW_ 22 57 (bm 35 360710143) hHeld ?_;refine ta8_ HT_ HW_ 25 60 (bm 35 394264575) hHeld ?_;refine ta8_ HT_ HW_ 27 62 (bm 35 528482303) hHeld ?_;refine ta8_ HT_ HW_ 29 64 (bm 35 1065353215) hHeld ?_;refine one_ (i:=23) (N:=some 58) (bm 35 1073741823) rfl rfl (one_of HT_.out (by kernel_rfl)) (by decide) (fun K hK=>?_);refine goes_ Tryd.func78 (by kernel_rfl) rfl #[.agg #[.int .i64 a1_0,.int .i64 a1_1],.agg #[.int .i64 a1_2,.int .i64 a1_3],.agg #[.int .i64 a0_0,.int .i64 a0_1]] (by rfl) rfl rfl ma_ ?_
        with_reducible refine (impl_SegTurn.calls kj17 a1_0 a1_1 a1_2 a1_3 a0_0 a0_1 t386 _ A64.out).mono ?_
        rintro e w69 ⟨rfl,hb⟩;refine⟨_,rfl,?_⟩;replace BK376:=vb_ BK376 hb;replace BK377:=vb_ BK377 hb;replace HB:=sb_ HB hb
        (try clear hb)
        (try clear hb2)
        (try clear hk)
        (try clear hi)
        refine hK.out _ _ ⟨bc_,bc_,bc_,bc_,bc_,bc_,bc_,bc_⟩ (fun hHeld=>?_);clear hK K;refine no_ (h:=?_);refine one_ (i:=30) (N:=some 65) (bm 35 2147483647) rfl rfl (one_of HT_.out (by kernel_rfl)) (by decide) (fun K hK=>?_);refine goes_ Tryd.func78 (by kernel_rfl) rfl #[.agg #[.int .i64 a1_0,.int .i64 a1_1],.agg #[.int .i64 a1_2,.int .i64 a1_3],.agg #[.int .i64 a0_2,.int .i64 a0_3]] (by rfl) rfl rfl ma_ ?_
        with_reducible refine (impl_SegTurn.calls kj17 a1_0 a1_1 a1_2 a1_3 a0_2 a0_3 t387 _ A65.out).mono ?_
        rintro e w70 ⟨rfl,hb⟩;refine⟨_,rfl,?_⟩;replace BK376:=vb_ BK376 hb;replace BK377:=vb_ BK377 hb;replace HB:=sb_ HB hb
        (try clear hb)
        (try clear hb2)
        (try clear hk)
        (try clear hi)
        refine hK.out _ _ ⟨bc_,bc_,bc_,bc_,bc_,bc_,bc_,bc_⟩ (fun hHeld=>?_);clear hK K;refine no_ (h:=?_);refine pu_ HT_ 31 66 (bm 35 4294967295) ?_;refine pu_ HT_ 32 67 (bm 35 8589934591) ?_;refine pu_ HT_ 33 68 (bm 35 17179869183) ?_;refine pu_ HT_ 34 4 (bm 35 34359738367) ?_;refine done_ (done_of HT_.out (by kernel_rfl)) ?_
        try go_wp2
        go_ret;exact⟨rr_,hB_⟩
       ·
        rw [if_neg c63] at H;have c63b0:decide ((wrap64 (t384*t385))<0)=false:=decide_eq_false c63;clear c63;obtain rfl:=Option.some.inj H
        try go_wp2
        replace BK376:=a0_ (blk_drew BK376.out);replace BK377:=a0_ (blk_drew BK377.out);replace HB:=a0_ (below_drew1 HB.out);refine start_ (n:=35) (S:=fun w'=>w'.cell? ⟨gb376,0,none⟩=some (.int .i64 a0_0)∧w'.cell? ⟨gb376,1,none⟩=some (.int .i64 a0_1)∧w'.cell? ⟨gb376,2,none⟩=some (.int .i64 a0_2)∧w'.cell? ⟨gb376,3,none⟩=some (.int .i64 a0_3)∧w'.cell? ⟨gb377,0,none⟩=some (.int .i64 a1_0)∧w'.cell? ⟨gb377,1,none⟩=some (.int .i64 a1_1)∧w'.cell? ⟨gb377,2,none⟩=some (.int .i64 a1_2)∧w'.cell? ⟨gb377,3,none⟩=some (.int .i64 a1_3)) (ds:=[]) (Array.replicate 35 false) (by kernel_rfl) rfl rfl ⟨bc_,bc_,bc_,bc_,bc_,bc_,bc_,bc_⟩ (fun hHeld=>?_);refine with_tabW impl_SegMeet.tab5 impl_SegMeet.bits5 (fun HT_ HW_=>?_);generalize wc.drew=w71 at BK376 BK377 HB hHeld ⊢
        refine pu_ HT_ 0 35 (bm 35 1) ?_;refine pu_ HT_ 2 37 (bm 35 5) ?_;refine pu_ HT_ 4 39 (bm 35 21) ?_;refine pu_ HT_ 7 42 (bm 35 149) ?_;refine pu_ HT_ 9 44 (bm 35 661) ?_;refine pu_ HT_ 11 46 (bm 35 2709) ?_;refine ta8_ HT_ HW_ 1 36 (bm 35 2711) hHeld ?_;refine ta8_ HT_ HW_ 3 38 (bm 35 2719) hHeld ?_;refine ta8_ HT_ HW_ 5 40 (bm 35 2751) hHeld ?_;refine ta8_ HT_ HW_ 8 43 (bm 35 3007) hHeld ?_;refine ta8_ HT_ HW_ 10 45 (bm 35 4031) hHeld ?_;refine ta8_ HT_ HW_ 12 47 (bm 35 8127) hHeld ?_;refine one_ (i:=6) (N:=some 41) (bm 35 8191) rfl rfl (one_of HT_.out (by kernel_rfl)) (by decide) (fun K hK=>?_);refine goes_ Tryd.func78 (by kernel_rfl) rfl #[.agg #[.int .i64 a0_0,.int .i64 a0_1],.agg #[.int .i64 a0_2,.int .i64 a0_3],.agg #[.int .i64 a1_0,.int .i64 a1_1]] (by rfl) rfl rfl ma_ ?_
        with_reducible refine (impl_SegTurn.calls kj17 a0_0 a0_1 a0_2 a0_3 a1_0 a1_1 t384 _ A61.out).mono ?_
        rintro e w72 ⟨rfl,hb⟩;refine⟨_,rfl,?_⟩;replace BK376:=vb_ BK376 hb;replace BK377:=vb_ BK377 hb;replace HB:=sb_ HB hb
        (try clear hb)
        (try clear hb2)
        (try clear hk)
        (try clear hi)
        refine hK.out _ _ ⟨bc_,bc_,bc_,bc_,bc_,bc_,bc_,bc_⟩ (fun hHeld=>?_);clear hK K;refine no_ (h:=?_);refine one_ (i:=13) (N:=some 48) (bm 35 16383) rfl rfl (one_of HT_.out (by kernel_rfl)) (by decide) (fun K hK=>?_);refine goes_ Tryd.func78 (by kernel_rfl) rfl #[.agg #[.int .i64 a0_0,.int .i64 a0_1],.agg #[.int .i64 a0_2,.int .i64 a0_3],.agg #[.int .i64 a1_2,.int .i64 a1_3]] (by rfl) rfl rfl ma_ ?_
        with_reducible refine (impl_SegTurn.calls kj17 a0_0 a0_1 a0_2 a0_3 a1_2 a1_3 t385 _ A62.out).mono ?_
        rintro e w73 ⟨rfl,hb⟩;refine⟨_,rfl,?_⟩;replace BK376:=vb_ BK376 hb;replace BK377:=vb_ BK377 hb;replace HB:=sb_ HB hb
        (try clear hb)
        (try clear hb2)
        (try clear hk)
        (try clear hi)
        refine hK.out _ _ ⟨bc_,bc_,bc_,bc_,bc_,bc_,bc_,bc_⟩ (fun hHeld=>?_);clear hK K;refine no_ (h:=?_);refine pu_ HT_ 14 49 (bm 35 32767) ?_;refine pu_ HT_ 15 50 (bm 35 65535) ?_;refine pu_ HT_ 16 51 (bm 35 131071) ?_;refine pz_ HT_ 17 52 (bm 35 262143) ?_;refine pz_ HT_ 18 53 (bm 35 524287) ?_;refine pz_ HT_ 19 54 (bm 35 1048575) ?_;refine pz_ HT_ 20 55 (bm 35 2097151) ?_;refine pz_ HT_ 21 56 (bm 35 4194303) ?_;refine pz_ HT_ 22 57 (bm 35 8388607) ?_;refine pz_ HT_ 23 58 (bm 35 16777215) ?_;refine pz_ HT_ 24 59 (bm 35 33554431) ?_;refine pz_ HT_ 25 60 (bm 35 67108863) ?_;refine pz_ HT_ 26 61 (bm 35 134217727) ?_;refine pz_ HT_ 27 62 (bm 35 268435455) ?_;refine pz_ HT_ 28 63 (bm 35 536870911) ?_;refine pz_ HT_ 29 64 (bm 35 1073741823) ?_;refine pz_ HT_ 30 65 (bm 35 2147483647) ?_;refine pz_ HT_ 31 66 (bm 35 4294967295) ?_;refine pz_ HT_ 32 67 (bm 35 8589934591) ?_;refine pu_ HT_ 33 68 (bm 35 17179869183) ?_;refine pu_ HT_ 34 4 (bm 35 34359738367) ?_;refine done_ (done_of HT_.out (by kernel_rfl)) ?_
        try go_wp2
        go_ret;exact⟨rr_,hB_⟩
def spec_l2Cross.f (a0_0:Int)(a0_1:Int)(a1_0:Int)(a1_1:Int)(a2_0:Int)(a2_1:Int):Option (Int):=some (wrap64 ((wrap64 ((wrap64 (a1_0-a0_0))*(wrap64 (a2_1-a0_1))))-(wrap64 ((wrap64 (a1_1-a0_1))*(wrap64 (a2_0-a0_0))))))
set_option maxHeartbeats 8000000 in
set_option maxRecDepth 100000 in
theorem spec_l2Cross.calls (a0_0:Int)(a0_1:Int)(a1_0:Int)(a1_1:Int)(a2_0:Int)(a2_1:Int)(r:Int)(w:World)(h:spec_l2Cross.f a0_0 a0_1 a1_0 a1_1 a2_0 a2_1=some r):
  Calls Tryd.prog 76 #[.agg #[.int .i64 a0_0,.int .i64 a0_1],.agg #[.int .i64 a1_0,.int .i64 a1_1],.agg #[.int .i64 a2_0,.int .i64 a2_1]] w fun e w'=>e=.returned (.int .i64 r)∧Below w.heap.size w w':=by
 have hu37:=Tryd.underlying37;have HB:=a0_ (Below.refl w.heap.size w);have H:(some (wrap64 ((wrap64 ((wrap64 (a1_0-a0_0))*(wrap64 (a2_1-a0_1))))-(wrap64 ((wrap64 (a1_1-a0_1))*(wrap64 (a2_0-a0_0)))))))=some r:=h;clear h;obtain rfl:=Option.some.inj H;go_enter Tryd.func76,Tryd.ntmps76;go_wp2_with (first | ((with_reducible refine gate_dst (N:=3) rfl ?_);refine bx_ (N:=3) (cs:=#[.int .i64 a0_0,.int .i64 a0_1]) (t:=37) (h:=?_);intro gb138 hg w4 hbox hb;have BK138:=a0_ (hbox);have GW138:=gh_ HB hg;have GE138:=gh_ HB hg;replace HB:=sb_ HB hb;clear hb hbox hg) | ((with_reducible refine gate_dst (N:=4) rfl ?_);refine bx_ (N:=4) (cs:=#[.int .i64 a1_0,.int .i64 a1_1]) (t:=37) (h:=?_);intro gb139 hg w5 hbox hb;have BK139:=a0_ (hbox);have GW139:=gh_ HB hg;have GE139:=gh_ HB hg;have NB138_139:=nl_ BK138 hg;have NB139_138:=nr_ BK138 hg;replace BK138:=vb_ BK138 hb;replace HB:=sb_ HB hb;clear hb hbox hg) | ((with_reducible refine gate_dst (N:=5) rfl ?_);refine bx_ (N:=5) (cs:=#[.int .i64 a2_0,.int .i64 a2_1]) (t:=37) (h:=?_);intro gb140 hg w6 hbox hb;have BK140:=a0_ (hbox);have GW140:=gh_ HB hg;have GE140:=gh_ HB hg;have NB138_140:=nl_ BK138 hg;have NB140_138:=nr_ BK138 hg;have NB139_140:=nl_ BK139 hg;have NB140_139:=nr_ BK139 hg;replace BK138:=vb_ BK138 hb;replace BK139:=vb_ BK139 hb;replace HB:=sb_ HB hb;clear hb hbox hg;have hnb7:=NB139_138.out;have hnc7:=NB138_139.out;have hnb8:=NB139_140.out;have hnc8:=NB140_139.out;have hcz9_0:=c20_ BK139;have hcz9_1:=c21_ BK139;have hfz9_0:=fz_ BK139 0;have hfz9_1:=fz_ BK139 1;have hnb10:=NB138_140.out;have hnc10:=NB140_138.out;have hcz11_0:=c20_ BK138;have hcz11_1:=c21_ BK138;have hfz11_0:=fz_ BK138 0;have hfz11_1:=fz_ BK138 1;have hcz12_0:=c20_ BK140;have hcz12_1:=c21_ BK140;have hfz12_0:=fz_ BK140 0;have hfz12_1:=fz_ BK140 1));go_ret;exact⟨rr_,hB_⟩
def spec_l2Dot.f (a0_0:Int)(a0_1:Int)(a1_0:Int)(a1_1:Int)(a2_0:Int)(a2_1:Int):Option (Int):=some (wrap64 ((wrap64 ((wrap64 (a1_0-a0_0))*(wrap64 (a2_0-a0_0))))+(wrap64 ((wrap64 (a1_1-a0_1))*(wrap64 (a2_1-a0_1))))))
set_option maxHeartbeats 8000000 in
set_option maxRecDepth 100000 in
theorem spec_l2Dot.calls (a0_0:Int)(a0_1:Int)(a1_0:Int)(a1_1:Int)(a2_0:Int)(a2_1:Int)(r:Int)(w:World)(h:spec_l2Dot.f a0_0 a0_1 a1_0 a1_1 a2_0 a2_1=some r):
  Calls Tryd.prog 90 #[.agg #[.int .i64 a0_0,.int .i64 a0_1],.agg #[.int .i64 a1_0,.int .i64 a1_1],.agg #[.int .i64 a2_0,.int .i64 a2_1]] w fun e w'=>e=.returned (.int .i64 r)∧Below w.heap.size w w':=by
 have hu37:=Tryd.underlying37;have HB:=a0_ (Below.refl w.heap.size w);have H:(some (wrap64 ((wrap64 ((wrap64 (a1_0-a0_0))*(wrap64 (a2_0-a0_0))))+(wrap64 ((wrap64 (a1_1-a0_1))*(wrap64 (a2_1-a0_1)))))))=some r:=h;clear h;obtain rfl:=Option.some.inj H;go_enter Tryd.func90,Tryd.ntmps90;go_wp2_with (first | ((with_reducible refine gate_dst (N:=3) rfl ?_);refine bx_ (N:=3) (cs:=#[.int .i64 a0_0,.int .i64 a0_1]) (t:=37) (h:=?_);intro gb141 hg w4 hbox hb;have BK141:=a0_ (hbox);have GW141:=gh_ HB hg;have GE141:=gh_ HB hg;replace HB:=sb_ HB hb;clear hb hbox hg) | ((with_reducible refine gate_dst (N:=4) rfl ?_);refine bx_ (N:=4) (cs:=#[.int .i64 a1_0,.int .i64 a1_1]) (t:=37) (h:=?_);intro gb142 hg w5 hbox hb;have BK142:=a0_ (hbox);have GW142:=gh_ HB hg;have GE142:=gh_ HB hg;have NB141_142:=nl_ BK141 hg;have NB142_141:=nr_ BK141 hg;replace BK141:=vb_ BK141 hb;replace HB:=sb_ HB hb;clear hb hbox hg) | ((with_reducible refine gate_dst (N:=5) rfl ?_);refine bx_ (N:=5) (cs:=#[.int .i64 a2_0,.int .i64 a2_1]) (t:=37) (h:=?_);intro gb143 hg w6 hbox hb;have BK143:=a0_ (hbox);have GW143:=gh_ HB hg;have GE143:=gh_ HB hg;have NB141_143:=nl_ BK141 hg;have NB143_141:=nr_ BK141 hg;have NB142_143:=nl_ BK142 hg;have NB143_142:=nr_ BK142 hg;replace BK141:=vb_ BK141 hb;replace BK142:=vb_ BK142 hb;replace HB:=sb_ HB hb;clear hb hbox hg;have hnb7:=NB142_141.out;have hnc7:=NB141_142.out;have hnb8:=NB142_143.out;have hnc8:=NB143_142.out;have hcz9_0:=c20_ BK142;have hcz9_1:=c21_ BK142;have hfz9_0:=fz_ BK142 0;have hfz9_1:=fz_ BK142 1;have hnb10:=NB141_143.out;have hnc10:=NB143_141.out;have hcz11_0:=c20_ BK141;have hcz11_1:=c21_ BK141;have hfz11_0:=fz_ BK141 0;have hfz11_1:=fz_ BK141 1;have hcz12_0:=c20_ BK143;have hcz12_1:=c21_ BK143;have hfz12_0:=fz_ BK143 0;have hfz12_1:=fz_ BK143 1));go_ret;exact⟨rr_,hB_⟩
def spec_l2Has.f (a0_0:Int)(a0_1:Int)(a0_2:Int)(a0_3:Int)(a1_0:Int)(a1_1:Int):Option (Bool):=(spec_l2Cross.f a0_0 a0_1 a0_2 a0_3 a1_0 a1_1).bind fun t146=>(if t146=0 then ((spec_l2Dot.f a0_0 a0_1 a0_2 a0_3 a1_0 a1_1).bind fun t147=>((spec_l2Dot.f a0_0 a0_1 a0_2 a0_3 a0_2 a0_3).bind fun t148=>((spec_l6In.f t147 0 t148).bind fun t149=>(some t149)))) else (some false))
def spec_l2Has.T1:Bool × List (List Nat × List Nat):=(true,[([],[]),([0],[0]),([],[]),([2],[2]),([],[]),([1,3,4],[1,3,4]),([5],[5]),([6,5],[6]),([7],[7]),([8,7],[7,8]),([7],[7]),([10,7],[7,10]),([7],[7]),([9,11,12,7,7],[7,9,11,12]),([7],[7]),([14,7],[7,14]),([7],[7]),([16,7],[7,16]),([7],[7]),([18,7],[7,18]),([15,17,19,13,7],[7,15,17,19]),([13,20,20,7],[7,13,20]),([7,21],[7,21]),([22,21,0,1,2,3,4,5,6,7,8,9,10,11,12,13,14,15,16,17,18,19,20,21,22],[22])])
def spec_l2Has.B1:List Nat:=[0,1,0,4,0,31,63,127,255,511,255,1279,255,8191,255,16639,255,65791,255,262399,1048575,2097151,4194303,8388607]
theorem spec_l2Has.tab1:rtab .any (opsOf Tryd.f74 1)=spec_l2Has.T1:=by kernel_rfl
theorem spec_l2Has.bits1:waitsOk spec_l2Has.T1.2 spec_l2Has.B1=true:=by kernel_rfl
set_option maxHeartbeats 8000000 in
set_option maxRecDepth 100000 in
theorem spec_l2Has.calls (a0_0:Int)(a0_1:Int)(a0_2:Int)(a0_3:Int)(a1_0:Int)(a1_1:Int)(r:Bool)(w:World)(h:spec_l2Has.f a0_0 a0_1 a0_2 a0_3 a1_0 a1_1=some r):
  Calls Tryd.prog 74 #[.agg #[.int .i64 a0_0,.int .i64 a0_1,.int .i64 a0_2,.int .i64 a0_3],.agg #[.int .i64 a1_0,.int .i64 a1_1]] w fun e w'=>e=.returned (.bool r)∧Below w.heap.size w w':=by
 have hu89:=Tryd.underlying89;have hu37:=Tryd.underlying37;have HB:=a0_ (Below.refl w.heap.size w);have H:((spec_l2Cross.f a0_0 a0_1 a0_2 a0_3 a1_0 a1_1).bind fun t146=>(if t146=0 then ((spec_l2Dot.f a0_0 a0_1 a0_2 a0_3 a1_0 a1_1).bind fun t147=>((spec_l2Dot.f a0_0 a0_1 a0_2 a0_3 a0_2 a0_3).bind fun t148=>((spec_l6In.f t147 0 t148).bind fun t149=>(some t149)))) else (some false)))=some r:=h;clear h;replace H:=Option.bind_eq_some_iff.mp H;obtain⟨t146,A30,H⟩:=H
 (try dsimp only at H)
 have A3:=Aside0.mk A30;clear A30;by_cases c4:t146=0
 ·
  rw [if_pos c4] at H;have c4b0:(t146==0)=true:=beq_iff_eq.mpr c4;have c4b1:(t146 != 0)=false:=bne_eq_false_iff_eq.mpr c4;clear c4;replace H:=Option.bind_eq_some_iff.mp H;obtain⟨t147,A50,H⟩:=H
  (try dsimp only at H)
  have A5:=Aside0.mk A50;clear A50;replace H:=Option.bind_eq_some_iff.mp H;obtain⟨t148,A60,H⟩:=H
  (try dsimp only at H)
  have A6:=Aside0.mk A60;clear A60;replace H:=Option.bind_eq_some_iff.mp H;obtain⟨t149,A70,H⟩:=H
  (try dsimp only at H)
  have A7:=Aside0.mk A70;clear A70;obtain rfl:=Option.some.inj H;go_enter Tryd.func74,Tryd.ntmps74
  try go_wp2_with (first | ((with_reducible refine gate_dst (N:=2) rfl ?_);refine bx_ (N:=2) (cs:=#[.int .i64 a0_0,.int .i64 a0_1,.int .i64 a0_2,.int .i64 a0_3]) (t:=89) (h:=?_);intro gb144 hg w8 hbox hb;have BK144:=a0_ (hbox);have GW144:=gh_ HB hg;have GE144:=gh_ HB hg;replace HB:=sb_ HB hb;clear hb hbox hg) | ((with_reducible refine gate_dst (N:=3) rfl ?_);refine bx_ (N:=3) (cs:=#[.int .i64 a1_0,.int .i64 a1_1]) (t:=37) (h:=?_);intro gb145 hg w9 hbox hb;have BK145:=a0_ (hbox);have GW145:=gh_ HB hg;have GE145:=gh_ HB hg;have NB144_145:=nl_ BK144 hg;have NB145_144:=nr_ BK144 hg;replace BK144:=vb_ BK144 hb;replace HB:=sb_ HB hb;clear hb hbox hg))
  replace BK144:=a0_ (blk_drew BK144.out);replace BK145:=a0_ (blk_drew BK145.out);replace HB:=a0_ (below_drew1 HB.out);refine start_ (n:=24) (S:=fun w'=>w'.cell? ⟨gb144,0,none⟩=some (.int .i64 a0_0)∧w'.cell? ⟨gb144,1,none⟩=some (.int .i64 a0_1)∧w'.cell? ⟨gb144,2,none⟩=some (.int .i64 a0_2)∧w'.cell? ⟨gb144,3,none⟩=some (.int .i64 a0_3)∧w'.cell? ⟨gb145,0,none⟩=some (.int .i64 a1_0)∧w'.cell? ⟨gb145,1,none⟩=some (.int .i64 a1_1)) (ds:=[]) (Array.replicate 24 false) (by kernel_rfl) rfl rfl ⟨bc_,bc_,bc_,bc_,bc_,bc_⟩ (fun hHeld=>?_);refine with_tabW spec_l2Has.tab1 spec_l2Has.bits1 (fun HT_ HW_=>?_);generalize w9.drew=w10 at BK144 BK145 HB hHeld ⊢
  refine pu_ HT_ 0 5 (bm 24 1) ?_;refine pu_ HT_ 2 7 (bm 24 5) ?_;refine ta6_ HT_ HW_ 1 6 (bm 24 7) hHeld ?_;refine ta6_ HT_ HW_ 3 8 (bm 24 15) hHeld ?_;refine ta6_ HT_ HW_ 4 9 (bm 24 31) hHeld ?_;refine one_ (i:=5) (N:=some 10) (bm 24 63) rfl rfl (one_of HT_.out (by kernel_rfl)) (by decide) (fun K hK=>?_);refine goes_ Tryd.func76 (by kernel_rfl) rfl #[.agg #[.int .i64 a0_0,.int .i64 a0_1],.agg #[.int .i64 a0_2,.int .i64 a0_3],.agg #[.int .i64 a1_0,.int .i64 a1_1]] (by rfl) rfl rfl ma_ ?_
  with_reducible refine (spec_l2Cross.calls a0_0 a0_1 a0_2 a0_3 a1_0 a1_1 t146 _ A3.out).mono ?_
  rintro e w11 ⟨rfl,hb⟩;refine⟨_,rfl,?_⟩;replace BK144:=vb_ BK144 hb;replace BK145:=vb_ BK145 hb;replace HB:=sb_ HB hb
  (try clear hb)
  (try clear hb2)
  (try clear hk)
  (try clear hi)
  refine hK.out _ _ ⟨bc_,bc_,bc_,bc_,bc_,bc_⟩ (fun hHeld=>?_);clear hK K;refine no_ (h:=?_);refine pu_ HT_ 6 11 (bm 24 127) ?_;refine pu_ HT_ 7 12 (bm 24 255) ?_;refine pu_ HT_ 8 13 (bm 24 511) ?_;refine pu_ HT_ 10 15 (bm 24 1535) ?_;refine pu_ HT_ 14 19 (bm 24 17919) ?_;refine pu_ HT_ 16 21 (bm 24 83455) ?_;refine pu_ HT_ 18 23 (bm 24 345599) ?_;refine ta6_ HT_ HW_ 9 14 (bm 24 346111) hHeld ?_;refine ta6_ HT_ HW_ 11 16 (bm 24 348159) hHeld ?_;refine ta6_ HT_ HW_ 12 17 (bm 24 352255) hHeld ?_;refine ta6_ HT_ HW_ 15 20 (bm 24 385023) hHeld ?_;refine ta6_ HT_ HW_ 17 22 (bm 24 516095) hHeld ?_;refine ta6_ HT_ HW_ 19 24 (bm 24 1040383) hHeld ?_;refine one_ (i:=13) (N:=some 18) (bm 24 1048575) rfl rfl (one_of HT_.out (by kernel_rfl)) (by decide) (fun K hK=>?_);refine goes_ Tryd.func90 (by kernel_rfl) rfl #[.agg #[.int .i64 a0_0,.int .i64 a0_1],.agg #[.int .i64 a0_2,.int .i64 a0_3],.agg #[.int .i64 a1_0,.int .i64 a1_1]] (by rfl) rfl rfl ma_ ?_
  with_reducible refine (spec_l2Dot.calls a0_0 a0_1 a0_2 a0_3 a1_0 a1_1 t147 _ A5.out).mono ?_
  rintro e w12 ⟨rfl,hb⟩;refine⟨_,rfl,?_⟩;replace BK144:=vb_ BK144 hb;replace BK145:=vb_ BK145 hb;replace HB:=sb_ HB hb
  (try clear hb)
  (try clear hb2)
  (try clear hk)
  (try clear hi)
  refine hK.out _ _ ⟨bc_,bc_,bc_,bc_,bc_,bc_⟩ (fun hHeld=>?_);clear hK K;refine no_ (h:=?_);refine one_ (i:=20) (N:=some 25) (bm 24 2097151) rfl rfl (one_of HT_.out (by kernel_rfl)) (by decide) (fun K hK=>?_);refine goes_ Tryd.func90 (by kernel_rfl) rfl #[.agg #[.int .i64 a0_0,.int .i64 a0_1],.agg #[.int .i64 a0_2,.int .i64 a0_3],.agg #[.int .i64 a0_2,.int .i64 a0_3]] (by rfl) rfl rfl ma_ ?_
  with_reducible refine (spec_l2Dot.calls a0_0 a0_1 a0_2 a0_3 a0_2 a0_3 t148 _ A6.out).mono ?_
  rintro e w13 ⟨rfl,hb⟩;refine⟨_,rfl,?_⟩;replace BK144:=vb_ BK144 hb;replace BK145:=vb_ BK145 hb;replace HB:=sb_ HB hb
  (try clear hb)
  (try clear hb2)
  (try clear hk)
  (try clear hi)
  refine hK.out _ _ ⟨bc_,bc_,bc_,bc_,bc_,bc_⟩ (fun hHeld=>?_);clear hK K;refine no_ (h:=?_);refine one_ (i:=21) (N:=some 26) (bm 24 4194303) rfl rfl (one_of HT_.out (by kernel_rfl)) (by decide) (fun K hK=>?_);refine goes_ Tryd.func52 (by kernel_rfl) rfl #[.int .i64 t147,.int .i64 0,.int .i64 t148] (by rfl) rfl rfl ma_ ?_
  with_reducible refine (spec_l6In.calls t147 0 t148 t149 _ A7.out).mono ?_
  rintro e w' ⟨rfl,⟨nd,rfl⟩⟩;refine⟨_,rfl,?_⟩;refine hK.out _ _ ⟨bc_,bc_,bc_,bc_,bc_,bc_⟩ (fun hHeld=>?_);clear hK K;refine no_ (h:=?_);refine pu_ HT_ 22 27 (bm 24 8388607) ?_;refine pu_ HT_ 23 4 (bm 24 16777215) ?_;refine done_ (done_of HT_.out (by kernel_rfl)) ?_
  try go_wp2
  go_ret;exact⟨rr_,hB_⟩
 ·
  rw [if_neg c4] at H;have c4b0:(t146==0)=false:=beq_eq_false_iff_ne.mpr c4;have c4b1:(t146 != 0)=true:=bne_iff_ne.mpr c4;obtain rfl:=Option.some.inj H;go_enter Tryd.func74,Tryd.ntmps74
  try go_wp2_with (first | ((with_reducible refine gate_dst (N:=2) rfl ?_);refine bx_ (N:=2) (cs:=#[.int .i64 a0_0,.int .i64 a0_1,.int .i64 a0_2,.int .i64 a0_3]) (t:=89) (h:=?_);intro gb144 hg w14 hbox hb;have BK144:=a0_ (hbox);have GW144:=gh_ HB hg;have GE144:=gh_ HB hg;replace HB:=sb_ HB hb;clear hb hbox hg) | ((with_reducible refine gate_dst (N:=3) rfl ?_);refine bx_ (N:=3) (cs:=#[.int .i64 a1_0,.int .i64 a1_1]) (t:=37) (h:=?_);intro gb145 hg w15 hbox hb;have BK145:=a0_ (hbox);have GW145:=gh_ HB hg;have GE145:=gh_ HB hg;have NB144_145:=nl_ BK144 hg;have NB145_144:=nr_ BK144 hg;replace BK144:=vb_ BK144 hb;replace HB:=sb_ HB hb;clear hb hbox hg))
  replace BK144:=a0_ (blk_drew BK144.out);replace BK145:=a0_ (blk_drew BK145.out);replace HB:=a0_ (below_drew1 HB.out);refine start_ (n:=24) (S:=fun w'=>w'.cell? ⟨gb144,0,none⟩=some (.int .i64 a0_0)∧w'.cell? ⟨gb144,1,none⟩=some (.int .i64 a0_1)∧w'.cell? ⟨gb144,2,none⟩=some (.int .i64 a0_2)∧w'.cell? ⟨gb144,3,none⟩=some (.int .i64 a0_3)∧w'.cell? ⟨gb145,0,none⟩=some (.int .i64 a1_0)∧w'.cell? ⟨gb145,1,none⟩=some (.int .i64 a1_1)) (ds:=[]) (Array.replicate 24 false) (by kernel_rfl) rfl rfl ⟨bc_,bc_,bc_,bc_,bc_,bc_⟩ (fun hHeld=>?_);refine with_tabW spec_l2Has.tab1 spec_l2Has.bits1 (fun HT_ HW_=>?_);generalize w15.drew=w16 at BK144 BK145 HB hHeld ⊢
  refine pu_ HT_ 0 5 (bm 24 1) ?_;refine pu_ HT_ 2 7 (bm 24 5) ?_;refine ta6_ HT_ HW_ 1 6 (bm 24 7) hHeld ?_;refine ta6_ HT_ HW_ 3 8 (bm 24 15) hHeld ?_;refine ta6_ HT_ HW_ 4 9 (bm 24 31) hHeld ?_;refine one_ (i:=5) (N:=some 10) (bm 24 63) rfl rfl (one_of HT_.out (by kernel_rfl)) (by decide) (fun K hK=>?_);refine goes_ Tryd.func76 (by kernel_rfl) rfl #[.agg #[.int .i64 a0_0,.int .i64 a0_1],.agg #[.int .i64 a0_2,.int .i64 a0_3],.agg #[.int .i64 a1_0,.int .i64 a1_1]] (by rfl) rfl rfl ma_ ?_
  with_reducible refine (spec_l2Cross.calls a0_0 a0_1 a0_2 a0_3 a1_0 a1_1 t146 _ A3.out).mono ?_
  rintro e w17 ⟨rfl,hb⟩;refine⟨_,rfl,?_⟩;replace BK144:=vb_ BK144 hb;replace BK145:=vb_ BK145 hb;replace HB:=sb_ HB hb
  (try clear hb)
  (try clear hb2)
  (try clear hk)
  (try clear hi)
  refine hK.out _ _ ⟨bc_,bc_,bc_,bc_,bc_,bc_⟩ (fun hHeld=>?_);clear hK K;refine no_ (h:=?_);refine pu_ HT_ 6 11 (bm 24 127) ?_;refine pu_ HT_ 7 12 (bm 24 255) ?_;refine pz_ HT_ 8 13 (bm 24 511) ?_;refine pz_ HT_ 9 14 (bm 24 1023) ?_;refine pz_ HT_ 10 15 (bm 24 2047) ?_;refine pz_ HT_ 11 16 (bm 24 4095) ?_;refine pz_ HT_ 12 17 (bm 24 8191) ?_;refine pz_ HT_ 13 18 (bm 24 16383) ?_;refine pz_ HT_ 14 19 (bm 24 32767) ?_;refine pz_ HT_ 15 20 (bm 24 65535) ?_;refine pz_ HT_ 16 21 (bm 24 131071) ?_;refine pz_ HT_ 17 22 (bm 24 262143) ?_;refine pz_ HT_ 18 23 (bm 24 524287) ?_;refine pz_ HT_ 19 24 (bm 24 1048575) ?_;refine pz_ HT_ 20 25 (bm 24 2097151) ?_;refine pz_ HT_ 21 26 (bm 24 4194303) ?_;refine pu_ HT_ 22 27 (bm 24 8388607) ?_;refine pu_ HT_ 23 4 (bm 24 16777215) ?_;refine done_ (done_of HT_.out (by kernel_rfl)) ?_
  try go_wp2
  go_ret;exact⟨rr_,hB_⟩
def spec_l2Sign.f (a0:Int):Option (Int):=if a0<0 then (some (-1)) else (if a0>0 then (some 1) else (some 0))
set_option maxHeartbeats 8000000 in
set_option maxRecDepth 100000 in
theorem spec_l2Sign.calls (a0:Int)(r:Int)(w:World)(h:spec_l2Sign.f a0=some r):
  Calls Tryd.prog 91 #[.int .i64 a0] w fun e w'=>e=.returned (.int .i64 r)∧Drawn0 w w':=by
 have H:(if a0<0 then (some (-1)) else (if a0>0 then (some 1) else (some 0)))=some r:=h;clear h;by_cases c2:a0<0
 ·
  rw [if_pos c2] at H;have c2b0:decide (a0<0)=true:=decide_eq_true c2;clear c2;obtain rfl:=Option.some.inj H;go_enter Tryd.func91,Tryd.ntmps91;go_wp2;go_ret;exact⟨by first | rfl | (simp;done) | (simp [*];done),by repeat (first | exact Drawn0.refl _ | apply Drawn0.step)⟩
 ·
  rw [if_neg c2] at H;have c2b0:decide (a0<0)=false:=decide_eq_false c2;clear c2;by_cases c3:a0>0
  ·
   rw [if_pos c3] at H;have c3b0:decide (0<a0)=true:=decide_eq_true c3;clear c3;obtain rfl:=Option.some.inj H;go_enter Tryd.func91,Tryd.ntmps91;go_wp2;go_ret;exact⟨by first | rfl | (simp;done) | (simp [*];done),by repeat (first | exact Drawn0.refl _ | apply Drawn0.step)⟩
  ·
   rw [if_neg c3] at H;have c3b0:decide (0<a0)=false:=decide_eq_false c3;clear c3;obtain rfl:=Option.some.inj H;go_enter Tryd.func91,Tryd.ntmps91;go_wp2;go_ret;exact⟨by first | rfl | (simp;done) | (simp [*];done),by repeat (first | exact Drawn0.refl _ | apply Drawn0.step)⟩
end Go.Proofs.YtailkppkjhkjpaaDoor.X
end
section
set_option linter.unusedVariables false
set_option linter.unusedSimpArgs false
namespace Go.Proofs.YtailkppkjhkjpaaDoor.X
open Go.RowKit Go.Proofs.YtailkppkjhkjpaaDoorW.PrintWords Go.Proofs.YtailkppkjhkjpaaDoorW.PrintLast Go.Proofs.YtailkppkjhkjpaaDoorW.PrintMore
open Mort
theorem iPtOk (x y:Int):impl_PtOk.f x y=some (ptOk (x,y)):=by
 unfold impl_PtOk.f ptOk;by_cases h1:0≤x <;> by_cases h2:x≤9 <;> by_cases h3:0≤y <;> by_cases h4:y≤9 <;> simp [h1,h2,h3,h4]
theorem sPtOk (x y:Int):spec_PtOk.f x y=some (ptOk (x,y)):=by
 unfold spec_PtOk.f ptOk;simp only [l6In_told,Option.bind_some];by_cases h1:0≤x <;> by_cases h2:x≤9 <;> by_cases h3:0≤y <;> by_cases h4:y≤9 <;> simp [h1,h2,h3,h4]
theorem iSegOk (a b c d:Int):impl_SegOk.f a b c d=some (segOk ((a,b),(c,d))):=by
 unfold impl_SegOk.f segOk;simp only [iPtOk,Option.bind_some];cases ptOk (a,b) <;> cases ptOk (c,d) <;> simp [Bool.not_and]
theorem sSegOk (a b c d:Int):spec_SegOk.f a b c d=some (segOk ((a,b),(c,d))):=by
 unfold spec_SegOk.f segOk;simp only [sPtOk,Option.bind_some];cases ptOk (a,b) <;> cases ptOk (c,d) <;> simp [Bool.not_and]
section
variable {a b c d e f:Int} (h1:ptOk (a,b)=true) (h2:ptOk (c,d)=true) (h3:ptOk (e,f)=true)
include h1 h2 h3
theorem cross_nowrap:wrap64 ((wrap64 ((wrap64 (c-a))*(wrap64 (f-b))))-(wrap64 ((wrap64 (d-b))*(wrap64 (e-a)))))=cross (a,b) (c,d) (e,f):=by
 rw [ptOk_iff] at h1 h2 h3;simp only at h1 h2 h3;rw [w64 (x:=c-a) (by omega) (by omega),w64 (x:=f-b) (by omega) (by omega),w64 (x:=d-b) (by omega) (by omega),w64 (x:=e-a) (by omega) (by omega)];have b1:=mul_bound (x:=c-a) (y:=f-b) (by omega) (by omega) (by omega) (by omega);have b2:=mul_bound (x:=d-b) (y:=e-a) (by omega) (by omega) (by omega) (by omega);rw [w64 (x:=(c-a)*(f-b)) (by omega) (by omega),w64 (x:=(d-b)*(e-a)) (by omega) (by omega),w64 (by omega) (by omega)];rfl
theorem dot_nowrap:wrap64 ((wrap64 ((wrap64 (c-a))*(wrap64 (e-a))))+(wrap64 ((wrap64 (d-b))*(wrap64 (f-b)))))=dot (a,b) (c,d) (e,f):=by
 rw [ptOk_iff] at h1 h2 h3;simp only at h1 h2 h3;rw [w64 (x:=c-a) (by omega) (by omega),w64 (x:=f-b) (by omega) (by omega),w64 (x:=d-b) (by omega) (by omega),w64 (x:=e-a) (by omega) (by omega)];have b1:=mul_bound (x:=c-a) (y:=e-a) (by omega) (by omega) (by omega) (by omega);have b2:=mul_bound (x:=d-b) (y:=f-b) (by omega) (by omega) (by omega) (by omega);rw [w64 (x:=(c-a)*(e-a)) (by omega) (by omega),w64 (x:=(d-b)*(f-b)) (by omega) (by omega),w64 (by omega) (by omega)];rfl
theorem iCross:impl_cross.f a b c d e f=some (cross (a,b) (c,d) (e,f)):=congrArg some (cross_nowrap h1 h2 h3)
theorem iAlong:impl_along.f a b c d e f=some (dot (a,b) (c,d) (e,f)):=congrArg some (dot_nowrap h1 h2 h3)
theorem sCross:spec_l2Cross.f a b c d e f=some (cross (a,b) (c,d) (e,f)):=congrArg some (cross_nowrap h1 h2 h3)
theorem sDot:spec_l2Dot.f a b c d e f=some (dot (a,b) (c,d) (e,f)):=congrArg some (dot_nowrap h1 h2 h3)
end
theorem iBetween {a b c d:Int}(h1:ptOk (a,b)=true)(h2:ptOk (c,d)=true):impl_between.f a b c d=some (dot (a,b) (c,d) (c,d)):=by
 unfold impl_between.f;rw [iAlong h1 h2 h2];rfl
theorem segOk_ends {a b c d:Int}(h:segOk ((a,b),(c,d))=true):ptOk (a,b)=true∧ptOk (c,d)=true:=⟨((segOk_iff _).1 h).1,((segOk_iff _).1 h).2.1⟩
theorem iSegHas {k:Nat}(hk:1≤k)(a b c d e f:Int):impl_SegHas.f k a b c d e f=some (segHas ((a,b),(c,d)) (e,f)):=by
 obtain⟨k,rfl⟩:∃ m,k=m+1:=⟨k-1,by omega⟩;unfold impl_SegHas.f segHas has;simp only [impl_SegHas.j0,iSegOk,iPtOk,Option.bind_some]
 cases hs:segOk ((a,b),(c,d)) with
 | false=>simp
 | true =>
  cases hp:ptOk (e,f) with
  | false=>simp
  | true =>
   obtain⟨o1,o2⟩:=segOk_ends hs;simp only [if_true,iCross o1 o2 hp,iAlong o1 o2 hp,iBetween o1 o2,Option.bind_some];by_cases z:cross (a,b) (c,d) (e,f)=0
   ·
    simp only [z,bne_self_eq_false,Bool.false_eq_true,if_false,beq_self_eq_true,Bool.true_and];by_cases z1:0≤dot (a,b) (c,d) (e,f)
    ·
     rw [if_pos z1,decide_eq_true z1];rfl
    ·
     rw [if_neg z1,decide_eq_false z1];rfl
   ·
    rw [bne_iff_ne.mpr z,beq_eq_false_iff_ne.mpr z];rfl
theorem iSegTurn {k:Nat}(hk:1≤k)(a b c d e f:Int):impl_SegTurn.f k a b c d e f=some (segTurn (a,b) (c,d) (e,f)):=by
 obtain⟨k,rfl⟩:∃ m,k=m+1:=⟨k-1,by omega⟩;unfold impl_SegTurn.f segTurn;simp only [impl_SegTurn.j0,iPtOk,Option.bind_some]
 cases h1:ptOk (a,b) with
 | false=>simp
 | true =>
  cases h2:ptOk (c,d) with
  | false=>simp
  | true =>
   cases h3:ptOk (e,f) with
   | false=>simp
   | true =>
    simp only [if_true,Bool.not_true,Bool.false_eq_true,if_false,iCross h1 h2 h3,Option.bind_some,Bool.and_self];unfold sgn;by_cases z:cross (a,b) (c,d) (e,f)>0
    ·
     rw [if_pos z,if_neg (by omega),if_pos z]
    ·
     rw [if_neg z];by_cases z':cross (a,b) (c,d) (e,f)<0
     ·
      rw [if_pos z',if_pos z']
     ·
      rw [if_neg z',if_neg z',if_neg z]
theorem sgn_in (n:Int): -1≤sgn n∧sgn n≤1:=by unfold sgn;split <;> (try split) <;> omega
theorem turn_mul (x y:Int):wrap64 (sgn x*sgn y)=sgn x*sgn y:=by
 have h1:=sgn_in x;have h2:=sgn_in y;have h3:=mul_bound (x:=sgn x) (y:=sgn y) (by omega) (by omega) (by omega) (by omega);exact w64 (by omega) (by omega)
theorem iSegMeet {k:Nat}(hk:3≤k)(a b c d e f g h:Int):impl_SegMeet.f k a b c d e f g h=some (segMeet ((a,b),(c,d)) ((e,f),(g,h))):=by
 obtain⟨k,rfl⟩:∃ m,k=m+1+1:=⟨k-2,by omega⟩;unfold impl_SegMeet.f segMeet;simp only [impl_SegMeet.j0,iSegOk,Option.bind_some]
 cases hs:segOk ((a,b),(c,d)) with
 | false=>simp
 | true =>
  cases ht:segOk ((e,f),(g,h)) with
  | false=>simp
  | true =>
   obtain⟨o1,o2⟩:=segOk_ends hs;obtain⟨o3,o4⟩:=segOk_ends ht;simp only [if_true,Bool.not_true,Bool.false_eq_true,if_false,Bool.true_and];simp only [iSegHas (show 1≤k+1 by omega),iSegTurn (show 1≤k by omega),impl_SegMeet.j1,Option.bind_some,if_true];unfold segHas segTurn meet;simp only [hs,ht,o1,o2,o3,o4,Bool.true_and,Bool.and_self,if_true,turn_mul];cases has ((a,b),(c,d)) (e,f) <;> simp
   cases has ((a,b),(c,d)) (g,h) <;> simp
   cases has ((e,f),(g,h)) (a,b) <;> simp
   cases has ((e,f),(g,h)) (c,d) <;> simp
   by_cases z:sgn (cross (a,b) (c,d) (e,f))*sgn (cross (a,b) (c,d) (g,h))<0
   ·
    simp [z]
   ·
    simp [z]
theorem sSign (n:Int):spec_l2Sign.f n=some (sgn n):=by
 unfold spec_l2Sign.f sgn
 split
 ·
  rfl
 ·
  split <;> rfl
theorem sHas {a b c d e f:Int}(h1:ptOk (a,b)=true)(h2:ptOk (c,d)=true)(h3:ptOk (e,f)=true):spec_l2Has.f a b c d e f=some (has ((a,b),(c,d)) (e,f)):=by
 unfold spec_l2Has.f has;simp only [sCross h1 h2 h3,sDot h1 h2 h3,sDot h1 h2 h2,l6In_told,Option.bind_some];by_cases z:cross (a,b) (c,d) (e,f)=0
 ·
  simp [z]
 ·
  rw [if_neg z,beq_eq_false_iff_ne.mpr z];rfl
end Go.Proofs.YtailkppkjhkjpaaDoor.X
end
section
namespace Go.Proofs.YtailkppkjhkjpaaDoor.X
open Go.RowKit Go.Proofs.YtailkppkjhkjpaaDoorW.PrintWords Go.Proofs.YtailkppkjhkjpaaDoorW.PrintLast Go.Proofs.YtailkppkjhkjpaaDoorW.PrintMore
attribute [local go_sem] max2_int min2_int max_two min_two max_three min_three max_four min_four
set_option linter.unusedVariables false
set_option linter.unusedSimpArgs false
def impl_joined.f (k:Nat)(a0_0:Int)(a0_1:Int)(a0_2:Int)(a0_3:Int)(a1_0:Int)(a1_1:Int)(a1_2:Int)(a1_3:Int):Option (Bool):=(impl_SegHas.f k a0_0 a0_1 a0_2 a0_3 a1_2 a1_3).bind fun t367=>(if t367=true then (some false) else ((impl_SegHas.f k a1_0 a1_1 a1_2 a1_3 a0_0 a0_1).bind fun t368=>(some (!t368))))
set_option maxHeartbeats 8000000 in
set_option maxRecDepth 100000 in
theorem impl_joined.calls (k:Nat)(a0_0:Int)(a0_1:Int)(a0_2:Int)(a0_3:Int)(a1_0:Int)(a1_1:Int)(a1_2:Int)(a1_3:Int)(r:Bool)(w:World)(h:impl_joined.f k a0_0 a0_1 a0_2 a0_3 a1_0 a1_1 a1_2 a1_3=some r):
  Calls Tryd.prog 69 #[.agg #[.int .i64 a0_0,.int .i64 a0_1,.int .i64 a0_2,.int .i64 a0_3],.agg #[.int .i64 a1_0,.int .i64 a1_1,.int .i64 a1_2,.int .i64 a1_3]] w fun e w'=>e=.returned (.bool r)∧Below w.heap.size w w':=by
 have hu89:=Tryd.underlying89;have hu37:=Tryd.underlying37;have HB:=a0_ (Below.refl w.heap.size w);have H:((impl_SegHas.f k a0_0 a0_1 a0_2 a0_3 a1_2 a1_3).bind fun t367=>(if t367=true then (some false) else ((impl_SegHas.f k a1_0 a1_1 a1_2 a1_3 a0_0 a0_1).bind fun t368=>(some (!t368)))))=some r:=h;clear h;replace H:=Option.bind_eq_some_iff.mp H;obtain⟨t367,A30,H⟩:=H
 (try dsimp only at H)
 have A3:=Aside0.mk A30;clear A30;by_cases c4:t367=true
 ·
  subst c4;rw [if_pos rfl] at H
  (try dsimp only at H)
  obtain rfl:=Option.some.inj H;go_enter Tryd.func69,Tryd.ntmps69;go_wp2_with (first | ((with_reducible refine gate_dst (N:=2) rfl ?_);refine bx_ (N:=2) (cs:=#[.int .i64 a0_0,.int .i64 a0_1,.int .i64 a0_2,.int .i64 a0_3]) (t:=89) (h:=?_);intro gb365 hg w5 hbox hb;have BK365:=a0_ (hbox);have GW365:=gh_ HB hg;have GE365:=gh_ HB hg;replace HB:=sb_ HB hb;clear hb hbox hg) | ((with_reducible refine gate_dst (N:=3) rfl ?_);refine bx_ (N:=3) (cs:=#[.int .i64 a1_0,.int .i64 a1_1,.int .i64 a1_2,.int .i64 a1_3]) (t:=89) (h:=?_);intro gb366 hg w6 hbox hb;have BK366:=a0_ (hbox);have GW366:=gh_ HB hg;have GE366:=gh_ HB hg;have NB365_366:=nl_ BK365 hg;have NB366_365:=nr_ BK365 hg;replace BK365:=vb_ BK365 hb;replace HB:=sb_ HB hb;clear hb hbox hg;have hnb7:=NB365_366.out;have hnc7:=NB366_365.out;have hcz8_0:=c40_ BK365;have hcz8_1:=c41_ BK365;have hcz8_2:=c42_ BK365;have hcz8_3:=c43_ BK365;have hfz8_0:=fz_ BK365 0;have hfz8_1:=fz_ BK365 1;have hfz8_2:=fz_ BK365 2;have hfz8_3:=fz_ BK365 3;have hcz9_0:=c40_ BK366;have hcz9_1:=c41_ BK366;have hcz9_2:=c42_ BK366;have hcz9_3:=c43_ BK366;have hfz9_0:=fz_ BK366 0;have hfz9_1:=fz_ BK366 1;have hfz9_2:=fz_ BK366 2;have hfz9_3:=fz_ BK366 3) | ((with_reducible refine gate_callee (f:=77) rfl ?_);refine gL_ (some 8) Tryd.func77 #[.agg #[.int .i64 a0_0,.int .i64 a0_1,.int .i64 a0_2,.int .i64 a0_3],.agg #[.int .i64 a1_2,.int .i64 a1_3]] (h:=?_);(with_reducible refine (impl_SegHas.calls k a0_0 a0_1 a0_2 a0_3 a1_2 a1_3 true _ A3.out).mono ?_);rintro e w10 ⟨rfl,hb⟩;refine⟨_,rfl,?_⟩;replace BK365:=vb_ BK365 hb;replace BK366:=vb_ BK366 hb;replace HB:=sb_ HB hb;(try clear hb)));go_ret;exact⟨rr_,hB_⟩
 ·
  replace c4:=Bool.eq_false_iff.mpr c4;subst c4;rw [if_neg (show ¬ (false=true) by decide)] at H
  (try dsimp only at H)
  replace H:=Option.bind_eq_some_iff.mp H;obtain⟨t368,A110,H⟩:=H
  (try dsimp only at H)
  have A11:=Aside0.mk A110;clear A110;obtain rfl:=Option.some.inj H;go_enter Tryd.func69,Tryd.ntmps69
  go_wp2_with (first | ((with_reducible refine gate_dst (N:=2) rfl ?_);refine bx_ (N:=2) (cs:=#[.int .i64 a0_0,.int .i64 a0_1,.int .i64 a0_2,.int .i64 a0_3]) (t:=89) (h:=?_);intro gb365 hg w12 hbox hb;have BK365:=a0_ (hbox);have GW365:=gh_ HB hg;have GE365:=gh_ HB hg;replace HB:=sb_ HB hb;clear hb hbox hg) | ((with_reducible refine gate_dst (N:=3) rfl ?_);refine bx_ (N:=3) (cs:=#[.int .i64 a1_0,.int .i64 a1_1,.int .i64 a1_2,.int .i64 a1_3]) (t:=89) (h:=?_);intro gb366 hg w13 hbox hb;have BK366:=a0_ (hbox);have GW366:=gh_ HB hg;have GE366:=gh_ HB hg;have NB365_366:=nl_ BK365 hg;have NB366_365:=nr_ BK365 hg;replace BK365:=vb_ BK365 hb;replace HB:=sb_ HB hb;clear hb hbox hg;have hnb14:=NB365_366.out;have hnc14:=NB366_365.out;have hcz15_0:=c40_ BK365;have hcz15_1:=c41_ BK365;have hcz15_2:=c42_ BK365;have hcz15_3:=c43_ BK365;have hfz15_0:=fz_ BK365 0;have hfz15_1:=fz_ BK365 1;have hfz15_2:=fz_ BK365 2;have hfz15_3:=fz_ BK365 3;have hcz16_0:=c40_ BK366;have hcz16_1:=c41_ BK366;have hcz16_2:=c42_ BK366;have hcz16_3:=c43_ BK366;have hfz16_0:=fz_ BK366 0;have hfz16_1:=fz_ BK366 1;have hfz16_2:=fz_ BK366 2;have hfz16_3:=fz_ BK366 3) | ((with_reducible refine gate_callee (f:=77) rfl ?_);refine gL_ (some 8) Tryd.func77 #[.agg #[.int .i64 a0_0,.int .i64 a0_1,.int .i64 a0_2,.int .i64 a0_3],.agg #[.int .i64 a1_2,.int .i64 a1_3]] (h:=?_);(with_reducible refine (impl_SegHas.calls k a0_0 a0_1 a0_2 a0_3 a1_2 a1_3 false _ A3.out).mono ?_);rintro e w17 ⟨rfl,hb⟩;refine⟨_,rfl,?_⟩;replace BK365:=vb_ BK365 hb;replace BK366:=vb_ BK366 hb;replace HB:=sb_ HB hb;(try clear hb);have hcz18_0:=c40_ BK366;have hcz18_1:=c41_ BK366;have hcz18_2:=c42_ BK366;have hcz18_3:=c43_ BK366;have hfz18_0:=fz_ BK366 0;have hfz18_1:=fz_ BK366 1;have hfz18_2:=fz_ BK366 2;have hfz18_3:=fz_ BK366 3;have hcz19_0:=c40_ BK365;have hcz19_1:=c41_ BK365;have hcz19_2:=c42_ BK365;have hcz19_3:=c43_ BK365;have hfz19_0:=fz_ BK365 0;have hfz19_1:=fz_ BK365 1;have hfz19_2:=fz_ BK365 2;have hfz19_3:=fz_ BK365 3) | (go_at_call 77;(with_reducible refine (impl_SegHas.calls k a1_0 a1_1 a1_2 a1_3 a0_0 a0_1 t368 _ A11.out).mono ?_);rintro e w20 ⟨rfl,hb⟩;replace BK365:=vb_ BK365 hb;replace BK366:=vb_ BK366 hb;replace HB:=sb_ HB hb;(try clear hb)))
  go_ret;exact⟨rr_,hB_⟩
end Go.Proofs.YtailkppkjhkjpaaDoor.X
end
section
set_option linter.unusedVariables false
set_option linter.unusedSimpArgs false
namespace Go.Proofs.YtailkppkjhkjpaaDoor.X
open Go.RowKit Go.Shelf Go.Proofs.YtailkppkjhkjpaaDoorW.PrintWords Go.Proofs.YtailkppkjhkjpaaDoorW.PrintLast Go.Proofs.YtailkppkjhkjpaaDoorW.PrintMore
open Mort (edges loopOk pairOk ed segOk meet joined ptOk)
attribute [local go_sem] Oper.semAt_some
def mark (D:Nat):Deferred:={ target:=.collected D,args:=#[] }
theorem leavesM_marks {n:Nat}{fn:Func}{tmps:Array Value}{R:Ending→World→Prop}:∀ (Ds:List Nat) (w:World),Ds.Nodup→(∀ D∈Ds,w.heap[D]?=some (.deferred (some []))) →
  (∀ w',(∀ k,k ∉ Ds→w'.heap[k]?=w.heap[k]?)→w'.heap.size=w.heap.size→w'.os=w.os→w'.tape=w.tape→w'.output=w.output→LeavesIn Fence.wide n Tryd.prog fn tmps R [] .returning w') →
  LeavesInM Fence.wide n Tryd.prog fn tmps R (Ds.map mark) .returning w
 | [],w,_,_,h=>h w (fun _ _=>rfl) rfl rfl rfl rfl
 | D::Ds,w,hn,hD,h=>by
  have hK:=hD D List.mem_cons_self;have hlt:D<w.heap.size:=(Array.getElem?_eq_some_iff.1 hK).1;refine⟨by simp,.inl ⟨D,_,rfl,run_takeDeferred hK,?_⟩⟩;rw [List.nodup_cons] at hn;refine leavesM_marks Ds _ hn.2 (fun E hE=>?_) (fun w' h1 h2 h3 h4 h5=>h w' (fun k hk=>?_) ?_ h3 h4 h5)
  ·
   rw [World.putObj_heap_other (by rintro rfl;exact hn.1 hE)];exact hD E (List.mem_cons_of_mem _ hE)
  ·
   rw [h1 k (fun e=>hk (List.mem_cons_of_mem _ e)),World.putObj_heap_other (by rintro rfl;exact hk List.mem_cons_self)]
  ·
   rw [h2];simp [World.putObj]
theorem edges_in (n:Nat)(A:Option Addr)(len c:Nat)(w:World):
  CallsIn Fence.wide n Tryd.prog 59 #[.slice A len c] w fun e w'=>e=.returned (.func (.func 81) #[] #[.pointer (some ⟨w.heap.size,0,none⟩)])∧w'=w.alloc (.cells #[.slice A len c] 23):=by
 refine callsIn_of_wp Tryd.func59 rfl trivial ?_ rfl;simp only [Tryd.ntmps59,List.size_toArray,List.length_cons,List.length_nil,Nat.reduceAdd,Nat.reduceSub,Array.replicate_succ,Array.replicate_zero,List.push_toArray,List.append_toArray,List.nil_append,List.cons_append];gi_wp2;go_ret;exact⟨rfl,rfl⟩
theorem grown_none {A B:World}(h:Below A.heap.size A B):A.grownBy B none:=⟨h.os,h.tape,h.output,h.size,fun k hk _=>h.block k hk⟩
abbrev encE (zs:List S37) (i:Fin zs.length):Array Value:=#[.int .i64 ((i:Nat):Int),edV (edS zs i)]
theorem edges_stops (n:Nat)(hn:1≤n)(Bs n₀:Nat)(A:Option Addr)(c:Nat)(zs:List S37)(hreach:zs.length≤1000000)(hAb:∀ ad,A=some ad→ad.block<n₀)
  (w:World) (hBs:Bs<w.heap.size) (hn₀:n₀≤w.heap.size) (hc:w.cell? ⟨Bs,0,none⟩=some (.slice A zs.length c)) (hC:Kd.C k37 w A zs.length zs) :
  SeqStopsK Fence.wide n Tryd.prog 81 #[.pointer (some ⟨Bs,0,none⟩)] (encE zs) (KpE n₀ Bs) (fun ys=>ys=List.finRange zs.length)
   (fun pre=>∃ k,k≤zs.length∧pre=(List.finRange zs.length).take k) zs.length w:=fun l J Jx W hW hJ _ hY h0=>by
 have take_succ:∀ k (hk:k<zs.length),(List.finRange zs.length).take (k+1)=(List.finRange zs.length).take k++[⟨k,hk⟩]:=fun k hk=>by
  rw [List.take_succ_eq_append_getElem (by simpa using hk)];simp
 refine (edges1_in n hn l Bs n₀ A c zs hreach hAb (fun k W=>J ((List.finRange zs.length).take k) W) (fun k W=>Jx ((List.finRange zs.length).take k) W)
  (fun k X Y hj hb=>hJ _ X Y none hj (grown_none hb) (fun r e=>by cases e)) (fun k X hk hj=>?_) W (Nat.lt_of_lt_of_le hBs hW.size) (Nat.le_trans hn₀ hW.size)
  ((hW.cell (p:=⟨Bs,0,none⟩) hBs).trans hc) (Kd.C_below hC hW) (by simpa using h0)).mono ?_
 ·
  rw [take_succ k hk];exact hY _ ⟨k,hk⟩ X hj (by simp;omega)
 ·
  rintro e W' ⟨he,hj | ⟨k,hk,hj⟩⟩
  ·
   exact⟨he,.inl ⟨_,rfl,by rwa [List.take_of_length_le (by simp)] at hj⟩⟩
  ·
   exact⟨he,.inr ⟨_,⟨k,hk,rfl⟩,hj⟩⟩
theorem blk_own {β:Type}(B:Nat)(o:β→Obj)(hc:∀ s,(o s).isCells=true):Own (fun s W=>W.heap[B]?=some (o s)):=fun s X Y row hs hg hrow =>
 (hg.block B (Array.getElem?_eq_some_iff.1 hs).1 (fun e=>by obtain⟨o',ho,h'⟩:=hrow B e.symm;rw [hs] at ho;cases ho;rw [hc] at h';cases h')).trans hs
def ptP (x:S37):Mort.Pt:=(x.f0,x.f1)
def sgP (x:S89):Mort.Seg:=(ptP x.f0,ptP x.f1)
theorem ptP_getD (zs:List S37)(j:Nat):(zs.map ptP).getD j (0,0)=ptP (zs.getD j z37):=by
 rw [List.getD_eq_getElem?_getD,List.getD_eq_getElem?_getD,List.getElem?_map];cases zs[j]? <;> rfl
theorem ed_edS (zs:List S37)(j:Nat):ed (zs.map ptP) j=sgP (edS zs j):=by
 unfold ed edS sgP;rw [ptP_getD,ptP_getD,List.length_map]
theorem keeps_below {B:Nat}{W W':World}(h:Below W.heap.size W W'):KeepsFrom B W W':=
 ⟨h.size,fun k o _ hk _=>(h.block k (Array.getElem?_eq_some_iff.1 hk).1).trans hk⟩
theorem box_later {W W':World}{B:Nat}{t:TypeId}{v:Value}(h:Boxed W B t v)(hb:Below W.heap.size W W'):Boxed W' B t v:=(hb.block B h.lt).trans h
theorem below_row {n₀:Nat}{w W W':World}(h:Below n₀ w W)(hn:n₀≤w.heap.size)(hb:Below W.heap.size W W'):Below n₀ w W':=h.trans (hb.mono (Nat.le_trans hn h.size))
theorem row_lt {w:World}{A:Option Addr}{zs:List S37}(hC:Kd.C k37 w A zs.length zs)(hz:0<zs.length):∀ ad,A=some ad→ad.block<w.heap.size:=fun ad e=>by
 obtain⟨ad',e',h0,_⟩:=at_pt hC 0 hz;rw [e] at e';cases e';have:=World.block_lt_of_cell? w _ h0
 rwa [blk_add] at this
def segObj (x:S89):Obj:=.cells #[.int .i64 x.f0.f0,.int .i64 x.f0.f1,.int .i64 x.f1.f0,.int .i64 x.f1.f1] 89 (0,0)
theorem segObj_own (B:Nat)(x:S89):Own (fun (_:Unit) W=>W.heap[B]?=some (segObj x)):=blk_own B (fun _=>segObj x) (fun _=>rfl)
theorem blk_later {W w1:World}{D:Nat}{o:Obj}(h:W.heap[D]?=some o)(hb:Below W.heap.size W w1):w1.heap[D]?=some o:=(hb.block D (Array.getElem?_eq_some_iff.1 h).1).trans h
theorem blk_alloc' {W:World}{D:Nat}{o:Obj}(h:W.heap[D]?=some o)(o':Obj):(W.alloc o').heap[D]?=some o:=(Below.heap_alloc W o' D (Array.getElem?_eq_some_iff.1 h).1).trans h
theorem blk_set {W:World}{D:Nat}{o:Obj}(h:W.heap[D]?=some o)(hc:o.isCells=false){B:Nat}{t:TypeId}{v:Value}(hb:Boxed W B t v)(u:Value):(W.setCell ⟨B,0,none⟩ u).heap[D]?=some o:=
 (Below.heap_setCell W ⟨B,0,none⟩ u D (by rintro rfl;have e:=h.symm.trans hb;cases e;cases hc)).trans h
theorem ownFrom_blk {β:Type}{B D:Nat}{o:Obj}(hD:D<B):OwnFrom B (fun (_:β) W=>W.heap[D]?=some o):=fun _ X Y row hs hg hr =>
 (hg.block D (Array.getElem?_eq_some_iff.1 hs).1 (fun e=>by have:=(hr D e.symm).1;omega)).trans hs
theorem ownFrom_kpE {β:Type}{n₀ Bs B:Nat}{w₀:World}(hB:w₀.heap.size≤B):OwnFrom B (fun (_:β) W=>KpE n₀ Bs w₀ W):=fun _ X Y row hs hg hr =>
 ⟨Nat.le_trans hs.1 hg.size,fun k hk hl=>(hg.block k (Nat.lt_of_lt_of_le hl hs.1) (fun e=>by have:=(hr k e.symm).1;omega)).trans (hs.2 k hk hl)⟩
theorem marks_boxed {W w':World}{Ds:List Nat}{B:Nat}{t:TypeId}{v:Value}(h:Boxed W B t v)(hD:∀ D∈Ds,W.heap[D]?=some (.deferred (some [])))(h1:∀ k,k ∉ Ds→w'.heap[k]?=W.heap[k]?):Boxed w' B t v:=
 (h1 B (fun e=>by have:=(hD B e).symm.trans h;cases this)).trans h
theorem marks_below {n₀:Nat}{w W w':World}{Ds:List Nat}(hB:Below n₀ w W)(hD:∀ D∈Ds,n₀≤D)(h1:∀ k,k ∉ Ds→w'.heap[k]?=W.heap[k]?)(h2:w'.heap.size=W.heap.size)(h3:w'.os=W.os)(h4:w'.tape=W.tape)(h5:w'.output=W.output):Below n₀ w w':=
 hB.trans ⟨h3,h4,h5,by omega,fun k hk=>h1 k (fun e=>by have:=hD k e;omega)⟩
theorem below_step_ {W w1 w2:World}(h:Below W.heap.size W w1)(k:Below w1.heap.size w1 w2):Below W.heap.size W w2:=h.trans (k.mono h.size)
theorem box_other {W:World}{B B':Nat}{t:TypeId}{v:Value}(h:Boxed W B t v)(hne:B≠B')(u:Value):Boxed (W.setCell ⟨B',0,none⟩ u) B t v:=Boxed.other h hne u
theorem blk_other {W:World}{D B':Nat}{o:Obj}(h:W.heap[D]?=some o)(hne:D≠B')(u:Value):(W.setCell ⟨B',0,none⟩ u).heap[D]?=some o:=(Below.heap_setCell W ⟨B',0,none⟩ u D hne).trans h
end Go.Proofs.YtailkppkjhkjpaaDoor.X
end
section
set_option linter.unusedVariables false
set_option linter.unusedSimpArgs false
namespace Go.Proofs.YtailkppkjhkjpaaDoor.X
open Go.RowKit Go.Shelf Go.Proofs.YtailkppkjhkjpaaDoorW.PrintWords Go.Proofs.YtailkppkjhkjpaaDoorW.PrintLast Go.Proofs.YtailkppkjhkjpaaDoorW.PrintMore
open Mort (edges segMeet)
attribute [local go_sem] Oper.semAt_some
structure RingAt (W:World) (b:Nat) (A:Option Addr) (c:Nat) (zs:List S37) (nx:Option Addr):Prop where
 pts:W.cell? ⟨b,0,none⟩=some (.slice A zs.length c)
 nxt:W.cell? ⟨b,1,none⟩=some (.pointer nx)
 row:Kd.C k37 W A zs.length zs
 cap:zs.length≤c
theorem RingAt.later {W W':World}{b c:Nat}{A nx:Option Addr}{zs:List S37}(h:RingAt W b A c zs nx)(hb:Below W.heap.size W W'):RingAt W' b A c zs nx:=
 ⟨pw_cell_below hb h.pts,pw_cell_below hb h.nxt,Kd.C_below h.row hb,h.cap⟩
theorem RingAt.alloc {W:World}{b c:Nat}{A nx:Option Addr}{zs:List S37}(h:RingAt W b A c zs nx)(o:Obj):RingAt (W.alloc o) b A c zs nx:=h.later (below_alloc (Below.refl _ W) o)
theorem RingAt.lt {W:World}{b c:Nat}{A nx:Option Addr}{zs:List S37}(h:RingAt W b A c zs nx):b<W.heap.size:=World.block_lt_of_cell? W _ h.pts
def meetsB (zs ys:List S37):Bool:=(List.finRange zs.length).any fun i=>(List.finRange ys.length).any fun j=>segMeet (sgP (edS zs i)) (sgP (edS ys j))
set_option maxHeartbeats 4000000 in
set_option maxRecDepth 100000 in
theorem meets_calls (b1 b2:Nat)(A1 A2 n1 n2:Option Addr)(c1 c2:Nat)(zs ys:List S37)(r:Bool)(w:World)(h1:RingAt w b1 A1 c1 zs n1)(h2:RingAt w b2 A2 c2 ys n2)(hl1:0<zs.length∧zs.length≤8)(hl2:0<ys.length∧ys.length≤8)(h:meetsB zs ys=r):
  Calls Tryd.prog 80 #[.pointer (some ⟨b1,0,none⟩),.pointer (some ⟨b2,0,none⟩)] w fun e w'=>e=.returned (.bool r)∧Below w.heap.size w w':=by
 have hR:=Aside0.mk h;clear h;have hu61:=Tryd.underlying89;obtain⟨p1,_,k1,_⟩:=h1;refine (callsIn_wide (n:=9)).1 ?_;refine callsIn_of_wp_marks Tryd.func80 rfl trivial ?_ rfl;simp only [Tryd.ntmps80,List.size_toArray,List.length_cons,List.length_nil,Nat.reduceAdd,Nat.reduceSub,Array.replicate_succ,Array.replicate_zero,List.push_toArray,List.append_toArray,List.nil_append,List.cons_append];have hAb1:=row_lt k1 hl1.1;have hAb2:=row_lt h2.row hl2.1;have q1:((w.alloc (.cells #[.pointer (some ⟨b2,0,none⟩)] 53)).alloc (.cells #[.bool false] 4)).cell? ⟨b1,0,none⟩=some (.slice A1 zs.length c1):=pw_cell_below (below_alloc (below_alloc (Below.refl _ w) _) _) p1;gi_wp2_with (refine⟨trivial,?_⟩;gi_at_call 59;refine (edges_in _ _ _ _ _).mono ?_;rintro e w' ⟨rfl,rfl⟩);have bO:=((Boxed.new w 53 (.pointer (some ⟨b2,0,none⟩))).alloc (.cells #[.bool false] 4)).alloc (.cells #[.slice A1 zs.length c1] 23);have bR:=(Boxed.new (w.alloc (.cells #[.pointer (some ⟨b2,0,none⟩)] 53)) 4 (.bool false)).alloc (.cells #[.slice A1 zs.length c1] 23);have bC:=Boxed.new ((w.alloc (.cells #[.pointer (some ⟨b2,0,none⟩)] 53)).alloc (.cells #[.bool false] 4)) 23 (.slice A1 zs.length c1);simp only [World.size_alloc] at bR bC;have hB0:Below w.heap.size w (((w.alloc (.cells #[.pointer (some ⟨b2,0,none⟩)] 53)).alloc (.cells #[.bool false] 4)).alloc (.cells #[.slice A1 zs.length c1] 23)):=below_alloc (below_alloc (below_alloc (Below.refl _ w) _) _) _;have hsz:(((w.alloc (.cells #[.pointer (some ⟨b2,0,none⟩)] 53)).alloc (.cells #[.bool false] 4)).alloc (.cells #[.slice A1 zs.length c1] 23)).heap.size=w.heap.size+3:=by simp
 obtain⟨W0,hW0⟩:∃ W0,((w.alloc (.cells #[.pointer (some ⟨b2,0,none⟩)] 53)).alloc (.cells #[.bool false] 4)).alloc (.cells #[.slice A1 zs.length c1] 23)=W0:=⟨_,rfl⟩;rw [hW0] at bO bR bC hB0 hsz ⊢
 clear hW0 q1;refine wpIn_rangeFunc_ownH rfl (by omega) (gf:=81) (lb:=#[.pointer (some ⟨w.heap.size+1+1,0,none⟩)]) rfl trivial (enters_of Tryd.func81 (by kernel_rfl) rfl)
  (edges_stops 8 (by omega) (w.heap.size+1+1) w.heap.size A1 c1 zs (by omega) hAb1 W0 (by omega) (by omega) bC.cell (Kd.C_below k1 hB0)) (fun h k=>KpE.trans h k) (fun W l o o' hl _ _ _=>KpE.putObj W l o' (by omega) (by omega)) (Below.refl _ _) (fun _=>rfl)
  (fun pre W=>(((∀ x∈pre,∀ y:Fin ys.length,segMeet (sgP (edS zs (x:Fin zs.length))) (sgP (edS ys y))=false)∧Boxed W (w.heap.size+1) 4 (.bool false))∧Boxed W w.heap.size 53 (.pointer (some ⟨b2,0,none⟩)))∧Below w.heap.size w W)
  (fun c pre W=>((c=.ret∧∃ (x:Fin zs.length) (y:Fin ys.length),segMeet (sgP (edS zs x)) (sgP (edS ys y))=true)∧Boxed W (w.heap.size+1) 4 (.bool true))∧Below w.heap.size w W)
  (OwnFrom.and (OwnFrom.and (OwnFrom.and (ownFrom_pure _ _) (Own.from (boxed_own _ _ _) _)) (Own.from (boxed_own _ _ _) _)) (ownFrom_below (Nat.le_refl _) (by omega)))
  (fun c=>OwnFrom.and (OwnFrom.and (ownFrom_pure _ _) (Own.from (boxed_own _ _ _) _)) (ownFrom_below (Nat.le_refl _) (by omega)))
  ⟨⟨⟨by simp,bR⟩,bO⟩,hB0⟩
  (fun x a' W=>∃ Bx,W.heap[Bx]?=some (segObj (edS zs x))∧a'={ tmps:=#[.pointer (some ⟨b1,0,none⟩),.pointer (some ⟨b2,0,none⟩),undef,.pointer (some ⟨w.heap.size,0,none⟩),.pointer (some ⟨w.heap.size+1,0,none⟩),undef,.pointer (some ⟨Bx,0,none⟩),undef,undef,.pointer (some ⟨b1,0,none⟩),.pointer (some ⟨b1,0,none⟩),.pointer (some ⟨b1,0,none⟩),.slice A1 zs.length c1,.func (.func 81) #[] #[.pointer (some ⟨w.heap.size+1+1,0,none⟩)],.int .i64 ((x:Nat):Int),.agg #[.int .i64 (edS zs x).f0.f0,.int .i64 (edS zs x).f0.f1,.int .i64 (edS zs x).f1.f0,.int .i64 (edS zs x).f1.f1],undef,undef,undef,undef,undef,undef,undef,undef,undef,undef],defers:=[] })
  (fun x a' _ X Y row hs hg hr=>by obtain⟨Bx,e2,e3⟩:=hs;exact⟨Bx,segObj_own Bx (edS zs x) () X Y row e2 hg (fun r e=>(hr r e).2),e3⟩)
  ?assign ?body ?done ?stop
 case assign =>
  rintro l pre x W K ⟨⟨⟨hq,bR1⟩,bO1⟩,hB1⟩ hK;have hBs:=hB1.size;dsimp only [encE,edV];gi_wp2;exact hK _ _ ((KeepsOthers.alloc _ _).from _) (KpE.alloc _ _ _ _) ⟨⟨⟨hq,bR1.alloc _⟩,bO1.alloc _⟩,below_alloc hB1 _⟩ ⟨W.heap.size,World.alloc_heap_new W _,rfl⟩
 case body =>
  rintro l pre x a' W hl ⟨rr,hrr⟩ ⟨⟨⟨hq,bR1⟩,bO1⟩,hB1⟩ ⟨Bx,bX,rfl⟩ hlt;have hO:=h2.later hB1;have cO:=bO1.cell;have p2:=hO.pts;gi_wp2_with (refine⟨trivial,?_⟩;gi_at_call 59;refine (CallsIn.inRound l (edges_in _ _ _ _ _)).mono ?_;rintro e w' ⟨rfl,rfl⟩);clear cO p2;have bN:=Boxed.new W 23 (.slice A2 ys.length c2);have hr':(W.alloc (.cells #[.slice A2 ys.length c2] 23)).heap[l]?=some (.loop rr):=blk_alloc' hrr _;have bR2:=bR1.alloc (.cells #[.slice A2 ys.length c2] 23);have bO2:=bO1.alloc (.cells #[.slice A2 ys.length c2] 23);have bX2:=blk_alloc' bX (.cells #[.slice A2 ys.length c2] 23);have hB2:=below_alloc hB1 (.cells #[.slice A2 ys.length c2] 23);have hE2:=KpE.alloc w.heap.size (w.heap.size+1+1) W (.cells #[.slice A2 ys.length c2] 23);have hF2:=(KeepsOthers.alloc W (.cells #[.slice A2 ys.length c2] 23)).from W0.heap.size;have hsz3:(W.alloc (.cells #[.slice A2 ys.length c2] 23)).heap.size=W.heap.size+1:=by simp
  have hBW:=hB1.size;have hRW:=bR1.lt;obtain⟨W3,hW3⟩:∃ W3,W.alloc (.cells #[.slice A2 ys.length c2] 23)=W3:=⟨_,rfl⟩;rw [hW3] at bN hr' bR2 bO2 bX2 hB2 hE2 hF2 hsz3 ⊢
  clear hW3;obtain⟨Bc,hBc⟩:∃ Bc,W.heap.size=Bc:=⟨_,rfl⟩;rw [hBc] at bN ⊢
  refine wpIn_rangeFunc_ownN (l₀:=l) (r₀:=rr) rfl hr' (by omega) (gf:=81) (lb:=#[.pointer (some ⟨Bc,0,none⟩)]) rfl trivial (enters_of Tryd.func81 (by kernel_rfl) rfl)
   ((edges_stops 6 (by omega) Bc w.heap.size A2 c2 ys (by omega) hAb2 W3 (by omega) (by omega) bN.cell (Kd.C_below h2.row hB2)).inRound l) (fun h k=>KpE.trans h k) (fun W l o o' hl _ _ _=>KpE.putObj W l o' (by omega) (by omega)) (Below.refl _ _) (fun _=>rfl)
   (fun pre' W'=>((((∀ y∈pre',segMeet (sgP (edS zs x)) (sgP (edS ys (y:Fin ys.length)))=false)∧Boxed W' (w.heap.size+1) 4 (.bool false))∧Boxed W' w.heap.size 53 (.pointer (some ⟨b2,0,none⟩)))∧W'.heap[Bx]?=some (segObj (edS zs x)))∧(Below w.heap.size w W'∧KpE w.heap.size (w.heap.size+1+1) W W')∧KeepsFrom W0.heap.size W W')
   (fun c pre' W'=>((c=.ret∧∃ y:Fin ys.length,segMeet (sgP (edS zs x)) (sgP (edS ys y))=true)∧Boxed W' (w.heap.size+1) 4 (.bool true))∧Below w.heap.size w W'∧KeepsFrom W0.heap.size W W')
   (OwnFrom.and (OwnFrom.and (OwnFrom.and (OwnFrom.and (ownFrom_pure _ _) (Own.from (boxed_own _ _ _) _)) (Own.from (boxed_own _ _ _) _)) (Own.from (blk_own _ (fun _=>segObj (edS zs x)) (fun _=>rfl)) _)) (OwnFrom.and (OwnFrom.and (ownFrom_below (Nat.le_refl _) (by omega)) (ownFrom_kpE (by omega))) (ownFrom_keepsFrom (by omega))))
   (fun c=>OwnFrom.and (OwnFrom.and (ownFrom_pure _ _) (Own.from (boxed_own _ _ _) _)) (OwnFrom.and (ownFrom_below (Nat.le_refl _) (by omega)) (ownFrom_keepsFrom (by omega))))
   ⟨⟨⟨⟨by simp,bR2⟩,bO2⟩,bX2⟩,⟨hB2,hE2⟩,hF2⟩
   (fun y a'' W'=>∃ Bt,W'.heap[Bt]?=some (segObj (edS ys y))∧a''={ tmps:=#[.pointer (some ⟨b1,0,none⟩),.pointer (some ⟨b2,0,none⟩),undef,.pointer (some ⟨w.heap.size,0,none⟩),.pointer (some ⟨w.heap.size+1,0,none⟩),undef,.pointer (some ⟨Bx,0,none⟩),undef,.pointer (some ⟨Bt,0,none⟩),.pointer (some ⟨b1,0,none⟩),.pointer (some ⟨b1,0,none⟩),.pointer (some ⟨b1,0,none⟩),.slice A1 zs.length c1,.func (.func 81) #[] #[.pointer (some ⟨w.heap.size+1+1,0,none⟩)],.int .i64 ((x:Nat):Int),.agg #[.int .i64 (edS zs x).f0.f0,.int .i64 (edS zs x).f0.f1,.int .i64 (edS zs x).f1.f0,.int .i64 (edS zs x).f1.f1],.pointer (some ⟨b2,0,none⟩),.pointer (some ⟨b2,0,none⟩),.pointer (some ⟨b2,0,none⟩),.slice A2 ys.length c2,.func (.func 81) #[] #[.pointer (some ⟨Bc,0,none⟩)],.int .i64 ((y:Nat):Int),.agg #[.int .i64 (edS ys y).f0.f0,.int .i64 (edS ys y).f0.f1,.int .i64 (edS ys y).f1.f0,.int .i64 (edS ys y).f1.f1],undef,undef,undef],defers:=[] })
   (fun y a'' _ X Y row hs hg hr=>by obtain⟨Bt,e2,e3⟩:=hs;exact⟨Bt,segObj_own Bt (edS ys y) () X Y row e2 hg (fun r e=>(hr r e).2),e3⟩)
   ?assign2 ?body2 ?done2 ?stop2
  case assign2 =>
   rintro l2 pre' y W' K ⟨⟨⟨⟨hq2,bR⟩,bO⟩,bX⟩,⟨hB,hE⟩,hF⟩ hKK;dsimp only [encE,edV];gi_wp2;exact hKK _ _ ((KeepsOthers.alloc _ _).from _) (KpE.alloc _ _ _ _) ⟨⟨⟨⟨hq2,bR.alloc _⟩,bO.alloc _⟩,blk_alloc' bX _⟩,⟨below_alloc hB _,hE.trans (KpE.alloc _ _ _ _)⟩,hF.trans ((KeepsOthers.alloc _ _).from _)⟩ ⟨W'.heap.size,World.alloc_heap_new W' _,rfl⟩
  case body2 =>
   rintro l2 pre' y a'' W' _ _ ⟨⟨⟨⟨hq2,bR⟩,bO⟩,bX⟩,⟨hB,hE⟩,hF⟩ ⟨Bt,bT,rfl⟩ _;have cX0:W'.cell? ⟨Bx,0,none⟩=some (.int .i64 (edS zs x).f0.f0):=(blk_cell bX 0).trans rfl;have cX1:W'.cell? ⟨Bx,1,none⟩=some (.int .i64 (edS zs x).f0.f1):=(blk_cell bX 1).trans rfl;have cX2:W'.cell? ⟨Bx,2,none⟩=some (.int .i64 (edS zs x).f1.f0):=(blk_cell bX 2).trans rfl;have cX3:W'.cell? ⟨Bx,3,none⟩=some (.int .i64 (edS zs x).f1.f1):=(blk_cell bX 3).trans rfl;have cT0:W'.cell? ⟨Bt,0,none⟩=some (.int .i64 (edS ys y).f0.f0):=(blk_cell bT 0).trans rfl;have cT1:W'.cell? ⟨Bt,1,none⟩=some (.int .i64 (edS ys y).f0.f1):=(blk_cell bT 1).trans rfl;have cT2:W'.cell? ⟨Bt,2,none⟩=some (.int .i64 (edS ys y).f1.f0):=(blk_cell bT 2).trans rfl;have cT3:W'.cell? ⟨Bt,3,none⟩=some (.int .i64 (edS ys y).f1.f1):=(blk_cell bT 3).trans rfl;have HJ:=iSegMeet (k:=3) (by omega) (edS zs x).f0.f0 (edS zs x).f0.f1 (edS zs x).f1.f0 (edS zs x).f1.f1 (edS ys y).f0.f0 (edS ys y).f0.f1 (edS ys y).f1.f0 (edS ys y).f1.f1
   cases hb:segMeet (sgP (edS zs x)) (sgP (edS ys y)) with
   | false =>
    replace HJ:=HJ.trans (congrArg some hb);gi_wp2_with (refine⟨trivial,?_⟩;gi_at_call 70;refine (CallsIn.inRound l2 (callsIn_wide.2 (impl_SegMeet.calls 3 _ _ _ _ _ _ _ _ false _ HJ))).mono ?_;rintro e w1 ⟨rfl,hb1⟩);exact⟨keeps_below hb1,KpE.below hb1,⟨⟨⟨fun z hz=>(List.mem_append.1 hz).elim (hq2 z) (fun e=>by simp at e;subst e;exact hb),box_later bR hb1⟩,box_later bO hb1⟩,blk_later bX hb1⟩,⟨below_row hB (Nat.le_refl _) hb1,hE.trans (KpE.below hb1)⟩,hF.trans (keeps_below hb1)⟩
   | true =>
    replace HJ:=HJ.trans (congrArg some hb);gi_wp2_with (refine⟨trivial,?_⟩;gi_at_call 70;refine (CallsIn.inRound l2 (callsIn_wide.2 (impl_SegMeet.calls 3 _ _ _ _ _ _ _ _ true _ HJ))).mono ?_;rintro e w1 ⟨rfl,hb1⟩;have cR1:=(box_later bR hb1).cell;have fR1:=(box_later bR hb1).frozen);exact⟨(keeps_below hb1).trans ((KeepsOthers.setCell _ _ _).from _),⟨⟨rfl,y,hb⟩,(box_later bR hb1).set _⟩,(below_row hB (Nat.le_refl _) hb1).setCell (p:=⟨w.heap.size+1,0,none⟩) (by simp) _,(hF.trans (keeps_below hb1)).trans ((KeepsOthers.setCell _ _ _).from _)⟩
  case done2 =>
   rintro ys' W' rfl ⟨⟨⟨⟨hq2,bR⟩,bO⟩,bX⟩,⟨hB,hE⟩,hF⟩;gi_wp2;exact⟨hF,hE,⟨⟨fun z hz y=>(List.mem_append.1 hz).elim (fun hm=>hq z hm y) (fun e=>by simp at e;subst e;exact hq2 y (List.mem_finRange _)),bR⟩,bO⟩,hB⟩
  case stop2 =>
   rintro c pre' W' hpre ⟨⟨⟨rfl,y,hy⟩,bR⟩,hB,hF⟩;gi_wp2;exact⟨hF,⟨⟨rfl,x,y,hy⟩,bR⟩,hB⟩
 case stop =>
  rintro D c pre W hD _ ⟨⟨⟨rfl,x,y,hs⟩,bR1⟩,hB1⟩ hK;obtain rfl:r=true:=by
   rw [← hR.out];unfold meetsB;rw [List.any_eq_true];exact⟨x,List.mem_finRange _,List.any_eq_true.2 ⟨y,List.mem_finRange _,hs⟩⟩
  gi_wp2;have hD1:∀ E∈[D],W.heap[E]?=some (.deferred (some [])):=by simpa using hK
  refine leavesM_marks [D] W (by simp) hD1 (fun w' h1 h2 h3 h4 h5=>?_);have hc5:=(marks_boxed bR1 hD1 h1).cell;refine⟨.bool true,?_,rfl,marks_below hB1 (by simp;omega) h1 h2 h3 h4 h5⟩;simp [results,Tryd.f80,go_sem,hc5]
 case done =>
  rintro D ys' W hD rfl ⟨⟨⟨hq,bR1⟩,bO1⟩,hB1⟩ hK;obtain rfl:r=false:=by
   rw [← hR.out];unfold meetsB;rw [List.any_eq_false];intro x _;rw [Bool.not_eq_true,List.any_eq_false];intro y _;rw [Bool.not_eq_true];exact hq x (List.mem_finRange _) y
  have cR:=bR1.cell;have fR:=bR1.frozen;gi_wp2;have hD1:∀ E∈[D],(W.setCell ⟨w.heap.size+1,0,none⟩ (.bool false)).heap[E]?=some (.deferred (some [])):=by
   intro E hE;simp at hE;subst hE;exact blk_set hK rfl bR1 _
  refine leavesM_marks [D] _ (by simp) hD1 (fun w' h1 h2 h3 h4 h5=>?_);have hc5:=(marks_boxed (bR1.set (.bool false)) hD1 h1).cell;refine⟨.bool false,?_,rfl,marks_below (hB1.setCell (p:=⟨w.heap.size+1,0,none⟩) (by simp) _) (by simp;omega) h1 h2 h3 h4 h5⟩;simp [results,Tryd.f80,go_sem,hc5]
end Go.Proofs.YtailkppkjhkjpaaDoor.X
end
section
set_option linter.unusedVariables false
namespace Mort
def crsI (e:Seg)(p:Pt):Bool:=
 (decide (e.1.2≤p.2) && (decide (p.2<e.2.2) && decide (0<cross e.1 e.2 p))) || (decide (e.2.2≤p.2) && (decide (p.2<e.1.2) && decide (cross e.1 e.2 p<0)))
theorem rc_cast (a b p:Pt):rc a.1 a.2 b.1 b.2 p.1 p.2=((cross a b p:Int):Rat):=by
 rw [cast_cross];rfl
theorem crsI_eq (e:Seg)(p:Pt):crsQ e.1.1 e.1.2 e.2.1 e.2.2 p.1 p.2=crsI e p:=by
 unfold crsQ crsI;rw [rc_cast e.1 e.2 p];have h1:decide ((e.1.2:Rat)≤(p.2:Rat))=decide (e.1.2≤p.2):=by rw [decide_eq_decide];exact cast_le
 have h2:decide ((p.2:Rat)<(e.2.2:Rat))=decide (p.2<e.2.2):=by rw [decide_eq_decide];exact cast_lt
 have h3:decide ((e.2.2:Rat)≤(p.2:Rat))=decide (e.2.2≤p.2):=by rw [decide_eq_decide];exact cast_le
 have h4:decide ((p.2:Rat)<(e.1.2:Rat))=decide (p.2<e.1.2):=by rw [decide_eq_decide];exact cast_lt
 have h5:decide (0<((cross e.1 e.2 p:Int):Rat))=decide (0<cross e.1 e.2 p):=by
  rw [decide_eq_decide];have:=@cast_lt 0 (cross e.1 e.2 p);simpa using this
 have h6:decide (((cross e.1 e.2 p:Int):Rat)<0)=decide (cross e.1 e.2 p<0):=by
  rw [decide_eq_decide];have:=@cast_lt (cross e.1 e.2 p) 0;simpa using this
 rw [h1,h2,h3,h4,h5,h6]
def sideOf (b:Bool):Int:=if b then 1 else -1
def inRun (es:List Seg)(p:Pt):Int:=sideOf (xorAll (es.map fun e=>crsI e p))
theorem inRun_snoc (es:List Seg)(e:Seg)(p:Pt):inRun (es++[e]) p=if crsI e p then-inRun es p else inRun es p:=by
 unfold inRun sideOf;rw [List.map_append,xorAll_append];cases xorAll (es.map fun e=>crsI e p) <;> cases h:crsI e p <;> simp [xorAll,h]
theorem inRun_end {l:List Pt}{p:Pt}(h:∀ e∈edges l,has e p=false):inRun (edges l) p=inOf l p:=by
 unfold inOf inRun sideOf par;rw [(onB_false l p).2 h];have:((edges l).map fun e=>crsQ e.1.1 e.1.2 e.2.1 e.2.2 p.1 p.2)=(edges l).map fun e=>crsI e p:=List.map_congr_left fun e _=>crsI_eq e p
 rw [this];cases xorAll ((edges l).map fun e=>crsI e p) <;> rfl
theorem inOf_on {l:List Pt}{p:Pt}{e:Seg}(he:e∈edges l)(h:has e p=true):inOf l p=0:=(inOf_zero l p).2 ((onB_iff l p).2 ⟨e,he,h⟩)
theorem edges_eq (l:List Pt):edges l=(List.range l.length).map (ed l):=by
 apply List.ext_getElem?;intro i;by_cases h:i<l.length
 ·
  rw [edges_getElem? l i h];simp [h]
 ·
  rw [List.getElem?_eq_none (by rw [edges_length];omega),List.getElem?_eq_none (by simp;omega)]
end Mort
end
section
set_option linter.unusedVariables false
set_option linter.unusedSimpArgs false
namespace Go.Proofs.YtailkppkjhkjpaaDoor.X
open Go.RowKit Go.Shelf Go.Proofs.YtailkppkjhkjpaaDoorW.PrintWords Go.Proofs.YtailkppkjhkjpaaDoorW.PrintLast Go.Proofs.YtailkppkjhkjpaaDoorW.PrintMore
open Mort (edges loopOk ed segOk ptOk segHas inOf inRun crsI segTurn cross)
attribute [local go_sem] Oper.semAt_some
def impl_insideOf.f (l0:List S37)(a1_0 a1_1:Int):Option Int:=if loopOk (l0.map ptP)=true∧ptOk (a1_0,a1_1)=true then some (inOf (l0.map ptP) (a1_0,a1_1)) else none
def preE (l0:List S37)(pre:List (Fin l0.length)):List Mort.Seg:=pre.map fun (i:Fin l0.length)=>sgP (edS l0 (i:Nat))
theorem preE_snoc (l0:List S37)(pre:List (Fin l0.length))(x:Fin l0.length):preE l0 (pre++[x])=preE l0 pre++[sgP (edS l0 x)]:=by simp [preE]
theorem preE_all (l0:List S37):preE l0 (List.finRange l0.length)=edges (l0.map ptP):=by
 rw [Mort.edges_eq];unfold preE;apply List.ext_getElem
 ·
  simp
 ·
  intro i h1 h2;simp [ed_edS]
set_option maxHeartbeats 4000000 in
set_option maxRecDepth 100000 in
theorem impl_insideOf.calls (A0:Option Addr)(c0:Nat)(l0:List S37)(a1_0 a1_1:Int)(r:Int)(w:World)(hr0:Kd.C k37 w A0 l0.length l0)(hc0:l0.length≤c0)(h:impl_insideOf.f l0 a1_0 a1_1=some r):
  Calls Tryd.prog 53 #[.slice A0 l0.length c0,.agg #[.int .i64 a1_0,.int .i64 a1_1]] w fun e w'=>e=.returned (.int .i64 r)∧Below w.heap.size w w':=by
 unfold impl_insideOf.f at h
 split at h
 case isFalse=>cases h
 rename_i hok
 obtain⟨hl,hp⟩:=hok;have h:=Option.some.inj h;have hS:=(Mort.loopOk_iff _).1 hl;rw [List.length_map] at hS;obtain⟨hl3,hl8,hsg,_⟩:=hS;have hok:∀ i:Fin l0.length,segOk (sgP (edS l0 i))=true:=fun i=>by rw [← ed_edS];exact hsg _ (Mort.mem_edges.2 ⟨i,by simpa using i.2,rfl⟩)
 have hmem:∀ i:Fin l0.length,sgP (edS l0 i)∈edges (l0.map ptP):=fun i=>by rw [← ed_edS];exact Mort.mem_edges.2 ⟨i,by simpa using i.2,rfl⟩
 clear hsg;have HR:=Aside0.mk h;clear h;have hu61:=Tryd.underlying89;have hu28:=Tryd.underlying37;refine (callsIn_wide (n:=9)).1 ?_;refine callsIn_of_wp_marks Tryd.func53 rfl trivial ?_ rfl;simp only [Tryd.ntmps53,List.size_toArray,List.length_cons,List.length_nil,Nat.reduceAdd,Nat.reduceSub,Array.replicate_succ,Array.replicate_zero,List.push_toArray,List.append_toArray,List.nil_append,List.cons_append];have hAb:=row_lt hr0 (by omega);gi_wp2_with (refine⟨trivial,?_⟩;gi_at_call 59;refine (edges_in _ _ _ _ _).mono ?_;rintro e w' ⟨rfl,rfl⟩);have bP:((((w.alloc (.cells #[.int .i64 a1_0,.int .i64 a1_1] 37)).alloc (.cells #[.int .i64 0] 3)).alloc (.cells #[.int .i64 (-1)] 3)).alloc (.cells #[.slice A0 l0.length c0] 23)).heap[w.heap.size]?=some (.cells #[.int .i64 a1_0,.int .i64 a1_1] 37 (0,0)):=blk_alloc' (blk_alloc' (blk_alloc' (World.alloc_heap_new w _) _) _) _;have bR:=((Boxed.new (w.alloc (.cells #[.int .i64 a1_0,.int .i64 a1_1] 37)) 3 (.int .i64 0)).alloc (.cells #[.int .i64 (-1)] 3)).alloc (.cells #[.slice A0 l0.length c0] 23);have bI:=(Boxed.new ((w.alloc (.cells #[.int .i64 a1_0,.int .i64 a1_1] 37)).alloc (.cells #[.int .i64 0] 3)) 3 (.int .i64 (-1))).alloc (.cells #[.slice A0 l0.length c0] 23);have bC:=Boxed.new (((w.alloc (.cells #[.int .i64 a1_0,.int .i64 a1_1] 37)).alloc (.cells #[.int .i64 0] 3)).alloc (.cells #[.int .i64 (-1)] 3)) 23 (.slice A0 l0.length c0);simp only [World.size_alloc] at bR bI bC;have hB0:Below w.heap.size w ((((w.alloc (.cells #[.int .i64 a1_0,.int .i64 a1_1] 37)).alloc (.cells #[.int .i64 0] 3)).alloc (.cells #[.int .i64 (-1)] 3)).alloc (.cells #[.slice A0 l0.length c0] 23)):=below_alloc (below_alloc (below_alloc (below_alloc (Below.refl _ w) _) _) _) _;have hsz:((((w.alloc (.cells #[.int .i64 a1_0,.int .i64 a1_1] 37)).alloc (.cells #[.int .i64 0] 3)).alloc (.cells #[.int .i64 (-1)] 3)).alloc (.cells #[.slice A0 l0.length c0] 23)).heap.size=w.heap.size+4:=by simp
 obtain⟨W0,hW0⟩:∃ W0,(((w.alloc (.cells #[.int .i64 a1_0,.int .i64 a1_1] 37)).alloc (.cells #[.int .i64 0] 3)).alloc (.cells #[.int .i64 (-1)] 3)).alloc (.cells #[.slice A0 l0.length c0] 23)=W0:=⟨_,rfl⟩;rw [hW0] at bP bR bI bC hB0 hsz ⊢
 clear hW0;refine wpIn_rangeFunc_ownH rfl (by omega) (gf:=81) (lb:=#[.pointer (some ⟨w.heap.size+1+1+1,0,none⟩)]) rfl trivial (enters_of Tryd.func81 (by kernel_rfl) rfl)
  (edges_stops 8 (by omega) (w.heap.size+1+1+1) w.heap.size A0 c0 l0 (by omega) hAb W0 (by omega) (by omega) bC.cell (Kd.C_below hr0 hB0)) (fun h k=>KpE.trans h k) (fun W l o o' hl _ _ _=>KpE.putObj W l o' (by omega) (by omega)) (Below.refl _ _) (fun _=>rfl)
  (fun pre W=>((((∀ x∈pre,Mort.has (sgP (edS l0 (x:Fin l0.length))) (a1_0,a1_1)=false)∧Boxed W (w.heap.size+1) 3 (.int .i64 0))∧Boxed W (w.heap.size+1+1) 3 (.int .i64 (inRun (preE l0 pre) (a1_0,a1_1))))∧W.heap[w.heap.size]?=some (.cells #[.int .i64 a1_0,.int .i64 a1_1] 37 (0,0)))∧Below w.heap.size w W)
  (fun c pre W=>((c=.ret∧∃ x:Fin l0.length,Mort.has (sgP (edS l0 x)) (a1_0,a1_1)=true)∧Boxed W (w.heap.size+1) 3 (.int .i64 0))∧Below w.heap.size w W)
  (OwnFrom.and (OwnFrom.and (OwnFrom.and (OwnFrom.and (ownFrom_pure _ _) (Own.from (boxed_own _ _ _) _)) (Own.from (boxed_own _ _ (fun pre=>.int .i64 (inRun (preE l0 pre) (a1_0,a1_1)))) _)) (Own.from (blk_own _ (fun _=>.cells #[.int .i64 a1_0,.int .i64 a1_1] 37 (0,0)) (fun _=>rfl)) _)) (ownFrom_below (Nat.le_refl _) (by omega)))
  (fun c=>OwnFrom.and (OwnFrom.and (ownFrom_pure _ _) (Own.from (boxed_own _ _ _) _)) (ownFrom_below (Nat.le_refl _) (by omega)))
  ⟨⟨⟨⟨by simp,bR⟩,bI⟩,bP⟩,hB0⟩
  (fun x a' W=>∃ Bx,W.heap[Bx]?=some (segObj (edS l0 x))∧a'={ tmps:=#[.slice A0 l0.length c0,.agg #[.int .i64 a1_0,.int .i64 a1_1],undef,.pointer (some ⟨w.heap.size,0,none⟩),.pointer (some ⟨w.heap.size+1,0,none⟩),.pointer (some ⟨w.heap.size+1+1,0,none⟩),undef,.pointer (some ⟨Bx,0,none⟩),undef,undef,undef,.slice A0 l0.length c0,.func (.func 81) #[] #[.pointer (some ⟨w.heap.size+1+1+1,0,none⟩)],.int .i64 ((x:Nat):Int),.agg #[.int .i64 (edS l0 x).f0.f0,.int .i64 (edS l0 x).f0.f1,.int .i64 (edS l0 x).f1.f0,.int .i64 (edS l0 x).f1.f1],undef,undef,undef,undef,undef,undef,undef,undef,undef,undef,undef,undef,undef,undef,undef,undef,undef,undef,undef,undef,undef,undef,undef,undef,undef,undef,undef,undef,undef,undef,undef,undef,undef,undef,undef,undef,undef,undef,undef,undef,undef,undef,undef,undef,undef,undef,undef,undef,undef,undef,undef,undef],defers:=[] })
  (fun x a' _ X Y row hs hg hr=>by obtain⟨Bx,e2,e3⟩:=hs;exact⟨Bx,segObj_own Bx (edS l0 x) () X Y row e2 hg (fun r e=>(hr r e).2),e3⟩)
  ?assign ?body ?done ?stop
 case assign =>
  rintro l pre x W K ⟨⟨⟨⟨hq,bR1⟩,bI1⟩,bP1⟩,hB1⟩ hK;have hBs:=hB1.size;dsimp only [encE,edV];gi_wp2;exact hK _ _ ((KeepsOthers.alloc _ _).from _) (KpE.alloc _ _ _ _) ⟨⟨⟨⟨hq,bR1.alloc _⟩,bI1.alloc _⟩,blk_alloc' bP1 _⟩,below_alloc hB1 _⟩ ⟨W.heap.size,World.alloc_heap_new W _,rfl⟩
 case body =>
  rintro l pre x a' W hl ⟨rr,hrr⟩ ⟨⟨⟨⟨hq,bR1⟩,bI1⟩,bP1⟩,hB1⟩ ⟨Bx,bX,rfl⟩ hlt;have hsx:=hok x;have hE:=preE_snoc l0 pre x;have hIn:=Mort.inRun_snoc (preE l0 pre) (sgP (edS l0 x)) (a1_0,a1_1);rw [← hE] at hIn;have hvals:inRun (preE l0 pre) (a1_0,a1_1)=1∨inRun (preE l0 pre) (a1_0,a1_1) = -1:=by unfold inRun Mort.sideOf;split <;> simp
  have HX:=Aside0.mk hIn;clear hIn hE;generalize inRun (preE l0 pre) (a1_0,a1_1)=v at *;have hx1:=(Mort.segOk_iff _).1 hsx;have HH:=iSegHas (k:=2) (by omega) (edS l0 x).f0.f0 (edS l0 x).f0.f1 (edS l0 x).f1.f0 (edS l0 x).f1.f1 a1_0 a1_1;have HT:=iSegTurn (k:=2) (by omega) (edS l0 x).f0.f0 (edS l0 x).f0.f1 (edS l0 x).f1.f0 (edS l0 x).f1.f1 a1_0 a1_1;have eH:segHas (sgP (edS l0 x)) (a1_0,a1_1)=Mort.has (sgP (edS l0 x)) (a1_0,a1_1):=by unfold segHas;rw [hsx,hp];rfl
  have eT:segTurn ((edS l0 x).f0.f0,(edS l0 x).f0.f1) ((edS l0 x).f1.f0,(edS l0 x).f1.f1) (a1_0,a1_1)=Mort.sgn (cross (sgP (edS l0 x)).1 (sgP (edS l0 x)).2 (a1_0,a1_1)):=by
   unfold segTurn;rw [show ptOk ((edS l0 x).f0.f0,(edS l0 x).f0.f1)=true from hx1.1,show ptOk ((edS l0 x).f1.f0,(edS l0 x).f1.f1)=true from hx1.2.1,hp];rfl
  replace HH:=HH.trans (congrArg some eH);rw [eT] at HT;clear eH eT;have hmx:=hmem x;have hC:crsI (sgP (edS l0 x)) (a1_0,a1_1)=((decide ((edS l0 x).f0.f1≤a1_1) && (decide (a1_1<(edS l0 x).f1.f1) && decide (0<cross (sgP (edS l0 x)).1 (sgP (edS l0 x)).2 (a1_0,a1_1)))) || (decide ((edS l0 x).f1.f1≤a1_1) && (decide (a1_1<(edS l0 x).f0.f1) && decide (cross (sgP (edS l0 x)).1 (sgP (edS l0 x)).2 (a1_0,a1_1)<0)))):=rfl;have cX0:W.cell? ⟨Bx,0,none⟩=some (.int .i64 (edS l0 x).f0.f0):=(blk_cell bX 0).trans rfl;have cX1:W.cell? ⟨Bx,1,none⟩=some (.int .i64 (edS l0 x).f0.f1):=(blk_cell bX 1).trans rfl;have cX2:W.cell? ⟨Bx,2,none⟩=some (.int .i64 (edS l0 x).f1.f0):=(blk_cell bX 2).trans rfl;have cX3:W.cell? ⟨Bx,3,none⟩=some (.int .i64 (edS l0 x).f1.f1):=(blk_cell bX 3).trans rfl;have cP0:W.cell? ⟨w.heap.size,0,none⟩=some (.int .i64 a1_0):=(blk_cell bP1 0).trans rfl;have cP1:W.cell? ⟨w.heap.size,1,none⟩=some (.int .i64 a1_1):=(blk_cell bP1 1).trans rfl;clear bX;generalize cross (sgP (edS l0 x)).1 (sgP (edS l0 x)).2 (a1_0,a1_1)=cz at *;generalize hsp:sgP (edS l0 x)=sx at *;have hsp':=Aside0.mk hsp;clear hsp hx1;generalize (edS l0 x).f0.f0=ax at *;generalize (edS l0 x).f0.f1=ay at *;generalize (edS l0 x).f1.f0=bx at *;generalize (edS l0 x).f1.f1=by_ at *;have hv1 : -1≤v:=by omega
  have hv2:v≤1:=by omega
  clear hvals;have ht:(0<Mort.sgn cz ↔ 0<cz)∧(Mort.sgn cz<0 ↔ cz<0):=by unfold Mort.sgn;split <;> (try split) <;> omega
  generalize Mort.sgn cz=t at *;have cI:=bI1.cell;have fI:=bI1.frozen;have cR:=bR1.cell;have fR:=bR1.frozen;have later:∀ w1,Below W.heap.size W w1→∀ a y,W.cell? a=some y→w1.cell? a=some y:=fun w1 hb a y h=>pw_cell_below hb h
  cases hh:Mort.has sx (a1_0,a1_1) with
  | true =>
   rw [hh] at HH;gi_wp2_with (refine⟨trivial,?_⟩;gi_at_call 77;refine (CallsIn.inRound l (callsIn_wide.2 (impl_SegHas.calls 2 _ _ _ _ _ _ true _ HH))).mono ?_;rintro e w1 ⟨rfl,hb⟩;have cR1:=(box_later bR1 hb).cell;have fR1:=(box_later bR1 hb).frozen);exact⟨(keeps_below hb).trans ((KeepsOthers.setCell _ _ _).from _),⟨⟨rfl,x,by rw [hsp'.out];exact hh⟩,(box_later bR1 hb).set _⟩,(below_row hB1 (Nat.le_refl _) hb).setCell (p:=⟨w.heap.size+1,0,none⟩) (by simp) _⟩
  | false =>
   rw [hh] at HH;by_cases u1:ay≤a1_1
   ·
    by_cases u2:a1_1<by_
    ·
     by_cases u5:0<t
     ·
      have d1:decide (ay≤a1_1)=true:=decide_eq_true (by omega);have d2:decide (a1_1<by_)=true:=decide_eq_true (by omega);have d3:decide (by_≤a1_1)=false:=decide_eq_false (by omega);have d4:decide (a1_1<ay)=false:=decide_eq_false (by omega);have d5:decide (0<t)=true:=decide_eq_true (by omega);have d5':decide (0<cz)=true:=decide_eq_true (by omega);have hcv:crsI sx (a1_0,a1_1)=true:=by rw [hC,d1,d2,d3,d4,d5'];simp
      clear hC
      gi_wp2_with (first
       | (refine⟨trivial,?_⟩;gi_at_call 77;refine (CallsIn.inRound l (callsIn_wide.2 (impl_SegHas.calls 2 _ _ _ _ _ _ false _ HH))).mono ?_;rintro e w1 ⟨rfl,hb⟩;have dP0:=later _ hb _ _ cP0;have dP1:=later _ hb _ _ cP1;have dX0:=later _ hb _ _ cX0;have dX1:=later _ hb _ _ cX1;have dX2:=later _ hb _ _ cX2;have dX3:=later _ hb _ _ cX3)
       | (refine⟨trivial,?_⟩;gi_at_call 78;refine (CallsIn.inRound l (callsIn_wide.2 (impl_SegTurn.calls 2 _ _ _ _ _ _ t _ HT))).mono ?_;rintro e w2 ⟨rfl,hb2⟩;have cI1:=(box_later (box_later bI1 hb) hb2).cell;have fI1:=(box_later (box_later bI1 hb) hb2).frozen))
      have HV:inRun (preE l0 (pre++[x])) (a1_0,a1_1) = -v:=by rw [HX.out,hcv];rfl
      exact⟨(keeps_below (below_step_ hb hb2)).trans ((KeepsOthers.setCell _ _ _).from _),(KpE.below (below_step_ hb hb2)).trans (KpE.set _ (by simp;omega) (by simp) _),⟨⟨⟨fun z hz=>(List.mem_append.1 hz).elim (hq z) (fun e=>by simp at e;subst e;rw [hsp'.out];exact hh),box_other (box_later bR1 (below_step_ hb hb2)) (by omega) _⟩,by rw [HV];exact (box_later bI1 (below_step_ hb hb2)).set _⟩,blk_other (blk_later bP1 (below_step_ hb hb2)) (by omega) _⟩,(below_row hB1 (Nat.le_refl _) (below_step_ hb hb2)).setCell (p:=⟨w.heap.size+1+1,0,none⟩) (by simp;omega) _⟩
     ·
      have d1:decide (ay≤a1_1)=true:=decide_eq_true (by omega);have d2:decide (a1_1<by_)=true:=decide_eq_true (by omega);have d3:decide (by_≤a1_1)=false:=decide_eq_false (by omega);have d4:decide (a1_1<ay)=false:=decide_eq_false (by omega);have d5:decide (0<t)=false:=decide_eq_false (by omega);have d5':decide (0<cz)=false:=decide_eq_false (by omega);have hcv:crsI sx (a1_0,a1_1)=false:=by rw [hC,d1,d2,d3,d4,d5'];simp
      clear hC
      gi_wp2_with (first
       | (refine⟨trivial,?_⟩;gi_at_call 77;refine (CallsIn.inRound l (callsIn_wide.2 (impl_SegHas.calls 2 _ _ _ _ _ _ false _ HH))).mono ?_;rintro e w1 ⟨rfl,hb⟩;have dP0:=later _ hb _ _ cP0;have dP1:=later _ hb _ _ cP1;have dX0:=later _ hb _ _ cX0;have dX1:=later _ hb _ _ cX1;have dX2:=later _ hb _ _ cX2;have dX3:=later _ hb _ _ cX3)
       | (refine⟨trivial,?_⟩;gi_at_call 78;refine (CallsIn.inRound l (callsIn_wide.2 (impl_SegTurn.calls 2 _ _ _ _ _ _ t _ HT))).mono ?_;rintro e w2 ⟨rfl,hb2⟩;have cI1:=(box_later (box_later bI1 hb) hb2).cell;have fI1:=(box_later (box_later bI1 hb) hb2).frozen))
      have HV:inRun (preE l0 (pre++[x])) (a1_0,a1_1)=v:=by rw [HX.out,hcv];rfl
      exact⟨keeps_below (below_step_ hb hb2),KpE.below (below_step_ hb hb2),⟨⟨⟨fun z hz=>(List.mem_append.1 hz).elim (hq z) (fun e=>by simp at e;subst e;rw [hsp'.out];exact hh),box_later bR1 (below_step_ hb hb2)⟩,by rw [HV];exact box_later bI1 (below_step_ hb hb2)⟩,blk_later bP1 (below_step_ hb hb2)⟩,below_row hB1 (Nat.le_refl _) (below_step_ hb hb2)⟩
    ·
     have d1:decide (ay≤a1_1)=true:=decide_eq_true (by omega);have d2:decide (a1_1<by_)=false:=decide_eq_false (by omega);have d3:decide (by_≤a1_1)=true:=decide_eq_true (by omega);have d4:decide (a1_1<ay)=false:=decide_eq_false (by omega);have hcv:crsI sx (a1_0,a1_1)=false:=by rw [hC,d1,d2,d3,d4];simp
     clear hC
     gi_wp2_with (first
      | (refine⟨trivial,?_⟩;gi_at_call 77;refine (CallsIn.inRound l (callsIn_wide.2 (impl_SegHas.calls 2 _ _ _ _ _ _ false _ HH))).mono ?_;rintro e w1 ⟨rfl,hb⟩;have dP0:=later _ hb _ _ cP0;have dP1:=later _ hb _ _ cP1;have dX0:=later _ hb _ _ cX0;have dX1:=later _ hb _ _ cX1;have dX2:=later _ hb _ _ cX2;have dX3:=later _ hb _ _ cX3)
      | (refine⟨trivial,?_⟩;gi_at_call 78;refine (CallsIn.inRound l (callsIn_wide.2 (impl_SegTurn.calls 2 _ _ _ _ _ _ t _ HT))).mono ?_;rintro e w2 ⟨rfl,hb2⟩;have cI1:=(box_later (box_later bI1 hb) hb2).cell;have fI1:=(box_later (box_later bI1 hb) hb2).frozen))
     have HV:inRun (preE l0 (pre++[x])) (a1_0,a1_1)=v:=by rw [HX.out,hcv];rfl
     exact⟨keeps_below (below_step_ hb hb2),KpE.below (below_step_ hb hb2),⟨⟨⟨fun z hz=>(List.mem_append.1 hz).elim (hq z) (fun e=>by simp at e;subst e;rw [hsp'.out];exact hh),box_later bR1 (below_step_ hb hb2)⟩,by rw [HV];exact box_later bI1 (below_step_ hb hb2)⟩,blk_later bP1 (below_step_ hb hb2)⟩,below_row hB1 (Nat.le_refl _) (below_step_ hb hb2)⟩
   ·
    by_cases u2:a1_1<by_
    ·
     have d1:decide (ay≤a1_1)=false:=decide_eq_false (by omega);have d2:decide (a1_1<by_)=true:=decide_eq_true (by omega);have d3:decide (by_≤a1_1)=false:=decide_eq_false (by omega);have d4:decide (a1_1<ay)=true:=decide_eq_true (by omega);have hcv:crsI sx (a1_0,a1_1)=false:=by rw [hC,d1,d2,d3,d4];simp
     clear hC
     gi_wp2_with (first
      | (refine⟨trivial,?_⟩;gi_at_call 77;refine (CallsIn.inRound l (callsIn_wide.2 (impl_SegHas.calls 2 _ _ _ _ _ _ false _ HH))).mono ?_;rintro e w1 ⟨rfl,hb⟩;have dP0:=later _ hb _ _ cP0;have dP1:=later _ hb _ _ cP1;have dX0:=later _ hb _ _ cX0;have dX1:=later _ hb _ _ cX1;have dX2:=later _ hb _ _ cX2;have dX3:=later _ hb _ _ cX3)
      | (refine⟨trivial,?_⟩;gi_at_call 78;refine (CallsIn.inRound l (callsIn_wide.2 (impl_SegTurn.calls 2 _ _ _ _ _ _ t _ HT))).mono ?_;rintro e w2 ⟨rfl,hb2⟩;have cI1:=(box_later (box_later bI1 hb) hb2).cell;have fI1:=(box_later (box_later bI1 hb) hb2).frozen))
     have HV:inRun (preE l0 (pre++[x])) (a1_0,a1_1)=v:=by rw [HX.out,hcv];rfl
     exact⟨keeps_below (below_step_ hb hb2),KpE.below (below_step_ hb hb2),⟨⟨⟨fun z hz=>(List.mem_append.1 hz).elim (hq z) (fun e=>by simp at e;subst e;rw [hsp'.out];exact hh),box_later bR1 (below_step_ hb hb2)⟩,by rw [HV];exact box_later bI1 (below_step_ hb hb2)⟩,blk_later bP1 (below_step_ hb hb2)⟩,below_row hB1 (Nat.le_refl _) (below_step_ hb hb2)⟩
    ·
     by_cases u5:t<0
     ·
      have d1:decide (ay≤a1_1)=false:=decide_eq_false (by omega);have d2:decide (a1_1<by_)=false:=decide_eq_false (by omega);have d3:decide (by_≤a1_1)=true:=decide_eq_true (by omega);have d4:decide (a1_1<ay)=true:=decide_eq_true (by omega);have d6:decide (t<0)=true:=decide_eq_true (by omega);have d6':decide (cz<0)=true:=decide_eq_true (by omega);have hcv:crsI sx (a1_0,a1_1)=true:=by rw [hC,d1,d2,d3,d4,d6'];simp
      clear hC
      gi_wp2_with (first
       | (refine⟨trivial,?_⟩;gi_at_call 77;refine (CallsIn.inRound l (callsIn_wide.2 (impl_SegHas.calls 2 _ _ _ _ _ _ false _ HH))).mono ?_;rintro e w1 ⟨rfl,hb⟩;have dP0:=later _ hb _ _ cP0;have dP1:=later _ hb _ _ cP1;have dX0:=later _ hb _ _ cX0;have dX1:=later _ hb _ _ cX1;have dX2:=later _ hb _ _ cX2;have dX3:=later _ hb _ _ cX3)
       | (refine⟨trivial,?_⟩;gi_at_call 78;refine (CallsIn.inRound l (callsIn_wide.2 (impl_SegTurn.calls 2 _ _ _ _ _ _ t _ HT))).mono ?_;rintro e w2 ⟨rfl,hb2⟩;have cI1:=(box_later (box_later bI1 hb) hb2).cell;have fI1:=(box_later (box_later bI1 hb) hb2).frozen))
      have HV:inRun (preE l0 (pre++[x])) (a1_0,a1_1) = -v:=by rw [HX.out,hcv];rfl
      exact⟨(keeps_below (below_step_ hb hb2)).trans ((KeepsOthers.setCell _ _ _).from _),(KpE.below (below_step_ hb hb2)).trans (KpE.set _ (by simp;omega) (by simp) _),⟨⟨⟨fun z hz=>(List.mem_append.1 hz).elim (hq z) (fun e=>by simp at e;subst e;rw [hsp'.out];exact hh),box_other (box_later bR1 (below_step_ hb hb2)) (by omega) _⟩,by rw [HV];exact (box_later bI1 (below_step_ hb hb2)).set _⟩,blk_other (blk_later bP1 (below_step_ hb hb2)) (by omega) _⟩,(below_row hB1 (Nat.le_refl _) (below_step_ hb hb2)).setCell (p:=⟨w.heap.size+1+1,0,none⟩) (by simp;omega) _⟩
     ·
      have d1:decide (ay≤a1_1)=false:=decide_eq_false (by omega);have d2:decide (a1_1<by_)=false:=decide_eq_false (by omega);have d3:decide (by_≤a1_1)=true:=decide_eq_true (by omega);have d4:decide (a1_1<ay)=true:=decide_eq_true (by omega);have d6:decide (t<0)=false:=decide_eq_false (by omega);have d6':decide (cz<0)=false:=decide_eq_false (by omega);have hcv:crsI sx (a1_0,a1_1)=false:=by rw [hC,d1,d2,d3,d4,d6'];simp
      clear hC
      gi_wp2_with (first
       | (refine⟨trivial,?_⟩;gi_at_call 77;refine (CallsIn.inRound l (callsIn_wide.2 (impl_SegHas.calls 2 _ _ _ _ _ _ false _ HH))).mono ?_;rintro e w1 ⟨rfl,hb⟩;have dP0:=later _ hb _ _ cP0;have dP1:=later _ hb _ _ cP1;have dX0:=later _ hb _ _ cX0;have dX1:=later _ hb _ _ cX1;have dX2:=later _ hb _ _ cX2;have dX3:=later _ hb _ _ cX3)
       | (refine⟨trivial,?_⟩;gi_at_call 78;refine (CallsIn.inRound l (callsIn_wide.2 (impl_SegTurn.calls 2 _ _ _ _ _ _ t _ HT))).mono ?_;rintro e w2 ⟨rfl,hb2⟩;have cI1:=(box_later (box_later bI1 hb) hb2).cell;have fI1:=(box_later (box_later bI1 hb) hb2).frozen))
      have HV:inRun (preE l0 (pre++[x])) (a1_0,a1_1)=v:=by rw [HX.out,hcv];rfl
      exact⟨keeps_below (below_step_ hb hb2),KpE.below (below_step_ hb hb2),⟨⟨⟨fun z hz=>(List.mem_append.1 hz).elim (hq z) (fun e=>by simp at e;subst e;rw [hsp'.out];exact hh),box_later bR1 (below_step_ hb hb2)⟩,by rw [HV];exact box_later bI1 (below_step_ hb hb2)⟩,blk_later bP1 (below_step_ hb hb2)⟩,below_row hB1 (Nat.le_refl _) (below_step_ hb hb2)⟩
 case stop =>
  rintro D c pre W hD _ ⟨⟨⟨rfl,x,hs⟩,bR1⟩,hB1⟩ hK;obtain rfl:r=0:=by rw [← HR.out];exact Mort.inOf_on (hmem x) hs
  gi_wp2;have hD1:∀ E∈[D],W.heap[E]?=some (.deferred (some [])):=by simpa using hK
  refine leavesM_marks [D] W (by simp) hD1 (fun w' h1 h2 h3 h4 h5=>?_);have hc5:=(marks_boxed bR1 hD1 h1).cell;refine⟨.int .i64 0,?_,rfl,marks_below hB1 (by simp;omega) h1 h2 h3 h4 h5⟩;simp [results,Tryd.f53,go_sem,hc5]
 case done =>
  rintro D ys W hD rfl ⟨⟨⟨⟨hq,bR1⟩,bI1⟩,bP1⟩,hB1⟩ hK;have hV:inRun (preE l0 (List.finRange l0.length)) (a1_0,a1_1)=r:=by
   rw [preE_all,Mort.inRun_end,HR.out];intro e he;obtain⟨i,hi,rfl⟩:=Mort.mem_edges.1 he;rw [ed_edS];exact hq ⟨i,by simpa using hi⟩ (List.mem_finRange _)
  rw [hV] at bI1;clear hV;have cI:=bI1.cell;have cR:=bR1.cell;have fR:=bR1.frozen;gi_wp2;have hD1:∀ E∈[D],(W.setCell ⟨w.heap.size+1,0,none⟩ (.int .i64 r)).heap[E]?=some (.deferred (some [])):=by
   intro E hE;simp at hE;subst hE;exact blk_set hK rfl bR1 _
  refine leavesM_marks [D] _ (by simp) hD1 (fun w' h1 h2 h3 h4 h5=>?_);have hc5:=(marks_boxed (bR1.set (.int .i64 r)) hD1 h1).cell;refine⟨.int .i64 r,?_,rfl,marks_below (hB1.setCell (p:=⟨w.heap.size+1,0,none⟩) (by simp) _) (by simp;omega) h1 h2 h3 h4 h5⟩;simp [results,Tryd.f53,go_sem,hc5]
end Go.Proofs.YtailkppkjhkjpaaDoor.X
end
