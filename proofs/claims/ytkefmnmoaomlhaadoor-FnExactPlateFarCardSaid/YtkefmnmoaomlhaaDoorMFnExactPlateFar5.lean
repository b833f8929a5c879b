/- FnExactPlateFar: the law returns true for every input, and each input reads behind the call as before; part 5 of 5. No condition. Merged by program out of: Step, FLawsEqFrac, HExactFar, OpenPl, LawFnExactPlateFar. -/
import Derived.Test.YtkefmnmoaomlhaaDoorMFnExactPlateFar4
import Derived.Deep.SlicePairs
import Derived.OpenShut
import Derived.ShutString
import Derived.ChangeOld
import Derived.Lib.SmallJoins
import Derived.WalkKit
import Derived.ProofKit
import Derived.Below
import Derived.SizedLaws
import Derived.SevenTiedAt
set_option linter.all false
section
set_option linter.unusedVariables false
set_option linter.unusedSimpArgs false
namespace Go.Proofs.YtkefmnmoaomlhaaDoor.X
open Go.RowKit Go.Proofs.YtkefmnmoaomlhaaDoorW.PrintWords Go.Proofs.YtkefmnmoaomlhaaDoorW.PrintLast Go.Proofs.YtkefmnmoaomlhaaDoorW.PrintMore
def qmL:Nat→Nat→List Bool
 | 0,_=>[]
 | n+1,m=>(m % 2==1)::qmL n (m / 2)
def qm (n m:Nat):Array Bool:=⟨qmL n m⟩
theorem qp {P:Program}{ops:Array Oper}{Q:Exit→Act→World→Prop}{md:Region.Mode}{S:World→Prop}{ds:List Nat}{oi:Oper}{v:Value}{fuel:Nat}{l:Array Bool}{a a':Act}{w:World}(i N:Nat)(l':Array Bool)(h:wpAnyLast P md ops Q S ds fuel l' a' w)(hi:ops[i]?=some oi:=by rfl)(hN:oi.dst=some N:=by rfl)(hc:anyB md ops l l' i=true:=by kernel_rfl)(hw:Region.wanted oi (yielded ops a.tmps)=true:=by rfl)(hr:∀ w',(execOp a.eval oi).run P w'=.ok (.value v) w':=by (intro w';go_simp;with_reducible rfl))(ha:a.put (some N) v=a':=by (simp only [Act.put,List.setIfInBounds_toArray,List.set_cons_zero,List.set_cons_succ,i64_w,i32_w];rfl))(hQ:∀ c a w,Q (.panic c) (a.put oi.dst v) w→Q (.panic c) a w:=by exact fun _ _ _ h=>h):wpAnyLast P md ops Q S ds (fuel+1) l a w:=pure_ l' hi hN hc hQ (Or.inl ⟨hw,hr⟩) ha h
theorem qt4 {P:Program}{ops:Array Oper}{Q:Exit→Act→World→Prop}{md:Region.Mode}{S:World→Prop}{ds:List Nat}{oi:Oper}{v:Value}{fuel:Nat}{l:Array Bool}{a a':Act}{w:World}(i N:Nat)(l':Array Bool)(hS:S w)(h:wpAnyLast P md ops Q S ds fuel l' a' w)(hi:ops[i]?=some oi:=by rfl)(hN:oi.dst=some N:=by rfl)(hc:takeB md ops ds l l' i=true:=by kernel_rfl)(hw:Region.wanted oi (yielded ops a.tmps)=true:=by rfl)(hr:∀ w',S w'→(execOp a.eval oi).run P w'=.ok (.value v) w':=by (rintro w' ⟨s0,s1,s2,s3⟩;go_simp;with_reducible rfl))(ha:a.put (some N) v=a':=by (simp only [Act.put,List.setIfInBounds_toArray,List.set_cons_zero,List.set_cons_succ,i64_w,i32_w];rfl))(hQ:∀ c a w,Q (.panic c) (a.put oi.dst v) w→Q (.panic c) a w:=by exact fun _ _ _ h=>h):wpAnyLast P md ops Q S ds (fuel+1) l a w:=take_ l' hi hN hc hQ (Or.inl ⟨hw,hr⟩) hS ha h
theorem qc {P:Program}{ops:Array Oper}{Q:Exit→Act→World→Prop}{md:Region.Mode}{S:World→Prop}{fuel:Nat}{l:Array Bool}{a a':Act}{w:World}(i N:Nat)(l':Array Bool){oi:Oper}{f:FuncId}{fn:Func}{as0:Array Operand}{ts:Array TypeId}{args:Array Value}{v:Value}(hf:P.funcs[f]?=some fn)
  (hcall:Calls P f args w fun e W'=>e=.returned v∧Below w.heap.size w W') (hS:∀ w',Below w.heap.size w w'→S w')
  (h:∀ w',Below w.heap.size w w'→S w'→wpAnyLast P md ops Q S [] fuel l' a' w')
  (hi:ops[i]?=some oi:=by rfl) (hN:oi.dst=some N:=by rfl) (hc:readyB md ops l l' i=true:=by kernel_rfl)
  (hw:Region.wanted oi (yielded ops a.tmps)=true:=by rfl) (hname:(fn.name == "runtime.NumGoroutine")=false:=by kernel_rfl) (hb:fn.body.isSome=true:=by rfl)
  (hop:oi.op=.call { callee:=.value (.func f),args:=as0,argTypes:=ts }:=by rfl)
  (ha1:as0.map a.eval=args:=by (try simp only [List.map_toArray,List.map_cons,List.map_nil]);first | done | rfl)
  (ha:a.put (some N) v=a':=by (simp only [Act.put,List.setIfInBounds_toArray,List.set_cons_zero,List.set_cons_succ,i64_w,i32_w];rfl)):wpAnyLast P md ops Q S [] (fuel+1) l a w:=by
 refine one_ l' hi hN hc (by simp) (fun K hK=>?_);refine goes_ hf hname hb args hw hN hop ha1 ?_;refine hcall.mono ?_;rintro e w1 ⟨rfl,hb1⟩;refine⟨_,rfl,hK.out _ _ (hS _ hb1) (fun hs=>?_)⟩;rw [ha];exact h _ hb1 hs
theorem wanted_none {oi:Oper}(h:oi.guard=none)(y:Nat→Option Bool):Region.wanted oi y=true:=by simp [Region.wanted,h]
theorem put_comm (a:Act){i j:Tmp}(h:i≠j)(u v:Value):(a.put (some i) u).put (some j) v=(a.put (some j) v).put (some i) u:=by
 unfold Act.put;simp only [Array.setIfInBounds_comm u v h]
theorem box2_ {g:Nat}{W:World}{t:TypeId}{x y u v:Value}(h:W.heap[g]?=some (.cells #[x,y] t (0,0))):
  ((W.setCell ⟨g,0,none⟩ u).setCell ⟨g,1,none⟩ v).heap[g]?=some (.cells #[u,v] t (0,0))∧(∀ b w0,b≤g→Below b w0 W→Below b w0 ((W.setCell ⟨g,0,none⟩ u).setCell ⟨g,1,none⟩ v)):=
 ⟨blk_put (blk_put h 0 _ rfl) 1 _ rfl,fun b w0 hb hB=>(hB.setCell (p:=⟨g,0,none⟩) hb _).setCell (p:=⟨g,1,none⟩) hb _⟩
def Does (P:Program)(ops:Array Oper)(Q:Exit→Act→World→Prop)(o:Oper)(N:Tmp)(a:Act)(w:World)(Φ:Value→World→Prop):Prop:=
 ∀ K:Act→World→Prop,(∀ v w',Φ v w'→K (a.put (some N) v) w')→if Region.wanted o (yielded ops a.tmps)=true then Oper.wp P o a w K Q else K (a.put (some N) undef) w
theorem does_call {P:Program}{ops:Array Oper}{Q:Exit→Act→World→Prop}{o:Oper}{N:Tmp}{a:Act}{w:World}{Φ:Value→World→Prop}{f:FuncId}{fn:Func}{as0:Array Operand}{ts:Array TypeId}{args:Array Value}(hf:P.funcs[f]?=some fn)(hname:(fn.name == "runtime.NumGoroutine")=false) (hb:fn.body.isSome=true) (g:o.guard=none) (hN:o.dst=some N)
  (hop:o.op=.call { callee:=.value (.func f),args:=as0,argTypes:=ts }) (ha:as0.map a.eval=args) (h:Calls P f args w fun e w'=>∃ v,e=.returned v∧Φ v w'):Does P ops Q o N a w Φ:=by
 intro K hK;refine goes_ hf hname hb args (wanted_none g _) hN hop ha (h.mono ?_);rintro e w' ⟨v,rfl,hv⟩;exact⟨v,rfl,hK v w' hv⟩
theorem does_box {P:Program}{ops:Array Oper}{Q:Exit→Act→World→Prop}{o:Oper}{N:Tmp}{a:Act}{w:World}{cs:Array Value}{t:TypeId}(g:o.guard=none)(hN:o.dst=some N)
  (hbox:∀ (a':Act) (W:World),(execOp a'.eval o).run P W=.ok (.value (.pointer (some ⟨W.heap.size,0,none⟩))) (W.alloc (.cells cs t (0,0)))):Does P ops Q o N a w fun v w'=>∃ g,v=.pointer (some ⟨g,0,none⟩)∧w.heap.size≤g∧w'.heap[g]?=some (.cells cs t (0,0))∧Below w.heap.size w w':=by
 intro K hK;rw [← hN];refine box_step (wanted_none g _) hN (hbox _ _) ?_;rintro b rfl w1 h1 h2;rw [hN];exact hK _ _ ⟨_,rfl,Nat.le_refl _,h1,h2⟩
theorem oneD {P:Program}{ops:Array Oper}{Q:Exit→Act→World→Prop}{md:Region.Mode}{S:World→Prop}{fuel:Nat}{l:Array Bool}{a:Act}{w:World}{i:Nat}{N:Tmp}{o:Oper}{Φ:Value→World→Prop}(l':Array Bool)(hi:ops[i]?=some o)(hN:o.dst=some N)(hc:readyB md ops l l' i=true)(hD:Does P ops Q o N a w Φ)
  (h:∀ v w',Φ v w'→S w'∧wpAnyLast P md ops Q S [] fuel l' (a.put (some N) v) w'):wpAnyLast P md ops Q S [] (fuel+1) l a w:=
 one_ l' hi hN hc (by simp) fun K hK=>hD K fun v w' hv=>hK.out _ _ (h v w' hv).1 fun _=>(h v w' hv).2
theorem twoD {P:Program}{ops:Array Oper}{Q:Exit→Act→World→Prop}{md:Region.Mode}{S:World→Prop}{fuel:Nat}{l:Array Bool}{a:Act}{w:World}{i j:Nat}{N M:Tmp}{o p:Oper}{Φ Ψ:Value→World→Prop}(li lj:Array Bool)(hi:ops[i]?=some o)(hj:ops[j]?=some p)(hN:o.dst=some N)(hM:p.dst=some M)
  (hc:(Region.ready md ops l==[i,j] && l.setIfInBounds i true==li && l.setIfInBounds j true==lj)=true) (hD:Does P ops Q o N a w Φ) (hE:Does P ops Q p M a w Ψ)
  (h1:∀ v w',Φ v w'→S w'∧wpAnyLast P md ops Q S [] fuel li (a.put (some N) v) w') (h2:∀ v w',Ψ v w'→S w'∧wpAnyLast P md ops Q S [] fuel lj (a.put (some M) v) w'):wpAnyLast P md ops Q S [] (fuel+1) l a w:=
 two_ li lj hi hj hN hM hc (by simp) (by simp) (fun K hK=>hD K fun v w' hv=>hK.out _ _ (h1 v w' hv).1 fun _=>(h1 v w' hv).2) (fun K hK=>hE K fun v w' hv=>hK.out _ _ (h2 v w' hv).1 fun _=>(h2 v w' hv).2)
theorem boxEnd_ {P:Program}{ops:Array Oper}{Q:Exit→Act→World→Prop}{md:Region.Mode}{S:World→Prop}{fuel:Nat}{l:Array Bool}{a:Act}{w:World}{i5:Nat}{o5:Oper}{x y u v:Value}{t:TypeId}{g:Nat}{W:World}(lend:Array Bool)(KS:∀ w',Below w.heap.size w w'→S w')(q5:ops[i5]?=some o5)(d5:o5.dst=none)(g5:o5.guard=none)
  (hc:readyB md ops l lend i5=true) (he:(Region.ready md ops lend==[])=true)
  (hst:W.cell? ⟨g,0,none⟩=some x→W.cell? ⟨g,1,none⟩=some y→W.frozen? ⟨g,0,none⟩=false→W.frozen? ⟨g,1,none⟩=false→(execOp a.eval o5).run P W=.ok .skip ((W.setCell ⟨g,0,none⟩ u).setCell ⟨g,1,none⟩ v))
  (hg:w.heap.size≤g) (hW:W.heap[g]?=some (.cells #[x,y] t (0,0))) (hB:Below w.heap.size w W)
  (h:∀ W',W'.heap[g]?=some (.cells #[u,v] t (0,0))→Below w.heap.size w W'→Q .normal a W'):wpAnyLast P md ops Q S [] (fuel+1) l a W:=by
 refine one_ lend q5 d5 hc (by simp) (fun K hK=>?_);have hb:=box2_ (u:=u) (v:=v) hW;have hB':=hb.2 _ _ hg hB;refine skip_ (wanted_none g5 _) d5 (hst ((blk_cell hW 0).trans rfl) ((blk_cell hW 1).trans rfl) (blk_frozen hW 0) (blk_frozen hW 1)) ?_;exact hK.out _ _ (KS _ hB') (fun _=>done_ he (h _ hb.1 hB'))
theorem prodBox_ {P:Program}{ops:Array Oper}{Q:Exit→Act→World→Prop}{md:Region.Mode}{S:World→Prop}{fuel:Nat}{l:Array Bool}{a:Act}{w:World}(i1 i2 i3 i4 i5:Nat)(N1 N2 N3 N4:Tmp)(l1 l4 l12 l14 l123 l124 l1234 lend:Array Bool){o1:Oper}{f1:FuncId}{fn1:Func}{as1:Array Operand}{ts1:Array TypeId}{o2:Oper}{f2:FuncId}{fn2:Func}{as2:Array Operand}{ts2:Array TypeId}{o3:Oper}{f3:FuncId}{fn3:Func}{as3:Array Operand}{ts3:Array TypeId}{o4 o5:Oper}{args1 args2:Array Value}{args3:Value→Array Value}{Φ:Value→World→Prop}{v2 x y u v:Value}{t:TypeId}
  (KS:∀ w',Below w.heap.size w w'→S w') (hf1:P.funcs[f1]?=some fn1) (hf2:P.funcs[f2]?=some fn2) (hf3:P.funcs[f3]?=some fn3)
  (C1:∀ W,Below w.heap.size w W→Calls P f1 args1 W fun e W'=>∃ z,e=.returned z∧Φ z W'∧Below W.heap.size W W') (hm:∀ z W W',Φ z W→Below W.heap.size W W'→Φ z W')
  (C2:∀ W,Below w.heap.size w W→Calls P f2 args2 W fun e W'=>e=.returned v2∧Below W.heap.size W W')
  (C3:∀ z W,Φ z W→Below w.heap.size w W→Calls P f3 (args3 z) W fun e W'=>e=.returned (.agg #[u,v])∧Below W.heap.size W W')
  (h:∀ z g W,w.heap.size≤g→W.heap[g]?=some (.cells #[u,v] t (0,0))→Below w.heap.size w W→Q .normal ((((a.put (some N1) z).put (some N2) v2).put (some N3) (.agg #[u,v])).put (some N4) (.pointer (some ⟨g,0,none⟩))) W)
  (q1:ops[i1]?=some o1:=by rfl) (d1:o1.dst=some N1:=by rfl) (g1:o1.guard=none:=by rfl) (p1:o1.op=.call { callee:=.value (.func f1),args:=as1,argTypes:=ts1 }:=by rfl) (m1:(fn1.name == "runtime.NumGoroutine")=false:=by kernel_rfl) (b1:fn1.body.isSome=true:=by rfl)
  (q2:ops[i2]?=some o2:=by rfl) (d2:o2.dst=some N2:=by rfl) (g2:o2.guard=none:=by rfl) (p2:o2.op=.call { callee:=.value (.func f2),args:=as2,argTypes:=ts2 }:=by rfl) (m2:(fn2.name == "runtime.NumGoroutine")=false:=by kernel_rfl) (b2:fn2.body.isSome=true:=by rfl)
  (q3:ops[i3]?=some o3:=by rfl) (d3:o3.dst=some N3:=by rfl) (g3:o3.guard=none:=by rfl) (p3:o3.op=.call { callee:=.value (.func f3),args:=as3,argTypes:=ts3 }:=by rfl) (m3:(fn3.name == "runtime.NumGoroutine")=false:=by kernel_rfl) (b3:fn3.body.isSome=true:=by rfl)
  (q4:ops[i4]?=some o4:=by rfl) (d4:o4.dst=some N4:=by rfl) (g4:o4.guard=none:=by rfl) (hbox:∀ (a':Act) (W:World),(execOp a'.eval o4).run P W=.ok (.value (.pointer (some ⟨W.heap.size,0,none⟩))) (W.alloc (.cells #[x,y] t (0,0))):=by (intro a' W;first | (go_simp;done) | (go_simp;rfl)))
  (q5:ops[i5]?=some o5:=by rfl) (d5:o5.dst=none:=by rfl) (g5:o5.guard=none:=by rfl)
  (r0:(Region.ready md ops l==[i1,i4] && l.setIfInBounds i1 true==l1 && l.setIfInBounds i4 true==l4)=true:=by kernel_rfl) (r1:(Region.ready md ops l1==[i2,i4] && l1.setIfInBounds i2 true==l12 && l1.setIfInBounds i4 true==l14)=true:=by kernel_rfl) (r4:readyB md ops l4 l14 i1=true:=by kernel_rfl) (r12:(Region.ready md ops l12==[i3,i4] && l12.setIfInBounds i3 true==l123 && l12.setIfInBounds i4 true==l124)=true:=by kernel_rfl) (r14:readyB md ops l14 l124 i2=true:=by kernel_rfl) (r123:readyB md ops l123 l1234 i4=true:=by kernel_rfl) (r124:readyB md ops l124 l1234 i3=true:=by kernel_rfl) (r5:readyB md ops l1234 lend i5=true:=by kernel_rfl) (re:(Region.ready md ops lend==[])=true:=by kernel_rfl)
  (n14:N1≠N4:=by decide) (n24:N2≠N4:=by decide) (n34:N3≠N4:=by decide)
  (e1:∀ x4,as1.map a.eval=args1∧as1.map (a.put (some N4) x4).eval=args1:=by (intro x4;refine⟨?_,?_⟩ <;> ((try simp only [List.map_toArray,List.map_cons,List.map_nil]);first | done | rfl)))
  (e2:∀ z x4,as2.map (a.put (some N1) z).eval=args2∧as2.map ((a.put (some N1) z).put (some N4) x4).eval=args2:=by (intro z x4;refine⟨?_,?_⟩ <;> ((try simp only [List.map_toArray,List.map_cons,List.map_nil]);first | done | rfl)))
  (e3:∀ z x4,as3.map ((a.put (some N1) z).put (some N2) v2).eval=args3 z∧as3.map (((a.put (some N1) z).put (some N2) v2).put (some N4) x4).eval=args3 z:=by (intro z x4;refine⟨?_,?_⟩ <;> ((try simp only [List.map_toArray,List.map_cons,List.map_nil]);first | done | rfl)))
  (hst:∀ (z:Value) (g:Nat) (W:World),W.cell? ⟨g,0,none⟩=some x→W.cell? ⟨g,1,none⟩=some y→W.frozen? ⟨g,0,none⟩=false→W.frozen? ⟨g,1,none⟩=false→(execOp ((((a.put (some N1) z).put (some N2) v2).put (some N3) (.agg #[u,v])).put (some N4) (.pointer (some ⟨g,0,none⟩))).eval o5).run P W=.ok .skip ((W.setCell ⟨g,0,none⟩ u).setCell ⟨g,1,none⟩ v):=by (intro z g W s1 s2 s3 s4;first | (go_simp;done) | (go_simp;rfl))) :
  wpAnyLast P md ops Q S [] (fuel+1+1+1+1+1) l a w:=by
 have D1:∀ (a':Act) W,as1.map a'.eval=args1→Below w.heap.size w W→Does P ops Q o1 N1 a' W fun z W'=>Φ z W'∧Below W.heap.size W W':=fun a' W ha hb=>does_call hf1 m1 b1 g1 d1 p1 ha (C1 W hb)
 have D2:∀ (a':Act) W,as2.map a'.eval=args2→Below w.heap.size w W→Does P ops Q o2 N2 a' W fun z W'=>z=v2∧Below W.heap.size W W':=fun a' W ha hb=>does_call hf2 m2 b2 g2 d2 p2 ha ((C2 W hb).mono fun e W' hh=>⟨v2,hh.1,rfl,hh.2⟩)
 have D3:∀ (z:Value) (a':Act) W,as3.map a'.eval=args3 z→Φ z W→Below w.heap.size w W→Does P ops Q o3 N3 a' W fun q W'=>q=.agg #[u,v]∧Below W.heap.size W W':=fun z a' W ha hz hb=>does_call hf3 m3 b3 g3 d3 p3 ha ((C3 z W hz hb).mono fun e W' hh=>⟨_,hh.1,rfl,hh.2⟩)
 have D4:∀ (a':Act) W,Does P ops Q o4 N4 a' W fun z W'=>∃ g,z=.pointer (some ⟨g,0,none⟩)∧W.heap.size≤g∧W'.heap[g]?=some (.cells #[x,y] t (0,0))∧Below W.heap.size W W':=fun a' W=>does_box g4 d4 hbox
 have K1234:∀ z g W,w.heap.size≤g→W.heap[g]?=some (.cells #[x,y] t (0,0))→Below w.heap.size w W→wpAnyLast P md ops Q S [] (fuel+1) l1234 ((((a.put (some N1) z).put (some N2) v2).put (some N3) (.agg #[u,v])).put (some N4) (.pointer (some ⟨g,0,none⟩))) W:=fun z g W hg hW hB =>
  boxEnd_ lend KS q5 d5 g5 r5 re (hst z g W) hg hW hB fun W' h1 h2=>h z g W' hg h1 h2
 have K123:∀ z W,Below w.heap.size w W→wpAnyLast P md ops Q S [] (fuel+1+1) l123 (((a.put (some N1) z).put (some N2) v2).put (some N3) (.agg #[u,v])) W:=fun z W hB =>
  oneD l1234 q4 d4 r123 (D4 _ W) fun p W' ⟨g,hp,hg,hW,hb⟩=>⟨KS _ (below_step hB hb),hp▸K1234 z g W' (Nat.le_trans (below_size hB) hg) hW (below_step hB hb)⟩
 have K124:∀ z g W,Φ z W→w.heap.size≤g→W.heap[g]?=some (.cells #[x,y] t (0,0))→Below w.heap.size w W→wpAnyLast P md ops Q S [] (fuel+1+1) l124 (((a.put (some N1) z).put (some N2) v2).put (some N4) (.pointer (some ⟨g,0,none⟩))) W:=fun z g W hz hg hW hB =>
  oneD l1234 q3 d3 r124 (D3 z _ W (e3 z _).2 hz hB) fun q W' ⟨hq,hb⟩=>⟨KS _ (below_step hB hb),by rw [hq,put_comm _ n34.symm];exact K1234 z g W' hg (blk_below hW hb) (below_step hB hb)⟩
 have K12:∀ z W,Φ z W→Below w.heap.size w W→wpAnyLast P md ops Q S [] (fuel+1+1+1) l12 ((a.put (some N1) z).put (some N2) v2) W:=fun z W hz hB =>
  twoD l123 l124 q3 q4 d3 d4 r12 (D3 z _ W (e3 z .nilFunc).1 hz hB) (D4 _ W) (fun q W' ⟨hq,hb⟩=>⟨KS _ (below_step hB hb),hq▸K123 z W' (below_step hB hb)⟩) (fun p W' ⟨g,hp,hg,hW,hb⟩=>⟨KS _ (below_step hB hb),hp▸K124 z g W' (hm _ _ _ hz hb) (Nat.le_trans (below_size hB) hg) hW (below_step hB hb)⟩)
 have K14:∀ z g W,Φ z W→w.heap.size≤g→W.heap[g]?=some (.cells #[x,y] t (0,0))→Below w.heap.size w W→wpAnyLast P md ops Q S [] (fuel+1+1+1) l14 ((a.put (some N1) z).put (some N4) (.pointer (some ⟨g,0,none⟩))) W:=fun z g W hz hg hW hB =>
  oneD l124 q2 d2 r14 (D2 _ W (e2 z _).2 hB) fun q W' ⟨hq,hb⟩=>⟨KS _ (below_step hB hb),by rw [hq,put_comm _ n24.symm];exact K124 z g W' (hm _ _ _ hz hb) hg (blk_below hW hb) (below_step hB hb)⟩
 refine twoD l1 l4 q1 q4 d1 d4 r0 (D1 a w (e1 v2).1 (Below.refl _ _)) (D4 a w) ?_ ?_
 ·
  rintro z W ⟨hz,hb⟩;refine⟨KS _ hb,twoD l12 l14 q2 q4 d2 d4 r1 (D2 _ W (e2 z v2).1 hb) (D4 _ W) ?_ ?_⟩
  ·
   rintro q W' ⟨rfl,hb2⟩;exact⟨KS _ (below_step hb hb2),K12 z W' (hm _ _ _ hz hb2) (below_step hb hb2)⟩
  ·
   rintro q W' ⟨g,rfl,hg,hW,hb2⟩;exact⟨KS _ (below_step hb hb2),K14 z g W' (hm _ _ _ hz hb2) (Nat.le_trans (below_size hb) hg) hW (below_step hb hb2)⟩
 ·
  rintro p W ⟨g,rfl,hg,hW,hb⟩;refine⟨KS _ hb,oneD l14 q1 d1 r4 (D1 _ W (e1 _).2 hb) ?_⟩;rintro z W' ⟨hz,hb2⟩;refine⟨KS _ (below_step hb hb2),?_⟩;rw [put_comm _ n14.symm];exact K14 z g W' hz hg (blk_below hW hb2) (below_step hb hb2)
theorem chainBox_ {P:Program}{ops:Array Oper}{Q:Exit→Act→World→Prop}{md:Region.Mode}{S:World→Prop}{fuel:Nat}{l:Array Bool}{a:Act}{w:World}(i2 i3 i4 i5:Nat)(N2 N3 N4:Tmp)(l2 l4 l23 l24 l234 lend:Array Bool){o2:Oper}{f2:FuncId}{fn2:Func}{as2:Array Operand}{ts2:Array TypeId}{o3:Oper}{f3:FuncId}{fn3:Func}{as3:Array Operand}{ts3:Array TypeId}{o4 o5:Oper}{args2 args3:Array Value}{v2 x y u v:Value}{t:TypeId}
  (KS:∀ w',Below w.heap.size w w'→S w') (hf2:P.funcs[f2]?=some fn2) (hf3:P.funcs[f3]?=some fn3)
  (C2:∀ W,Below w.heap.size w W→Calls P f2 args2 W fun e W'=>e=.returned v2∧Below W.heap.size W W')
  (C3:∀ W,Below w.heap.size w W→Calls P f3 args3 W fun e W'=>e=.returned (.agg #[u,v])∧Below W.heap.size W W')
  (h:∀ g W,w.heap.size≤g→W.heap[g]?=some (.cells #[u,v] t (0,0))→Below w.heap.size w W→Q .normal (((a.put (some N2) v2).put (some N3) (.agg #[u,v])).put (some N4) (.pointer (some ⟨g,0,none⟩))) W)
  (q2:ops[i2]?=some o2:=by rfl) (d2:o2.dst=some N2:=by rfl) (g2:o2.guard=none:=by rfl) (p2:o2.op=.call { callee:=.value (.func f2),args:=as2,argTypes:=ts2 }:=by rfl) (m2:(fn2.name == "runtime.NumGoroutine")=false:=by kernel_rfl) (b2:fn2.body.isSome=true:=by rfl)
  (q3:ops[i3]?=some o3:=by rfl) (d3:o3.dst=some N3:=by rfl) (g3:o3.guard=none:=by rfl) (p3:o3.op=.call { callee:=.value (.func f3),args:=as3,argTypes:=ts3 }:=by rfl) (m3:(fn3.name == "runtime.NumGoroutine")=false:=by kernel_rfl) (b3:fn3.body.isSome=true:=by rfl)
  (q4:ops[i4]?=some o4:=by rfl) (d4:o4.dst=some N4:=by rfl) (g4:o4.guard=none:=by rfl) (hbox:∀ (a':Act) (W:World),(execOp a'.eval o4).run P W=.ok (.value (.pointer (some ⟨W.heap.size,0,none⟩))) (W.alloc (.cells #[x,y] t (0,0))):=by (intro a' W;first | (go_simp;done) | (go_simp;rfl)))
  (q5:ops[i5]?=some o5:=by rfl) (d5:o5.dst=none:=by rfl) (g5:o5.guard=none:=by rfl)
  (r0:(Region.ready md ops l==[i2,i4] && l.setIfInBounds i2 true==l2 && l.setIfInBounds i4 true==l4)=true:=by kernel_rfl) (r2:(Region.ready md ops l2==[i3,i4] && l2.setIfInBounds i3 true==l23 && l2.setIfInBounds i4 true==l24)=true:=by kernel_rfl) (r4:readyB md ops l4 l24 i2=true:=by kernel_rfl) (r23:readyB md ops l23 l234 i4=true:=by kernel_rfl) (r24:readyB md ops l24 l234 i3=true:=by kernel_rfl) (r5:readyB md ops l234 lend i5=true:=by kernel_rfl) (re:(Region.ready md ops lend==[])=true:=by kernel_rfl)
  (n24:N2≠N4:=by decide) (n34:N3≠N4:=by decide)
  (e2:∀ x4,as2.map a.eval=args2∧as2.map (a.put (some N4) x4).eval=args2:=by (intro x4;refine⟨?_,?_⟩ <;> ((try simp only [List.map_toArray,List.map_cons,List.map_nil]);first | done | rfl)))
  (e3:∀ x4,as3.map (a.put (some N2) v2).eval=args3∧as3.map ((a.put (some N2) v2).put (some N4) x4).eval=args3:=by (intro x4;refine⟨?_,?_⟩ <;> ((try simp only [List.map_toArray,List.map_cons,List.map_nil]);first | done | rfl)))
  (hst:∀ (g:Nat) (W:World),W.cell? ⟨g,0,none⟩=some x→W.cell? ⟨g,1,none⟩=some y→W.frozen? ⟨g,0,none⟩=false→W.frozen? ⟨g,1,none⟩=false→(execOp (((a.put (some N2) v2).put (some N3) (.agg #[u,v])).put (some N4) (.pointer (some ⟨g,0,none⟩))).eval o5).run P W=.ok .skip ((W.setCell ⟨g,0,none⟩ u).setCell ⟨g,1,none⟩ v):=by (intro g W s1 s2 s3 s4;first | (go_simp;done) | (go_simp;rfl))) :
  wpAnyLast P md ops Q S [] (fuel+1+1+1+1) l a w:=by
 have D2:∀ (a':Act) W,as2.map a'.eval=args2→Below w.heap.size w W→Does P ops Q o2 N2 a' W fun z W'=>z=v2∧Below W.heap.size W W':=fun a' W ha hb=>does_call hf2 m2 b2 g2 d2 p2 ha ((C2 W hb).mono fun e W' hh=>⟨v2,hh.1,rfl,hh.2⟩)
 have D3:∀ (a':Act) W,as3.map a'.eval=args3→Below w.heap.size w W→Does P ops Q o3 N3 a' W fun q W'=>q=.agg #[u,v]∧Below W.heap.size W W':=fun a' W ha hb=>does_call hf3 m3 b3 g3 d3 p3 ha ((C3 W hb).mono fun e W' hh=>⟨_,hh.1,rfl,hh.2⟩)
 have D4:∀ (a':Act) W,Does P ops Q o4 N4 a' W fun z W'=>∃ g,z=.pointer (some ⟨g,0,none⟩)∧W.heap.size≤g∧W'.heap[g]?=some (.cells #[x,y] t (0,0))∧Below W.heap.size W W':=fun a' W=>does_box g4 d4 hbox
 have K234:∀ g W,w.heap.size≤g→W.heap[g]?=some (.cells #[x,y] t (0,0))→Below w.heap.size w W→wpAnyLast P md ops Q S [] (fuel+1) l234 (((a.put (some N2) v2).put (some N3) (.agg #[u,v])).put (some N4) (.pointer (some ⟨g,0,none⟩))) W:=fun g W hg hW hB =>
  boxEnd_ lend KS q5 d5 g5 r5 re (hst g W) hg hW hB fun W' h1 h2=>h g W' hg h1 h2
 have K24:∀ g W,w.heap.size≤g→W.heap[g]?=some (.cells #[x,y] t (0,0))→Below w.heap.size w W→wpAnyLast P md ops Q S [] (fuel+1+1) l24 ((a.put (some N2) v2).put (some N4) (.pointer (some ⟨g,0,none⟩))) W:=fun g W hg hW hB =>
  oneD l234 q3 d3 r24 (D3 _ W (e3 _).2 hB) fun q W' ⟨hq,hb⟩=>⟨KS _ (below_step hB hb),by rw [hq,put_comm _ n34.symm];exact K234 g W' hg (blk_below hW hb) (below_step hB hb)⟩
 refine twoD l2 l4 q2 q4 d2 d4 r0 (D2 a w (e2 v2).1 (Below.refl _ _)) (D4 a w) ?_ ?_
 ·
  rintro q W ⟨rfl,hb⟩;refine⟨KS _ hb,twoD l23 l24 q3 q4 d3 d4 r2 (D3 _ W (e3 q).1 hb) (D4 _ W) ?_ ?_⟩
  ·
   rintro q2 W' ⟨rfl,hb2⟩;refine⟨KS _ (below_step hb hb2),oneD l234 q4 d4 r23 (D4 _ W') ?_⟩;rintro p W2 ⟨g,rfl,hg,hW,hb3⟩;exact⟨KS _ (below_step (below_step hb hb2) hb3),K234 g W2 (Nat.le_trans (below_size (below_step hb hb2)) hg) hW (below_step (below_step hb hb2) hb3)⟩
  ·
   rintro p W' ⟨g,rfl,hg,hW,hb2⟩;exact⟨KS _ (below_step hb hb2),K24 g W' (Nat.le_trans (below_size hb) hg) hW (below_step hb hb2)⟩
 ·
  rintro p W ⟨g,rfl,hg,hW,hb⟩;refine⟨KS _ hb,oneD l24 q2 d2 r4 (D2 _ W (e2 _).2 hb) ?_⟩;rintro q W' ⟨rfl,hb2⟩;refine⟨KS _ (below_step hb hb2),?_⟩;rw [put_comm _ n24.symm];exact K24 g W' hg (blk_below hW hb2) (below_step hb hb2)
theorem qe {P:Program}{ops:Array Oper}{Q:Exit→Act→World→Prop}{md:Region.Mode}{S:World→Prop}{fuel:Nat}{l:Array Bool}{a:Act}{w:World}{N:Tmp}(i:Nat)(l':Array Bool){oi:Oper}{f:FuncId}{fn:Func}{as0:Array Operand}{ts:Array TypeId}{args:Array Value}{Φ:Value→World→Prop}(hf:P.funcs[f]?=some fn)
  (hcall:Calls P f args w fun e W'=>∃ z,e=.returned z∧Φ z W'∧Below w.heap.size w W') (hS:∀ w',Below w.heap.size w w'→S w')
  (h:∀ z w',Φ z w'→Below w.heap.size w w'→S w'→wpAnyLast P md ops Q S [] fuel l' (a.put (some N) z) w')
  (hi:ops[i]?=some oi:=by rfl) (hN:oi.dst=some N:=by rfl) (hc:readyB md ops l l' i=true:=by kernel_rfl)
  (g:oi.guard=none:=by rfl) (hname:(fn.name == "runtime.NumGoroutine")=false:=by kernel_rfl) (hb:fn.body.isSome=true:=by rfl)
  (hop:oi.op=.call { callee:=.value (.func f),args:=as0,argTypes:=ts }:=by rfl)
  (ha1:as0.map a.eval=args:=by (try simp only [List.map_toArray,List.map_cons,List.map_nil]);first | done | rfl):wpAnyLast P md ops Q S [] (fuel+1) l a w:=
 oneD l' hi hN hc (does_call hf hname hb g hN hop ha1 hcall) fun z w' hz=>⟨hS _ hz.2,h z w' hz.1 hz.2 (hS _ hz.2)⟩
end Go.Proofs.YtkefmnmoaomlhaaDoor.X
end
section
namespace Go.Proofs.YtkefmnmoaomlhaaDoor.X
open Go.RowKit Go.Proofs.YtkefmnmoaomlhaaDoorW.PrintWords Go.Proofs.YtkefmnmoaomlhaaDoorW.PrintLast Go.Proofs.YtkefmnmoaomlhaaDoorW.PrintMore
attribute [local go_sem] max2_int min2_int max_two min_two max_three min_three max_four min_four
set_option linter.unusedVariables false
set_option linter.unusedSimpArgs false
def laws_eqFrac.f (a0_0:Int)(a0_1:Int)(a1_0:Int)(a1_1:Int):Option (Bool):=if a0_0=a1_0 then (if a0_1=a1_1 then (some true) else (some false)) else (some false)
set_option maxHeartbeats 8000000 in
set_option maxRecDepth 100000 in
theorem laws_eqFrac.calls (a0_0:Int)(a0_1:Int)(a1_0:Int)(a1_1:Int)(r:Bool)(w:World)(h:laws_eqFrac.f a0_0 a0_1 a1_0 a1_1=some r):
  Calls Tryd.prog 32 #[.agg #[.int .i64 a0_0,.int .i64 a0_1],.agg #[.int .i64 a1_0,.int .i64 a1_1]] w fun e w'=>e=.returned (.bool r)∧Below w.heap.size w w':=by
 have hu35:=Tryd.underlying35;have HB:=a0_ (Below.refl w.heap.size w);have H:(if a0_0=a1_0 then (if a0_1=a1_1 then (some true) else (some false)) else (some false))=some r:=h;clear h;by_cases c3:a0_0=a1_0
 ·
  rw [if_pos c3] at H;have c3b0:(a0_0==a1_0)=true:=beq_iff_eq.mpr c3;have c3b1:(a0_0 != a1_0)=false:=bne_eq_false_iff_eq.mpr c3;clear c3;by_cases c4:a0_1=a1_1
  ·
   rw [if_pos c4] at H;have c4b0:(a0_1==a1_1)=true:=beq_iff_eq.mpr c4;have c4b1:(a0_1 != a1_1)=false:=bne_eq_false_iff_eq.mpr c4;clear c4;obtain rfl:=Option.some.inj H;go_enter Tryd.func32,Tryd.ntmps32;go_wp2_with (first | ((with_reducible refine gate_dst (N:=2) rfl ?_);refine bx_ (N:=2) (cs:=#[.int .i64 a0_0,.int .i64 a0_1]) (t:=35) (h:=?_);intro gb631 hg w5 hbox hb;have BK631:=a0_ (hbox);have GW631:=gh_ HB hg;have GE631:=gh_ HB hg;replace HB:=sb_ HB hb;clear hb hbox hg) | ((with_reducible refine gate_dst (N:=3) rfl ?_);refine bx_ (N:=3) (cs:=#[.int .i64 a1_0,.int .i64 a1_1]) (t:=35) (h:=?_);intro gb632 hg w6 hbox hb;have BK632:=a0_ (hbox);have GW632:=gh_ HB hg;have GE632:=gh_ HB hg;have NB631_632:=nl_ BK631 hg;have NB632_631:=nr_ BK631 hg;replace BK631:=vb_ BK631 hb;replace HB:=sb_ HB hb;clear hb hbox hg;have hnb7:=NB631_632.out;have hnc7:=NB632_631.out;have hcz8_0:=c20_ BK631;have hcz8_1:=c21_ BK631;have hfz8_0:=fz_ BK631 0;have hfz8_1:=fz_ BK631 1;have hcz9_0:=c20_ BK632;have hcz9_1:=c21_ BK632;have hfz9_0:=fz_ BK632 0;have hfz9_1:=fz_ BK632 1));go_ret;exact⟨rr_,hB_⟩
  ·
   rw [if_neg c4] at H;have c4b0:(a0_1==a1_1)=false:=beq_eq_false_iff_ne.mpr c4;have c4b1:(a0_1 != a1_1)=true:=bne_iff_ne.mpr c4;obtain rfl:=Option.some.inj H;go_enter Tryd.func32,Tryd.ntmps32;go_wp2_with (first | ((with_reducible refine gate_dst (N:=2) rfl ?_);refine bx_ (N:=2) (cs:=#[.int .i64 a0_0,.int .i64 a0_1]) (t:=35) (h:=?_);intro gb631 hg w10 hbox hb;have BK631:=a0_ (hbox);have GW631:=gh_ HB hg;have GE631:=gh_ HB hg;replace HB:=sb_ HB hb;clear hb hbox hg) | ((with_reducible refine gate_dst (N:=3) rfl ?_);refine bx_ (N:=3) (cs:=#[.int .i64 a1_0,.int .i64 a1_1]) (t:=35) (h:=?_);intro gb632 hg w11 hbox hb;have BK632:=a0_ (hbox);have GW632:=gh_ HB hg;have GE632:=gh_ HB hg;have NB631_632:=nl_ BK631 hg;have NB632_631:=nr_ BK631 hg;replace BK631:=vb_ BK631 hb;replace HB:=sb_ HB hb;clear hb hbox hg;have hnb12:=NB631_632.out;have hnc12:=NB632_631.out;have hcz13_0:=c20_ BK631;have hcz13_1:=c21_ BK631;have hfz13_0:=fz_ BK631 0;have hfz13_1:=fz_ BK631 1;have hcz14_0:=c20_ BK632;have hcz14_1:=c21_ BK632;have hfz14_0:=fz_ BK632 0;have hfz14_1:=fz_ BK632 1));go_ret;exact⟨rr_,hB_⟩
 ·
  rw [if_neg c3] at H;have c3b0:(a0_0==a1_0)=false:=beq_eq_false_iff_ne.mpr c3;have c3b1:(a0_0 != a1_0)=true:=bne_iff_ne.mpr c3;obtain rfl:=Option.some.inj H;go_enter Tryd.func32,Tryd.ntmps32;go_wp2_with (first | ((with_reducible refine gate_dst (N:=2) rfl ?_);refine bx_ (N:=2) (cs:=#[.int .i64 a0_0,.int .i64 a0_1]) (t:=35) (h:=?_);intro gb631 hg w15 hbox hb;have BK631:=a0_ (hbox);have GW631:=gh_ HB hg;have GE631:=gh_ HB hg;replace HB:=sb_ HB hb;clear hb hbox hg) | ((with_reducible refine gate_dst (N:=3) rfl ?_);refine bx_ (N:=3) (cs:=#[.int .i64 a1_0,.int .i64 a1_1]) (t:=35) (h:=?_);intro gb632 hg w16 hbox hb;have BK632:=a0_ (hbox);have GW632:=gh_ HB hg;have GE632:=gh_ HB hg;have NB631_632:=nl_ BK631 hg;have NB632_631:=nr_ BK631 hg;replace BK631:=vb_ BK631 hb;replace HB:=sb_ HB hb;clear hb hbox hg;have hnb17:=NB631_632.out;have hnc17:=NB632_631.out;have hcz18_0:=c20_ BK631;have hcz18_1:=c21_ BK631;have hfz18_0:=fz_ BK631 0;have hfz18_1:=fz_ BK631 1;have hcz19_0:=c20_ BK632;have hcz19_1:=c21_ BK632;have hfz19_0:=fz_ BK632 0;have hfz19_1:=fz_ BK632 1));go_ret;exact⟨rr_,hB_⟩
end Go.Proofs.YtkefmnmoaomlhaaDoor.X
end
section
set_option linter.unusedVariables false
set_option linter.unusedSimpArgs false
namespace Go.Proofs.YtkefmnmoaomlhaaDoor.X
open Go.RowKit Go.Shelf Go.Proofs.YtkefmnmoaomlhaaDoorW.PrintWords Go.Proofs.YtkefmnmoaomlhaaDoorW.PrintLast Go.Proofs.YtkefmnmoaomlhaaDoorW.PrintMore
open Mort (ptOk plateOk plateFar fracCmp)
set_option maxHeartbeats 4000000 in
set_option maxRecDepth 100000 in
theorem exactFar_calls (A:Option Addr)(c:Nat)(B:Option Addr)(d:Nat)(zs:List S45)(Z:List (List S45))(x y:Int)(w:World)(hP:LPlateAt w A c B d zs Z)(hE:ErrW w):
  Calls Tryd.prog 6 #[.agg #[.slice A zs.length c,.slice B Z.length d],.agg #[.int .i64 x,.int .i64 y]] w fun e w'=>e=.returned (.bool true)∧Below w.heap.size w w':=by
 have hu26:=Tryd.underlying26;have hu28:=Tryd.underlying28;have hu35:=Tryd.underlying35;have hu44:=Tryd.underlying44;have hu45:=Tryd.underlying45;have hal:=below_alloc (below_alloc (Below.refl w.heap.size w) (.cells #[.slice A zs.length c,.slice B Z.length d] 44)) (.cells #[.int .i64 x,.int .i64 y] 45);obtain⟨r,hsz,hr⟩:=(hP.later hal).size;have HP:=a0_ (And.intro hP (And.intro hE (And.intro hal hsz)));clear hP hE hal hsz;by_cases h0:r<0
 ·
  have h0b:decide (r<0)=true:=decide_eq_true h0;clear h0 hr;go_enter Tryd.func6,Tryd.ntmps6;go_wp2_with (go_at_call 24;(with_reducible refine HP.out.2.2.2.mono ?_);rintro e w1 ⟨rfl,hb1⟩);go_ret;exact⟨rfl,below_step HP.out.2.2.1 hb1⟩
 have h0b:decide (r<0)=false:=decide_eq_false h0;have HS:=a0_ (hr.resolve_left h0);clear h0 hr;go_enter Tryd.func6,Tryd.ntmps6;go_wp2_with (go_at_call 24;(with_reducible refine HP.out.2.2.2.mono ?_);rintro e w1 ⟨rfl,hb1⟩);have N1:=blk_later (blk_alloc (blk_new w (.cells #[.slice A zs.length c,.slice B Z.length d] 44 (0,0))) (.cells #[.int .i64 x,.int .i64 y] 45)) hb1;have N2:=blk_new (w.alloc (.cells #[.slice A zs.length c,.slice B Z.length d] 44)) (.cells #[.int .i64 x,.int .i64 y] 45 (0,0));rw [World.size_alloc] at N2;replace N2:=blk_later N2 hb1;have hBw:=below_step HP.out.2.2.1 hb1;have hPl:=HP.out.1.later hBw;have hEw:=HP.out.2.1.below hBw;have HB:=Aside0.mk hBw;have HL:=Aside0.mk hPl;have HN:=a0_ (And.intro N1 (And.intro N2 hEw));have c1:w1.cell? ⟨w.heap.size,0,none⟩=some (.slice A zs.length c):=(blk_cell N1 0).trans rfl;have c2:w1.cell? ⟨w.heap.size,1,none⟩=some (.slice B Z.length d):=(blk_cell N1 1).trans rfl;have c3:w1.cell? ⟨w.heap.size+1,0,none⟩=some (.int .i64 x):=(blk_cell N2 0).trans rfl;have c4:w1.cell? ⟨w.heap.size+1,1,none⟩=some (.int .i64 y):=(blk_cell N2 1).trans rfl;clear hBw hPl hEw N1 N2 hb1;obtain⟨⟨f1,f2⟩,hF⟩:∃ F,plateFar (pl (cvO zs) (cvH Z)) (x,y)=F:=⟨_,rfl⟩;have HF:=Aside0.mk hF;clear hF;have KS:∀ w',Below w1.heap.size w1 w'→(fun w'=>w'.cell? ⟨w.heap.size,0,none⟩=some (.slice A zs.length c)∧w'.cell? ⟨w.heap.size,1,none⟩=some (.slice B Z.length d)∧w'.cell? ⟨w.heap.size+1,0,none⟩=some (.int .i64 x)∧w'.cell? ⟨w.heap.size+1,1,none⟩=some (.int .i64 y)) w':=fun w' hb=>⟨pw_cell_below hb c1,pw_cell_below hb c2,pw_cell_below hb c3,pw_cell_below hb c4⟩
 have hdr:Below w1.heap.size w1 w1.drew:=below_drew1 (Below.refl _ _);refine start_ (n:=7) (S:=fun w'=>w'.cell? ⟨w.heap.size,0,none⟩=some (.slice A zs.length c)∧w'.cell? ⟨w.heap.size,1,none⟩=some (.slice B Z.length d)∧w'.cell? ⟨w.heap.size+1,0,none⟩=some (.int .i64 x)∧w'.cell? ⟨w.heap.size+1,1,none⟩=some (.int .i64 y)) (ds:=[]) (qm 7 0) (by kernel_rfl) rfl rfl (KS _ hdr) (fun hH=>?_);refine qt4 0 14 (qm 7 1) hH ?_;refine qt4 2 16 (qm 7 5) hH ?_;refine prodBox_ 1 3 4 5 6 15 17 18 6 (qm 7 7) (qm 7 37) (qm 7 15) (qm 7 39) (qm 7 31) (qm 7 47) (qm 7 63) (qm 7 127)
  (args3:=fun z=>#[z,.agg #[.int .i64 x,.int .i64 y]]) (Φ:=fun z W=>∃ A c B d,z=.agg #[.slice A (cvO zs).length c,.slice B (cvH Z).length d]∧PlateAt W A c B d (cvO zs) (cvH Z)) (u:=.int .i64 f1) (v:=.int .i64 f2)
  (fun w' hb=>KS _ (below_step hdr hb)) Tryd.func26 Tryd.func27 Tryd.func31
  (fun W hb=>((HL.out.later (below_step hdr hb)).copy HS.out).mono ?_) ?_ (fun W hb=>toPt_told x y W) ?_ ?_
 ·
  rintro e w' ⟨A2,c2,B2,d2,rfl,h1,h2⟩;exact⟨_,rfl,⟨A2,c2,B2,d2,rfl,h1⟩,h2⟩
 ·
  rintro z W W' ⟨A2,c2,B2,d2,rfl,h1⟩ hb;exact⟨A2,c2,B2,d2,rfl,h1.later hb⟩
 ·
  rintro z W ⟨A2,c2,B2,d2,rfl,h1⟩ hb;exact h1.sFar HF.out
 intro z g W hg hbx hb;simp only [Act.put,List.setIfInBounds_toArray,List.set_cons_zero,List.set_cons_succ];have hbW:=below_step hdr hb;have HW:=a0_ (And.intro (HL.out.later hbW) (And.intro (below_step HB.out hbW) (And.intro (blk_later HN.out.1 hbW) (And.intro (blk_later HN.out.2.1 hbW) (And.intro (HN.out.2.2.below hbW) hbx)))));have c5:=pw_cell_below hbW c1;have c6:=pw_cell_below hbW c2;clear hb hbW hH hdr KS c1 c2 c3 c4 HN HL HB HP hg hbx;go_wp2_with (go_at_call 26;(with_reducible refine (HW.out.1.copy HS.out).mono ?_);rintro e w2 ⟨A2,c2,B2,d2,rfl,hP2,hb2⟩;have HX:=a0_ (And.intro hP2 hb2);clear hP2 hb2);have hal:=below_alloc (Below.refl w2.heap.size w2) (.cells #[.slice A2 (cvO zs).length c2,.slice B2 (cvH Z).length d2] 26);have hV:=below_step HX.out.2 hal;have N3:=blk_new w2 (.cells #[.slice A2 (cvO zs).length c2,.slice B2 (cvH Z).length d2] 26 (0,0));have HV:=a0_ (And.intro (HW.out.1.later hV) (And.intro (below_step HW.out.2.1 hV) (And.intro (blk_later HW.out.2.2.1 hV) (And.intro (blk_later HW.out.2.2.2.1 hV) (And.intro (HW.out.2.2.2.2.1.below hV) (And.intro (blk_later HW.out.2.2.2.2.2 hV) (And.intro N3 (HX.out.1.later hal))))))));clear N3 hV hal HX HW c5 c6;generalize w2.alloc (.cells #[.slice A2 (cvO zs).length c2,.slice B2 (cvH Z).length d2] 26)=V at *;generalize w2.heap.size=g2 at *;have KS:∀ w',Below V.heap.size V w'→(fun w'=>w'.cell? ⟨g2,0,none⟩=some (.slice A2 (cvO zs).length c2)∧w'.cell? ⟨g2,1,none⟩=some (.slice B2 (cvH Z).length d2)∧w'.cell? ⟨w.heap.size+1,0,none⟩=some (.int .i64 x)∧w'.cell? ⟨w.heap.size+1,1,none⟩=some (.int .i64 y)) w':=fun w' hb=>⟨(blk_cell (blk_later HV.out.2.2.2.2.2.2.1 hb) 0).trans rfl,(blk_cell (blk_later HV.out.2.2.2.2.2.2.1 hb) 1).trans rfl,(blk_cell (blk_later HV.out.2.2.2.1 hb) 0).trans rfl,(blk_cell (blk_later HV.out.2.2.2.1 hb) 1).trans rfl⟩
 have hdr:Below V.heap.size V V.drew:=below_drew1 (Below.refl _ _);refine start_ (n:=6) (S:=fun w'=>w'.cell? ⟨g2,0,none⟩=some (.slice A2 (cvO zs).length c2)∧w'.cell? ⟨g2,1,none⟩=some (.slice B2 (cvH Z).length d2)∧w'.cell? ⟨w.heap.size+1,0,none⟩=some (.int .i64 x)∧w'.cell? ⟨w.heap.size+1,1,none⟩=some (.int .i64 y)) (ds:=[]) (qm 6 0) (by kernel_rfl) rfl rfl (KS _ hdr) (fun hH=>?_);refine qt4 0 21 (qm 6 1) hH ?_;refine qt4 1 22 (qm 6 3) hH ?_;refine chainBox_ 2 3 4 5 23 24 8 (qm 6 7) (qm 6 19) (qm 6 15) (qm 6 23) (qm 6 31) (qm 6 63) (u:=.int .i64 f1) (v:=.int .i64 f2) (fun w' hb=>KS _ (below_step hdr hb)) Tryd.func27 Tryd.func22 (fun W hb=>toPt_told x y W) (fun W hb=>(HV.out.2.2.2.2.2.2.2.later (below_step hdr hb)).iFar (HV.out.2.2.2.2.1.below (below_step hdr hb)) HF.out) ?_;intro g3 U hg hbx hb;simp only [Act.put,List.setIfInBounds_toArray,List.set_cons_zero,List.set_cons_succ];have hbU:=below_step hdr hb;have HU:=a0_ (And.intro (HV.out.1.later hbU) (And.intro (below_step HV.out.2.1 hbU) (And.intro (blk_later HV.out.2.2.1 hbU) (And.intro (blk_later HV.out.2.2.2.2.2.1 hbU) (And.intro hbx (And.intro (blk_later HV.out.2.2.2.2.2.2.1 hbU) (HV.out.2.2.2.2.2.2.2.later hbU)))))));have c1:U.cell? ⟨g3,0,none⟩=some (.int .i64 f1):=(blk_cell HU.out.2.2.2.2.1 0).trans rfl;have c2':U.cell? ⟨g3,1,none⟩=some (.int .i64 f2):=(blk_cell HU.out.2.2.2.2.1 1).trans rfl;have c3:U.cell? ⟨g,0,none⟩=some (.int .i64 f1):=(blk_cell HU.out.2.2.2.1 0).trans rfl;have c4:U.cell? ⟨g,1,none⟩=some (.int .i64 f2):=(blk_cell HU.out.2.2.2.1 1).trans rfl;clear hg hbx hb hbU hH hdr KS HV HF;go_wp2_with (go_at_call 32;(with_reducible refine (laws_eqFrac.calls f1 f2 f1 f2 true _ (by unfold laws_eqFrac.f;simp)).mono ?_);rintro e w3 ⟨rfl,hb3⟩;have HB3:=Aside0.mk hb3;clear hb3)
 have HT:=a0_ (And.intro (HU.out.1.later HB3.out) (And.intro (below_step HU.out.2.1 HB3.out) (And.intro (blk_later HU.out.2.2.1 HB3.out) (And.intro (blk_later HU.out.2.2.2.2.2.1 HB3.out) (HU.out.2.2.2.2.2.2.later HB3.out)))));clear HB3 HU c1 c2' c3 c4;have KS:∀ w',Below w3.heap.size w3 w'→(fun w'=>w'.cell? ⟨g2,0,none⟩=some (.slice A2 (cvO zs).length c2)∧w'.cell? ⟨g2,1,none⟩=some (.slice B2 (cvH Z).length d2)∧w'.cell? ⟨w.heap.size,0,none⟩=some (.slice A zs.length c)∧w'.cell? ⟨w.heap.size,1,none⟩=some (.slice B Z.length d)) w':=fun w' hb=>⟨(blk_cell (blk_later HT.out.2.2.2.1 hb) 0).trans rfl,(blk_cell (blk_later HT.out.2.2.2.1 hb) 1).trans rfl,(blk_cell (blk_later HT.out.2.2.1 hb) 0).trans rfl,(blk_cell (blk_later HT.out.2.2.1 hb) 1).trans rfl⟩
 have hdr:Below w3.heap.size w3 w3.drew:=below_drew1 (Below.refl _ _);refine start_ (n:=5) (S:=fun w'=>w'.cell? ⟨g2,0,none⟩=some (.slice A2 (cvO zs).length c2)∧w'.cell? ⟨g2,1,none⟩=some (.slice B2 (cvH Z).length d2)∧w'.cell? ⟨w.heap.size,0,none⟩=some (.slice A zs.length c)∧w'.cell? ⟨w.heap.size,1,none⟩=some (.slice B Z.length d)) (ds:=[]) (qm 5 0) (by kernel_rfl) rfl rfl (KS _ hdr) (fun hH=>?_);refine qt4 0 29 (qm 5 1) hH ?_;refine qt4 1 30 (qm 5 3) hH ?_;refine qe 2 (qm 5 7) (Φ:=fun z W=>∃ A5 c5 B5 d5,z=.agg #[.slice A5 (cvO zs).length c5,.slice B5 (cvH Z).length d5]∧PlateAt W A5 c5 B5 d5 (cvO zs) (cvH Z)) Tryd.func26 (((HT.out.1.later hdr).copy HS.out).mono ?_) (fun _ h=>KS _ (below_step hdr h)) ?_
 ·
  rintro e w' ⟨A5,c5,B5,d5,rfl,h5,h6⟩;exact⟨_,rfl,⟨A5,c5,B5,d5,rfl,h5⟩,h6⟩
 rintro z2 w4 ⟨A5,c5,B5,d5,rfl,h5⟩ h6 hH4;have hb4:=below_step hdr h6;simp only [Act.put,List.setIfInBounds_toArray,List.set_cons_zero,List.set_cons_succ];refine qc 3 32 (qm 5 15) Tryd.func29 (same_told (HT.out.2.2.2.2.later hb4) h5 HS.out) (fun _ h=>KS _ (below_step hb4 h)) ?_;intro w5 hb5 hH5;refine qp 4 33 (qm 5 31) ?_;refine done_ (by kernel_rfl) ?_;go_wp2;go_ret;exact⟨rfl,below_step (below_step HT.out.2.1 hb4) hb5⟩
end Go.Proofs.YtkefmnmoaomlhaaDoor.X
end
section
set_option linter.unusedVariables false
set_option linter.unusedSimpArgs false
namespace Go.Proofs.YtkefmnmoaomlhaaDoor.X
open Go Go.Deep Go.ChangeShapes Go.WideShapes Go.ChangeAt Go.RowKit Go.Joins Go.Proofs.YtkefmnmoaomlhaaDoorW.PrintWords Go.Proofs.YtkefmnmoaomlhaaDoorW.PrintLast
theorem cellsLPt:Tryd.prog.cellsOf 45=2:=by kernel_rfl
theorem cellsInt:Tryd.prog.cellsOf 3=1:=by kernel_rfl
theorem cellsLPts:Tryd.prog.cellsOf 41=1:=by kernel_rfl
theorem cellsLPtss:Tryd.prog.cellsOf 42=1:=by kernel_rfl
theorem cellsLPlate:Tryd.prog.cellsOf 44=2:=by kernel_rfl
section
variable {H:Type} {enc:TypeId × Value→H} {w:World} {base:Nat} {spare:Nat→Bool} {held:Bool}
theorem one_int {fuel:Nat}{v:Value}{d:DataW H}{p:List MemPlace}(h:DataW.trod enc Tryd.prog w base spare held fuel 3 [v]=some (d,p)):∃ z:Int,v=.int .i64 z:=by
 obtain⟨z,e,_⟩:=DataW.trod_int Tryd.underlying3 h;exact⟨z,by simpa using e⟩
theorem open_ptsC {fuel:Nat}{v:Value}{x:DataW H × List MemPlace}(h:DataW.trod enc Tryd.prog w base spare held fuel 41 [v]=some x):∃ A c zs,v=.slice A (List.length zs) c∧List.length zs≤c∧Kd.C k45 w A (List.length zs) zs:=by
 rcases open_slice_pairs Tryd.underlying41 Tryd.underlying45 cellsLPt rfl rfl cellsInt cellsInt h with ⟨hcs,_⟩ | ⟨a,len,cap,m,n,V0,V1,D0,D1,P0,P1,hcs,_,hl,hm,hmm,_,hx⟩
 ·
  simp only [List.cons.injEq,and_true] at hcs;subst hcs;exact⟨none,0,[],rfl,Nat.le_refl _,Kd.C_nil _ _⟩
 ·
  simp only [List.cons.injEq,and_true] at hcs;subst hcs;have hlm:len≤m:=by rw [hmm];split <;> omega
  obtain⟨q,hq⟩:=choose_lt (α:=Int × Int) (p:=fun i z=>V0 i=.int .i64 z.1∧V1 i=.int .i64 z.2) (n:=m) (fun i hi=>by
   obtain⟨_,_,h3,h4⟩:=hx i hi;obtain⟨z0,e0⟩:=one_int h3;obtain⟨z1,e1⟩:=one_int h4
   exact⟨(z0,z1),e0,e1⟩)
  refine⟨some a,cap,(List.range len).map fun i=>(⟨(q i).1,(q i).2⟩:S45),by simp,by simpa using hl,by simp,by simp;unfold maxLen at hm;omega,fun _=>⟨a,rfl,fun j p hj=>?_⟩⟩;rw [List.getElem?_map] at hj;obtain⟨i,hi,rfl⟩:=Option.map_eq_some_iff.1 hj;obtain⟨hlt,he⟩:=List.getElem?_eq_some_iff.1 hi;simp at hlt he;subst he;obtain⟨h1,h2,_,_⟩:=hx j (by omega);obtain⟨e0,e1⟩:=hq j (by omega);rw [e0] at h1;rw [e1] at h2;refine⟨_,rfl,k45_mk _ _,fun i u hu=>?_⟩
  match i,hu with
  | 0,hu=>simp at hu;subst hu;exact h1
  | 1,hu=>simp at hu;subst hu;exact h2
theorem open_rowsC {fuel:Nat}{v:Value}{x:DataW H × List MemPlace}(h:DataW.trod enc Tryd.prog w base spare held fuel 42 [v]=some x):∃ B d Z,v=.slice B (List.length Z) d∧List.length Z≤d∧Kd.C (Kd.slice 45 k45) w B (List.length Z) Z:=by
 rcases open_slice1 Tryd.underlying42 cellsLPts h with ⟨hcs,_⟩ | ⟨a,len,cap,m,n,V,D,Pl,hcs,_,hl,hm,hmm,_,hx⟩
 ·
  simp only [List.cons.injEq,and_true] at hcs;subst hcs;exact⟨none,0,[],rfl,Nat.le_refl _,Kd.C_nil _ _⟩
 ·
  simp only [List.cons.injEq,and_true] at hcs;subst hcs;have hlm:len≤m:=by rw [hmm];split <;> omega
  obtain⟨q,hq⟩:=choose_lt (α:=List S45) (p:=fun i zs=>∃ A c,V i=.slice A zs.length c∧zs.length≤c∧Kd.C k45 w A zs.length zs) (n:=m) (fun i hi=>by
   obtain⟨_,h2⟩:=hx i hi;obtain⟨A,c,zs,e1,e2,e3⟩:=open_ptsC h2
   exact⟨zs,A,c,e1,e2,e3⟩)
  refine⟨some a,cap,(List.range len).map q,by simp,by simpa using hl,by simp,by simp;unfold maxLen at hm;omega,fun _=>⟨a,rfl,fun j p hj=>?_⟩⟩;rw [List.getElem?_map] at hj;obtain⟨i,hi,rfl⟩:=Option.map_eq_some_iff.1 hj;obtain⟨hlt,he⟩:=List.getElem?_eq_some_iff.1 hi;simp at hlt he;subst he;obtain⟨h1,_⟩:=hx j (by omega);obtain⟨A,c,e1,e2,e3⟩:=hq j (by omega);refine⟨[V j],rfl,⟨A,c,by rw [e1],e2,e3⟩,fun i u hu=>?_⟩
  match i,hu with
  | 0,hu=>simp at hu;subst hu;rw [show j*(Kd.slice 45 k45).sz+0=j from by show j*1+0=j;omega];exact h1
set_option maxRecDepth 100000 in
theorem open_plate {b0:Nat}{r:Reach}{v:Value}{dd:DataW H}{p:List MemPlace}(hv:Value.okWide Tryd.prog w r b0 44 v)(h:DataW.Trod enc Tryd.prog w base spare held 44 v dd p):
  ∃ A c B d zs Z,v=.agg #[.slice A (List.length zs) c,.slice B (List.length Z) d]∧LPlateAt w A c B d zs Z:=by
 obtain⟨cs,rfl,hsz⟩:=okWide_struct Tryd.underlying44 hv;obtain⟨c0,c1,rfl⟩:=array2 (hsz.trans cellsLPlate);obtain⟨fuel,hf⟩:=h;obtain⟨y0,y1,n,hx,_,h0,h1⟩:=trod_struct2 Tryd.underlying44 hf;simp [cellsLPts,cellsLPtss,Value.cells] at h0 h1;obtain⟨A,c,zs,rfl,hc,hC⟩:=open_ptsC h0;obtain⟨B,d,Z,rfl,hd,hD⟩:=open_rowsC h1;exact⟨A,c,B,d,zs,Z,rfl,hC,hc,hD,hd⟩
set_option maxRecDepth 100000 in
theorem open_lpt {b0:Nat}{r:Reach}{v:Value}{dd:DataW H}{p:List MemPlace}(hv:Value.okWide Tryd.prog w r b0 45 v)(h:DataW.Trod enc Tryd.prog w base spare held 45 v dd p):
  ∃ x y:Int,v=.agg #[.int .i64 x,.int .i64 y]:=by
 obtain⟨cs,rfl,hsz⟩:=okWide_struct Tryd.underlying45 hv;obtain⟨c0,c1,rfl⟩:=array2 (hsz.trans cellsLPt);obtain⟨fuel,hf⟩:=h;obtain⟨y0,y1,n,hx,_,h0,h1⟩:=trod_struct2 Tryd.underlying45 hf;simp [cellsInt,Value.cells] at h0 h1;obtain⟨x,rfl⟩:=one_int (d:=y0.1) (p:=y0.2) h0;obtain⟨y,rfl⟩:=one_int (d:=y1.1) (p:=y1.2) h1;exact⟨x,y,rfl⟩
end
end Go.Proofs.YtkefmnmoaomlhaaDoor.X
end
section
set_option linter.unusedVariables false
namespace Go.Proofs.YtkefmnmoaomlhaaDoor.fnExactPlateFar
open Go Go.ChangeShapes Go.WideShapes Go.ChangeAt Go.RowKit Go.Joins Go.Proofs.YtkefmnmoaomlhaaDoorW
set_option maxRecDepth 100000 in
theorem lifted (os:Os)(started:os.Started)(H:Type)(enc:TypeId × Value→H):
  ReturnsInHanded {} Tryd.checked os 6 .any (fun w args=>(Rows.fnExactPlateFarSpec.pre enc Tryd.prog Tryd.f6 [] false w args∧laidMet Tryd.prog laidErr w)∧sizedMet enc Tryd.prog Tryd.f6 (OpenSpec.ofChange Rows.fnExactPlateFarSpec) false w args) (Rows.fnExactPlateFarSpec.post enc Tryd.prog Tryd.f6 false true false false):=by
 refine returnsInHanded_of_change_and (C:=Tryd.checked) (X:=fun w _=>laidMet Tryd.prog laidErr w) (fun _ _ _ hh h=>h.of_heap hh) own started (by kernel_rfl) Tryd.func6
  (ChangeSpec.witness_at (enc:=enc) (C:=Tryd.checked) (os:=os) (X:=fun w _=>laidMet Tryd.prog laidErr w) false (laidWorld os) #[.agg #[.slice none 0 0,.slice none 0 0],.agg #[.int .i64 0,.int .i64 0]] 8 rfl (by kernel_rfl) (by kernel_rfl) (by kernel_rfl) (by kernel_rfl) (by kernel_rfl) (laidWorld_met os _)) ?_
 intro W base args ds gs before hval0 hW hcnd hsz0 hL _;have hval:∀ (j:Nat) t v,Tryd.f6.params[j]?=some t→args[j]?=some v→Value.okWide Tryd.prog W .any base t v:=hval0;have hW':=hW;obtain⟨p,q,hA0,hV0,rfl,hfz,hnd⟩:=hW;have hA:DataW.TrodAll enc Tryd.prog W 0 (fun _=>true) true Tryd.f6.params.toList args.toList ds p:=hA0;have hV:DataW.TrodVars enc Tryd.prog W (fun _=>true) ["loop.example/mortiser/impl.errNoFrac"] gs q:=hV0;rw [Tryd.params6] at hA hval;obtain⟨v0,vs0,d0,ds0,p0,q0,hargs,rfl,rfl,h0,r0⟩:=trodAll_cons hA;obtain⟨v1,vs1,d1,ds1,p1,q1,rfl,rfl,rfl,h1,r1⟩:=trodAll_cons r0;obtain⟨rfl,rfl,rfl⟩:=trodAll_nil r1;obtain rfl:args=#[v0,v1]:=by cases args;simp_all
 obtain⟨a,st,hv,hcs,hs0,hz0⟩:=err_of_laid hL;obtain⟨rfl,rfl⟩:=hV.unique (errVars enc hv trivial _);have hE:ErrW W:=ErrW.of_var hv;have k0:=h0;have lt0:∀ x∈p0,x.block<W.heap.size:=by obtain⟨m,hm⟩:=k0;exact DataW.trod_lt m _ _ _ hm
 obtain⟨A0,c0,B0,e0,zs0,Z0,rfl,hPl0⟩:=X.open_plate (hval 0 44 v0 rfl rfl) h0;have k1:=h1;have lt1:∀ x∈p1,x.block<W.heap.size:=by obtain⟨m,hm⟩:=k1;exact DataW.trod_lt m _ _ _ hm
 obtain⟨x1,y1,rfl⟩:=X.open_lpt (hval 1 45 v1 rfl rfl) h1;clear hA0 hval0 hsz0;refine (X.exactFar_calls A0 c0 B0 e0 zs0 Z0 x1 y1 W hPl0 hE).mono fun e W' ⟨he,bel⟩=>?_
 subst he;exact⟨_,rfl,_,_,_,[],_,[.cell 0 0],hW',trodAll_mk1 (shut_bool Tryd.underlying4 _),(trodAll_cons_mk (Below.trod laidOut (by kernel_rfl) (of_decide_eq_true (by kernel_rfl)) k0 bel lt0) (trodAll_cons_mk (Below.trod laidOut (by kernel_rfl) (of_decide_eq_true (by kernel_rfl)) k1 bel lt1) trodAll_mk0)),errVars enc (errBelow bel hv) trivial _,bel.frame _,fun h=>by cases h⟩
theorem over:Rows.fnExactPlateFarRow.holds Tryd.pinned (OpenSpec.ofChange Rows.fnExactPlateFarSpec):=
 OpenClaim.holds_of_wide 6 Tryd.f6 rfl rfl rfl rfl rfl rfl rfl ⟨rfl,rfl,rfl,rfl,rfl⟩ rfl rfl rfl rfl rfl (by kernel_rfl) Tryd.func6 (by kernel_rfl)
  (of_decide_eq_true (by kernel_rfl)) (by unfold Func.isWrapper;first | (rw [if_pos (by decide +kernel)];kernel_rfl) | (rw [if_neg (by decide +kernel)];exact⟨rfl,rfl⟩))
  (fun os started H enc _=>lifted os started H enc)
theorem proved:Rows.FnExactPlateFarCardSaid:=
 Claim7.holds_tied_plain_at .later [] [.sentinel] true (true,"81de65706e8f648528cfb316c2c65b1eb27649638b9ac8b9a8b267c9286ff7f7") true
  over (fun _ h=>by cases h) (by kernel_rfl) (fun _ h=>by cases h) fnExactPlateFar_row_tie rfl ⟨rfl,rfl⟩ (by kernel_rfl) rfl
  (fun f fn hf hfn=>by
   obtain rfl:f=6:=Option.some.inj ((show Tryd.prog.funcNamed "loop.example/mortiser/laws.FnExactPlateFar" = some 6 by kernel_rfl).symm.trans hf) |>.symm
   obtain rfl:fn=Tryd.f6:=(Option.some.inj (Tryd.func6.symm.trans hfn)).symm
   exact⟨by kernel_rfl,fun j t ht=>by
    rw [Tryd.params6] at ht
    rcases j with _ | _ | j
    ·
     obtain rfl:t=44:=by simpa using ht.symm
     exact (show Tryd.prog.wantsStandIn 44=false by kernel_rfl)
    ·
     obtain rfl:t=45:=by simpa using ht.symm
     exact (show Tryd.prog.wantsStandIn 45=false by kernel_rfl)
    ·
     simp at ht⟩)
  (by kernel_rfl)
end Go.Proofs.YtkefmnmoaomlhaaDoor.fnExactPlateFar
namespace Go.Proofs.YtkefmnmoaomlhaaDoor
theorem fnExactPlateFar_holds:Rows.FnExactPlateFarCardSaid:=fnExactPlateFar.proved
end Go.Proofs.YtkefmnmoaomlhaaDoor
end
