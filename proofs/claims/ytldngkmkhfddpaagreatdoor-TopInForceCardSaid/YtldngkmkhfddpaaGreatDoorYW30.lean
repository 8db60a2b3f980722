/-
  Part 30.
-/
import Derived.Test.YtldngkmkhfddpaaGreatDoorYW29
import Derived.Recover
namespace Go.Rv
set_option linter.unusedVariables false
set_option linter.unusedSimpArgs false
variable{i n:Nat}{a:Act}{cs:List Frame}{w w':World}{pr:Addr->Prop}{g g':Gh}
section
variable {P:Program}{ops:Array Oper}{Q:Exit->Act->List Frame->World->Prop}
theorem Qe{rest:List Nat}{c:Frame}(o:Oper)(v:Value)(older:List PanicEntry)(a':Act)(ho:ops[i]?=some o)(hg:o.guard=none)(hr:(execOp a.eval o).run P w=.ok .recover w) (hc:c.mode=.panicking ({ v:=v,recovered:=false }::older)) (ha:a.put o.dst v=a') (h:wpOpsS P ops Q rest a' ({ c with mode:=.panicking ({ v:=v,recovered:=true }::older) }::cs) w):wpOpsS P ops Q (i::rest) a (c::cs) w:=by
 subst ha
 have e:recoverD (c::cs)=some (v,{ c with mode:=.panicking ({ v:=v,recovered:=true }::older) }::cs):=by
  unfold recoverD;simp only[hc]
 simp only[wpOpsS,ho,Region.wanted,hg,Aro,hr,e];exact h
theorem Vc{rest:List Nat}{c:Frame}(o:Oper)(a':Act)(ho:ops[i]?=some o)(hg:o.guard=none)(hr:(execOp a.eval o).run P w=.ok .recover w) (hc:c.mode=.returning) (ha:a.put o.dst .nilIface=a') (h:wpOpsS P ops Q rest a' ({ c with mode:=.returning }::cs) w):wpOpsS P ops Q (i::rest) a (c::cs) w:=by
 subst ha;have hcc:{ c with mode:=.returning }=c:=by cases c;simp_all
 rw[hcc]at h
 have e:recoverD (c::cs)=none:=by
  unfold recoverD;simp only[hc]
 simp only[wpOpsS,ho,Region.wanted,hg,Aro,hr,e];exact h
theorem OE(h:Q .normal a cs w):wpOpsS P ops Q [] a cs w:=h
end
theorem JG{l:Fr}{tmps:Array Value}(h:∀p∈l,Rep w pr g (tmps.getD p.1 undef) p.2):∀(t:Nat) (x:AV),(Ah n l)[t]?=some x->Rep w pr g (tmps.getD t undef) x:=by
 intro t x hx;rw[BT]at hx;split at hx
 case isFalse=>cases hx
 cases hx
 induction l with
 |nil=>exact .junk _ _
 |cons p l ih=>
  show Rep w pr g _ (if t=p.1 then p.2 else look l t);by_cases e:t=p.1
  ·rw[AqJ e,e];exact h p Aq4
  rw[AqI e];exact ih (fun q hq=>h q (Arn _ hq))
def Aj8(B:Base)(f:FuncId)(caps:List AV)(O:Ac)(u u':FrameMode)(O':Ac):Prop :=
 ∀(F:Addr->Prop) (w:World) (g:Gh) (vs:Array Value),Mem (B.env F) w g O->Cj w (Ay (B.env F) g) g vs.toList caps ->
  CallsD B.P f vs u w (fun e u2 w'=>∃v g',e=.returned v/\u2=u'/\Mem (B.env F) w' g' O'/\Evo (B.env F) O.length w g w' g')
def RY(f:Operand->AV):Fr->Prop
 |[]=>True
 |p::l=>f (.tmp p.1)=p.2/\RY f l
theorem Ra{f:Operand->AV}:∀{l:Fr},RY f l->∀p∈l,f (.tmp p.1)=p.2
 |q::l,h,p,hp=>by
  rcases Aq9.1 hp with rfl|hp
  ·exact h.1
  exact Ra h.2 p hp
def JZ:Nat->List AV
 |0=>[]
 |n+1=>JZ n++[.ref n 0]
theorem HE:∀n,(JZ n).length=n
 |0=>rfl
 |n+1=>by simp[JZ,HE n]
theorem Qb{pr':Addr->Prop}{sel:List Nat}{v:Value}{id o:Nat}(hs:∀i∈sel,i<g.length)(h:Rep w pr g v (.ref i o))(hi:sel[id]?=some i):Rep w pr' (CP sel g) v (.ref id o):=by
 cases h with
 |ref _ _ _ β b hb hx hβ=>exact .ref _ _ _ β b ((A8 hs).2 ⟨i,hi,hb⟩) hx hβ
theorem VZ{B:Base}{F:Addr->Prop}{D D':List Deferred}{O:Ac}(h:Mem (B.env { F:=F,D:=D }) w g O):Mem (B.env { F:=F,D:=D' }) w g O:=⟨h.len,h.blk,h.inj,h.foreign,h.glob,h.maps,h.whole⟩
theorem Mn{B:Base}{F:Addr->Prop}{D D':List Deferred}(h:Evo (B.env { F:=F,D:=D }) n w g w' g'):Evo (B.env { F:=F,D:=D' }) n w g w' g':=⟨h.os,h.tape,h.output,h.size,h.cells,h.blocks,h.ids⟩
theorem Mq{E:Env}(h:Evo E n w g w' g'):Evo E 0 w g w' g':=⟨h.os,h.tape,h.output,h.size,h.cells,h.blocks,fun _ hh=>absurd hh (ArF _)⟩
theorem NT{pr':Addr->Prop}{v:Value}{o:Nat}(h:Rep w pr g v (.ref i o))(hi:i<n)(hs:∀id,id<n->∀b,g[id]?=some b->∃b',g'[id]?=some b'/\b.step b'):Rep w' pr' g' v (.ref i o):=by
 cases h with
 |ref _ _ _ β b hb hx hβ=>
  obtain⟨b',hb',hst⟩:=hs i hi b hb;rcases hst with hst|⟨s1,_⟩
  ·exact .ref _ _ _ β b' hb' (hst.2.2.2.2.2.trans hx) (hst.1.trans hβ)
  rw[hx]at s1;cases s1
theorem Vd{w w':World}{pr pr':Addr->Prop}{g g':Gh}:∀{vs:List Value} {xs:List AV},Cj w pr g vs xs->(∀v x,x∈xs->Rep w pr g v x->Rep w' pr' g' v x)->Cj w' pr' g' vs xs
 |[],[],_,_=>trivial
 |[],_::_,h,_=>h.elim
 |_::_,[],h,_=>h.elim
 |_::_,_::_,h,k=>⟨k _ _ Aq4 h.1,Vd h.2 (fun v x hx=>k v x (Arn _ hx))⟩
theorem YI{E:Env}{O:Ac}{l:Fr}{rs:List ResultVar}{xs:List AV}(h:V0 E n l O rs=some xs):Fx E O (Ah n l) rs=some xs:=by rw[Nm];exact h
attribute [go_sem] RY CG
end Go.Rv
