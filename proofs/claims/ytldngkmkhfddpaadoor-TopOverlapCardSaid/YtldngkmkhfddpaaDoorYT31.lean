/-
  Part 31.
-/
import Derived.Test.YtldngkmkhfddpaaDoorYT30
import Derived.Recover
namespace Go.Rv
set_option linter.unusedVariables false
set_option linter.unusedSimpArgs false
section
variable {P:Program}{ops:Array Oper}{Q:Exit→Act→List Frame→World→Prop}
theorem Lw{i:Nat}{rest:List Nat}{a:Act}{c:Frame}{cs:List Frame}{w:World}(o:Oper)(v:Value)(older:List PanicEntry)(a':Act)(ho:ops[i]?=some o)(hg:o.guard=none)(hr:(execOp a.eval o).run P w=.ok .recover w)
 (hc:c.mode=.panicking ({ v:=v,recovered:=false }::older)) (ha:a.put o.dst v=a')
 (h:wpOpsS P ops Q rest a' ({ c with mode:=.panicking ({ v:=v,recovered:=true }::older) }::cs) w):wpOpsS P ops Q (i::rest) a (c::cs) w:=by
 subst ha
 have e:recoverD (c::cs)=some (v,{ c with mode:=.panicking ({ v:=v,recovered:=true }::older) }::cs):=by
  unfold recoverD
  simp only[hc]
 simp only[wpOpsS,ho,Region.wanted,hg,if_true,hr,e]
 exact h
theorem Oo{i:Nat}{rest:List Nat}{a:Act}{c:Frame}{cs:List Frame}{w:World}(o:Oper)(a':Act)(ho:ops[i]?=some o)(hg:o.guard=none)(hr:(execOp a.eval o).run P w=.ok .recover w)
 (hc:c.mode=.returning) (ha:a.put o.dst .nilIface=a')
 (h:wpOpsS P ops Q rest a' ({ c with mode:=.returning }::cs) w):wpOpsS P ops Q (i::rest) a (c::cs) w:=by
 subst ha
 have hcc:{ c with mode:=.returning }=c:=by cases c;simp_all
 rw[hcc]at h
 have e:recoverD (c::cs)=none:=by
  unfold recoverD
  simp only[hc]
 simp only[wpOpsS,ho,Region.wanted,hg,if_true,hr,e]
 exact h
theorem Kj{a:Act}{cs:List Frame}{w:World}(h:Q .normal a cs w):wpOpsS P ops Q [] a cs w:=h
end
theorem EG{w:World}{pr:Addr→Prop}{g:Gh}{n:Nat}{l:Fr}{tmps:Array Value}(h:∀p∈l,Rep w pr g (tmps.getD p.1 undef) p.2):∀(t:Nat) (x:AV),(Am n l)[t]?=some x→Rep w pr g (tmps.getD t undef) x:=by
  intro t x hx
  rw[Cf]at hx
  split at hx
  case isFalse=>cases hx
  cases hx
  induction l with
  |nil=>exact .junk _ _
  | cons p l ih=>
    show Rep w pr g _ (if t=p.1 then p.2 else look l t)
    by_cases e:t=p.1
    · rw[if_pos e,e];exact h p List.mem_cons_self
    · rw[if_neg e];exact ih (fun q hq=>h q (List.mem_cons_of_mem _ hq))
def ZW(B:Base)(f:FuncId)(caps:List AV)(σ:Ad)(u u':FrameMode)(σ':Ad):Prop :=
 ∀(F:Addr→Prop) (w:World) (g:Gh) (vs:Array Value),Mem (B.env F) w g σ→Bt w (Aw (B.env F) g) g vs.toList caps →
  CallsD B.P f vs u w (fun e u2 w'=>∃v g',e=.returned v∧u2=u'∧Mem (B.env F) w' g' σ'∧Evo (B.env F) σ.length w g w' g')
def M5(f:Operand→AV):Fr→Prop
 |[]=>True
 |p::l=>f (.tmp p.1)=p.2∧M5 f l
theorem My{f:Operand→AV}:∀{l:Fr},M5 f l→∀p∈l,f (.tmp p.1)=p.2
  | q::l,h,p,hp=>by
    rcases List.mem_cons.1 hp with rfl|hp
    · exact h.1
    · exact My h.2 p hp
def GJ:Nat→List AV
 |0=>[]
 |n+1=>GJ n++[.ref n 0]
theorem Fm:∀n,(GJ n).length=n
 |0=>rfl
 |n+1=>by simp[GJ,Fm n]
theorem KX{w:World}{pr pr':Addr→Prop}{g:Gh}{sel:List Nat}{v:Value}{i id o:Nat}(hs:∀i∈sel,i<g.length)(h:Rep w pr g v (.ref i o))(hi:sel[id]?=some i):Rep w pr' (CL sel g) v (.ref id o):=by
 cases h with
 |ref _ _ _ β b hb hx hβ=>exact .ref _ _ _ β b ((A1 hs).2 ⟨i,hi,hb⟩) hx hβ
theorem VA{B:Base}{F:Addr→Prop}{D D':List Deferred}{w:World}{g:Gh}{σ:Ad}(h:Mem (B.env { F:=F,D:=D }) w g σ):Mem (B.env { F:=F,D:=D' }) w g σ:=⟨h.len,h.blk,h.inj,h.foreign,h.glob,h.maps,h.whole⟩
theorem Zr{B:Base}{F:Addr→Prop}{D D':List Deferred}{n:Nat}{w w':World}{g g':Gh}(h:Evo (B.env { F:=F,D:=D }) n w g w' g'):Evo (B.env { F:=F,D:=D' }) n w g w' g':=⟨h.os,h.tape,h.output,h.size,h.cells,h.blocks,h.ids⟩
theorem I6{E:Env}{n:Nat}{w w':World}{g g':Gh}(h:Evo E n w g w' g'):Evo E 0 w g w' g':=⟨h.os,h.tape,h.output,h.size,h.cells,h.blocks,fun _ hh=>absurd hh (Nat.not_lt_zero _)⟩
theorem JO{w w':World}{pr pr':Addr→Prop}{g g':Gh}{v:Value}{i o n:Nat}(h:Rep w pr g v (.ref i o))(hi:i<n)(hs:∀id,id<n→∀b,g[id]?=some b→∃b',g'[id]?=some b'∧b.step b'):Rep w' pr' g' v (.ref i o):=by
  cases h with
  | ref _ _ _ β b hb hx hβ=>
    obtain⟨b',hb',hst⟩:=hs i hi b hb
    rcases hst with hst|⟨s1,_⟩
    · exact .ref _ _ _ β b' hb' (hst.2.2.2.2.2.trans hx) (hst.1.trans hβ)
    · rw[hx]at s1;cases s1
theorem OU{w w':World}{pr pr':Addr→Prop}{g g':Gh}:∀{vs:List Value} {xs:List AV},Bt w pr g vs xs→(∀v x,x∈xs→Rep w pr g v x→Rep w' pr' g' v x)→Bt w' pr' g' vs xs
 |[],[],_,_=>trivial
 |[],_::_,h,_=>h.elim
 |_::_,[],h,_=>h.elim
 |_::_,_::_,h,k=>⟨k _ _ List.mem_cons_self h.1,OU h.2 (fun v x hx=>k v x (List.mem_cons_of_mem _ hx))⟩
theorem Qh{E:Env}{σ:Ad}{n:Nat}{l:Fr}{rs:List ResultVar}{xs:List AV}(h:R0 E n l σ rs=some xs):DF E σ (Am n l) rs=some xs:=by rw[Jj];exact h
attribute [go_sem] M5 CO
end Go.Rv
