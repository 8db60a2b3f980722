/-
  Part 31.
-/
import Derived.Test.YtioapcamanmoiaaGreatDoorYR30
import Derived.Recover
namespace Go.Rv
set_option linter.unusedVariables false
set_option linter.unusedSimpArgs false
variable{i n:Nat}{rest:List Nat}{a:Act}{cs:List Frame}{w w':World}{E:Env}{pr F:Addr→Prop}{g g':Gh}{l:Fr}{B:Base}{σ:Ab}
section
variable {P:Program}{ops:Array Oper}{Q:Exit→Act→List Frame→World→Prop}
theorem DT(o:Oper)(v:Value)(a':Act)(ho:ops[i]?=some o)(hg:o.guard=none)(hr:(execOp a.eval o).run P w=.ok (.value v) w')(ha:a.put o.dst v=a') (h:wpOpsS P ops Q rest a' cs w'):wpOpsS P ops Q (i::rest) a cs w:=by
 subst ha;simp only[wpOpsS,ho,Region.wanted,hg,Aqe,hr];exact h
theorem Vd{c:Frame}(o:Oper)(v:Value)(older:List PanicEntry)(a':Act)(ho:ops[i]?=some o)(hg:o.guard=none)(hr:(execOp a.eval o).run P w=.ok .recover w) (hc:c.mode=.panicking ({ v:=v,recovered:=false }::older)) (ha:a.put o.dst v=a') (h:wpOpsS P ops Q rest a' ({ c with mode:=.panicking ({ v:=v,recovered:=true }::older) }::cs) w):wpOpsS P ops Q (i::rest) a (c::cs) w:=by
 subst ha
 have e:recoverD (c::cs)=some (v,{ c with mode:=.panicking ({ v:=v,recovered:=true }::older) }::cs):=by
  unfold recoverD;simp only[hc]
 simp only[wpOpsS,ho,Region.wanted,hg,Aqe,hr,e];exact h
theorem ZV{c:Frame}(o:Oper)(a':Act)(ho:ops[i]?=some o)(hg:o.guard=none)(hr:(execOp a.eval o).run P w=.ok .recover w) (hc:c.mode=.returning) (ha:a.put o.dst .nilIface=a') (h:wpOpsS P ops Q rest a' ({ c with mode:=.returning }::cs) w):wpOpsS P ops Q (i::rest) a (c::cs) w:=by
 subst ha;have hcc:{ c with mode:=.returning }=c:=by cases c;simp_all
 rw[hcc]at h
 have e:recoverD (c::cs)=none:=by
  unfold recoverD;simp only[hc]
 simp only[wpOpsS,ho,Region.wanted,hg,Aqe,hr,e];exact h
theorem Wo(h:Q .normal a cs w):wpOpsS P ops Q [] a cs w:=h
end
theorem Pv(hE:E.Ok){t:TypeId}{k:IntKind}{sz by':Nat}{z:List AV}(ht:E.tab t=some ⟨.int k,sz,by',z⟩)(v:Value)(xt:TypeId)(w:World) :(Instr.typeAssert (.iface t v) xt t true).run E.P w=.ok (.tuple #[v,.bool true]) w:=by
 unfold Instr.typeAssert;simp only[Sem.run_bind,AJ hE ht,Result.andThen_ok,Aqe,Sem.run_pure]
theorem OV(hE:E.Ok){t:TypeId}{k:IntKind}{sz by':Nat}{z:List AV}(ht:E.tab t=some ⟨.int k,sz,by',z⟩)(xt:TypeId)(w:World) :∃u,(Instr.typeAssert .nilIface xt t true).run E.P w=.ok (.tuple #[u,.bool false]) w:=by
 obtain⟨u,hu,_⟩:=H8 hE ht w;refine⟨u,?_⟩;unfold Instr.typeAssert;simp only[Sem.run_bind,AJ hE ht,Result.andThen_ok,Aqe,Sem.run_pure,hu]
theorem Ru{tmps:Array Value}(h:∀p∈l,Rep w pr g (tmps.getD p.1 undef) p.2):∀(t:Nat) (x:AV),(Aq n l)[t]?=some x→Rep w pr g (tmps.getD t undef) x:=by
  intro t x hx;rw[C5]at hx;split at hx
  case isFalse=>cases hx
  cases hx
  induction l with
  |nil=>exact .junk _ _
  | cons p l ih=>
    show Rep w pr g _ (if t=p.1 then p.2 else look l t);by_cases e:t=p.1
    · rw[AoO e,e];exact h p Ao2
    · rw[AoQ e];exact ih (fun q hq=>h q (Api _ hq))
def AmI(B:Base)(f:FuncId)(caps:List AV)(σ:Ab)(u u':FrameMode)(σ':Ab):Prop :=
 ∀(F:Addr→Prop) (w:World) (g:Gh) (vs:Array Value),Mem (B.env F) w g σ→BA w (A4 (B.env F) g) g vs.toList caps →
  CallsD B.P f vs u w (fun e u2 w'=>∃v g',e=.returned v∧u2=u'∧Mem (B.env F) w' g' σ'∧Evo (B.env F) σ.length w g w' g')
theorem SX{fn:Func}{rest:Code}{c₀:Frame}{u':FrameMode}{N:Nat}{σ':Ab}(hres:fn.results=#[])(hn:σ.length=n) (hsz:a.tmps.size=N) (hd:a.defers=[]) (hm:Mem (B.env F) w g σ) (hl:∀p∈l,Rep w (A4 (B.env F) g) g (a.tmps.getD p.1 undef) p.2) (hrun:Run (B.env F) n rest ⟨Aq N l,σ⟩ (fun ex st=>ex=.normal∧st.σ=σ')) :rest.wpS B.P (bodyPostS B.P fn c₀ cs (fun e u2 w'=>∃v g',e=.returned v∧u2=u'∧Mem (B.env F) w' g' σ'∧Evo (B.env F) σ.length w g w' g')) a ({ c₀ with mode:=u' }::cs) w:=by
 refine wpS_of_wp ?_;refine K2 hrun rfl (g:=g) ⟨by simpa [Aq]using hsz,Ru hl,hm,.plain hd⟩ ?_;rintro ex st a' w' g' ⟨rfl,h2⟩ hr he;subst hn;refine⟨hr.defers.eq rfl,u',rfl,.tuple #[],?_,_,g',rfl,rfl,h2 ▸ hr.mem,he⟩;show(results fn a'.tmps).run B.P w'=_;have e:results fn a'.tmps=(do let vs ←fn.results.mapM (Jv a'.tmps);pure (if h:vs.size=1 then vs[0]else .tuple vs)):=rfl;rw[e,hres,Sem.run_bind,Aqm,Sem.run_map];rfl
def QZ(f:Operand→AV):Fr→Prop
 |[]=>True
 |p::l=>f (.tmp p.1)=p.2∧QZ f l
theorem PS{f:Operand→AV}:∀{l:Fr},QZ f l→∀p∈l,f (.tmp p.1)=p.2
  | q::l,h,p,hp=>by
    rcases Ao9.1 hp with rfl|hp
    · exact h.1
    · exact PS h.2 p hp
def retD(B:Base)(F:Addr→Prop)(cf:FuncId)(caps:List AV)(rs:List ResultVar)(N:Nat)(rfr:Fr)(r0:AV):Cl:=fun ex st=>
 ∃u σ0 u' σ' xs,st.fr.length=N∧(((ex=.normal∨ex=.ret)∧u=.returning)∨∃ch,ex=.panic ch∧u=.panicking ch)∧HX (List.range caps.length) st.σ (List.range caps.length) σ0∧AmI B cf caps σ0 u u' σ'∧settle u'=.returning ∧
  QZ (ev st.fr) rfr∧Dh (B.env F) σ' (Aq N rfr) rs=some xs∧fzR σ' (Fq xs)=some r0
def Fu:Nat→List AV
 |0=>[]
 |n+1=>Fu n++[.ref n 0]
theorem RF:∀n ys,Fu n≠[.tup ys]
  |0,ys,h=>by cases h
  |1,ys,h=>by cases h
  | n+2,ys,h=>by
    have:=ApW List.length h;simp[Fu]at this
theorem Qd:∀n,(Fu n).length=n
 |0=>rfl
 |n+1=>by simp[Fu,Qd n]
theorem Oc{pr':Addr→Prop}{sel:List Nat}{v:Value}{id o:Nat}(hs:∀i∈sel,i<g.length)(h:Rep w pr g v (.ref i o))(hi:sel[id]?=some i):Rep w pr' (CD sel g) v (.ref id o):=by
 cases h with
 |ref _ _ _ β b hb hx hβ=>exact .ref _ _ _ β b ((AC hs).2 ⟨i,hi,hb⟩) hx hβ
theorem AjA{D D':List Deferred}(h:Mem (B.env { F:=F,D:=D }) w g σ):Mem (B.env { F:=F,D:=D' }) w g σ:=⟨h.len,h.blk,h.inj,h.foreign,h.glob,h.maps,h.whole⟩
theorem Ahq{D D':List Deferred}(h:Evo (B.env { F:=F,D:=D }) n w g w' g'):Evo (B.env { F:=F,D:=D' }) n w g w' g':=⟨h.os,h.tape,h.output,h.size,h.cells,h.blocks,h.ids⟩
theorem Kf(h:Evo E n w g w' g'):Evo E 0 w g w' g':=⟨h.os,h.tape,h.output,h.size,h.cells,h.blocks,fun _ hh=>absurd hh (Apk _)⟩
theorem L1{pr':Addr→Prop}{v:Value}{o:Nat}(h:Rep w pr g v (.ref i o))(hi:i<n)(hs:∀id,id<n→∀b,g[id]?=some b→∃b',g'[id]?=some b'∧b.step b'):Rep w' pr' g' v (.ref i o):=by
  cases h with
  | ref _ _ _ β b hb hx hβ=>
    obtain⟨b',hb',hst⟩:=hs i hi b hb;rcases hst with hst|⟨s1,_⟩
    · exact .ref _ _ _ β b' hb' (hst.2.2.2.2.2.trans hx) (hst.1.trans hβ)
    · rw[hx]at s1;cases s1
def AnM(n:Nat)(p:Nat×AV):Bool:=match p.2 with
 |.ref i 0=>decide (i<n)
 |_=>false
theorem Sh{w w':World}{pr pr':Addr→Prop}{g g':Gh}:∀{vs:List Value} {xs:List AV},BA w pr g vs xs→(∀v x,x∈xs→Rep w pr g v x→Rep w' pr' g' v x)→BA w' pr' g' vs xs
 |[],[],_,_=>trivial
 |[],_::_,h,_=>h.elim
 |_::_,[],h,_=>h.elim
 |_::_,_::_,h,k=>⟨k _ _ Ao2 h.1,Sh h.2 (fun v x hx=>k v x (Api _ hx))⟩
theorem PQ:∀{n:Nat} {x:AV},x∈Fu n→∃i,i<n∧x=.ref i 0
  |0,x,h=>by cases h
  | n + 1,x,h=>by
    rcases Ao8.1 h with h|h
    · obtain⟨i,hi,e⟩:=PQ h
      exact⟨i,by omega,e⟩
    · exact⟨n,by omega,by simpa using h⟩
theorem YK{f cf:FuncId}{fn:Func}{args:List AV}{r0:AV}{rs:List ResultVar}{N i1 i2 t7 m:Nat}{l1:List Oper}{o1 o2:Oper}{rest:Code}{capops:Array Operand}{rfr:Fr}{fr1:Fr}{σ1:Ab} (hB:B.Ok) (hf:B.P.funcs[f]?=some fn) (hb:fn.body=some (.seq (.region i1 l1.toArray false) (.seq (.region i2 [o1,o2].toArray false) rest))) (hname:(fn.name == "runtime.NumGoroutine")=false) (hN:fn.ntmps=N) (hrs:fn.results.toList=rs) (hlen:args.length≤N) (ho1:o1.op=.makeFunc (.func cf) #[] capops) (hd1:o1.dst=some t7) (hg1:o1.guard=none) (ho2:o2.op=.defer ⟨.value (.tmp t7),#[],#[]⟩) (hd2:o2.dst=none) (hg2:o2.guard=none) (ht7:t7<N) (h1:∀F:Addr→Prop,Bp (B.env F) (JR [] []) false N l1.toArray l1 (Ll 0 args,[])=some (fr1,σ1)) (hm:σ1.length=m) (hcaps:capops.toList.map (evL N fr1)=Fu m) (hrfr:rfr.all (AnM m)=true) {fnc:Func} {cc:Code} (hfc:B.P.funcs[cf]?=some fnc) (hbc:fnc.body=some cc) (hnc:(fnc.name == "runtime.NumGoroutine")=false) (hrest:∀F D,Run (B.env { F:=F,D:=D }) m rest ⟨Aq N (put (some t7) (.fn cf (Fu m)) fr1),σ1⟩ (retD B F cf (Fu m) rs N rfr r0)):Con B f args [] (fun r' σ'=>r'=r0∧σ'=[]):=by
 refine KZ (R:=fun r σ'=>fzR σ' r=some r0) ⟨fun F w g vs hmem ha=>.inl ⟨⟨fn,_,hf,hb,hname⟩,?_⟩⟩ (fun r σ' h=>h);have hE:=hB.env F;refine calls_of_wp_defers hf hb ?_;have hr0:=Kj (fn:=fn) hmem ha;subst hN hrs;rw[Eb fn.ntmps args hlen (Ll 0 args) (fun t _=>E3 args 0 t (Apx _))]at hr0;refine wp_seq ?_;refine K2 (Ha (E:=B.env F) (n:=0) (IM (K:=fun ex st=>ex=.normal∧st=⟨Aq fn.ntmps fr1,σ1⟩) hE (Aa (B:=B)) _ _ _ _ _ (h1 F) ⟨rfl,rfl⟩)) rfl hr0 ?_;rintro ex st a1 w1 g1 ⟨rfl,rfl⟩ hr1 he1;refine wp_seq ?_;refine wp_region_lit ?_;simp only[wpList,Region.wanted,hg1,Aqe];left
 have hop1:opL (B.env F) (JR [] [] none) false (evL fn.ntmps fr1) σ1 o1.op=some (.fn cf (Fu m),σ1):=by
  rw[ho1];show LM (B.env F) (evL fn.ntmps fr1) σ1 (.makeFunc (.func cf) #[] capops)=_;simp only[LM,hcaps];have hne:∀ys,Fu m≠[.tup ys]:=RF m;split
  ·split
   ·rename_i h2;exact absurd h2 (hne _)
   ·rfl
  ·rename_i h2;exact(h2 trivial).elim
 refine QB hE (Aa (B:=B) none) hop1 hr1 ?_;intro a2 w2 g2 hr2 he2 hle2;simp only[wpList,Region.wanted,hg2,Aqe];left;simp only[hd1]at hr2;have hfv:=hr2.slot t7 (.fn cf (Fu m)) (by rw[C5,AoO ht7];show some (if t7=t7 then _ else _)=_;rw[AoO rfl]);obtain⟨capv,hcv,hcr⟩:=Df hfv (RF m)
 have hd:(execOp a2.eval o2).run B.P w2=.ok (.defer { target:=.fn (.func cf) capv,args:=#[] }) w2:=by
  have hev:a2.eval (.tmp t7)=.func (.func cf) #[] capv:=hcv;simp only[execOp,ho2,resolve,hev,Deferred.ofValue,Sem.run_bind,Sem.run_pure,Result.andThen_ok];simp
 unfold Oper.wp;rw[hd,Oper.upon_defer,hd2];show rest.wp B.P (bodyPostD B.P fn _) { a2 with defers:={ target:=.fn (.func cf) capv,args:=#[] }::a2.defers } w2;have hd0:a2.defers=[]:=hr2.defers.eq rfl;rw[hd0];generalize hDd:({ target:=.fn (.func cf) capv,args:=#[] }:Deferred)=dd
 have hr3:Rel (B.env { F:=F,D:=[dd] }) w2 g2 ⟨Aq fn.ntmps (put (some t7) (.fn cf (Fu m)) fr1),σ1⟩ { a2 with defers:=[dd] } :=
  ⟨hr2.size,hr2.slot,AjA (D:=[]) hr2.mem,.plain rfl⟩
 refine K2 (hrest F [dd]) rfl hr3 ?_;rintro ex st a' w' g' ⟨u,σ0,u',σ',xs,hlenN,hu,hσ,hD,hset,hsl,hres,hfz⟩ hr' he';have hdef:a'.defers=[dd]:=hr'.defers.eq rfl;have hrl:(Fu m).length=m:=Qd m;rw[hrl]at hσ;obtain⟨s1,s2,s3,s4⟩:=NR (n:=m) hr'.mem (List.range m) List.nodup_range (Aps (by simp)) hσ;have hur:u≠.run:=by rcases hu with⟨_,rfl⟩|⟨_,_,rfl⟩<;>simp
 have hgetr:∀i,i<m→(List.range m)[i]?=some i:=fun i hi=>ApY hi
 have href:∀(v:Value) (i:Nat),i<m→Rep w2 (A4 (B.env F) g2) g2 v (.ref i 0)→Rep w' (A4 (B.env F) (CD (List.range m) g')) (CD (List.range m) g') v (.ref i 0):=fun v i hi h=>
  Oc s1 (L1 (w':=w') (pr':=fun _=>True) h hi he'.ids) (hgetr i hi)
 have hcl:Leaves B.P fn a'.tmps (fun e w'=>∃v r σ' g',e=.returned v∧(fzR σ' r=some r0)∧Mem (B.env F) w' g' σ'∧Evo (B.env F) ([]:Ab).length w g w' g'∧Rep w' (A4 (B.env F) g') g' v r) a'.defers u w':=by
  rw[hdef,←hDd];refine leaves_cons (f:=cf) (args:=#[]++capv) hur ?_ ?_
  ·exact HM hfc hbc hnc _ _
  ·refine(hD F w' (CD (List.range m) g') (#[]++capv) (AjA (D':=[]) s2) ?_).mono ?_
   ·simp only[ArF];refine Sh hcr fun v x hx h=>?_
    obtain⟨i,hi,rfl⟩:=PQ hx;exact href v i hi h
   ·rintro e u2 w3 ⟨v,g3,rfl,rfl,hm3,he3⟩;show Leaves B.P fn a'.tmps _ [] (settle u2) w3;rw[hset]
    have hl0:σ0.length=m:=by
     have:=(Ku hσ).1;simpa using this.symm
    have hrel:Rel (B.env F) w3 g3 ⟨Aq fn.ntmps rfr,σ'⟩ { a' with defers:=[] }:=by
     refine⟨?_,Ru fun p hp=>?_,hm3,.plain rfl⟩
     ·rw[Hw];exact hr'.size.trans hlenN
     ·have h2:=DP hr' (.tmp p.1);rw[PS hsl p hp]at h2;have h3:=AoZ.1 hrfr p hp;unfold AnM at h3;split at h3
      ·rename_i i hpi;rw[hpi]at h2 ⊢;have hi:i<m:=by simpa using h3
       exact L1 (Oc (pr':=fun _=>True) s1 h2 (hgetr i hi)) (by rw[hl0];exact hi) he3.ids
      ·cases h3
    obtain⟨us,hus,hrep⟩:=Es hE hrel fn.results.toList xs hres
    have hres2:(results fn a'.tmps).run B.P w3=.ok (if h:us.toArray.size=1 then us.toArray[0]else .tuple us.toArray) w3:=by
     have e:results fn a'.tmps=(do let vs ←fn.results.mapM (Jv a'.tmps);pure (if h:vs.size=1 then vs[0]else .tuple vs)):=rfl;have hus':(fn.results.toList.mapM (Jv a'.tmps)).run B.P w3=.ok us w3:=hus;rw[e,Sem.run_bind,Aqm,Sem.run_map,hus'];rfl
    exact⟨_,hres2,_,_,σ',g3,rfl,hfz,hm3,(Kf he1).trans ((Kf he2).trans ((Ahq (Kf he')).trans ((Ahq (Kf s3)).trans (Kf he3)))),HI hrep⟩
 rcases hu with⟨rfl|rfl,rfl⟩|⟨ch,rfl,rfl⟩
 ·exact hcl
 ·exact hcl
 ·exact hcl
theorem Aak(hE:E.Ok){m id:Nat}{l:List Oper}{fr fr':Fr}{σ':Ab}{K:Cl}(ts:List Nat)(h:∃orc,HU E.toBase orc∧Lm E orc false n l ts (fr,σ)=some (fr',σ')) (hk:∀fr,K .normal ⟨fr,σ'⟩):Run E m (.region id l.toArray false) ⟨Aq n fr,σ⟩ K:=by
 obtain⟨orc,hO,h⟩:=h;simp only[Lm,AoW,AoM,AoV]at h;obtain⟨⟨fr1,σ1⟩,h1,rfl,rfl⟩:=h;exact Sm hE hO h1 (hk _)
theorem AgN{rs:List ResultVar}{xs:List AV}(h:VS E n l σ rs=some xs):Dh E σ (Aq n l) rs=some xs:=by rw[IB];exact h
attribute [go_sem] QZ DI
end Go.Rv
