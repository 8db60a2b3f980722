/-
  Part 30.
-/
import Derived.Test.YtldngkmkhfddpaaGreatDoorYX29
import Derived.Recover
import Derived.Lib.Join
import Derived.WideKeyElems2
import Derived.Maps.StringElems
import Derived.ChangeKeys
import Derived.Lib.ItoaNum
namespace Go.Rv
set_option linter.unusedVariables false
set_option linter.unusedSimpArgs false
variable{i n:Nat}{a:Act}{cs:List Frame}{w w':World}{pr:Addr->Prop}{g g':Gh}
section
variable {P:Program}{ops:Array Oper}{Q:Exit->Act->List Frame->World->Prop}
theorem VU{rest:List Nat}{c:Frame}(o:Oper)(v:Value)(older:List PanicEntry)(a':Act)(ho:ops[i]?=some o)(hg:o.guard=none)(hr:(execOp a.eval o).run P w=.ok .recover w) (hc:c.mode=.panicking ({ v:=v,recovered:=false }::older)) (ha:a.put o.dst v=a') (h:wpOpsS P ops Q rest a' ({ c with mode:=.panicking ({ v:=v,recovered:=true }::older) }::cs) w):wpOpsS P ops Q (i::rest) a (c::cs) w:=by
 subst ha
 have e:recoverD (c::cs)=some (v,{ c with mode:=.panicking ({ v:=v,recovered:=true }::older) }::cs):=by
  unfold recoverD;simp only[hc]
 simp only[wpOpsS,ho,Region.wanted,hg,ApT,hr,e];exact h
theorem Ack{rest:List Nat}{c:Frame}(o:Oper)(a':Act)(ho:ops[i]?=some o)(hg:o.guard=none)(hr:(execOp a.eval o).run P w=.ok .recover w) (hc:c.mode=.returning) (ha:a.put o.dst .nilIface=a') (h:wpOpsS P ops Q rest a' ({ c with mode:=.returning }::cs) w):wpOpsS P ops Q (i::rest) a (c::cs) w:=by
 subst ha;have hcc:{ c with mode:=.returning }=c:=by cases c;simp_all
 rw[hcc]at h
 have e:recoverD (c::cs)=none:=by
  unfold recoverD;simp only[hc]
 simp only[wpOpsS,ho,Region.wanted,hg,ApT,hr,e];exact h
theorem Xl(h:Q .normal a cs w):wpOpsS P ops Q [] a cs w:=h
end
theorem RH{l:Fr}{tmps:Array Value}(h:∀p∈l,Rep w pr g (tmps.getD p.1 undef) p.2):∀(t:Nat) (x:AV),(Ai n l)[t]?=some x->Rep w pr g (tmps.getD t undef) x:=by
 intro t x hx;rw[BN]at hx;split at hx
 case isFalse=>cases hx
 cases hx
 induction l with
 |nil=>exact .junk _ _
 |cons p l ih=>
  show Rep w pr g _ (if t=p.1 then p.2 else look l t);by_cases e:t=p.1
  ·rw[Apb e,e];exact h p Apu
  rw[Apd e];exact ih (fun q hq=>h q (ApP _ hq))
def AmZ(B:Base)(f:FuncId)(caps:List AV)(O:Ac)(u u':FrameMode)(O':Ac):Prop :=
 ∀(F:Addr->Prop) (w:World) (g:Gh) (vs:Array Value),Mem (B.env F) w g O->C4 w (A3 (B.env F) g) g vs.toList caps ->
  CallsD B.P f vs u w (fun e u2 w'=>∃v g',e=.returned v/\u2=u'/\Mem (B.env F) w' g' O'/\Evo (B.env F) O.length w g w' g')
def RA(f:Operand->AV):Fr->Prop
 |[]=>True
 |p::l=>f (.tmp p.1)=p.2/\RA f l
theorem QS{f:Operand->AV}:∀{l:Fr},RA f l->∀p∈l,f (.tmp p.1)=p.2
 |q::l,h,p,hp=>by
  rcases Apx.1 hp with rfl|hp
  ·exact h.1
  exact QS h.2 p hp
def KY:Nat->List AV
 |0=>[]
 |n+1=>KY n++[.ref n 0]
theorem H3:∀n,(KY n).length=n
 |0=>rfl
 |n+1=>by simp[KY,H3 n]
theorem OV{pr':Addr->Prop}{sel:List Nat}{v:Value}{id o:Nat}(hs:∀i∈sel,i<g.length)(h:Rep w pr g v (.ref i o))(hi:sel[id]?=some i):Rep w pr' (CG sel g) v (.ref id o):=by
 cases h with
 |ref _ _ _ β b hb hx hβ=>exact .ref _ _ _ β b ((A5 hs).2 ⟨i,hi,hb⟩) hx hβ
theorem AcU{B:Base}{F:Addr->Prop}{D D':List Deferred}{O:Ac}(h:Mem (B.env { F:=F,D:=D }) w g O):Mem (B.env { F:=F,D:=D' }) w g O:=⟨h.len,h.blk,h.inj,h.foreign,h.glob,h.maps,h.whole⟩
theorem Mw{B:Base}{F:Addr->Prop}{D D':List Deferred}(h:Evo (B.env { F:=F,D:=D }) n w g w' g'):Evo (B.env { F:=F,D:=D' }) n w g w' g':=⟨h.os,h.tape,h.output,h.size,h.cells,h.blocks,h.ids⟩
theorem Om{E:Env}(h:Evo E n w g w' g'):Evo E 0 w g w' g':=⟨h.os,h.tape,h.output,h.size,h.cells,h.blocks,fun _ hh=>absurd hh (Ap0 _)⟩
theorem NB{pr':Addr->Prop}{v:Value}{o:Nat}(h:Rep w pr g v (.ref i o))(hi:i<n)(hs:∀id,id<n->∀b,g[id]?=some b->∃b',g'[id]?=some b'/\b.step b'):Rep w' pr' g' v (.ref i o):=by
 cases h with
 |ref _ _ _ β b hb hx hβ=>
  obtain⟨b',hb',hst⟩:=hs i hi b hb;rcases hst with hst|⟨s1,_⟩
  ·exact .ref _ _ _ β b' hb' (hst.2.2.2.2.2.trans hx) (hst.1.trans hβ)
  rw[hx]at s1;cases s1
theorem AcO{E:Env}{O:Ac}{l:Fr}{rs:List ResultVar}{xs:List AV}(h:UC E n l O rs=some xs):Fp E O (Ai n l) rs=some xs:=by rw[MV];exact h
attribute [go_sem] RA CN
variable{E:Env}{xs ys:List AV}{b:Bool}
def Aak{κ ν:Type}[BEq κ]:List (κ×ν)->κ->Bool
 |[],_=>false
 |p::l,k=>if p.1==k then true else Aak l k
def Jb{κ ν:Type}[BEq κ](z:ν):List (κ×ν)->κ->ν
 |[],_=>z
 |p::l,k=>if p.1==k then p.2 else Jb z l k
def eqA:AV->AV->Bool
 |.bool a,.bool b=>a==b
 |.int k a,.int k' b=>k==k'&&a==b
 |.str a,.str b=>a==b
 |_,_=>false
def TE{κ ν:Type}(cK:κ->AV)(cV:ν->AV):List (κ×ν)->AV->Option AV
 |[],_=>none
 |p::l,a=>if eqA (cK p.1) a=true then some (cV p.2)else TE cK cV l a
theorem ZO{κ ν:Type}[BEq κ]{cK:κ->AV}{cV:ν->AV}(he:∀a b,eqA (cK a) (cK b)=(a==b))(z:ν)(k:κ):∀l:List (κ×ν),(TE cK cV l (cK k)).getD (cV z)=cV (Jb z l k)/\(TE cK cV l (cK k)).isSome=Aak l k
 |[]=>⟨rfl,rfl⟩
 |p::l=>by
  unfold TE Jb Aak;rw[he];by_cases h:(p.1==k)=true
  ·rw[Apb h,Apb h,Apb h];exact⟨rfl,rfl⟩
  rw[Apd h,Apd h,Apd h];exact ZO he z k l
theorem X6{κ ν:Type}[BEq κ]{t kt et:TypeId}{r:Nat}{kd:TypeDesc}{cK:κ->AV}{cV:ν->AV}{z:ν}{l:List (κ×ν)}(hm:E.maps t=some ⟨r,kt,et,kd,cV z,TE cK cV l⟩) (hk:∀k,AiY kd (cK k)=true) (he:∀a b,eqA (cK a) (cK b)=(a==b)) (k:κ):Ka E t (.val (.map (some r))) (cK k) false=some (cV (Jb z l k)):=by
 unfold Ka;rw[hm];simp only[hk,and_self,ApT,(ZO he z k l).1];rfl
theorem AkX(a b:UInt8):eqA (u8 a) (u8 b)=(a==b):=by
 show((IntKind.u8==IntKind.u8)&&((a.toNat:Int)==(b.toNat:Int)))=_;rw[Aq8];simp only[Apj,Aqg,true_and];constructor
 ·intro h;exact UInt8.toNat_inj.1 (by omega)
 intro h;subst h;rfl
theorem AgP(a b:List UInt8):eqA (.str a) (.str b)=(a==b):=rfl
def AbA(l:List UInt8)(c:UInt8):Int:=Go.firstIdx ⟨l.toArray⟩ c
def Vp(l:List UInt8)(c:UInt8):Option Int:=some (AbA l c)
theorem OU{B:Base}{f:FuncId}{fn:Func}{l:List UInt8}{c:UInt8}{r:Int}(hf:B.P.funcs[f]?=some fn)(hname:(fn.name == "runtime.NumGoroutine")=false) (hb:fn.body.isNone=true) (hn:Extern.findNext fn=none) (he:Extern.find fn=some Extern.BytealgIndexByte.indexByte) (h:Vp l c=some r):Con B f [.str l,u8 c] [] (fun r' O'=>r'=i64 r/\O'=[]):=by
 refine Aho hf hname hb hn he fun pr w vs ha=>?_
 obtain⟨vs⟩:=vs
 match vs,ha with
 |[u,v],⟨h1,h2,_⟩=>
  cases h;obtain⟨s,rfl,hs⟩:=G7 h1;have hv:=DI h2;subst hv;refine⟨.int .i64 (AbA l c),?_,.int _ _ _⟩;have:=Go.run_indexByte_string (P:=B.P) s (c.toNat:Int) w;have e:s=⟨l.toArray⟩:=by subst hs;rfl
  have e2:((c.toNat:Int).toNat).toUInt8=c:=by rw[Apk];exact Arp
  rw[e2,e]at this;rw[e];exact this
def Ac3(xs:List (List UInt8))(sep:List UInt8):Option (List UInt8):=if(Lib.join xs sep).length<=140737488355328/\xs.length<=140737488355328 then some (Lib.join xs sep)else none
theorem AgK:Eo E xs ys []=some true:=rfl
theorem LR{f:Field}{fs:List Field}{d:TD}{x y:AV}{c:Bool}(hn:¬f.name = "_") (hd:E.tab f.type=some d) (hx:xs[f.offset]?=some x) (hy:ys[f.offset]?=some y) (hb:Nh d.desc x y=some b) (hc:Eo E xs ys fs=some c):Eo E xs ys (f::fs)=some (b&&c):=by
 unfold Eo;rw[Apd hn,hd];simp only[hx,hy,hb,hc]
theorem WY{f:Field}{d:TD}{x y:AV}(hn:¬f.name = "_") (hd:E.tab f.type=some d) (hx:xs[f.offset]?=some x) (hy:ys[f.offset]?=some y) (hb:Nh d.desc x y=some b):Eo E xs ys [f]=some b:=by
 have h:=LR (fs:=[]) hn hd hx hy hb AgK;rwa[Bool.and_true]at h
theorem MC(a b:Int):Nh (.int .i64) (i64 a) (i64 b)=some (a==b):=rfl
theorem Qh{t sz bt:Nat}{z:List AV}{fs:Array Field}(ht:E.tab t=some ⟨.struct fs,sz,bt,z⟩)(h1:E.P.stoodInHeld t=false)(h2:E.P.eqGuardType E.P.depth t=false) (hb:Eo E xs ys fs.toList=some b):B8 E .eql t (.agg xs) (.agg ys)=some (.bool b):=by
 show LX E .eql t xs ys=_;unfold LX;rw[ht];simp only[h1,h2,and_self,ApT,hb]
theorem Ql{t sz bt:Nat}{z:List AV}{fs:Array Field}(ht:E.tab t=some ⟨.struct fs,sz,bt,z⟩)(h1:E.P.stoodInHeld t=false)(h2:E.P.eqGuardType E.P.depth t=false) (hb:Eo E xs ys fs.toList=some b):B8 E .neq t (.agg xs) (.agg ys)=some (.bool (!b)):=by
 show LX E .neq t xs ys=_;unfold LX;rw[ht];simp only[h1,h2,and_self,ApT,hb]
theorem Aci{α:Type}(a:α)(l m:List α):List.append (a::l) m=a::List.append l m:=rfl
theorem AdP{α:Type}(m:List α):List.append [] m=m:=rfl
attribute [go_sem] Aci AdP
theorem AeA{a b c d:List UInt8}{i:Nat}(h:i<4):[[AV.str a],[AV.str b],[AV.str c],[AV.str d]][i]?=some [AV.str (nth [a,b,c,d] i)]:=by
 match i,h with
 |0,_=>rfl
 |1,_=>rfl
 |2,_=>rfl
 |3,_=>rfl
attribute [go_sem] AeA
open Go.WideElems Go.ChangeShapes Go.WideShapes Go.MapKept
variable{W:World}{sp:Nat->Bool}{n:Nat}{v:Value}
section
variable {H:Type}{enc:TypeId×Value->H}{P:Program}{base:Nat}{held:Bool}{e k:TypeId}
theorem VS(he:P.underlying e=some .bool){z:DataW H×List MemPlace}(h:elemAt enc P W base sp held n e v=some z):∃b:Bool,v=.bool b/\z.1=.lit (.bool b):=by
 unfold elemAt at h;split at h
 ·rename_i hf;cases n with
  |zero=>cases h
  | succ n=>
   unfold DataW.trod at h;rw[he]at h;cases v with
   |bool b=>
    refine⟨b,rfl,?_⟩;simp[Value.cells]at h;rw[<-h]
   |agg cs=>simp[Value.formed,he]at hf
   |_=>simp[Value.cells]at h
 cases h
theorem Ahc(hk:P.underlying k=some .string){a:List UInt8}(h:keyOf P k v=some (.string a)):IsKey .string v/\v=avV (.str a):=by
 rw[keyOf_string hk]at h;unfold mapKey at h;rw[hk]at h;cases v with
 | string s=>
  simp only at h;split at h
  ·simp only[Ao7,Lit.string.injEq]at h;subst h;exact⟨trivial,rfl⟩
  cases h
 |_=>simp at h
theorem Ajv(hk:P.underlying k=some (.int .u8)){a:UInt8}(h:keyOf P k v=some (.int .u8 (a.toNat:Int))):IsKey (.int .u8) v/\v=avV (u8 a):=by
 rw[keyOf_int hk]at h;unfold mapKey at h;rw[hk]at h;cases v with
 | int q n=>
  simp only at h;split at h
  ·rename_i hc;simp only[Ao7,Lit.int.injEq]at h;obtain⟨h1,h2⟩:=h;obtain⟨h3,_⟩:=hc;subst h3;rw[h2];exact⟨rfl,rfl⟩
  cases h
 |_=>simp at h
theorem Af5(he:P.underlying e=some .string){pl:List MemPlace}{b:List UInt8}(h:elemAt enc P W base sp held n e v=some (.lit (.string b),pl)):v=avV (.str b):=by
 obtain⟨s,rfl,h2,_⟩:=WideElems.elemAt_string he h;simp only[Apf,DataW.lit.injEq,Lit.string.injEq]at h2;rw[h2.1];rfl
theorem Aej(he:P.underlying e=some .bool){pl:List MemPlace}{b:Bool}(h:elemAt enc P W base sp held n e v=some (.lit (.bool b),pl)):v=avV (.bool b):=by
 obtain⟨s,rfl,h2⟩:=VS he h;simp only[DataW.lit.injEq,Lit.bool.injEq]at h2;rw[h2];rfl
theorem Ab4{x y:AV}(h:eqA x y=true):x=y:=by
 unfold eqA at h;split at h
 ·rw[Aqg]at h;rw[h]
 ·rw[Apj,Aqg,Aqg]at h;rw[h.1,h.2]
 ·rw[Aqg]at h;rw[h]
 cases h
theorem ZZ{κ ν:Type}{cK:κ->AV}{cV:ν->AV}{ka:AV}:∀{l:List (κ×ν)},TE cK cV l ka≠none->∃p∈l,cK p.1=ka
 |[],h=>absurd rfl h
 | p::l,h=>by
  unfold TE at h;by_cases hp:eqA (cK p.1) ka=true
  ·exact⟨p,by simp,Ab4 hp⟩
  rw[Apd hp]at h;obtain⟨q,hq,e⟩:=ZZ h;exact⟨q,by simp[hq],e⟩
theorem TH{t:TypeId}{kd:TypeDesc}{zv:AV}{κ ν:Type}{tab:List (κ×ν)}{cK:κ->AV}{cV:ν->AV}{lK:κ->Lit}{lV:ν->Lit}{cs:List Value}{ps:List MemPlace}{fuel:Nat} (ht:P.underlying t=some (.map k e)) (hk:P.underlying k=some kd) (hz:∀w,(zeroValue e).run P w=.ok (avV zv) w) (hzp:FO zv=true) (h:DataW.trod enc P W base sp held fuel t cs=some (.map (tab.map fun p=>(lK p.1,.lit (lV p.2))),ps)) (pK:∀a,FO (cK a)=true) (pV:∀a,FO (cV a)=true) (HK:∀v a,keyOf P k v=some (lK a)->IsKey kd v/\v=avV (cK a)) (HV:∀n v b pl,elemAt enc P W base sp held n e v=some (.lit (lV b),pl)->v=avV (cV b)) (hans:∀p∈tab,TE cK cV tab (cK p.1)=some (cV p.2)):∃r,cs=[.map (some r)]/\Ahp P t ⟨r,k,e,kd,zv,TE cK cV tab⟩ W:=by
 rcases open_map ht h with⟨_,h2⟩|⟨b,es,clock,n,rfl,rfl,hb,hbase,F,h2⟩
 ·cases(Prod.mk.inj h2).1
 refine⟨b,rfl,ht,hk,hz,T4 hzp,es,clock,hb,?_,?_⟩
 ·intro x hx;obtain⟨y,hy⟩:=F.reads x hx
  have hm:y∈tab.map fun p=>(lK p.1,(.lit (lV p.2):DataW H)):=by
   rw[DataW.map.inj (Prod.mk.inj h2).1,(sorted_perm _).mem_iff];exact Aqz.2 ⟨x,hx,rg_of hy⟩
  obtain⟨p,hp,rfl⟩:=Aqz.1 hm;obtain⟨k1,k2⟩:=HK x.key p.1 (rd_key hy);obtain⟨⟨d,pl⟩,hv,hd⟩:=rd_val hy;simp only at hd;subst hd;exact⟨k1,cK p.1,cV p.2,k2,HV n x.val p.2 pl hv,pK _,T4 (pV _),hans p hp⟩
 intro ka hka hne;obtain⟨p,hp,rfl⟩:=ZZ hne
 have hm:(lK p.1,(.lit (lV p.2):DataW H))∈es.toList.map (rg P k (elemAt enc P W base sp held n e)):=by
  rw[<-(sorted_perm _).mem_iff,<-DataW.map.inj (Prod.mk.inj h2).1];exact Aqz.2 ⟨p,hp,rfl⟩
 obtain⟨x,hx,hxe⟩:=Aqz.1 hm;obtain⟨y,hy⟩:=F.reads x hx;have hy2:=rd_key hy;rw[rg_of hy]at hxe;rw[hxe]at hy2;exact⟨x,hx,(HK x.key p.1 hy2).2⟩
end
def Adh(n:Int):Option (List UInt8):=if -9223372036854775808<=n/\n<=9223372036854775807 then some (Lib.itoa n)else none
end Go.Rv
