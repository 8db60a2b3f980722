/-
  Part 31.
-/
import Derived.Test.YtldngkmkhfddpaaGreatDoorYW30
import Derived.Lib.Join
namespace Go.Rv
set_option linter.unusedVariables false
set_option linter.unusedSimpArgs false
variable{E:Env}{xs ys:List AV}{b:Bool}
def Ac8{κ ν:Type}[BEq κ]:List (κ×ν)->κ->Bool
 |[],_=>false
 |p::l,k=>if p.1==k then true else Ac8 l k
def IW{κ ν:Type}[BEq κ](z:ν):List (κ×ν)->κ->ν
 |[],_=>z
 |p::l,k=>if p.1==k then p.2 else IW z l k
def eqA:AV->AV->Bool
 |.bool a,.bool b=>a==b
 |.int k a,.int k' b=>k==k'&&a==b
 |.str a,.str b=>a==b
 |_,_=>false
def QK{κ ν:Type}(cK:κ->AV)(cV:ν->AV):List (κ×ν)->AV->Option AV
 |[],_=>none
 |p::l,a=>if eqA (cK p.1) a=true then some (cV p.2)else QK cK cV l a
theorem Abp{κ ν:Type}[BEq κ]{cK:κ->AV}{cV:ν->AV}(he:∀a b,eqA (cK a) (cK b)=(a==b))(z:ν)(k:κ):∀l:List (κ×ν),(QK cK cV l (cK k)).getD (cV z)=cV (IW z l k)/\(QK cK cV l (cK k)).isSome=Ac8 l k
 |[]=>⟨rfl,rfl⟩
 |p::l=>by
  unfold QK IW Ac8;rw[he];by_cases h:(p.1==k)=true
  ·rw[AqJ h,AqJ h,AqJ h];exact⟨rfl,rfl⟩
  rw[AqI h,AqI h,AqI h];exact Abp he z k l
theorem XG{κ ν:Type}[BEq κ]{t kt et:TypeId}{r:Nat}{kd:TypeDesc}{cK:κ->AV}{cV:ν->AV}{z:ν}{l:List (κ×ν)}(hm:E.maps t=some ⟨r,kt,et,kd,cV z,QK cK cV l⟩) (hk:∀k,Aj2 kd (cK k)=true) (he:∀a b,eqA (cK a) (cK b)=(a==b)) (k:κ):K2 E t (.val (.map (some r))) (cK k) false=some (cV (IW z l k)):=by
 unfold K2;rw[hm];simp only[hk,and_self,Aro,(Abp he z k l).1];rfl
theorem AlN(a b:UInt8):eqA (u8 a) (u8 b)=(a==b):=by
 show((IntKind.u8==IntKind.u8)&&((a.toNat:Int)==(b.toNat:Int)))=_;rw[AsG];simp only[AqZ,ArO,true_and];constructor
 ·intro h;exact UInt8.toNat_inj.1 (by omega)
 intro h;subst h;rfl
theorem AhV(a b:List UInt8):eqA (.str a) (.str b)=(a==b):=rfl
def AcI(l:List UInt8)(c:UInt8):Int:=Go.firstIdx ⟨l.toArray⟩ c
def Xs(l:List UInt8)(c:UInt8):Option Int:=some (AcI l c)
theorem Q0{B:Base}{f:FuncId}{fn:Func}{l:List UInt8}{c:UInt8}{r:Int}(hf:B.P.funcs[f]?=some fn)(hname:(fn.name == "runtime.NumGoroutine")=false) (hb:fn.body.isNone=true) (hn:Extern.findNext fn=none) (he:Extern.find fn=some Extern.BytealgIndexByte.indexByte) (h:Xs l c=some r):Con B f [.str l,u8 c] [] (fun r' O'=>r'=i64 r/\O'=[]):=by
 refine AiL hf hname hb hn he fun pr w vs ha=>?_
 obtain⟨vs⟩:=vs
 match vs,ha with
 |[u,v],⟨h1,h2,_⟩=>
  cases h;obtain⟨s,rfl,hs⟩:=GF h1;have hv:=DK h2;subst hv;refine⟨.int .i64 (AcI l c),?_,.int _ _ _⟩;have:=Go.run_indexByte_string (P:=B.P) s (c.toNat:Int) w;have e:s=⟨l.toArray⟩:=by subst hs;rfl
  have e2:((c.toNat:Int).toNat).toUInt8=c:=by rw[AqR];exact As0
  rw[e2,e]at this;rw[e];exact this
def AeN(xs:List (List UInt8))(sep:List UInt8):Option (List UInt8):=if(Lib.join xs sep).length<=140737488355328/\xs.length<=140737488355328 then some (Lib.join xs sep)else none
theorem AhC:E5 E xs ys []=some true:=rfl
theorem M2{f:Field}{fs:List Field}{d:TD}{x y:AV}{c:Bool}(hn:¬f.name = "_") (hd:E.tab f.type=some d) (hx:xs[f.offset]?=some x) (hy:ys[f.offset]?=some y) (hb:NL d.desc x y=some b) (hc:E5 E xs ys fs=some c):E5 E xs ys (f::fs)=some (b&&c):=by
 unfold E5;rw[AqI hn,hd];simp only[hx,hy,hb,hc]
theorem XW{f:Field}{d:TD}{x y:AV}(hn:¬f.name = "_") (hd:E.tab f.type=some d) (hx:xs[f.offset]?=some x) (hy:ys[f.offset]?=some y) (hb:NL d.desc x y=some b):E5 E xs ys [f]=some b:=by
 have h:=M2 (fs:=[]) hn hd hx hy hb AhC;rwa[Bool.and_true]at h
theorem ND(a b:Int):NL (.int .i64) (i64 a) (i64 b)=some (a==b):=rfl
theorem QP{t sz bt:Nat}{z:List AV}{fs:Array Field}(ht:E.tab t=some ⟨.struct fs,sz,bt,z⟩)(h1:E.P.stoodInHeld t=false)(h2:E.P.eqGuardType E.P.depth t=false) (hb:E5 E xs ys fs.toList=some b):BF E .eql t (.agg xs) (.agg ys)=some (.bool b):=by
 show Nc E .eql t xs ys=_;unfold Nc;rw[ht];simp only[h1,h2,and_self,Aro,hb]
theorem Q5{t sz bt:Nat}{z:List AV}{fs:Array Field}(ht:E.tab t=some ⟨.struct fs,sz,bt,z⟩)(h1:E.P.stoodInHeld t=false)(h2:E.P.eqGuardType E.P.depth t=false) (hb:E5 E xs ys fs.toList=some b):BF E .neq t (.agg xs) (.agg ys)=some (.bool (!b)):=by
 show Nc E .neq t xs ys=_;unfold Nc;rw[ht];simp only[h1,h2,and_self,Aro,hb]
theorem Acm{α:Type}(a:α)(l m:List α):List.append (a::l) m=a::List.append l m:=rfl
theorem AeT{α:Type}(m:List α):List.append [] m=m:=rfl
attribute [go_sem] Acm AeT
theorem AdP{a b c d:List UInt8}{i:Nat}(h:i<4):[[AV.str a],[AV.str b],[AV.str c],[AV.str d]][i]?=some [AV.str (nth [a,b,c,d] i)]:=by
 match i,h with
 |0,_=>rfl
 |1,_=>rfl
 |2,_=>rfl
 |3,_=>rfl
attribute [go_sem] AdP
end Go.Rv
