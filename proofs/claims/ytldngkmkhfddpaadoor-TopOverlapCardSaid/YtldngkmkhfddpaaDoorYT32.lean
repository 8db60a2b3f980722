/-
  Part 32.
-/
import Derived.Test.YtldngkmkhfddpaaDoorYT31
import Derived.Lib.Join
namespace Go.Rv
set_option linter.unusedVariables false
set_option linter.unusedSimpArgs false
def U5{κ ν:Type}[BEq κ]:List (κ×ν)→κ→Bool
 |[],_=>false
 |p::l,k=>if p.1==k then true else U5 l k
def Gl{κ ν:Type}[BEq κ](z:ν):List (κ×ν)→κ→ν
 |[],_=>z
 |p::l,k=>if p.1==k then p.2 else Gl z l k
def eqA:AV→AV→Bool
 |.bool a,.bool b=>a==b
 |.int k a,.int k' b=>k==k'&&a==b
 |.str a,.str b=>a==b
 |_,_=>false
def N6{κ ν:Type}(cK:κ→AV)(cV:ν→AV):List (κ×ν)→AV→Option AV
 |[],_=>none
 |p::l,a=>if eqA (cK p.1) a=true then some (cV p.2)else N6 cK cV l a
theorem UT{κ ν:Type}[BEq κ]{cK:κ→AV}{cV:ν→AV}(he:∀a b,eqA (cK a) (cK b)=(a==b))(z:ν)(k:κ):∀l:List (κ×ν),
    (N6 cK cV l (cK k)).getD (cV z)=cV (Gl z l k)∧(N6 cK cV l (cK k)).isSome=U5 l k
  |[]=>⟨rfl,rfl⟩
  | p::l=>by
    unfold N6 Gl U5
    rw[he]
    by_cases h:(p.1==k)=true
    · rw[if_pos h,if_pos h,if_pos h];exact⟨rfl,rfl⟩
    · rw[if_neg h,if_neg h,if_neg h];exact UT he z k l
theorem Rz{E:Env}{κ ν:Type}[BEq κ]{t kt et:TypeId}{r:Nat}{kd:TypeDesc}{cK:κ→AV}{cV:ν→AV}{z:ν}{l:List (κ×ν)}(hm:E.maps t=some ⟨r,kt,et,kd,cV z,N6 cK cV l⟩)
 (hk:∀k,R9 kd (cK k)=true) (he:∀a b,eqA (cK a) (cK b)=(a==b)) (k:κ):BD E t (.val (.map (some r))) (cK k) false=some (cV (Gl z l k)):=by
 unfold BD
 rw[hm]
 simp only[hk,and_self,if_true,(UT he z k l).1]
 rfl
theorem AaM(a b:UInt8):eqA (u8 a) (u8 b)=(a==b):=by
 show((IntKind.u8==IntKind.u8)&&((a.toNat:Int)==(b.toNat:Int)))=_
 rw[Bool.eq_iff_iff]
 simp only[Bool.and_eq_true,beq_iff_eq,true_and]
 constructor
 ·intro h;exact UInt8.toNat_inj.1 (by omega)
 ·intro h;subst h;rfl
theorem XW(a b:List UInt8):eqA (.str a) (.str b)=(a==b):=rfl
def VK(l:List UInt8)(c:UInt8):Int:=Go.firstIdx ⟨l.toArray⟩ c
def PG(l:List UInt8)(c:UInt8):Option Int:=some (VK l c)
theorem Lj{B:Base}{f:FuncId}{fn:Func}{l:List UInt8}{c:UInt8}{r:Int}(hf:B.P.funcs[f]?=some fn)(hname:(fn.name == "runtime.NumGoroutine")=false) (hb:fn.body.isNone=true)
    (hn:Extern.findNext fn=none) (he:Extern.find fn=some Extern.BytealgIndexByte.indexByte) (h:PG l c=some r):Con B f [.str l,u8 c] [] (fun r' σ'=>r'=i64 r∧σ'=[]):=by
  refine Z5 hf hname hb hn he fun pr w vs ha=>?_
  obtain⟨vs⟩:=vs
  match vs,ha with
  | [u,v],⟨h1,h2,_⟩=>
    cases h
    obtain⟨s,rfl,hs⟩:=FR h1
    have hv:=CE h2
    subst hv
    refine⟨.int .i64 (VK l c),?_,.int _ _ _⟩
    have:=Go.run_indexByte_string (P:=B.P) s (c.toNat:Int) w
    have e:s=⟨l.toArray⟩:=by subst hs;rfl
    have e2:((c.toNat:Int).toNat).toUInt8=c:=by rw[Int.toNat_natCast];exact UInt8.ofNat_toNat
    rw[e2,e]at this
    rw[e]
    exact this
theorem Up{α:Type}(a:α)(l m:List α):List.append (a::l) m=a::List.append l m:=rfl
theorem VX{α:Type}(m:List α):List.append [] m=m:=rfl
attribute [go_sem] Up VX
theorem WE{a b c d:List UInt8}{i:Nat}(h:i<4):[[AV.str a],[AV.str b],[AV.str c],[AV.str d]][i]?=some [AV.str (nth [a,b,c,d] i)]:=by
 match i,h with
 |0,_=>rfl
 |1,_=>rfl
 |2,_=>rfl
 |3,_=>rfl
attribute [go_sem] WE
end Go.Rv
