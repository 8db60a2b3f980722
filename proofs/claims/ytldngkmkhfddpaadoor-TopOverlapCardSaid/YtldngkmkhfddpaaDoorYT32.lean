/-
  Part 32.
-/
import Derived.Test.YtldngkmkhfddpaaDoorYT31
import Derived.Lib.Join
namespace Go.Rv
set_option linter.unusedVariables false
set_option linter.unusedSimpArgs false
def Ty{κ ν:Type}[BEq κ]:List (κ×ν)→κ→Bool
 |[],_=>false
 |p::l,k=>if p.1==k then true else Ty l k
def Gx{κ ν:Type}[BEq κ](z:ν):List (κ×ν)→κ→ν
 |[],_=>z
 |p::l,k=>if p.1==k then p.2 else Gx z l k
def eqA:AV→AV→Bool
 |.bool a,.bool b=>a==b
 |.int k a,.int k' b=>k==k'&&a==b
 |.str a,.str b=>a==b
 |_,_=>false
def Nm{κ ν:Type}(cK:κ→AV)(cV:ν→AV):List (κ×ν)→AV→Option AV
 |[],_=>none
 |p::l,a=>if eqA (cK p.1) a=true then some (cV p.2)else Nm cK cV l a
theorem TQ{κ ν:Type}[BEq κ]{cK:κ→AV}{cV:ν→AV}(he:∀a b,eqA (cK a) (cK b)=(a==b))(z:ν)(k:κ):∀l:List (κ×ν),
    (Nm cK cV l (cK k)).getD (cV z)=cV (Gx z l k)∧(Nm cK cV l (cK k)).isSome=Ty l k
  |[]=>⟨rfl,rfl⟩
  | p::l=>by
    unfold Nm Gx Ty
    rw[he]
    by_cases h:(p.1==k)=true
    · rw[if_pos h,if_pos h,if_pos h];exact⟨rfl,rfl⟩
    · rw[if_neg h,if_neg h,if_neg h];exact TQ he z k l
theorem R9{E:Env}{κ ν:Type}[BEq κ]{t kt et:TypeId}{r:Nat}{kd:TypeDesc}{cK:κ→AV}{cV:ν→AV}{z:ν}{l:List (κ×ν)}(hm:E.maps t=some ⟨r,kt,et,kd,cV z,Nm cK cV l⟩)
 (hk:∀k,Rd kd (cK k)=true) (he:∀a b,eqA (cK a) (cK b)=(a==b)) (k:κ):BD E t (.val (.map (some r))) (cK k) false=some (cV (Gx z l k)):=by
 unfold BD
 rw[hm]
 simp only[hk,and_self,if_true,(TQ he z k l).1]
 rfl
theorem Aah(a b:UInt8):eqA (u8 a) (u8 b)=(a==b):=by
 show((IntKind.u8==IntKind.u8)&&((a.toNat:Int)==(b.toNat:Int)))=_
 rw[Bool.eq_iff_iff]
 simp only[Bool.and_eq_true,beq_iff_eq,true_and]
 constructor
 ·intro h;exact UInt8.toNat_inj.1 (by omega)
 ·intro h;subst h;rfl
theorem Yi(a b:List UInt8):eqA (.str a) (.str b)=(a==b):=rfl
def U0(l:List UInt8)(c:UInt8):Int:=Go.firstIdx ⟨l.toArray⟩ c
def Pw(l:List UInt8)(c:UInt8):Option Int:=some (U0 l c)
theorem KM{B:Base}{f:FuncId}{fn:Func}{l:List UInt8}{c:UInt8}{r:Int}(hf:B.P.funcs[f]?=some fn)(hname:(fn.name == "runtime.NumGoroutine")=false) (hb:fn.body.isNone=true)
    (hn:Extern.findNext fn=none) (he:Extern.find fn=some Extern.BytealgIndexByte.indexByte) (h:Pw l c=some r):Con B f [.str l,u8 c] [] (fun r' σ'=>r'=i64 r∧σ'=[]):=by
  refine Y3 hf hname hb hn he fun pr w vs ha=>?_
  obtain⟨vs⟩:=vs
  match vs,ha with
  | [u,v],⟨h1,h2,_⟩=>
    cases h
    obtain⟨s,rfl,hs⟩:=FJ h1
    have hv:=CC h2
    subst hv
    refine⟨.int .i64 (U0 l c),?_,.int _ _ _⟩
    have:=Go.run_indexByte_string (P:=B.P) s (c.toNat:Int) w
    have e:s=⟨l.toArray⟩:=by subst hs;rfl
    have e2:((c.toNat:Int).toNat).toUInt8=c:=by rw[Int.toNat_natCast];exact UInt8.ofNat_toNat
    rw[e2,e]at this
    rw[e]
    exact this
theorem Vy{α:Type}(a:α)(l m:List α):List.append (a::l) m=a::List.append l m:=rfl
theorem Xc{α:Type}(m:List α):List.append [] m=m:=rfl
attribute [go_sem] Vy Xc
theorem Xh{a b c d:List UInt8}{i:Nat}(h:i<4):[[AV.str a],[AV.str b],[AV.str c],[AV.str d]][i]?=some [AV.str (nth [a,b,c,d] i)]:=by
 match i,h with
 |0,_=>rfl
 |1,_=>rfl
 |2,_=>rfl
 |3,_=>rfl
attribute [go_sem] Xh
end Go.Rv
