/-
  Part 29.
-/
import Derived.Test.YtioapcamanmoiaaGreatDoorYG28
import Derived.Recover
import Derived.Lib.Join
namespace Go.Rv
set_option linter.unusedVariables false
set_option linter.unusedSimpArgs false
section
variable {P:Program}{ops:Array Oper}{Q:Exit→Act→List Frame→World→Prop}
end
theorem Acd{w:World}{pr:Addr→Prop}{g:Gh}{n:Nat}{l:Fr}{tmps:Array Value}(h:∀p∈l,Rep w pr g (tmps.getD p.1 undef) p.2):∀(t:Nat) (x:AV),(Ar n l)[t]?=some x→Rep w pr g (tmps.getD t undef) x:=by
  intro t x hx;rw[Dr]at hx;split at hx
  case isFalse=>cases hx
  cases hx
  induction l with
  |nil=>exact .junk _ _
  | cons p l ih=>
    show Rep w pr g _ (if t=p.1 then p.2 else look l t);by_cases e:t=p.1
    · rw[ApU e,e];exact h p Aqc
    · rw[ApV e];exact ih (fun q hq=>h q (AqE _ hq))
def AaO(f:Operand→AV):Fr→Prop
 |[]=>True
 |p::l=>f (.tmp p.1)=p.2∧AaO f l
def Aek(n:Nat)(p:Nat×AV):Bool:=match p.2 with
 |.ref i 0=>decide (i<n)
 |_=>false
attribute [go_sem] AaO EC
variable{E:Env}{xs ys:List AV}{b:Bool}
theorem AeK:Dx E xs ys []=some true:=rfl
theorem Jd{f:Field}{fs:List Field}{d:TD}{x y:AV}{c:Bool}(hn:¬f.name = "_") (hd:E.tab f.type=some d) (hx:xs[f.offset]?=some x) (hy:ys[f.offset]?=some y) (hb:Ih d.desc x y=some b) (hc:Dx E xs ys fs=some c):Dx E xs ys (f::fs)=some (b&&c):=by
 unfold Dx;rw[ApV hn,hd];simp only[hx,hy,hb,hc]
theorem Mh{f:Field}{d:TD}{x y:AV}(hn:¬f.name = "_") (hd:E.tab f.type=some d) (hx:xs[f.offset]?=some x) (hy:ys[f.offset]?=some y) (hb:Ih d.desc x y=some b):Dx E xs ys [f]=some b:=by
 have h:=Jd (fs:=[]) hn hd hx hy hb AeK;rwa[Bool.and_true]at h
theorem KC(a b:Int):Ih (.int .i64) (i64 a) (i64 b)=some (a==b):=rfl
theorem Ade(a b:Bool):Ih .bool (.bool a) (.bool b)=some (a==b):=rfl
theorem Jt{t sz bt:Nat}{z:List AV}{fs:Array Field}(ht:E.tab t=some ⟨.struct fs,sz,bt,z⟩)(h1:E.P.stoodInHeld t=false)(h2:E.P.eqGuardType E.P.depth t=false) (hb:Dx E xs ys fs.toList=some b):AO E .eql t (.agg xs) (.agg ys)=some (.bool b):=by
 show Kv E .eql t xs ys=_;unfold Kv;rw[ht];simp only[h1,h2,and_self,Arq,hb]
theorem Jq{t sz bt:Nat}{z:List AV}{fs:Array Field}(ht:E.tab t=some ⟨.struct fs,sz,bt,z⟩)(h1:E.P.stoodInHeld t=false)(h2:E.P.eqGuardType E.P.depth t=false) (hb:Dx E xs ys fs.toList=some b):AO E .neq t (.agg xs) (.agg ys)=some (.bool (!b)):=by
 show Kv E .neq t xs ys=_;unfold Kv;rw[ht];simp only[h1,h2,and_self,Arq,hb]
theorem Z6{α:Type}(a:α)(l m:List α):List.append (a::l) m=a::List.append l m:=rfl
theorem Acu{α:Type}(m:List α):List.append [] m=m:=rfl
attribute [go_sem] Z6 Acu
theorem AdR{a b c d:List UInt8}{i:Nat}(h:i<4):[[AV.str a],[AV.str b],[AV.str c],[AV.str d]][i]?=some [AV.str (nth [a,b,c,d] i)]:=by
 match i,h with
 |0,_=>rfl
 |1,_=>rfl
 |2,_=>rfl
 |3,_=>rfl
attribute [go_sem] AdR
end Go.Rv
