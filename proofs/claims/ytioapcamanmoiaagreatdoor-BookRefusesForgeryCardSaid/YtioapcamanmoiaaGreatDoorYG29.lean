/-
  Part 29.
-/
import Derived.Test.YtioapcamanmoiaaGreatDoorYG28
import Derived.Recover
import Derived.Lib.Join
namespace Go.Rv
set_option linter.unusedVariables false
set_option linter.unusedSimpArgs false
section
variable {P:Program}{ops:Array Oper}{Q:Exit→Act→List Frame→World→Prop}
end
theorem Acs{w:World}{pr:Addr→Prop}{g:Gh}{n:Nat}{l:Fr}{tmps:Array Value}(h:∀p∈l,Rep w pr g (tmps.getD p.1 undef) p.2):∀(t:Nat) (x:AV),(Ar n l)[t]?=some x→Rep w pr g (tmps.getD t undef) x:=by
  intro t x hx;rw[Do]at hx;split at hx
  case isFalse=>cases hx
  cases hx
  induction l with
  |nil=>exact .junk _ _
  | cons p l ih=>
    show Rep w pr g _ (if t=p.1 then p.2 else look l t);by_cases e:t=p.1
    · rw[ApU e,e];exact h p Aqc
    · rw[ApV e];exact ih (fun q hq=>h q (AqE _ hq))
def Abd(f:Operand→AV):Fr→Prop
 |[]=>True
 |p::l=>f (.tmp p.1)=p.2∧Abd f l
def Aeq(n:Nat)(p:Nat×AV):Bool:=match p.2 with
 |.ref i 0=>decide (i<n)
 |_=>false
attribute [go_sem] Abd E7
variable{E:Env}{xs ys:List AV}{b:Bool}
theorem AfD:Dv E xs ys []=some true:=rfl
theorem IX{f:Field}{fs:List Field}{d:TD}{x y:AV}{c:Bool}(hn:¬f.name = "_") (hd:E.tab f.type=some d) (hx:xs[f.offset]?=some x) (hy:ys[f.offset]?=some y) (hb:I2 d.desc x y=some b) (hc:Dv E xs ys fs=some c):Dv E xs ys (f::fs)=some (b&&c):=by
 unfold Dv;rw[ApV hn,hd];simp only[hx,hy,hb,hc]
theorem Mw{f:Field}{d:TD}{x y:AV}(hn:¬f.name = "_") (hd:E.tab f.type=some d) (hx:xs[f.offset]?=some x) (hy:ys[f.offset]?=some y) (hb:I2 d.desc x y=some b):Dv E xs ys [f]=some b:=by
 have h:=IX (fs:=[]) hn hd hx hy hb AfD;rwa[Bool.and_true]at h
theorem K8(a b:Int):I2 (.int .i64) (i64 a) (i64 b)=some (a==b):=rfl
theorem Ack(a b:Bool):I2 .bool (.bool a) (.bool b)=some (a==b):=rfl
theorem Jj{t sz bt:Nat}{z:List AV}{fs:Array Field}(ht:E.tab t=some ⟨.struct fs,sz,bt,z⟩)(h1:E.P.stoodInHeld t=false)(h2:E.P.eqGuardType E.P.depth t=false) (hb:Dv E xs ys fs.toList=some b):AO E .eql t (.agg xs) (.agg ys)=some (.bool b):=by
 show JY E .eql t xs ys=_;unfold JY;rw[ht];simp only[h1,h2,and_self,Arq,hb]
theorem Jl{t sz bt:Nat}{z:List AV}{fs:Array Field}(ht:E.tab t=some ⟨.struct fs,sz,bt,z⟩)(h1:E.P.stoodInHeld t=false)(h2:E.P.eqGuardType E.P.depth t=false) (hb:Dv E xs ys fs.toList=some b):AO E .neq t (.agg xs) (.agg ys)=some (.bool (!b)):=by
 show JY E .neq t xs ys=_;unfold JY;rw[ht];simp only[h1,h2,and_self,Arq,hb]
theorem ZN{α:Type}(a:α)(l m:List α):List.append (a::l) m=a::List.append l m:=rfl
theorem AdP{α:Type}(m:List α):List.append [] m=m:=rfl
attribute [go_sem] ZN AdP
theorem Adn{a b c d:List UInt8}{i:Nat}(h:i<4):[[AV.str a],[AV.str b],[AV.str c],[AV.str d]][i]?=some [AV.str (nth [a,b,c,d] i)]:=by
 match i,h with
 |0,_=>rfl
 |1,_=>rfl
 |2,_=>rfl
 |3,_=>rfl
attribute [go_sem] Adn
end Go.Rv
