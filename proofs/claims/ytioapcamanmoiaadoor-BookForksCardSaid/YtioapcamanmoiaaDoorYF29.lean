/-
  Part 29.
-/
import Derived.Test.YtioapcamanmoiaaDoorYF28
import Derived.Recover
import Derived.Lib.Join
namespace Go.Rv
set_option linter.unusedVariables false
set_option linter.unusedSimpArgs false
section
variable {P:Program}{ops:Array Oper}{Q:Exit→Act→List Frame→World→Prop}
end
theorem YU{w:World}{pr:Addr→Prop}{g:Gh}{n:Nat}{l:Fr}{tmps:Array Value}(h:∀p∈l,Rep w pr g (tmps.getD p.1 undef) p.2):∀(t:Nat) (x:AV),(Aq n l)[t]?=some x→Rep w pr g (tmps.getD t undef) x:=by
  intro t x hx;rw[CV]at hx;split at hx
  case isFalse=>cases hx
  cases hx
  induction l with
  |nil=>exact .junk _ _
  | cons p l ih=>
    show Rep w pr g _ (if t=p.1 then p.2 else look l t);by_cases e:t=p.1
    · rw[AkS e,e];exact h p Ak7
    · rw[AkT e];exact ih (fun q hq=>h q (Alx _ hq))
def X7(f:Operand→AV):Fr→Prop
 |[]=>True
 |p::l=>f (.tmp p.1)=p.2∧X7 f l
attribute [go_sem] X7 Ej
variable{E:Env}{xs ys:List AV}{b:Bool}
theorem AcW:Dc E xs ys []=some true:=rfl
theorem Ii{f:Field}{fs:List Field}{d:TD}{x y:AV}{c:Bool}(hn:¬f.name = "_") (hd:E.tab f.type=some d) (hx:xs[f.offset]?=some x) (hy:ys[f.offset]?=some y) (hb:HO d.desc x y=some b) (hc:Dc E xs ys fs=some c):Dc E xs ys (f::fs)=some (b&&c):=by
 unfold Dc;rw[AkT hn,hd];simp only[hx,hy,hb,hc]
theorem LK{f:Field}{d:TD}{x y:AV}(hn:¬f.name = "_") (hd:E.tab f.type=some d) (hx:xs[f.offset]?=some x) (hy:ys[f.offset]?=some y) (hb:HO d.desc x y=some b):Dc E xs ys [f]=some b:=by
 have h:=Ii (fs:=[]) hn hd hx hy hb AcW;rwa[Bool.and_true]at h
theorem Ka(a b:Int):HO (.int .i64) (i64 a) (i64 b)=some (a==b):=rfl
theorem Y8(a b:Bool):HO .bool (.bool a) (.bool b)=some (a==b):=rfl
theorem I0{t sz bt:Nat}{z:List AV}{fs:Array Field}(ht:E.tab t=some ⟨.struct fs,sz,bt,z⟩)(h1:E.P.stoodInHeld t=false)(h2:E.P.eqGuardType E.P.depth t=false) (hb:Dc E xs ys fs.toList=some b):AJ E .eql t (.agg xs) (.agg ys)=some (.bool b):=by
 show JA E .eql t xs ys=_;unfold JA;rw[ht];simp only[h1,h2,and_self,Amq,hb]
theorem I7{t sz bt:Nat}{z:List AV}{fs:Array Field}(ht:E.tab t=some ⟨.struct fs,sz,bt,z⟩)(h1:E.P.stoodInHeld t=false)(h2:E.P.eqGuardType E.P.depth t=false) (hb:Dc E xs ys fs.toList=some b):AJ E .neq t (.agg xs) (.agg ys)=some (.bool (!b)):=by
 show JA E .neq t xs ys=_;unfold JA;rw[ht];simp only[h1,h2,and_self,Amq,hb]
theorem X3{α:Type}(a:α)(l m:List α):List.append (a::l) m=a::List.append l m:=rfl
theorem ZN{α:Type}(m:List α):List.append [] m=m:=rfl
attribute [go_sem] X3 ZN
theorem YW{a b c d:List UInt8}{i:Nat}(h:i<4):[[AV.str a],[AV.str b],[AV.str c],[AV.str d]][i]?=some [AV.str (nth [a,b,c,d] i)]:=by
 match i,h with
 |0,_=>rfl
 |1,_=>rfl
 |2,_=>rfl
 |3,_=>rfl
attribute [go_sem] YW
end Go.Rv
