/-
  Part 29.
-/
import Derived.Test.YtioapcamanmoiaaGreatDoorYA28
import Derived.Recover
import Derived.Lib.Join
namespace Go.Rv
section
variable {P:Program}{ops:Array Oper}{Q:Exit→Act→List Frame→World→Prop}
end
theorem Aem{w:World}{pr:Addr→Prop}{g:Gh}{n:Nat}{l:Fr}{tmps:Array Value}(h:∀p∈l,Rep w pr g (tmps.getD p.1 undef) p.2):∀(t:Nat) (x:AV),(Ao n l)[t]?=some x→Rep w pr g (tmps.getD t undef) x:=by
  intro t x hx;rw[DD]at hx;split at hx
  case isFalse=>cases hx
  cases hx
  induction l with
  |nil=>exact .junk _ _
  | cons p l ih=>
    show Rep w pr g _ (if t=p.1 then p.2 else look l t);by_cases e:t=p.1
    · rw[AsU e,e];exact h p Ath
    · rw[AsX e];exact ih (fun q hq=>h q (AtO _ hq))
def AbO(f:Operand→AV):Fr→Prop
 |[]=>True
 |p::l=>f (.tmp p.1)=p.2∧AbO f l
def Ahe(n:Nat)(p:Nat×AV):Bool:=match p.2 with
 |.ref i 0=>decide (i<n)
 |_=>false
attribute [go_sem] AbO EP
variable{E:Env}{xs ys:List AV}{b:Bool}
theorem Aid:DN E xs ys []=some true:=rfl
theorem KE{f:Field}{fs:List Field}{d:TD}{x y:AV}{c:Bool}(hn:¬f.name = "_") (hd:E.tab f.type=some d) (hx:xs[f.offset]?=some x) (hy:ys[f.offset]?=some y) (hb:JZ d.desc x y=some b) (hc:DN E xs ys fs=some c):DN E xs ys (f::fs)=some (b&&c):=by
 unfold DN;rw[AsX hn,hd];simp only[hx,hy,hb,hc]
theorem NQ{f:Field}{d:TD}{x y:AV}(hn:¬f.name = "_") (hd:E.tab f.type=some d) (hx:xs[f.offset]?=some x) (hy:ys[f.offset]?=some y) (hb:JZ d.desc x y=some b):DN E xs ys [f]=some b:=by
 have h:=KE (fs:=[]) hn hd hx hy hb Aid;rwa[Bool.and_true]at h
theorem MN(a b:Int):JZ (.int .i64) (i64 a) (i64 b)=some (a==b):=rfl
theorem Agz(a b:Bool):JZ .bool (.bool a) (.bool b)=some (a==b):=rfl
theorem KR{t sz bt:Nat}{z:List AV}{fs:Array Field}(ht:E.tab t=some ⟨.struct fs,sz,bt,z⟩)(h1:E.P.stoodInHeld t=false)(h2:E.P.eqGuardType E.P.depth t=false) (hb:DN E xs ys fs.toList=some b):AM E .eql t (.agg xs) (.agg ys)=some (.bool b):=by
 show L7 E .eql t xs ys=_;unfold L7;rw[ht];simp only[h1,h2,and_self,AuA,hb]
theorem KX{t sz bt:Nat}{z:List AV}{fs:Array Field}(ht:E.tab t=some ⟨.struct fs,sz,bt,z⟩)(h1:E.P.stoodInHeld t=false)(h2:E.P.eqGuardType E.P.depth t=false) (hb:DN E xs ys fs.toList=some b):AM E .neq t (.agg xs) (.agg ys)=some (.bool (!b)):=by
 show L7 E .neq t xs ys=_;unfold L7;rw[ht];simp only[h1,h2,and_self,AuA,hb]
theorem AbR{α:Type}(a:α)(l m:List α):List.append (a::l) m=a::List.append l m:=rfl
theorem Ae7{α:Type}(m:List α):List.append [] m=m:=rfl
attribute [go_sem] AbR Ae7
theorem Agg{a b c d:List UInt8}{i:Nat}(h:i<4):[[AV.str a],[AV.str b],[AV.str c],[AV.str d]][i]?=some [AV.str (nth [a,b,c,d] i)]:=by
 match i,h with
 |0,_=>rfl
 |1,_=>rfl
 |2,_=>rfl
 |3,_=>rfl
attribute [go_sem] Agg
end Go.Rv
