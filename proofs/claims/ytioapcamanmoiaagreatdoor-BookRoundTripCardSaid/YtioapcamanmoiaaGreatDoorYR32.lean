/-
  Part 32.
-/
import Derived.Test.YtioapcamanmoiaaGreatDoorYR31
import Derived.Lib.Join
namespace Go.Rv
set_option linter.unusedVariables false
set_option linter.unusedSimpArgs false
variable{E:Env}{xs ys:List AV}{b:Bool}
theorem Aey:CQ E xs ys []=some true:=rfl
theorem IZ{f:Field}{fs:List Field}{d:TD}{x y:AV}{c:Bool}(hn:¬f.name = "_") (hd:E.tab f.type=some d) (hx:xs[f.offset]?=some x) (hy:ys[f.offset]?=some y) (hb:Ip d.desc x y=some b) (hc:CQ E xs ys fs=some c):CQ E xs ys (f::fs)=some (b&&c):=by
 unfold CQ;rw[AoQ hn,hd];simp only[hx,hy,hb,hc]
theorem Mi{f:Field}{d:TD}{x y:AV}(hn:¬f.name = "_") (hd:E.tab f.type=some d) (hx:xs[f.offset]?=some x) (hy:ys[f.offset]?=some y) (hb:Ip d.desc x y=some b):CQ E xs ys [f]=some b:=by
 have h:=IZ (fs:=[]) hn hd hx hy hb Aey;rwa[Bool.and_true]at h
theorem KH(a b:Int):Ip (.int .i64) (i64 a) (i64 b)=some (a==b):=rfl
theorem Acm(a b:Bool):Ip .bool (.bool a) (.bool b)=some (a==b):=rfl
theorem Ju{t sz bt:Nat}{z:List AV}{fs:Array Field}(ht:E.tab t=some ⟨.struct fs,sz,bt,z⟩)(h1:E.P.stoodInHeld t=false)(h2:E.P.eqGuardType E.P.depth t=false) (hb:CQ E xs ys fs.toList=some b):AH E .eql t (.agg xs) (.agg ys)=some (.bool b):=by
 show K1 E .eql t xs ys=_;unfold K1;rw[ht];simp only[h1,h2,and_self,Aqe,hb]
theorem Jq{t sz bt:Nat}{z:List AV}{fs:Array Field}(ht:E.tab t=some ⟨.struct fs,sz,bt,z⟩)(h1:E.P.stoodInHeld t=false)(h2:E.P.eqGuardType E.P.depth t=false) (hb:CQ E xs ys fs.toList=some b):AH E .neq t (.agg xs) (.agg ys)=some (.bool (!b)):=by
 show K1 E .neq t xs ys=_;unfold K1;rw[ht];simp only[h1,h2,and_self,Aqe,hb]
theorem Aah{α:Type}(a:α)(l m:List α):List.append (a::l) m=a::List.append l m:=rfl
theorem Acj{α:Type}(m:List α):List.append [] m=m:=rfl
attribute [go_sem] Aah Acj
theorem Adb{a b c d:List UInt8}{i:Nat}(h:i<4):[[AV.str a],[AV.str b],[AV.str c],[AV.str d]][i]?=some [AV.str (nth [a,b,c,d] i)]:=by
 match i,h with
 |0,_=>rfl
 |1,_=>rfl
 |2,_=>rfl
 |3,_=>rfl
attribute [go_sem] Adb
end Go.Rv
