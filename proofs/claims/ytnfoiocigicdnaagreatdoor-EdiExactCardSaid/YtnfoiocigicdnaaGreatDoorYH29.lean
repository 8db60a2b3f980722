/-
  Part 29.
-/
import Derived.Test.YtnfoiocigicdnaaGreatDoorYH28
import Derived.Recover
import Derived.Lib.Join
namespace Go.Rv
set_option linter.unusedVariables false
set_option linter.unusedSimpArgs false
section
variable {P : Program} {ops : Array Oper} {Q : Exit→Act→List Frame→World→Prop}
end
def Afa (f : Operand→AV) : Fr→Prop
 | [] => True
 | p :: l => f (.tmp p.1) = p.2∧Afa f l
def Ah3 (n : Nat) (p : Nat×AV) : Bool:=match p.2 with
 | .ref i 0 => decide (i < n)
 | _ => false
attribute [go_sem] Afa Jt
theorem AkQ {sel : List Nat} {v : Value} : wk1 sel (.val v) (.val v) = True:=by simp [wk1,wk0,AV.closed]
attribute [go_sem] AkQ
def Aid (l : List UInt8) (c : UInt8) : Int:=Go.firstIdx ⟨l.toArray⟩ c
def AeN (l : List UInt8) (c : UInt8) : Option Int:=some (Aid l c)
theorem S8 {B : Base} {f : FuncId} {fn : Func} {l : List UInt8} {c : UInt8} {r : Int} (hf : B.P.funcs[f]? = some fn) (hname : (fn.name == "runtime.NumGoroutine") = false) (hb : fn.body.isNone = true)
    (hn : Extern.findNext fn = none) (he : Extern.find fn = some Extern.BytealgIndexByte.indexByte) (h : AeN l c = some r) : Con B f [.str l,u8 c] [] (fun r' σ' => r' = i64 r∧σ' = []):=by
  refine Afd hf hname hb hn he fun pr w vs ha => ?_
  obtain ⟨vs⟩:=vs
  match vs,ha with
  | [u,v],⟨h1,h2,_⟩ =>
    cases h
    obtain ⟨s,rfl,hs⟩:=Jp h1
    have hv:=C0 h2
    subst hv
    refine ⟨.int .i64 (Aid l c),?_,.int _ _ _⟩
    have:=Go.run_indexByte_string (P:=B.P) s (c.toNat : Int) w
    have e : s = ⟨l.toArray⟩:=by subst hs;rfl
    have e2 : ((c.toNat : Int).toNat).toUInt8 = c:=by rw [Int.toNat_natCast];exact UInt8.ofNat_toNat
    rw [e2,e] at this
    rw [e]
    exact this
theorem AjP {E : Env} {xs ys : List AV} : Eh E xs ys [] = some true:=rfl
theorem Of {E : Env} {xs ys : List AV} {f : Field} {fs : List Field} {d : TD} {x y : AV} {b c : Bool} (hn : ¬ f.name = "_") (hd : E.tab f.type = some d) (hx : xs[f.offset]? = some x) (hy : ys[f.offset]? = some y)
  (hb : Nb d.desc x y = some b) (hc : Eh E xs ys fs = some c) : Eh E xs ys (f :: fs) = some (b && c):=by
 unfold Eh
 rw [if_neg hn,hd]
 simp only [hx,hy,hb,hc]
theorem Wq {E : Env} {xs ys : List AV} {f : Field} {d : TD} {x y : AV} {b : Bool} (hn : ¬ f.name = "_") (hd : E.tab f.type = some d) (hx : xs[f.offset]? = some x) (hy : ys[f.offset]? = some y)
  (hb : Nb d.desc x y = some b) : Eh E xs ys [f] = some b:=by
 have h:=Of (fs:=[]) hn hd hx hy hb AjP
 rwa [Bool.and_true] at h
theorem Pl (a b : Int) : Nb (.int .i64) (i64 a) (i64 b) = some (a == b):=rfl
theorem Ag8 (a b : Bool) : Nb .bool (.bool a) (.bool b) = some (a == b):=rfl
theorem Uq {E : Env} {t sz bt : Nat} {z xs ys : List AV} {fs : Array Field} {b : Bool} (ht : E.tab t = some ⟨.struct fs,sz,bt,z⟩) (h1 : E.P.stoodInHeld t = false) (h2 : E.P.eqGuardType E.P.depth t = false)
  (hb : Eh E xs ys fs.toList = some b) : Bg E .eql t (.agg xs) (.agg ys) = some (.bool b):=by
 show Tj E .eql t xs ys = _
 unfold Tj
 rw [ht]
 simp only [h1,h2,and_self,if_true,hb]
theorem M8 {E : Env} {t sz bt : Nat} {z xs ys : List AV} {fs : Array Field} {b : Bool} (ht : E.tab t = some ⟨.struct fs,sz,bt,z⟩) (h1 : E.P.stoodInHeld t = false) (h2 : E.P.eqGuardType E.P.depth t = false)
  (hb : Eh E xs ys fs.toList = some b) : Bg E .neq t (.agg xs) (.agg ys) = some (.bool (!b)):=by
 show Tj E .neq t xs ys = _
 unfold Tj
 rw [ht]
 simp only [h1,h2,and_self,if_true,hb]
theorem AfV {α : Type} (a : α) (l m : List α) : List.append (a :: l) m = a :: List.append l m:=rfl
theorem AgW {α : Type} (m : List α) : List.append [] m = m:=rfl
attribute [go_sem] AfV AgW
theorem AhE {a b c d : List UInt8} {i : Nat} (h : i < 4) : [[AV.str a],[AV.str b],[AV.str c],[AV.str d]][i]? = some [AV.str (nth [a,b,c,d] i)]:=by
  match i,h with
  | 0,_ => rfl
  | 1,_ => rfl
  | 2,_ => rfl
  | 3,_ => rfl
attribute [go_sem] AhE
end Go.Rv
