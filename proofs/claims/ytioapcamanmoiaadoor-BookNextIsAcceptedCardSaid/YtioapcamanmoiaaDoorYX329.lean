/-
  Part 29.
-/
import Derived.Test.YtioapcamanmoiaaDoorYX328
import Derived.Recover
import Derived.Lib.Join
namespace Go.Rv
set_option linter.unusedVariables false
set_option linter.unusedSimpArgs false
section
variable {P : Program} {ops : Array Oper} {Q : Exit→Act→List Frame→World→Prop}
end
theorem Ai9 {w : World} {pr : Addr→Prop} {g : Gh} {n : Nat} {l : Fr} {tmps : Array Value} (h : ∀ p ∈ l,Rep w pr g (tmps.getD p.1 undef) p.2) : ∀ (t : Nat) (x : AV),(Ar n l)[t]? = some x→Rep w pr g (tmps.getD t undef) x:=by
  intro t x hx
  rw [E6] at hx
  split at hx
  case isFalse => cases hx
  cases hx
  induction l with
  | nil => exact .junk _ _
  | cons p l ih =>
    show Rep w pr g _ (if t = p.1 then p.2 else look l t)
    by_cases e : t = p.1
    · rw [if_pos e,e];exact h p List.mem_cons_self
    · rw [if_neg e];exact ih (fun q hq => h q (List.mem_cons_of_mem _ hq))
def AiE (f : Operand→AV) : Fr→Prop
 | [] => True
 | p :: l => f (.tmp p.1) = p.2∧AiE f l
attribute [go_sem] AiE Ex
theorem Ank {E : Env} {xs ys : List AV} : Fh E xs ys [] = some true:=rfl
theorem Oq {E : Env} {xs ys : List AV} {f : Field} {fs : List Field} {d : TD} {x y : AV} {b c : Bool} (hn : ¬ f.name = "_") (hd : E.tab f.type = some d) (hx : xs[f.offset]? = some x) (hy : ys[f.offset]? = some y)
  (hb : Of d.desc x y = some b) (hc : Fh E xs ys fs = some c) : Fh E xs ys (f :: fs) = some (b && c):=by
 unfold Fh
 rw [if_neg hn,hd]
 simp only [hx,hy,hb,hc]
theorem Ui {E : Env} {xs ys : List AV} {f : Field} {d : TD} {x y : AV} {b : Bool} (hn : ¬ f.name = "_") (hd : E.tab f.type = some d) (hx : xs[f.offset]? = some x) (hy : ys[f.offset]? = some y)
  (hb : Of d.desc x y = some b) : Fh E xs ys [f] = some b:=by
 have h:=Oq (fs:=[]) hn hd hx hy hb Ank
 rwa [Bool.and_true] at h
theorem Rj (a b : Int) : Of (.int .i64) (i64 a) (i64 b) = some (a == b):=rfl
theorem AkK (a b : Bool) : Of .bool (.bool a) (.bool b) = some (a == b):=rfl
theorem Po {E : Env} {t sz bt : Nat} {z xs ys : List AV} {fs : Array Field} {b : Bool} (ht : E.tab t = some ⟨.struct fs,sz,bt,z⟩) (h1 : E.P.stoodInHeld t = false) (h2 : E.P.eqGuardType E.P.depth t = false)
  (hb : Fh E xs ys fs.toList = some b) : Bj E .eql t (.agg xs) (.agg ys) = some (.bool b):=by
 show Qd E .eql t xs ys = _
 unfold Qd
 rw [ht]
 simp only [h1,h2,and_self,if_true,hb]
theorem Pg {E : Env} {t sz bt : Nat} {z xs ys : List AV} {fs : Array Field} {b : Bool} (ht : E.tab t = some ⟨.struct fs,sz,bt,z⟩) (h1 : E.P.stoodInHeld t = false) (h2 : E.P.eqGuardType E.P.depth t = false)
  (hb : Fh E xs ys fs.toList = some b) : Bj E .neq t (.agg xs) (.agg ys) = some (.bool (!b)):=by
 show Qd E .neq t xs ys = _
 unfold Qd
 rw [ht]
 simp only [h1,h2,and_self,if_true,hb]
theorem AiG {α : Type} (a : α) (l m : List α) : List.append (a :: l) m = a :: List.append l m:=rfl
theorem Ajl {α : Type} (m : List α) : List.append [] m = m:=rfl
attribute [go_sem] AiG Ajl
theorem Ajg {a b c d : List UInt8} {i : Nat} (h : i < 4) : [[AV.str a],[AV.str b],[AV.str c],[AV.str d]][i]? = some [AV.str (nth [a,b,c,d] i)]:=by
  match i,h with
  | 0,_ => rfl
  | 1,_ => rfl
  | 2,_ => rfl
  | 3,_ => rfl
attribute [go_sem] Ajg
end Go.Rv
