/-
  Part 34.
-/
import Derived.Test.YtnfoiocigicdnaaGreatDoorYV33
import Derived.Lib.Join
namespace Go.Rv
set_option linter.unusedVariables false
set_option linter.unusedSimpArgs false
theorem Ai2 {sel : List Nat} {v : Value} : wk1 sel (.val v) (.val v) = True := by simp [wk1, wk0, AV.closed]
attribute [go_sem] Ai2
def AhF (l : List UInt8) (c : UInt8) : Int := Go.firstIdx ⟨l.toArray⟩ c
def Afe (l : List UInt8) (c : UInt8) : Option Int := some (AhF l c)
theorem P9 {B : Base} {f : FuncId} {fn : Func} {l : List UInt8} {c : UInt8} {r : Int} (hf : B.P.funcs[f]? = some fn) (hname : (fn.name == "runtime.NumGoroutine") = false) (hb : fn.body.isNone = true)
    (hn : Extern.findNext fn = none) (he : Extern.find fn = some Extern.BytealgIndexByte.indexByte) (h : Afe l c = some r) : Con B f [.str l, u8 c] [] (fun r' σ' => r' = i64 r ∧ σ' = []) := by
  refine Ael hf hname hb hn he fun pr w vs ha => ?_
  obtain ⟨vs⟩ := vs
  match vs, ha with
  | [u, v], ⟨h1, h2, _⟩ =>
    cases h
    obtain ⟨s, rfl, hs⟩ := Iq h1
    have hv := Cl h2
    subst hv
    refine ⟨.int .i64 (AhF l c), ?_, .int _ _ _⟩
    have := Go.run_indexByte_string (P := B.P) s (c.toNat : Int) w
    have e : s = ⟨l.toArray⟩ := by subst hs; rfl
    have e2 : ((c.toNat : Int).toNat).toUInt8 = c := by rw [Int.toNat_natCast]; exact UInt8.ofNat_toNat
    rw [e2, e] at this
    rw [e]
    exact this
theorem AiV {E : Env} {xs ys : List AV} : Ds E xs ys [] = some true := rfl
theorem Nq {E : Env} {xs ys : List AV} {f : Field} {fs : List Field} {d : TD} {x y : AV} {b c : Bool} (hn : ¬ f.name = "_") (hd : E.tab f.type = some d) (hx : xs[f.offset]? = some x) (hy : ys[f.offset]? = some y)
    (hb : Mm d.desc x y = some b) (hc : Ds E xs ys fs = some c) : Ds E xs ys (f :: fs) = some (b && c) := by
  unfold Ds
  rw [if_neg hn, hd]
  simp only [hx, hy, hb, hc]
theorem Uq {E : Env} {xs ys : List AV} {f : Field} {d : TD} {x y : AV} {b : Bool} (hn : ¬ f.name = "_") (hd : E.tab f.type = some d) (hx : xs[f.offset]? = some x) (hy : ys[f.offset]? = some y)
    (hb : Mm d.desc x y = some b) : Ds E xs ys [f] = some b := by
  have h := Nq (fs := []) hn hd hx hy hb AiV
  rwa [Bool.and_true] at h
theorem Ny (a b : Int) : Mm (.int .i64) (i64 a) (i64 b) = some (a == b) := rfl
theorem AgN (a b : Bool) : Mm .bool (.bool a) (.bool b) = some (a == b) := rfl
theorem Sw {E : Env} {t sz bt : Nat} {z xs ys : List AV} {fs : Array Field} {b : Bool} (ht : E.tab t = some ⟨.struct fs, sz, bt, z⟩) (h1 : E.P.stoodInHeld t = false) (h2 : E.P.eqGuardType E.P.depth t = false)
    (hb : Ds E xs ys fs.toList = some b) : Bq E .eql t (.agg xs) (.agg ys) = some (.bool b) := by
  show R8 E .eql t xs ys = _
  unfold R8
  rw [ht]
  simp only [h1, h2, and_self, if_true, hb]
theorem L2 {E : Env} {t sz bt : Nat} {z xs ys : List AV} {fs : Array Field} {b : Bool} (ht : E.tab t = some ⟨.struct fs, sz, bt, z⟩) (h1 : E.P.stoodInHeld t = false) (h2 : E.P.eqGuardType E.P.depth t = false)
    (hb : Ds E xs ys fs.toList = some b) : Bq E .neq t (.agg xs) (.agg ys) = some (.bool (!b)) := by
  show R8 E .neq t xs ys = _
  unfold R8
  rw [ht]
  simp only [h1, h2, and_self, if_true, hb]
theorem AeG {α : Type} (a : α) (l m : List α) : List.append (a :: l) m = a :: List.append l m := rfl
theorem Agh {α : Type} (m : List α) : List.append [] m = m := rfl
attribute [go_sem] AeG Agh
theorem Ag3 {a b c d : List UInt8} {i : Nat} (h : i < 4) : [[AV.str a], [AV.str b], [AV.str c], [AV.str d]][i]? = some [AV.str (nth [a, b, c, d] i)] := by
  match i, h with
  | 0, _ => rfl
  | 1, _ => rfl
  | 2, _ => rfl
  | 3, _ => rfl
attribute [go_sem] Ag3
end Go.Rv
