/-
  R36: looks into maps of package variables whose contents are a table, and a byte sought in a string.
-/
import Derived.Test.YtomjphpnpcgacaaR35
import Derived.Lib.Join
namespace Go.Rv
set_option linter.unusedVariables false
set_option linter.unusedSimpArgs false

/-! ### Tables -/
def tabHas {κ ν : Type} [BEq κ] : List (κ × ν) → κ → Bool
  | [], _ => false
  | p :: l, k => if p.1 == k then true else tabHas l k
def tabGet {κ ν : Type} [BEq κ] (z : ν) : List (κ × ν) → κ → ν
  | [], _ => z
  | p :: l, k => if p.1 == k then p.2 else tabGet z l k
def eqA : AV → AV → Bool
  | .bool a, .bool b => a == b
  | .int k a, .int k' b => k == k' && a == b
  | .str a, .str b => a == b
  | _, _ => false
/-- What a map with this table answers. -/
def ansT {κ ν : Type} (cK : κ → AV) (cV : ν → AV) : List (κ × ν) → AV → Option AV
  | [], _ => none
  | p :: l, a => if eqA (cK p.1) a = true then some (cV p.2) else ansT cK cV l a

theorem ansT_eq {κ ν : Type} [BEq κ] {cK : κ → AV} {cV : ν → AV} (he : ∀ a b, eqA (cK a) (cK b) = (a == b)) (z : ν) (k : κ) : ∀ l : List (κ × ν),
    (ansT cK cV l (cK k)).getD (cV z) = cV (tabGet z l k) ∧ (ansT cK cV l (cK k)).isSome = tabHas l k
  | [] => ⟨rfl, rfl⟩
  | p :: l => by
    unfold ansT tabGet tabHas
    rw [he]
    by_cases h : (p.1 == k) = true
    · rw [if_pos h, if_pos h, if_pos h]; exact ⟨rfl, rfl⟩
    · rw [if_neg h, if_neg h, if_neg h]; exact ansT_eq he z k l

theorem look_tab {E : Env} {κ ν : Type} [BEq κ] {t kt et : TypeId} {r : Nat} {kd : TypeDesc} {cK : κ → AV} {cV : ν → AV} {z : ν} {l : List (κ × ν)} (hm : E.maps t = some ⟨r, kt, et, kd, cV z, ansT cK cV l⟩)
    (hk : ∀ k, keyA kd (cK k) = true) (he : ∀ a b, eqA (cK a) (cK b) = (a == b)) (k : κ) : lookupA E t (.val (.map (some r))) (cK k) false = some (cV (tabGet z l k)) := by
  unfold lookupA
  rw [hm]
  simp only [hk, and_self, if_true, (ansT_eq he z k l).1]
  rfl
theorem look_tab2 {E : Env} {κ ν : Type} [BEq κ] {t kt et : TypeId} {r : Nat} {kd : TypeDesc} {cK : κ → AV} {cV : ν → AV} {z : ν} {l : List (κ × ν)} (hm : E.maps t = some ⟨r, kt, et, kd, cV z, ansT cK cV l⟩)
    (hk : ∀ k, keyA kd (cK k) = true) (he : ∀ a b, eqA (cK a) (cK b) = (a == b)) (k : κ) : lookupA E t (.val (.map (some r))) (cK k) true = some (.tup [cV (tabGet z l k), .bool (tabHas l k)]) := by
  unfold lookupA
  rw [hm]
  simp only [hk, and_self, if_true, (ansT_eq he z k l).1, (ansT_eq he z k l).2]
theorem eqA_u8 (a b : UInt8) : eqA (u8 a) (u8 b) = (a == b) := by
  show ((IntKind.u8 == IntKind.u8) && ((a.toNat : Int) == (b.toNat : Int))) = _
  rw [Bool.eq_iff_iff]
  simp only [Bool.and_eq_true, beq_iff_eq, true_and]
  constructor
  · intro h; exact UInt8.toNat_inj.1 (by omega)
  · intro h; subst h; rfl
theorem eqA_str (a b : List UInt8) : eqA (.str a) (.str b) = (a == b) := rfl
theorem load_globmap {E : Env} {σ : Store} {d : TD} {g : Nat} {v : Value} (hG : E.G g = some [.val v]) (hd : d.size = 1) (hf : partA d [.val v] 0 = some (.val v)) : loadA E σ d (.glob g) = some (.val v) := by
  show (match E.G g with | some cs => partA d cs 0 | none => none) = _
  rw [hG]
  exact hf
theorem wk1_val {sel : List Nat} {v : Value} : wk1 sel (.val v) (.val v) = True := by simp [wk1, wk0, AV.closed]
theorem wk0_val {sel : List Nat} {v : Value} : wk0 sel (.val v) (.val v) = True := by simp [wk0, AV.closed]
attribute [go_sem] wk1_val wk0_val

/-! ### A byte sought in a string -/
def indexB (l : List UInt8) (c : UInt8) : Int := Go.firstIdx ⟨l.toArray⟩ c
def indexBO (l : List UInt8) (c : UInt8) : Option Int := some (indexB l c)
theorem con_indexString {B : Base} {f : FuncId} {fn : Func} {l : List UInt8} {c : UInt8} {r : Int} (hf : B.P.funcs[f]? = some fn) (hname : (fn.name == "runtime.NumGoroutine") = false) (hb : fn.body.isNone = true)
    (hn : Extern.findNext fn = none) (he : Extern.find fn = some Extern.BytealgIndexByte.indexByte) (h : indexBO l c = some r) : Con B f [.str l, u8 c] [] (fun r' σ' => r' = i64 r ∧ σ' = []) := by
  refine con_ext hf hname hb hn he fun pr w vs ha => ?_
  obtain ⟨vs⟩ := vs
  match vs, ha with
  | [u, v], ⟨h1, h2, _⟩ =>
    cases h
    obtain ⟨s, rfl, hs⟩ := rep_str h1
    have hv := rep_int h2
    subst hv
    refine ⟨.int .i64 (indexB l c), ?_, .int _ _ _⟩
    have := Go.run_indexByte_string (P := B.P) s (c.toNat : Int) w
    have e : s = ⟨l.toArray⟩ := by subst hs; rfl
    have e2 : ((c.toNat : Int).toNat).toUInt8 = c := by rw [Int.toNat_natCast]; exact UInt8.ofNat_toNat
    rw [e2, e] at this
    rw [e]
    exact this

/-- strings.Join, for lengths up to 2^47. -/
def joinO (xs : List (List UInt8)) (sep : List UInt8) : Option (List UInt8) := if (Lib.join xs sep).length ≤ 140737488355328 ∧ xs.length ≤ 140737488355328 then some (Lib.join xs sep) else none

/-! ### Structs compared -/
theorem eqF_nil {E : Env} {xs ys : List AV} : eqFieldsA E xs ys [] = some true := rfl
theorem eqF_cons {E : Env} {xs ys : List AV} {f : Field} {fs : List Field} {d : TD} {x y : AV} {b c : Bool} (hn : ¬ f.name = "_") (hd : E.tab f.type = some d) (hx : xs[f.offset]? = some x) (hy : ys[f.offset]? = some y)
    (hb : eqCellA d.desc x y = some b) (hc : eqFieldsA E xs ys fs = some c) : eqFieldsA E xs ys (f :: fs) = some (b && c) := by
  unfold eqFieldsA
  rw [if_neg hn, hd]
  simp only [hx, hy, hb, hc]
theorem eqF_last {E : Env} {xs ys : List AV} {f : Field} {d : TD} {x y : AV} {b : Bool} (hn : ¬ f.name = "_") (hd : E.tab f.type = some d) (hx : xs[f.offset]? = some x) (hy : ys[f.offset]? = some y)
    (hb : eqCellA d.desc x y = some b) : eqFieldsA E xs ys [f] = some b := by
  have h := eqF_cons (fs := []) hn hd hx hy hb eqF_nil
  rwa [Bool.and_true] at h
theorem eqC_i64 (a b : Int) : eqCellA (.int .i64) (i64 a) (i64 b) = some (a == b) := rfl
theorem eqC_str (a b : List UInt8) : eqCellA .string (.str a) (.str b) = some (a == b) := rfl
theorem eqC_bool (a b : Bool) : eqCellA .bool (.bool a) (.bool b) = some (a == b) := rfl
theorem eqC_u8 (a b : UInt8) : eqCellA (.int .u8) (u8 a) (u8 b) = some (a == b) := by
  show (if (IntKind.u8 = IntKind.u8 ∧ IntKind.u8 = IntKind.u8) then some ((a.toNat : Int) == (b.toNat : Int)) else none) = _
  rw [if_pos ⟨rfl, rfl⟩]
  congr 1
  rw [Bool.eq_iff_iff, beq_iff_eq, beq_iff_eq]
  exact ⟨fun h => UInt8.toNat_inj.1 (by omega), fun h => by rw [h]⟩
theorem bin_struct_eql {E : Env} {t sz bt : Nat} {z xs ys : List AV} {fs : Array Field} {b : Bool} (ht : E.tab t = some ⟨.struct fs, sz, bt, z⟩) (h1 : E.P.stoodInHeld t = false) (h2 : E.P.eqGuardType E.P.depth t = false)
    (hb : eqFieldsA E xs ys fs.toList = some b) : binOpA E .eql t (.agg xs) (.agg ys) = some (.bool b) := by
  show eqArrA E .eql t xs ys = _
  unfold eqArrA
  rw [ht]
  simp only [h1, h2, and_self, if_true, hb]
theorem bin_struct_neq {E : Env} {t sz bt : Nat} {z xs ys : List AV} {fs : Array Field} {b : Bool} (ht : E.tab t = some ⟨.struct fs, sz, bt, z⟩) (h1 : E.P.stoodInHeld t = false) (h2 : E.P.eqGuardType E.P.depth t = false)
    (hb : eqFieldsA E xs ys fs.toList = some b) : binOpA E .neq t (.agg xs) (.agg ys) = some (.bool (!b)) := by
  show eqArrA E .neq t xs ys = _
  unfold eqArrA
  rw [ht]
  simp only [h1, h2, and_self, if_true, hb]
/-! ### Long literals, which Lean writes as two lists joined -/
theorem lapp_cons {α : Type} (a : α) (l m : List α) : List.append (a :: l) m = a :: List.append l m := rfl
theorem lapp_nil {α : Type} (m : List α) : List.append [] m = m := rfl
attribute [go_sem] lapp_cons lapp_nil

theorem get4_str {a b c d : List UInt8} {i : Nat} (h : i < 4) : [[AV.str a], [AV.str b], [AV.str c], [AV.str d]][i]? = some [AV.str (nth [a, b, c, d] i)] := by
  match i, h with
  | 0, _ => rfl
  | 1, _ => rfl
  | 2, _ => rfl
  | 3, _ => rfl
attribute [go_sem] get4_str

end Go.Rv
