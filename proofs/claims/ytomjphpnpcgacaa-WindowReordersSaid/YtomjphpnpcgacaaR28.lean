/-
  R28: arrays compared; arrays of package variables; min and max; arrays as elements.
-/
import Derived.Test.YtomjphpnpcgacaaR27
namespace Go.Rv
set_option linter.unusedVariables false
set_option linter.unusedSimpArgs false

variable {E : Env} {σ : Store}

theorem intsOf_C1 {α : Type} {c : α → AV} {k : IntKind} (f : α → Int) (hc : ∀ x, c x = .int k (f x)) : ∀ l : List α, intsOf k (C1 c l) = some (l.map f)
  | [] => rfl
  | x :: l => by
    show intsOf k (c x :: C1 c l) = _
    rw [hc x]
    unfold intsOf
    simp [intsOf_C1 f hc l]

theorem bin_arr_eq {α : Type} [DecidableEq α] {c : α → AV} {k : IntKind} (f : α → Int) (hf : ∀ x y, f x = f y → x = y) (hc : ∀ x, c x = .int k (f x)) {op : BinOp} {t n e b1 b2 : Nat} {z1 z2 : List AV}
    (ht : E.tab t = some ⟨.array n e, n, b1, z1⟩) (he : E.tab e = some ⟨.int k, 1, b2, z2⟩) (a b : Arr α n) :
    binOpA E op t (.agg (C1 c a.l)) (.agg (C1 c b.l)) = match op with
      | .eql => some (.bool (a == b))
      | .neq => some (.bool (!(a == b)))
      | _ => none := by
  show eqArrA E op t _ _ = _
  unfold eqArrA
  simp only [ht, he, intsOf_C1 f hc]
  have hl : ∀ a : Arr α n, (C1 c a.l).length = n := fun a => by simp [C1, a.h]
  rw [if_pos ⟨trivial, hl a, hl b⟩]
  have hab : (a.l.map f == b.l.map f) = (a == b) := by
    rw [Bool.eq_iff_iff, beq_iff_eq, beq_iff_eq]
    constructor
    · intro h
      refine Arr.ext' ?_
      exact List.map_inj_right (fun x y => hf x y) |>.1 h
    · intro h; rw [h]
  rw [hab]
  cases op <;> rfl

theorem u8_inj (x y : UInt8) (h : (x.toNat : Int) = (y.toNat : Int)) : x = y := UInt8.toNat_inj.1 (by omega)
theorem u32_inj (x y : UInt32) (h : (x.toNat : Int) = (y.toNat : Int)) : x = y := UInt32.toNat_inj.1 (by omega)
theorem u64_inj (x y : UInt64) (h : (x.toNat : Int) = (y.toNat : Int)) : x = y := UInt64.toNat_inj.1 (by omega)
theorem bin_arr_u8 {op : BinOp} {t n e b1 b2 : Nat} {z1 z2 : List AV} (ht : E.tab t = some ⟨.array n e, n, b1, z1⟩) (he : E.tab e = some ⟨.int .u8, 1, b2, z2⟩) (a b : Arr UInt8 n) :
    binOpA E op t (.agg (C1 u8 a.l)) (.agg (C1 u8 b.l)) = match op with
      | .eql => some (.bool (a == b))
      | .neq => some (.bool (!(a == b)))
      | _ => none := bin_arr_eq (fun x => (x.toNat : Int)) u8_inj (fun _ => rfl) ht he a b
theorem bin_arr_u32 {op : BinOp} {t n e b1 b2 : Nat} {z1 z2 : List AV} (ht : E.tab t = some ⟨.array n e, n, b1, z1⟩) (he : E.tab e = some ⟨.int .u32, 1, b2, z2⟩) (a b : Arr UInt32 n) :
    binOpA E op t (.agg (C1 u32 a.l)) (.agg (C1 u32 b.l)) = match op with
      | .eql => some (.bool (a == b))
      | .neq => some (.bool (!(a == b)))
      | _ => none := bin_arr_eq (fun x => (x.toNat : Int)) u32_inj (fun _ => rfl) ht he a b

/-! ### Arrays of package variables -/
theorem ixA_glob {α : Type} {c : α → AV} {t n e g b1 b2 : Nat} {z1 z2 : List AV} {d2 : TypeDesc} (ht : E.tab t = some ⟨.array n e, n, b1, z1⟩) (he : E.tab e = some ⟨d2, 1, b2, z2⟩) {a : Arr α n} (hG : E.G g = some (C1 c a.l)) (x : AV) :
    indexAddrA E σ t (.glob g) x = match idx x n with
      | some i => some (.rp ((C1 c a.l).drop i))
      | none => none := by
  unfold indexAddrA
  simp only [ht, he, hG]
  cases idx x n with
  | none => rfl
  | some i => simp only [Nat.mul_one]
theorem C1_dget {α : Type} [Inhabited α] {c : α → AV} {n : Nat} {a : Arr α n} {i : Nat} (h : i < n) : ((C1 c a.l).drop i)[0]? = some (c (a.get i)) := by
  rw [List.getElem?_drop, Nat.add_zero]
  exact C1_get h

/-! ### The least and the greatest -/
def mn64 (a b : Int) : Int := if b < a then b else a
def mx64 (a b : Int) : Int := if a < b then b else a
theorem bi_min {t : TypeId} {ts : List TypeId} (a b : Int) : builtinA E σ .min (t :: ts) [i64 a, i64 b] = some (i64 (mn64 a b), σ) := rfl
theorem bi_max {t : TypeId} {ts : List TypeId} (a b : Int) : builtinA E σ .max (t :: ts) [i64 a, i64 b] = some (i64 (mx64 a b), σ) := rfl

/-! ### Arrays as elements; elements told by their cells -/
def cArr {α : Type} (c : α → AV) (n : Nat) (a : Arr α n) : List AV := C1 c a.l
def cRaw (x : List AV) : List AV := x

theorem splice_lit {α : Type} {c : α → AV} {n : Nat} {a : Arr α n} {xs : List AV} (h : xs.length = n) : splice (C1 c a.l) 0 xs = xs := by
  refine List.ext_getElem? fun k => ?_
  rw [splice_get _ _ _ (by rw [C1_len]; omega)]
  by_cases hk : k < n
  · rw [if_pos ⟨Nat.zero_le _, by omega⟩]; rfl
  · rw [if_neg (by omega), List.getElem?_eq_none (by rw [C1_len]; omega), List.getElem?_eq_none (by omega)]

theorem arr_take {α : Type} {n : Nat} {a : Arr α n} : List.take n a.l = a.l := List.take_of_length_le (Nat.le_of_eq a.h)
attribute [go_sem] arr_take Option.isSome_none
attribute [go_sem] C1_dget bi_min bi_max cArr
attribute [go_sem ↓] splice_lit

end Go.Rv
