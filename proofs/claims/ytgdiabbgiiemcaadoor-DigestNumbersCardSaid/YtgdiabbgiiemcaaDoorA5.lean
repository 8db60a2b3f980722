/-
  DigestNumbers, the plain law.
-/
import Derived.Test.YtgdiabbgiiemcaaDoorA4
namespace Go.Proofs.YtgdiabbgiiemcaaDoor
open Go.Rv
set_option linter.unusedVariables false
set_option linter.unusedSimpArgs false

theorem shl64_nat (x : UInt64) (n : Nat) : (shl64 x n).toNat = x.toNat * 2 ^ n % 2 ^ 64 := by
  show (x.toBitVec <<< n).toNat = _
  rw [BitVec.toNat_shiftLeft, Nat.shiftLeft_eq]; rfl
theorem shr64_nat (x : UInt64) (n : Nat) : (shr64 x n).toNat = x.toNat / 2 ^ n := by
  show (x.toBitVec >>> n).toNat = _
  rw [BitVec.toNat_ushiftRight, Nat.shiftRight_eq_div_pow]; rfl

/-- The number of the first k bytes. -/
def numN (d : Arr UInt8 32) : Nat → Nat
  | 0 => 0
  | k + 1 => numN d k * 256 + (d.get k).toNat

theorem numN_lt (d : Arr UInt8 32) : ∀ k, numN d k < 256 ^ k
  | 0 => by simp [numN]
  | k + 1 => by
    have h := numN_lt d k
    have h2 : (d.get k).toNat < 256 := (d.get k).toNat_lt
    rw [numN, Nat.pow_succ]
    omega

theorem numK_nat (d : Arr UInt8 32) : ∀ k, k ≤ 8 → (numK d k).toNat = numN d k
  | 0, _ => rfl
  | k + 1, h => by
    have ih := numK_nat d k (by omega)
    have hl := numN_lt d k
    have h2 : (d.get k).toNat < 2 ^ 8 := (d.get k).toNat_lt
    have hp : (256 : Nat) ^ k ≤ 256 ^ 7 := Nat.pow_le_pow_right (by omega) (by omega)
    rw [numK, UInt64.toNat_or, shl64_nat, ih]
    have e8 : ((8 : UInt64)).toNat = 8 := rfl
    have ec : ((d.get k).toUInt64).toNat = (d.get k).toNat := by simp
    rw [e8, ec, Nat.mod_eq_of_lt (by omega), ← Nat.shiftLeft_eq, ← Nat.shiftLeft_add_eq_or_of_lt h2, Nat.shiftLeft_eq, numN]

theorem byte_at (d : Arr UInt8 32) (i : Nat) (hi : i < 8) : (shr64 (numK d 8) (56 - 8 * i)).toUInt8 = d.get i := by
  apply UInt8.toNat_inj.1
  rw [UInt64.toNat_toUInt8, shr64_nat, numK_nat d 8 (by omega)]
  have hb : ∀ j, (d.get j).toNat < 256 := fun j => (d.get j).toNat_lt
  have h0 := hb 0
  have h1 := hb 1
  have h2 := hb 2
  have h3 := hb 3
  have h4 := hb 4
  have h5 := hb 5
  have h6 := hb 6
  have h7 := hb 7
  simp only [numN]
  have hc : i = 0 ∨ i = 1 ∨ i = 2 ∨ i = 3 ∨ i = 4 ∨ i = 5 ∨ i = 6 ∨ i = 7 := by omega
  rcases hc with rfl | rfl | rfl | rfl | rfl | rfl | rfl | rfl <;> simp only [Nat.mul_zero, Nat.mul_one, Nat.reduceMul, Nat.reduceSub, Nat.reducePow] <;> omega

/-! ### The order of the bytes -/
def val : List UInt8 → Nat
  | [] => 0
  | x :: l => x.toNat * 256 ^ l.length + val l

theorem val_lt : ∀ l : List UInt8, val l < 256 ^ l.length
  | [] => by simp [val]
  | x :: l => by
    have h := val_lt l
    have h2 : x.toNat < 256 := x.toNat_lt
    have h3 : (x.toNat + 1) * 256 ^ l.length ≤ 256 * 256 ^ l.length := Nat.mul_le_mul_right _ (by omega)
    rw [val, List.length_cons, Nat.pow_succ, Nat.mul_comm (256 ^ l.length) 256]
    rw [Nat.add_mul, Nat.one_mul] at h3
    omega

theorem bytes_order : ∀ l m : List UInt8, l.length = m.length → Op.bytesLess l m = decide (val l < val m)
  | [], [], _ => by simp [Op.bytesLess, val]
  | x :: l, y :: m, h => by
    simp only [List.length_cons, Nat.add_right_cancel_iff] at h
    have ih := bytes_order l m h
    have h1 := val_lt l
    have h2 := val_lt m
    unfold Op.bytesLess
    rw [ih]
    simp only [val, h]
    rw [h] at h1
    by_cases hxy : x < y
    · have h3 : (x.toNat + 1) * 256 ^ m.length ≤ y.toNat * 256 ^ m.length := Nat.mul_le_mul_right _ (UInt8.lt_iff_toNat_lt.1 hxy)
      rw [Nat.add_mul, Nat.one_mul] at h3
      have : x.toNat * 256 ^ m.length + val l < y.toNat * 256 ^ m.length + val m := by omega
      simp [hxy, this]
    · by_cases he : x = y
      · subst he
        simp
      · have hyx : y.toNat < x.toNat := by
          have := UInt8.lt_iff_toNat_lt (a := x) (b := y)
          have hne : x.toNat ≠ y.toNat := fun h => he (UInt8.toNat_inj.1 h)
          have : ¬ x.toNat < y.toNat := fun h => hxy (UInt8.lt_iff_toNat_lt.2 h)
          omega
        have h3 : (y.toNat + 1) * 256 ^ m.length ≤ x.toNat * 256 ^ m.length := Nat.mul_le_mul_right _ hyx
        rw [Nat.add_mul, Nat.one_mul] at h3
        have : ¬ x.toNat * 256 ^ m.length + val l < y.toNat * 256 ^ m.length + val m := by omega
        simp [hxy, he, this]

theorem take8 (d : Arr UInt8 32) : d.l.take 8 = [d.get 0, d.get 1, d.get 2, d.get 3, d.get 4, d.get 5, d.get 6, d.get 7] := by
  have hl : (d.l.take 8).length = 8 := by rw [List.length_take, d.h]; rfl
  have hg : ∀ i, i < 8 → (d.l.take 8)[i]? = some (d.get i) := by
    intro i hi
    have h32 : i < d.l.length := by rw [d.h]; omega
    rw [List.getElem?_take, if_pos hi, List.getElem?_eq_getElem h32]
    simp [Arr.get, nth, List.getD_eq_getElem?_getD, h32]
  refine List.ext_getElem? fun i => ?_
  by_cases hi : i < 8
  · rw [hg i hi]
    have hc : i = 0 ∨ i = 1 ∨ i = 2 ∨ i = 3 ∨ i = 4 ∨ i = 5 ∨ i = 6 ∨ i = 7 := by omega
    rcases hc with rfl | rfl | rfl | rfl | rfl | rfl | rfl | rfl <;> rfl
  · rw [List.getElem?_eq_none (by omega), List.getElem?_eq_none (by simp; omega)]

theorem val8 (d : Arr UInt8 32) : val (d.l.take 8) = numN d 8 := by
  rw [take8]
  simp only [val, numN, List.length_cons, List.length_nil]
  omega

theorem law_numbers (a b : Arr UInt8 32) : law02_DigestNumbers a b = some true := by
  unfold law02_DigestNumbers
  rw [sane_ok]
  simp only [Option.bind_some, Bool.not_true, Bool.false_eq_true, if_false]
  rw [number_d a, number_d b]
  simp only [Option.bind_some]
  obtain ⟨x, hx, hq⟩ := loopO_for (f := fun v : Int => law02_DigestNumbers_b1 a (numK a 8) v) 8 (fun k v => v = (k : Int)) (fun x => x = .inl ()) (by omega)
    (fun k v hk hv => by
      subst hv
      refine ⟨_, ?_, rfl⟩
      show law02_DigestNumbers_b1 a (numK a 8) (k : Int) = _
      unfold law02_DigestNumbers_b1
      have e0 : w64 (8 * (k : Int)) = ((8 * k : Nat) : Int) := by rw [w64_id (by omega)]; omega
      have e3 : w64 (56 - ((8 * k : Nat) : Int)) = ((56 - 8 * k : Nat) : Int) := by rw [w64_id (by omega)]; omega
      have e1 : w64 ((k : Int) + 1) = ((k + 1 : Nat) : Int) := by rw [w64_id (by omega)]; omega
      rw [e0, e3, e1, if_pos (by simp; omega), if_pos (by unfold NotNeg; omega), if_pos (inR_of (by omega))]
      have hb := byte_at a k hk
      simp only [Int.toNat_natCast, lt1, hb]
      simp)
    (fun v hv => by
      subst hv
      refine ⟨_, ?_, rfl⟩
      show law02_DigestNumbers_b1 a (numK a 8) ((8 : Nat) : Int) = _
      unfold law02_DigestNumbers_b1
      rw [if_neg (by simp)]) (v0 := 0) rfl
  subst hq
  have hlast : (decide (numK a 8 < numK b 8) == Op.bytesLess (a.l.take 8) (b.l.take 8)) = true := by
    rw [bytes_order _ _ (by rw [List.length_take, List.length_take, a.h, b.h]), val8, val8]
    have : (numK a 8 < numK b 8) ↔ numN a 8 < numN b 8 := by
      rw [UInt64.lt_iff_toNat_lt, numK_nat a 8 (by omega), numK_nat b 8 (by omega)]
    simp [this]
  have h1 : ((loopO (fun v : Int => law02_DigestNumbers_b1 a (numK a 8) v) 0).bind fun x => match x with
    | .inl () => some (.inl ())
    | .inr z => some z : Option (Unit ⊕ Bool)) = some (.inl ()) := (bindT hx).trans rfl
  refine (bindT h1).trans ?_
  exact (lt1_at _ true _ hlast).trans rfl

end Go.Proofs.YtgdiabbgiiemcaaDoor
