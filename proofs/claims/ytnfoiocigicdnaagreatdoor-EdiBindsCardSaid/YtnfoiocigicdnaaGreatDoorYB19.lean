/-
  Part 19.
-/
import Derived.Test.YtnfoiocigicdnaaGreatDoorYB18
import Derived.Attr
namespace Go.Rv
set_option linter.unusedVariables false
set_option linter.unusedSimpArgs false
variable {E : Env}
def i64 (x : Int) : AV := .int .i64 x
def u8 (x : UInt8) : AV := .int .u8 (x.toNat : Int)
def u16 (x : UInt16) : AV := .int .u16 (x.toNat : Int)
def u32 (x : UInt32) : AV := .int .u32 (x.toNat : Int)
def u64 (x : UInt64) : AV := .int .u64 (x.toNat : Int)
def w64 (x : Int) : Int := IntKind.i64.wrap x
theorem C0 {x : Int} (h : -9223372036854775808 ≤ x ∧ x ≤ 9223372036854775807) : w64 x = x := by
  unfold w64; rw [IntKind.wrap_i64]; omega
def shl8 (x : UInt8) (n : Nat) : UInt8 := ⟨x.toBitVec <<< n⟩
def Ahl (x : UInt8) (n : Nat) : UInt8 := ⟨x.toBitVec >>> n⟩
def AeK (x : UInt64) (n : Nat) : UInt64 := ⟨x.toBitVec <<< n⟩
def AnN (x : UInt64) (n : Nat) : UInt64 := ⟨x.toBitVec >>> n⟩
def AnK (a b : Int) : Int := IntKind.i64.wrap ((BitVec.ofInt 64 a &&& BitVec.ofInt 64 b).toNat : Int)
def or64 (a b : Int) : Int := IntKind.i64.wrap ((BitVec.ofInt 64 a ||| BitVec.ofInt 64 b).toNat : Int)
def Amy (a b : Int) : Int := IntKind.i64.wrap ((BitVec.ofInt 64 a ^^^ BitVec.ofInt 64 b).toNat : Int)
def InR (x : Int) (n : Nat) : Prop := 0 ≤ x ∧ x.toNat < n
def InB (x : Int) (n : Nat) : Prop := 0 ≤ x ∧ x.toNat ≤ n
def F9 (n bytes : Nat) : Prop := n ≤ maxLen ∧ n * bytes ≤ Np
instance (x : Int) (n : Nat) : Decidable (InR x n) := inferInstanceAs (Decidable (_ ∧ _))
instance (x : Int) (n : Nat) : Decidable (InB x n) := inferInstanceAs (Decidable (_ ∧ _))
instance (n b : Nat) : Decidable (F9 n b) := inferInstanceAs (Decidable (_ ∧ _))
theorem Aiv (x : Int) (n : Nat) : idx (i64 x) n = if InR x n then some x.toNat else none := rfl
theorem AlQ (x : UInt8) (n : Nat) : idx (u8 x) n = if InR (x.toNat : Int) n then some x.toNat else none := rfl
theorem Ajj (x : UInt32) (n : Nat) : idx (u32 x) n = if InR (x.toNat : Int) n then some x.toNat else none := rfl
theorem Aig (x : UInt64) (n : Nat) : idx (u64 x) n = if InR (x.toNat : Int) n then some x.toNat else none := rfl
theorem AfM (x : Int) (n : Nat) : Ajr (i64 x) n = if InB x n then some x.toNat else none := rfl
theorem AiD (a b : Nat) : ((a : Int) == (b : Int)) = (a == b) := by
  rw [Bool.eq_iff_iff]; simp only [beq_iff_eq]; omega
section
variable {t : TypeId}
theorem Z8 (a b : Int) : Bg E .add t (i64 a) (i64 b) = some (i64 (w64 (a + b))) := rfl
theorem Aan (a b : Int) : Bg E .sub t (i64 a) (i64 b) = some (i64 (w64 (a - b))) := rfl
theorem Aar (a b : Int) : Bg E .mul t (i64 a) (i64 b) = some (i64 (w64 (a * b))) := rfl
theorem Ys (a b : Int) : Bg E .quo t (i64 a) (i64 b) = if b = 0 then none else some (i64 (w64 (a.tdiv b))) := rfl
theorem Yz (a b : Int) : Bg E .rem t (i64 a) (i64 b) = if b = 0 then none else some (i64 (a.tmod b)) := rfl
theorem Aae (a b : Int) : Bg E .and t (i64 a) (i64 b) = some (i64 (AnK a b)) := rfl
theorem Acm (a b : Int) : Bg E .or t (i64 a) (i64 b) = some (i64 (or64 a b)) := rfl
theorem Y4 (a b : Int) : Bg E .xor t (i64 a) (i64 b) = some (i64 (Amy a b)) := rfl
theorem Zp (a b : Int) : Bg E .eql t (i64 a) (i64 b) = some (.bool (a == b)) := rfl
theorem Aaw (a b : Int) : Bg E .neq t (i64 a) (i64 b) = some (.bool (a != b)) := rfl
theorem Zr (a b : Int) : Bg E .lss t (i64 a) (i64 b) = some (.bool (decide (a < b))) := rfl
theorem Y5 (a b : Int) : Bg E .leq t (i64 a) (i64 b) = some (.bool (decide (a ≤ b))) := rfl
theorem Aay (a b : Int) : Bg E .gtr t (i64 a) (i64 b) = some (.bool (decide (a > b))) := rfl
theorem Y3 (a b : Int) : Bg E .geq t (i64 a) (i64 b) = some (.bool (decide (a ≥ b))) := rfl
theorem AbC (a : Int) : Ym .neg (i64 a) = some (i64 (w64 (0 - a))) := rfl
theorem Acn (a : Int) : Ym .xor (i64 a) = some (i64 (Amy (-1) a)) := rfl
theorem Ou (n : Int) : IntKind.u8.wrap n = n % 256 := by rw [IntKind.wrap_u8]
theorem Nh (n : Int) : IntKind.u64.wrap n = n % 18446744073709551616 := by rw [IntKind.wrap_u64]
theorem Kj {k : IntKind} {a b : Int} (h : a = b) : some (AV.int k a) = some (AV.int k b) := by rw [h]
theorem AcZ (a b : UInt8) : Bg E .add t (u8 a) (u8 b) = some (u8 (a + b)) := Kj (by rw [Ou, UInt8.toNat_add]; omega)
theorem AcA (a b : UInt8) : Bg E .sub t (u8 a) (u8 b) = some (u8 (a - b)) := Kj (by rw [Ou, UInt8.toNat_sub]; have := a.toNat_lt; have := b.toNat_lt; omega)
theorem AcD (a b : UInt8) : Bg E .mul t (u8 a) (u8 b) = some (u8 (a * b)) := Kj (by rw [Ou, UInt8.toNat_mul]; simp)
theorem Zu (a b : UInt64) : Bg E .add t (u64 a) (u64 b) = some (u64 (a + b)) := Kj (by rw [Nh, UInt64.toNat_add]; omega)
theorem Yh (a b : UInt64) : Bg E .sub t (u64 a) (u64 b) = some (u64 (a - b)) := Kj (by rw [Nh, UInt64.toNat_sub]; have := a.toNat_lt; have := b.toNat_lt; omega)
theorem Za (a b : UInt64) : Bg E .mul t (u64 a) (u64 b) = some (u64 (a * b)) := Kj (by rw [Nh, UInt64.toNat_mul]; simp)
theorem AgY {w : Nat} (n : Nat) : BitVec.ofInt w (n : Int) = BitVec.ofNat w n := by
  apply BitVec.eq_of_toNat_eq
  rw [BitVec.toNat_ofInt, BitVec.toNat_ofNat]
  omega
theorem AlG (f : BitVec 8 → BitVec 8 → BitVec 8) (a b : UInt8) : Aav .u8 f (a.toNat : Int) (b.toNat : Int) = u8 ⟨f a.toBitVec b.toBitVec⟩ := by
  unfold Aav u8
  congr 1
  show IntKind.u8.wrap ((f (BitVec.ofInt 8 (a.toNat : Int)) (BitVec.ofInt 8 (b.toNat : Int))).toNat : Int) = _
  rw [AgY, AgY, Ou]
  have ha : BitVec.ofNat 8 a.toNat = a.toBitVec := by apply BitVec.eq_of_toNat_eq; rw [BitVec.toNat_ofNat, UInt8.toNat_toBitVec]; exact Nat.mod_eq_of_lt a.toNat_lt
  have hb : BitVec.ofNat 8 b.toNat = b.toBitVec := by apply BitVec.eq_of_toNat_eq; rw [BitVec.toNat_ofNat, UInt8.toNat_toBitVec]; exact Nat.mod_eq_of_lt b.toNat_lt
  rw [ha, hb]
  have := (f a.toBitVec b.toBitVec).isLt
  show ((f a.toBitVec b.toBitVec).toNat : Int) % 256 = ((f a.toBitVec b.toBitVec).toNat : Int)
  omega
theorem AcX (a b : UInt8) : Bg E .and t (u8 a) (u8 b) = some (u8 (a &&& b)) := congrArg some (AlG _ a b)
theorem AdX (a b : UInt8) : Bg E .or t (u8 a) (u8 b) = some (u8 (a ||| b)) := congrArg some (AlG _ a b)
theorem Ahm (a b : UInt8) : ((a.toNat : Int) == (b.toNat : Int)) = (a == b) := by rw [Bool.eq_iff_iff]; simp only [beq_iff_eq]; rw [← UInt8.toNat_inj]; omega
theorem F2 {a b : Bool} (h : a = b) : some (AV.bool a) = some (AV.bool b) := by rw [h]
theorem Rb {p q : Prop} [Decidable p] [Decidable q] (h : p ↔ q) : decide p = decide q := by simp only [h]
theorem AcJ (a b : UInt8) : Bg E .eql t (u8 a) (u8 b) = some (.bool (a == b)) := F2 (Ahm a b)
theorem Ac1 (a b : UInt8) : Bg E .neq t (u8 a) (u8 b) = some (.bool (a != b)) := F2 (congrArg not (Ahm a b))
theorem AbP (a b : UInt8) : Bg E .lss t (u8 a) (u8 b) = some (.bool (decide (a < b))) := F2 (Rb (by rw [UInt8.lt_iff_toNat_lt]; omega))
theorem Ac2 (a b : UInt8) : Bg E .leq t (u8 a) (u8 b) = some (.bool (decide (a ≤ b))) := F2 (Rb (by rw [UInt8.le_iff_toNat_le]; omega))
theorem Ab8 (a b : UInt8) : Bg E .gtr t (u8 a) (u8 b) = some (.bool (decide (a > b))) := F2 (Rb (by rw [gt_iff_lt, gt_iff_lt, UInt8.lt_iff_toNat_lt]; omega))
theorem Ab5 (a b : UInt8) : Bg E .geq t (u8 a) (u8 b) = some (.bool (decide (a ≥ b))) := F2 (Rb (by rw [ge_iff_le, ge_iff_le, UInt8.le_iff_toNat_le]; omega))
theorem Aad (a b : UInt64) : Bg E .lss t (u64 a) (u64 b) = some (.bool (decide (a < b))) := F2 (Rb (by rw [UInt64.lt_iff_toNat_lt]; omega))
theorem Y0 (a b : UInt64) : Bg E .gtr t (u64 a) (u64 b) = some (.bool (decide (a > b))) := F2 (Rb (by rw [gt_iff_lt, gt_iff_lt, UInt64.lt_iff_toNat_lt]; omega))
theorem Zv (a b : UInt64) : Bg E .geq t (u64 a) (u64 b) = some (.bool (decide (a ≥ b))) := F2 (Rb (by rw [ge_iff_le, ge_iff_le, UInt64.le_iff_toNat_le]; omega))
theorem Aci (a b : UInt8) : Bg E .quo t (u8 a) (u8 b) = if b = 0 then none else some (u8 (a / b)) := by
  have h : ((b.toNat : Int) = 0) = (b = 0) := by rw [← UInt8.toNat_inj]; simp
  show (if (b.toNat : Int) = 0 then none else some (AV.int .u8 _)) = _
  simp only [h]
  split
  · rfl
  · refine Kj ?_
    rw [Ou, UInt8.toNat_div]
    have := a.toNat_lt
    have : a.toNat / b.toNat ≤ a.toNat := Nat.div_le_self _ _
    rw [show (a.toNat : Int).tdiv (b.toNat : Int) = ((a.toNat / b.toNat : Nat) : Int) from rfl]
    generalize a.toNat / b.toNat = q at *
    omega
theorem AcF (a b : UInt8) : Bg E .rem t (u8 a) (u8 b) = if b = 0 then none else some (u8 (a % b)) := by
  have h : ((b.toNat : Int) = 0) = (b = 0) := by rw [← UInt8.toNat_inj]; simp
  show (if (b.toNat : Int) = 0 then none else some (AV.int .u8 _)) = _
  simp only [h]
  split
  · rfl
  · exact Kj (by rw [UInt8.toNat_mod]; rfl)
theorem AiQ {w n : Nat} (a : Nat) (ha : a < 2 ^ w) : a / 2 ^ (min n w) = a >>> n := by
  rw [Nat.shiftRight_eq_div_pow]
  rcases Nat.le_total n w with h | h
  · rw [Nat.min_eq_left h]
  · rw [Nat.min_eq_right h, Nat.div_eq_of_lt ha, Nat.div_eq_of_lt (Nat.lt_of_lt_of_le ha (Nat.pow_le_pow_right (by omega) h))]
theorem Afc {w n : Nat} (a : Nat) : (a * 2 ^ (min n w)) % 2 ^ w = (a <<< n) % 2 ^ w := by
  rw [Nat.shiftLeft_eq]
  rcases Nat.le_total n w with h | h
  · rw [Nat.min_eq_left h]
  · rw [Nat.min_eq_right h, Nat.mul_mod_left]
    obtain ⟨d, rfl⟩ : ∃ d, n = w + d := ⟨n - w, by omega⟩
    rw [Nat.pow_add, Nat.mul_comm (2 ^ w), ← Nat.mul_assoc, Nat.mul_mod_left]
theorem AfG (a m : Nat) : (a : Int).fdiv (2 ^ m) = ((a / 2 ^ m : Nat) : Int) := by
  rw [Int.fdiv_eq_ediv_of_nonneg _ (by exact_mod_cast Nat.zero_le _)]
  norm_cast
theorem AaY (a n : Nat) : (a : Int) * 2 ^ n = ((a * 2 ^ n : Nat) : Int) := by rw [Int.natCast_mul, Int.natCast_pow]; rfl
theorem Aec (a n : Nat) : IntKind.u8.wrap ((a : Int) * 2 ^ n) = ((a * 2 ^ n % 2 ^ 8 : Nat) : Int) := by
  rw [Ou, AaY, show (2 : Nat) ^ 8 = 256 from rfl]
  generalize a * 2 ^ n = m
  omega
theorem AbN (a n : Nat) : IntKind.u64.wrap ((a : Int) * 2 ^ n) = ((a * 2 ^ n % 2 ^ 64 : Nat) : Int) := by
  rw [Nh, AaY, show (2 : Nat) ^ 64 = 18446744073709551616 from rfl]
  generalize a * 2 ^ n = m
  omega
theorem shl_u8 (a : UInt8) (y : Nat) : M1 .shl .u8 (a.toNat : Int) (y : Int) = some (u8 (shl8 a y)) := by
  unfold M1
  rw [if_neg (by omega)]
  refine Kj ?_
  rw [Aec]
  show ((a.toNat * 2 ^ (min y 8) % 2 ^ 8 : Nat) : Int) = _
  rw [Afc]; rfl
theorem AjD (a : UInt8) (y : Nat) : M1 .shr .u8 (a.toNat : Int) (y : Int) = some (u8 (Ahl a y)) := by
  unfold M1
  rw [if_neg (by omega)]
  refine Kj ?_
  rw [AfG]
  show ((a.toNat / 2 ^ (min y 8) : Nat) : Int) = _
  rw [AiQ _ a.toNat_lt]; rfl
theorem Ai4 (a : UInt64) (y : Nat) : M1 .shl .u64 (a.toNat : Int) (y : Int) = some (u64 (AeK a y)) := by
  unfold M1
  rw [if_neg (by omega)]
  refine Kj ?_
  rw [AbN]
  show ((a.toNat * 2 ^ (min y 64) % 2 ^ 64 : Nat) : Int) = _
  rw [Afc]; rfl
def Aj6 (x : Int) : Prop := 0 ≤ x
instance (x : Int) : Decidable (Aj6 x) := inferInstanceAs (Decidable (_ ≤ _))
theorem R6 (a : UInt8) (y : UInt64) : Bg E .shr t (u8 a) (u64 y) = some (u8 (Ahl a y.toNat)) := AjD a _
theorem Q5 (a : UInt64) (y : UInt64) : Bg E .shl t (u64 a) (u64 y) = some (u64 (AeK a y.toNat)) := Ai4 a _
def F7 (E : Env) (t : TypeId) (k : IntKind) : Bool := match E.tab t with
  | some ⟨.int k', _, _, _⟩ => decide (k' = k)
  | _ => false
theorem Dn {E : Env} {σ : Ad} {s d : TypeId} {k0 k : IntKind} {x : Int} (hs : (E.tab s).isSome = true) (hd : F7 E d k = true) : A9 E σ s d (.int k0 x) = some (.int k (k.wrap x), σ) := by
  unfold F7 at hd
  split at hd
  case h_2 => cases hd
  rename_i k' a b c hk
  have : k' = k := by simpa using hd
  subst this
  unfold A9
  rw [hk]
  cases hh : E.tab s with
  | none => rw [hh] at hs; cases hs
  | some sd => rfl
theorem Aat {σ : Ad} {s d : TypeId} (x : Int) (hs : (E.tab s).isSome = true) (hd : F7 E d .u8 = true) : A9 E σ s d (i64 x) = some (u8 (UInt8.ofInt x), σ) := by
  refine (Dn hs hd).trans ?_
  rw [Ou]
  have : ((UInt8.ofInt x).toNat : Int) = x % 256 := by rw [UInt8.ofInt, UInt8.toNat_ofNat']; omega
  unfold u8; rw [this]
theorem Xz {σ : Ad} {s d : TypeId} (x : Int) (hs : (E.tab s).isSome = true) (hd : F7 E d .u64 = true) : A9 E σ s d (i64 x) = some (u64 (UInt64.ofInt x), σ) := by
  refine (Dn hs hd).trans ?_
  rw [Nh]
  have : ((UInt64.ofInt x).toNat : Int) = x % 18446744073709551616 := by rw [UInt64.ofInt, UInt64.toNat_ofNat']; omega
  unfold u64; rw [this]
theorem Zh {σ : Ad} {s d : TypeId} (x : UInt8) (hs : (E.tab s).isSome = true) (hd : F7 E d .i64 = true) : A9 E σ s d (u8 x) = some (i64 (x.toNat : Int), σ) := by
  refine (Dn hs hd).trans ?_
  have := x.toNat_lt
  have h : IntKind.i64.wrap (x.toNat : Int) = (x.toNat : Int) := by rw [IntKind.wrap_i64]; omega
  unfold i64; rw [h]
theorem Zm {σ : Ad} {s d : TypeId} (x : UInt8) (hs : (E.tab s).isSome = true) (hd : F7 E d .u64 = true) : A9 E σ s d (u8 x) = some (u64 x.toUInt64, σ) := by
  refine (Dn hs hd).trans ?_
  have := x.toNat_lt
  unfold u64; rw [Nh, UInt8.toNat_toUInt64]; congr 3; omega
theorem Zd {σ : Ad} {s d : TypeId} (x : UInt64) (hs : (E.tab s).isSome = true) (hd : F7 E d .u8 = true) : A9 E σ s d (u64 x) = some (u8 x.toUInt8, σ) := by
  refine (Dn hs hd).trans ?_
  unfold u8; rw [Ou, UInt64.toNat_toUInt8]; congr 3
end
end Go.Rv
