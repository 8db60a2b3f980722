/-
  R20: values of Lean's own types as abstract values; what each operation makes of them, as rewrite rules.
-/
import Derived.Test.YtomjphpnpcgacaaR19
import Derived.Attr
namespace Go.Rv
set_option linter.unusedVariables false
set_option linter.unusedSimpArgs false

variable {E : Env}

/-! ### Integers -/
def i64 (x : Int) : AV := .int .i64 x
def u8 (x : UInt8) : AV := .int .u8 (x.toNat : Int)
def u16 (x : UInt16) : AV := .int .u16 (x.toNat : Int)
def u32 (x : UInt32) : AV := .int .u32 (x.toNat : Int)
def u64 (x : UInt64) : AV := .int .u64 (x.toNat : Int)
def w64 (x : Int) : Int := IntKind.i64.wrap x

theorem w64_id {x : Int} (h : -9223372036854775808 ≤ x ∧ x ≤ 9223372036854775807) : w64 x = x := by
  unfold w64; rw [IntKind.wrap_i64]; omega

def shl8 (x : UInt8) (n : Nat) : UInt8 := ⟨x.toBitVec <<< n⟩
def shr8 (x : UInt8) (n : Nat) : UInt8 := ⟨x.toBitVec >>> n⟩
def shl32 (x : UInt32) (n : Nat) : UInt32 := ⟨x.toBitVec <<< n⟩
def shr32 (x : UInt32) (n : Nat) : UInt32 := ⟨x.toBitVec >>> n⟩
def shl64 (x : UInt64) (n : Nat) : UInt64 := ⟨x.toBitVec <<< n⟩
def shr64 (x : UInt64) (n : Nat) : UInt64 := ⟨x.toBitVec >>> n⟩
def and64 (a b : Int) : Int := IntKind.i64.wrap ((BitVec.ofInt 64 a &&& BitVec.ofInt 64 b).toNat : Int)
def or64 (a b : Int) : Int := IntKind.i64.wrap ((BitVec.ofInt 64 a ||| BitVec.ofInt 64 b).toNat : Int)
def xor64 (a b : Int) : Int := IntKind.i64.wrap ((BitVec.ofInt 64 a ^^^ BitVec.ofInt 64 b).toNat : Int)
def shlI (a n : Int) : Int := w64 (a * 2 ^ (min n.toNat 64))
def shrI (a n : Int) : Int := a.fdiv (2 ^ (min n.toNat 64))

/-- In the range of an index; of a bound; a length that a slice may have. -/
def InR (x : Int) (n : Nat) : Prop := 0 ≤ x ∧ x.toNat < n
def InB (x : Int) (n : Nat) : Prop := 0 ≤ x ∧ x.toNat ≤ n
def Fits (n bytes : Nat) : Prop := n ≤ maxLen ∧ n * bytes ≤ roomB
instance (x : Int) (n : Nat) : Decidable (InR x n) := inferInstanceAs (Decidable (_ ∧ _))
instance (x : Int) (n : Nat) : Decidable (InB x n) := inferInstanceAs (Decidable (_ ∧ _))
instance (n b : Nat) : Decidable (Fits n b) := inferInstanceAs (Decidable (_ ∧ _))

theorem idx_i64 (x : Int) (n : Nat) : idx (i64 x) n = if InR x n then some x.toNat else none := rfl
theorem idx_u8 (x : UInt8) (n : Nat) : idx (u8 x) n = if InR (x.toNat : Int) n then some x.toNat else none := rfl
theorem idx_u32 (x : UInt32) (n : Nat) : idx (u32 x) n = if InR (x.toNat : Int) n then some x.toNat else none := rfl
theorem idx_u64 (x : UInt64) (n : Nat) : idx (u64 x) n = if InR (x.toNat : Int) n then some x.toNat else none := rfl
theorem bndA_i64 (x : Int) (n : Nat) : bndA (i64 x) n = if InB x n then some x.toNat else none := rfl
section
variable {t : TypeId}
theorem bin_i64_add (a b : Int) : binOpA E .add t (i64 a) (i64 b) = some (i64 (w64 (a + b))) := rfl
theorem bin_i64_sub (a b : Int) : binOpA E .sub t (i64 a) (i64 b) = some (i64 (w64 (a - b))) := rfl
theorem bin_i64_mul (a b : Int) : binOpA E .mul t (i64 a) (i64 b) = some (i64 (w64 (a * b))) := rfl
theorem bin_i64_quo (a b : Int) : binOpA E .quo t (i64 a) (i64 b) = if b = 0 then none else some (i64 (w64 (a.tdiv b))) := rfl
theorem bin_i64_rem (a b : Int) : binOpA E .rem t (i64 a) (i64 b) = if b = 0 then none else some (i64 (a.tmod b)) := rfl
theorem bin_i64_and (a b : Int) : binOpA E .and t (i64 a) (i64 b) = some (i64 (and64 a b)) := rfl
theorem bin_i64_or (a b : Int) : binOpA E .or t (i64 a) (i64 b) = some (i64 (or64 a b)) := rfl
theorem bin_i64_xor (a b : Int) : binOpA E .xor t (i64 a) (i64 b) = some (i64 (xor64 a b)) := rfl
theorem bin_i64_eql (a b : Int) : binOpA E .eql t (i64 a) (i64 b) = some (.bool (a == b)) := rfl
theorem bin_i64_neq (a b : Int) : binOpA E .neq t (i64 a) (i64 b) = some (.bool (a != b)) := rfl
theorem bin_i64_lss (a b : Int) : binOpA E .lss t (i64 a) (i64 b) = some (.bool (decide (a < b))) := rfl
theorem bin_i64_leq (a b : Int) : binOpA E .leq t (i64 a) (i64 b) = some (.bool (decide (a ≤ b))) := rfl
theorem bin_i64_gtr (a b : Int) : binOpA E .gtr t (i64 a) (i64 b) = some (.bool (decide (a > b))) := rfl
theorem bin_i64_geq (a b : Int) : binOpA E .geq t (i64 a) (i64 b) = some (.bool (decide (a ≥ b))) := rfl
theorem bin_i64_shl64 (a : Int) (b : UInt64) : binOpA E .shl t (i64 a) (u64 b) = some (i64 (shlI a (b.toNat : Int))) := by
  show (if (b.toNat : Int) < 0 then none else _) = _
  rw [if_neg (by omega)]; rfl
theorem bin_i64_shr64 (a : Int) (b : UInt64) : binOpA E .shr t (i64 a) (u64 b) = some (i64 (shrI a (b.toNat : Int))) := by
  show (if (b.toNat : Int) < 0 then none else _) = _
  rw [if_neg (by omega)]; rfl
theorem un_i64_neg (a : Int) : unOpA .neg (i64 a) = some (i64 (w64 (0 - a))) := rfl
theorem un_i64_xor (a : Int) : unOpA .xor (i64 a) = some (i64 (xor64 (-1) a)) := rfl

/-! Unsigned ones: what 'wrap' says of each. -/
theorem wrapU8 (n : Int) : IntKind.u8.wrap n = n % 256 := by rw [IntKind.wrap_u8]
theorem wrapU32 (n : Int) : IntKind.u32.wrap n = n % 4294967296 := by rw [IntKind.wrap_u32]
theorem wrapU64 (n : Int) : IntKind.u64.wrap n = n % 18446744073709551616 := by rw [IntKind.wrap_u64]
theorem int_eq {k : IntKind} {a b : Int} (h : a = b) : some (AV.int k a) = some (AV.int k b) := by rw [h]

theorem bin_u8_add (a b : UInt8) : binOpA E .add t (u8 a) (u8 b) = some (u8 (a + b)) := int_eq (by rw [wrapU8, UInt8.toNat_add]; omega)
theorem bin_u8_sub (a b : UInt8) : binOpA E .sub t (u8 a) (u8 b) = some (u8 (a - b)) := int_eq (by rw [wrapU8, UInt8.toNat_sub]; have := a.toNat_lt; have := b.toNat_lt; omega)
theorem bin_u8_mul (a b : UInt8) : binOpA E .mul t (u8 a) (u8 b) = some (u8 (a * b)) := int_eq (by rw [wrapU8, UInt8.toNat_mul]; simp)
theorem bin_u32_add (a b : UInt32) : binOpA E .add t (u32 a) (u32 b) = some (u32 (a + b)) := int_eq (by rw [wrapU32, UInt32.toNat_add]; omega)
theorem bin_u32_sub (a b : UInt32) : binOpA E .sub t (u32 a) (u32 b) = some (u32 (a - b)) := int_eq (by rw [wrapU32, UInt32.toNat_sub]; have := a.toNat_lt; have := b.toNat_lt; omega)
theorem bin_u32_mul (a b : UInt32) : binOpA E .mul t (u32 a) (u32 b) = some (u32 (a * b)) := int_eq (by rw [wrapU32, UInt32.toNat_mul]; simp)
theorem bin_u64_add (a b : UInt64) : binOpA E .add t (u64 a) (u64 b) = some (u64 (a + b)) := int_eq (by rw [wrapU64, UInt64.toNat_add]; omega)
theorem bin_u64_sub (a b : UInt64) : binOpA E .sub t (u64 a) (u64 b) = some (u64 (a - b)) := int_eq (by rw [wrapU64, UInt64.toNat_sub]; have := a.toNat_lt; have := b.toNat_lt; omega)
theorem bin_u64_mul (a b : UInt64) : binOpA E .mul t (u64 a) (u64 b) = some (u64 (a * b)) := int_eq (by rw [wrapU64, UInt64.toNat_mul]; simp)

theorem bv_nat {w : Nat} (n : Nat) : BitVec.ofInt w (n : Int) = BitVec.ofNat w n := by
  apply BitVec.eq_of_toNat_eq
  rw [BitVec.toNat_ofInt, BitVec.toNat_ofNat]
  omega

theorem bits8 (f : BitVec 8 → BitVec 8 → BitVec 8) (a b : UInt8) : bitsA .u8 f (a.toNat : Int) (b.toNat : Int) = u8 ⟨f a.toBitVec b.toBitVec⟩ := by
  unfold bitsA u8
  congr 1
  show IntKind.u8.wrap ((f (BitVec.ofInt 8 (a.toNat : Int)) (BitVec.ofInt 8 (b.toNat : Int))).toNat : Int) = _
  rw [bv_nat, bv_nat, wrapU8]
  have ha : BitVec.ofNat 8 a.toNat = a.toBitVec := by apply BitVec.eq_of_toNat_eq; rw [BitVec.toNat_ofNat, UInt8.toNat_toBitVec]; exact Nat.mod_eq_of_lt a.toNat_lt
  have hb : BitVec.ofNat 8 b.toNat = b.toBitVec := by apply BitVec.eq_of_toNat_eq; rw [BitVec.toNat_ofNat, UInt8.toNat_toBitVec]; exact Nat.mod_eq_of_lt b.toNat_lt
  rw [ha, hb]
  have := (f a.toBitVec b.toBitVec).isLt
  show ((f a.toBitVec b.toBitVec).toNat : Int) % 256 = ((f a.toBitVec b.toBitVec).toNat : Int)
  omega
theorem bits32 (f : BitVec 32 → BitVec 32 → BitVec 32) (a b : UInt32) : bitsA .u32 f (a.toNat : Int) (b.toNat : Int) = u32 ⟨f a.toBitVec b.toBitVec⟩ := by
  unfold bitsA u32
  congr 1
  show IntKind.u32.wrap ((f (BitVec.ofInt 32 (a.toNat : Int)) (BitVec.ofInt 32 (b.toNat : Int))).toNat : Int) = _
  rw [bv_nat, bv_nat, wrapU32]
  have ha : BitVec.ofNat 32 a.toNat = a.toBitVec := by apply BitVec.eq_of_toNat_eq; rw [BitVec.toNat_ofNat, UInt32.toNat_toBitVec]; exact Nat.mod_eq_of_lt a.toNat_lt
  have hb : BitVec.ofNat 32 b.toNat = b.toBitVec := by apply BitVec.eq_of_toNat_eq; rw [BitVec.toNat_ofNat, UInt32.toNat_toBitVec]; exact Nat.mod_eq_of_lt b.toNat_lt
  rw [ha, hb]
  have := (f a.toBitVec b.toBitVec).isLt
  show ((f a.toBitVec b.toBitVec).toNat : Int) % 4294967296 = ((f a.toBitVec b.toBitVec).toNat : Int)
  omega
theorem bits64 (f : BitVec 64 → BitVec 64 → BitVec 64) (a b : UInt64) : bitsA .u64 f (a.toNat : Int) (b.toNat : Int) = u64 ⟨f a.toBitVec b.toBitVec⟩ := by
  unfold bitsA u64
  congr 1
  show IntKind.u64.wrap ((f (BitVec.ofInt 64 (a.toNat : Int)) (BitVec.ofInt 64 (b.toNat : Int))).toNat : Int) = _
  rw [bv_nat, bv_nat, wrapU64]
  have ha : BitVec.ofNat 64 a.toNat = a.toBitVec := by apply BitVec.eq_of_toNat_eq; rw [BitVec.toNat_ofNat, UInt64.toNat_toBitVec]; exact Nat.mod_eq_of_lt a.toNat_lt
  have hb : BitVec.ofNat 64 b.toNat = b.toBitVec := by apply BitVec.eq_of_toNat_eq; rw [BitVec.toNat_ofNat, UInt64.toNat_toBitVec]; exact Nat.mod_eq_of_lt b.toNat_lt
  rw [ha, hb]
  have := (f a.toBitVec b.toBitVec).isLt
  show ((f a.toBitVec b.toBitVec).toNat : Int) % 18446744073709551616 = ((f a.toBitVec b.toBitVec).toNat : Int)
  omega

theorem bin_u8_and (a b : UInt8) : binOpA E .and t (u8 a) (u8 b) = some (u8 (a &&& b)) := congrArg some (bits8 _ a b)
theorem bin_u8_or (a b : UInt8) : binOpA E .or t (u8 a) (u8 b) = some (u8 (a ||| b)) := congrArg some (bits8 _ a b)
theorem bin_u8_xor (a b : UInt8) : binOpA E .xor t (u8 a) (u8 b) = some (u8 (a ^^^ b)) := congrArg some (bits8 _ a b)
theorem bin_u8_andNot (a b : UInt8) : binOpA E .andNot t (u8 a) (u8 b) = some (u8 (a &&& ~~~b)) := congrArg some (bits8 _ a b)
theorem bin_u32_and (a b : UInt32) : binOpA E .and t (u32 a) (u32 b) = some (u32 (a &&& b)) := congrArg some (bits32 _ a b)
theorem bin_u32_or (a b : UInt32) : binOpA E .or t (u32 a) (u32 b) = some (u32 (a ||| b)) := congrArg some (bits32 _ a b)
theorem bin_u32_xor (a b : UInt32) : binOpA E .xor t (u32 a) (u32 b) = some (u32 (a ^^^ b)) := congrArg some (bits32 _ a b)
theorem bin_u32_andNot (a b : UInt32) : binOpA E .andNot t (u32 a) (u32 b) = some (u32 (a &&& ~~~b)) := congrArg some (bits32 _ a b)
theorem bin_u64_and (a b : UInt64) : binOpA E .and t (u64 a) (u64 b) = some (u64 (a &&& b)) := congrArg some (bits64 _ a b)
theorem bin_u64_or (a b : UInt64) : binOpA E .or t (u64 a) (u64 b) = some (u64 (a ||| b)) := congrArg some (bits64 _ a b)
theorem bin_u64_xor (a b : UInt64) : binOpA E .xor t (u64 a) (u64 b) = some (u64 (a ^^^ b)) := congrArg some (bits64 _ a b)
theorem bin_u64_andNot (a b : UInt64) : binOpA E .andNot t (u64 a) (u64 b) = some (u64 (a &&& ~~~b)) := congrArg some (bits64 _ a b)

theorem un_u8_xor (a : UInt8) : unOpA .xor (u8 a) = some (u8 (~~~a)) := by
  have h : unOpA .xor (u8 a) = some (bitsA .u8 (· ^^^ ·) ((255 : UInt8).toNat : Int) (a.toNat : Int)) := rfl
  refine h.trans (congrArg some ((bits8 (· ^^^ ·) 255 a).trans (congrArg u8 ?_)))
  apply UInt8.toBitVec_inj.1
  show (255 : UInt8).toBitVec ^^^ a.toBitVec = ~~~ a.toBitVec
  rw [BitVec.not_def]; rfl
theorem un_u32_xor (a : UInt32) : unOpA .xor (u32 a) = some (u32 (~~~a)) := by
  have h : unOpA .xor (u32 a) = some (bitsA .u32 (· ^^^ ·) ((4294967295 : UInt32).toNat : Int) (a.toNat : Int)) := rfl
  refine h.trans (congrArg some ((bits32 (· ^^^ ·) 4294967295 a).trans (congrArg u32 ?_)))
  apply UInt32.toBitVec_inj.1
  show (4294967295 : UInt32).toBitVec ^^^ a.toBitVec = ~~~ a.toBitVec
  rw [BitVec.not_def]; rfl
theorem un_u64_xor (a : UInt64) : unOpA .xor (u64 a) = some (u64 (~~~a)) := by
  have h : unOpA .xor (u64 a) = some (bitsA .u64 (· ^^^ ·) ((18446744073709551615 : UInt64).toNat : Int) (a.toNat : Int)) := rfl
  refine h.trans (congrArg some ((bits64 (· ^^^ ·) 18446744073709551615 a).trans (congrArg u64 ?_)))
  apply UInt64.toBitVec_inj.1
  show (18446744073709551615 : UInt64).toBitVec ^^^ a.toBitVec = ~~~ a.toBitVec
  rw [BitVec.not_def]; rfl
theorem un_u32_neg (a : UInt32) : unOpA .neg (u32 a) = some (u32 (0 - a)) := int_eq (by rw [wrapU32, UInt32.toNat_sub]; have := a.toNat_lt; simp; omega)
theorem un_u64_neg (a : UInt64) : unOpA .neg (u64 a) = some (u64 (0 - a)) := int_eq (by rw [wrapU64, UInt64.toNat_sub]; have := a.toNat_lt; simp; omega)
theorem un_u8_neg (a : UInt8) : unOpA .neg (u8 a) = some (u8 (0 - a)) := int_eq (by rw [wrapU8, UInt8.toNat_sub]; have := a.toNat_lt; simp; omega)

theorem u8_beq (a b : UInt8) : ((a.toNat : Int) == (b.toNat : Int)) = (a == b) := by rw [Bool.eq_iff_iff]; simp only [beq_iff_eq]; rw [← UInt8.toNat_inj]; omega
theorem u32_beq (a b : UInt32) : ((a.toNat : Int) == (b.toNat : Int)) = (a == b) := by rw [Bool.eq_iff_iff]; simp only [beq_iff_eq]; rw [← UInt32.toNat_inj]; omega
theorem u64_beq (a b : UInt64) : ((a.toNat : Int) == (b.toNat : Int)) = (a == b) := by rw [Bool.eq_iff_iff]; simp only [beq_iff_eq]; rw [← UInt64.toNat_inj]; omega
theorem bool_some {a b : Bool} (h : a = b) : some (AV.bool a) = some (AV.bool b) := by rw [h]
theorem dec_eq {p q : Prop} [Decidable p] [Decidable q] (h : p ↔ q) : decide p = decide q := by simp only [h]

theorem bin_u8_eql (a b : UInt8) : binOpA E .eql t (u8 a) (u8 b) = some (.bool (a == b)) := bool_some (u8_beq a b)
theorem bin_u8_neq (a b : UInt8) : binOpA E .neq t (u8 a) (u8 b) = some (.bool (a != b)) := bool_some (congrArg not (u8_beq a b))
theorem bin_u8_lss (a b : UInt8) : binOpA E .lss t (u8 a) (u8 b) = some (.bool (decide (a < b))) := bool_some (dec_eq (by rw [UInt8.lt_iff_toNat_lt]; omega))
theorem bin_u8_leq (a b : UInt8) : binOpA E .leq t (u8 a) (u8 b) = some (.bool (decide (a ≤ b))) := bool_some (dec_eq (by rw [UInt8.le_iff_toNat_le]; omega))
theorem bin_u8_gtr (a b : UInt8) : binOpA E .gtr t (u8 a) (u8 b) = some (.bool (decide (a > b))) := bool_some (dec_eq (by rw [gt_iff_lt, gt_iff_lt, UInt8.lt_iff_toNat_lt]; omega))
theorem bin_u8_geq (a b : UInt8) : binOpA E .geq t (u8 a) (u8 b) = some (.bool (decide (a ≥ b))) := bool_some (dec_eq (by rw [ge_iff_le, ge_iff_le, UInt8.le_iff_toNat_le]; omega))
theorem bin_u32_eql (a b : UInt32) : binOpA E .eql t (u32 a) (u32 b) = some (.bool (a == b)) := bool_some (u32_beq a b)
theorem bin_u32_neq (a b : UInt32) : binOpA E .neq t (u32 a) (u32 b) = some (.bool (a != b)) := bool_some (congrArg not (u32_beq a b))
theorem bin_u32_lss (a b : UInt32) : binOpA E .lss t (u32 a) (u32 b) = some (.bool (decide (a < b))) := bool_some (dec_eq (by rw [UInt32.lt_iff_toNat_lt]; omega))
theorem bin_u32_leq (a b : UInt32) : binOpA E .leq t (u32 a) (u32 b) = some (.bool (decide (a ≤ b))) := bool_some (dec_eq (by rw [UInt32.le_iff_toNat_le]; omega))
theorem bin_u32_gtr (a b : UInt32) : binOpA E .gtr t (u32 a) (u32 b) = some (.bool (decide (a > b))) := bool_some (dec_eq (by rw [gt_iff_lt, gt_iff_lt, UInt32.lt_iff_toNat_lt]; omega))
theorem bin_u32_geq (a b : UInt32) : binOpA E .geq t (u32 a) (u32 b) = some (.bool (decide (a ≥ b))) := bool_some (dec_eq (by rw [ge_iff_le, ge_iff_le, UInt32.le_iff_toNat_le]; omega))
theorem bin_u64_eql (a b : UInt64) : binOpA E .eql t (u64 a) (u64 b) = some (.bool (a == b)) := bool_some (u64_beq a b)
theorem bin_u64_neq (a b : UInt64) : binOpA E .neq t (u64 a) (u64 b) = some (.bool (a != b)) := bool_some (congrArg not (u64_beq a b))
theorem bin_u64_lss (a b : UInt64) : binOpA E .lss t (u64 a) (u64 b) = some (.bool (decide (a < b))) := bool_some (dec_eq (by rw [UInt64.lt_iff_toNat_lt]; omega))
theorem bin_u64_leq (a b : UInt64) : binOpA E .leq t (u64 a) (u64 b) = some (.bool (decide (a ≤ b))) := bool_some (dec_eq (by rw [UInt64.le_iff_toNat_le]; omega))
theorem bin_u64_gtr (a b : UInt64) : binOpA E .gtr t (u64 a) (u64 b) = some (.bool (decide (a > b))) := bool_some (dec_eq (by rw [gt_iff_lt, gt_iff_lt, UInt64.lt_iff_toNat_lt]; omega))
theorem bin_u64_geq (a b : UInt64) : binOpA E .geq t (u64 a) (u64 b) = some (.bool (decide (a ≥ b))) := bool_some (dec_eq (by rw [ge_iff_le, ge_iff_le, UInt64.le_iff_toNat_le]; omega))

/-! Division of unsigned ones. -/
theorem bin_u8_quo (a b : UInt8) : binOpA E .quo t (u8 a) (u8 b) = if b = 0 then none else some (u8 (a / b)) := by
  have h : ((b.toNat : Int) = 0) = (b = 0) := by rw [← UInt8.toNat_inj]; simp
  show (if (b.toNat : Int) = 0 then none else some (AV.int .u8 _)) = _
  simp only [h]
  split
  · rfl
  · refine int_eq ?_
    rw [wrapU8, UInt8.toNat_div]
    have := a.toNat_lt
    have : a.toNat / b.toNat ≤ a.toNat := Nat.div_le_self _ _
    rw [show (a.toNat : Int).tdiv (b.toNat : Int) = ((a.toNat / b.toNat : Nat) : Int) from rfl]
    generalize a.toNat / b.toNat = q at *
    omega
theorem bin_u8_rem (a b : UInt8) : binOpA E .rem t (u8 a) (u8 b) = if b = 0 then none else some (u8 (a % b)) := by
  have h : ((b.toNat : Int) = 0) = (b = 0) := by rw [← UInt8.toNat_inj]; simp
  show (if (b.toNat : Int) = 0 then none else some (AV.int .u8 _)) = _
  simp only [h]
  split
  · rfl
  · exact int_eq (by rw [UInt8.toNat_mod]; rfl)
theorem bin_u32_quo (a b : UInt32) : binOpA E .quo t (u32 a) (u32 b) = if b = 0 then none else some (u32 (a / b)) := by
  have h : ((b.toNat : Int) = 0) = (b = 0) := by rw [← UInt32.toNat_inj]; simp
  show (if (b.toNat : Int) = 0 then none else some (AV.int .u32 _)) = _
  simp only [h]
  split
  · rfl
  · refine int_eq ?_
    rw [wrapU32, UInt32.toNat_div]
    have := a.toNat_lt
    have : a.toNat / b.toNat ≤ a.toNat := Nat.div_le_self _ _
    rw [show (a.toNat : Int).tdiv (b.toNat : Int) = ((a.toNat / b.toNat : Nat) : Int) from rfl]
    generalize a.toNat / b.toNat = q at *
    omega
theorem bin_u32_rem (a b : UInt32) : binOpA E .rem t (u32 a) (u32 b) = if b = 0 then none else some (u32 (a % b)) := by
  have h : ((b.toNat : Int) = 0) = (b = 0) := by rw [← UInt32.toNat_inj]; simp
  show (if (b.toNat : Int) = 0 then none else some (AV.int .u32 _)) = _
  simp only [h]
  split
  · rfl
  · exact int_eq (by rw [UInt32.toNat_mod]; rfl)
theorem bin_u64_quo (a b : UInt64) : binOpA E .quo t (u64 a) (u64 b) = if b = 0 then none else some (u64 (a / b)) := by
  have h : ((b.toNat : Int) = 0) = (b = 0) := by rw [← UInt64.toNat_inj]; simp
  show (if (b.toNat : Int) = 0 then none else some (AV.int .u64 _)) = _
  simp only [h]
  split
  · rfl
  · refine int_eq ?_
    rw [wrapU64, UInt64.toNat_div]
    have := a.toNat_lt
    have : a.toNat / b.toNat ≤ a.toNat := Nat.div_le_self _ _
    rw [show (a.toNat : Int).tdiv (b.toNat : Int) = ((a.toNat / b.toNat : Nat) : Int) from rfl]
    generalize a.toNat / b.toNat = q at *
    omega
theorem bin_u64_rem (a b : UInt64) : binOpA E .rem t (u64 a) (u64 b) = if b = 0 then none else some (u64 (a % b)) := by
  have h : ((b.toNat : Int) = 0) = (b = 0) := by rw [← UInt64.toNat_inj]; simp
  show (if (b.toNat : Int) = 0 then none else some (AV.int .u64 _)) = _
  simp only [h]
  split
  · rfl
  · exact int_eq (by rw [UInt64.toNat_mod]; rfl)

/-! Shifts of unsigned ones. -/
theorem pow_min {w n : Nat} (a : Nat) (ha : a < 2 ^ w) : a / 2 ^ (min n w) = a >>> n := by
  rw [Nat.shiftRight_eq_div_pow]
  rcases Nat.le_total n w with h | h
  · rw [Nat.min_eq_left h]
  · rw [Nat.min_eq_right h, Nat.div_eq_of_lt ha, Nat.div_eq_of_lt (Nat.lt_of_lt_of_le ha (Nat.pow_le_pow_right (by omega) h))]
theorem mul_min {w n : Nat} (a : Nat) : (a * 2 ^ (min n w)) % 2 ^ w = (a <<< n) % 2 ^ w := by
  rw [Nat.shiftLeft_eq]
  rcases Nat.le_total n w with h | h
  · rw [Nat.min_eq_left h]
  · rw [Nat.min_eq_right h, Nat.mul_mod_left]
    obtain ⟨d, rfl⟩ : ∃ d, n = w + d := ⟨n - w, by omega⟩
    rw [Nat.pow_add, Nat.mul_comm (2 ^ w), ← Nat.mul_assoc, Nat.mul_mod_left]
theorem fdiv_pow (a m : Nat) : (a : Int).fdiv (2 ^ m) = ((a / 2 ^ m : Nat) : Int) := by
  rw [Int.fdiv_eq_ediv_of_nonneg _ (by exact_mod_cast Nat.zero_le _)]
  norm_cast
theorem cast_pow (a n : Nat) : (a : Int) * 2 ^ n = ((a * 2 ^ n : Nat) : Int) := by rw [Int.natCast_mul, Int.natCast_pow]; rfl
theorem wrap_pow8 (a n : Nat) : IntKind.u8.wrap ((a : Int) * 2 ^ n) = ((a * 2 ^ n % 2 ^ 8 : Nat) : Int) := by
  rw [wrapU8, cast_pow, show (2 : Nat) ^ 8 = 256 from rfl]
  generalize a * 2 ^ n = m
  omega
theorem wrap_pow32 (a n : Nat) : IntKind.u32.wrap ((a : Int) * 2 ^ n) = ((a * 2 ^ n % 2 ^ 32 : Nat) : Int) := by
  rw [wrapU32, cast_pow, show (2 : Nat) ^ 32 = 4294967296 from rfl]
  generalize a * 2 ^ n = m
  omega
theorem wrap_pow64 (a n : Nat) : IntKind.u64.wrap ((a : Int) * 2 ^ n) = ((a * 2 ^ n % 2 ^ 64 : Nat) : Int) := by
  rw [wrapU64, cast_pow, show (2 : Nat) ^ 64 = 18446744073709551616 from rfl]
  generalize a * 2 ^ n = m
  omega

theorem shl_u8 (a : UInt8) (y : Nat) : shiftA .shl .u8 (a.toNat : Int) (y : Int) = some (u8 (shl8 a y)) := by
  unfold shiftA
  rw [if_neg (by omega)]
  refine int_eq ?_
  rw [wrap_pow8]
  show ((a.toNat * 2 ^ (min y 8) % 2 ^ 8 : Nat) : Int) = _
  rw [mul_min]; rfl
theorem shr_u8 (a : UInt8) (y : Nat) : shiftA .shr .u8 (a.toNat : Int) (y : Int) = some (u8 (shr8 a y)) := by
  unfold shiftA
  rw [if_neg (by omega)]
  refine int_eq ?_
  rw [fdiv_pow]
  show ((a.toNat / 2 ^ (min y 8) : Nat) : Int) = _
  rw [pow_min _ a.toNat_lt]; rfl
theorem shl_u32 (a : UInt32) (y : Nat) : shiftA .shl .u32 (a.toNat : Int) (y : Int) = some (u32 (shl32 a y)) := by
  unfold shiftA
  rw [if_neg (by omega)]
  refine int_eq ?_
  rw [wrap_pow32]
  show ((a.toNat * 2 ^ (min y 32) % 2 ^ 32 : Nat) : Int) = _
  rw [mul_min]; rfl
theorem shr_u32 (a : UInt32) (y : Nat) : shiftA .shr .u32 (a.toNat : Int) (y : Int) = some (u32 (shr32 a y)) := by
  unfold shiftA
  rw [if_neg (by omega)]
  refine int_eq ?_
  rw [fdiv_pow]
  show ((a.toNat / 2 ^ (min y 32) : Nat) : Int) = _
  rw [pow_min _ a.toNat_lt]; rfl
theorem shl_u64 (a : UInt64) (y : Nat) : shiftA .shl .u64 (a.toNat : Int) (y : Int) = some (u64 (shl64 a y)) := by
  unfold shiftA
  rw [if_neg (by omega)]
  refine int_eq ?_
  rw [wrap_pow64]
  show ((a.toNat * 2 ^ (min y 64) % 2 ^ 64 : Nat) : Int) = _
  rw [mul_min]; rfl
theorem shr_u64 (a : UInt64) (y : Nat) : shiftA .shr .u64 (a.toNat : Int) (y : Int) = some (u64 (shr64 a y)) := by
  unfold shiftA
  rw [if_neg (by omega)]
  refine int_eq ?_
  rw [fdiv_pow]
  show ((a.toNat / 2 ^ (min y 64) : Nat) : Int) = _
  rw [pow_min _ a.toNat_lt]; rfl

/-- A shift count that is signed: not less than 0. -/
def NotNeg (x : Int) : Prop := 0 ≤ x
instance (x : Int) : Decidable (NotNeg x) := inferInstanceAs (Decidable (_ ≤ _))
theorem shift_pos {op : BinOp} {k : IntKind} {a x : Int} (h : NotNeg x) : shiftA op k a x = shiftA op k a ((x.toNat : Nat) : Int) := by
  have : (x.toNat : Int) = x := Int.toNat_of_nonneg h
  rw [this]
theorem bin_u8_shl_u64 (a : UInt8) (y : UInt64) : binOpA E .shl t (u8 a) (u64 y) = some (u8 (shl8 a y.toNat)) := shl_u8 a _
theorem bin_u8_shr_u64 (a : UInt8) (y : UInt64) : binOpA E .shr t (u8 a) (u64 y) = some (u8 (shr8 a y.toNat)) := shr_u8 a _
theorem bin_u32_shl_u64 (a : UInt32) (y : UInt64) : binOpA E .shl t (u32 a) (u64 y) = some (u32 (shl32 a y.toNat)) := shl_u32 a _
theorem bin_u32_shr_u64 (a : UInt32) (y : UInt64) : binOpA E .shr t (u32 a) (u64 y) = some (u32 (shr32 a y.toNat)) := shr_u32 a _
theorem bin_u64_shl_u64 (a : UInt64) (y : UInt64) : binOpA E .shl t (u64 a) (u64 y) = some (u64 (shl64 a y.toNat)) := shl_u64 a _
theorem bin_u64_shr_u64 (a : UInt64) (y : UInt64) : binOpA E .shr t (u64 a) (u64 y) = some (u64 (shr64 a y.toNat)) := shr_u64 a _
theorem bin_i64_shl (a b : Int) : binOpA E .shl t (i64 a) (i64 b) = if NotNeg b then some (i64 (shlI a b)) else none := by
  show shiftA .shl .i64 a b = _
  by_cases h : NotNeg b
  · have h' : ¬ b < 0 := by unfold NotNeg at h; omega
    rw [if_pos h]; unfold shiftA; rw [if_neg h']; rfl
  · have h' : b < 0 := by unfold NotNeg at h; omega
    rw [if_neg h]; unfold shiftA; rw [if_pos h']
theorem bin_i64_shr (a b : Int) : binOpA E .shr t (i64 a) (i64 b) = if NotNeg b then some (i64 (shrI a b)) else none := by
  show shiftA .shr .i64 a b = _
  by_cases h : NotNeg b
  · have h' : ¬ b < 0 := by unfold NotNeg at h; omega
    rw [if_pos h]; unfold shiftA; rw [if_neg h']; rfl
  · have h' : b < 0 := by unfold NotNeg at h; omega
    rw [if_neg h]; unfold shiftA; rw [if_pos h']
theorem bin_u8_shl_i64 (a : UInt8) (y : Int) : binOpA E .shl t (u8 a) (i64 y) = if NotNeg y then some (u8 (shl8 a y.toNat)) else none := by
  split
  · rename_i h; exact (shift_pos h).trans (shl_u8 a _)
  · rename_i h; exact if_pos (Int.lt_of_not_ge h)
theorem bin_u8_shr_i64 (a : UInt8) (y : Int) : binOpA E .shr t (u8 a) (i64 y) = if NotNeg y then some (u8 (shr8 a y.toNat)) else none := by
  split
  · rename_i h; exact (shift_pos h).trans (shr_u8 a _)
  · rename_i h; exact if_pos (Int.lt_of_not_ge h)
theorem bin_u32_shl_i64 (a : UInt32) (y : Int) : binOpA E .shl t (u32 a) (i64 y) = if NotNeg y then some (u32 (shl32 a y.toNat)) else none := by
  split
  · rename_i h; exact (shift_pos h).trans (shl_u32 a _)
  · rename_i h; exact if_pos (Int.lt_of_not_ge h)
theorem bin_u32_shr_i64 (a : UInt32) (y : Int) : binOpA E .shr t (u32 a) (i64 y) = if NotNeg y then some (u32 (shr32 a y.toNat)) else none := by
  split
  · rename_i h; exact (shift_pos h).trans (shr_u32 a _)
  · rename_i h; exact if_pos (Int.lt_of_not_ge h)
theorem bin_u64_shl_i64 (a : UInt64) (y : Int) : binOpA E .shl t (u64 a) (i64 y) = if NotNeg y then some (u64 (shl64 a y.toNat)) else none := by
  split
  · rename_i h; exact (shift_pos h).trans (shl_u64 a _)
  · rename_i h; exact if_pos (Int.lt_of_not_ge h)
theorem bin_u64_shr_i64 (a : UInt64) (y : Int) : binOpA E .shr t (u64 a) (i64 y) = if NotNeg y then some (u64 (shr64 a y.toNat)) else none := by
  split
  · rename_i h; exact (shift_pos h).trans (shr_u64 a _)
  · rename_i h; exact if_pos (Int.lt_of_not_ge h)

/-! Conversions between integers. -/
def isIntT (E : Env) (t : TypeId) (k : IntKind) : Bool := match E.tab t with
  | some ⟨.int k', _, _, _⟩ => decide (k' = k)
  | _ => false

theorem conv_int {E : Env} {σ : Store} {s d : TypeId} {k0 k : IntKind} {x : Int} (hs : (E.tab s).isSome = true) (hd : isIntT E d k = true) : convertA E σ s d (.int k0 x) = some (.int k (k.wrap x), σ) := by
  unfold isIntT at hd
  split at hd
  case h_2 => cases hd
  rename_i k' a b c hk
  have : k' = k := by simpa using hd
  subst this
  unfold convertA
  rw [hk]
  cases hh : E.tab s with
  | none => rw [hh] at hs; cases hs
  | some sd => rfl

theorem conv_i64_i64 {σ : Store} {s d : TypeId} (x : Int) (hs : (E.tab s).isSome = true) (hd : isIntT E d .i64 = true) : convertA E σ s d (i64 x) = some (i64 (w64 x), σ) := conv_int hs hd
theorem conv_i64_u8 {σ : Store} {s d : TypeId} (x : Int) (hs : (E.tab s).isSome = true) (hd : isIntT E d .u8 = true) : convertA E σ s d (i64 x) = some (u8 (UInt8.ofInt x), σ) := by
  refine (conv_int hs hd).trans ?_
  rw [wrapU8]
  have : ((UInt8.ofInt x).toNat : Int) = x % 256 := by rw [UInt8.ofInt, UInt8.toNat_ofNat']; omega
  unfold u8; rw [this]
theorem conv_i64_u32 {σ : Store} {s d : TypeId} (x : Int) (hs : (E.tab s).isSome = true) (hd : isIntT E d .u32 = true) : convertA E σ s d (i64 x) = some (u32 (UInt32.ofInt x), σ) := by
  refine (conv_int hs hd).trans ?_
  rw [wrapU32]
  have : ((UInt32.ofInt x).toNat : Int) = x % 4294967296 := by rw [UInt32.ofInt, UInt32.toNat_ofNat']; omega
  unfold u32; rw [this]
theorem conv_i64_u64 {σ : Store} {s d : TypeId} (x : Int) (hs : (E.tab s).isSome = true) (hd : isIntT E d .u64 = true) : convertA E σ s d (i64 x) = some (u64 (UInt64.ofInt x), σ) := by
  refine (conv_int hs hd).trans ?_
  rw [wrapU64]
  have : ((UInt64.ofInt x).toNat : Int) = x % 18446744073709551616 := by rw [UInt64.ofInt, UInt64.toNat_ofNat']; omega
  unfold u64; rw [this]
theorem conv_u8_i64 {σ : Store} {s d : TypeId} (x : UInt8) (hs : (E.tab s).isSome = true) (hd : isIntT E d .i64 = true) : convertA E σ s d (u8 x) = some (i64 (x.toNat : Int), σ) := by
  refine (conv_int hs hd).trans ?_
  have := x.toNat_lt
  have h : IntKind.i64.wrap (x.toNat : Int) = (x.toNat : Int) := by rw [IntKind.wrap_i64]; omega
  unfold i64; rw [h]
theorem conv_u8_u8 {σ : Store} {s d : TypeId} (x : UInt8) (hs : (E.tab s).isSome = true) (hd : isIntT E d .u8 = true) : convertA E σ s d (u8 x) = some (u8 x, σ) := by
  refine (conv_int hs hd).trans ?_
  have := x.toNat_lt
  unfold u8; rw [wrapU8]; congr 3; omega
theorem conv_u8_u32 {σ : Store} {s d : TypeId} (x : UInt8) (hs : (E.tab s).isSome = true) (hd : isIntT E d .u32 = true) : convertA E σ s d (u8 x) = some (u32 x.toUInt32, σ) := by
  refine (conv_int hs hd).trans ?_
  have := x.toNat_lt
  unfold u32; rw [wrapU32, UInt8.toNat_toUInt32]; congr 3; omega
theorem conv_u8_u64 {σ : Store} {s d : TypeId} (x : UInt8) (hs : (E.tab s).isSome = true) (hd : isIntT E d .u64 = true) : convertA E σ s d (u8 x) = some (u64 x.toUInt64, σ) := by
  refine (conv_int hs hd).trans ?_
  have := x.toNat_lt
  unfold u64; rw [wrapU64, UInt8.toNat_toUInt64]; congr 3; omega
theorem conv_u32_u8 {σ : Store} {s d : TypeId} (x : UInt32) (hs : (E.tab s).isSome = true) (hd : isIntT E d .u8 = true) : convertA E σ s d (u32 x) = some (u8 x.toUInt8, σ) := by
  refine (conv_int hs hd).trans ?_
  unfold u8; rw [wrapU8, UInt32.toNat_toUInt8]; congr 3
theorem conv_u32_i64 {σ : Store} {s d : TypeId} (x : UInt32) (hs : (E.tab s).isSome = true) (hd : isIntT E d .i64 = true) : convertA E σ s d (u32 x) = some (i64 (x.toNat : Int), σ) := by
  refine (conv_int hs hd).trans ?_
  have := x.toNat_lt
  have h : IntKind.i64.wrap (x.toNat : Int) = (x.toNat : Int) := by rw [IntKind.wrap_i64]; omega
  unfold i64; rw [h]
theorem conv_u32_u32 {σ : Store} {s d : TypeId} (x : UInt32) (hs : (E.tab s).isSome = true) (hd : isIntT E d .u32 = true) : convertA E σ s d (u32 x) = some (u32 x, σ) := by
  refine (conv_int hs hd).trans ?_
  have := x.toNat_lt
  unfold u32; rw [wrapU32]; congr 3; omega
theorem mod64 (n : Nat) (h : n < 18446744073709551616) : IntKind.u64.wrap (n : Int) = (n : Int) := by
  rw [wrapU64]; exact Int.emod_eq_of_lt (Int.natCast_nonneg _) (Int.ofNat_lt.2 h)
theorem conv_u32_u64 {σ : Store} {s d : TypeId} (x : UInt32) (hs : (E.tab s).isSome = true) (hd : isIntT E d .u64 = true) : convertA E σ s d (u32 x) = some (u64 x.toUInt64, σ) := by
  refine (conv_int hs hd).trans ?_
  rw [mod64 _ (Nat.lt_trans x.toNat_lt (by decide))]; rfl
theorem conv_u64_u8 {σ : Store} {s d : TypeId} (x : UInt64) (hs : (E.tab s).isSome = true) (hd : isIntT E d .u8 = true) : convertA E σ s d (u64 x) = some (u8 x.toUInt8, σ) := by
  refine (conv_int hs hd).trans ?_
  unfold u8; rw [wrapU8, UInt64.toNat_toUInt8]; congr 3
theorem conv_u64_u32 {σ : Store} {s d : TypeId} (x : UInt64) (hs : (E.tab s).isSome = true) (hd : isIntT E d .u32 = true) : convertA E σ s d (u64 x) = some (u32 x.toUInt32, σ) := by
  refine (conv_int hs hd).trans ?_
  unfold u32; rw [wrapU32, UInt64.toNat_toUInt32]; congr 3
theorem conv_u64_u64 {σ : Store} {s d : TypeId} (x : UInt64) (hs : (E.tab s).isSome = true) (hd : isIntT E d .u64 = true) : convertA E σ s d (u64 x) = some (u64 x, σ) := by
  refine (conv_int hs hd).trans ?_
  rw [mod64 _ x.toNat_lt]; rfl
theorem conv_u64_i64 {σ : Store} {s d : TypeId} (x : UInt64) (hs : (E.tab s).isSome = true) (hd : isIntT E d .i64 = true) : convertA E σ s d (u64 x) = some (i64 (w64 (x.toNat : Int)), σ) := conv_int hs hd
end

end Go.Rv
