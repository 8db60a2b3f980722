/-
  Part 19.
-/
import Derived.Test.YtioapcamanmoiaaDoorYR18
import Derived.Attr
namespace Go.Rv
set_option linter.unusedVariables false
set_option linter.unusedSimpArgs false
variable {E : Env}
def i64 (x : Int) : AV:=.int .i64 x
def u8 (x : UInt8) : AV:=.int .u8 (x.toNat : Int)
def u16 (x : UInt16) : AV:=.int .u16 (x.toNat : Int)
def u32 (x : UInt32) : AV:=.int .u32 (x.toNat : Int)
def u64 (x : UInt64) : AV:=.int .u64 (x.toNat : Int)
def w64 (x : Int) : Int:=IntKind.i64.wrap x
theorem AgS {x : Int} (h : -9223372036854775808≤x∧x≤9223372036854775807) : w64 x = x:=by
 unfold w64;rw [IntKind.wrap_i64];omega
def shl8 (x : UInt8) (n : Nat) : UInt8:=⟨x.toBitVec <<< n⟩
def Aew (x : UInt32) (n : Nat) : UInt32:=⟨x.toBitVec <<< n⟩
def AcM (x : UInt32) (n : Nat) : UInt32:=⟨x.toBitVec >>> n⟩
def Aeq (x : UInt64) (n : Nat) : UInt64:=⟨x.toBitVec <<< n⟩
def Ju (x : UInt64) (n : Nat) : UInt64:=⟨x.toBitVec >>> n⟩
def Aqa (a b : Int) : Int:=IntKind.i64.wrap ((BitVec.ofInt 64 a &&& BitVec.ofInt 64 b).toNat : Int)
def or64 (a b : Int) : Int:=IntKind.i64.wrap ((BitVec.ofInt 64 a ||| BitVec.ofInt 64 b).toNat : Int)
def Amu (a b : Int) : Int:=IntKind.i64.wrap ((BitVec.ofInt 64 a ^^^ BitVec.ofInt 64 b).toNat : Int)
def InR (x : Int) (n : Nat) : Prop:=0≤x∧x.toNat < n
def InB (x : Int) (n : Nat) : Prop:=0≤x∧x.toNat≤n
def Ex (n bytes : Nat) : Prop:=n≤maxLen∧n * bytes≤Pn
instance (x : Int) (n : Nat) : Decidable (InR x n):=inferInstanceAs (Decidable (_∧_))
instance (x : Int) (n : Nat) : Decidable (InB x n):=inferInstanceAs (Decidable (_∧_))
instance (n b : Nat) : Decidable (Ex n b):=inferInstanceAs (Decidable (_∧_))
theorem AjB (x : Int) (n : Nat) : idx (i64 x) n = if InR x n then some x.toNat else none:=rfl
theorem AnC (x : UInt8) (n : Nat) : idx (u8 x) n = if InR (x.toNat : Int) n then some x.toNat else none:=rfl
theorem AkZ (x : UInt32) (n : Nat) : idx (u32 x) n = if InR (x.toNat : Int) n then some x.toNat else none:=rfl
theorem Ak7 (x : UInt64) (n : Nat) : idx (u64 x) n = if InR (x.toNat : Int) n then some x.toNat else none:=rfl
theorem AhO (x : Int) (n : Nat) : AlB (i64 x) n = if InB x n then some x.toNat else none:=rfl
theorem Alj (a b : Nat) : ((a : Int) == (b : Int)) = (a == b):=by
 rw [Bool.eq_iff_iff];simp only [beq_iff_eq];omega
section
variable {t : TypeId}
theorem AbY (a b : Int) : Bb E .add t (i64 a) (i64 b) = some (i64 (w64 (a + b))):=rfl
theorem Ach (a b : Int) : Bb E .sub t (i64 a) (i64 b) = some (i64 (w64 (a - b))):=rfl
theorem AbM (a b : Int) : Bb E .mul t (i64 a) (i64 b) = some (i64 (w64 (a * b))):=rfl
theorem AcS (a b : Int) : Bb E .quo t (i64 a) (i64 b) = if b = 0 then none else some (i64 (w64 (a.tdiv b))):=rfl
theorem Acs (a b : Int) : Bb E .rem t (i64 a) (i64 b) = if b = 0 then none else some (i64 (a.tmod b)):=rfl
theorem AcZ (a b : Int) : Bb E .and t (i64 a) (i64 b) = some (i64 (Aqa a b)):=rfl
theorem Aes (a b : Int) : Bb E .or t (i64 a) (i64 b) = some (i64 (or64 a b)):=rfl
theorem Ab6 (a b : Int) : Bb E .xor t (i64 a) (i64 b) = some (i64 (Amu a b)):=rfl
theorem Abt (a b : Int) : Bb E .eql t (i64 a) (i64 b) = some (.bool (a == b)):=rfl
theorem Ac4 (a b : Int) : Bb E .neq t (i64 a) (i64 b) = some (.bool (a != b)):=rfl
theorem Abz (a b : Int) : Bb E .lss t (i64 a) (i64 b) = some (.bool (decide (a < b))):=rfl
theorem Ack (a b : Int) : Bb E .leq t (i64 a) (i64 b) = some (.bool (decide (a≤b))):=rfl
theorem Acr (a b : Int) : Bb E .gtr t (i64 a) (i64 b) = some (.bool (decide (a > b))):=rfl
theorem AcT (a b : Int) : Bb E .geq t (i64 a) (i64 b) = some (.bool (decide (a ≥ b))):=rfl
theorem Aex (a : Int) : V0 .neg (i64 a) = some (i64 (w64 (0 - a))):=rfl
theorem AeZ (a : Int) : V0 .xor (i64 a) = some (i64 (Amu (-1) a)):=rfl
theorem AdM (n : Int) : IntKind.u8.wrap n = n % 256:=by rw [IntKind.wrap_u8]
theorem Y8 (n : Int) : IntKind.u32.wrap n = n % 4294967296:=by rw [IntKind.wrap_u32]
theorem Lz (n : Int) : IntKind.u64.wrap n = n % 18446744073709551616:=by rw [IntKind.wrap_u64]
theorem Mf {k : IntKind} {a b : Int} (h : a = b) : some (AV.int k a) = some (AV.int k b):=by rw [h]
theorem Ab4 (a b : UInt32) : Bb E .add t (u32 a) (u32 b) = some (u32 (a + b)):=Mf (by rw [Y8,UInt32.toNat_add];omega)
theorem AbJ (a b : UInt64) : Bb E .add t (u64 a) (u64 b) = some (u64 (a + b)):=Mf (by rw [Lz,UInt64.toNat_add];omega)
theorem Ac0 (a b : UInt64) : Bb E .sub t (u64 a) (u64 b) = some (u64 (a - b)):=Mf (by rw [Lz,UInt64.toNat_sub];have:=a.toNat_lt;have:=b.toNat_lt;omega)
theorem Ab2 (a b : UInt64) : Bb E .mul t (u64 a) (u64 b) = some (u64 (a * b)):=Mf (by rw [Lz,UInt64.toNat_mul];simp)
theorem AdG {w : Nat} (n : Nat) : BitVec.ofInt w (n : Int) = BitVec.ofNat w n:=by
 apply BitVec.eq_of_toNat_eq
 rw [BitVec.toNat_ofInt,BitVec.toNat_ofNat]
 omega
theorem Adg (f : BitVec 32→BitVec 32→BitVec 32) (a b : UInt32) : Uy .u32 f (a.toNat : Int) (b.toNat : Int) = u32 ⟨f a.toBitVec b.toBitVec⟩:=by
 unfold Uy u32
 congr 1
 show IntKind.u32.wrap ((f (BitVec.ofInt 32 (a.toNat : Int)) (BitVec.ofInt 32 (b.toNat : Int))).toNat : Int) = _
 rw [AdG,AdG,Y8]
 have ha : BitVec.ofNat 32 a.toNat = a.toBitVec:=by apply BitVec.eq_of_toNat_eq;rw [BitVec.toNat_ofNat,UInt32.toNat_toBitVec];exact Nat.mod_eq_of_lt a.toNat_lt
 have hb : BitVec.ofNat 32 b.toNat = b.toBitVec:=by apply BitVec.eq_of_toNat_eq;rw [BitVec.toNat_ofNat,UInt32.toNat_toBitVec];exact Nat.mod_eq_of_lt b.toNat_lt
 rw [ha,hb]
 have:=(f a.toBitVec b.toBitVec).isLt
 show ((f a.toBitVec b.toBitVec).toNat : Int) % 4294967296 = ((f a.toBitVec b.toBitVec).toNat : Int)
 omega
theorem Aha (f : BitVec 64→BitVec 64→BitVec 64) (a b : UInt64) : Uy .u64 f (a.toNat : Int) (b.toNat : Int) = u64 ⟨f a.toBitVec b.toBitVec⟩:=by
 unfold Uy u64
 congr 1
 show IntKind.u64.wrap ((f (BitVec.ofInt 64 (a.toNat : Int)) (BitVec.ofInt 64 (b.toNat : Int))).toNat : Int) = _
 rw [AdG,AdG,Lz]
 have ha : BitVec.ofNat 64 a.toNat = a.toBitVec:=by apply BitVec.eq_of_toNat_eq;rw [BitVec.toNat_ofNat,UInt64.toNat_toBitVec];exact Nat.mod_eq_of_lt a.toNat_lt
 have hb : BitVec.ofNat 64 b.toNat = b.toBitVec:=by apply BitVec.eq_of_toNat_eq;rw [BitVec.toNat_ofNat,UInt64.toNat_toBitVec];exact Nat.mod_eq_of_lt b.toNat_lt
 rw [ha,hb]
 have:=(f a.toBitVec b.toBitVec).isLt
 show ((f a.toBitVec b.toBitVec).toNat : Int) % 18446744073709551616 = ((f a.toBitVec b.toBitVec).toNat : Int)
 omega
theorem AcA (a b : UInt32) : Bb E .and t (u32 a) (u32 b) = some (u32 (a &&& b)):=congrArg some (Adg _ a b)
theorem Aek (a b : UInt32) : Bb E .or t (u32 a) (u32 b) = some (u32 (a ||| b)):=congrArg some (Adg _ a b)
theorem AbE (a b : UInt32) : Bb E .xor t (u32 a) (u32 b) = some (u32 (a ^^^ b)):=congrArg some (Adg _ a b)
theorem AcR (a b : UInt64) : Bb E .and t (u64 a) (u64 b) = some (u64 (a &&& b)):=congrArg some (Aha _ a b)
theorem AeC (a b : UInt64) : Bb E .or t (u64 a) (u64 b) = some (u64 (a ||| b)):=congrArg some (Aha _ a b)
theorem AeX (a : UInt32) : V0 .xor (u32 a) = some (u32 (~~~a)):=by
 have h : V0 .xor (u32 a) = some (Uy .u32 (· ^^^ ·) ((4294967295 : UInt32).toNat : Int) (a.toNat : Int)):=rfl
 refine h.trans (congrArg some ((Adg (· ^^^ ·) 4294967295 a).trans (congrArg u32 ?_)))
 apply UInt32.toBitVec_inj.1
 show (4294967295 : UInt32).toBitVec ^^^ a.toBitVec = ~~~ a.toBitVec
 rw [BitVec.not_def];rfl
theorem AeR (a : UInt64) : V0 .xor (u64 a) = some (u64 (~~~a)):=by
 have h : V0 .xor (u64 a) = some (Uy .u64 (· ^^^ ·) ((18446744073709551615 : UInt64).toNat : Int) (a.toNat : Int)):=rfl
 refine h.trans (congrArg some ((Aha (· ^^^ ·) 18446744073709551615 a).trans (congrArg u64 ?_)))
 apply UInt64.toBitVec_inj.1
 show (18446744073709551615 : UInt64).toBitVec ^^^ a.toBitVec = ~~~ a.toBitVec
 rw [BitVec.not_def];rfl
theorem Anh (a b : UInt8) : ((a.toNat : Int) == (b.toNat : Int)) = (a == b):=by rw [Bool.eq_iff_iff];simp only [beq_iff_eq];rw [← UInt8.toNat_inj];omega
theorem AfG (a b : UInt64) : ((a.toNat : Int) == (b.toNat : Int)) = (a == b):=by rw [Bool.eq_iff_iff];simp only [beq_iff_eq];rw [← UInt64.toNat_inj];omega
theorem Ij {a b : Bool} (h : a = b) : some (AV.bool a) = some (AV.bool b):=by rw [h]
theorem AdC {p q : Prop} [Decidable p] [Decidable q] (h : p↔q) : decide p = decide q:=by simp only [h]
theorem Aej (a b : UInt8) : Bb E .eql t (u8 a) (u8 b) = some (.bool (a == b)):=Ij (Anh a b)
theorem AcF (a b : UInt64) : Bb E .eql t (u64 a) (u64 b) = some (.bool (a == b)):=Ij (AfG a b)
theorem Acn (a b : UInt64) : Bb E .neq t (u64 a) (u64 b) = some (.bool (a != b)):=Ij (congrArg not (AfG a b))
theorem Ac2 (a b : UInt64) : Bb E .lss t (u64 a) (u64 b) = some (.bool (decide (a < b))):=Ij (AdC (by rw [UInt64.lt_iff_toNat_lt];omega))
theorem AcH (a b : UInt64) : Bb E .leq t (u64 a) (u64 b) = some (.bool (decide (a≤b))):=Ij (AdC (by rw [UInt64.le_iff_toNat_le];omega))
theorem Ac5 (a b : UInt64) : Bb E .gtr t (u64 a) (u64 b) = some (.bool (decide (a > b))):=Ij (AdC (by rw [gt_iff_lt,gt_iff_lt,UInt64.lt_iff_toNat_lt];omega))
theorem AbQ (a b : UInt64) : Bb E .geq t (u64 a) (u64 b) = some (.bool (decide (a ≥ b))):=Ij (AdC (by rw [ge_iff_le,ge_iff_le,UInt64.le_iff_toNat_le];omega))
theorem AbU (a b : UInt64) : Bb E .quo t (u64 a) (u64 b) = if b = 0 then none else some (u64 (a / b)):=by
 have h : ((b.toNat : Int) = 0) = (b = 0):=by rw [← UInt64.toNat_inj];simp
 show (if (b.toNat : Int) = 0 then none else some (AV.int .u64 _)) = _
 simp only [h]
 split
 ·rfl
 ·refine Mf ?_
  rw [Lz,UInt64.toNat_div]
  have:=a.toNat_lt
  have : a.toNat / b.toNat≤a.toNat:=Nat.div_le_self _ _
  rw [show (a.toNat : Int).tdiv (b.toNat : Int) = ((a.toNat / b.toNat : Nat) : Int) from rfl]
  generalize a.toNat / b.toNat = q at *
  omega
theorem Acz (a b : UInt64) : Bb E .rem t (u64 a) (u64 b) = if b = 0 then none else some (u64 (a % b)):=by
 have h : ((b.toNat : Int) = 0) = (b = 0):=by rw [← UInt64.toNat_inj];simp
 show (if (b.toNat : Int) = 0 then none else some (AV.int .u64 _)) = _
 simp only [h]
 split
 ·rfl
 ·exact Mf (by rw [UInt64.toNat_mod];rfl)
theorem AgI {w n : Nat} (a : Nat) (ha : a < 2 ^ w) : a / 2 ^ (min n w) = a >>> n:=by
 rw [Nat.shiftRight_eq_div_pow]
 rcases Nat.le_total n w with h | h
 ·rw [Nat.min_eq_left h]
 ·rw [Nat.min_eq_right h,Nat.div_eq_of_lt ha,Nat.div_eq_of_lt (Nat.lt_of_lt_of_le ha (Nat.pow_le_pow_right (by omega) h))]
theorem AcV {w n : Nat} (a : Nat) : (a * 2 ^ (min n w)) % 2 ^ w = (a <<< n) % 2 ^ w:=by
 rw [Nat.shiftLeft_eq]
 rcases Nat.le_total n w with h | h
 ·rw [Nat.min_eq_left h]
 ·rw [Nat.min_eq_right h,Nat.mul_mod_left]
  obtain ⟨d,rfl⟩ : ∃ d,n = w + d:=⟨n - w,by omega⟩
  rw [Nat.pow_add,Nat.mul_comm (2 ^ w),← Nat.mul_assoc,Nat.mul_mod_left]
theorem Ad2 (a m : Nat) : (a : Int).fdiv (2 ^ m) = ((a / 2 ^ m : Nat) : Int):=by
 rw [Int.fdiv_eq_ediv_of_nonneg _ (by exact_mod_cast Nat.zero_le _)]
 norm_cast
theorem Yx (a n : Nat) : (a : Int) * 2 ^ n = ((a * 2 ^ n : Nat) : Int):=by rw [Int.natCast_mul,Int.natCast_pow];rfl
theorem Ag2 (a n : Nat) : IntKind.u8.wrap ((a : Int) * 2 ^ n) = ((a * 2 ^ n % 2 ^ 8 : Nat) : Int):=by
 rw [AdM,Yx,show (2 : Nat) ^ 8 = 256 from rfl]
 generalize a * 2 ^ n = m
 omega
theorem Ae5 (a n : Nat) : IntKind.u32.wrap ((a : Int) * 2 ^ n) = ((a * 2 ^ n % 2 ^ 32 : Nat) : Int):=by
 rw [Y8,Yx,show (2 : Nat) ^ 32 = 4294967296 from rfl]
 generalize a * 2 ^ n = m
 omega
theorem Ae6 (a n : Nat) : IntKind.u64.wrap ((a : Int) * 2 ^ n) = ((a * 2 ^ n % 2 ^ 64 : Nat) : Int):=by
 rw [Lz,Yx,show (2 : Nat) ^ 64 = 18446744073709551616 from rfl]
 generalize a * 2 ^ n = m
 omega
theorem shl_u8 (a : UInt8) (y : Nat) : Ie .shl .u8 (a.toNat : Int) (y : Int) = some (u8 (shl8 a y)):=by
 unfold Ie
 rw [if_neg (by omega)]
 refine Mf ?_
 rw [Ag2]
 show ((a.toNat * 2 ^ (min y 8) % 2 ^ 8 : Nat) : Int) = _
 rw [AcV];rfl
theorem Ala (a : UInt32) (y : Nat) : Ie .shl .u32 (a.toNat : Int) (y : Int) = some (u32 (Aew a y)):=by
 unfold Ie
 rw [if_neg (by omega)]
 refine Mf ?_
 rw [Ae5]
 show ((a.toNat * 2 ^ (min y 32) % 2 ^ 32 : Nat) : Int) = _
 rw [AcV];rfl
theorem AgG (a : UInt32) (y : Nat) : Ie .shr .u32 (a.toNat : Int) (y : Int) = some (u32 (AcM a y)):=by
 unfold Ie
 rw [if_neg (by omega)]
 refine Mf ?_
 rw [Ad2]
 show ((a.toNat / 2 ^ (min y 32) : Nat) : Int) = _
 rw [AgI _ a.toNat_lt];rfl
theorem AkH (a : UInt64) (y : Nat) : Ie .shl .u64 (a.toNat : Int) (y : Int) = some (u64 (Aeq a y)):=by
 unfold Ie
 rw [if_neg (by omega)]
 refine Mf ?_
 rw [Ae6]
 show ((a.toNat * 2 ^ (min y 64) % 2 ^ 64 : Nat) : Int) = _
 rw [AcV];rfl
theorem Ag1 (a : UInt64) (y : Nat) : Ie .shr .u64 (a.toNat : Int) (y : Int) = some (u64 (Ju a y)):=by
 unfold Ie
 rw [if_neg (by omega)]
 refine Mf ?_
 rw [Ad2]
 show ((a.toNat / 2 ^ (min y 64) : Nat) : Int) = _
 rw [AgI _ a.toNat_lt];rfl
def N0 (x : Int) : Prop:=0≤x
instance (x : Int) : Decidable (N0 x):=inferInstanceAs (Decidable (_≤_))
theorem AaI {op : BinOp} {k : IntKind} {a x : Int} (h : N0 x) : Ie op k a x = Ie op k a ((x.toNat : Nat) : Int):=by
 have : (x.toNat : Int) = x:=Int.toNat_of_nonneg h
 rw [this]
theorem Ui (a : UInt32) (y : UInt64) : Bb E .shl t (u32 a) (u64 y) = some (u32 (Aew a y.toNat)):=Ala a _
theorem Uo (a : UInt32) (y : UInt64) : Bb E .shr t (u32 a) (u64 y) = some (u32 (AcM a y.toNat)):=AgG a _
theorem Ti (a : UInt64) (y : UInt64) : Bb E .shl t (u64 a) (u64 y) = some (u64 (Aeq a y.toNat)):=AkH a _
theorem Uq (a : UInt64) (y : UInt64) : Bb E .shr t (u64 a) (u64 y) = some (u64 (Ju a y.toNat)):=Ag1 a _
theorem Uv (a : UInt32) (y : Int) : Bb E .shr t (u32 a) (i64 y) = if N0 y then some (u32 (AcM a y.toNat)) else none:=by
 split
 ·rename_i h;exact (AaI h).trans (AgG a _)
 ·rename_i h;exact if_pos (Int.lt_of_not_ge h)
theorem U3 (a : UInt64) (y : Int) : Bb E .shr t (u64 a) (i64 y) = if N0 y then some (u64 (Ju a y.toNat)) else none:=by
 split
 ·rename_i h;exact (AaI h).trans (Ag1 a _)
 ·rename_i h;exact if_pos (Int.lt_of_not_ge h)
def Ns (E : Env) (t : TypeId) (k : IntKind) : Bool:=match E.tab t with
 | some ⟨.int k',_,_,_⟩ => decide (k' = k)
 | _ => false
theorem Kr {E : Env} {σ : An} {s d : TypeId} {k0 k : IntKind} {x : Int} (hs : (E.tab s).isSome = true) (hd : Ns E d k = true) : B6 E σ s d (.int k0 x) = some (.int k (k.wrap x),σ):=by
  unfold Ns at hd
  split at hd
  case h_2 => cases hd
  rename_i k' a b c hk
  have : k' = k:=by simpa using hd
  subst this
  unfold B6
  rw [hk]
  cases hh : E.tab s with
  | none => rw [hh] at hs;cases hs
  | some sd => rfl
theorem Aci {σ : An} {s d : TypeId} (x : Int) (hs : (E.tab s).isSome = true) (hd : Ns E d .u8 = true) : B6 E σ s d (i64 x) = some (u8 (UInt8.ofInt x),σ):=by
 refine (Kr hs hd).trans ?_
 rw [AdM]
 have : ((UInt8.ofInt x).toNat : Int) = x % 256:=by rw [UInt8.ofInt,UInt8.toNat_ofNat'];omega
 unfold u8;rw [this]
theorem Abf {σ : An} {s d : TypeId} (x : Int) (hs : (E.tab s).isSome = true) (hd : Ns E d .u64 = true) : B6 E σ s d (i64 x) = some (u64 (UInt64.ofInt x),σ):=by
 refine (Kr hs hd).trans ?_
 rw [Lz]
 have : ((UInt64.ofInt x).toNat : Int) = x % 18446744073709551616:=by rw [UInt64.ofInt,UInt64.toNat_ofNat'];omega
 unfold u64;rw [this]
theorem Acu {σ : An} {s d : TypeId} (x : UInt8) (hs : (E.tab s).isSome = true) (hd : Ns E d .i64 = true) : B6 E σ s d (u8 x) = some (i64 (x.toNat : Int),σ):=by
 refine (Kr hs hd).trans ?_
 have:=x.toNat_lt
 have h : IntKind.i64.wrap (x.toNat : Int) = (x.toNat : Int):=by rw [IntKind.wrap_i64];omega
 unfold i64;rw [h]
theorem AcX {σ : An} {s d : TypeId} (x : UInt8) (hs : (E.tab s).isSome = true) (hd : Ns E d .u32 = true) : B6 E σ s d (u8 x) = some (u32 x.toUInt32,σ):=by
 refine (Kr hs hd).trans ?_
 have:=x.toNat_lt
 unfold u32;rw [Y8,UInt8.toNat_toUInt32];congr 3;omega
theorem AcC {σ : An} {s d : TypeId} (x : UInt8) (hs : (E.tab s).isSome = true) (hd : Ns E d .u64 = true) : B6 E σ s d (u8 x) = some (u64 x.toUInt64,σ):=by
 refine (Kr hs hd).trans ?_
 have:=x.toNat_lt
 unfold u64;rw [Lz,UInt8.toNat_toUInt64];congr 3;omega
theorem Acb {σ : An} {s d : TypeId} (x : UInt32) (hs : (E.tab s).isSome = true) (hd : Ns E d .u8 = true) : B6 E σ s d (u32 x) = some (u8 x.toUInt8,σ):=by
 refine (Kr hs hd).trans ?_
 unfold u8;rw [AdM,UInt32.toNat_toUInt8];congr 3
theorem Acl {σ : An} {s d : TypeId} (x : UInt64) (hs : (E.tab s).isSome = true) (hd : Ns E d .u8 = true) : B6 E σ s d (u64 x) = some (u8 x.toUInt8,σ):=by
 refine (Kr hs hd).trans ?_
 unfold u8;rw [AdM,UInt64.toNat_toUInt8];congr 3
end
end Go.Rv
