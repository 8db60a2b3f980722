/-
  Part 19.
-/
import Derived.Test.YtioapcamanmoiaaDoorYR18
import Derived.Attr
namespace Go.Rv
set_option linter.unusedVariables false
set_option linter.unusedSimpArgs false
variable {E : Env}
def i64 (x : Int) : AV:=.int .i64 x
def u8 (x : UInt8) : AV:=.int .u8 (x.toNat : Int)
def u16 (x : UInt16) : AV:=.int .u16 (x.toNat : Int)
def u32 (x : UInt32) : AV:=.int .u32 (x.toNat : Int)
def u64 (x : UInt64) : AV:=.int .u64 (x.toNat : Int)
def w64 (x : Int) : Int:=IntKind.i64.wrap x
theorem Ag1 {x : Int} (h : -9223372036854775808≤x∧x≤9223372036854775807) : w64 x = x:=by
 unfold w64;rw [IntKind.wrap_i64];omega
def shl8 (x : UInt8) (n : Nat) : UInt8:=⟨x.toBitVec <<< n⟩
def Aey (x : UInt32) (n : Nat) : UInt32:=⟨x.toBitVec <<< n⟩
def Ab5 (x : UInt32) (n : Nat) : UInt32:=⟨x.toBitVec >>> n⟩
def Afc (x : UInt64) (n : Nat) : UInt64:=⟨x.toBitVec <<< n⟩
def Jh (x : UInt64) (n : Nat) : UInt64:=⟨x.toBitVec >>> n⟩
def Apm (a b : Int) : Int:=IntKind.i64.wrap ((BitVec.ofInt 64 a &&& BitVec.ofInt 64 b).toNat : Int)
def or64 (a b : Int) : Int:=IntKind.i64.wrap ((BitVec.ofInt 64 a ||| BitVec.ofInt 64 b).toNat : Int)
def Anw (a b : Int) : Int:=IntKind.i64.wrap ((BitVec.ofInt 64 a ^^^ BitVec.ofInt 64 b).toNat : Int)
def InR (x : Int) (n : Nat) : Prop:=0≤x∧x.toNat < n
def InB (x : Int) (n : Nat) : Prop:=0≤x∧x.toNat≤n
def E1 (n bytes : Nat) : Prop:=n≤maxLen∧n * bytes≤Ph
instance (x : Int) (n : Nat) : Decidable (InR x n):=inferInstanceAs (Decidable (_∧_))
instance (x : Int) (n : Nat) : Decidable (InB x n):=inferInstanceAs (Decidable (_∧_))
instance (n b : Nat) : Decidable (E1 n b):=inferInstanceAs (Decidable (_∧_))
theorem Akc (x : Int) (n : Nat) : idx (i64 x) n = if InR x n then some x.toNat else none:=rfl
theorem AnM (x : UInt8) (n : Nat) : idx (u8 x) n = if InR (x.toNat : Int) n then some x.toNat else none:=rfl
theorem Ajr (x : UInt32) (n : Nat) : idx (u32 x) n = if InR (x.toNat : Int) n then some x.toNat else none:=rfl
theorem Akt (x : UInt64) (n : Nat) : idx (u64 x) n = if InR (x.toNat : Int) n then some x.toNat else none:=rfl
theorem Aht (x : Int) (n : Nat) : AlF (i64 x) n = if InB x n then some x.toNat else none:=rfl
theorem Ak5 (a b : Nat) : ((a : Int) == (b : Int)) = (a == b):=by
 rw [Bool.eq_iff_iff];simp only [beq_iff_eq];omega
section
variable {t : TypeId}
theorem AcB (a b : Int) : A9 E .add t (i64 a) (i64 b) = some (i64 (w64 (a + b))):=rfl
theorem Acg (a b : Int) : A9 E .sub t (i64 a) (i64 b) = some (i64 (w64 (a - b))):=rfl
theorem AbV (a b : Int) : A9 E .mul t (i64 a) (i64 b) = some (i64 (w64 (a * b))):=rfl
theorem AbY (a b : Int) : A9 E .quo t (i64 a) (i64 b) = if b = 0 then none else some (i64 (w64 (a.tdiv b))):=rfl
theorem AbM (a b : Int) : A9 E .rem t (i64 a) (i64 b) = if b = 0 then none else some (i64 (a.tmod b)):=rfl
theorem Acn (a b : Int) : A9 E .and t (i64 a) (i64 b) = some (i64 (Apm a b)):=rfl
theorem Afh (a b : Int) : A9 E .or t (i64 a) (i64 b) = some (i64 (or64 a b)):=rfl
theorem AcQ (a b : Int) : A9 E .xor t (i64 a) (i64 b) = some (i64 (Anw a b)):=rfl
theorem Acw (a b : Int) : A9 E .eql t (i64 a) (i64 b) = some (.bool (a == b)):=rfl
theorem Ach (a b : Int) : A9 E .neq t (i64 a) (i64 b) = some (.bool (a != b)):=rfl
theorem AcL (a b : Int) : A9 E .lss t (i64 a) (i64 b) = some (.bool (decide (a < b))):=rfl
theorem Ab3 (a b : Int) : A9 E .leq t (i64 a) (i64 b) = some (.bool (decide (a≤b))):=rfl
theorem Abx (a b : Int) : A9 E .gtr t (i64 a) (i64 b) = some (.bool (decide (a > b))):=rfl
theorem AbP (a b : Int) : A9 E .geq t (i64 a) (i64 b) = some (.bool (decide (a ≥ b))):=rfl
theorem Afb (a : Int) : Va .neg (i64 a) = some (i64 (w64 (0 - a))):=rfl
theorem Ae3 (a : Int) : Va .xor (i64 a) = some (i64 (Anw (-1) a)):=rfl
theorem AdV (n : Int) : IntKind.u8.wrap n = n % 256:=by rw [IntKind.wrap_u8]
theorem Y1 (n : Int) : IntKind.u32.wrap n = n % 4294967296:=by rw [IntKind.wrap_u32]
theorem L6 (n : Int) : IntKind.u64.wrap n = n % 18446744073709551616:=by rw [IntKind.wrap_u64]
theorem M3 {k : IntKind} {a b : Int} (h : a = b) : some (AV.int k a) = some (AV.int k b):=by rw [h]
theorem AbE (a b : UInt32) : A9 E .add t (u32 a) (u32 b) = some (u32 (a + b)):=M3 (by rw [Y1,UInt32.toNat_add];omega)
theorem AbB (a b : UInt64) : A9 E .add t (u64 a) (u64 b) = some (u64 (a + b)):=M3 (by rw [L6,UInt64.toNat_add];omega)
theorem AbW (a b : UInt64) : A9 E .sub t (u64 a) (u64 b) = some (u64 (a - b)):=M3 (by rw [L6,UInt64.toNat_sub];have:=a.toNat_lt;have:=b.toNat_lt;omega)
theorem Acm (a b : UInt64) : A9 E .mul t (u64 a) (u64 b) = some (u64 (a * b)):=M3 (by rw [L6,UInt64.toNat_mul];simp)
theorem Adw {w : Nat} (n : Nat) : BitVec.ofInt w (n : Int) = BitVec.ofNat w n:=by
 apply BitVec.eq_of_toNat_eq
 rw [BitVec.toNat_ofInt,BitVec.toNat_ofNat]
 omega
theorem AdI (f : BitVec 32→BitVec 32→BitVec 32) (a b : UInt32) : Um .u32 f (a.toNat : Int) (b.toNat : Int) = u32 ⟨f a.toBitVec b.toBitVec⟩:=by
 unfold Um u32
 congr 1
 show IntKind.u32.wrap ((f (BitVec.ofInt 32 (a.toNat : Int)) (BitVec.ofInt 32 (b.toNat : Int))).toNat : Int) = _
 rw [Adw,Adw,Y1]
 have ha : BitVec.ofNat 32 a.toNat = a.toBitVec:=by apply BitVec.eq_of_toNat_eq;rw [BitVec.toNat_ofNat,UInt32.toNat_toBitVec];exact Nat.mod_eq_of_lt a.toNat_lt
 have hb : BitVec.ofNat 32 b.toNat = b.toBitVec:=by apply BitVec.eq_of_toNat_eq;rw [BitVec.toNat_ofNat,UInt32.toNat_toBitVec];exact Nat.mod_eq_of_lt b.toNat_lt
 rw [ha,hb]
 have:=(f a.toBitVec b.toBitVec).isLt
 show ((f a.toBitVec b.toBitVec).toNat : Int) % 4294967296 = ((f a.toBitVec b.toBitVec).toNat : Int)
 omega
theorem Ags (f : BitVec 64→BitVec 64→BitVec 64) (a b : UInt64) : Um .u64 f (a.toNat : Int) (b.toNat : Int) = u64 ⟨f a.toBitVec b.toBitVec⟩:=by
 unfold Um u64
 congr 1
 show IntKind.u64.wrap ((f (BitVec.ofInt 64 (a.toNat : Int)) (BitVec.ofInt 64 (b.toNat : Int))).toNat : Int) = _
 rw [Adw,Adw,L6]
 have ha : BitVec.ofNat 64 a.toNat = a.toBitVec:=by apply BitVec.eq_of_toNat_eq;rw [BitVec.toNat_ofNat,UInt64.toNat_toBitVec];exact Nat.mod_eq_of_lt a.toNat_lt
 have hb : BitVec.ofNat 64 b.toNat = b.toBitVec:=by apply BitVec.eq_of_toNat_eq;rw [BitVec.toNat_ofNat,UInt64.toNat_toBitVec];exact Nat.mod_eq_of_lt b.toNat_lt
 rw [ha,hb]
 have:=(f a.toBitVec b.toBitVec).isLt
 show ((f a.toBitVec b.toBitVec).toNat : Int) % 18446744073709551616 = ((f a.toBitVec b.toBitVec).toNat : Int)
 omega
theorem AcX (a b : UInt32) : A9 E .and t (u32 a) (u32 b) = some (u32 (a &&& b)):=congrArg some (AdI _ a b)
theorem Ae9 (a b : UInt32) : A9 E .or t (u32 a) (u32 b) = some (u32 (a ||| b)):=congrArg some (AdI _ a b)
theorem Aca (a b : UInt32) : A9 E .xor t (u32 a) (u32 b) = some (u32 (a ^^^ b)):=congrArg some (AdI _ a b)
theorem Aby (a b : UInt64) : A9 E .and t (u64 a) (u64 b) = some (u64 (a &&& b)):=congrArg some (Ags _ a b)
theorem Aej (a b : UInt64) : A9 E .or t (u64 a) (u64 b) = some (u64 (a ||| b)):=congrArg some (Ags _ a b)
theorem Afg (a : UInt32) : Va .xor (u32 a) = some (u32 (~~~a)):=by
 have h : Va .xor (u32 a) = some (Um .u32 (· ^^^ ·) ((4294967295 : UInt32).toNat : Int) (a.toNat : Int)):=rfl
 refine h.trans (congrArg some ((AdI (· ^^^ ·) 4294967295 a).trans (congrArg u32 ?_)))
 apply UInt32.toBitVec_inj.1
 show (4294967295 : UInt32).toBitVec ^^^ a.toBitVec = ~~~ a.toBitVec
 rw [BitVec.not_def];rfl
theorem AeT (a : UInt64) : Va .xor (u64 a) = some (u64 (~~~a)):=by
 have h : Va .xor (u64 a) = some (Um .u64 (· ^^^ ·) ((18446744073709551615 : UInt64).toNat : Int) (a.toNat : Int)):=rfl
 refine h.trans (congrArg some ((Ags (· ^^^ ·) 18446744073709551615 a).trans (congrArg u64 ?_)))
 apply UInt64.toBitVec_inj.1
 show (18446744073709551615 : UInt64).toBitVec ^^^ a.toBitVec = ~~~ a.toBitVec
 rw [BitVec.not_def];rfl
theorem Ama (a b : UInt8) : ((a.toNat : Int) == (b.toNat : Int)) = (a == b):=by rw [Bool.eq_iff_iff];simp only [beq_iff_eq];rw [← UInt8.toNat_inj];omega
theorem Af7 (a b : UInt64) : ((a.toNat : Int) == (b.toNat : Int)) = (a == b):=by rw [Bool.eq_iff_iff];simp only [beq_iff_eq];rw [← UInt64.toNat_inj];omega
theorem H3 {a b : Bool} (h : a = b) : some (AV.bool a) = some (AV.bool b):=by rw [h]
theorem Adl {p q : Prop} [Decidable p] [Decidable q] (h : p↔q) : decide p = decide q:=by simp only [h]
theorem Afj (a b : UInt8) : A9 E .eql t (u8 a) (u8 b) = some (.bool (a == b)):=H3 (Ama a b)
theorem AbF (a b : UInt64) : A9 E .eql t (u64 a) (u64 b) = some (.bool (a == b)):=H3 (Af7 a b)
theorem AcF (a b : UInt64) : A9 E .neq t (u64 a) (u64 b) = some (.bool (a != b)):=H3 (congrArg not (Af7 a b))
theorem Abz (a b : UInt64) : A9 E .lss t (u64 a) (u64 b) = some (.bool (decide (a < b))):=H3 (Adl (by rw [UInt64.lt_iff_toNat_lt];omega))
theorem AcS (a b : UInt64) : A9 E .leq t (u64 a) (u64 b) = some (.bool (decide (a≤b))):=H3 (Adl (by rw [UInt64.le_iff_toNat_le];omega))
theorem Aci (a b : UInt64) : A9 E .gtr t (u64 a) (u64 b) = some (.bool (decide (a > b))):=H3 (Adl (by rw [gt_iff_lt,gt_iff_lt,UInt64.lt_iff_toNat_lt];omega))
theorem AcR (a b : UInt64) : A9 E .geq t (u64 a) (u64 b) = some (.bool (decide (a ≥ b))):=H3 (Adl (by rw [ge_iff_le,ge_iff_le,UInt64.le_iff_toNat_le];omega))
theorem AbZ (a b : UInt64) : A9 E .quo t (u64 a) (u64 b) = if b = 0 then none else some (u64 (a / b)):=by
 have h : ((b.toNat : Int) = 0) = (b = 0):=by rw [← UInt64.toNat_inj];simp
 show (if (b.toNat : Int) = 0 then none else some (AV.int .u64 _)) = _
 simp only [h]
 split
 ·rfl
 ·refine M3 ?_
  rw [L6,UInt64.toNat_div]
  have:=a.toNat_lt
  have : a.toNat / b.toNat≤a.toNat:=Nat.div_le_self _ _
  rw [show (a.toNat : Int).tdiv (b.toNat : Int) = ((a.toNat / b.toNat : Nat) : Int) from rfl]
  generalize a.toNat / b.toNat = q at *
  omega
theorem Ab6 (a b : UInt64) : A9 E .rem t (u64 a) (u64 b) = if b = 0 then none else some (u64 (a % b)):=by
 have h : ((b.toNat : Int) = 0) = (b = 0):=by rw [← UInt64.toNat_inj];simp
 show (if (b.toNat : Int) = 0 then none else some (AV.int .u64 _)) = _
 simp only [h]
 split
 ·rfl
 ·exact M3 (by rw [UInt64.toNat_mod];rfl)
theorem AfM {w n : Nat} (a : Nat) (ha : a < 2 ^ w) : a / 2 ^ (min n w) = a >>> n:=by
 rw [Nat.shiftRight_eq_div_pow]
 rcases Nat.le_total n w with h | h
 ·rw [Nat.min_eq_left h]
 ·rw [Nat.min_eq_right h,Nat.div_eq_of_lt ha,Nat.div_eq_of_lt (Nat.lt_of_lt_of_le ha (Nat.pow_le_pow_right (by omega) h))]
theorem Abv {w n : Nat} (a : Nat) : (a * 2 ^ (min n w)) % 2 ^ w = (a <<< n) % 2 ^ w:=by
 rw [Nat.shiftLeft_eq]
 rcases Nat.le_total n w with h | h
 ·rw [Nat.min_eq_left h]
 ·rw [Nat.min_eq_right h,Nat.mul_mod_left]
  obtain ⟨d,rfl⟩ : ∃ d,n = w + d:=⟨n - w,by omega⟩
  rw [Nat.pow_add,Nat.mul_comm (2 ^ w),← Nat.mul_assoc,Nat.mul_mod_left]
theorem Ad1 (a m : Nat) : (a : Int).fdiv (2 ^ m) = ((a / 2 ^ m : Nat) : Int):=by
 rw [Int.fdiv_eq_ediv_of_nonneg _ (by exact_mod_cast Nat.zero_le _)]
 norm_cast
theorem Yg (a n : Nat) : (a : Int) * 2 ^ n = ((a * 2 ^ n : Nat) : Int):=by rw [Int.natCast_mul,Int.natCast_pow];rfl
theorem Afq (a n : Nat) : IntKind.u8.wrap ((a : Int) * 2 ^ n) = ((a * 2 ^ n % 2 ^ 8 : Nat) : Int):=by
 rw [AdV,Yg,show (2 : Nat) ^ 8 = 256 from rfl]
 generalize a * 2 ^ n = m
 omega
theorem Ae4 (a n : Nat) : IntKind.u32.wrap ((a : Int) * 2 ^ n) = ((a * 2 ^ n % 2 ^ 32 : Nat) : Int):=by
 rw [Y1,Yg,show (2 : Nat) ^ 32 = 4294967296 from rfl]
 generalize a * 2 ^ n = m
 omega
theorem AeK (a n : Nat) : IntKind.u64.wrap ((a : Int) * 2 ^ n) = ((a * 2 ^ n % 2 ^ 64 : Nat) : Int):=by
 rw [L6,Yg,show (2 : Nat) ^ 64 = 18446744073709551616 from rfl]
 generalize a * 2 ^ n = m
 omega
theorem shl_u8 (a : UInt8) (y : Nat) : H7 .shl .u8 (a.toNat : Int) (y : Int) = some (u8 (shl8 a y)):=by
 unfold H7
 rw [if_neg (by omega)]
 refine M3 ?_
 rw [Afq]
 show ((a.toNat * 2 ^ (min y 8) % 2 ^ 8 : Nat) : Int) = _
 rw [Abv];rfl
theorem AjK (a : UInt32) (y : Nat) : H7 .shl .u32 (a.toNat : Int) (y : Int) = some (u32 (Aey a y)):=by
 unfold H7
 rw [if_neg (by omega)]
 refine M3 ?_
 rw [Ae4]
 show ((a.toNat * 2 ^ (min y 32) % 2 ^ 32 : Nat) : Int) = _
 rw [Abv];rfl
theorem AfL (a : UInt32) (y : Nat) : H7 .shr .u32 (a.toNat : Int) (y : Int) = some (u32 (Ab5 a y)):=by
 unfold H7
 rw [if_neg (by omega)]
 refine M3 ?_
 rw [Ad1]
 show ((a.toNat / 2 ^ (min y 32) : Nat) : Int) = _
 rw [AfM _ a.toNat_lt];rfl
theorem Aku (a : UInt64) (y : Nat) : H7 .shl .u64 (a.toNat : Int) (y : Int) = some (u64 (Afc a y)):=by
 unfold H7
 rw [if_neg (by omega)]
 refine M3 ?_
 rw [AeK]
 show ((a.toNat * 2 ^ (min y 64) % 2 ^ 64 : Nat) : Int) = _
 rw [Abv];rfl
theorem AfT (a : UInt64) (y : Nat) : H7 .shr .u64 (a.toNat : Int) (y : Int) = some (u64 (Jh a y)):=by
 unfold H7
 rw [if_neg (by omega)]
 refine M3 ?_
 rw [Ad1]
 show ((a.toNat / 2 ^ (min y 64) : Nat) : Int) = _
 rw [AfM _ a.toNat_lt];rfl
def Nu (x : Int) : Prop:=0≤x
instance (x : Int) : Decidable (Nu x):=inferInstanceAs (Decidable (_≤_))
theorem Aba {op : BinOp} {k : IntKind} {a x : Int} (h : Nu x) : H7 op k a x = H7 op k a ((x.toNat : Nat) : Int):=by
 have : (x.toNat : Int) = x:=Int.toNat_of_nonneg h
 rw [this]
theorem U7 (a : UInt32) (y : UInt64) : A9 E .shl t (u32 a) (u64 y) = some (u32 (Aey a y.toNat)):=AjK a _
theorem Tb (a : UInt32) (y : UInt64) : A9 E .shr t (u32 a) (u64 y) = some (u32 (Ab5 a y.toNat)):=AfL a _
theorem Vf (a : UInt64) (y : UInt64) : A9 E .shl t (u64 a) (u64 y) = some (u64 (Afc a y.toNat)):=Aku a _
theorem Vv (a : UInt64) (y : UInt64) : A9 E .shr t (u64 a) (u64 y) = some (u64 (Jh a y.toNat)):=AfT a _
theorem Uy (a : UInt32) (y : Int) : A9 E .shr t (u32 a) (i64 y) = if Nu y then some (u32 (Ab5 a y.toNat)) else none:=by
 split
 ·rename_i h;exact (Aba h).trans (AfL a _)
 ·rename_i h;exact if_pos (Int.lt_of_not_ge h)
theorem V9 (a : UInt64) (y : Int) : A9 E .shr t (u64 a) (i64 y) = if Nu y then some (u64 (Jh a y.toNat)) else none:=by
 split
 ·rename_i h;exact (Aba h).trans (AfT a _)
 ·rename_i h;exact if_pos (Int.lt_of_not_ge h)
def Nr (E : Env) (t : TypeId) (k : IntKind) : Bool:=match E.tab t with
 | some ⟨.int k',_,_,_⟩ => decide (k' = k)
 | _ => false
theorem K6 {E : Env} {σ : An} {s d : TypeId} {k0 k : IntKind} {x : Int} (hs : (E.tab s).isSome = true) (hd : Nr E d k = true) : B5 E σ s d (.int k0 x) = some (.int k (k.wrap x),σ):=by
  unfold Nr at hd
  split at hd
  case h_2 => cases hd
  rename_i k' a b c hk
  have : k' = k:=by simpa using hd
  subst this
  unfold B5
  rw [hk]
  cases hh : E.tab s with
  | none => rw [hh] at hs;cases hs
  | some sd => rfl
theorem AcC {σ : An} {s d : TypeId} (x : Int) (hs : (E.tab s).isSome = true) (hd : Nr E d .u8 = true) : B5 E σ s d (i64 x) = some (u8 (UInt8.ofInt x),σ):=by
 refine (K6 hs hd).trans ?_
 rw [AdV]
 have : ((UInt8.ofInt x).toNat : Int) = x % 256:=by rw [UInt8.ofInt,UInt8.toNat_ofNat'];omega
 unfold u8;rw [this]
theorem Aay {σ : An} {s d : TypeId} (x : Int) (hs : (E.tab s).isSome = true) (hd : Nr E d .u64 = true) : B5 E σ s d (i64 x) = some (u64 (UInt64.ofInt x),σ):=by
 refine (K6 hs hd).trans ?_
 rw [L6]
 have : ((UInt64.ofInt x).toNat : Int) = x % 18446744073709551616:=by rw [UInt64.ofInt,UInt64.toNat_ofNat'];omega
 unfold u64;rw [this]
theorem AbN {σ : An} {s d : TypeId} (x : UInt8) (hs : (E.tab s).isSome = true) (hd : Nr E d .i64 = true) : B5 E σ s d (u8 x) = some (i64 (x.toNat : Int),σ):=by
 refine (K6 hs hd).trans ?_
 have:=x.toNat_lt
 have h : IntKind.i64.wrap (x.toNat : Int) = (x.toNat : Int):=by rw [IntKind.wrap_i64];omega
 unfold i64;rw [h]
theorem Ac1 {σ : An} {s d : TypeId} (x : UInt8) (hs : (E.tab s).isSome = true) (hd : Nr E d .u32 = true) : B5 E σ s d (u8 x) = some (u32 x.toUInt32,σ):=by
 refine (K6 hs hd).trans ?_
 have:=x.toNat_lt
 unfold u32;rw [Y1,UInt8.toNat_toUInt32];congr 3;omega
theorem AbU {σ : An} {s d : TypeId} (x : UInt8) (hs : (E.tab s).isSome = true) (hd : Nr E d .u64 = true) : B5 E σ s d (u8 x) = some (u64 x.toUInt64,σ):=by
 refine (K6 hs hd).trans ?_
 have:=x.toNat_lt
 unfold u64;rw [L6,UInt8.toNat_toUInt64];congr 3;omega
theorem Abs {σ : An} {s d : TypeId} (x : UInt32) (hs : (E.tab s).isSome = true) (hd : Nr E d .u8 = true) : B5 E σ s d (u32 x) = some (u8 x.toUInt8,σ):=by
 refine (K6 hs hd).trans ?_
 unfold u8;rw [AdV,UInt32.toNat_toUInt8];congr 3
theorem AbJ {σ : An} {s d : TypeId} (x : UInt64) (hs : (E.tab s).isSome = true) (hd : Nr E d .u8 = true) : B5 E σ s d (u64 x) = some (u8 x.toUInt8,σ):=by
 refine (K6 hs hd).trans ?_
 unfold u8;rw [AdV,UInt64.toNat_toUInt8];congr 3
end
end Go.Rv
