/-
  Part 19.
-/
import Derived.Test.YtioapcamanmoiaaDoorYX618
import Derived.Attr
namespace Go.Rv
set_option linter.unusedVariables false
set_option linter.unusedSimpArgs false
variable {E : Env}
def i64 (x : Int) : AV:=.int .i64 x
def u8 (x : UInt8) : AV:=.int .u8 (x.toNat : Int)
def u16 (x : UInt16) : AV:=.int .u16 (x.toNat : Int)
def u32 (x : UInt32) : AV:=.int .u32 (x.toNat : Int)
def u64 (x : UInt64) : AV:=.int .u64 (x.toNat : Int)
def w64 (x : Int) : Int:=IntKind.i64.wrap x
theorem C4 {x : Int} (h : -9223372036854775808≤x∧x≤9223372036854775807) : w64 x = x:=by
 unfold w64;rw [IntKind.wrap_i64];omega
def shl8 (x : UInt8) (n : Nat) : UInt8:=⟨x.toBitVec <<< n⟩
def Agw (x : UInt32) (n : Nat) : UInt32:=⟨x.toBitVec <<< n⟩
def Acn (x : UInt32) (n : Nat) : UInt32:=⟨x.toBitVec >>> n⟩
def S9 (x : UInt64) (n : Nat) : UInt64:=⟨x.toBitVec <<< n⟩
def F8 (x : UInt64) (n : Nat) : UInt64:=⟨x.toBitVec >>> n⟩
def AqU (a b : Int) : Int:=IntKind.i64.wrap ((BitVec.ofInt 64 a &&& BitVec.ofInt 64 b).toNat : Int)
def or64 (a b : Int) : Int:=IntKind.i64.wrap ((BitVec.ofInt 64 a ||| BitVec.ofInt 64 b).toNat : Int)
def An9 (a b : Int) : Int:=IntKind.i64.wrap ((BitVec.ofInt 64 a ^^^ BitVec.ofInt 64 b).toNat : Int)
def InR (x : Int) (n : Nat) : Prop:=0≤x∧x.toNat < n
def InB (x : Int) (n : Nat) : Prop:=0≤x∧x.toNat≤n
def Fs (n bytes : Nat) : Prop:=n≤maxLen∧n * bytes≤K6
instance (x : Int) (n : Nat) : Decidable (InR x n):=inferInstanceAs (Decidable (_∧_))
instance (x : Int) (n : Nat) : Decidable (InB x n):=inferInstanceAs (Decidable (_∧_))
instance (n b : Nat) : Decidable (Fs n b):=inferInstanceAs (Decidable (_∧_))
theorem Anz (x : Int) (n : Nat) : idx (i64 x) n = if InR x n then some x.toNat else none:=rfl
theorem AqB (x : UInt8) (n : Nat) : idx (u8 x) n = if InR (x.toNat : Int) n then some x.toNat else none:=rfl
theorem Amp (x : UInt32) (n : Nat) : idx (u32 x) n = if InR (x.toNat : Int) n then some x.toNat else none:=rfl
theorem AlO (x : UInt64) (n : Nat) : idx (u64 x) n = if InR (x.toNat : Int) n then some x.toNat else none:=rfl
theorem AkK (x : Int) (n : Nat) : An2 (i64 x) n = if InB x n then some x.toNat else none:=rfl
theorem AmV (a b : Nat) : ((a : Int) == (b : Int)) = (a == b):=by
 rw [Bool.eq_iff_iff];simp only [beq_iff_eq];omega
section
variable {t : TypeId}
theorem AcW (a b : Int) : Bj E .add t (i64 a) (i64 b) = some (i64 (w64 (a + b))):=rfl
theorem Ad5 (a b : Int) : Bj E .sub t (i64 a) (i64 b) = some (i64 (w64 (a - b))):=rfl
theorem Ad1 (a b : Int) : Bj E .mul t (i64 a) (i64 b) = some (i64 (w64 (a * b))):=rfl
theorem Adg (a b : Int) : Bj E .quo t (i64 a) (i64 b) = if b = 0 then none else some (i64 (w64 (a.tdiv b))):=rfl
theorem AdY (a b : Int) : Bj E .rem t (i64 a) (i64 b) = if b = 0 then none else some (i64 (a.tmod b)):=rfl
theorem AcI (a b : Int) : Bj E .and t (i64 a) (i64 b) = some (i64 (AqU a b)):=rfl
theorem Af5 (a b : Int) : Bj E .or t (i64 a) (i64 b) = some (i64 (or64 a b)):=rfl
theorem AdA (a b : Int) : Bj E .xor t (i64 a) (i64 b) = some (i64 (An9 a b)):=rfl
theorem AdM (a b : Int) : Bj E .eql t (i64 a) (i64 b) = some (.bool (a == b)):=rfl
theorem Ac6 (a b : Int) : Bj E .neq t (i64 a) (i64 b) = some (.bool (a != b)):=rfl
theorem Adx (a b : Int) : Bj E .lss t (i64 a) (i64 b) = some (.bool (decide (a < b))):=rfl
theorem AdU (a b : Int) : Bj E .leq t (i64 a) (i64 b) = some (.bool (decide (a≤b))):=rfl
theorem AcF (a b : Int) : Bj E .gtr t (i64 a) (i64 b) = some (.bool (decide (a > b))):=rfl
theorem Ac2 (a b : Int) : Bj E .geq t (i64 a) (i64 b) = some (.bool (decide (a ≥ b))):=rfl
theorem AfD (a : Int) : Wn .neg (i64 a) = some (i64 (w64 (0 - a))):=rfl
theorem Agx (a : Int) : Wn .xor (i64 a) = some (i64 (An9 (-1) a)):=rfl
theorem Afj (n : Int) : IntKind.u8.wrap n = n % 256:=by rw [IntKind.wrap_u8]
theorem AaV (n : Int) : IntKind.u32.wrap n = n % 4294967296:=by rw [IntKind.wrap_u32]
theorem Nz (n : Int) : IntKind.u64.wrap n = n % 18446744073709551616:=by rw [IntKind.wrap_u64]
theorem Ng {k : IntKind} {a b : Int} (h : a = b) : some (AV.int k a) = some (AV.int k b):=by rw [h]
theorem Ac7 (a b : UInt32) : Bj E .add t (u32 a) (u32 b) = some (u32 (a + b)):=Ng (by rw [AaV,UInt32.toNat_add];omega)
theorem Ada (a b : UInt64) : Bj E .add t (u64 a) (u64 b) = some (u64 (a + b)):=Ng (by rw [Nz,UInt64.toNat_add];omega)
theorem Adj (a b : UInt64) : Bj E .sub t (u64 a) (u64 b) = some (u64 (a - b)):=Ng (by rw [Nz,UInt64.toNat_sub];have:=a.toNat_lt;have:=b.toNat_lt;omega)
theorem AdR (a b : UInt64) : Bj E .mul t (u64 a) (u64 b) = some (u64 (a * b)):=Ng (by rw [Nz,UInt64.toNat_mul];simp)
theorem AeX {w : Nat} (n : Nat) : BitVec.ofInt w (n : Int) = BitVec.ofNat w n:=by
 apply BitVec.eq_of_toNat_eq
 rw [BitVec.toNat_ofInt,BitVec.toNat_ofNat]
 omega
theorem AeO (f : BitVec 32→BitVec 32→BitVec 32) (a b : UInt32) : Wk .u32 f (a.toNat : Int) (b.toNat : Int) = u32 ⟨f a.toBitVec b.toBitVec⟩:=by
 unfold Wk u32
 congr 1
 show IntKind.u32.wrap ((f (BitVec.ofInt 32 (a.toNat : Int)) (BitVec.ofInt 32 (b.toNat : Int))).toNat : Int) = _
 rw [AeX,AeX,AaV]
 have ha : BitVec.ofNat 32 a.toNat = a.toBitVec:=by apply BitVec.eq_of_toNat_eq;rw [BitVec.toNat_ofNat,UInt32.toNat_toBitVec];exact Nat.mod_eq_of_lt a.toNat_lt
 have hb : BitVec.ofNat 32 b.toNat = b.toBitVec:=by apply BitVec.eq_of_toNat_eq;rw [BitVec.toNat_ofNat,UInt32.toNat_toBitVec];exact Nat.mod_eq_of_lt b.toNat_lt
 rw [ha,hb]
 have:=(f a.toBitVec b.toBitVec).isLt
 show ((f a.toBitVec b.toBitVec).toNat : Int) % 4294967296 = ((f a.toBitVec b.toBitVec).toNat : Int)
 omega
theorem Aiq (f : BitVec 64→BitVec 64→BitVec 64) (a b : UInt64) : Wk .u64 f (a.toNat : Int) (b.toNat : Int) = u64 ⟨f a.toBitVec b.toBitVec⟩:=by
 unfold Wk u64
 congr 1
 show IntKind.u64.wrap ((f (BitVec.ofInt 64 (a.toNat : Int)) (BitVec.ofInt 64 (b.toNat : Int))).toNat : Int) = _
 rw [AeX,AeX,Nz]
 have ha : BitVec.ofNat 64 a.toNat = a.toBitVec:=by apply BitVec.eq_of_toNat_eq;rw [BitVec.toNat_ofNat,UInt64.toNat_toBitVec];exact Nat.mod_eq_of_lt a.toNat_lt
 have hb : BitVec.ofNat 64 b.toNat = b.toBitVec:=by apply BitVec.eq_of_toNat_eq;rw [BitVec.toNat_ofNat,UInt64.toNat_toBitVec];exact Nat.mod_eq_of_lt b.toNat_lt
 rw [ha,hb]
 have:=(f a.toBitVec b.toBitVec).isLt
 show ((f a.toBitVec b.toBitVec).toNat : Int) % 18446744073709551616 = ((f a.toBitVec b.toBitVec).toNat : Int)
 omega
theorem Acu (a b : UInt32) : Bj E .and t (u32 a) (u32 b) = some (u32 (a &&& b)):=congrArg some (AeO _ a b)
theorem Af3 (a b : UInt32) : Bj E .or t (u32 a) (u32 b) = some (u32 (a ||| b)):=congrArg some (AeO _ a b)
theorem AcR (a b : UInt32) : Bj E .xor t (u32 a) (u32 b) = some (u32 (a ^^^ b)):=congrArg some (AeO _ a b)
theorem Acm (a b : UInt64) : Bj E .and t (u64 a) (u64 b) = some (u64 (a &&& b)):=congrArg some (Aiq _ a b)
theorem AfZ (a b : UInt64) : Bj E .or t (u64 a) (u64 b) = some (u64 (a ||| b)):=congrArg some (Aiq _ a b)
theorem Af1 (a : UInt32) : Wn .xor (u32 a) = some (u32 (~~~a)):=by
 have h : Wn .xor (u32 a) = some (Wk .u32 (· ^^^ ·) ((4294967295 : UInt32).toNat : Int) (a.toNat : Int)):=rfl
 refine h.trans (congrArg some ((AeO (· ^^^ ·) 4294967295 a).trans (congrArg u32 ?_)))
 apply UInt32.toBitVec_inj.1
 show (4294967295 : UInt32).toBitVec ^^^ a.toBitVec = ~~~ a.toBitVec
 rw [BitVec.not_def];rfl
theorem Afr (a : UInt64) : Wn .xor (u64 a) = some (u64 (~~~a)):=by
 have h : Wn .xor (u64 a) = some (Wk .u64 (· ^^^ ·) ((18446744073709551615 : UInt64).toNat : Int) (a.toNat : Int)):=rfl
 refine h.trans (congrArg some ((Aiq (· ^^^ ·) 18446744073709551615 a).trans (congrArg u64 ?_)))
 apply UInt64.toBitVec_inj.1
 show (18446744073709551615 : UInt64).toBitVec ^^^ a.toBitVec = ~~~ a.toBitVec
 rw [BitVec.not_def];rfl
theorem Aof (a b : UInt8) : ((a.toNat : Int) == (b.toNat : Int)) = (a == b):=by rw [Bool.eq_iff_iff];simp only [beq_iff_eq];rw [← UInt8.toNat_inj];omega
theorem Ahs (a b : UInt64) : ((a.toNat : Int) == (b.toNat : Int)) = (a == b):=by rw [Bool.eq_iff_iff];simp only [beq_iff_eq];rw [← UInt64.toNat_inj];omega
theorem J1 {a b : Bool} (h : a = b) : some (AV.bool a) = some (AV.bool b):=by rw [h]
theorem Aev {p q : Prop} [Decidable p] [Decidable q] (h : p↔q) : decide p = decide q:=by simp only [h]
theorem Af7 (a b : UInt8) : Bj E .eql t (u8 a) (u8 b) = some (.bool (a == b)):=J1 (Aof a b)
theorem Aeg (a b : UInt64) : Bj E .eql t (u64 a) (u64 b) = some (.bool (a == b)):=J1 (Ahs a b)
theorem Ac8 (a b : UInt64) : Bj E .neq t (u64 a) (u64 b) = some (.bool (a != b)):=J1 (congrArg not (Ahs a b))
theorem AdH (a b : UInt64) : Bj E .lss t (u64 a) (u64 b) = some (.bool (decide (a < b))):=J1 (Aev (by rw [UInt64.lt_iff_toNat_lt];omega))
theorem AcM (a b : UInt64) : Bj E .leq t (u64 a) (u64 b) = some (.bool (decide (a≤b))):=J1 (Aev (by rw [UInt64.le_iff_toNat_le];omega))
theorem AcE (a b : UInt64) : Bj E .gtr t (u64 a) (u64 b) = some (.bool (decide (a > b))):=J1 (Aev (by rw [gt_iff_lt,gt_iff_lt,UInt64.lt_iff_toNat_lt];omega))
theorem AdC (a b : UInt64) : Bj E .geq t (u64 a) (u64 b) = some (.bool (decide (a ≥ b))):=J1 (Aev (by rw [ge_iff_le,ge_iff_le,UInt64.le_iff_toNat_le];omega))
theorem Adh (a b : UInt64) : Bj E .quo t (u64 a) (u64 b) = if b = 0 then none else some (u64 (a / b)):=by
 have h : ((b.toNat : Int) = 0) = (b = 0):=by rw [← UInt64.toNat_inj];simp
 show (if (b.toNat : Int) = 0 then none else some (AV.int .u64 _)) = _
 simp only [h]
 split
 ·rfl
 ·refine Ng ?_
  rw [Nz,UInt64.toNat_div]
  have:=a.toNat_lt
  have : a.toNat / b.toNat≤a.toNat:=Nat.div_le_self _ _
  rw [show (a.toNat : Int).tdiv (b.toNat : Int) = ((a.toNat / b.toNat : Nat) : Int) from rfl]
  generalize a.toNat / b.toNat = q at *
  omega
theorem Adm (a b : UInt64) : Bj E .rem t (u64 a) (u64 b) = if b = 0 then none else some (u64 (a % b)):=by
 have h : ((b.toNat : Int) = 0) = (b = 0):=by rw [← UInt64.toNat_inj];simp
 show (if (b.toNat : Int) = 0 then none else some (AV.int .u64 _)) = _
 simp only [h]
 split
 ·rfl
 ·exact Ng (by rw [UInt64.toNat_mod];rfl)
theorem Ah8 {w n : Nat} (a : Nat) (ha : a < 2 ^ w) : a / 2 ^ (min n w) = a >>> n:=by
 rw [Nat.shiftRight_eq_div_pow]
 rcases Nat.le_total n w with h | h
 ·rw [Nat.min_eq_left h]
 ·rw [Nat.min_eq_right h,Nat.div_eq_of_lt ha,Nat.div_eq_of_lt (Nat.lt_of_lt_of_le ha (Nat.pow_le_pow_right (by omega) h))]
theorem AdV {w n : Nat} (a : Nat) : (a * 2 ^ (min n w)) % 2 ^ w = (a <<< n) % 2 ^ w:=by
 rw [Nat.shiftLeft_eq]
 rcases Nat.le_total n w with h | h
 ·rw [Nat.min_eq_left h]
 ·rw [Nat.min_eq_right h,Nat.mul_mod_left]
  obtain ⟨d,rfl⟩ : ∃ d,n = w + d:=⟨n - w,by omega⟩
  rw [Nat.pow_add,Nat.mul_comm (2 ^ w),← Nat.mul_assoc,Nat.mul_mod_left]
theorem Aek (a m : Nat) : (a : Int).fdiv (2 ^ m) = ((a / 2 ^ m : Nat) : Int):=by
 rw [Int.fdiv_eq_ediv_of_nonneg _ (by exact_mod_cast Nat.zero_le _)]
 norm_cast
theorem AaG (a n : Nat) : (a : Int) * 2 ^ n = ((a * 2 ^ n : Nat) : Int):=by rw [Int.natCast_mul,Int.natCast_pow];rfl
theorem AgJ (a n : Nat) : IntKind.u8.wrap ((a : Int) * 2 ^ n) = ((a * 2 ^ n % 2 ^ 8 : Nat) : Int):=by
 rw [Afj,AaG,show (2 : Nat) ^ 8 = 256 from rfl]
 generalize a * 2 ^ n = m
 omega
theorem AgC (a n : Nat) : IntKind.u32.wrap ((a : Int) * 2 ^ n) = ((a * 2 ^ n % 2 ^ 32 : Nat) : Int):=by
 rw [AaV,AaG,show (2 : Nat) ^ 32 = 4294967296 from rfl]
 generalize a * 2 ^ n = m
 omega
theorem Agk (a n : Nat) : IntKind.u64.wrap ((a : Int) * 2 ^ n) = ((a * 2 ^ n % 2 ^ 64 : Nat) : Int):=by
 rw [Nz,AaG,show (2 : Nat) ^ 64 = 18446744073709551616 from rfl]
 generalize a * 2 ^ n = m
 omega
theorem shl_u8 (a : UInt8) (y : Nat) : J6 .shl .u8 (a.toNat : Int) (y : Int) = some (u8 (shl8 a y)):=by
 unfold J6
 rw [if_neg (by omega)]
 refine Ng ?_
 rw [AgJ]
 show ((a.toNat * 2 ^ (min y 8) % 2 ^ 8 : Nat) : Int) = _
 rw [AdV];rfl
theorem AmM (a : UInt32) (y : Nat) : J6 .shl .u32 (a.toNat : Int) (y : Int) = some (u32 (Agw a y)):=by
 unfold J6
 rw [if_neg (by omega)]
 refine Ng ?_
 rw [AgC]
 show ((a.toNat * 2 ^ (min y 32) % 2 ^ 32 : Nat) : Int) = _
 rw [AdV];rfl
theorem AhW (a : UInt32) (y : Nat) : J6 .shr .u32 (a.toNat : Int) (y : Int) = some (u32 (Acn a y)):=by
 unfold J6
 rw [if_neg (by omega)]
 refine Ng ?_
 rw [Aek]
 show ((a.toNat / 2 ^ (min y 32) : Nat) : Int) = _
 rw [Ah8 _ a.toNat_lt];rfl
theorem AnH (a : UInt64) (y : Nat) : J6 .shl .u64 (a.toNat : Int) (y : Int) = some (u64 (S9 a y)):=by
 unfold J6
 rw [if_neg (by omega)]
 refine Ng ?_
 rw [Agk]
 show ((a.toNat * 2 ^ (min y 64) % 2 ^ 64 : Nat) : Int) = _
 rw [AdV];rfl
theorem Aid (a : UInt64) (y : Nat) : J6 .shr .u64 (a.toNat : Int) (y : Int) = some (u64 (F8 a y)):=by
 unfold J6
 rw [if_neg (by omega)]
 refine Ng ?_
 rw [Aek]
 show ((a.toNat / 2 ^ (min y 64) : Nat) : Int) = _
 rw [Ah8 _ a.toNat_lt];rfl
def Hs (x : Int) : Prop:=0≤x
instance (x : Int) : Decidable (Hs x):=inferInstanceAs (Decidable (_≤_))
theorem AbN {op : BinOp} {k : IntKind} {a x : Int} (h : Hs x) : J6 op k a x = J6 op k a ((x.toNat : Nat) : Int):=by
 have : (x.toNat : Int) = x:=Int.toNat_of_nonneg h
 rw [this]
theorem Vu (a : UInt32) (y : UInt64) : Bj E .shl t (u32 a) (u64 y) = some (u32 (Agw a y.toNat)):=AmM a _
theorem Vi (a : UInt32) (y : UInt64) : Bj E .shr t (u32 a) (u64 y) = some (u32 (Acn a y.toNat)):=AhW a _
theorem W7 (a : UInt64) (y : UInt64) : Bj E .shl t (u64 a) (u64 y) = some (u64 (S9 a y.toNat)):=AnH a _
theorem W4 (a : UInt64) (y : UInt64) : Bj E .shr t (u64 a) (u64 y) = some (u64 (F8 a y.toNat)):=Aid a _
theorem Vs (a : UInt32) (y : Int) : Bj E .shr t (u32 a) (i64 y) = if Hs y then some (u32 (Acn a y.toNat)) else none:=by
 split
 ·rename_i h;exact (AbN h).trans (AhW a _)
 ·rename_i h;exact if_pos (Int.lt_of_not_ge h)
theorem Uw (a : UInt64) (y : Int) : Bj E .shr t (u64 a) (i64 y) = if Hs y then some (u64 (F8 a y.toNat)) else none:=by
 split
 ·rename_i h;exact (AbN h).trans (Aid a _)
 ·rename_i h;exact if_pos (Int.lt_of_not_ge h)
def O2 (E : Env) (t : TypeId) (k : IntKind) : Bool:=match E.tab t with
 | some ⟨.int k',_,_,_⟩ => decide (k' = k)
 | _ => false
theorem Mn {E : Env} {σ : Am} {s d : TypeId} {k0 k : IntKind} {x : Int} (hs : (E.tab s).isSome = true) (hd : O2 E d k = true) : Cs E σ s d (.int k0 x) = some (.int k (k.wrap x),σ):=by
  unfold O2 at hd
  split at hd
  case h_2 => cases hd
  rename_i k' a b c hk
  have : k' = k:=by simpa using hd
  subst this
  unfold Cs
  rw [hk]
  cases hh : E.tab s with
  | none => rw [hh] at hs;cases hs
  | some sd => rfl
theorem Adf {σ : Am} {s d : TypeId} (x : Int) (hs : (E.tab s).isSome = true) (hd : O2 E d .u8 = true) : Cs E σ s d (i64 x) = some (u8 (UInt8.ofInt x),σ):=by
 refine (Mn hs hd).trans ?_
 rw [Afj]
 have : ((UInt8.ofInt x).toNat : Int) = x % 256:=by rw [UInt8.ofInt,UInt8.toNat_ofNat'];omega
 unfold u8;rw [this]
theorem Aby {σ : Am} {s d : TypeId} (x : Int) (hs : (E.tab s).isSome = true) (hd : O2 E d .u64 = true) : Cs E σ s d (i64 x) = some (u64 (UInt64.ofInt x),σ):=by
 refine (Mn hs hd).trans ?_
 rw [Nz]
 have : ((UInt64.ofInt x).toNat : Int) = x % 18446744073709551616:=by rw [UInt64.ofInt,UInt64.toNat_ofNat'];omega
 unfold u64;rw [this]
theorem AcZ {σ : Am} {s d : TypeId} (x : UInt8) (hs : (E.tab s).isSome = true) (hd : O2 E d .i64 = true) : Cs E σ s d (u8 x) = some (i64 (x.toNat : Int),σ):=by
 refine (Mn hs hd).trans ?_
 have:=x.toNat_lt
 have h : IntKind.i64.wrap (x.toNat : Int) = (x.toNat : Int):=by rw [IntKind.wrap_i64];omega
 unfold i64;rw [h]
theorem AcJ {σ : Am} {s d : TypeId} (x : UInt8) (hs : (E.tab s).isSome = true) (hd : O2 E d .u32 = true) : Cs E σ s d (u8 x) = some (u32 x.toUInt32,σ):=by
 refine (Mn hs hd).trans ?_
 have:=x.toNat_lt
 unfold u32;rw [AaV,UInt8.toNat_toUInt32];congr 3;omega
theorem AcH {σ : Am} {s d : TypeId} (x : UInt8) (hs : (E.tab s).isSome = true) (hd : O2 E d .u64 = true) : Cs E σ s d (u8 x) = some (u64 x.toUInt64,σ):=by
 refine (Mn hs hd).trans ?_
 have:=x.toNat_lt
 unfold u64;rw [Nz,UInt8.toNat_toUInt64];congr 3;omega
theorem Ady {σ : Am} {s d : TypeId} (x : UInt32) (hs : (E.tab s).isSome = true) (hd : O2 E d .u8 = true) : Cs E σ s d (u32 x) = some (u8 x.toUInt8,σ):=by
 refine (Mn hs hd).trans ?_
 unfold u8;rw [Afj,UInt32.toNat_toUInt8];congr 3
theorem Adt {σ : Am} {s d : TypeId} (x : UInt64) (hs : (E.tab s).isSome = true) (hd : O2 E d .u8 = true) : Cs E σ s d (u64 x) = some (u8 x.toUInt8,σ):=by
 refine (Mn hs hd).trans ?_
 unfold u8;rw [Afj,UInt64.toNat_toUInt8];congr 3
end
end Go.Rv
