/-
  Part 19.
-/
import Derived.Test.YtioapcamanmoiaaDoorYX318
import Derived.Attr
namespace Go.Rv
set_option linter.unusedVariables false
set_option linter.unusedSimpArgs false
variable {E : Env}
def i64 (x : Int) : AV:=.int .i64 x
def u8 (x : UInt8) : AV:=.int .u8 (x.toNat : Int)
def u16 (x : UInt16) : AV:=.int .u16 (x.toNat : Int)
def u32 (x : UInt32) : AV:=.int .u32 (x.toNat : Int)
def u64 (x : UInt64) : AV:=.int .u64 (x.toNat : Int)
def w64 (x : Int) : Int:=IntKind.i64.wrap x
theorem Cy {x : Int} (h : -9223372036854775808≤x∧x≤9223372036854775807) : w64 x = x:=by
 unfold w64;rw [IntKind.wrap_i64];omega
def shl8 (x : UInt8) (n : Nat) : UInt8:=⟨x.toBitVec <<< n⟩
def Agt (x : UInt32) (n : Nat) : UInt32:=⟨x.toBitVec <<< n⟩
def Acp (x : UInt32) (n : Nat) : UInt32:=⟨x.toBitVec >>> n⟩
def Tj (x : UInt64) (n : Nat) : UInt64:=⟨x.toBitVec <<< n⟩
def Gb (x : UInt64) (n : Nat) : UInt64:=⟨x.toBitVec >>> n⟩
def At0 (a b : Int) : Int:=IntKind.i64.wrap ((BitVec.ofInt 64 a &&& BitVec.ofInt 64 b).toNat : Int)
def or64 (a b : Int) : Int:=IntKind.i64.wrap ((BitVec.ofInt 64 a ||| BitVec.ofInt 64 b).toNat : Int)
def Aqh (a b : Int) : Int:=IntKind.i64.wrap ((BitVec.ofInt 64 a ^^^ BitVec.ofInt 64 b).toNat : Int)
def InR (x : Int) (n : Nat) : Prop:=0≤x∧x.toNat < n
def InB (x : Int) (n : Nat) : Prop:=0≤x∧x.toNat≤n
def Fb (n bytes : Nat) : Prop:=n≤maxLen∧n * bytes≤Ko
instance (x : Int) (n : Nat) : Decidable (InR x n):=inferInstanceAs (Decidable (_∧_))
instance (x : Int) (n : Nat) : Decidable (InB x n):=inferInstanceAs (Decidable (_∧_))
instance (n b : Nat) : Decidable (Fb n b):=inferInstanceAs (Decidable (_∧_))
theorem Amv (x : Int) (n : Nat) : idx (i64 x) n = if InR x n then some x.toNat else none:=rfl
theorem Aqb (x : UInt8) (n : Nat) : idx (u8 x) n = if InR (x.toNat : Int) n then some x.toNat else none:=rfl
theorem Am8 (x : UInt32) (n : Nat) : idx (u32 x) n = if InR (x.toNat : Int) n then some x.toNat else none:=rfl
theorem AnF (x : UInt64) (n : Nat) : idx (u64 x) n = if InR (x.toNat : Int) n then some x.toNat else none:=rfl
theorem Ajo (x : Int) (n : Nat) : Aor (i64 x) n = if InB x n then some x.toNat else none:=rfl
theorem Aoc (a b : Nat) : ((a : Int) == (b : Int)) = (a == b):=by
 rw [Bool.eq_iff_iff];simp only [beq_iff_eq];omega
section
variable {t : TypeId}
theorem AdM (a b : Int) : Bj E .add t (i64 a) (i64 b) = some (i64 (w64 (a + b))):=rfl
theorem Aek (a b : Int) : Bj E .sub t (i64 a) (i64 b) = some (i64 (w64 (a - b))):=rfl
theorem AdW (a b : Int) : Bj E .mul t (i64 a) (i64 b) = some (i64 (w64 (a * b))):=rfl
theorem Ad9 (a b : Int) : Bj E .quo t (i64 a) (i64 b) = if b = 0 then none else some (i64 (w64 (a.tdiv b))):=rfl
theorem Aeu (a b : Int) : Bj E .rem t (i64 a) (i64 b) = if b = 0 then none else some (i64 (a.tmod b)):=rfl
theorem Aeg (a b : Int) : Bj E .and t (i64 a) (i64 b) = some (i64 (At0 a b)):=rfl
theorem Agg (a b : Int) : Bj E .or t (i64 a) (i64 b) = some (i64 (or64 a b)):=rfl
theorem AdR (a b : Int) : Bj E .xor t (i64 a) (i64 b) = some (i64 (Aqh a b)):=rfl
theorem AcV (a b : Int) : Bj E .eql t (i64 a) (i64 b) = some (.bool (a == b)):=rfl
theorem Aeh (a b : Int) : Bj E .neq t (i64 a) (i64 b) = some (.bool (a != b)):=rfl
theorem Acq (a b : Int) : Bj E .lss t (i64 a) (i64 b) = some (.bool (decide (a < b))):=rfl
theorem AcP (a b : Int) : Bj E .leq t (i64 a) (i64 b) = some (.bool (decide (a≤b))):=rfl
theorem Adm (a b : Int) : Bj E .gtr t (i64 a) (i64 b) = some (.bool (decide (a > b))):=rfl
theorem Ad3 (a b : Int) : Bj E .geq t (i64 a) (i64 b) = some (.bool (decide (a ≥ b))):=rfl
theorem Agp (a : Int) : Wc .neg (i64 a) = some (i64 (w64 (0 - a))):=rfl
theorem AgP (a : Int) : Wc .xor (i64 a) = some (i64 (Aqh (-1) a)):=rfl
theorem AeU (n : Int) : IntKind.u8.wrap n = n % 256:=by rw [IntKind.wrap_u8]
theorem Aas (n : Int) : IntKind.u32.wrap n = n % 4294967296:=by rw [IntKind.wrap_u32]
theorem N3 (n : Int) : IntKind.u64.wrap n = n % 18446744073709551616:=by rw [IntKind.wrap_u64]
theorem Nq {k : IntKind} {a b : Int} (h : a = b) : some (AV.int k a) = some (AV.int k b):=by rw [h]
theorem AcG (a b : UInt32) : Bj E .add t (u32 a) (u32 b) = some (u32 (a + b)):=Nq (by rw [Aas,UInt32.toNat_add];omega)
theorem Adk (a b : UInt64) : Bj E .add t (u64 a) (u64 b) = some (u64 (a + b)):=Nq (by rw [N3,UInt64.toNat_add];omega)
theorem AcQ (a b : UInt64) : Bj E .sub t (u64 a) (u64 b) = some (u64 (a - b)):=Nq (by rw [N3,UInt64.toNat_sub];have:=a.toNat_lt;have:=b.toNat_lt;omega)
theorem AdD (a b : UInt64) : Bj E .mul t (u64 a) (u64 b) = some (u64 (a * b)):=Nq (by rw [N3,UInt64.toNat_mul];simp)
theorem Afd {w : Nat} (n : Nat) : BitVec.ofInt w (n : Int) = BitVec.ofNat w n:=by
 apply BitVec.eq_of_toNat_eq
 rw [BitVec.toNat_ofInt,BitVec.toNat_ofNat]
 omega
theorem AfD (f : BitVec 32→BitVec 32→BitVec 32) (a b : UInt32) : Xn .u32 f (a.toNat : Int) (b.toNat : Int) = u32 ⟨f a.toBitVec b.toBitVec⟩:=by
 unfold Xn u32
 congr 1
 show IntKind.u32.wrap ((f (BitVec.ofInt 32 (a.toNat : Int)) (BitVec.ofInt 32 (b.toNat : Int))).toNat : Int) = _
 rw [Afd,Afd,Aas]
 have ha : BitVec.ofNat 32 a.toNat = a.toBitVec:=by apply BitVec.eq_of_toNat_eq;rw [BitVec.toNat_ofNat,UInt32.toNat_toBitVec];exact Nat.mod_eq_of_lt a.toNat_lt
 have hb : BitVec.ofNat 32 b.toNat = b.toBitVec:=by apply BitVec.eq_of_toNat_eq;rw [BitVec.toNat_ofNat,UInt32.toNat_toBitVec];exact Nat.mod_eq_of_lt b.toNat_lt
 rw [ha,hb]
 have:=(f a.toBitVec b.toBitVec).isLt
 show ((f a.toBitVec b.toBitVec).toNat : Int) % 4294967296 = ((f a.toBitVec b.toBitVec).toNat : Int)
 omega
theorem Aiw (f : BitVec 64→BitVec 64→BitVec 64) (a b : UInt64) : Xn .u64 f (a.toNat : Int) (b.toNat : Int) = u64 ⟨f a.toBitVec b.toBitVec⟩:=by
 unfold Xn u64
 congr 1
 show IntKind.u64.wrap ((f (BitVec.ofInt 64 (a.toNat : Int)) (BitVec.ofInt 64 (b.toNat : Int))).toNat : Int) = _
 rw [Afd,Afd,N3]
 have ha : BitVec.ofNat 64 a.toNat = a.toBitVec:=by apply BitVec.eq_of_toNat_eq;rw [BitVec.toNat_ofNat,UInt64.toNat_toBitVec];exact Nat.mod_eq_of_lt a.toNat_lt
 have hb : BitVec.ofNat 64 b.toNat = b.toBitVec:=by apply BitVec.eq_of_toNat_eq;rw [BitVec.toNat_ofNat,UInt64.toNat_toBitVec];exact Nat.mod_eq_of_lt b.toNat_lt
 rw [ha,hb]
 have:=(f a.toBitVec b.toBitVec).isLt
 show ((f a.toBitVec b.toBitVec).toNat : Int) % 18446744073709551616 = ((f a.toBitVec b.toBitVec).toNat : Int)
 omega
theorem Acy (a b : UInt32) : Bj E .and t (u32 a) (u32 b) = some (u32 (a &&& b)):=congrArg some (AfD _ a b)
theorem AfT (a b : UInt32) : Bj E .or t (u32 a) (u32 b) = some (u32 (a ||| b)):=congrArg some (AfD _ a b)
theorem Aee (a b : UInt32) : Bj E .xor t (u32 a) (u32 b) = some (u32 (a ^^^ b)):=congrArg some (AfD _ a b)
theorem Aeb (a b : UInt64) : Bj E .and t (u64 a) (u64 b) = some (u64 (a &&& b)):=congrArg some (Aiw _ a b)
theorem Agv (a b : UInt64) : Bj E .or t (u64 a) (u64 b) = some (u64 (a ||| b)):=congrArg some (Aiw _ a b)
theorem AgB (a : UInt32) : Wc .xor (u32 a) = some (u32 (~~~a)):=by
 have h : Wc .xor (u32 a) = some (Xn .u32 (· ^^^ ·) ((4294967295 : UInt32).toNat : Int) (a.toNat : Int)):=rfl
 refine h.trans (congrArg some ((AfD (· ^^^ ·) 4294967295 a).trans (congrArg u32 ?_)))
 apply UInt32.toBitVec_inj.1
 show (4294967295 : UInt32).toBitVec ^^^ a.toBitVec = ~~~ a.toBitVec
 rw [BitVec.not_def];rfl
theorem AfP (a : UInt64) : Wc .xor (u64 a) = some (u64 (~~~a)):=by
 have h : Wc .xor (u64 a) = some (Xn .u64 (· ^^^ ·) ((18446744073709551615 : UInt64).toNat : Int) (a.toNat : Int)):=rfl
 refine h.trans (congrArg some ((Aiw (· ^^^ ·) 18446744073709551615 a).trans (congrArg u64 ?_)))
 apply UInt64.toBitVec_inj.1
 show (18446744073709551615 : UInt64).toBitVec ^^^ a.toBitVec = ~~~ a.toBitVec
 rw [BitVec.not_def];rfl
theorem ApM (a b : UInt8) : ((a.toNat : Int) == (b.toNat : Int)) = (a == b):=by rw [Bool.eq_iff_iff];simp only [beq_iff_eq];rw [← UInt8.toNat_inj];omega
theorem AiF (a b : UInt64) : ((a.toNat : Int) == (b.toNat : Int)) = (a == b):=by rw [Bool.eq_iff_iff];simp only [beq_iff_eq];rw [← UInt64.toNat_inj];omega
theorem Kq {a b : Bool} (h : a = b) : some (AV.bool a) = some (AV.bool b):=by rw [h]
theorem AeY {p q : Prop} [Decidable p] [Decidable q] (h : p↔q) : decide p = decide q:=by simp only [h]
theorem AfJ (a b : UInt8) : Bj E .eql t (u8 a) (u8 b) = some (.bool (a == b)):=Kq (ApM a b)
theorem Ad5 (a b : UInt64) : Bj E .eql t (u64 a) (u64 b) = some (.bool (a == b)):=Kq (AiF a b)
theorem AdH (a b : UInt64) : Bj E .neq t (u64 a) (u64 b) = some (.bool (a != b)):=Kq (congrArg not (AiF a b))
theorem Ac0 (a b : UInt64) : Bj E .lss t (u64 a) (u64 b) = some (.bool (decide (a < b))):=Kq (AeY (by rw [UInt64.lt_iff_toNat_lt];omega))
theorem Ac3 (a b : UInt64) : Bj E .leq t (u64 a) (u64 b) = some (.bool (decide (a≤b))):=Kq (AeY (by rw [UInt64.le_iff_toNat_le];omega))
theorem AdZ (a b : UInt64) : Bj E .gtr t (u64 a) (u64 b) = some (.bool (decide (a > b))):=Kq (AeY (by rw [gt_iff_lt,gt_iff_lt,UInt64.lt_iff_toNat_lt];omega))
theorem AcL (a b : UInt64) : Bj E .geq t (u64 a) (u64 b) = some (.bool (decide (a ≥ b))):=Kq (AeY (by rw [ge_iff_le,ge_iff_le,UInt64.le_iff_toNat_le];omega))
theorem Aea (a b : UInt64) : Bj E .quo t (u64 a) (u64 b) = if b = 0 then none else some (u64 (a / b)):=by
 have h : ((b.toNat : Int) = 0) = (b = 0):=by rw [← UInt64.toNat_inj];simp
 show (if (b.toNat : Int) = 0 then none else some (AV.int .u64 _)) = _
 simp only [h]
 split
 ·rfl
 ·refine Nq ?_
  rw [N3,UInt64.toNat_div]
  have:=a.toNat_lt
  have : a.toNat / b.toNat≤a.toNat:=Nat.div_le_self _ _
  rw [show (a.toNat : Int).tdiv (b.toNat : Int) = ((a.toNat / b.toNat : Nat) : Int) from rfl]
  generalize a.toNat / b.toNat = q at *
  omega
theorem AcN (a b : UInt64) : Bj E .rem t (u64 a) (u64 b) = if b = 0 then none else some (u64 (a % b)):=by
 have h : ((b.toNat : Int) = 0) = (b = 0):=by rw [← UInt64.toNat_inj];simp
 show (if (b.toNat : Int) = 0 then none else some (AV.int .u64 _)) = _
 simp only [h]
 split
 ·rfl
 ·exact Nq (by rw [UInt64.toNat_mod];rfl)
theorem Aha {w n : Nat} (a : Nat) (ha : a < 2 ^ w) : a / 2 ^ (min n w) = a >>> n:=by
 rw [Nat.shiftRight_eq_div_pow]
 rcases Nat.le_total n w with h | h
 ·rw [Nat.min_eq_left h]
 ·rw [Nat.min_eq_right h,Nat.div_eq_of_lt ha,Nat.div_eq_of_lt (Nat.lt_of_lt_of_le ha (Nat.pow_le_pow_right (by omega) h))]
theorem Ac5 {w n : Nat} (a : Nat) : (a * 2 ^ (min n w)) % 2 ^ w = (a <<< n) % 2 ^ w:=by
 rw [Nat.shiftLeft_eq]
 rcases Nat.le_total n w with h | h
 ·rw [Nat.min_eq_left h]
 ·rw [Nat.min_eq_right h,Nat.mul_mod_left]
  obtain ⟨d,rfl⟩ : ∃ d,n = w + d:=⟨n - w,by omega⟩
  rw [Nat.pow_add,Nat.mul_comm (2 ^ w),← Nat.mul_assoc,Nat.mul_mod_left]
theorem Ae7 (a m : Nat) : (a : Int).fdiv (2 ^ m) = ((a / 2 ^ m : Nat) : Int):=by
 rw [Int.fdiv_eq_ediv_of_nonneg _ (by exact_mod_cast Nat.zero_le _)]
 norm_cast
theorem AaY (a n : Nat) : (a : Int) * 2 ^ n = ((a * 2 ^ n : Nat) : Int):=by rw [Int.natCast_mul,Int.natCast_pow];rfl
theorem Aip (a n : Nat) : IntKind.u8.wrap ((a : Int) * 2 ^ n) = ((a * 2 ^ n % 2 ^ 8 : Nat) : Int):=by
 rw [AeU,AaY,show (2 : Nat) ^ 8 = 256 from rfl]
 generalize a * 2 ^ n = m
 omega
theorem AgS (a n : Nat) : IntKind.u32.wrap ((a : Int) * 2 ^ n) = ((a * 2 ^ n % 2 ^ 32 : Nat) : Int):=by
 rw [Aas,AaY,show (2 : Nat) ^ 32 = 4294967296 from rfl]
 generalize a * 2 ^ n = m
 omega
theorem Agq (a n : Nat) : IntKind.u64.wrap ((a : Int) * 2 ^ n) = ((a * 2 ^ n % 2 ^ 64 : Nat) : Int):=by
 rw [N3,AaY,show (2 : Nat) ^ 64 = 18446744073709551616 from rfl]
 generalize a * 2 ^ n = m
 omega
theorem shl_u8 (a : UInt8) (y : Nat) : J8 .shl .u8 (a.toNat : Int) (y : Int) = some (u8 (shl8 a y)):=by
 unfold J8
 rw [if_neg (by omega)]
 refine Nq ?_
 rw [Aip]
 show ((a.toNat * 2 ^ (min y 8) % 2 ^ 8 : Nat) : Int) = _
 rw [Ac5];rfl
theorem AlR (a : UInt32) (y : Nat) : J8 .shl .u32 (a.toNat : Int) (y : Int) = some (u32 (Agt a y)):=by
 unfold J8
 rw [if_neg (by omega)]
 refine Nq ?_
 rw [AgS]
 show ((a.toNat * 2 ^ (min y 32) % 2 ^ 32 : Nat) : Int) = _
 rw [Ac5];rfl
theorem Aim (a : UInt32) (y : Nat) : J8 .shr .u32 (a.toNat : Int) (y : Int) = some (u32 (Acp a y)):=by
 unfold J8
 rw [if_neg (by omega)]
 refine Nq ?_
 rw [Ae7]
 show ((a.toNat / 2 ^ (min y 32) : Nat) : Int) = _
 rw [Aha _ a.toNat_lt];rfl
theorem Al7 (a : UInt64) (y : Nat) : J8 .shl .u64 (a.toNat : Int) (y : Int) = some (u64 (Tj a y)):=by
 unfold J8
 rw [if_neg (by omega)]
 refine Nq ?_
 rw [Agq]
 show ((a.toNat * 2 ^ (min y 64) % 2 ^ 64 : Nat) : Int) = _
 rw [Ac5];rfl
theorem Ahz (a : UInt64) (y : Nat) : J8 .shr .u64 (a.toNat : Int) (y : Int) = some (u64 (Gb a y)):=by
 unfold J8
 rw [if_neg (by omega)]
 refine Nq ?_
 rw [Ae7]
 show ((a.toNat / 2 ^ (min y 64) : Nat) : Int) = _
 rw [Aha _ a.toNat_lt];rfl
def H5 (x : Int) : Prop:=0≤x
instance (x : Int) : Decidable (H5 x):=inferInstanceAs (Decidable (_≤_))
theorem AbW {op : BinOp} {k : IntKind} {a x : Int} (h : H5 x) : J8 op k a x = J8 op k a ((x.toNat : Nat) : Int):=by
 have : (x.toNat : Int) = x:=Int.toNat_of_nonneg h
 rw [this]
theorem Wt (a : UInt32) (y : UInt64) : Bj E .shl t (u32 a) (u64 y) = some (u32 (Agt a y.toNat)):=AlR a _
theorem U7 (a : UInt32) (y : UInt64) : Bj E .shr t (u32 a) (u64 y) = some (u32 (Acp a y.toNat)):=Aim a _
theorem Xe (a : UInt64) (y : UInt64) : Bj E .shl t (u64 a) (u64 y) = some (u64 (Tj a y.toNat)):=Al7 a _
theorem Vo (a : UInt64) (y : UInt64) : Bj E .shr t (u64 a) (u64 y) = some (u64 (Gb a y.toNat)):=Ahz a _
theorem W3 (a : UInt32) (y : Int) : Bj E .shr t (u32 a) (i64 y) = if H5 y then some (u32 (Acp a y.toNat)) else none:=by
 split
 ·rename_i h;exact (AbW h).trans (Aim a _)
 ·rename_i h;exact if_pos (Int.lt_of_not_ge h)
theorem Vp (a : UInt64) (y : Int) : Bj E .shr t (u64 a) (i64 y) = if H5 y then some (u64 (Gb a y.toNat)) else none:=by
 split
 ·rename_i h;exact (AbW h).trans (Ahz a _)
 ·rename_i h;exact if_pos (Int.lt_of_not_ge h)
def Pl (E : Env) (t : TypeId) (k : IntKind) : Bool:=match E.tab t with
 | some ⟨.int k',_,_,_⟩ => decide (k' = k)
 | _ => false
theorem M3 {E : Env} {σ : Am} {s d : TypeId} {k0 k : IntKind} {x : Int} (hs : (E.tab s).isSome = true) (hd : Pl E d k = true) : Cx E σ s d (.int k0 x) = some (.int k (k.wrap x),σ):=by
  unfold Pl at hd
  split at hd
  case h_2 => cases hd
  rename_i k' a b c hk
  have : k' = k:=by simpa using hd
  subst this
  unfold Cx
  rw [hk]
  cases hh : E.tab s with
  | none => rw [hh] at hs;cases hs
  | some sd => rfl
theorem Ado {σ : Am} {s d : TypeId} (x : Int) (hs : (E.tab s).isSome = true) (hd : Pl E d .u8 = true) : Cx E σ s d (i64 x) = some (u8 (UInt8.ofInt x),σ):=by
 refine (M3 hs hd).trans ?_
 rw [AeU]
 have : ((UInt8.ofInt x).toNat : Int) = x % 256:=by rw [UInt8.ofInt,UInt8.toNat_ofNat'];omega
 unfold u8;rw [this]
theorem Abb {σ : Am} {s d : TypeId} (x : Int) (hs : (E.tab s).isSome = true) (hd : Pl E d .u64 = true) : Cx E σ s d (i64 x) = some (u64 (UInt64.ofInt x),σ):=by
 refine (M3 hs hd).trans ?_
 rw [N3]
 have : ((UInt64.ofInt x).toNat : Int) = x % 18446744073709551616:=by rw [UInt64.ofInt,UInt64.toNat_ofNat'];omega
 unfold u64;rw [this]
theorem AcH {σ : Am} {s d : TypeId} (x : UInt8) (hs : (E.tab s).isSome = true) (hd : Pl E d .i64 = true) : Cx E σ s d (u8 x) = some (i64 (x.toNat : Int),σ):=by
 refine (M3 hs hd).trans ?_
 have:=x.toNat_lt
 have h : IntKind.i64.wrap (x.toNat : Int) = (x.toNat : Int):=by rw [IntKind.wrap_i64];omega
 unfold i64;rw [h]
theorem AdF {σ : Am} {s d : TypeId} (x : UInt8) (hs : (E.tab s).isSome = true) (hd : Pl E d .u32 = true) : Cx E σ s d (u8 x) = some (u32 x.toUInt32,σ):=by
 refine (M3 hs hd).trans ?_
 have:=x.toNat_lt
 unfold u32;rw [Aas,UInt8.toNat_toUInt32];congr 3;omega
theorem Ad7 {σ : Am} {s d : TypeId} (x : UInt8) (hs : (E.tab s).isSome = true) (hd : Pl E d .u64 = true) : Cx E σ s d (u8 x) = some (u64 x.toUInt64,σ):=by
 refine (M3 hs hd).trans ?_
 have:=x.toNat_lt
 unfold u64;rw [N3,UInt8.toNat_toUInt64];congr 3;omega
theorem Adx {σ : Am} {s d : TypeId} (x : UInt32) (hs : (E.tab s).isSome = true) (hd : Pl E d .u8 = true) : Cx E σ s d (u32 x) = some (u8 x.toUInt8,σ):=by
 refine (M3 hs hd).trans ?_
 unfold u8;rw [AeU,UInt32.toNat_toUInt8];congr 3
theorem AcI {σ : Am} {s d : TypeId} (x : UInt64) (hs : (E.tab s).isSome = true) (hd : Pl E d .u8 = true) : Cx E σ s d (u64 x) = some (u8 x.toUInt8,σ):=by
 refine (M3 hs hd).trans ?_
 unfold u8;rw [AeU,UInt64.toNat_toUInt8];congr 3
end
end Go.Rv
