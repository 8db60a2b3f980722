/-
  Part 19.
-/
import Derived.Test.YtnfoiocigicdnaaGreatDoorYH18
import Derived.Attr
namespace Go.Rv
set_option linter.unusedVariables false
set_option linter.unusedSimpArgs false
variable {E : Env}
def i64 (x : Int) : AV:=.int .i64 x
def u8 (x : UInt8) : AV:=.int .u8 (x.toNat : Int)
def u16 (x : UInt16) : AV:=.int .u16 (x.toNat : Int)
def u32 (x : UInt32) : AV:=.int .u32 (x.toNat : Int)
def u64 (x : UInt64) : AV:=.int .u64 (x.toNat : Int)
def w64 (x : Int) : Int:=IntKind.i64.wrap x
theorem Gl {x : Int} (h : -9223372036854775808≤x∧x≤9223372036854775807) : w64 x = x:=by
 unfold w64;rw [IntKind.wrap_i64];omega
def shl8 (x : UInt8) (n : Nat) : UInt8:=⟨x.toBitVec <<< n⟩
def AlR (x : UInt8) (n : Nat) : UInt8:=⟨x.toBitVec >>> n⟩
def Lh (x : UInt64) (n : Nat) : UInt64:=⟨x.toBitVec <<< n⟩
def Hn (x : UInt64) (n : Nat) : UInt64:=⟨x.toBitVec >>> n⟩
def ArP (a b : Int) : Int:=IntKind.i64.wrap ((BitVec.ofInt 64 a &&& BitVec.ofInt 64 b).toNat : Int)
def or64 (a b : Int) : Int:=IntKind.i64.wrap ((BitVec.ofInt 64 a ||| BitVec.ofInt 64 b).toNat : Int)
def Anw (a b : Int) : Int:=IntKind.i64.wrap ((BitVec.ofInt 64 a ^^^ BitVec.ofInt 64 b).toNat : Int)
def InR (x : Int) (n : Nat) : Prop:=0≤x∧x.toNat < n
def InB (x : Int) (n : Nat) : Prop:=0≤x∧x.toNat≤n
def Jf (n bytes : Nat) : Prop:=n≤maxLen∧n * bytes≤Ny
instance (x : Int) (n : Nat) : Decidable (InR x n):=inferInstanceAs (Decidable (_∧_))
instance (x : Int) (n : Nat) : Decidable (InB x n):=inferInstanceAs (Decidable (_∧_))
instance (n b : Nat) : Decidable (Jf n b):=inferInstanceAs (Decidable (_∧_))
theorem AiX (x : Int) (n : Nat) : idx (i64 x) n = if InR x n then some x.toNat else none:=rfl
theorem AmR (x : UInt8) (n : Nat) : idx (u8 x) n = if InR (x.toNat : Int) n then some x.toNat else none:=rfl
theorem AkB (x : UInt32) (n : Nat) : idx (u32 x) n = if InR (x.toNat : Int) n then some x.toNat else none:=rfl
theorem AiM (x : UInt64) (n : Nat) : idx (u64 x) n = if InR (x.toNat : Int) n then some x.toNat else none:=rfl
theorem AhW (x : Int) (n : Nat) : Ak1 (i64 x) n = if InB x n then some x.toNat else none:=rfl
theorem Ai1 (a b : Nat) : ((a : Int) == (b : Int)) = (a == b):=by
 rw [Bool.eq_iff_iff];simp only [beq_iff_eq];omega
section
variable {t : TypeId}
theorem Abt (a b : Int) : Bg E .add t (i64 a) (i64 b) = some (i64 (w64 (a + b))):=rfl
theorem AaN (a b : Int) : Bg E .sub t (i64 a) (i64 b) = some (i64 (w64 (a - b))):=rfl
theorem AbU (a b : Int) : Bg E .mul t (i64 a) (i64 b) = some (i64 (w64 (a * b))):=rfl
theorem Abd (a b : Int) : Bg E .quo t (i64 a) (i64 b) = if b = 0 then none else some (i64 (w64 (a.tdiv b))):=rfl
theorem AaJ (a b : Int) : Bg E .rem t (i64 a) (i64 b) = if b = 0 then none else some (i64 (a.tmod b)):=rfl
theorem Aal (a b : Int) : Bg E .and t (i64 a) (i64 b) = some (i64 (ArP a b)):=rfl
theorem Ad7 (a b : Int) : Bg E .or t (i64 a) (i64 b) = some (i64 (or64 a b)):=rfl
theorem AaX (a b : Int) : Bg E .xor t (i64 a) (i64 b) = some (i64 (Anw a b)):=rfl
theorem Abg (a b : Int) : Bg E .eql t (i64 a) (i64 b) = some (.bool (a == b)):=rfl
theorem AbE (a b : Int) : Bg E .neq t (i64 a) (i64 b) = some (.bool (a != b)):=rfl
theorem Aak (a b : Int) : Bg E .lss t (i64 a) (i64 b) = some (.bool (decide (a < b))):=rfl
theorem AaG (a b : Int) : Bg E .leq t (i64 a) (i64 b) = some (.bool (decide (a≤b))):=rfl
theorem AaF (a b : Int) : Bg E .gtr t (i64 a) (i64 b) = some (.bool (decide (a > b))):=rfl
theorem Abx (a b : Int) : Bg E .geq t (i64 a) (i64 b) = some (.bool (decide (a ≥ b))):=rfl
theorem Ac6 (a : Int) : Aap .neg (i64 a) = some (i64 (w64 (0 - a))):=rfl
theorem AdM (a : Int) : Aap .xor (i64 a) = some (i64 (Anw (-1) a)):=rfl
theorem Vi (n : Int) : IntKind.u8.wrap n = n % 256:=by rw [IntKind.wrap_u8]
theorem Ma (n : Int) : IntKind.u64.wrap n = n % 18446744073709551616:=by rw [IntKind.wrap_u64]
theorem Mm {k : IntKind} {a b : Int} (h : a = b) : some (AV.int k a) = some (AV.int k b):=by rw [h]
theorem Aea (a b : UInt8) : Bg E .add t (u8 a) (u8 b) = some (u8 (a + b)):=Mm (by rw [Vi,UInt8.toNat_add];omega)
theorem AcU (a b : UInt8) : Bg E .sub t (u8 a) (u8 b) = some (u8 (a - b)):=Mm (by rw [Vi,UInt8.toNat_sub];have:=a.toNat_lt;have:=b.toNat_lt;omega)
theorem AaK (a b : UInt64) : Bg E .add t (u64 a) (u64 b) = some (u64 (a + b)):=Mm (by rw [Ma,UInt64.toNat_add];omega)
theorem Abs (a b : UInt64) : Bg E .sub t (u64 a) (u64 b) = some (u64 (a - b)):=Mm (by rw [Ma,UInt64.toNat_sub];have:=a.toNat_lt;have:=b.toNat_lt;omega)
theorem AaS (a b : UInt64) : Bg E .mul t (u64 a) (u64 b) = some (u64 (a * b)):=Mm (by rw [Ma,UInt64.toNat_mul];simp)
theorem AcH {w : Nat} (n : Nat) : BitVec.ofInt w (n : Int) = BitVec.ofNat w n:=by
 apply BitVec.eq_of_toNat_eq
 rw [BitVec.toNat_ofInt,BitVec.toNat_ofNat]
 omega
theorem Aor (f : BitVec 8→BitVec 8→BitVec 8) (a b : UInt8) : V3 .u8 f (a.toNat : Int) (b.toNat : Int) = u8 ⟨f a.toBitVec b.toBitVec⟩:=by
 unfold V3 u8
 congr 1
 show IntKind.u8.wrap ((f (BitVec.ofInt 8 (a.toNat : Int)) (BitVec.ofInt 8 (b.toNat : Int))).toNat : Int) = _
 rw [AcH,AcH,Vi]
 have ha : BitVec.ofNat 8 a.toNat = a.toBitVec:=by apply BitVec.eq_of_toNat_eq;rw [BitVec.toNat_ofNat,UInt8.toNat_toBitVec];exact Nat.mod_eq_of_lt a.toNat_lt
 have hb : BitVec.ofNat 8 b.toNat = b.toBitVec:=by apply BitVec.eq_of_toNat_eq;rw [BitVec.toNat_ofNat,UInt8.toNat_toBitVec];exact Nat.mod_eq_of_lt b.toNat_lt
 rw [ha,hb]
 have:=(f a.toBitVec b.toBitVec).isLt
 show ((f a.toBitVec b.toBitVec).toNat : Int) % 256 = ((f a.toBitVec b.toBitVec).toNat : Int)
 omega
theorem Aia (f : BitVec 64→BitVec 64→BitVec 64) (a b : UInt64) : V3 .u64 f (a.toNat : Int) (b.toNat : Int) = u64 ⟨f a.toBitVec b.toBitVec⟩:=by
 unfold V3 u64
 congr 1
 show IntKind.u64.wrap ((f (BitVec.ofInt 64 (a.toNat : Int)) (BitVec.ofInt 64 (b.toNat : Int))).toNat : Int) = _
 rw [AcH,AcH,Ma]
 have ha : BitVec.ofNat 64 a.toNat = a.toBitVec:=by apply BitVec.eq_of_toNat_eq;rw [BitVec.toNat_ofNat,UInt64.toNat_toBitVec];exact Nat.mod_eq_of_lt a.toNat_lt
 have hb : BitVec.ofNat 64 b.toNat = b.toBitVec:=by apply BitVec.eq_of_toNat_eq;rw [BitVec.toNat_ofNat,UInt64.toNat_toBitVec];exact Nat.mod_eq_of_lt b.toNat_lt
 rw [ha,hb]
 have:=(f a.toBitVec b.toBitVec).isLt
 show ((f a.toBitVec b.toBitVec).toNat : Int) % 18446744073709551616 = ((f a.toBitVec b.toBitVec).toNat : Int)
 omega
theorem Ac1 (a b : UInt8) : Bg E .and t (u8 a) (u8 b) = some (u8 (a &&& b)):=congrArg some (Aor _ a b)
theorem Aej (a b : UInt8) : Bg E .or t (u8 a) (u8 b) = some (u8 (a ||| b)):=congrArg some (Aor _ a b)
theorem Abq (a b : UInt64) : Bg E .and t (u64 a) (u64 b) = some (u64 (a &&& b)):=congrArg some (Aia _ a b)
theorem AdX (a b : UInt64) : Bg E .or t (u64 a) (u64 b) = some (u64 (a ||| b)):=congrArg some (Aia _ a b)
theorem Ae5 (a b : UInt8) : ((a.toNat : Int) == (b.toNat : Int)) = (a == b):=by rw [Bool.eq_iff_iff];simp only [beq_iff_eq];rw [← UInt8.toNat_inj];omega
theorem AkA (a b : UInt64) : ((a.toNat : Int) == (b.toNat : Int)) = (a == b):=by rw [Bool.eq_iff_iff];simp only [beq_iff_eq];rw [← UInt64.toNat_inj];omega
theorem Fg {a b : Bool} (h : a = b) : some (AV.bool a) = some (AV.bool b):=by rw [h]
theorem Qe {p q : Prop} [Decidable p] [Decidable q] (h : p↔q) : decide p = decide q:=by simp only [h]
theorem Ad2 (a b : UInt8) : Bg E .eql t (u8 a) (u8 b) = some (.bool (a == b)):=Fg (Ae5 a b)
theorem AdW (a b : UInt8) : Bg E .lss t (u8 a) (u8 b) = some (.bool (decide (a < b))):=Fg (Qe (by rw [UInt8.lt_iff_toNat_lt];omega))
theorem Ad1 (a b : UInt8) : Bg E .leq t (u8 a) (u8 b) = some (.bool (decide (a≤b))):=Fg (Qe (by rw [UInt8.le_iff_toNat_le];omega))
theorem AdB (a b : UInt8) : Bg E .gtr t (u8 a) (u8 b) = some (.bool (decide (a > b))):=Fg (Qe (by rw [gt_iff_lt,gt_iff_lt,UInt8.lt_iff_toNat_lt];omega))
theorem Ad0 (a b : UInt8) : Bg E .geq t (u8 a) (u8 b) = some (.bool (decide (a ≥ b))):=Fg (Qe (by rw [ge_iff_le,ge_iff_le,UInt8.le_iff_toNat_le];omega))
theorem Aay (a b : UInt64) : Bg E .eql t (u64 a) (u64 b) = some (.bool (a == b)):=Fg (AkA a b)
theorem Aa6 (a b : UInt64) : Bg E .lss t (u64 a) (u64 b) = some (.bool (decide (a < b))):=Fg (Qe (by rw [UInt64.lt_iff_toNat_lt];omega))
theorem Aan (a b : UInt64) : Bg E .leq t (u64 a) (u64 b) = some (.bool (decide (a≤b))):=Fg (Qe (by rw [UInt64.le_iff_toNat_le];omega))
theorem AbD (a b : UInt64) : Bg E .gtr t (u64 a) (u64 b) = some (.bool (decide (a > b))):=Fg (Qe (by rw [gt_iff_lt,gt_iff_lt,UInt64.lt_iff_toNat_lt];omega))
theorem AbX (a b : UInt64) : Bg E .geq t (u64 a) (u64 b) = some (.bool (decide (a ≥ b))):=Fg (Qe (by rw [ge_iff_le,ge_iff_le,UInt64.le_iff_toNat_le];omega))
theorem Aav (a b : UInt64) : Bg E .quo t (u64 a) (u64 b) = if b = 0 then none else some (u64 (a / b)):=by
 have h : ((b.toNat : Int) = 0) = (b = 0):=by rw [← UInt64.toNat_inj];simp
 show (if (b.toNat : Int) = 0 then none else some (AV.int .u64 _)) = _
 simp only [h]
 split
 ·rfl
 ·refine Mm ?_
  rw [Ma,UInt64.toNat_div]
  have:=a.toNat_lt
  have : a.toNat / b.toNat≤a.toNat:=Nat.div_le_self _ _
  rw [show (a.toNat : Int).tdiv (b.toNat : Int) = ((a.toNat / b.toNat : Nat) : Int) from rfl]
  generalize a.toNat / b.toNat = q at *
  omega
theorem AbN (a b : UInt64) : Bg E .rem t (u64 a) (u64 b) = if b = 0 then none else some (u64 (a % b)):=by
 have h : ((b.toNat : Int) = 0) = (b = 0):=by rw [← UInt64.toNat_inj];simp
 show (if (b.toNat : Int) = 0 then none else some (AV.int .u64 _)) = _
 simp only [h]
 split
 ·rfl
 ·exact Mm (by rw [UInt64.toNat_mod];rfl)
theorem Ae1 {w n : Nat} (a : Nat) (ha : a < 2 ^ w) : a / 2 ^ (min n w) = a >>> n:=by
 rw [Nat.shiftRight_eq_div_pow]
 rcases Nat.le_total n w with h | h
 ·rw [Nat.min_eq_left h]
 ·rw [Nat.min_eq_right h,Nat.div_eq_of_lt ha,Nat.div_eq_of_lt (Nat.lt_of_lt_of_le ha (Nat.pow_le_pow_right (by omega) h))]
theorem Afh {w n : Nat} (a : Nat) : (a * 2 ^ (min n w)) % 2 ^ w = (a <<< n) % 2 ^ w:=by
 rw [Nat.shiftLeft_eq]
 rcases Nat.le_total n w with h | h
 ·rw [Nat.min_eq_left h]
 ·rw [Nat.min_eq_right h,Nat.mul_mod_left]
  obtain ⟨d,rfl⟩ : ∃ d,n = w + d:=⟨n - w,by omega⟩
  rw [Nat.pow_add,Nat.mul_comm (2 ^ w),← Nat.mul_assoc,Nat.mul_mod_left]
theorem Acz (a m : Nat) : (a : Int).fdiv (2 ^ m) = ((a / 2 ^ m : Nat) : Int):=by
 rw [Int.fdiv_eq_ediv_of_nonneg _ (by exact_mod_cast Nat.zero_le _)]
 norm_cast
theorem Ab2 (a n : Nat) : (a : Int) * 2 ^ n = ((a * 2 ^ n : Nat) : Int):=by rw [Int.natCast_mul,Int.natCast_pow];rfl
theorem AfM (a n : Nat) : IntKind.u8.wrap ((a : Int) * 2 ^ n) = ((a * 2 ^ n % 2 ^ 8 : Nat) : Int):=by
 rw [Vi,Ab2,show (2 : Nat) ^ 8 = 256 from rfl]
 generalize a * 2 ^ n = m
 omega
theorem Adk (a n : Nat) : IntKind.u64.wrap ((a : Int) * 2 ^ n) = ((a * 2 ^ n % 2 ^ 64 : Nat) : Int):=by
 rw [Ma,Ab2,show (2 : Nat) ^ 64 = 18446744073709551616 from rfl]
 generalize a * 2 ^ n = m
 omega
theorem shl_u8 (a : UInt8) (y : Nat) : Kf .shl .u8 (a.toNat : Int) (y : Int) = some (u8 (shl8 a y)):=by
 unfold Kf
 rw [if_neg (by omega)]
 refine Mm ?_
 rw [AfM]
 show ((a.toNat * 2 ^ (min y 8) % 2 ^ 8 : Nat) : Int) = _
 rw [Afh];rfl
theorem Aod (a : UInt8) (y : Nat) : Kf .shr .u8 (a.toNat : Int) (y : Int) = some (u8 (AlR a y)):=by
 unfold Kf
 rw [if_neg (by omega)]
 refine Mm ?_
 rw [Acz]
 show ((a.toNat / 2 ^ (min y 8) : Nat) : Int) = _
 rw [Ae1 _ a.toNat_lt];rfl
theorem Aje (a : UInt64) (y : Nat) : Kf .shl .u64 (a.toNat : Int) (y : Int) = some (u64 (Lh a y)):=by
 unfold Kf
 rw [if_neg (by omega)]
 refine Mm ?_
 rw [Adk]
 show ((a.toNat * 2 ^ (min y 64) % 2 ^ 64 : Nat) : Int) = _
 rw [Afh];rfl
theorem AfC (a : UInt64) (y : Nat) : Kf .shr .u64 (a.toNat : Int) (y : Int) = some (u64 (Hn a y)):=by
 unfold Kf
 rw [if_neg (by omega)]
 refine Mm ?_
 rw [Acz]
 show ((a.toNat / 2 ^ (min y 64) : Nat) : Int) = _
 rw [Ae1 _ a.toNat_lt];rfl
def Xz (x : Int) : Prop:=0≤x
instance (x : Int) : Decidable (Xz x):=inferInstanceAs (Decidable (_≤_))
theorem AeB {op : BinOp} {k : IntKind} {a x : Int} (h : Xz x) : Kf op k a x = Kf op k a ((x.toNat : Nat) : Int):=by
 have : (x.toNat : Int) = x:=Int.toNat_of_nonneg h
 rw [this]
theorem Um (a : UInt8) (y : UInt64) : Bg E .shr t (u8 a) (u64 y) = some (u8 (AlR a y.toNat)):=Aod a _
theorem Rh (a : UInt64) (y : UInt64) : Bg E .shl t (u64 a) (u64 y) = some (u64 (Lh a y.toNat)):=Aje a _
theorem R3 (a : UInt64) (y : UInt64) : Bg E .shr t (u64 a) (u64 y) = some (u64 (Hn a y.toNat)):=AfC a _
theorem Rb (a : UInt64) (y : Int) : Bg E .shr t (u64 a) (i64 y) = if Xz y then some (u64 (Hn a y.toNat)) else none:=by
 split
 ·rename_i h;exact (AeB h).trans (AfC a _)
 ·rename_i h;exact if_pos (Int.lt_of_not_ge h)
def F8 (E : Env) (t : TypeId) (k : IntKind) : Bool:=match E.tab t with
 | some ⟨.int k',_,_,_⟩ => decide (k' = k)
 | _ => false
theorem D5 {E : Env} {σ : Am} {s d : TypeId} {k0 k : IntKind} {x : Int} (hs : (E.tab s).isSome = true) (hd : F8 E d k = true) : Be E σ s d (.int k0 x) = some (.int k (k.wrap x),σ):=by
  unfold F8 at hd
  split at hd
  case h_2 => cases hd
  rename_i k' a b c hk
  have : k' = k:=by simpa using hd
  subst this
  unfold Be
  rw [hk]
  cases hh : E.tab s with
  | none => rw [hh] at hs;cases hs
  | some sd => rfl
theorem AbG {σ : Am} {s d : TypeId} (x : Int) (hs : (E.tab s).isSome = true) (hd : F8 E d .u8 = true) : Be E σ s d (i64 x) = some (u8 (UInt8.ofInt x),σ):=by
 refine (D5 hs hd).trans ?_
 rw [Vi]
 have : ((UInt8.ofInt x).toNat : Int) = x % 256:=by rw [UInt8.ofInt,UInt8.toNat_ofNat'];omega
 unfold u8;rw [this]
theorem Xs {σ : Am} {s d : TypeId} (x : Int) (hs : (E.tab s).isSome = true) (hd : F8 E d .u64 = true) : Be E σ s d (i64 x) = some (u64 (UInt64.ofInt x),σ):=by
 refine (D5 hs hd).trans ?_
 rw [Ma]
 have : ((UInt64.ofInt x).toNat : Int) = x % 18446744073709551616:=by rw [UInt64.ofInt,UInt64.toNat_ofNat'];omega
 unfold u64;rw [this]
theorem AaU {σ : Am} {s d : TypeId} (x : UInt8) (hs : (E.tab s).isSome = true) (hd : F8 E d .i64 = true) : Be E σ s d (u8 x) = some (i64 (x.toNat : Int),σ):=by
 refine (D5 hs hd).trans ?_
 have:=x.toNat_lt
 have h : IntKind.i64.wrap (x.toNat : Int) = (x.toNat : Int):=by rw [IntKind.wrap_i64];omega
 unfold i64;rw [h]
theorem AaO {σ : Am} {s d : TypeId} (x : UInt8) (hs : (E.tab s).isSome = true) (hd : F8 E d .u64 = true) : Be E σ s d (u8 x) = some (u64 x.toUInt64,σ):=by
 refine (D5 hs hd).trans ?_
 have:=x.toNat_lt
 unfold u64;rw [Ma,UInt8.toNat_toUInt64];congr 3;omega
theorem Aa0 {σ : Am} {s d : TypeId} (x : UInt64) (hs : (E.tab s).isSome = true) (hd : F8 E d .u8 = true) : Be E σ s d (u64 x) = some (u8 x.toUInt8,σ):=by
 refine (D5 hs hd).trans ?_
 unfold u8;rw [Vi,UInt64.toNat_toUInt8];congr 3
end
end Go.Rv
