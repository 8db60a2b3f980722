/-
  Part 19.
-/
import Derived.Test.YtnfoiocigicdnaaGreatDoorYV18
import Derived.Attr
namespace Go.Rv
set_option linter.unusedVariables false
set_option linter.unusedSimpArgs false
variable {E : Env}
def i64 (x : Int) : AV := .int .i64 x
def u8 (x : UInt8) : AV := .int .u8 (x.toNat : Int)
def u16 (x : UInt16) : AV := .int .u16 (x.toNat : Int)
def u32 (x : UInt32) : AV := .int .u32 (x.toNat : Int)
def u64 (x : UInt64) : AV := .int .u64 (x.toNat : Int)
def w64 (x : Int) : Int := IntKind.i64.wrap x
theorem L4 {x : Int} (h : -9223372036854775808 ≤ x ∧ x ≤ 9223372036854775807) : w64 x = x := by
  unfold w64; rw [IntKind.wrap_i64]; omega
def shl8 (x : UInt8) (n : Nat) : UInt8 := ⟨x.toBitVec <<< n⟩
def Ako (x : UInt8) (n : Nat) : UInt8 := ⟨x.toBitVec >>> n⟩
def Yd (x : UInt64) (n : Nat) : UInt64 := ⟨x.toBitVec <<< n⟩
def Wf (x : UInt64) (n : Nat) : UInt64 := ⟨x.toBitVec >>> n⟩
def Aog (a b : Int) : Int := IntKind.i64.wrap ((BitVec.ofInt 64 a &&& BitVec.ofInt 64 b).toNat : Int)
def or64 (a b : Int) : Int := IntKind.i64.wrap ((BitVec.ofInt 64 a ||| BitVec.ofInt 64 b).toNat : Int)
def AmD (a b : Int) : Int := IntKind.i64.wrap ((BitVec.ofInt 64 a ^^^ BitVec.ofInt 64 b).toNat : Int)
def InR (x : Int) (n : Nat) : Prop := 0 ≤ x ∧ x.toNat < n
def InB (x : Int) (n : Nat) : Prop := 0 ≤ x ∧ x.toNat ≤ n
def Fv (n bytes : Nat) : Prop := n ≤ maxLen ∧ n * bytes ≤ M9
instance (x : Int) (n : Nat) : Decidable (InR x n) := inferInstanceAs (Decidable (_ ∧ _))
instance (x : Int) (n : Nat) : Decidable (InB x n) := inferInstanceAs (Decidable (_ ∧ _))
instance (n b : Nat) : Decidable (Fv n b) := inferInstanceAs (Decidable (_ ∧ _))
theorem Aid (x : Int) (n : Nat) : idx (i64 x) n = if InR x n then some x.toNat else none := rfl
theorem AmJ (x : UInt8) (n : Nat) : idx (u8 x) n = if InR (x.toNat : Int) n then some x.toNat else none := rfl
theorem Ajp (x : UInt32) (n : Nat) : idx (u32 x) n = if InR (x.toNat : Int) n then some x.toNat else none := rfl
theorem Aii (x : UInt64) (n : Nat) : idx (u64 x) n = if InR (x.toNat : Int) n then some x.toNat else none := rfl
theorem Af7 (x : Int) (n : Nat) : Aj4 (i64 x) n = if InB x n then some x.toNat else none := rfl
theorem AjC (a b : Nat) : ((a : Int) == (b : Int)) = (a == b) := by
  rw [Bool.eq_iff_iff]; simp only [beq_iff_eq]; omega
section
variable {t : TypeId}
theorem Zj (a b : Int) : Bq E .add t (i64 a) (i64 b) = some (i64 (w64 (a + b))) := rfl
theorem AaG (a b : Int) : Bq E .sub t (i64 a) (i64 b) = some (i64 (w64 (a - b))) := rfl
theorem Aaz (a b : Int) : Bq E .mul t (i64 a) (i64 b) = some (i64 (w64 (a * b))) := rfl
theorem AaJ (a b : Int) : Bq E .quo t (i64 a) (i64 b) = if b = 0 then none else some (i64 (w64 (a.tdiv b))) := rfl
theorem Zs (a b : Int) : Bq E .rem t (i64 a) (i64 b) = if b = 0 then none else some (i64 (a.tmod b)) := rfl
theorem AaO (a b : Int) : Bq E .and t (i64 a) (i64 b) = some (i64 (Aog a b)) := rfl
theorem Acx (a b : Int) : Bq E .or t (i64 a) (i64 b) = some (i64 (or64 a b)) := rfl
theorem Aae (a b : Int) : Bq E .xor t (i64 a) (i64 b) = some (i64 (AmD a b)) := rfl
theorem Zm (a b : Int) : Bq E .eql t (i64 a) (i64 b) = some (.bool (a == b)) := rfl
theorem Aa1 (a b : Int) : Bq E .neq t (i64 a) (i64 b) = some (.bool (a != b)) := rfl
theorem Aau (a b : Int) : Bq E .lss t (i64 a) (i64 b) = some (.bool (decide (a < b))) := rfl
theorem Z8 (a b : Int) : Bq E .leq t (i64 a) (i64 b) = some (.bool (decide (a ≤ b))) := rfl
theorem Z1 (a b : Int) : Bq E .gtr t (i64 a) (i64 b) = some (.bool (decide (a > b))) := rfl
theorem AaU (a b : Int) : Bq E .geq t (i64 a) (i64 b) = some (.bool (decide (a ≥ b))) := rfl
theorem Acu (a : Int) : Wl .neg (i64 a) = some (i64 (w64 (0 - a))) := rfl
theorem Adf (a : Int) : Wl .xor (i64 a) = some (i64 (AmD (-1) a)) := rfl
theorem T2 (n : Int) : IntKind.u8.wrap n = n % 256 := by rw [IntKind.wrap_u8]
theorem Mr (n : Int) : IntKind.u64.wrap n = n % 18446744073709551616 := by rw [IntKind.wrap_u64]
theorem Ng {k : IntKind} {a b : Int} (h : a = b) : some (AV.int k a) = some (AV.int k b) := by rw [h]
theorem Acl (a b : UInt8) : Bq E .add t (u8 a) (u8 b) = some (u8 (a + b)) := Ng (by rw [T2, UInt8.toNat_add]; omega)
theorem Adb (a b : UInt8) : Bq E .sub t (u8 a) (u8 b) = some (u8 (a - b)) := Ng (by rw [T2, UInt8.toNat_sub]; have := a.toNat_lt; have := b.toNat_lt; omega)
theorem Zx (a b : UInt64) : Bq E .add t (u64 a) (u64 b) = some (u64 (a + b)) := Ng (by rw [Mr, UInt64.toNat_add]; omega)
theorem Z9 (a b : UInt64) : Bq E .sub t (u64 a) (u64 b) = some (u64 (a - b)) := Ng (by rw [Mr, UInt64.toNat_sub]; have := a.toNat_lt; have := b.toNat_lt; omega)
theorem Zf (a b : UInt64) : Bq E .mul t (u64 a) (u64 b) = some (u64 (a * b)) := Ng (by rw [Mr, UInt64.toNat_mul]; simp)
theorem Abq {w : Nat} (n : Nat) : BitVec.ofInt w (n : Int) = BitVec.ofNat w n := by
  apply BitVec.eq_of_toNat_eq
  rw [BitVec.toNat_ofInt, BitVec.toNat_ofNat]
  omega
theorem AiQ (f : BitVec 8 → BitVec 8 → BitVec 8) (a b : UInt8) : S6 .u8 f (a.toNat : Int) (b.toNat : Int) = u8 ⟨f a.toBitVec b.toBitVec⟩ := by
  unfold S6 u8
  congr 1
  show IntKind.u8.wrap ((f (BitVec.ofInt 8 (a.toNat : Int)) (BitVec.ofInt 8 (b.toNat : Int))).toNat : Int) = _
  rw [Abq, Abq, T2]
  have ha : BitVec.ofNat 8 a.toNat = a.toBitVec := by apply BitVec.eq_of_toNat_eq; rw [BitVec.toNat_ofNat, UInt8.toNat_toBitVec]; exact Nat.mod_eq_of_lt a.toNat_lt
  have hb : BitVec.ofNat 8 b.toNat = b.toBitVec := by apply BitVec.eq_of_toNat_eq; rw [BitVec.toNat_ofNat, UInt8.toNat_toBitVec]; exact Nat.mod_eq_of_lt b.toNat_lt
  rw [ha, hb]
  have := (f a.toBitVec b.toBitVec).isLt
  show ((f a.toBitVec b.toBitVec).toNat : Int) % 256 = ((f a.toBitVec b.toBitVec).toNat : Int)
  omega
theorem AhC (f : BitVec 64 → BitVec 64 → BitVec 64) (a b : UInt64) : S6 .u64 f (a.toNat : Int) (b.toNat : Int) = u64 ⟨f a.toBitVec b.toBitVec⟩ := by
  unfold S6 u64
  congr 1
  show IntKind.u64.wrap ((f (BitVec.ofInt 64 (a.toNat : Int)) (BitVec.ofInt 64 (b.toNat : Int))).toNat : Int) = _
  rw [Abq, Abq, Mr]
  have ha : BitVec.ofNat 64 a.toNat = a.toBitVec := by apply BitVec.eq_of_toNat_eq; rw [BitVec.toNat_ofNat, UInt64.toNat_toBitVec]; exact Nat.mod_eq_of_lt a.toNat_lt
  have hb : BitVec.ofNat 64 b.toNat = b.toBitVec := by apply BitVec.eq_of_toNat_eq; rw [BitVec.toNat_ofNat, UInt64.toNat_toBitVec]; exact Nat.mod_eq_of_lt b.toNat_lt
  rw [ha, hb]
  have := (f a.toBitVec b.toBitVec).isLt
  show ((f a.toBitVec b.toBitVec).toNat : Int) % 18446744073709551616 = ((f a.toBitVec b.toBitVec).toNat : Int)
  omega
theorem Acp (a b : UInt8) : Bq E .and t (u8 a) (u8 b) = some (u8 (a &&& b)) := congrArg some (AiQ _ a b)
theorem Afb (a b : UInt8) : Bq E .or t (u8 a) (u8 b) = some (u8 (a ||| b)) := congrArg some (AiQ _ a b)
theorem Acb (a b : UInt8) : Bq E .xor t (u8 a) (u8 b) = some (u8 (a ^^^ b)) := congrArg some (AiQ _ a b)
theorem Adi (a b : UInt64) : Bq E .or t (u64 a) (u64 b) = some (u64 (a ||| b)) := congrArg some (AhC _ a b)
theorem AcQ (a : UInt64) : Wl .xor (u64 a) = some (u64 (~~~a)) := by
  have h : Wl .xor (u64 a) = some (S6 .u64 (· ^^^ ·) ((18446744073709551615 : UInt64).toNat : Int) (a.toNat : Int)) := rfl
  refine h.trans (congrArg some ((AhC (· ^^^ ·) 18446744073709551615 a).trans (congrArg u64 ?_)))
  apply UInt64.toBitVec_inj.1
  show (18446744073709551615 : UInt64).toBitVec ^^^ a.toBitVec = ~~~ a.toBitVec
  rw [BitVec.not_def]; rfl
theorem AhP (a b : UInt8) : ((a.toNat : Int) == (b.toNat : Int)) = (a == b) := by rw [Bool.eq_iff_iff]; simp only [beq_iff_eq]; rw [← UInt8.toNat_inj]; omega
theorem Fo {a b : Bool} (h : a = b) : some (AV.bool a) = some (AV.bool b) := by rw [h]
theorem Qm {p q : Prop} [Decidable p] [Decidable q] (h : p ↔ q) : decide p = decide q := by simp only [h]
theorem Adk (a b : UInt8) : Bq E .eql t (u8 a) (u8 b) = some (.bool (a == b)) := Fo (AhP a b)
theorem Ab6 (a b : UInt8) : Bq E .neq t (u8 a) (u8 b) = some (.bool (a != b)) := Fo (congrArg not (AhP a b))
theorem Adr (a b : UInt8) : Bq E .lss t (u8 a) (u8 b) = some (.bool (decide (a < b))) := Fo (Qm (by rw [UInt8.lt_iff_toNat_lt]; omega))
theorem AcM (a b : UInt8) : Bq E .leq t (u8 a) (u8 b) = some (.bool (decide (a ≤ b))) := Fo (Qm (by rw [UInt8.le_iff_toNat_le]; omega))
theorem Acg (a b : UInt8) : Bq E .gtr t (u8 a) (u8 b) = some (.bool (decide (a > b))) := Fo (Qm (by rw [gt_iff_lt, gt_iff_lt, UInt8.lt_iff_toNat_lt]; omega))
theorem Acv (a b : UInt8) : Bq E .geq t (u8 a) (u8 b) = some (.bool (decide (a ≥ b))) := Fo (Qm (by rw [ge_iff_le, ge_iff_le, UInt8.le_iff_toNat_le]; omega))
theorem Aa5 (a b : UInt64) : Bq E .lss t (u64 a) (u64 b) = some (.bool (decide (a < b))) := Fo (Qm (by rw [UInt64.lt_iff_toNat_lt]; omega))
theorem Aai (a b : UInt64) : Bq E .gtr t (u64 a) (u64 b) = some (.bool (decide (a > b))) := Fo (Qm (by rw [gt_iff_lt, gt_iff_lt, UInt64.lt_iff_toNat_lt]; omega))
theorem Z7 (a b : UInt64) : Bq E .geq t (u64 a) (u64 b) = some (.bool (decide (a ≥ b))) := Fo (Qm (by rw [ge_iff_le, ge_iff_le, UInt64.le_iff_toNat_le]; omega))
theorem Ad6 {w n : Nat} (a : Nat) (ha : a < 2 ^ w) : a / 2 ^ (min n w) = a >>> n := by
  rw [Nat.shiftRight_eq_div_pow]
  rcases Nat.le_total n w with h | h
  · rw [Nat.min_eq_left h]
  · rw [Nat.min_eq_right h, Nat.div_eq_of_lt ha, Nat.div_eq_of_lt (Nat.lt_of_lt_of_le ha (Nat.pow_le_pow_right (by omega) h))]
theorem AeP {w n : Nat} (a : Nat) : (a * 2 ^ (min n w)) % 2 ^ w = (a <<< n) % 2 ^ w := by
  rw [Nat.shiftLeft_eq]
  rcases Nat.le_total n w with h | h
  · rw [Nat.min_eq_left h]
  · rw [Nat.min_eq_right h, Nat.mul_mod_left]
    obtain ⟨d, rfl⟩ : ∃ d, n = w + d := ⟨n - w, by omega⟩
    rw [Nat.pow_add, Nat.mul_comm (2 ^ w), ← Nat.mul_assoc, Nat.mul_mod_left]
theorem AbH (a m : Nat) : (a : Int).fdiv (2 ^ m) = ((a / 2 ^ m : Nat) : Int) := by
  rw [Int.fdiv_eq_ediv_of_nonneg _ (by exact_mod_cast Nat.zero_le _)]
  norm_cast
theorem AbG (a n : Nat) : (a : Int) * 2 ^ n = ((a * 2 ^ n : Nat) : Int) := by rw [Int.natCast_mul, Int.natCast_pow]; rfl
theorem Afs (a n : Nat) : IntKind.u8.wrap ((a : Int) * 2 ^ n) = ((a * 2 ^ n % 2 ^ 8 : Nat) : Int) := by
  rw [T2, AbG, show (2 : Nat) ^ 8 = 256 from rfl]
  generalize a * 2 ^ n = m
  omega
theorem Ac3 (a n : Nat) : IntKind.u64.wrap ((a : Int) * 2 ^ n) = ((a * 2 ^ n % 2 ^ 64 : Nat) : Int) := by
  rw [Mr, AbG, show (2 : Nat) ^ 64 = 18446744073709551616 from rfl]
  generalize a * 2 ^ n = m
  omega
theorem shl_u8 (a : UInt8) (y : Nat) : Jb .shl .u8 (a.toNat : Int) (y : Int) = some (u8 (shl8 a y)) := by
  unfold Jb
  rw [if_neg (by omega)]
  refine Ng ?_
  rw [Afs]
  show ((a.toNat * 2 ^ (min y 8) % 2 ^ 8 : Nat) : Int) = _
  rw [AeP]; rfl
theorem Akt (a : UInt8) (y : Nat) : Jb .shr .u8 (a.toNat : Int) (y : Int) = some (u8 (Ako a y)) := by
  unfold Jb
  rw [if_neg (by omega)]
  refine Ng ?_
  rw [AbH]
  show ((a.toNat / 2 ^ (min y 8) : Nat) : Int) = _
  rw [Ad6 _ a.toNat_lt]; rfl
theorem AjT (a : UInt64) (y : Nat) : Jb .shl .u64 (a.toNat : Int) (y : Int) = some (u64 (Yd a y)) := by
  unfold Jb
  rw [if_neg (by omega)]
  refine Ng ?_
  rw [Ac3]
  show ((a.toNat * 2 ^ (min y 64) % 2 ^ 64 : Nat) : Int) = _
  rw [AeP]; rfl
theorem Ad2 (a : UInt64) (y : Nat) : Jb .shr .u64 (a.toNat : Int) (y : Int) = some (u64 (Wf a y)) := by
  unfold Jb
  rw [if_neg (by omega)]
  refine Ng ?_
  rw [AbH]
  show ((a.toNat / 2 ^ (min y 64) : Nat) : Int) = _
  rw [Ad6 _ a.toNat_lt]; rfl
def Xn (x : Int) : Prop := 0 ≤ x
instance (x : Int) : Decidable (Xn x) := inferInstanceAs (Decidable (_ ≤ _))
theorem Adw {op : BinOp} {k : IntKind} {a x : Int} (h : Xn x) : Jb op k a x = Jb op k a ((x.toNat : Nat) : Int) := by
  have : (x.toNat : Int) = x := Int.toNat_of_nonneg h
  rw [this]
theorem Ss (a : UInt8) (y : UInt64) : Bq E .shr t (u8 a) (u64 y) = some (u8 (Ako a y.toNat)) := Akt a _
theorem Qp (a : UInt64) (y : UInt64) : Bq E .shl t (u64 a) (u64 y) = some (u64 (Yd a y.toNat)) := AjT a _
theorem Qr (a : UInt64) (y : UInt64) : Bq E .shr t (u64 a) (u64 y) = some (u64 (Wf a y.toNat)) := Ad2 a _
theorem Q5 (a : UInt64) (y : Int) : Bq E .shr t (u64 a) (i64 y) = if Xn y then some (u64 (Wf a y.toNat)) else none := by
  split
  · rename_i h; exact (Adw h).trans (Ad2 a _)
  · rename_i h; exact if_pos (Int.lt_of_not_ge h)
def E0 (E : Env) (t : TypeId) (k : IntKind) : Bool := match E.tab t with
  | some ⟨.int k', _, _, _⟩ => decide (k' = k)
  | _ => false
theorem Dc {E : Env} {σ : Ab} {s d : TypeId} {k0 k : IntKind} {x : Int} (hs : (E.tab s).isSome = true) (hd : E0 E d k = true) : Bb E σ s d (.int k0 x) = some (.int k (k.wrap x), σ) := by
  unfold E0 at hd
  split at hd
  case h_2 => cases hd
  rename_i k' a b c hk
  have : k' = k := by simpa using hd
  subst this
  unfold Bb
  rw [hk]
  cases hh : E.tab s with
  | none => rw [hh] at hs; cases hs
  | some sd => rfl
theorem Aap {σ : Ab} {s d : TypeId} (x : Int) (hs : (E.tab s).isSome = true) (hd : E0 E d .u8 = true) : Bb E σ s d (i64 x) = some (u8 (UInt8.ofInt x), σ) := by
  refine (Dc hs hd).trans ?_
  rw [T2]
  have : ((UInt8.ofInt x).toNat : Int) = x % 256 := by rw [UInt8.ofInt, UInt8.toNat_ofNat']; omega
  unfold u8; rw [this]
theorem X4 {σ : Ab} {s d : TypeId} (x : Int) (hs : (E.tab s).isSome = true) (hd : E0 E d .u64 = true) : Bb E σ s d (i64 x) = some (u64 (UInt64.ofInt x), σ) := by
  refine (Dc hs hd).trans ?_
  rw [Mr]
  have : ((UInt64.ofInt x).toNat : Int) = x % 18446744073709551616 := by rw [UInt64.ofInt, UInt64.toNat_ofNat']; omega
  unfold u64; rw [this]
theorem Aac {σ : Ab} {s d : TypeId} (x : UInt8) (hs : (E.tab s).isSome = true) (hd : E0 E d .i64 = true) : Bb E σ s d (u8 x) = some (i64 (x.toNat : Int), σ) := by
  refine (Dc hs hd).trans ?_
  have := x.toNat_lt
  have h : IntKind.i64.wrap (x.toNat : Int) = (x.toNat : Int) := by rw [IntKind.wrap_i64]; omega
  unfold i64; rw [h]
theorem Aa0 {σ : Ab} {s d : TypeId} (x : UInt8) (hs : (E.tab s).isSome = true) (hd : E0 E d .u64 = true) : Bb E σ s d (u8 x) = some (u64 x.toUInt64, σ) := by
  refine (Dc hs hd).trans ?_
  have := x.toNat_lt
  unfold u64; rw [Mr, UInt8.toNat_toUInt64]; congr 3; omega
theorem AaF {σ : Ab} {s d : TypeId} (x : UInt64) (hs : (E.tab s).isSome = true) (hd : E0 E d .u8 = true) : Bb E σ s d (u64 x) = some (u8 x.toUInt8, σ) := by
  refine (Dc hs hd).trans ?_
  unfold u8; rw [T2, UInt64.toNat_toUInt8]; congr 3
theorem Xk {σ : Ab} {s d : TypeId} (x : UInt64) (hs : (E.tab s).isSome = true) (hd : E0 E d .i64 = true) : Bb E σ s d (u64 x) = some (i64 (w64 (x.toNat : Int)), σ) := Dc hs hd
end
end Go.Rv
