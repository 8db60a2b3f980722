/-
  FrameDetects, the plain law: at most four consecutive bytes changed change the checksum.
-/
import Derived.Test.YtneejmndnihaoaaA5
namespace Go.Proofs.Ytneejmndnihaoaa
open Go.Rv
set_option linter.unusedVariables false
set_option linter.unusedSimpArgs false

/-! ### The checksum's step loses nothing -/
theorem st_zero (d : BitVec 32) (h : st d = 0#32) : d = 0#32 := by
  unfold st at h
  cases h0 : d.getLsbD 0
  · rw [h0] at h
    simp only [Bool.false_eq_true, if_false, BitVec.xor_zero] at h
    apply BitVec.eq_of_getLsbD_eq
    intro i hi
    cases i with
    | zero => rw [h0]; simp
    | succ i =>
      have := congrArg (fun x => x.getLsbD i) h
      simp only [BitVec.getLsbD_ushiftRight] at this
      rw [Nat.add_comm] at this
      rw [this]; simp
  · exfalso
    rw [h0] at h
    simp only [if_true] at h
    have := congrArg (fun x => x.getLsbD 31) h
    simp only [BitVec.getLsbD_xor, BitVec.getLsbD_ushiftRight] at this
    rw [BitVec.getLsbD_of_ge d (1 + 31) (by omega)] at this
    revert this
    decide

theorem st_inj {a b : BitVec 32} (h : st a = st b) : a = b := by
  have h1 : st (a ^^^ b) = 0#32 := by rw [st_xor, h, BitVec.xor_self]
  have h2 := st_zero _ h1
  have : a ^^^ b ^^^ b = 0#32 ^^^ b := by rw [h2]
  rwa [BitVec.xor_assoc, BitVec.xor_self, BitVec.xor_zero, BitVec.zero_xor] at this

def S8 (c : BitVec 32) : BitVec 32 := st (st (st (st (st (st (st (st c)))))))
theorem S8_inj {a b : BitVec 32} (h : S8 a = S8 b) : a = b := st_inj (st_inj (st_inj (st_inj (st_inj (st_inj (st_inj (st_inj h)))))))
theorem S8_xor (a b : BitVec 32) : S8 (a ^^^ b) = S8 a ^^^ S8 b := by unfold S8; simp only [st_xor]

theorem st_shift (y : BitVec 32) (n : Nat) (hn : n < 8) (hy : ∀ i, 24 ≤ i → y.getLsbD i = false) : st (y <<< (n + 1)) = y <<< n := by
  rw [st_even _ (by rw [BitVec.getLsbD_shiftLeft]; simp)]
  apply BitVec.eq_of_getLsbD_eq
  intro i hi
  rw [BitVec.getLsbD_ushiftRight, BitVec.getLsbD_shiftLeft, BitVec.getLsbD_shiftLeft]
  by_cases h1 : 1 + i < 32
  · by_cases h2 : i < n
    · have e1 : decide (1 + i < n + 1) = true := by simp; omega
      have e2 : decide (i < n) = true := by simp; omega
      simp [e1, e2]
    · have e1 : decide (1 + i < n + 1) = false := by simp; omega
      have e2 : decide (i < n) = false := by simp; omega
      have e3 : 1 + i - (n + 1) = i - n := by omega
      simp [e1, e2, e3, h1, hi]
  · have : y.getLsbD (i - n) = false := hy _ (by omega)
    simp [h1, this]

theorem S8_shift (y : BitVec 32) (hy : ∀ i, 24 ≤ i → y.getLsbD i = false) : S8 (y <<< 8) = y := by
  unfold S8
  rw [st_shift y 7 (by omega) hy, st_shift y 6 (by omega) hy, st_shift y 5 (by omega) hy, st_shift y 4 (by omega) hy, st_shift y 3 (by omega) hy, st_shift y 2 (by omega) hy, st_shift y 1 (by omega) hy, st_shift y 0 (by omega) hy]
  simp

/-! ### Four bytes -/
def wide (x : UInt8) : BitVec 32 := x.toBitVec.setWidth 32
def crcB (c : BitVec 32) (l : List UInt8) : BitVec 32 := l.foldl (fun c x => S8 (c ^^^ wide x)) c
def pack : List UInt8 → BitVec 32
  | [] => 0#32
  | x :: u => wide x ^^^ (pack u <<< 8)

theorem wide_bit (x : UInt8) (i : Nat) (hi : 8 ≤ i) : (wide x).getLsbD i = false := by
  unfold wide
  rw [BitVec.getLsbD_setWidth, BitVec.getLsbD_of_ge x.toBitVec i hi]
  simp

theorem pack_bit : ∀ (u : List UInt8) (i : Nat), 8 * u.length ≤ i → (pack u).getLsbD i = false
  | [], i, _ => by simp [pack]
  | x :: u, i, h => by
    simp only [List.length_cons] at h
    rw [pack, BitVec.getLsbD_xor, wide_bit x i (by omega), BitVec.getLsbD_shiftLeft, pack_bit u (i - 8) (by omega)]
    simp

theorem wide_inj {x y : UInt8} (h : ∀ i, i < 8 → (wide x).getLsbD i = (wide y).getLsbD i) : x = y := by
  apply UInt8.toBitVec_inj.1
  apply BitVec.eq_of_getLsbD_eq
  intro i hi
  have := h i hi
  unfold wide at this
  rw [BitVec.getLsbD_setWidth, BitVec.getLsbD_setWidth] at this
  have h32 : decide (i < 32) = true := by simp; omega
  simpa [h32] using this

theorem pack_inj : ∀ (u v : List UInt8), u.length = v.length → u.length ≤ 4 → pack u = pack v → u = v
  | [], [], _, _, _ => rfl
  | x :: u, y :: v, hl, h4, h => by
    simp only [List.length_cons] at hl h4
    have hl' : u.length = v.length := by omega
    have hb : ∀ i, (pack (x :: u)).getLsbD i = (pack (y :: v)).getLsbD i := fun i => by rw [h]
    have hxy : x = y := by
      refine wide_inj fun i hi => ?_
      have := hb i
      rw [pack, pack, BitVec.getLsbD_xor, BitVec.getLsbD_xor, BitVec.getLsbD_shiftLeft, BitVec.getLsbD_shiftLeft] at this
      have e : decide (i < 8) = true := by simp; omega
      simpa [e] using this
    have huv : pack u = pack v := by
      apply BitVec.eq_of_getLsbD_eq
      intro i hi
      by_cases h24 : i < 24
      · have := hb (i + 8)
        rw [pack, pack, BitVec.getLsbD_xor, BitVec.getLsbD_xor, wide_bit x _ (by omega), wide_bit y _ (by omega), BitVec.getLsbD_shiftLeft, BitVec.getLsbD_shiftLeft] at this
        have e1 : decide (i + 8 < 32) = true := by simp; omega
        have e2 : decide (i + 8 < 8) = false := by simp
        simpa [e1, e2] using this
      · rw [pack_bit u i (by omega), pack_bit v i (by omega)]
    rw [hxy, pack_inj u v hl' (by omega) huv]

def Sn : Nat → BitVec 32 → BitVec 32
  | 0, c => c
  | n + 1, c => Sn n (S8 c)
theorem Sn_inj : ∀ (n : Nat) {a b : BitVec 32}, Sn n a = Sn n b → a = b
  | 0, _, _, h => h
  | n + 1, _, _, h => S8_inj (Sn_inj n h)

theorem crcB_pack : ∀ (u : List UInt8) (c : BitVec 32), u.length ≤ 4 → crcB c u = Sn u.length (c ^^^ pack u)
  | [], c, _ => by simp [crcB, pack, Sn]
  | x :: u, c, h => by
    simp only [List.length_cons] at h
    show crcB (S8 (c ^^^ wide x)) u = Sn u.length (S8 (c ^^^ (wide x ^^^ (pack u <<< 8))))
    rw [crcB_pack u _ (by omega), ← BitVec.xor_assoc, S8_xor (c ^^^ wide x), S8_shift (pack u) (fun i hi => pack_bit u i (by omega))]

theorem crcB_inj (l : List UInt8) : ∀ {a b : BitVec 32}, crcB a l = crcB b l → a = b := by
  induction l with
  | nil => intro a b h; exact h
  | cons x l ih =>
    intro a b h
    have h1 := S8_inj (ih h)
    have h2 : a ^^^ wide x ^^^ wide x = b ^^^ wide x ^^^ wide x := by rw [h1]
    rwa [BitVec.xor_assoc, BitVec.xor_assoc, BitVec.xor_self, BitVec.xor_zero, BitVec.xor_zero] at h2

theorem crcB_app (c : BitVec 32) (a b : List UInt8) : crcB c (a ++ b) = crcB (crcB c a) b := by simp [crcB]

theorem crcS_bits (l : List UInt8) : ∀ c : UInt32, (crcS c l).toBitVec = crcB c.toBitVec l := by
  induction l with
  | nil => intro c; rfl
  | cons x l ih =>
    intro c
    show (crcS (s8 (c ^^^ x.toUInt32)) l).toBitVec = crcB (S8 (c.toBitVec ^^^ wide x)) l
    rw [ih]
    rfl

/-- Lists that differ in at most four consecutive places have different checksums. -/
theorem crc_burst (a b : List UInt8) (i : Nat) (hl : a.length = b.length) (ht : a.take i = b.take i) (hd : a.drop (i + 4) = b.drop (i + 4)) (h : crc a = crc b) : a = b := by
  have h1 : crcS 4294967295 a = crcS 4294967295 b := by
    unfold crc at h
    have := congrArg (fun x => ~~~ x) h
    simpa using this
  have h2 : crcB (4294967295 : UInt32).toBitVec a = crcB (4294967295 : UInt32).toBitVec b := by rw [← crcS_bits, ← crcS_bits, h1]
  have split : ∀ l : List UInt8, l = l.take i ++ ((l.drop i).take 4 ++ l.drop (i + 4)) := fun l => by
    have e : l.drop (i + 4) = (l.drop i).drop 4 := by rw [List.drop_drop]
    rw [e, List.take_append_drop, List.take_append_drop]
  rw [split a, split b, crcB_app, crcB_app, crcB_app, crcB_app, ht, hd] at h2
  have h3 := crcB_inj _ h2
  rw [crcB_pack ((a.drop i).take 4) _ (by simp; omega), crcB_pack ((b.drop i).take 4) _ (by simp; omega)] at h3
  have hlen : ((a.drop i).take 4).length = ((b.drop i).take 4).length := by simp [hl]
  rw [hlen] at h3
  have h4 := Sn_inj _ h3
  have h5 : ∀ c p q : BitVec 32, c ^^^ p = c ^^^ q → p = q := fun c p q h => by
    have : c ^^^ (c ^^^ p) = c ^^^ (c ^^^ q) := by rw [h]
    rwa [← BitVec.xor_assoc, ← BitVec.xor_assoc, BitVec.xor_self, BitVec.zero_xor, BitVec.zero_xor] at this
  have h6 := pack_inj _ _ hlen (by simp; omega) (h5 _ _ _ h4)
  rw [split a, split b, ht, hd, h6]

/-! ### The law -/
theorem seal_inj {a b : UInt32} (h : sealB a = sealB b) : a = b := by
  unfold sealB at h
  simp only [List.cons.injEq, and_true] at h
  obtain ⟨h1, h2, h3, h4⟩ := h
  have key : ∀ (x : UInt32), x.toNat = (shr32 x 24).toUInt8.toNat * 16777216 + (shr32 x 16).toUInt8.toNat * 65536 + (shr32 x 8).toUInt8.toNat * 256 + x.toUInt8.toNat := by
    intro x
    have hx := x.toNat_lt
    have e : ∀ n, n < 32 → (shr32 x n).toNat = x.toNat / 2 ^ n := by
      intro n hn
      unfold shr32
      simp [Nat.shiftRight_eq_div_pow, Nat.mod_eq_of_lt hn]
    simp only [UInt32.toNat_toUInt8, e 24 (by omega), e 16 (by omega), e 8 (by omega)]
    omega
  apply UInt32.toNat_inj.1
  rw [key a, key b, h1, h2, h3, h4]

theorem joined_nil (b : List UInt8) (h : b.length ≤ 80000000) : r10_Joined b [] = some b := by
  unfold r10_Joined
  simp only [lt1, List.nil_append, List.append_nil]
  rw [if_pos (by unfold Fits maxLen roomB; simp; omega), if_pos (by unfold Fits maxLen roomB; simp; omega)]

theorem law_detects (b : List UInt8) (i : Int) (y : Arr UInt8 4) (h : b.length ≤ maxLen) : law10_FrameDetects b i y = some true := by
  unfold law10_FrameDetects
  rw [sane_ok]
  simp only [Option.bind_some, Bool.not_true, Bool.false_eq_true, if_false]
  by_cases h1 : (b.length : Int) > 8192
  · simp [h1]
  by_cases h2 : i < 0
  · simp [h1, h2]
  by_cases h3 : i ≥ (b.length : Int)
  · simp [h1, h2, h3]
  obtain ⟨p, rfl⟩ : ∃ p : Nat, i = (p : Int) := ⟨i.toNat, by omega⟩
  simp only [h1, h2, h3, decide_false, Bool.false_eq_true, if_false, Option.bind_some]
  rw [joined_nil b (by omega)]
  simp only [Option.bind_some]
  have hw : ∀ k : Nat, k ≤ 4 → w64 ((p : Int) + (k : Int)) = ((p + k : Nat) : Int) := fun k hk => by rw [w64_id (by omega)]; omega
  obtain ⟨x, hx, hlen, hta, hdr⟩ : ∃ x, loopO (fun (v : Int × List UInt8) => law10_FrameDetects_b1 b (p : Int) y v.1 v.2) (0, b) = some x ∧ (x.length = b.length ∧ x.take p = b.take p ∧ x.drop (p + 4) = b.drop (p + 4)) := by
    refine loopO_for (min 4 (b.length - p)) (fun k v => ∃ l : List UInt8, v = ((k : Int), l) ∧ l.length = b.length ∧ l.take p = b.take p ∧ l.drop (p + 4) = b.drop (p + 4)) _ (by omega) ?_ ?_ ⟨b, rfl, rfl, rfl, rfl⟩
    · rintro k v hk ⟨l, rfl, q1, q2, q3⟩
      refine ⟨_, ?_, l.set (p + k) (y.get k), rfl, by simpa using q1, ?_, ?_⟩
      · unfold law10_FrameDetects_b1
        simp only [lt1, hw k (by omega)]
        have e1 : decide ((k : Int) < 4) = true := by simp; omega
        have e2 : decide (((p + k : Nat) : Int) < (b.length : Int)) = true := by simp; omega
        simp only [e1, e2, if_true, Option.bind_some]
        rw [if_pos (show InR (k : Int) 4 by unfold InR; omega), if_pos (inR_of (by omega : p + k < l.length))]
        simp only [Int.toNat_natCast]
        rw [w64_succ (by omega)]
      · rw [List.take_set_of_le (by omega)]; exact q2
      · rw [List.drop_set_of_lt (by omega)]; exact q3
    · rintro v ⟨l, rfl, q1, q2, q3⟩
      refine ⟨l, ?_, q1, q2, q3⟩
      unfold law10_FrameDetects_b1
      simp only [lt1]
      by_cases e1 : (min 4 (b.length - p)) < 4
      · have e2 : min 4 (b.length - p) = b.length - p := by omega
        rw [e2, hw _ (by omega)]
        have e3 : decide (((b.length - p : Nat) : Int) < 4) = true := by simp; omega
        have e4 : decide (((p + (b.length - p) : Nat) : Int) < (b.length : Int)) = false := by simp; omega
        simp only [e3, e4, if_true, Option.bind_some, Bool.false_eq_true, if_false]
      · have e2 : min 4 (b.length - p) = 4 := by omega
        rw [e2]
        simp
  rw [hx]
  simp only [Option.bind_some]
  have c1 := frame_crc x (by rw [hlen]; exact h)
  have c2 := frame_crc b h
  by_cases he : x = b
  · subst he
    simp [c1]
  · have e0 : (x == b) = false := by simp [he]
    have hne : crc x ≠ crc b := fun hc => he (crc_burst x b p hlen hta hdr hc)
    have e1 : (crc x != crc b) = true := by simp [hne]
    simp only [e0, Bool.false_eq_true, if_false, c1, c2, Option.bind_some, e1, if_true]
    have hs : (sealB (crc b)).length = 4 := rfl
    rw [ref_sealed x _ (by omega)]
    simp only [Option.bind_some]
    rw [ref_wrapped _ (by simp only [List.length_append, hs]; omega)]
    simp only [Option.bind_some]
    have hwl := wrapB_len (x ++ sealB (crc b))
    simp only [List.length_append, hs] at hwl
    rw [receives_eq _ _ _ (by simp only [List.length_append, List.length_cons, List.length_nil]; omega)]
    have hfe : feedS (⟨[], false, false, false⟩, [], 0) (126 :: wrapB (x ++ sealB (crc b)) ++ [126]) = (R0, [], 1) := by
      rw [feedS_snoc]
      show stepS (feedS (stepS (⟨[], false, false, false⟩, [], 0) 126) _) 126 = _
      rw [feed_flag ⟨[], false, false, false⟩ ⟨rfl, rfl, rfl⟩]
      unfold R0
      rw [feed_wrap _ [] ([], 0) (by simp only [List.length_append, List.length_nil, hs]; omega)]
      rw [List.nil_append]
      have hcs : (contentS ⟨x ++ sealB (crc b), true, false, false⟩).2 = false := by
        unfold contentS
        simp only [List.length_append, hs]
        rw [if_neg (by simp; omega)]
        have e : x.length + 4 - 4 = x.length := by omega
        simp only [e, List.take_left, List.drop_left]
        simp only [beq_eq_false_iff_ne, ne_eq]
        exact fun hq => hne (seal_inj hq)
      unfold stepS
      simp only [if_true, hcs, Bool.false_eq_true, if_false]
      rw [if_pos ⟨trivial, .inl (by simp [sealB])⟩]
    rw [hfe]
    simp

end Go.Proofs.Ytneejmndnihaoaa
