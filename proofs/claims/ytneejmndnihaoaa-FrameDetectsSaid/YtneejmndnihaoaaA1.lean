/-
  The checksum: four bits at a time, and bit by bit.
-/
import Derived.Test.YtneejmndnihaoaaGP
import Derived.Test.YtneejmndnihaoaaR24
namespace Go.Proofs.Ytneejmndnihaoaa
open Go.Rv
set_option linter.unusedVariables false

/-! ### One bit -/
def st (c : BitVec 32) : BitVec 32 := (c >>> 1) ^^^ (if c.getLsbD 0 = true then 0xedb88320#32 else 0#32)

theorem st_xor (a b : BitVec 32) : st (a ^^^ b) = st a ^^^ st b := by
  unfold st
  rw [BitVec.getLsbD_xor, BitVec.ushiftRight_xor_distrib]
  have hp : ∀ p x : BitVec 32, p ^^^ (p ^^^ x) = x := fun p x => by rw [← BitVec.xor_assoc, BitVec.xor_self, BitVec.zero_xor]
  cases a.getLsbD 0 <;> cases b.getLsbD 0
  · simp
  · simp; ac_rfl
  · simp; ac_rfl
  · simp
    have : a >>> 1 ^^^ 3988292384#32 ^^^ (b >>> 1 ^^^ 3988292384#32) = 3988292384#32 ^^^ (3988292384#32 ^^^ (a >>> 1 ^^^ b >>> 1)) := by ac_rfl
    rw [this, hp]

theorem st_even (c : BitVec 32) (h : c.getLsbD 0 = false) : st c = c >>> 1 := by
  unfold st; rw [h]; simp

theorem st4_split (c : BitVec 32) : st (st (st (st c))) = (c >>> 4) ^^^ st (st (st (st (c &&& 15#32)))) := by
  have h : c = (c &&& 15#32) ^^^ ((c >>> 4) <<< 4) := by
    apply BitVec.eq_of_getLsbD_eq
    intro i hi
    have h15 : (15#32).getLsbD i = decide (i < 4) := by
      have : ∀ j : Fin 32, (15#32).getLsbD j = decide (j.val < 4) := by decide
      exact this ⟨i, hi⟩
    rw [BitVec.getLsbD_xor, BitVec.getLsbD_and, h15, BitVec.getLsbD_shiftLeft, BitVec.getLsbD_ushiftRight]
    by_cases h4 : i < 4
    · simp [h4]
    · have e : 4 + (i - 4) = i := by omega
      simp [h4, hi, e]
  have hz : ∀ k, k < 4 → ((c >>> 4) <<< 4).getLsbD k = false := by
    intro k hk
    rw [BitVec.getLsbD_shiftLeft]
    simp [hk]
  have hb : st (st (st (st ((c >>> 4) <<< 4)))) = c >>> 4 := by
    have h0 := hz 0 (by omega)
    have h1 := hz 1 (by omega)
    have h2 := hz 2 (by omega)
    have h3 := hz 3 (by omega)
    generalize hy : (c >>> 4) <<< 4 = y at h0 h1 h2 h3
    have e1 : st y = y >>> 1 := st_even _ h0
    have e2 : st (y >>> 1) = y >>> 1 >>> 1 := st_even _ (by simpa [BitVec.getLsbD_ushiftRight] using h1)
    have e3 : st (y >>> 1 >>> 1) = y >>> 1 >>> 1 >>> 1 := st_even _ (by simpa [BitVec.getLsbD_ushiftRight] using h2)
    have e4 : st (y >>> 1 >>> 1 >>> 1) = y >>> 1 >>> 1 >>> 1 >>> 1 := st_even _ (by simpa [BitVec.getLsbD_ushiftRight] using h3)
    rw [e1, e2, e3, e4, ← hy]
    apply BitVec.eq_of_getLsbD_eq
    intro i hi
    simp only [BitVec.getLsbD_ushiftRight, BitVec.getLsbD_shiftLeft]
    by_cases h5 : i + 4 < 32
    · have e1 : 1 + (1 + (1 + (1 + i))) = i + 4 := by omega
      have e2 : i + 4 - 4 = i := by omega
      simp [e1, h5, e2]
    · have e1 : 1 + (1 + (1 + (1 + i))) = i + 4 := by omega
      have : c.getLsbD (4 + i) = false := BitVec.getLsbD_of_ge _ _ (by omega)
      simp [e1, h5, this]
  calc st (st (st (st c))) = st (st (st (st ((c &&& 15#32) ^^^ ((c >>> 4) <<< 4))))) := by rw [← h]
    _ = st (st (st (st (c &&& 15#32)))) ^^^ st (st (st (st ((c >>> 4) <<< 4)))) := by simp only [st_xor]
    _ = _ := by rw [hb, BitVec.xor_comm]

def sU (c : UInt32) : UInt32 := ⟨st c.toBitVec⟩
def s4 (c : UInt32) : UInt32 := sU (sU (sU (sU c)))
def s8 (c : UInt32) : UInt32 := s4 (s4 c)
def crcS (c : UInt32) (l : List UInt8) : UInt32 := l.foldl (fun c x => s8 (c ^^^ x.toUInt32)) c
def crc (l : List UInt8) : UInt32 := ~~~ crcS 4294967295 l

theorem s4_split (c : UInt32) : s4 c = shr32 c 4 ^^^ s4 (c &&& 15) := by
  apply UInt32.toBitVec_inj.1
  exact st4_split c.toBitVec

theorem lsb_nat (c : UInt32) : c.toBitVec.getLsbD 0 = decide (c.toNat % 2 = 1) := by
  rw [BitVec.getLsbD, Nat.testBit_zero]; rfl

theorem step_frame (c : UInt32) : shr32 c 1 ^^^ ((3988292384 : UInt32) &&& (0 - (c &&& 1))) = sU c := by
  apply UInt32.toBitVec_inj.1
  show (c.toBitVec >>> 1) ^^^ (0xedb88320#32 &&& (0#32 - (c.toBitVec &&& 1#32))) = st c.toBitVec
  unfold st
  congr 1
  have h : c.toBitVec &&& 1#32 = if c.toBitVec.getLsbD 0 = true then 1#32 else 0#32 := by
    apply BitVec.eq_of_getLsbD_eq
    intro i hi
    have h1 : (1#32).getLsbD i = decide (i = 0) := by
      have : ∀ j : Fin 32, (1#32).getLsbD j = decide (j.val = 0) := by decide
      exact this ⟨i, hi⟩
    rw [BitVec.getLsbD_and, h1]
    by_cases h0 : i = 0
    · subst h0
      cases c.toBitVec.getLsbD 0 <;> rfl
    · cases c.toBitVec.getLsbD 0 <;> simp [h0, h1]
  rw [h]
  cases c.toBitVec.getLsbD 0 <;> decide

theorem odd_ref (c : UInt32) : ((c % 2) == 1) = c.toBitVec.getLsbD 0 := by
  rw [lsb_nat, Bool.eq_iff_iff]
  simp only [beq_iff_eq, decide_eq_true_eq]
  rw [← UInt32.toNat_inj, UInt32.toNat_mod]
  rfl

theorem step_ref (c : UInt32) : (if ((c % 2) == 1) = true then (c / 2) ^^^ (3988292384 : UInt32) else c / 2) = sU c := by
  have hd : (c / 2) = ⟨c.toBitVec >>> 1⟩ := by
    apply UInt32.toNat_inj.1
    rw [UInt32.toNat_div]
    show c.toNat / 2 = (c.toBitVec >>> 1).toNat
    rw [BitVec.toNat_ushiftRight, Nat.shiftRight_eq_div_pow]; rfl
  rw [odd_ref]
  apply UInt32.toBitVec_inj.1
  show _ = st c.toBitVec
  unfold st
  split
  · rw [hd]; rfl
  · rw [hd]; simp

/-! ### Loops that count -/
theorem w64_succ {k : Nat} (h : k < 9223372036854775807) : w64 ((k : Int) + 1) = ((k + 1 : Nat) : Int) := by
  rw [w64_id (by omega)]; rfl

theorem frame_b1 (c : UInt32) : loopO (fun (v : UInt32 × Int) => frame_Crc_b1 v.1 v.2) (c, 0) = some (s4 c) := by
  have h : ∀ k : Nat, k < 4 → ∀ c, frame_Crc_b1 c (k : Int) = some (.inl (sU c, ((k + 1 : Nat) : Int))) := by
    intro k hk c
    unfold frame_Crc_b1
    rw [if_pos (by simp; omega), w64_succ (by omega)]
    show some (Sum.inl (shr32 c 1 ^^^ _, _)) = _
    rw [step_frame]
  have he : ∀ c, frame_Crc_b1 c 4 = some (.inr c) := fun c => by unfold frame_Crc_b1; rfl
  have h0 := h 0 (by omega); have h1 := h 1 (by omega); have h2 := h 2 (by omega); have h3 := h 3 (by omega)
  have key : ∃ x, loopO (fun (v : UInt32 × Int) => frame_Crc_b1 v.1 v.2) (c, 0) = some x ∧ x = s4 c := by
    refine loopO_rule (f := fun (v : UInt32 × Int) => frame_Crc_b1 v.1 v.2) (fun v => (v.2 = 0 ∧ v.1 = c) ∨ (v.2 = 1 ∧ v.1 = sU c) ∨ (v.2 = 2 ∧ v.1 = sU (sU c)) ∨ (v.2 = 3 ∧ v.1 = sU (sU (sU c))) ∨ (v.2 = 4 ∧ v.1 = s4 c)) (fun v => (4 - v.2).toNat) (fun x => x = s4 c) ?_ (v0 := (c, 0)) (.inl ⟨rfl, rfl⟩) (by simp)
    rintro ⟨d, i⟩ hi
    simp only at hi
    rcases hi with ⟨rfl, rfl⟩ | ⟨rfl, rfl⟩ | ⟨rfl, rfl⟩ | ⟨rfl, rfl⟩ | ⟨rfl, rfl⟩
    · exact .inl ⟨_, h0 _, .inr (.inl ⟨rfl, rfl⟩), by simp⟩
    · exact .inl ⟨_, h1 _, .inr (.inr (.inl ⟨rfl, rfl⟩)), by simp⟩
    · exact .inl ⟨_, h2 _, .inr (.inr (.inr (.inl ⟨rfl, rfl⟩))), by simp⟩
    · exact .inl ⟨_, h3 _, .inr (.inr (.inr (.inr ⟨rfl, rfl⟩))), by simp⟩
    · exact .inr ⟨_, he _, rfl⟩
  obtain ⟨x, hx, hq⟩ := key
  rw [hx, hq]

/-- The table of the sums of four bits. -/
def tab : Arr UInt32 16 := ⟨(List.range 16).map fun i => s4 (UInt32.ofNat i), by simp⟩

theorem frame_b2 : loopO (fun (v : Int × Arr UInt32 16) => frame_Crc_b2 v.1 v.2) (0, Arr.rep 16 0) = some tab := by
  have key : ∃ x, loopO (fun (v : Int × Arr UInt32 16) => frame_Crc_b2 v.1 v.2) (0, Arr.rep 16 0) = some x ∧ x = tab := by
    refine loopO_rule (f := fun (v : Int × Arr UInt32 16) => frame_Crc_b2 v.1 v.2) (fun v => ∃ k : Nat, v.1 = (k : Int) ∧ k ≤ 16 ∧ v.2.l = ((List.range k).map fun i => s4 (UInt32.ofNat i)) ++ List.replicate (16 - k) 0) (fun v => (16 - v.1).toNat) (fun x => x = tab) ?_ (v0 := (0, Arr.rep 16 0)) ⟨0, rfl, by omega, rfl⟩ (by simp)
    rintro ⟨i, a⟩ ⟨k, hk, hk16, ha⟩
    simp only at hk ha
    subst hk
    by_cases h : k < 16
    · left
      refine ⟨(((k + 1 : Nat) : Int), a.set k (s4 (UInt32.ofInt (k : Int)))), ?_, ⟨k + 1, rfl, by omega, ?_⟩, by simp; omega⟩
      · simp only
        unfold frame_Crc_b2
        rw [if_pos (by simp; omega), frame_b1]
        simp only [Option.bind_some]
        rw [if_pos (by unfold InR; omega), w64_succ (by omega)]
        rfl
      · show a.l.set k _ = _
        rw [ha]
        have hl : ((List.range k).map fun i => s4 (UInt32.ofNat i)).length = k := by simp
        rw [List.set_append_right _ _ (by omega), hl, Nat.sub_self]
        have : 16 - k = (16 - (k + 1)) + 1 := by omega
        rw [this, List.replicate_succ, List.set_cons_zero, List.range_succ, List.map_append]
        simp only [List.map_cons, List.map_nil, List.append_assoc, List.cons_append, List.nil_append]
        congr 3
        have : k < 16 := h
        have hall : ∀ j : Fin 16, UInt32.ofInt ((j.val : Nat) : Int) = UInt32.ofNat j.val := by decide
        rw [hall ⟨k, h⟩]
    · right
      have : k = 16 := by omega
      subst this
      refine ⟨a, by simp only; unfold frame_Crc_b2; rfl, ?_⟩
      apply Arr.ext'
      rw [ha]
      simp [tab]
  obtain ⟨x, hx, hq⟩ := key
  rw [hx, hq]

theorem tab_get (c : UInt32) (h : c.toNat < 16) : tab.get c.toNat = s4 c := by
  unfold Arr.get nth tab
  simp only [List.getD_eq_getElem?_getD, List.getElem?_map, List.getElem?_range h, Option.map_some, Option.getD_some]
  congr 1
  apply UInt32.toNat_inj.1
  rw [UInt32.toNat_ofNat']
  omega

theorem and15 (c : UInt32) : (c &&& 15).toNat < 16 := by
  rw [UInt32.toNat_and]
  exact Nat.lt_of_le_of_lt Nat.and_le_right (by decide)

theorem nib (c : UInt32) : shr32 c (4 : UInt64).toNat ^^^ tab.get (c &&& 15).toNat = s4 c := by
  rw [tab_get _ (and15 c), s4_split c]; rfl

theorem crcS_snoc (c : UInt32) (l : List UInt8) (x : UInt8) : crcS c (l ++ [x]) = s8 (crcS c l ^^^ x.toUInt32) := by simp [crcS]

theorem frame_crc (b : List UInt8) (h : b.length ≤ maxLen) : frame_Crc b = some (crc b) := by
  unfold maxLen at h
  unfold frame_Crc
  rw [frame_b2]
  simp only [Option.bind_some]
  have key : ∃ x, loopO (fun (v : UInt32 × Int) => frame_Crc_b3 b tab v.1 v.2) ((4294967295 : UInt32), 0) = some x ∧ x = crcS 4294967295 b := by
    refine loopO_rule (f := fun (v : UInt32 × Int) => frame_Crc_b3 b tab v.1 v.2) (fun v => ∃ k : Nat, v.2 = (k : Int) ∧ k ≤ b.length ∧ v.1 = crcS 4294967295 (b.take k)) (fun v => (b.length - v.2).toNat) (fun x => x = crcS 4294967295 b) ?_ (v0 := ((4294967295 : UInt32), 0)) ⟨0, rfl, by omega, rfl⟩ (by simp; omega)
    rintro ⟨c, i⟩ ⟨k, hk, hkl, hc⟩
    simp only at hk hc
    subst hk
    by_cases h1 : k < b.length
    · left
      refine ⟨(s8 (c ^^^ (nth b k).toUInt32), ((k + 1 : Nat) : Int)), ?_, ⟨k + 1, rfl, by omega, ?_⟩, by simp; omega⟩
      · simp only
        unfold frame_Crc_b3
        rw [if_pos (by simp; omega), if_pos (by unfold InR; omega)]
        simp only [lt1, Int.toNat_natCast, nib]
        rw [if_pos (by unfold InR; have := and15 (c ^^^ (nth b k).toUInt32); omega), if_pos (by unfold InR; have := and15 (s4 (c ^^^ (nth b k).toUInt32)); omega), w64_succ (by omega)]
        rfl
      · simp only
        rw [List.take_succ_eq_append_getElem h1, crcS_snoc, ← hc]
        simp [nth, h1]
    · right
      have : k = b.length := by omega
      subst this
      refine ⟨c, by simp only; unfold frame_Crc_b3; rw [if_neg (by simp)], ?_⟩
      rw [hc, List.take_length]
  obtain ⟨x, hx, hq⟩ := key
  rw [hx, hq]; rfl

theorem ref_b1 (c : UInt32) : loopO (fun (v : UInt32 × Int) => r10_Crc_b1 v.1 v.2) (c, 0) = some (s8 c) := by
  have h : ∀ k : Nat, k < 8 → ∀ c, r10_Crc_b1 c (k : Int) = some (.inl (sU c, ((k + 1 : Nat) : Int))) := by
    intro k hk c
    unfold r10_Crc_b1
    rw [if_pos (by simp; omega), w64_succ (by omega), ← step_ref c]
    simp only [lt1]
    split <;> rfl
  have he : ∀ c, r10_Crc_b1 c 8 = some (.inr c) := fun c => by unfold r10_Crc_b1; rfl
  have hit : ∀ (k : Nat) (c : UInt32), (Nat.repeat sU k) (sU c) = Nat.repeat sU (k + 1) c := by
    intro k
    induction k with
    | zero => intro c; rfl
    | succ k ih => intro c; show sU (Nat.repeat sU k (sU c)) = _; rw [ih]; rfl
  have key : ∃ x, loopO (fun (v : UInt32 × Int) => r10_Crc_b1 v.1 v.2) (c, 0) = some x ∧ x = s8 c := by
    refine loopO_rule (f := fun (v : UInt32 × Int) => r10_Crc_b1 v.1 v.2) (fun v => ∃ k : Nat, v.2 = (k : Int) ∧ k ≤ 8 ∧ v.1 = Nat.repeat sU k c) (fun v => (8 - v.2).toNat) (fun x => x = s8 c) ?_ (v0 := (c, 0)) ⟨0, rfl, by omega, rfl⟩ (by simp)
    rintro ⟨d, i⟩ ⟨k, hk, hk8, hd⟩
    simp only at hk hd
    subst hk
    by_cases h8 : k < 8
    · exact .inl ⟨_, h k h8 d, ⟨k + 1, rfl, by omega, by rw [hd]; rfl⟩, by simp; omega⟩
    · have : k = 8 := by omega
      subst this
      exact .inr ⟨_, he d, hd⟩
  obtain ⟨x, hx, hq⟩ := key
  rw [hx, hq]

theorem ref_crc (b : List UInt8) (h : b.length ≤ maxLen) : r10_Crc b = some (crc b) := by
  unfold maxLen at h
  unfold r10_Crc
  have key : ∃ x, loopO (fun (v : UInt32 × Int) => r10_Crc_b2 b v.1 v.2) ((4294967295 : UInt32), 0) = some x ∧ x = crcS 4294967295 b := by
    refine loopO_rule (f := fun (v : UInt32 × Int) => r10_Crc_b2 b v.1 v.2) (fun v => ∃ k : Nat, v.2 = (k : Int) ∧ k ≤ b.length ∧ v.1 = crcS 4294967295 (b.take k)) (fun v => (b.length - v.2).toNat) (fun x => x = crcS 4294967295 b) ?_ (v0 := ((4294967295 : UInt32), 0)) ⟨0, rfl, by omega, rfl⟩ (by simp; omega)
    rintro ⟨c, i⟩ ⟨k, hk, hkl, hc⟩
    simp only at hk hc
    subst hk
    by_cases h1 : k < b.length
    · left
      refine ⟨(s8 (c ^^^ (nth b k).toUInt32), ((k + 1 : Nat) : Int)), ?_, ⟨k + 1, rfl, by omega, ?_⟩, by simp; omega⟩
      · simp only
        unfold r10_Crc_b2
        rw [if_pos (by simp; omega), if_pos (by unfold InR; omega)]
        simp only [lt1, Int.toNat_natCast, ref_b1, Option.bind_some]
        rw [w64_succ (by omega)]
      · simp only
        rw [List.take_succ_eq_append_getElem h1, crcS_snoc, ← hc]
        simp [nth, h1]
    · right
      have : k = b.length := by omega
      subst this
      refine ⟨c, by simp only; unfold r10_Crc_b2; rw [if_neg (by simp)], ?_⟩
      rw [hc, List.take_length]
  obtain ⟨x, hx, hq⟩ := key
  rw [hx, hq]
  simp only [Option.bind_some]
  congr 1
  unfold crc
  apply UInt32.toBitVec_inj.1
  show (crcS 4294967295 b).toBitVec ^^^ 0xffffffff#32 = ~~~ (crcS 4294967295 b).toBitVec
  rw [BitVec.not_def, BitVec.xor_comm]; rfl

end Go.Proofs.Ytneejmndnihaoaa
