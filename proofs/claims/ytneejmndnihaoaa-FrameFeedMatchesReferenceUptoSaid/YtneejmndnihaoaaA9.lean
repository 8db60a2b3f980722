/-
  FrameFeedMatchesReference, the plain law.
-/
import Derived.Test.YtneejmndnihaoaaA5
namespace Go.Proofs.Ytneejmndnihaoaa
open Go.Rv
set_option linter.unusedVariables false
set_option linter.unusedSimpArgs false

theorem take_eq (l x : List UInt8) (n : Nat) : (l.take n ++ x == l) = (x == l.drop n) := by
  rw [Bool.eq_iff_iff, beq_iff_eq, beq_iff_eq]
  constructor
  · intro h
    have h2 : l.take n ++ x = l.take n ++ l.drop n := by rw [List.take_append_drop]; exact h
    exact List.append_cancel_left h2
  · intro h
    rw [h, List.take_append_drop]

theorem ref_content (d : Api_Deframer) (h : d.Rest.length ≤ 100000000) : r10_content d = some (if (contentS d).2 = true then contentS d else ([], false)) := by
  unfold r10_content contentS
  simp only [lt1]
  have hw : w64 ((d.Rest.length : Int) - 4) = (d.Rest.length : Int) - 4 := w64_id (by omega)
  rw [hw]
  cases he : d.Escape
  · cases hb : d.Bad
    · by_cases h4 : d.Rest.length < 4
      · have h1 : decide ((d.Rest.length : Int) - 4 < 0) = true := by simp; omega
        simp [h1, h4]
      · have h1 : decide ((d.Rest.length : Int) - 4 < 0) = false := by simp; omega
        by_cases h8 : 8196 < d.Rest.length
        · have h2 : decide ((d.Rest.length : Int) - 4 > 8192) = true := by simp; omega
          simp [h1, h2, h4, h8]
        · have h2 : decide ((d.Rest.length : Int) - 4 > 8192) = false := by simp; omega
          have hn : ((d.Rest.length : Int) - 4).toNat = d.Rest.length - 4 := by omega
          have hB : InB ((d.Rest.length : Int) - 4) d.Rest.length := by unfold InB; omega
          have hl : (d.Rest.take (d.Rest.length - 4)).length ≤ 100000000 := by simp; omega
          rw [if_neg (show ¬ (false = true ∨ false = true ∨ d.Rest.length < 4 ∨ 8196 < d.Rest.length) by simp; omega)]
          simp only [h1, h2, hn, Option.bind_some, Bool.false_eq_true, if_false, if_pos hB]
          rw [ref_crc _ (by unfold maxLen; omega)]
          simp only [Option.bind_some]
          rw [ref_sealed _ _ (by omega)]
          simp only [Option.bind_some]
          have e : (d.Rest.take (d.Rest.length - 4) ++ sealB (crc (d.Rest.take (d.Rest.length - 4))) == d.Rest) = (sealB (crc (d.Rest.take (d.Rest.length - 4))) == d.Rest.drop (d.Rest.length - 4)) := take_eq _ _ _
          rw [e]
          cases hcc : (sealB (crc (d.Rest.take (d.Rest.length - 4))) == d.Rest.drop (d.Rest.length - 4)) <;> simp
    · simp
  · simp

theorem ref_next (d : Api_Deframer) (c : UInt8) (hc : c ≠ 126) (h : d.Rest.length ≤ 90000000) (l : List (List UInt8) × Nat) :
    (r10_next d c = some (.inl (stepS (d, l) c).1) ∨ ∃ z, r10_next d c = some (.inr ((stepS (d, l) c).1, z)) ∧ (stepS (d, l) c).1.Rest = []) ∧ (stepS (d, l) c).2 = l := by
  obtain ⟨rest, fin, fesc, fbad⟩ := d
  simp only at h
  have hf : Fits (rest.length + 1) 1 := fits1 (by omega)
  unfold r10_next stepS
  simp only [hc, if_false, lt1]
  cases fin
  · simp
  · cases fbad
    · by_cases c2 : c = 125
      · subst c2
        cases fesc
        · simp
        · by_cases h8 : 8196 ≤ rest.length
          · have h8i : (8196 : Int) ≤ (rest.length : Int) := by omega
            simp [h8, h8i]
          · have h8i : ¬ (8196 : Int) ≤ (rest.length : Int) := by omega
            simp [h8, h8i, hf]
      · have e2 : (c == 125) = false := by simp [c2]
        cases fesc
        · by_cases h8 : 8196 ≤ rest.length
          · have h8i : (8196 : Int) ≤ (rest.length : Int) := by omega
            simp [e2, c2, h8, h8i]
          · have h8i : ¬ (8196 : Int) ≤ (rest.length : Int) := by omega
            simp [e2, c2, h8, h8i, hf]
        · by_cases h8 : 8196 ≤ rest.length
          · have h8i : (8196 : Int) ≤ (rest.length : Int) := by omega
            simp [e2, c2, h8, h8i]
          · have h8i : ¬ (8196 : Int) ≤ (rest.length : Int) := by omega
            simp [e2, c2, h8, h8i, hf]
    · simp

theorem ref_round (b : List UInt8) (s : Api_Deframer × List (List UInt8) × Nat) (k : Nat) (hk : k < b.length) (hb : b.length ≤ 40000000) (h1 : s.1.Rest.length ≤ 90000000) (h2 : s.2.1.length ≤ 90000000) (h3 : s.2.2 ≤ 90000000) :
    r10_Feed_b1 b (s.2.2 : Int) (k : Int) s.1.In s.1.Escape s.1.Bad s.2.1 s.1.Rest = some (.inl (((stepS s (nth b k)).2.2 : Int), ((k + 1 : Nat) : Int), (stepS s (nth b k)).1.In, (stepS s (nth b k)).1.Escape, (stepS s (nth b k)).1.Bad, (stepS s (nth b k)).2.1, (stepS s (nth b k)).1.Rest)) := by
  obtain ⟨⟨rest, fin, fesc, fbad⟩, l, n⟩ := s
  simp only at h1 h2 h3
  unfold r10_Feed_b1
  simp only [Int.toNat_natCast, lt1]
  have hkk : w64 ((k : Int) + 1) = ((k + 1 : Nat) : Int) := w64_succ (by omega)
  rw [if_pos (by simp; omega), if_pos (inR_of hk)]
  simp only [hkk]
  generalize nth b k = c
  have hf2 : Fits (l.length + 1) 24 := fits24 (by omega)
  have hn : w64 ((n : Int) + 1) = ((n + 1 : Nat) : Int) := w64_succ (by omega)
  have hc := ref_content ⟨rest, fin, fesc, fbad⟩ (by simp only; omega)
  by_cases c1 : c = 126
  · subst c1
    unfold stepS
    simp only
    have e0 : ((126 : UInt8) != 126) = false := rfl
    simp only [e0, Bool.false_eq_true, if_false, if_true]
    cases fin
    · simp
    · by_cases hr : rest = []
      · subst hr
        cases fesc
        · cases fbad
          · simp
          · simp [hc, hf2, hn]
            cases hcc : (contentS ⟨[], true, false, true⟩).2 <;> simp [hcc, hf2, hn]
        · simp [hc, hf2, hn]
          cases hcc : (contentS ⟨[], true, true, fbad⟩).2 <;> simp [hcc, hf2, hn]
      · have hpos : 0 < rest.length := List.length_pos_iff.2 hr
        have hd : decide ((rest.length : Int) > 0) = true := by simp; omega
        simp only [hd, if_true, Option.bind_some, hc]
        cases hcc : (contentS ⟨rest, true, fesc, fbad⟩).2 <;> simp [hcc, hf2, hn, hr]
  · have e1 : (c != 126) = true := by simp [c1]
    simp only [e1, if_true, if_pos (inR_of hk)]
    obtain ⟨h5, h6⟩ := ref_next ⟨rest, fin, fesc, fbad⟩ c c1 h1 (l, n)
    rcases h5 with h5 | ⟨z, h5, h7⟩
    · rw [h5]
      simp only [Option.bind_some, h6]
    · rw [h5]
      simp only [Option.bind_some, h6, h7]

theorem ref_feed (d : Api_Deframer) (b : List UInt8) (hd : d.Rest.length ≤ 40000000) (hb : b.length ≤ 40000000) :
    r10_Feed d b = some ((feedS (d, [], 0) b).1, (feedS (d, [], 0) b).2.1, ((feedS (d, [], 0) b).2.2 : Int)) := by
  unfold r10_Feed
  simp only [lt1, List.nil_append, List.length_nil, Nat.zero_add]
  rw [if_pos (fits1 (by omega))]
  obtain ⟨x, hx, hq⟩ : ∃ x, loopO (fun (v : Int × Int × Bool × Bool × Bool × List (List UInt8) × List UInt8) => r10_Feed_b1 b v.1 v.2.1 v.2.2.1 v.2.2.2.1 v.2.2.2.2.1 v.2.2.2.2.2.1 v.2.2.2.2.2.2) (0, 0, d.In, d.Escape, d.Bad, [], d.Rest) = some x ∧
      x = (((feedS (d, [], 0) b).2.2 : Int), (feedS (d, [], 0) b).1.In, (feedS (d, [], 0) b).1.Escape, (feedS (d, [], 0) b).1.Bad, (feedS (d, [], 0) b).2.1, (feedS (d, [], 0) b).1.Rest) := by
    refine loopO_for b.length (fun k v => ∃ s, s = feedS (d, [], 0) (b.take k) ∧ v = ((s.2.2 : Int), (k : Int), s.1.In, s.1.Escape, s.1.Bad, s.2.1, s.1.Rest)) _ (by omega) ?_ ?_ ⟨_, rfl, rfl⟩
    · rintro k v hk ⟨s, hs, rfl⟩
      have hbd := feedS_bounds (d, [], 0) (b.take k)
      rw [← hs] at hbd
      simp only [List.length_take, List.length_nil] at hbd
      refine ⟨_, ref_round b s k hk hb (by omega) (by omega) (by omega), stepS s (nth b k), ?_, rfl⟩
      rw [List.take_succ_eq_append_getElem hk, feedS_snoc, ← hs]
      congr 1
      simp [nth, hk]
    · rintro v ⟨s, hs, rfl⟩
      rw [List.take_length] at hs
      subst hs
      refine ⟨_, ?_, rfl⟩
      simp only
      unfold r10_Feed_b1
      rw [if_neg (by simp)]
  rw [hx, hq]
  rfl

theorem law_feedref (d : Api_Deframer) (b : List UInt8) (h : d.Rest.length + b.length ≤ 4000000) : law10_FrameFeedMatchesReference d b = some true := by
  unfold law10_FrameFeedMatchesReference
  rw [sane_ok, frame_feed d b (by omega) (by omega), ref_feed d b (by omega) (by omega)]
  have hb := feedS_bounds (d, [], 0) b
  simp only [List.length_nil, Nat.zero_add] at hb
  simp only [Option.bind_some, Bool.not_true, Bool.false_eq_true, if_false, sameState_eq]
  rw [same_eq _ _ (by omega)]
  simp

end Go.Proofs.Ytneejmndnihaoaa
