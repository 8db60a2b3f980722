/-
  What Feed of the program returns, byte by byte.
-/
import Derived.Test.YtneejmndnihaoaaA2
namespace Go.Proofs.Ytneejmndnihaoaa
open Go.Rv
set_option linter.unusedVariables false

/-- A content, and whether it is undamaged. -/
def contentS (d : Api_Deframer) : List UInt8 × Bool :=
  if d.Escape = true ∨ d.Bad = true ∨ d.Rest.length < 4 ∨ 8196 < d.Rest.length then ([], false)
  else (d.Rest.take (d.Rest.length - 4), sealB (crc (d.Rest.take (d.Rest.length - 4))) == d.Rest.drop (d.Rest.length - 4))

theorem frame_content_eq (d : Api_Deframer) (h : d.Rest.length ≤ 100000000) : frame_content d = some (contentS d) := by
  unfold frame_content contentS
  simp only [lt1]
  have hw : w64 ((d.Rest.length : Int) - 4) = (d.Rest.length : Int) - 4 := w64_id (by omega)
  rw [hw]
  cases he : d.Escape
  · cases hb : d.Bad
    · by_cases h4 : d.Rest.length < 4
      · have h1 : decide ((d.Rest.length : Int) - 4 < 0) = true := by simp; omega
        simp [h1, h4]
      · have h1 : decide ((d.Rest.length : Int) - 4 < 0) = false := by simp; omega
        by_cases h8 : 8196 < d.Rest.length
        · have h2 : decide ((d.Rest.length : Int) - 4 > 8192) = true := by simp; omega
          simp [h1, h2, h4, h8]
        · have h2 : decide ((d.Rest.length : Int) - 4 > 8192) = false := by simp; omega
          have hn : ((d.Rest.length : Int) - 4).toNat = d.Rest.length - 4 := by omega
          have hB : InB ((d.Rest.length : Int) - 4) d.Rest.length := by unfold InB; omega
          have hB2 : InB ((d.Rest.length : Int) - 4) (d.Rest.length - 4) := by unfold InB; omega
          have htk : (d.Rest.drop (d.Rest.length - 4)).take (d.Rest.length - (d.Rest.length - 4)) = d.Rest.drop (d.Rest.length - 4) := List.take_of_length_le (by simp)
          rw [if_neg (show ¬ (false = true ∨ false = true ∨ d.Rest.length < 4 ∨ 8196 < d.Rest.length) by simp; omega)]
          simp only [h1, h2, hn, Option.bind_some, Bool.false_eq_true, if_false, if_pos hB, if_pos hB2, htk]
          rw [frame_seal_eq _ (by simp [maxLen]; omega)]
          rfl
    · simp
  · simp

def stepS (s : Api_Deframer × List (List UInt8) × Nat) (c : UInt8) : Api_Deframer × List (List UInt8) × Nat :=
  if c = 126 then
    (⟨[], true, false, false⟩, if s.1.In = true ∧ (s.1.Rest ≠ [] ∨ s.1.Escape = true ∨ s.1.Bad = true) then (if (contentS s.1).2 = true then (s.2.1 ++ [(contentS s.1).1], s.2.2) else (s.2.1, s.2.2 + 1)) else s.2)
  else if s.1.In = false ∨ s.1.Bad = true then s
  else if c = 125 ∧ s.1.Escape = false then (⟨s.1.Rest, s.1.In, true, s.1.Bad⟩, s.2)
  else if 8196 ≤ s.1.Rest.length then (⟨[], s.1.In, false, true⟩, s.2)
  else (⟨s.1.Rest ++ [if s.1.Escape = true then c ^^^ 32 else c], s.1.In, false, s.1.Bad⟩, s.2)

def feedS (s : Api_Deframer × List (List UInt8) × Nat) (b : List UInt8) : Api_Deframer × List (List UInt8) × Nat := b.foldl stepS s

theorem stepS_rest (s : Api_Deframer × List (List UInt8) × Nat) (c : UInt8) : (stepS s c).1.Rest.length ≤ s.1.Rest.length + 1 := by
  unfold stepS
  repeat' split
  all_goals simp
theorem stepS_l (s : Api_Deframer × List (List UInt8) × Nat) (c : UInt8) : (stepS s c).2.1.length ≤ s.2.1.length + 1 := by
  unfold stepS
  repeat' split
  all_goals simp
theorem stepS_bad (s : Api_Deframer × List (List UInt8) × Nat) (c : UInt8) : (stepS s c).2.2 ≤ s.2.2 + 1 := by
  unfold stepS
  repeat' split
  all_goals simp
theorem feedS_snoc (s : Api_Deframer × List (List UInt8) × Nat) (b : List UInt8) (c : UInt8) : feedS s (b ++ [c]) = stepS (feedS s b) c := by simp [feedS]
theorem feedS_bounds (s : Api_Deframer × List (List UInt8) × Nat) (b : List UInt8) : (feedS s b).1.Rest.length ≤ s.1.Rest.length + b.length ∧ (feedS s b).2.1.length ≤ s.2.1.length + b.length ∧ (feedS s b).2.2 ≤ s.2.2 + b.length := by
  induction b generalizing s with
  | nil => simp [feedS]
  | cons c b ih =>
    have h := ih (stepS s c)
    have h1 := stepS_rest s c
    have h2 := stepS_l s c
    have h3 := stepS_bad s c
    show (feedS (stepS s c) b).1.Rest.length ≤ _ ∧ (feedS (stepS s c) b).2.1.length ≤ _ ∧ (feedS (stepS s c) b).2.2 ≤ _
    simp only [List.length_cons]
    omega

theorem fits24 {n : Nat} (h : n ≤ 100000000) : Fits n 24 := by unfold Fits maxLen roomB; omega

theorem feed_round (b : List UInt8) (s : Api_Deframer × List (List UInt8) × Nat) (k : Nat) (hk : k < b.length) (hb : b.length ≤ 40000000) (h1 : s.1.Rest.length ≤ 90000000) (h2 : s.2.1.length ≤ 90000000) (h3 : s.2.2 ≤ 90000000) :
    frame_Feed_b1 b (s.2.2 : Int) (k : Int) s.1.In s.1.Escape s.1.Bad s.2.1 s.1.Rest = some (.inl (((stepS s (nth b k)).2.2 : Int), ((k + 1 : Nat) : Int), (stepS s (nth b k)).1.In, (stepS s (nth b k)).1.Escape, (stepS s (nth b k)).1.Bad, (stepS s (nth b k)).2.1, (stepS s (nth b k)).1.Rest)) := by
  obtain ⟨⟨rest, fin, fesc, fbad⟩, l, n⟩ := s
  simp only at h1 h2 h3
  unfold frame_Feed_b1
  simp only [Int.toNat_natCast, lt1]
  have hkk : w64 ((k : Int) + 1) = ((k + 1 : Nat) : Int) := w64_succ (by omega)
  rw [if_pos (by simp; omega), if_pos (inR_of hk)]
  simp only [hkk]
  generalize nth b k = c
  have hf : Fits (rest.length + 1) 1 := fits1 (by omega)
  have hf2 : Fits (l.length + 1) 24 := fits24 (by omega)
  have hn : w64 ((n : Int) + 1) = ((n + 1 : Nat) : Int) := w64_succ (by omega)
  have hc := frame_content_eq ⟨rest, fin, fesc, fbad⟩ (by simp only; omega)
  unfold stepS
  simp only
  by_cases c1 : c = 126
  · subst c1
    simp only [beq_self_eq_true, if_true]
    cases fin
    · simp
    · by_cases hr : rest = []
      · subst hr
        cases fesc
        · cases fbad
          · simp
          · simp [hc, hf2, hn]
            cases hcc : (contentS ⟨[], true, false, true⟩).2 <;> simp [hcc, hf2, hn]
        · simp [hc, hf2, hn]
          cases hcc : (contentS ⟨[], true, true, fbad⟩).2 <;> simp [hcc, hf2, hn]
      · have hpos : 0 < rest.length := List.length_pos_iff.2 hr
        have hd : decide ((rest.length : Int) > 0) = true := by simp; omega
        simp only [hd, if_true, Option.bind_some, hc]
        cases hcc : (contentS ⟨rest, true, fesc, fbad⟩).2 <;> simp [hcc, hf2, hn, hr]
  · have e1 : (c == 126) = false := by simp [c1]
    simp only [e1, Bool.false_eq_true, if_false, c1]
    cases fin
    · simp
    · cases fbad
      · by_cases c2 : c = 125
        · subst c2
          cases fesc
          · simp
          · by_cases h8 : 8196 ≤ rest.length
            · have h8i : (8196 : Int) ≤ (rest.length : Int) := by omega
              simp [h8, h8i]
            · have h8i : ¬ (8196 : Int) ≤ (rest.length : Int) := by omega
              simp [h8, h8i, hf]
        · have e2 : (c == 125) = false := by simp [c2]
          cases fesc
          · by_cases h8 : 8196 ≤ rest.length
            · have h8i : (8196 : Int) ≤ (rest.length : Int) := by omega
              simp [e2, c2, h8, h8i]
            · have h8i : ¬ (8196 : Int) ≤ (rest.length : Int) := by omega
              simp [e2, c2, h8, h8i, hf]
          · by_cases h8 : 8196 ≤ rest.length
            · have h8i : (8196 : Int) ≤ (rest.length : Int) := by omega
              simp [e2, c2, h8, h8i]
            · have h8i : ¬ (8196 : Int) ≤ (rest.length : Int) := by omega
              simp [e2, c2, h8, h8i, hf]
      · simp

theorem frame_feed (d : Api_Deframer) (b : List UInt8) (hd : d.Rest.length ≤ 40000000) (hb : b.length ≤ 40000000) :
    frame_Feed d b = some ((feedS (d, [], 0) b).1, (feedS (d, [], 0) b).2.1, ((feedS (d, [], 0) b).2.2 : Int)) := by
  unfold frame_Feed
  rw [if_pos (by unfold Mk maxLen roomB; omega)]
  simp only [lt1]
  have hov : ovl (List.replicate ((d.Rest.length : Int)).toNat (0 : UInt8)) (d.Rest.take (min d.Rest.length (List.replicate ((d.Rest.length : Int)).toNat (0 : UInt8)).length)) 0 = d.Rest := by
    simp [ovl]
  rw [hov]
  obtain ⟨x, hx, hq⟩ : ∃ x, loopO (fun (v : Int × Int × Bool × Bool × Bool × List (List UInt8) × List UInt8) => frame_Feed_b1 b v.1 v.2.1 v.2.2.1 v.2.2.2.1 v.2.2.2.2.1 v.2.2.2.2.2.1 v.2.2.2.2.2.2) (0, 0, d.In, d.Escape, d.Bad, [], d.Rest) = some x ∧
      x = (((feedS (d, [], 0) b).2.2 : Int), (feedS (d, [], 0) b).1.In, (feedS (d, [], 0) b).1.Escape, (feedS (d, [], 0) b).1.Bad, (feedS (d, [], 0) b).2.1, (feedS (d, [], 0) b).1.Rest) := by
    refine loopO_for b.length (fun k v => ∃ s, s = feedS (d, [], 0) (b.take k) ∧ v = ((s.2.2 : Int), (k : Int), s.1.In, s.1.Escape, s.1.Bad, s.2.1, s.1.Rest)) _ (by omega) ?_ ?_ ⟨_, rfl, rfl⟩
    · rintro k v hk ⟨s, hs, rfl⟩
      have hbd := feedS_bounds (d, [], 0) (b.take k)
      rw [← hs] at hbd
      simp only [List.length_take, List.length_nil] at hbd
      refine ⟨_, feed_round b s k hk hb (by omega) (by omega) (by omega), stepS s (nth b k), ?_, rfl⟩
      rw [List.take_succ_eq_append_getElem hk, feedS_snoc, ← hs]
      congr 1
      simp [nth, hk]
    · rintro v ⟨s, hs, rfl⟩
      rw [List.take_length] at hs
      subst hs
      refine ⟨_, ?_, rfl⟩
      simp only
      unfold frame_Feed_b1
      rw [if_neg (by simp)]
  rw [hx, hq]
  rfl

end Go.Proofs.Ytneejmndnihaoaa
