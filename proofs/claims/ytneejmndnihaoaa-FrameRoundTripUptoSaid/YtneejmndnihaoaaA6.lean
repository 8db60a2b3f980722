/-
  The frames of a list of contents, one after the other.
-/
import Derived.Test.YtneejmndnihaoaaA4
import Derived.Test.YtneejmndnihaoaaA5
namespace Go.Proofs.Ytneejmndnihaoaa
open Go.Rv
set_option linter.unusedVariables false

def tot (l : List (List UInt8)) : Nat := (l.map fun b => b.length + 1).sum

theorem tot_cons (b : List UInt8) (l : List (List UInt8)) : tot (b :: l) = b.length + 1 + tot l := rfl
theorem tot_filter (p : List UInt8 → Bool) (l : List (List UInt8)) : tot (l.filter p) ≤ tot l := by
  induction l with
  | nil => simp
  | cons b l ih =>
    rw [List.filter_cons, tot_cons]
    split
    · rw [tot_cons]; omega
    · omega
theorem tot_take (k : Nat) (l : List (List UInt8)) : tot (l.take k) ≤ tot l := by
  induction l generalizing k with
  | nil => simp
  | cons b l ih =>
    cases k with
    | zero => simp [tot]
    | succ k => rw [List.take_succ_cons, tot_cons, tot_cons]; have := ih k; omega
theorem tot_len (l : List (List UInt8)) : l.length ≤ tot l := by
  induction l with
  | nil => simp
  | cons b l ih => rw [tot_cons, List.length_cons]; omega
theorem tot_mem {l : List (List UInt8)} {b : List UInt8} (h : b ∈ l) : b.length + 1 ≤ tot l := by
  induction l with
  | nil => cases h
  | cons c l ih =>
    rw [tot_cons]
    rcases List.mem_cons.1 h with rfl | h
    · omega
    · have := ih h; omega
theorem frames_len (l : List (List UInt8)) : ((l.map frameOf).flatten).length ≤ 10 * tot l := by
  induction l with
  | nil => simp
  | cons b l ih =>
    rw [List.map_cons, List.flatten_cons, List.length_append, tot_cons]
    have := (frameOf_len b).2
    omega
theorem tails_len (l : List (List UInt8)) : ((l.map fun b => (frameOf b).drop 1).flatten).length ≤ 10 * tot l := by
  induction l with
  | nil => simp
  | cons b l ih =>
    rw [List.map_cons, List.flatten_cons, List.length_append, tot_cons]
    have := (frameOf_len b).2
    simp only [List.length_drop]
    omega

def good (l : List (List UInt8)) : List (List UInt8) := l.filter fun b => decide (b.length ≤ 8192)

theorem round_step (l : List (List UInt8)) (h : tot l ≤ 1048576) (k : Nat) (hk : k < l.length) :
    law10_FrameRoundTrip_b1 l (k : Int) ((good (l.take k)).map frameOf).flatten (126 :: ((good (l.take k)).map fun b => (frameOf b).drop 1).flatten) (good (l.take k)) =
    some (.inl (((k + 1 : Nat) : Int), ((good (l.take (k + 1))).map frameOf).flatten, 126 :: ((good (l.take (k + 1))).map fun b => (frameOf b).drop 1).flatten, good (l.take (k + 1)))) := by
  have hn : nth l k = l[k] := by simp [nth, hk]
  have hb : l[k].length + 1 ≤ tot l := tot_mem (List.getElem_mem hk)
  have hg : tot (good (l.take k)) ≤ tot l := Nat.le_trans (tot_filter _ _) (tot_take _ _)
  have h1 := frames_len (good (l.take k))
  have h2 := tails_len (good (l.take k))
  have h3 := tot_len (good (l.take k))
  have hkk : w64 ((k : Int) + 1) = ((k + 1 : Nat) : Int) := w64_succ (by have := tot_len l; omega)
  have hgo : good (l.take (k + 1)) = good (l.take k) ++ (if l[k].length ≤ 8192 then [l[k]] else []) := by
    unfold good
    rw [List.take_succ_eq_append_getElem hk, List.filter_append]
    congr 1
    by_cases h8 : l[k].length ≤ 8192 <;> simp [h8]
  unfold law10_FrameRoundTrip_b1
  simp only [Int.toNat_natCast, hn]
  rw [if_pos (by simp; omega), if_pos (inR_of hk), frame_make _ (by unfold maxLen; omega)]
  by_cases h8 : 8192 < l[k].length
  · have d1 : decide ((l[k].length : Int) > 8192) = true := by simp; omega
    have hgo' : good (l.take (k + 1)) = good (l.take k) := by rw [hgo, if_neg (by omega), List.append_nil]
    rw [hgo']
    simp only [if_pos h8, Option.bind_some, if_pos (inR_of hk), d1, if_true]
    simp [hkk]
  · have d1 : decide ((l[k].length : Int) > 8192) = false := by simp; omega
    have hgo' : good (l.take (k + 1)) = good (l.take k) ++ [l[k]] := by rw [hgo, if_pos (by omega)]
    obtain ⟨f1, f2⟩ := frameOf_len l[k]
    have d2 : decide (((frameOf l[k]).length : Int) < 2) = false := by simp; omega
    have htk : ((frameOf l[k]).drop 1).take ((frameOf l[k]).length - 1) = (frameOf l[k]).drop 1 := List.take_of_length_le (by simp)
    have q1 : Fits (((good (l.take k)).map frameOf).flatten.length + (frameOf l[k]).length) 1 := fits1 (by omega)
    have q2 : InB 1 (frameOf l[k]).length := by unfold InB; omega
    have q3 : Fits ((126 :: ((good (l.take k)).map fun b => (frameOf b).drop 1).flatten).length + ((frameOf l[k]).drop 1).length) 1 := fits1 (by simp only [List.length_cons, List.length_drop]; omega)
    have q4 : Fits ((good (l.take k)).length + 1) 24 := fits24 (by omega)
    rw [hgo']
    simp only [if_neg h8, Option.bind_some, if_pos (inR_of hk), d1, Bool.false_eq_true, if_false, htk, lt1, d2, if_pos q1, if_pos q2, if_pos q3, if_pos q4]
    simp [hkk]

theorem law_roundtrip (l : List (List UInt8)) (h : tot l ≤ 1048576) : law10_FrameRoundTrip l = some true := by
  have hl := tot_len l
  have hg : tot (good l) ≤ tot l := tot_filter _ _
  have h1 := frames_len (good l)
  have h2 := tails_len (good l)
  unfold law10_FrameRoundTrip
  rw [sane_ok]
  simp only [Option.bind_some, Bool.not_true, Bool.false_eq_true, if_false, lt1]
  obtain ⟨x, hx, hq⟩ : ∃ x, loopO (fun (v : Int × List UInt8 × List UInt8 × List (List UInt8)) => law10_FrameRoundTrip_b1 l v.1 v.2.1 v.2.2.1 v.2.2.2) (0, [], [126], []) = some x ∧
      x = .inl (((good l).map frameOf).flatten, 126 :: ((good l).map fun b => (frameOf b).drop 1).flatten, good l) := by
    refine loopO_for l.length (fun k v => v = ((k : Int), ((good (l.take k)).map frameOf).flatten, 126 :: ((good (l.take k)).map fun b => (frameOf b).drop 1).flatten, good (l.take k))) _ (by omega) ?_ ?_ rfl
    · rintro k v hk rfl
      exact ⟨_, round_step l h k hk, rfl⟩
    · rintro v rfl
      refine ⟨_, ?_, rfl⟩
      unfold law10_FrameRoundTrip_b1
      rw [if_neg (by simp), List.take_length]
  rw [hx, hq]
  simp only [Option.bind_some]
  by_cases he : good l = []
  · simp [he]
  · have e0 : (((good l).length : Int) == 0) = false := by simp [he]
    have hgl : ∀ b ∈ good l, b.length ≤ 8192 := fun b hb => by
      have := (List.mem_filter.1 hb).2
      simpa using this
    have r1 := receives_eq ((good l).map frameOf).flatten (good l) 0 (by omega)
    rw [feed_frames (good l) ⟨[], false, false, false⟩ ⟨rfl, rfl, rfl⟩ he hgl] at r1
    have r2 := receives_eq (126 :: ((good l).map fun b => (frameOf b).drop 1).flatten) (good l) 0 (by simp only [List.length_cons]; omega)
    have e2 : feedS (⟨[], false, false, false⟩, [], 0) (126 :: ((good l).map fun b => (frameOf b).drop 1).flatten) = (R0, [] ++ good l, 0) := by
      show feedS (stepS (⟨[], false, false, false⟩, [], 0) 126) _ = _
      rw [feed_flag _ ⟨rfl, rfl, rfl⟩, feed_shared (good l) hgl]
    rw [e2] at r2
    simp only [e0, Bool.false_eq_true, if_false, r1, r2]
    simp

end Go.Proofs.Ytneejmndnihaoaa
