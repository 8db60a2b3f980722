/-
  FrameResynchronizes, the plain law.
-/
import Derived.Test.YtneejmndnihaoaaA7
import Derived.Test.YtneejmndnihaoaaA4
namespace Go.Proofs.Ytneejmndnihaoaa
open Go.Rv
set_option linter.unusedVariables false
set_option linter.unusedSimpArgs false

theorem step_flag (s : Api_Deframer × List (List UInt8) × Nat) : (stepS s 126).1 = R0 := by
  unfold stepS
  simp only [if_true]
  repeat' split
  all_goals rfl

theorem feed_last (d : Api_Deframer) (p b : List UInt8) (h : b.length ≤ 8192) :
    feedS (d, [], 0) (p ++ frameOf b) = (R0, (feedS (d, [], 0) (p ++ [126])).2.1 ++ [b], (feedS (d, [], 0) (p ++ [126])).2.2) := by
  have e : p ++ frameOf b = (p ++ [126]) ++ (frameOf b).drop 1 := by
    have : frameOf b = [126] ++ (frameOf b).drop 1 := rfl
    rw [List.append_assoc, ← this]
  rw [e, feed_app]
  have h1 : (feedS (d, [], 0) (p ++ [126])).1 = R0 := by rw [feedS_snoc]; exact step_flag _
  generalize hs : feedS (d, [], 0) (p ++ [126]) = s at h1
  obtain ⟨s1, s2, s3⟩ := s
  cases h1
  exact feed_tail b h s2 s3

theorem law_resync (d : Api_Deframer) (p b : List UInt8) (h : d.Rest.length + p.length + b.length ≤ 4000000) : law10_FrameResynchronizes d p b = some true := by
  unfold law10_FrameResynchronizes
  rw [sane_ok, frame_make b (by unfold maxLen; omega)]
  simp only [Option.bind_some, Bool.not_true, Bool.false_eq_true, if_false]
  by_cases hb : 8192 < b.length
  · rw [if_pos hb]
    have : decide ((b.length : Int) > 8192) = true := by simp; omega
    simp only [Option.bind_some, this]
    simp
  · rw [if_neg hb]
    have e0 : ((frameOf b, (0 : Int)).2 != 0) = false := rfl
    have hf := (frameOf_len b).2
    have b1 := feedS_bounds (d, [], 0) (p ++ [126])
    simp only [List.length_nil, Nat.zero_add, List.length_append, List.length_cons] at b1
    simp only [Option.bind_some, e0, Bool.false_eq_true, if_false]
    rw [joined_eq p (frameOf b) (by omega), joined_eq p [126] (by simp only [List.length_cons, List.length_nil]; omega)]
    simp only [Option.bind_some]
    rw [frame_feed d (p ++ frameOf b) (by omega) (by simp only [List.length_append]; omega), frame_feed d (p ++ [126]) (by omega) (by simp only [List.length_append, List.length_cons, List.length_nil]; omega)]
    simp only [Option.bind_some]
    rw [feed_last d p b (by omega)]
    generalize feedS (d, [], 0) (p ++ [126]) = s at b1
    obtain ⟨s1, m, n⟩ := s
    simp only at b1 ⊢
    have e1 : ((((m ++ [b]).length : Nat) : Int) != w64 ((m.length : Int) + 1)) = false := by
      rw [w64_succ (by omega)]; simp
    have e2 : (((n : Nat) : Int) != ((n : Nat) : Int)) = false := by simp
    have e3 : (m ++ [b]).take ((m.length : Int)).toNat = m := by simp
    rw [e1, e2]
    simp only [Bool.false_eq_true, if_false, e3]
    rw [if_pos (show InB (m.length : Int) (m ++ [b]).length by unfold InB; simp), same_eq _ _ (by omega)]
    simp only [decide_true, Option.bind_some, Bool.not_true, Bool.false_eq_true, if_false]
    rw [sameState_eq]
    have e4 : decide (R0 = ({ Rest := [], In := true, Escape := false, Bad := false } : Api_Deframer)) = true := by decide
    simp only [e4, Option.bind_some, if_true]
    rw [if_pos (inR_of (by simp : m.length < (m ++ [b]).length))]
    simp [nth]

end Go.Proofs.Ytneejmndnihaoaa
