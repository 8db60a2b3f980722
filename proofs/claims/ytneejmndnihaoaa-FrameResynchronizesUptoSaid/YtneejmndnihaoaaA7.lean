/-
  FrameDivision, the plain law.
-/
import Derived.Test.YtneejmndnihaoaaA5
namespace Go.Proofs.Ytneejmndnihaoaa
open Go.Rv
set_option linter.unusedVariables false
set_option linter.unusedSimpArgs false

theorem step_pre (d : Api_Deframer) (l : List (List UInt8)) (n : Nat) (c : UInt8) :
    stepS (d, l, n) c = ((stepS (d, [], 0) c).1, l ++ (stepS (d, [], 0) c).2.1, n + (stepS (d, [], 0) c).2.2) := by
  unfold stepS
  repeat' split
  all_goals simp_all

theorem feed_pre (b : List UInt8) : ∀ (d : Api_Deframer) (l : List (List UInt8)) (n : Nat),
    feedS (d, l, n) b = ((feedS (d, [], 0) b).1, l ++ (feedS (d, [], 0) b).2.1, n + (feedS (d, [], 0) b).2.2) := by
  induction b with
  | nil => intro d l n; simp [feedS]
  | cons c b ih =>
    intro d l n
    show feedS (stepS (d, l, n) c) b = ((feedS (stepS (d, [], 0) c) b).1, l ++ (feedS (stepS (d, [], 0) c) b).2.1, n + (feedS (stepS (d, [], 0) c) b).2.2)
    rw [step_pre d l n c, ih]
    generalize hs : stepS (d, [], 0) c = s
    obtain ⟨d1, l1, n1⟩ := s
    simp only
    rw [ih d1 l1 n1]
    simp only [List.append_assoc, Nat.add_assoc]

theorem joined_eq (a b : List UInt8) (h : a.length + b.length ≤ 80000000) : r10_Joined a b = some (a ++ b) := by
  unfold r10_Joined
  simp only [lt1, List.nil_append]
  rw [if_pos (by unfold Fits maxLen roomB; simp; omega), if_pos (by unfold Fits maxLen roomB; simp; omega)]

theorem law_division (d : Api_Deframer) (a b : List UInt8) (h : d.Rest.length + a.length + b.length ≤ 4000000) : law10_FrameDivision d a b = some true := by
  unfold law10_FrameDivision
  rw [sane_ok, joined_eq a b (by omega)]
  have hb := feedS_bounds (d, [], 0) a
  have hb2 := feedS_bounds ((feedS (d, [], 0) a).1, [], 0) b
  have hb3 := feedS_bounds (d, [], 0) (a ++ b)
  simp only [List.length_nil, Nat.zero_add, List.length_append] at hb hb2 hb3
  simp only [Option.bind_some, Bool.not_true, Bool.false_eq_true, if_false, lt1]
  rw [frame_feed d (a ++ b) (by omega) (by simp only [List.length_append]; omega), frame_feed d a (by omega) (by omega)]
  simp only [Option.bind_some]
  rw [frame_feed _ b (by omega) (by omega)]
  simp only [Option.bind_some, List.nil_append]
  rw [if_pos (fits24 (by simp; omega)), if_pos (fits24 (by omega))]
  rw [sameState_eq, feed_app, show feedS (d, [], 0) a = ((feedS (d, [], 0) a).1, (feedS (d, [], 0) a).2.1, (feedS (d, [], 0) a).2.2) from rfl,
    feed_pre b (feedS (d, [], 0) a).1 (feedS (d, [], 0) a).2.1 (feedS (d, [], 0) a).2.2]
  simp only [decide_true, Option.bind_some, if_true]
  rw [same_eq _ _ (by simp only [List.length_append]; omega)]
  simp only [decide_true, Option.bind_some, if_true]
  have e : w64 (((feedS (d, [], 0) a).2.2 : Int) + ((feedS ((feedS (d, [], 0) a).1, [], 0) b).2.2 : Int)) = ((feedS (d, [], 0) a).2.2 : Int) + ((feedS ((feedS (d, [], 0) a).1, [], 0) b).2.2 : Int) := w64_id (by omega)
  rw [e]
  simp

end Go.Proofs.Ytneejmndnihaoaa
