/-
  A frame has a flag first and last, and nowhere else; its length.
-/
import Derived.Test.YtneejmndnihaoaaA2
namespace Go.Proofs.Ytneejmndnihaoaa
open Go.Rv
set_option linter.unusedVariables false

theorem esc_no (x : UInt8) : (esc x).count 126 = 0 := by
  unfold esc
  split
  · rename_i h
    rcases h with rfl | rfl <;> decide
  · rename_i h
    have : x ≠ 126 := fun e => h (.inl e)
    simp [this]
theorem esc_pos (x : UInt8) : 1 ≤ (esc x).length := by unfold esc; split <;> simp
theorem wrapB_no (l : List UInt8) : (wrapB l).count 126 = 0 := by
  induction l with
  | nil => rfl
  | cons x l ih =>
    have : wrapB (x :: l) = esc x ++ wrapB l := rfl
    rw [this, List.count_append, esc_no, ih]
theorem wrapB_ge (l : List UInt8) : l.length ≤ (wrapB l).length := by
  induction l with
  | nil => simp
  | cons x l ih =>
    have : wrapB (x :: l) = esc x ++ wrapB l := rfl
    rw [this, List.length_append, List.length_cons]
    have := esc_pos x
    omega
theorem frameOf_len (b : List UInt8) : b.length + 6 ≤ (frameOf b).length ∧ (frameOf b).length ≤ 2 * b.length + 10 := by
  have h1 := wrapB_ge (b ++ sealB (crc b))
  have h2 := wrapB_len (b ++ sealB (crc b))
  have hs : (sealB (crc b)).length = 4 := rfl
  unfold frameOf
  simp only [List.cons_append, List.length_cons, List.length_append, List.length_nil] at h1 h2 ⊢
  omega
theorem frameOf_count (b : List UInt8) : (frameOf b).count 126 = 2 := by
  unfold frameOf
  simp only [List.cons_append, List.count_cons, List.count_append, wrapB_no]
  rfl

theorem count_loop (f : List UInt8) (e : Int) (h : f.length ≤ 1000000) : loopO (fun (v : Int × Int) => law10_FrameTransparent_b1 (f, e) v.1 v.2) (0, 0) = some ((f.count 126 : Nat) : Int) := by
  obtain ⟨x, hx, hq⟩ : ∃ x, loopO (fun (v : Int × Int) => law10_FrameTransparent_b1 (f, e) v.1 v.2) (0, 0) = some x ∧ x = ((f.count 126 : Nat) : Int) := by
    refine loopO_for f.length (fun k v => v = ((((f.take k).count 126 : Nat) : Int), (k : Int))) _ (by omega) ?_ ?_ rfl
    · rintro k v hk rfl
      refine ⟨((((f.take (k + 1)).count 126 : Nat) : Int), ((k + 1 : Nat) : Int)), ?_, rfl⟩
      unfold law10_FrameTransparent_b1
      have hc : (f.take k).count 126 ≤ k := Nat.le_trans List.count_le_length (by simp; omega)
      have hkk : w64 ((k : Int) + 1) = ((k + 1 : Nat) : Int) := w64_succ (by omega)
      have hcc : w64 ((((f.take k).count 126 : Nat) : Int) + 1) = (((f.take k).count 126 + 1 : Nat) : Int) := w64_succ (by omega)
      have hn : nth f k = f[k] := by simp [nth, hk]
      simp only [Int.toNat_natCast, hn]
      rw [if_pos (by simp; omega), if_pos (inR_of hk), hkk, hcc, List.take_succ_eq_append_getElem hk, List.count_append]
      by_cases h1 : f[k] = 126
      · simp [h1]
      · simp [h1]
    · rintro v rfl
      refine ⟨_, ?_, rfl⟩
      unfold law10_FrameTransparent_b1
      rw [if_neg (by simp), List.take_length]
  rw [hx, hq]

theorem law_transparent (b : List UInt8) (h : b.length ≤ maxLen) : law10_FrameTransparent b = some true := by
  unfold law10_FrameTransparent
  rw [sane_ok, frame_make b h]
  simp only [Option.bind_some, Bool.not_true, Bool.false_eq_true, if_false]
  by_cases h1 : 8192 < b.length
  · simp [h1]; omega
  · simp only [if_neg h1, Option.bind_some]
    obtain ⟨h2, h3⟩ := frameOf_len b
    rw [count_loop _ _ (by omega), frameOf_count]
    have e1 : w64 ((b.length : Int) + 6) = (b.length : Int) + 6 := w64_id (by omega)
    have e2 : w64 (2 * (b.length : Int)) = 2 * (b.length : Int) := w64_id (by omega)
    have e3 : w64 (2 * (b.length : Int) + 10) = 2 * (b.length : Int) + 10 := w64_id (by omega)
    have e4 : w64 (((frameOf b).length : Int) - 1) = (((frameOf b).length - 1 : Nat) : Int) := by rw [w64_id (by omega)]; omega
    have d1 : decide (((frameOf b).length : Int) ≥ (b.length : Int) + 6) = true := by simp; omega
    have d2 : decide (((frameOf b).length : Int) ≤ 2 * (b.length : Int) + 10) = true := by simp; omega
    have i1 : InR 0 (frameOf b).length := by unfold InR; omega
    have i2 : InR (((frameOf b).length - 1 : Nat) : Int) (frameOf b).length := inR_of (by omega)
    have n1 : nth (frameOf b) 0 = 126 := rfl
    have n2 : nth (frameOf b) ((frameOf b).length - 1) = 126 := by
      unfold frameOf nth
      rw [List.getD_eq_getElem?_getD, List.getElem?_append_right (by simp)]
      simp
    simp only [e1, e2, e3, e4, d1, d2, Option.bind_some, if_true, if_pos i1, if_pos i2, n1, n2, Int.toNat_natCast]
    rfl

end Go.Proofs.Ytneejmndnihaoaa
