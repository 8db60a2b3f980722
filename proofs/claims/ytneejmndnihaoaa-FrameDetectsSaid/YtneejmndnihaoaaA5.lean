/-
  A stream of frames is received.
-/
import Derived.Test.YtneejmndnihaoaaA3
namespace Go.Proofs.Ytneejmndnihaoaa
open Go.Rv
set_option linter.unusedVariables false

def R0 : Api_Deframer := ⟨[], true, false, false⟩

theorem feed_app (s : Api_Deframer × List (List UInt8) × Nat) (a b : List UInt8) : feedS s (a ++ b) = feedS (feedS s a) b := by simp [feedS]

theorem feed_esc (r : List UInt8) (x : UInt8) (l : List (List UInt8) × Nat) (h : r.length < 8196) : feedS (⟨r, true, false, false⟩, l) (esc x) = (⟨r ++ [x], true, false, false⟩, l) := by
  have h8 : ¬ 8196 ≤ r.length := by omega
  by_cases h1 : x = 126
  · subst h1
    show feedS _ [125, 94] = _
    simp [feedS, stepS, h8]
    decide
  · by_cases h2 : x = 125
    · subst h2
      show feedS _ [125, 93] = _
      simp [feedS, stepS, h8]
      decide
    · have : esc x = [x] := by unfold esc; rw [if_neg (by simp [h1, h2])]
      rw [this]
      simp [feedS, stepS, h1, h2, h8]

theorem feed_wrap (m : List UInt8) : ∀ (r : List UInt8) (l : List (List UInt8) × Nat), r.length + m.length ≤ 8196 → feedS (⟨r, true, false, false⟩, l) (wrapB m) = (⟨r ++ m, true, false, false⟩, l) := by
  induction m with
  | nil => intro r l h; simp [wrapB, feedS]
  | cons x m ih =>
    intro r l h
    simp only [List.length_cons] at h
    have : wrapB (x :: m) = esc x ++ wrapB m := rfl
    rw [this, feed_app, feed_esc r x l (by omega), ih (r ++ [x]) l (by simp; omega)]
    simp

theorem content_ok (b : List UInt8) (h : b.length ≤ 8192) : contentS ⟨b ++ sealB (crc b), true, false, false⟩ = (b, true) := by
  have hs : (sealB (crc b)).length = 4 := rfl
  unfold contentS
  simp only [List.length_append, hs]
  rw [if_neg (by simp; omega)]
  have e : b.length + 4 - 4 = b.length := by omega
  rw [e, List.take_left, List.drop_left]
  simp

theorem flag_ok (b : List UInt8) (h : b.length ≤ 8192) (l : List (List UInt8)) (n : Nat) : stepS (⟨b ++ sealB (crc b), true, false, false⟩, l, n) 126 = (R0, l ++ [b], n) := by
  have hne : b ++ sealB (crc b) ≠ [] := by simp [sealB]
  unfold stepS
  simp only [if_true, content_ok b h]
  rw [if_pos ⟨trivial, .inl hne⟩]
  rfl

theorem feed_tail (b : List UInt8) (h : b.length ≤ 8192) (l : List (List UInt8)) (n : Nat) : feedS (R0, l, n) ((frameOf b).drop 1) = (R0, l ++ [b], n) := by
  have hd : (frameOf b).drop 1 = wrapB (b ++ sealB (crc b)) ++ [126] := rfl
  have hs : (sealB (crc b)).length = 4 := rfl
  rw [hd, feedS_snoc]
  show stepS (feedS (⟨[], true, false, false⟩, l, n) _) 126 = _
  rw [feed_wrap _ [] (l, n) (by simp [hs]; omega)]
  exact flag_ok b h l n

/-- A receiver that is new, or that waits for the next frame. -/
def waits (d : Api_Deframer) : Prop := d.Rest = [] ∧ d.Escape = false ∧ d.Bad = false

theorem feed_flag (d : Api_Deframer) (hd : waits d) (l : List (List UInt8)) (n : Nat) : stepS (d, l, n) 126 = (R0, l, n) := by
  obtain ⟨h1, h2, h3⟩ := hd
  unfold stepS
  simp [h1, h2, h3, R0]

theorem feed_frame (d : Api_Deframer) (hd : waits d) (b : List UInt8) (h : b.length ≤ 8192) (l : List (List UInt8)) (n : Nat) : feedS (d, l, n) (frameOf b) = (R0, l ++ [b], n) := by
  have : frameOf b = [126] ++ (frameOf b).drop 1 := rfl
  rw [this, feed_app]
  show feedS (stepS (d, l, n) 126) _ = _
  rw [feed_flag d hd, feed_tail b h]

theorem feed_frames (w : List (List UInt8)) : ∀ (d : Api_Deframer), waits d → w ≠ [] → (∀ b ∈ w, b.length ≤ 8192) → ∀ l n, feedS (d, l, n) (w.map frameOf).flatten = (R0, l ++ w, n) := by
  induction w with
  | nil => intro d _ h; exact (h rfl).elim
  | cons b w ih =>
    intro d hd _ h l n
    rw [List.map_cons, List.flatten_cons, feed_app, feed_frame d hd b (h b (by simp))]
    by_cases hw : w = []
    · subst hw; simp [feedS]
    · rw [ih R0 ⟨rfl, rfl, rfl⟩ hw (fun c hc => h c (by simp [hc]))]
      simp

theorem feed_shared (w : List (List UInt8)) : (∀ b ∈ w, b.length ≤ 8192) → ∀ l n, feedS (R0, l, n) (w.map fun b => (frameOf b).drop 1).flatten = (R0, l ++ w, n) := by
  induction w with
  | nil => intro _ l n; simp [feedS]
  | cons b w ih =>
    intro h l n
    rw [List.map_cons, List.flatten_cons, feed_app, feed_tail b (h b (by simp)), ih (fun c hc => h c (by simp [hc]))]
    simp

/-! ### Comparisons -/
theorem same_eq (a b : List (List UInt8)) (ha : a.length ≤ 90000000) : r10_Same a b = some (decide (a = b)) := by
  unfold r10_Same
  by_cases hl : a.length = b.length
  · have e : ((a.length : Int) != (b.length : Int)) = false := by simp [hl]
    rw [e]
    simp only [Bool.false_eq_true, if_false]
    obtain ⟨x, hx, hq⟩ : ∃ x, loopO (fun (v : Int) => r10_Same_b1 a b v) 0 = some x ∧ x = (if a = b then Sum.inl () else Sum.inr (Sum.inr false)) := by
      have key : ∃ x, loopO (fun (v : Int) => r10_Same_b1 a b v) 0 = some x ∧ ((x = Sum.inl () ∧ a = b) ∨ (x = Sum.inr (Sum.inr false) ∧ a ≠ b)) := by
        refine loopO_rule (fun v => ∃ k : Nat, v = (k : Int) ∧ k ≤ a.length ∧ a.take k = b.take k) (fun v => (a.length - v).toNat) _ ?_ ⟨0, rfl, Nat.zero_le _, rfl⟩ (by simp; omega)
        rintro v ⟨k, rfl, hk, ht⟩
        unfold r10_Same_b1
        by_cases h1 : k < a.length
        · have h2 : k < b.length := by omega
          have hn : nth a k = a[k] := by simp [nth, h1]
          have hn2 : nth b k = b[k] := by simp [nth, h2]
          rw [if_pos (by simp; omega), if_pos (inR_of h1), if_pos (inR_of h2)]
          simp only [Int.toNat_natCast, hn, hn2]
          by_cases he : a[k] = b[k]
          · left
            refine ⟨((k + 1 : Nat) : Int), ?_, ⟨k + 1, rfl, by omega, ?_⟩, by omega⟩
            · rw [if_neg (by simp [he]), w64_succ (by omega)]
            · rw [List.take_succ_eq_append_getElem h1, List.take_succ_eq_append_getElem h2, ht, he]
          · right
            refine ⟨_, by rw [if_pos (by simp [he])]; rfl, .inr ⟨rfl, fun e => ?_⟩⟩
            subst e
            exact he rfl
        · right
          have : k = a.length := by omega
          subst this
          refine ⟨_, by rw [if_neg (by simp)], .inl ⟨rfl, ?_⟩⟩
          rw [List.take_length, hl, List.take_length] at ht
          exact ht
      obtain ⟨x, hx, h | h⟩ := key
      · exact ⟨x, hx, by rw [if_pos h.2]; exact h.1⟩
      · exact ⟨x, hx, by rw [if_neg h.2]; exact h.1⟩
    rw [hx, hq]
    by_cases hab : a = b
    · simp [hab]
    · simp [hab]
  · have e : ((a.length : Int) != (b.length : Int)) = true := by simp; omega
    rw [e]
    have : a ≠ b := fun h => hl (by rw [h])
    simp [this]

theorem sameState_eq (a b : Api_Deframer) : r10_SameState a b = some (decide (a = b)) := by
  obtain ⟨r1, i1, e1, b1⟩ := a
  obtain ⟨r2, i2, e2, b2⟩ := b
  unfold r10_SameState
  by_cases h1 : i1 = i2
  · by_cases h2 : e1 = e2
    · by_cases h3 : b1 = b2
      · by_cases h4 : r1 = r2
        · simp [h1, h2, h3, h4]
        · simp [h1, h2, h3, h4]
      · simp [h1, h2, h3]
    · simp [h1, h2]
  · simp [h1]

theorem receives_eq (s : List UInt8) (w : List (List UInt8)) (n : Int) (hs : s.length ≤ 40000000) :
    law10_receives s w n = some (decide ((feedS (⟨[], false, false, false⟩, [], 0) s).1 = R0 ∧ (feedS (⟨[], false, false, false⟩, [], 0) s).2.1 = w ∧ ((feedS (⟨[], false, false, false⟩, [], 0) s).2.2 : Int) = n)) := by
  unfold law10_receives
  rw [frame_feed _ _ (by simp) hs]
  simp only [Option.bind_some, sameState_eq]
  have hb := feedS_bounds (⟨[], false, false, false⟩, [], 0) s
  rw [same_eq _ _ (by have := hb.2.1; simp at this; omega)]
  by_cases h1 : (feedS (⟨[], false, false, false⟩, [], 0) s).1 = R0
  · have h1' : (feedS (⟨[], false, false, false⟩, [], 0) s).1 = ⟨[], true, false, false⟩ := h1
    by_cases h2 : (feedS (⟨[], false, false, false⟩, [], 0) s).2.1 = w
    · by_cases h3 : ((feedS (⟨[], false, false, false⟩, [], 0) s).2.2 : Int) = n
      · simp [h1', h2, h3, R0]
      · simp [h1', h2, h3, R0]
    · simp [h1', h2, R0]
  · have h1' : ¬ (feedS (⟨[], false, false, false⟩, [], 0) s).1 = ⟨[], true, false, false⟩ := h1
    simp [h1, h1']

end Go.Proofs.Ytneejmndnihaoaa
