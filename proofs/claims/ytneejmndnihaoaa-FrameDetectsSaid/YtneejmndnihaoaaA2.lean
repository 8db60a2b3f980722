/-
  Frames: what Make of the program and Make of the reference return.
-/
import Derived.Test.YtneejmndnihaoaaA1
namespace Go.Proofs.Ytneejmndnihaoaa
open Go.Rv
set_option linter.unusedVariables false

def esc (x : UInt8) : List UInt8 := if x = 126 ∨ x = 125 then [125, x ^^^ 32] else [x]
def wrapB (l : List UInt8) : List UInt8 := l.flatMap esc
def sealB (c : UInt32) : List UInt8 := [(shr32 c 24).toUInt8, (shr32 c 16).toUInt8, (shr32 c 8).toUInt8, c.toUInt8]
def frameOf (b : List UInt8) : List UInt8 := 126 :: wrapB (b ++ sealB (crc b)) ++ [126]

theorem esc_len (x : UInt8) : (esc x).length ≤ 2 := by unfold esc; split <;> simp
theorem wrapB_len (l : List UInt8) : (wrapB l).length ≤ 2 * l.length := by
  induction l with
  | nil => simp [wrapB]
  | cons x l ih =>
    simp only [wrapB, List.flatMap_cons, List.length_append, List.length_cons] at ih ⊢
    have := esc_len x
    omega
theorem wrapB_app (a b : List UInt8) : wrapB (a ++ b) = wrapB a ++ wrapB b := by simp [wrapB]
theorem wrapB_take (l : List UInt8) {k : Nat} (h : k < l.length) : wrapB (l.take (k + 1)) = wrapB (l.take k) ++ esc (nth l k) := by
  rw [List.take_succ_eq_append_getElem h, wrapB_app]
  congr 1
  simp [wrapB, nth, h]
theorem is_esc (x : UInt8) : ((x == 126) = true ∨ (x == 125) = true) ↔ (x = 126 ∨ x = 125) := by simp

theorem ref_wrapped (l : List UInt8) (h : l.length ≤ 70000000000000) : r10_Wrapped l = some (126 :: wrapB l ++ [126]) := by
  unfold r10_Wrapped
  simp only [lt1]
  obtain ⟨x, hx, hq⟩ : ∃ x, loopO (fun (v : Int × List UInt8) => r10_Wrapped_b1 l v.1 v.2) (0, [126]) = some x ∧ x = 126 :: wrapB l := by
    refine loopO_for l.length (fun k v => v.1 = (k : Int) ∧ v.2 = 126 :: wrapB (l.take k)) _ (by omega) ?_ ?_ ⟨rfl, rfl⟩
    · rintro k ⟨i, a⟩ hk ⟨hi, ha⟩
      simp only at hi ha
      subst hi ha
      refine ⟨(((k + 1 : Nat) : Int), 126 :: wrapB (l.take (k + 1))), ?_, rfl, rfl⟩
      simp only
      unfold r10_Wrapped_b1
      have hl := wrapB_len (l.take k)
      have hl2 : (l.take k).length = k := by simp; omega
      have hf : ∀ m, m ≤ 2 → Fits ((126 :: wrapB (l.take k)).length + m) 1 := fun m hm => fits1 (by simp; omega)
      rw [if_pos (by simp; omega), if_pos (inR_of hk), if_pos (inR_of hk), if_pos (hf 2 (by omega)), if_pos (hf 1 (by omega)), w64_succ (by omega), wrapB_take l hk]
      simp only [Int.toNat_natCast, lt1]
      generalize nth l k = x
      unfold esc
      by_cases h1 : x = 126
      · subst h1; simp [inR_of hk]
      · by_cases h2 : x = 125
        · subst h2; simp [inR_of hk]
        · simp [h1, h2, inR_of hk]
    · rintro ⟨i, a⟩ ⟨hi, ha⟩
      simp only at hi ha
      subst hi ha
      refine ⟨126 :: wrapB l, ?_, rfl⟩
      simp only
      unfold r10_Wrapped_b1
      rw [if_neg (by simp), List.take_length]
  rw [hx, hq]
  simp only [Option.bind_some]
  have hl := wrapB_len l
  rw [if_pos (fits1 (by simp; omega))]

theorem ref_sealed (b : List UInt8) (c : UInt32) (h : b.length ≤ 70000000000000) : r10_Sealed b c = some (b ++ sealB c) := by
  unfold r10_Sealed
  simp only [lt1]
  rw [if_pos (fits1 (by simp; omega)), if_pos (fits1 (by simp; omega))]
  simp only [List.nil_append]
  rfl

theorem ref_make (b : List UInt8) (h : b.length ≤ maxLen) : r10_Make b = if 8192 < b.length then some ([], 2) else some (frameOf b, 0) := by
  unfold r10_Make
  by_cases h1 : 8192 < b.length
  · rw [if_pos (by simp; omega), if_pos h1]
  · rw [if_neg (by simp; omega), if_neg h1, ref_crc b h]
    simp only [Option.bind_some]
    rw [ref_sealed _ _ (by omega)]
    simp only [Option.bind_some]
    rw [ref_wrapped _ (by simp [sealB]; omega)]
    rfl

theorem frame_seal_eq (b : List UInt8) (h : b.length ≤ maxLen) : frame_seal b = some (sealB (crc b)) := by
  unfold frame_seal
  rw [frame_crc b h]
  rfl

theorem frame_part (ls : List (List UInt8)) (t : Nat) (a : List UInt8) (h : (nth ls t).length ≤ 10000) (ha : a.length ≤ 100000) :
    loopO (fun (v : Int × List UInt8) => frame_Make_b1 ls (t : Int) v.1 v.2) (0, a) = some (a ++ wrapB (nth ls t)) := by
  obtain ⟨x, hx, hq⟩ : ∃ x, loopO (fun (v : Int × List UInt8) => frame_Make_b1 ls (t : Int) v.1 v.2) (0, a) = some x ∧ x = a ++ wrapB (nth ls t) := by
    refine loopO_for (nth ls t).length (fun k v => v.1 = (k : Int) ∧ v.2 = a ++ wrapB ((nth ls t).take k)) _ (by omega) ?_ ?_ ⟨rfl, by simp [wrapB]⟩
    · rintro k ⟨i, c⟩ hk ⟨hi, hc⟩
      simp only at hi hc
      subst hi hc
      refine ⟨(((k + 1 : Nat) : Int), a ++ wrapB ((nth ls t).take (k + 1))), ?_, rfl, rfl⟩
      simp only
      unfold frame_Make_b1
      simp only [Int.toNat_natCast, lt1]
      have hl := wrapB_len ((nth ls t).take k)
      have hl2 : ((nth ls t).take k).length = k := by simp; omega
      have hf : ∀ m, m ≤ 1 → Fits ((a ++ wrapB ((nth ls t).take k)).length + m) 1 := fun m hm => fits1 (by simp; omega)
      have hf2 : ∀ y, Fits ((a ++ wrapB ((nth ls t).take k) ++ [y]).length + 1) 1 := fun y => fits1 (by simp; omega)
      rw [if_pos (by simp; omega), if_pos (inR_of hk), if_pos (hf 1 (by omega)), w64_succ (by omega), wrapB_take _ hk]
      generalize nth (nth ls t) k = x
      unfold esc
      by_cases h1 : x = 126
      · subst h1; simp only [beq_self_eq_true, if_true, Option.bind_some, true_or]
        rw [if_pos (hf2 _)]; simp
      · by_cases h2 : x = 125
        · subst h2
          have e : ((125 : UInt8) == 126) = false := rfl
          simp only [e, beq_self_eq_true, if_true, Option.bind_some, or_true, Bool.false_eq_true, if_false]
          rw [if_pos (hf2 _)]; simp
        · have e1 : (x == 126) = false := by simp [h1]
          have e2 : (x == 125) = false := by simp [h2]
          simp only [e1, e2, Option.bind_some, Bool.false_eq_true, if_false, h1, h2, or_self]
          rw [if_pos (hf 1 (by omega))]; simp
    · rintro ⟨i, c⟩ ⟨hi, hc⟩
      simp only at hi hc
      subst hi hc
      refine ⟨a ++ wrapB (nth ls t), ?_, rfl⟩
      simp only
      unfold frame_Make_b1
      simp only [Int.toNat_natCast]
      rw [if_neg (by simp), List.take_length]
  rw [hx, hq]

theorem frame_make (b : List UInt8) (h : b.length ≤ maxLen) : frame_Make b = if 8192 < b.length then some ([], 2) else some (frameOf b, 0) := by
  unfold frame_Make
  by_cases h1 : 8192 < b.length
  · rw [if_pos (by simp; omega), if_pos h1]
  · rw [if_neg (by simp; omega), if_neg h1, frame_seal_eq b h]
    have hw : w64 ((b.length : Int) + 6) = (b.length : Int) + 6 := w64_id (by omega)
    rw [if_pos (by rw [hw]; unfold Mk maxLen roomB; omega)]
    simp only [lt1, Option.bind_some]
    rw [if_pos (by decide)]
    obtain ⟨x, hx, hq⟩ : ∃ x, loopO (fun (v : Int × List UInt8) => frame_Make_b2 b (sealB (crc b)) [b, sealB (crc b)] v.1 v.2) (0, [126]) = some x ∧ x = 126 :: wrapB (b ++ sealB (crc b)) := by
      refine loopO_for 2 (fun k v => v.1 = (k : Int) ∧ v.2 = 126 :: wrapB (([b, sealB (crc b)].take k).flatten)) _ (by omega) ?_ ?_ ⟨rfl, rfl⟩
      · rintro k ⟨i, c⟩ hk ⟨hi, hc⟩
        simp only at hi hc
        subst hi hc
        refine ⟨(((k + 1 : Nat) : Int), 126 :: wrapB (([b, sealB (crc b)].take (k + 1)).flatten)), ?_, rfl, rfl⟩
        simp only
        unfold frame_Make_b2
        simp only [lt1]
        have hs : (sealB (crc b)).length = 4 := rfl
        have hk2 : (decide ((k : Int) < (([b, sealB (crc b)] : List (List UInt8)).length : Int))) = true := by simp; omega
        rw [if_pos hk2, if_pos (inR_of (by simpa using hk)), w64_succ (by omega)]
        rcases (show k = 0 ∨ k = 1 by omega) with rfl | rfl
        · rw [frame_part [b, sealB (crc b)] 0 _ (by show b.length ≤ 10000; omega) (by simp [wrapB])]
          simp [nth, wrapB]
        · have hl := wrapB_len b
          rw [frame_part [b, sealB (crc b)] 1 _ (by show (sealB (crc b)).length ≤ 10000; omega) (by simp; omega)]
          simp [nth, wrapB_app]
      · rintro ⟨i, c⟩ ⟨hi, hc⟩
        simp only at hi hc
        subst hi hc
        refine ⟨126 :: wrapB (b ++ sealB (crc b)), ?_, rfl⟩
        simp only
        unfold frame_Make_b2
        simp [lt1]
    have hset : (List.replicate 1 (0 : UInt8)).set 0 126 = [126] := rfl
    rw [hset, hx, hq]
    simp only [Option.bind_some]
    have hl := wrapB_len (b ++ sealB (crc b))
    have hs : (sealB (crc b)).length = 4 := rfl
    rw [if_pos (fits1 (by simp at hl ⊢; omega))]
    rfl

theorem sane_ok : law10_sane = some true := by decide +kernel

theorem law_matches (b : List UInt8) (h : b.length ≤ maxLen) : law10_FrameMatchesReference b = some true := by
  unfold law10_FrameMatchesReference
  rw [sane_ok, frame_make b h, ref_make b h, frame_crc b h, ref_crc b h]
  simp only [Option.bind_some, Bool.not_true, Bool.false_eq_true, if_false, beq_self_eq_true, if_true]
  by_cases h1 : 8192 < b.length
  · simp [h1]
  · simp [h1]

end Go.Proofs.Ytneejmndnihaoaa
