/-
  The program's block function is the reference's, and a sum depends on the bytes alone.
-/
import Derived.Test.YtgdiabbgiiemcaaDoorDP
import Derived.Test.YtgdiabbgiiemcaaDoorR28
namespace Go.Proofs.YtgdiabbgiiemcaaDoor
open Go.Rv
set_option linter.unusedVariables false
set_option linter.unusedSimpArgs false

/-! ### Rotations -/
def ror (x : UInt32) (k : Nat) : UInt32 := shr32 x k ||| shl32 x (32 - k)

theorem rot_l (x : UInt32) (k : Nat) (hk : 0 < k ∧ k < 32) : bits_RotateLeft32 x (-(k : Int)) = some (ror x k) := by
  have key : ∀ j : Fin 32, 0 < j.val → ((UInt64.ofInt (-(j.val : Int))) &&& 31).toNat = 32 - j.val ∧ ((32 : UInt64) - ((UInt64.ofInt (-(j.val : Int))) &&& 31)).toNat = j.val := by decide
  obtain ⟨h1, h2⟩ := key ⟨k, hk.2⟩ hk.1
  unfold bits_RotateLeft32 ror
  simp only [lt1]
  rw [h1, h2, UInt32.or_comm]

theorem rot_r (x : UInt32) (k : Nat) (hk : 0 < k ∧ k < 32) : r02_rotr x (k : Int) = some (ror x k) := by
  unfold r02_rotr ror
  have e : w64 (32 - (k : Int)) = ((32 - k : Nat) : Int) := by rw [w64_id (by omega)]; omega
  rw [e, if_pos (by unfold NotNeg; omega), if_pos (by unfold NotNeg; omega)]
  rfl

theorem l2 (x : UInt32) : bits_RotateLeft32 x (-2) = some (ror x 2) := rot_l x 2 (by decide)
theorem l6 (x : UInt32) : bits_RotateLeft32 x (-6) = some (ror x 6) := rot_l x 6 (by decide)
theorem l7 (x : UInt32) : bits_RotateLeft32 x (-7) = some (ror x 7) := rot_l x 7 (by decide)
theorem l11 (x : UInt32) : bits_RotateLeft32 x (-11) = some (ror x 11) := rot_l x 11 (by decide)
theorem l13 (x : UInt32) : bits_RotateLeft32 x (-13) = some (ror x 13) := rot_l x 13 (by decide)
theorem l17 (x : UInt32) : bits_RotateLeft32 x (-17) = some (ror x 17) := rot_l x 17 (by decide)
theorem l18 (x : UInt32) : bits_RotateLeft32 x (-18) = some (ror x 18) := rot_l x 18 (by decide)
theorem l19 (x : UInt32) : bits_RotateLeft32 x (-19) = some (ror x 19) := rot_l x 19 (by decide)
theorem l22 (x : UInt32) : bits_RotateLeft32 x (-22) = some (ror x 22) := rot_l x 22 (by decide)
theorem l25 (x : UInt32) : bits_RotateLeft32 x (-25) = some (ror x 25) := rot_l x 25 (by decide)
theorem r2 (x : UInt32) : r02_rotr x 2 = some (ror x 2) := rot_r x 2 (by decide)
theorem r6 (x : UInt32) : r02_rotr x 6 = some (ror x 6) := rot_r x 6 (by decide)
theorem r7 (x : UInt32) : r02_rotr x 7 = some (ror x 7) := rot_r x 7 (by decide)
theorem r11 (x : UInt32) : r02_rotr x 11 = some (ror x 11) := rot_r x 11 (by decide)
theorem r13 (x : UInt32) : r02_rotr x 13 = some (ror x 13) := rot_r x 13 (by decide)
theorem r17 (x : UInt32) : r02_rotr x 17 = some (ror x 17) := rot_r x 17 (by decide)
theorem r18 (x : UInt32) : r02_rotr x 18 = some (ror x 18) := rot_r x 18 (by decide)
theorem r19 (x : UInt32) : r02_rotr x 19 = some (ror x 19) := rot_r x 19 (by decide)
theorem r22 (x : UInt32) : r02_rotr x 22 = some (ror x 22) := rot_r x 22 (by decide)
theorem r25 (x : UInt32) : r02_rotr x 25 = some (ror x 25) := rot_r x 25 (by decide)

/-! ### Blocks -/
theorem consts : r02_constants = some glob0 := by unfold r02_constants glob0; rfl

theorem sched2 (i : Int) (f : Arr UInt32 64) : digest_block_b2 i f = r02_schedule_b2 i f := by
  unfold digest_block_b2 r02_schedule_b2
  simp only [l7, l18, l17, l19, r7, r18, r17, r19, Option.bind_some, lt1]
  by_cases h1 : InR (w64 (i - 15)) 64 <;> by_cases h2 : InR (w64 (i - 2)) 64 <;> simp only [h1, h2, if_true, if_false]

theorem rounds (w : Arr UInt32 64) (i : Int) (f : Arr UInt32 8) : digest_block_b3 w i f = r02_block_b1 w glob0 i f := by
  unfold digest_block_b3 r02_block_b1
  simp only [l6, l11, l25, l2, l13, l22, r6, r11, r25, r2, r13, r22, Option.bind_some, lt1]

theorem lt1_at {α β : Type} (x y : α) (f : α → Option β) (h : x = y) : lt1 x f = f y := by rw [h]; rfl

theorem sched_eq (b : List UInt8) : r02_schedule b = (loopO (fun (v : Int × Arr UInt32 64) => digest_block_b1 b v.1 v.2) (0, Arr.rep 64 (0 : UInt32))).bind fun f => loopO (fun (v : Int × Arr UInt32 64) => digest_block_b2 v.1 v.2) (16, f) := by
  have e1 : (fun v : Int × Arr UInt32 64 => r02_schedule_b1 b v.1 v.2) = fun v => digest_block_b1 b v.1 v.2 := by funext v; unfold digest_block_b1 r02_schedule_b1; rfl
  have e2 : (fun v : Int × Arr UInt32 64 => r02_schedule_b2 v.1 v.2) = fun v => digest_block_b2 v.1 v.2 := funext fun v => (sched2 _ _).symm
  unfold r02_schedule
  refine (lt1_at _ (Arr.rep 64 0) _ (Arr.ext' rfl)).trans ?_
  simp only [obind_some]
  rw [e1, e2]

theorem block_eq (h : Arr UInt32 8) (b : List UInt8) : digest_block h b = r02_block h b := by
  have e3 : ∀ w : Arr UInt32 64, (fun v : Int × Arr UInt32 8 => digest_block_b3 w v.1 v.2) = fun v => r02_block_b1 w glob0 v.1 v.2 := fun w => funext fun v => rounds _ _ _
  have e4 : ∀ w : Arr UInt32 8, (fun v : Int × Arr UInt32 8 => digest_block_b4 w v.1 v.2) = fun v => r02_block_b2 w v.1 v.2 := fun w => by funext v; unfold digest_block_b4 r02_block_b2; rfl
  unfold r02_block
  rw [consts, sched_eq]
  unfold digest_block
  simp only [obind_some, Option.bind_some, Option.bind_assoc, e3, e4]

/-! ### A block of 64 bytes has a result -/
theorem loop1 (b : List UInt8) (hb : 64 ≤ b.length) (f0 : Arr UInt32 64) : ∃ x, loopO (fun (v : Int × Arr UInt32 64) => digest_block_b1 b v.1 v.2) (0, f0) = some x := by
  obtain ⟨x, hx, _⟩ := loopO_for (f := fun (v : Int × Arr UInt32 64) => digest_block_b1 b v.1 v.2) 16 (fun k v => v.1 = ((k : Nat) : Int)) (fun _ => True) (by omega)
    (fun k v hk hi => by
      obtain ⟨i, f⟩ := v
      have hi' : i = ((k : Nat) : Int) := hi
      subst hi'
      have e0 : w64 ((4 : Int) * ((k : Nat) : Int)) = ((4 * k : Nat) : Int) := by rw [w64_id (by omega)]; omega
      have e1 : w64 (((4 * k : Nat) : Int) + 1) = ((4 * k + 1 : Nat) : Int) := by rw [w64_id (by omega)]; omega
      have e2 : w64 (((4 * k : Nat) : Int) + 2) = ((4 * k + 2 : Nat) : Int) := by rw [w64_id (by omega)]; omega
      have e3 : w64 (((4 * k : Nat) : Int) + 3) = ((4 * k + 3 : Nat) : Int) := by rw [w64_id (by omega)]; omega
      exact ⟨_, by
        show digest_block_b1 b ((k : Nat) : Int) f = _
        unfold digest_block_b1
        simp only [e0, e1, e2, e3, lt1]
        rw [if_pos (by simp; omega), if_pos (inR_of (by omega)), if_pos (inR_of (by omega)), if_pos (inR_of (by omega)), if_pos (inR_of (by omega)), if_pos (inR_of (by omega))], by
        show w64 (((k : Nat) : Int) + 1) = (((k + 1) : Nat) : Int)
        rw [w64_id (by omega)]; omega⟩)
    (fun v hi => by
      obtain ⟨i, f⟩ := v
      have hi' : i = ((16 : Nat) : Int) := hi
      subst hi'
      exact ⟨f, by show digest_block_b1 b ((16 : Nat) : Int) f = _; unfold digest_block_b1; rw [if_neg (by simp)], trivial⟩) (v0 := (0, f0)) rfl
  exact ⟨x, hx⟩

theorem loop2  (f0 : Arr UInt32 64) : ∃ x, loopO (fun (v : Int × Arr UInt32 64) => digest_block_b2 v.1 v.2) (16, f0) = some x := by
  obtain ⟨x, hx, _⟩ := loopO_for (f := fun (v : Int × Arr UInt32 64) => digest_block_b2 v.1 v.2) 48 (fun k v => v.1 = ((16 + k : Nat) : Int)) (fun _ => True) (by omega)
    (fun k v hk hi => by
      obtain ⟨i, f⟩ := v
      have hi' : i = ((16 + k : Nat) : Int) := hi
      subst hi'
      have e15 : w64 (((16 + k : Nat) : Int) - 15) = ((1 + k : Nat) : Int) := by rw [w64_id (by omega)]; omega
      have e2 : w64 (((16 + k : Nat) : Int) - 2) = ((14 + k : Nat) : Int) := by rw [w64_id (by omega)]; omega
      have e16 : w64 (((16 + k : Nat) : Int) - 16) = ((k : Nat) : Int) := by rw [w64_id (by omega)]; omega
      have e7 : w64 (((16 + k : Nat) : Int) - 7) = ((9 + k : Nat) : Int) := by rw [w64_id (by omega)]; omega
      exact ⟨_, by
        show digest_block_b2 ((16 + k : Nat) : Int) f = _
        unfold digest_block_b2
        simp only [e15, e2, e16, e7, lt1, l7, l18, l17, l19, Option.bind_some]
        rw [if_pos (by simp; omega), if_pos (inR_of (by omega)), if_pos (inR_of (by omega)), if_pos (inR_of (by omega)), if_pos (inR_of (by omega)), if_pos (inR_of (by omega))], by
        show w64 (((16 + k : Nat) : Int) + 1) = ((16 + (k + 1) : Nat) : Int)
        rw [w64_id (by omega)]; omega⟩)
    (fun v hi => by
      obtain ⟨i, f⟩ := v
      have hi' : i = ((16 + 48 : Nat) : Int) := hi
      subst hi'
      exact ⟨f, by show digest_block_b2 ((16 + 48 : Nat) : Int) f = _; unfold digest_block_b2; rw [if_neg (by simp)], trivial⟩) (v0 := (16, f0)) rfl
  exact ⟨x, hx⟩

theorem loop3 (w : Arr UInt32 64) (f0 : Arr UInt32 8) : ∃ x, loopO (fun (v : Int × Arr UInt32 8) => digest_block_b3 w v.1 v.2) (0, f0) = some x := by
  obtain ⟨x, hx, _⟩ := loopO_for (f := fun (v : Int × Arr UInt32 8) => digest_block_b3 w v.1 v.2) 64 (fun k v => v.1 = ((k : Nat) : Int)) (fun _ => True) (by omega)
    (fun k v hk hi => by
      obtain ⟨i, f⟩ := v
      have hi' : i = ((k : Nat) : Int) := hi
      subst hi'

      exact ⟨_, by
        show digest_block_b3 w ((k : Nat) : Int) f = _
        unfold digest_block_b3
        simp only [lt1, l6, l11, l25, l2, l13, l22, Option.bind_some]
        rw [if_pos (by simp; omega), if_pos (inR_of hk), if_pos (inR_of hk)], by
        show w64 (((k : Nat) : Int) + 1) = (((k + 1) : Nat) : Int)
        rw [w64_id (by omega)]; omega⟩)
    (fun v hi => by
      obtain ⟨i, f⟩ := v
      have hi' : i = ((64 : Nat) : Int) := hi
      subst hi'
      exact ⟨f, by show digest_block_b3 w ((64 : Nat) : Int) f = _; unfold digest_block_b3; rw [if_neg (by simp)], trivial⟩) (v0 := (0, f0)) rfl
  exact ⟨x, hx⟩

theorem loop4 (w : Arr UInt32 8) (f0 : Arr UInt32 8) : ∃ x, loopO (fun (v : Int × Arr UInt32 8) => digest_block_b4 w v.1 v.2) (0, f0) = some x := by
  obtain ⟨x, hx, _⟩ := loopO_for (f := fun (v : Int × Arr UInt32 8) => digest_block_b4 w v.1 v.2) 8 (fun k v => v.1 = ((k : Nat) : Int)) (fun _ => True) (by omega)
    (fun k v hk hi => by
      obtain ⟨i, f⟩ := v
      have hi' : i = ((k : Nat) : Int) := hi
      subst hi'

      exact ⟨_, by
        show digest_block_b4 w ((k : Nat) : Int) f = _
        unfold digest_block_b4
        simp only [lt1]
        rw [if_pos (by simp; omega), if_pos (inR_of hk), if_pos (inR_of hk), if_pos (inR_of hk)], by
        show w64 (((k : Nat) : Int) + 1) = (((k + 1) : Nat) : Int)
        rw [w64_id (by omega)]; omega⟩)
    (fun v hi => by
      obtain ⟨i, f⟩ := v
      have hi' : i = ((8 : Nat) : Int) := hi
      subst hi'
      exact ⟨f, by show digest_block_b4 w ((8 : Nat) : Int) f = _; unfold digest_block_b4; rw [if_neg (by simp)], trivial⟩) (v0 := (0, f0)) rfl
  exact ⟨x, hx⟩

theorem bind4 {A C : Type} (o1 : Option A) (g2 : A → Option A) (g3 : A → Option C) (g4 : C → Option C) (h1 : ∃ a, o1 = some a) (h2 : ∀ a, ∃ x, g2 a = some x) (h3 : ∀ a, ∃ x, g3 a = some x) (h4 : ∀ a, ∃ x, g4 a = some x) :
    ∃ r, ((o1.bind fun f => some f).bind fun f => ((g2 f).bind fun f => some f).bind fun f => ((g3 f).bind fun f => some f).bind fun f => ((g4 f).bind fun f => some f).bind fun f => some f) = some r := by
  obtain ⟨a, rfl⟩ := h1
  obtain ⟨b, hb⟩ := h2 a
  obtain ⟨c, hc⟩ := h3 b
  obtain ⟨d, hd⟩ := h4 c
  exact ⟨d, by simp [hb, hc, hd]⟩

theorem block_some (h : Arr UInt32 8) (b : List UInt8) (hb : 64 ≤ b.length) : ∃ r, digest_block h b = some r := by
  unfold digest_block
  exact bind4 (loopO (fun (v : Int × Arr UInt32 64) => digest_block_b1 b v.1 v.2) (0, Arr.rep 64 (0 : UInt32))) (fun w => loopO (fun (v : Int × Arr UInt32 64) => digest_block_b2 v.1 v.2) (16, w)) (fun w => loopO (fun (v : Int × Arr UInt32 8) => digest_block_b3 w v.1 v.2) (0, h)) (fun w => loopO (fun (v : Int × Arr UInt32 8) => digest_block_b4 w v.1 v.2) (0, h))
    (loop1 b hb _) (fun w => loop2 w) (fun w => loop3 w h) (fun w => loop4 w h)

noncomputable def blk (h : Arr UInt32 8) (b : List UInt8) : Arr UInt32 8 := (digest_block h b).getD h
theorem blk_eq (h : Arr UInt32 8) (b : List UInt8) (hb : 64 ≤ b.length) : digest_block h b = some (blk h b) := by
  obtain ⟨r, hr⟩ := block_some h b hb
  have e : blk h b = r := by unfold blk; rw [hr]; exact Option.getD_some
  rw [e]; exact hr

end Go.Proofs.YtgdiabbgiiemcaaDoor
