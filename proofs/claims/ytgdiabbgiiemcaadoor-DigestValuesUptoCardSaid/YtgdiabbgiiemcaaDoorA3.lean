/-
  Sums: of the program and of the reference.
-/
import Derived.Test.YtgdiabbgiiemcaaDoorA2
namespace Go.Proofs.YtgdiabbgiiemcaaDoor
open Go.Rv
set_option linter.unusedVariables false
set_option linter.unusedSimpArgs false

theorem bindS {α β : Type} {o : Option α} {a : α} {f : α → Option β} (h : o = some a) : (o.bind fun x => some x).bind f = f a := by rw [h]; rfl
theorem bindT {α β : Type} {o : Option α} {a : α} {f : α → Option β} (h : o = some a) : o.bind f = f a := by rw [h]; rfl
theorem if_fits {α : Type} {c : Prop} [Decidable c] {x y : α} (h : c) : (if c then x else y) = x := if_pos h

theorem fitsS {n : Nat} (h : n ≤ 100000) : Fits n 1 := fits1 (by omega)

/-! ### Padding -/
theorem pad_same : (fun v : List UInt8 => r02_padded_b1 v) = fun v => digest_sum_b2 v := by funext v; unfold r02_padded_b1 digest_sum_b2; rfl

theorem tmod64 (n : Nat) : ((n : Int) : Int).tmod 64 = ((n % 64 : Nat) : Int) := rfl

theorem pad_loop (l : List UInt8) (hl : l.length ≤ 5000) : ∃ p, loopO (fun v : List UInt8 => digest_sum_b2 v) l = some p ∧ (p.length % 64 = 56 ∧ p.length ≤ l.length + 64) := by
  refine loopO_rule (f := fun v : List UInt8 => digest_sum_b2 v) (fun v => v.length + (120 - v.length % 64) % 64 ≤ l.length + 63) (fun v => (120 - v.length % 64) % 64) (fun p => p.length % 64 = 56 ∧ p.length ≤ l.length + 64) ?_ (v0 := l) (by show l.length + (120 - l.length % 64) % 64 ≤ l.length + 63; omega) (by show (120 - l.length % 64) % 64 < _; omega)
  intro v hv
  have hv' : v.length + (120 - v.length % 64) % 64 ≤ l.length + 63 := hv
  by_cases h : v.length % 64 = 56
  · right
    refine ⟨v, ?_, h, by omega⟩
    show digest_sum_b2 v = _
    unfold digest_sum_b2
    rw [tmod64, h]
    rfl
  · left
    refine ⟨v ++ [0], ?_, ?_, ?_⟩
    · show digest_sum_b2 v = _
      unfold digest_sum_b2
      rw [tmod64, if_pos (by simp; omega), if_pos (fitsS (by omega))]
      rfl
    · show (v ++ [0]).length + (120 - (v ++ [0]).length % 64) % 64 ≤ l.length + 63
      simp only [List.length_append, List.length_cons, List.length_nil]
      omega
    · show (120 - (v ++ [0]).length % 64) % 64 < (120 - v.length % 64) % 64
      simp only [List.length_append, List.length_cons, List.length_nil]
      omega

/-! ### The length in eight bytes -/
def lenB (n : UInt64) (k : Nat) : UInt8 := (shr64 n (56 - 8 * k)).toUInt8

theorem len_loop (n : UInt64) (p : List UInt8) (hp : p.length ≤ 5100) : loopO (fun v : Int × List UInt8 => digest_sum_b3 n v.1 v.2) (56, p) = some (p ++ (List.range 8).map (lenB n)) := by
  obtain ⟨x, hx, rfl⟩ := loopO_for (f := fun v : Int × List UInt8 => digest_sum_b3 n v.1 v.2) 8 (fun k v => v = (56 - 8 * (k : Int), p ++ (List.range k).map (lenB n))) (fun x => x = p ++ (List.range 8).map (lenB n)) (by omega)
    (fun k v hk hv => by
      subst hv
      refine ⟨_, ?_, rfl⟩
      show digest_sum_b3 n (56 - 8 * (k : Int)) (p ++ (List.range k).map (lenB n)) = _
      unfold digest_sum_b3
      have e1 : w64 (56 - 8 * (k : Int) - 8) = 56 - 8 * ((k + 1 : Nat) : Int) := by rw [w64_id (by omega)]; omega
      have e2 : (56 - 8 * (k : Int)).toNat = 56 - 8 * k := by omega
      rw [if_pos (by simp; omega), if_pos (by unfold NotNeg; omega), if_pos (fitsS (by simp; omega)), e1, e2, List.range_succ, List.map_append, ← List.append_assoc]
      rfl)
    (fun v hv => by
      subst hv
      refine ⟨_, ?_, rfl⟩
      show digest_sum_b3 n (56 - 8 * ((8 : Nat) : Int)) _ = _
      unfold digest_sum_b3
      rw [if_neg (by decide)]) (v0 := (56, p)) (by simp)
  exact hx

theorem len_loop_r (n : UInt64) (p : List UInt8) (hp : p.length ≤ 5100) : loopO (fun v : Int × List UInt8 => r02_padded_b2 n v.1 v.2) (0, p) = some (p ++ (List.range 8).map (lenB n)) := by
  obtain ⟨x, hx, rfl⟩ := loopO_for (f := fun v : Int × List UInt8 => r02_padded_b2 n v.1 v.2) 8 (fun k v => v = ((k : Int), p ++ (List.range k).map (lenB n))) (fun x => x = p ++ (List.range 8).map (lenB n)) (by omega)
    (fun k v hk hv => by
      subst hv
      refine ⟨_, ?_, rfl⟩
      show r02_padded_b2 n (k : Int) (p ++ (List.range k).map (lenB n)) = _
      unfold r02_padded_b2
      have e0 : w64 (8 * (k : Int)) = ((8 * k : Nat) : Int) := by rw [w64_id (by omega)]; omega
      have e3 : w64 (56 - ((8 * k : Nat) : Int)) = ((56 - 8 * k : Nat) : Int) := by rw [w64_id (by omega)]; omega
      have e1 : w64 ((k : Int) + 1) = ((k + 1 : Nat) : Int) := by rw [w64_id (by omega)]; omega
      have e2 : (((56 - 8 * k : Nat) : Int)).toNat = 56 - 8 * k := by omega
      rw [e0, e3, if_pos (by simp; omega), if_pos (by unfold NotNeg; omega), if_pos (fitsS (by simp; omega)), e1, e2, List.range_succ, List.map_append, ← List.append_assoc]
      rfl)
    (fun v hv => by
      subst hv
      refine ⟨_, ?_, rfl⟩
      show r02_padded_b2 n ((8 : Nat) : Int) _ = _
      unfold r02_padded_b2
      rw [if_neg (by decide)]) (v0 := (0, p)) (by simp)
  exact hx

/-! ### All blocks -/
noncomputable def Hs (h0 : Arr UInt32 8) (q : List UInt8) : Nat → Arr UInt32 8
  | 0 => h0
  | k + 1 => blk (Hs h0 q k) ((q.drop (64 * k)).take 64)

theorem blocks_d (h0 : Arr UInt32 8) (q : List UInt8) (n : Nat) (hq : q.length = 64 * n) (hn : n ≤ 1000) :
    loopO (fun v : Nat × Nat × Arr UInt32 8 => digest_sum_b4 q v.1 v.2.1 v.2.2) (0, q.length, h0) = some (Hs h0 q n) := by
  obtain ⟨x, hx, rfl⟩ := loopO_for (f := fun v : Nat × Nat × Arr UInt32 8 => digest_sum_b4 q v.1 v.2.1 v.2.2) n (fun k v => v = (64 * k, q.length - 64 * k, Hs h0 q k)) (fun x => x = Hs h0 q n) (by omega)
    (fun k v hk hv => by
      subst hv
      refine ⟨_, ?_, rfl⟩
      show digest_sum_b4 q (64 * k) (q.length - 64 * k) (Hs h0 q k) = _
      unfold digest_sum_b4
      rw [if_pos (by simp; omega), if_pos (by unfold InB; omega), bindT (blk_eq _ _ (by simp; omega)), if_pos (by unfold InB; omega)]
      have e1 : 64 * k + 64 = 64 * (k + 1) := by omega
      have e2 : q.length - 64 * k - 64 = q.length - 64 * (k + 1) := by omega
      rw [e1, e2]
      rfl)
    (fun v hv => by
      subst hv
      refine ⟨_, ?_, rfl⟩
      show digest_sum_b4 q (64 * n) (q.length - 64 * n) (Hs h0 q n) = _
      unfold digest_sum_b4
      rw [if_neg (by simp; omega)]) (v0 := (0, q.length, h0)) (by simp [Hs])
  exact hx

theorem blocks_r (h0 : Arr UInt32 8) (q : List UInt8) (n : Nat) (hq : q.length = 64 * n) (hn : n ≤ 1000) :
    loopO (fun v : Int × Arr UInt32 8 => r02_Sum_b1 q v.1 v.2) (0, h0) = some (Hs h0 q n) := by
  obtain ⟨x, hx, rfl⟩ := loopO_for (f := fun v : Int × Arr UInt32 8 => r02_Sum_b1 q v.1 v.2) n (fun k v => v = (((64 * k : Nat) : Int), Hs h0 q k)) (fun x => x = Hs h0 q n) (by omega)
    (fun k v hk hv => by
      subst hv
      refine ⟨_, ?_, rfl⟩
      show r02_Sum_b1 q ((64 * k : Nat) : Int) (Hs h0 q k) = _
      unfold r02_Sum_b1
      have e1 : w64 (((64 * k : Nat) : Int) + 64) = ((64 * (k + 1) : Nat) : Int) := by rw [w64_id (by omega)]; omega
      have e2 : (((64 * (k + 1) : Nat) : Int)).toNat - (((64 * k : Nat) : Int)).toNat = 64 := by omega
      have e3 : (((64 * k : Nat) : Int)).toNat = 64 * k := by omega
      rw [e1, if_pos (by simp; omega), if_pos (by unfold InB; omega), if_pos (by unfold InB; omega), e2, e3, ← block_eq, bindT (blk_eq _ _ (by simp; omega))]
      rfl)
    (fun v hv => by
      subst hv
      refine ⟨_, ?_, rfl⟩
      show r02_Sum_b1 q ((64 * n : Nat) : Int) (Hs h0 q n) = _
      unfold r02_Sum_b1
      rw [if_neg (by simp; omega)]) (v0 := (0, h0)) (by simp [Hs])
  exact hx

/-! ### The digest out of the state -/
theorem fin_same (f : Arr UInt32 8) : (fun v : Int × Arr UInt8 32 => r02_Sum_b2 f v.1 v.2) = fun v => digest_sum_b5 f v.1 v.2 := by funext v; unfold r02_Sum_b2 digest_sum_b5; rfl

theorem fin_loop (f : Arr UInt32 8) : ∃ d, loopO (fun v : Int × Arr UInt8 32 => digest_sum_b5 f v.1 v.2) (0, Arr.rep 32 (0 : UInt8)) = some d := by
  obtain ⟨x, hx, _⟩ := loopO_for (f := fun v : Int × Arr UInt8 32 => digest_sum_b5 f v.1 v.2) 32 (fun k v => v.1 = (k : Int)) (fun _ => True) (by omega)
    (fun k v hk hi => by
      obtain ⟨i, d⟩ := v
      have hi' : i = (k : Int) := hi
      subst hi'
      have e4 : ((k : Int) : Int).tdiv 4 = ((k / 4 : Nat) : Int) := rfl
      have e5 : ((k : Int) : Int).tmod 4 = ((k % 4 : Nat) : Int) := rfl
      have e6 : w64 ((k / 4 : Nat) : Int) = ((k / 4 : Nat) : Int) := w64_id (by omega)
      have e7 : w64 (8 * ((k % 4 : Nat) : Int)) = ((8 * (k % 4) : Nat) : Int) := by rw [w64_id (by omega)]; omega
      have e8 : w64 (24 - ((8 * (k % 4) : Nat) : Int)) = ((24 - 8 * (k % 4) : Nat) : Int) := by rw [w64_id (by omega)]; omega
      exact ⟨_, by
        show digest_sum_b5 f (k : Int) d = _
        unfold digest_sum_b5
        rw [e4, e5, e6, e7, e8, if_pos (by simp; omega), if_pos (inR_of (by omega)), if_pos (by unfold NotNeg; omega), if_pos (inR_of hk)]
        rfl, by
        show w64 ((k : Int) + 1) = ((k + 1 : Nat) : Int)
        rw [w64_id (by omega)]; omega⟩)
    (fun v hi => by
      obtain ⟨i, d⟩ := v
      have hi' : i = ((32 : Nat) : Int) := hi
      subst hi'
      exact ⟨d, by show digest_sum_b5 f ((32 : Nat) : Int) d = _; unfold digest_sum_b5; rw [if_neg (by simp)], trivial⟩) (v0 := (0, Arr.rep 32 (0 : UInt8))) rfl
  exact ⟨x, hx⟩

/-! ### The parts -/
theorem parts_loop (ps : List (List UInt8)) (hl : ps.length ≤ 100) (h : ps.flatten.length ≤ 5000) : loopO (fun v : Int × List UInt8 => digest_sum_b1 ps v.1 v.2) (0, []) = some ps.flatten := by
  obtain ⟨x, hx, rfl⟩ := loopO_for (f := fun v : Int × List UInt8 => digest_sum_b1 ps v.1 v.2) ps.length (fun k v => v = ((k : Int), (ps.take k).flatten)) (fun x => x = ps.flatten) (by omega)
    (fun k v hk hv => by
      subst hv
      refine ⟨_, ?_, rfl⟩
      show digest_sum_b1 ps (k : Int) (ps.take k).flatten = _
      unfold digest_sum_b1
      have e1 : w64 ((k : Int) + 1) = ((k + 1 : Nat) : Int) := by rw [w64_id (by omega)]; omega
      have e2 : nth ps ((k : Int)).toNat = ps[k] := by simp [nth, hk]
      have e3 : (ps.take (k + 1)).flatten = (ps.take k).flatten ++ ps[k] := by rw [List.take_succ_eq_append_getElem hk, List.flatten_append, List.flatten_cons, List.flatten_nil, List.append_nil]
      have e4 : (ps.take (k + 1)).flatten.length ≤ 5000 := by
        have : ps.flatten = (ps.take (k + 1)).flatten ++ (ps.drop (k + 1)).flatten := by rw [← List.flatten_append, List.take_append_drop]
        rw [this, List.length_append] at h
        omega
      rw [e3, List.length_append] at e4
      rw [if_pos (by simp; omega), if_pos (inR_of hk), e2]
      show (if Fits ((ps.take k).flatten.length + ps[k].length) 1 then _ else none) = _
      rw [if_pos (fitsS (by omega)), e1, e3]
      rfl)
    (fun v hv => by
      subst hv
      refine ⟨ps.flatten, ?_, rfl⟩
      show digest_sum_b1 ps (ps.length : Int) (ps.take ps.length).flatten = _
      unfold digest_sum_b1
      rw [if_neg (by simp), List.take_length]) (v0 := (0, [])) (by simp)
  exact hx

/-- What both sums come to. -/
theorem sum_spec : ∃ R : List UInt8 → Option (Arr UInt8 32), (∀ ps, digest_sum ps = (loopO (fun v : Int × List UInt8 => digest_sum_b1 ps v.1 v.2) (0, [])).bind R) ∧ ∀ m : List UInt8, m.length ≤ 4000 → ∃ d, R m = some d ∧ r02_Sum m = some d := by
  refine ⟨_, fun ps => by unfold digest_sum; rw [obind_some], fun m hm => ?_⟩
  obtain ⟨p, hp, hp1, hp2⟩ := pad_loop (m ++ [128]) (by simp; omega)
  simp only [List.length_append, List.length_cons, List.length_nil] at hp2
  have hq : (p ++ (List.range 8).map (lenB (UInt64.ofInt (m.length : Int) * 8))).length = 64 * ((p.length + 8) / 64) := by simp; omega
  obtain ⟨d, hd⟩ := fin_loop (Hs ⟨[(1779033703 : UInt32), (3144134277 : UInt32), (1013904242 : UInt32), (2773480762 : UInt32), (1359893119 : UInt32), (2600822924 : UInt32), (528734635 : UInt32), (1541459225 : UInt32)], rfl⟩ (p ++ (List.range 8).map (lenB (UInt64.ofInt (m.length : Int) * 8))) ((p.length + 8) / 64))
  have hlb := len_loop (UInt64.ofInt (m.length : Int) * 8) p (by omega)
  have hlr := len_loop_r (UInt64.ofInt (m.length : Int) * 8) p (by omega)
  refine ⟨d, ?_, ?_⟩
  · refine (lt1_at _ _ _ rfl).trans ?_
    refine (if_fits (fitsS (by omega))).trans ?_
    refine (lt1_at _ _ _ rfl).trans ?_
    refine (bindS hp).trans ?_
    refine (bindS hlb).trans ?_
    refine (lt1_at _ _ _ rfl).trans ?_
    refine (bindS (blocks_d _ _ _ hq (by omega))).trans ?_
    exact bindS hd
  · unfold r02_Sum
    refine (lt1_at _ _ _ rfl).trans ?_
    have hpad : r02_padded m = some (p ++ (List.range 8).map (lenB (UInt64.ofInt (m.length : Int) * 8))) := by
      unfold r02_padded
      refine (lt1_at _ _ _ rfl).trans ?_
      refine (if_fits (fitsS (by simp; omega))).trans ?_
      refine (lt1_at _ _ _ rfl).trans ?_
      refine (if_fits (fitsS (by simp; omega))).trans ?_
      refine (lt1_at _ _ _ rfl).trans ?_
      rw [pad_same]
      refine (bindS (o := loopO (fun v : List UInt8 => digest_sum_b2 v) (([] ++ m) ++ [128])) hp).trans ?_
      refine (lt1_at _ _ _ rfl).trans ?_
      exact bindS hlr
    refine (bindT hpad).trans ?_
    refine (bindS (blocks_r _ _ _ hq (by omega))).trans ?_
    refine (lt1_at _ (Arr.rep 32 0) _ (Arr.ext' rfl)).trans ?_
    have hd' := hd
    rw [← fin_same] at hd'
    exact bindS hd'

noncomputable def DS (m : List UInt8) : Arr UInt8 32 := (r02_Sum m).getD default

theorem r02_sum (m : List UInt8) (h : m.length ≤ 4000) : r02_Sum m = some (DS m) := by
  obtain ⟨R, _, hR⟩ := sum_spec
  obtain ⟨d, _, hd⟩ := hR m h
  have : DS m = d := by unfold DS; rw [hd]; exact Option.getD_some
  rw [this]; exact hd

theorem digest_parts (ps : List (List UInt8)) (hl : ps.length ≤ 100) (h : ps.flatten.length ≤ 4000) : digest_sum ps = some (DS ps.flatten) := by
  obtain ⟨R, h1, hR⟩ := sum_spec
  obtain ⟨d, hd, hd2⟩ := hR ps.flatten h
  rw [h1 ps, bindT (parts_loop ps hl (by omega)), hd]
  have : DS ps.flatten = d := by unfold DS; rw [hd2]; exact Option.getD_some
  rw [this]

theorem digest_Sum_eq (b : List UInt8) (h : b.length ≤ 4000) : digest_Sum b = some (DS b) := by
  unfold digest_Sum
  have := digest_parts [b] (by simp) (by simpa using h)
  rw [this]
  simp

end Go.Proofs.YtgdiabbgiiemcaaDoor
