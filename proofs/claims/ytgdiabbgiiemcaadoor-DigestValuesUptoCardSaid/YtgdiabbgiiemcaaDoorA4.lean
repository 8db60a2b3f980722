/-
  The laws of digests: sums, tagged digests, chains' links, numbers.
-/
import Derived.Test.YtgdiabbgiiemcaaDoorA3
import Derived.Test.YtgdiabbgiiemcaaDoorA1
namespace Go.Proofs.YtgdiabbgiiemcaaDoor
open Go.Rv
set_option linter.unusedVariables false
set_option linter.unusedSimpArgs false

def cut (tag : List UInt8) : List UInt8 := tag.take (min tag.length 255)
def hsh (tag b : List UInt8) : List UInt8 := [UInt8.ofInt ((cut tag).length : Int)] ++ cut tag ++ b

theorem cut_len (tag : List UInt8) : (cut tag).length ≤ 255 := by simp [cut]; omega
theorem hsh_len (tag b : List UInt8) : (hsh tag b).length ≤ 256 + b.length := by
  have := cut_len tag
  simp only [hsh, List.length_append, List.length_cons, List.length_nil]
  omega

theorem mn_eq (n : Nat) : mn64 (n : Int) 255 = ((min n 255 : Nat) : Int) := by unfold mn64; split <;> omega
theorem inb_cut (tag : List UInt8) : InB (((min tag.length 255 : Nat) : Int)) tag.length := by unfold InB; omega

theorem hashed (tag b : List UInt8) (hb : b.length ≤ 4000) : r02_Hashed tag b = some (hsh tag b) := by
  have hc := cut_len tag
  unfold r02_Hashed
  rw [mn_eq, if_pos (inb_cut tag)]
  refine (lt1_at _ (cut tag) _ (by simp [cut])).trans ?_
  refine (lt1_at _ _ _ rfl).trans ?_
  refine (if_fits (fitsS (by simp only [List.length_cons, List.length_nil]; omega))).trans ?_
  refine (lt1_at _ _ _ rfl).trans ?_
  refine (if_fits (fitsS (by simp only [List.length_append, List.length_cons, List.length_nil]; omega))).trans ?_
  exact lt1_at _ _ _ rfl

theorem tagged (tag b : List UInt8) (hb : b.length ≤ 3000) : digest_Tagged tag b = some (DS (hsh tag b)) := by
  have hl := hsh_len tag b
  unfold digest_Tagged
  rw [mn_eq, if_pos (inb_cut tag)]
  refine (lt1_at _ (cut tag) _ (by simp [cut])).trans ?_
  have e : ([[UInt8.ofInt ((cut tag).length : Int)], cut tag, b] : List (List UInt8)).flatten = hsh tag b := by simp [hsh]
  have h := digest_parts [[UInt8.ofInt ((cut tag).length : Int)], cut tag, b] (by simp) (by rw [e]; omega)
  rw [e] at h
  exact bindT h

theorem r_tagged (tag b : List UInt8) (hb : b.length ≤ 3000) : r02_Tagged tag b = some (DS (hsh tag b)) := by
  have hl := hsh_len tag b
  unfold r02_Tagged
  refine (bindT (hashed tag b (by omega))).trans ?_
  exact bindT (r02_sum _ (by omega))

theorem next_hsh (m : List UInt8) : hsh [110, 101, 120, 116] m = [4, 110, 101, 120, 116] ++ m := rfl

theorem next_d (d : Arr UInt8 32) (b : List UInt8) (hb : b.length ≤ 3000) : digest_Next d b = some (DS (hsh [110, 101, 120, 116] (d.l ++ b))) := by
  have e : ([[(4 : UInt8)], [(110 : UInt8), (101 : UInt8), (120 : UInt8), (116 : UInt8)], d.l, b] : List (List UInt8)).flatten = hsh [110, 101, 120, 116] (d.l ++ b) := by
    rw [next_hsh]; simp
  have hl := hsh_len [110, 101, 120, 116] (d.l ++ b)
  rw [List.length_append, d.h] at hl
  unfold digest_Next
  have h := digest_parts [[(4 : UInt8)], [(110 : UInt8), (101 : UInt8), (120 : UInt8), (116 : UInt8)], d.l, b] (by simp) (by rw [e]; omega)
  rw [e] at h
  exact bindT h

theorem next_r (d : Arr UInt8 32) (b : List UInt8) (hb : b.length ≤ 2900) : r02_Next d b = some (DS (hsh [110, 101, 120, 116] (d.l ++ b))) := by
  unfold r02_Next
  refine (lt1_at _ _ _ rfl).trans ?_
  refine (if_fits (fitsS (by simp [d.h]))).trans ?_
  refine (lt1_at _ d.l _ (by simp)).trans ?_
  refine (if_fits (fitsS (by rw [d.h]; omega))).trans ?_
  refine (lt1_at _ _ _ rfl).trans ?_
  exact bindT (r_tagged _ _ (by rw [List.length_append, d.h]; omega))

/-! ### Numbers -/
def numK (d : Arr UInt8 32) : Nat → UInt64
  | 0 => 0
  | k + 1 => shl64 (numK d k) ((8 : UInt64)).toNat ||| (d.get k).toUInt64

theorem number_d (d : Arr UInt8 32) : digest_Number d = some (numK d 8) := by
  have hl : (d.l.take 8).length = 8 := by rw [List.length_take, d.h]; rfl
  obtain ⟨x, hx, rfl⟩ := loopO_for (f := fun v : UInt64 × Int => digest_Number_b1 d v.1 v.2) 8 (fun k v => v = (numK d k, (k : Int))) (fun x => x = numK d 8) (by omega)
    (fun k v hk hv => by
      subst hv
      refine ⟨_, ?_, rfl⟩
      show digest_Number_b1 d (numK d k) (k : Int) = _
      unfold digest_Number_b1
      have e1 : w64 ((k : Int) + 1) = ((k + 1 : Nat) : Int) := by rw [w64_id (by omega)]; omega
      have e2 : nth (d.l.take 8) k = d.get k := by
        have h32 : k < d.l.length := by rw [d.h]; omega
        simp [nth, Arr.get, List.getD_eq_getElem?_getD, List.getElem?_take, hk]
      rw [hl, if_pos (by simp; omega), if_pos (inR_of hk), e1]
      simp only [Int.toNat_natCast]
      rw [e2]
      rfl)
    (fun v hv => by
      subst hv
      refine ⟨_, ?_, rfl⟩
      show digest_Number_b1 d (numK d 8) ((8 : Nat) : Int) = _
      unfold digest_Number_b1
      rw [hl, if_neg (by simp)]) (v0 := (0, 0)) rfl
  unfold digest_Number
  refine (bindS hx).trans rfl

theorem number_r (d : Arr UInt8 32) : r02_Number d = some (numK d 8) := by
  obtain ⟨x, hx, rfl⟩ := loopO_for (f := fun v : UInt64 × Int => r02_Number_b1 d v.1 v.2) 8 (fun k v => v = (numK d k, (k : Int))) (fun x => x = numK d 8) (by omega)
    (fun k v hk hv => by
      subst hv
      refine ⟨_, ?_, rfl⟩
      show r02_Number_b1 d (numK d k) (k : Int) = _
      unfold r02_Number_b1
      have e1 : w64 ((k : Int) + 1) = ((k + 1 : Nat) : Int) := by rw [w64_id (by omega)]; omega
      rw [if_pos (by simp; omega), if_pos (inR_of (by omega)), e1]
      rfl)
    (fun v hv => by
      subst hv
      refine ⟨_, ?_, rfl⟩
      show r02_Number_b1 d (numK d 8) ((8 : Nat) : Int) = _
      unfold r02_Number_b1
      rw [if_neg (by simp)]) (v0 := (0, 0)) rfl
  unfold r02_Number
  refine (bindS hx).trans rfl

/-! ### The laws -/
theorem law_sum (b : List UInt8) : law02_DigestSumMatchesReference b = some true := by
  unfold law02_DigestSumMatchesReference
  rw [sane_ok]
  simp only [Option.bind_some, Bool.not_true, Bool.false_eq_true, if_false]
  by_cases h : (b.length : Int) > 1000
  · simp [h]
  · rw [digest_Sum_eq b (by omega), r02_sum b (by omega)]
    simp [h]

theorem law_matches (tag b : List UInt8) (d : Arr UInt8 32) : law02_DigestMatchesReference tag b d = some true := by
  unfold law02_DigestMatchesReference
  rw [sane_ok]
  simp only [Option.bind_some, Bool.not_true, Bool.false_eq_true, if_false]
  by_cases h1 : (tag.length : Int) > 600
  · simp [h1]
  by_cases h2 : (b.length : Int) > 600
  · simp [h1, h2]
  rw [tagged tag b (by omega), r_tagged tag b (by omega), next_d d b (by omega), next_r d b (by omega), number_d, number_r]
  simp [h1, h2]

theorem law_taggedIsSum (tag b : List UInt8) (d : Arr UInt8 32) : law02_DigestTaggedIsSum tag b d = some true := by
  unfold law02_DigestTaggedIsSum
  rw [sane_ok]
  simp only [Option.bind_some, Bool.not_true, Bool.false_eq_true, if_false]
  by_cases h1 : (tag.length : Int) > 600
  · simp [h1]
  by_cases h2 : (b.length : Int) > 600
  · simp [h1, h2]
  have hl := hsh_len tag b
  have e1 : (d.l ++ b).length ≤ 3000 := by rw [List.length_append, d.h]; omega
  rw [tagged tag b (by omega), hashed tag b (by omega), next_d d b (by omega)]
  simp only [h1, h2, decide_false, Option.bind_some, Bool.false_eq_true, if_false, lt1, List.nil_append, List.length_nil, Nat.zero_add]
  rw [if_pos (fitsS (by rw [d.h]; omega)), if_pos (fitsS (by rw [d.h]; omega)), digest_Sum_eq _ (by omega), tagged _ _ e1]
  simp

theorem ofInt_inj {a b : Nat} (ha : a ≤ 255) (hb : b ≤ 255) (h : UInt8.ofInt (a : Int) = UInt8.ofInt (b : Int)) : a = b := by
  have key : ∀ n : Fin 256, (UInt8.ofInt (n.val : Int)).toNat = n.val := by decide +kernel
  have h1 := key ⟨a, by omega⟩
  have h2 := key ⟨b, by omega⟩
  simp only at h1 h2
  rw [← h1, ← h2, h]

theorem hsh_inj (t b u c : List UInt8) : hsh t b = hsh u c ↔ cut t = cut u ∧ b = c := by
  constructor
  · intro h
    have h1 : UInt8.ofInt ((cut t).length : Int) :: (cut t ++ b) = UInt8.ofInt ((cut u).length : Int) :: (cut u ++ c) := by simpa [hsh] using h
    have h2 := List.cons.inj h1
    have hl := ofInt_inj (cut_len t) (cut_len u) h2.1
    exact List.append_inj h2.2 hl
  · rintro ⟨h1, rfl⟩
    unfold hsh
    rw [h1]

theorem law_separate (t b u c : List UInt8) : law02_DigestTagsSeparate t b u c = some true := by
  unfold law02_DigestTagsSeparate
  rw [sane_ok]
  simp only [Option.bind_some, Bool.not_true, Bool.false_eq_true, if_false]
  by_cases h1 : (t.length : Int) > 400
  · simp [h1]
  by_cases h2 : (b.length : Int) > 400
  · simp [h1, h2]
  by_cases h3 : (u.length : Int) > 400
  · simp [h1, h2, h3]
  by_cases h4 : (c.length : Int) > 400
  · simp [h1, h2, h3, h4]
  have hl1 := hsh_len t b
  have hl2 := hsh_len u c
  rw [hashed t b (by omega), hashed u c (by omega), tagged t b (by omega), tagged u c (by omega)]
  simp only [h1, h2, h3, h4, decide_false, Option.bind_some, Bool.false_eq_true, if_false]
  rw [mn_eq, mn_eq, if_pos (inb_cut t), if_pos (inb_cut u)]
  have hct : t.take (((min t.length 255 : Nat) : Int)).toNat = cut t := by simp [cut]
  have hcu : u.take (((min u.length 255 : Nat) : Int)).toNat = cut u := by simp [cut]
  have hd1 := digest_Sum_eq (hsh t b) (by omega)
  have hd2 := digest_Sum_eq (hsh u c) (by omega)
  simp only [hct, hcu, hd1, hd2]
  unfold r02_Same
  have hi := hsh_inj t b u c
  by_cases hc : cut t = cut u
  · by_cases hb : b = c
    · have : hsh t b = hsh u c := hi.2 ⟨hc, hb⟩
      subst hb
      simp [hc, this]
    · have : hsh t b ≠ hsh u c := fun h => hb (hi.1 h).2
      have e1 : (hsh t b == hsh u c) = false := by simp [this]
      have e2 : (b == c) = false := by simp [hb]
      simp [hc, e1, e2]
  · have : hsh t b ≠ hsh u c := fun h => hc (hi.1 h).1
    simp [hc, this]

end Go.Proofs.YtgdiabbgiiemcaaDoor
