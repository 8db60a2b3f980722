/-
  The encoder: what codec's shape, appendInt, appendValue and Encode compute.
-/
import Derived.Test.YtgdiabbgiiemcaaDoorDP
import Derived.Test.YtgdiabbgiiemcaaDoorR29
namespace Go.Proofs.YtgdiabbgiiemcaaDoor
open Go.Rv
set_option linter.unusedVariables false
set_option linter.unusedSimpArgs false

theorem e_bindS {α β : Type} {o : Option α} {a : α} {f : α → Option β} (h : o = some a) : (o.bind fun x => some x).bind f = f a := by rw [h]; rfl
theorem e_bindT {α β : Type} {o : Option α} {a : α} {f : α → Option β} (h : o = some a) : o.bind f = f a := by rw [h]; rfl
theorem e_lt1 {α β : Type} (x y : α) (f : α → Option β) (h : x = y) : lt1 x f = f y := by rw [h]; rfl
theorem e_shr64 (x : UInt64) (n : Nat) : (shr64 x n).toNat = x.toNat / 2 ^ n := by
  show (x.toBitVec >>> n).toNat = _
  rw [BitVec.toNat_ushiftRight, Nat.shiftRight_eq_div_pow]; rfl
theorem e_succ {k : Nat} (h : k < 9223372036854775807) : w64 ((k : Int) + 1) = ((k + 1 : Nat) : Int) := by
  rw [w64_id (by omega)]; rfl

/-! ### Values and their size -/
theorem value_eta (x : Api_Value) : Api_Value.mk x.Kind x.N x.B x.L = x := by cases x; rfl

mutual
def szV : Api_Value → Nat
  | .mk _ _ b l => b.length + 1 + szVs l
def szVs : List Api_Value → Nat
  | [] => 0
  | x :: l => szV x + szVs l
end

theorem szV_pos (x : Api_Value) : 0 < szV x := by
  cases x with
  | mk k n b l => simp only [szV]; omega
theorem szVs_mem {l : List Api_Value} {x : Api_Value} (h : x ∈ l) : szV x ≤ szVs l := by
  induction l with
  | nil => cases h
  | cons y l ih =>
    simp only [szVs]
    rcases List.mem_cons.1 h with rfl | h
    · omega
    · have := ih h; omega
theorem szVs_len (l : List Api_Value) : l.length ≤ szVs l := by
  induction l with
  | nil => simp [szVs]
  | cons y l ih =>
    have := szV_pos y
    simp only [szVs, List.length_cons]; omega
theorem szVs_drop (l : List Api_Value) (k : Nat) : szVs (l.drop k) ≤ szVs l := by
  induction l generalizing k with
  | nil => simp
  | cons y l ih =>
    cases k with
    | zero => simp
    | succ k => have := ih k; simp only [List.drop_succ_cons, szVs]; omega
theorem szV_eq (x : Api_Value) : szV x = x.B.length + 1 + szVs x.L := by
  cases x with
  | mk k n b l => rfl

/-! ### Integers -/
def nbF : Nat → Nat → Nat
  | 0, _ => 0
  | f + 1, u => if u = 0 then 0 else nbF f (u / 256) + 1
/-- The number of bytes that u needs. -/
def nb (u : Nat) : Nat := nbF 8 u

theorem nbF_le (f u : Nat) : nbF f u ≤ f := by
  induction f generalizing u with
  | zero => exact Nat.le_refl _
  | succ f ih =>
    unfold nbF
    split
    · omega
    · have := ih (u / 256); omega
theorem nbF_up (f u : Nat) (h : u < 256 ^ f) (m : Nat) : nbF (f + m) u = nbF f u := by
  induction f generalizing u with
  | zero =>
    have : u = 0 := by simpa using h
    subst this
    cases m with
    | zero => rfl
    | succ m => rw [Nat.zero_add]; unfold nbF; simp
  | succ f ih =>
    rw [show f + 1 + m = (f + m) + 1 by omega]
    unfold nbF
    split
    · rfl
    · rw [ih (u / 256) (by rw [Nat.pow_succ] at h; omega)]
theorem nb_le (u : Nat) : nb u ≤ 8 := nbF_le 8 u
theorem nb_zero : nb 0 = 0 := rfl
theorem nb_step (u : Nat) (h : u ≠ 0) (hu : u < 256 ^ 8) : nb u = nb (u / 256) + 1 := by
  unfold nb
  rw [show (8 : Nat) = 7 + 1 from rfl]
  rw [nbF_up 7 (u / 256) (by have : (256 : Nat) ^ 8 = 256 ^ 7 * 256 := rfl; omega) 1]
  conv => lhs; unfold nbF
  rw [if_neg h]

theorem size_eq (u : UInt64) : codec_appendInt_1 u = some ((nb u.toNat : Nat) : Int) := by
  obtain ⟨x, hx, hq⟩ := loopO_rule (f := fun (v : UInt64 × Int) => codec_appendInt_1_b1 v.1 v.2)
    (fun v => ∃ k : Nat, v.2 = (k : Int) ∧ k + nb v.1.toNat = nb u.toNat) (fun v => v.1.toNat) (fun x => x = ((nb u.toNat : Nat) : Int))
    (by
      rintro ⟨u', k'⟩ ⟨k, hk, hkn⟩
      simp only at hk hkn
      subst hk
      have hlt : u'.toNat < 256 ^ 8 := by have := u'.toNat_lt; exact this
      by_cases h0 : u'.toNat = 0
      · right
        refine ⟨(k : Int), ?_, ?_⟩
        · show codec_appendInt_1_b1 u' (k : Int) = _
          unfold codec_appendInt_1_b1
          rw [if_neg]
          simp only [decide_eq_true_eq, gt_iff_lt, UInt64.lt_iff_toNat_lt]
          show ¬ 0 < u'.toNat
          omega
        · rw [h0, nb_zero] at hkn; rw [← hkn]; rfl
      · left
        have hs : (shr64 u' ((8 : UInt64)).toNat).toNat = u'.toNat / 256 := by rw [e_shr64]; rfl
        refine ⟨(shr64 u' ((8 : UInt64)).toNat, ((k + 1 : Nat) : Int)), ?_, ⟨k + 1, rfl, ?_⟩, ?_⟩
        · show codec_appendInt_1_b1 u' (k : Int) = _
          unfold codec_appendInt_1_b1
          have := nb_le u.toNat
          rw [if_pos, e_succ (by omega)]
          · rfl
          · simp only [decide_eq_true_eq, gt_iff_lt, UInt64.lt_iff_toNat_lt]
            show 0 < u'.toNat
            omega
        · simp only [hs]
          have := nb_step _ h0 hlt
          omega
        · simp only [hs]
          omega) (v0 := (u, 0)) ⟨0, rfl, by simp⟩ (by have := u.toNat_lt; omega)
  subst hq
  unfold codec_appendInt_1
  exact (e_bindT (e_bindT hx)).trans rfl

/-- How many bytes the magnitude of n needs. -/
def nbI (n : Int) : Nat := if n < 0 then nb (~~~(UInt64.ofInt n)).toNat else nb (UInt64.ofInt n).toNat
def tagI (n : Int) : UInt8 := if n < 0 then UInt8.ofInt (31 - (nbI n : Int)) else UInt8.ofInt (32 + (nbI n : Int))
def byteI (n : Int) (k i : Nat) : UInt8 := (shr64 (UInt64.ofInt n) (8 * (k - 1 - i))).toUInt8
def encI (n : Int) : List UInt8 := tagI n :: (List.range (nbI n)).map (byteI n (nbI n))
theorem nbI_le (n : Int) : nbI n ≤ 8 := by unfold nbI; split <;> exact nb_le _
theorem encI_len (n : Int) : (encI n).length = nbI n + 1 := by simp [encI]

theorem appendInt_eq (b : List UInt8) (n : Int) (hb : b.length ≤ 1099511627776) : codec_appendInt b n = some (b ++ encI n) := by
  have h8 := nbI_le n
  have key : ∃ x, loopO (fun (v : Int × List UInt8) => codec_appendInt_b1 n ((nbI n : Nat) : Int) v.1 v.2) (0, b ++ [tagI n]) = some x ∧ x = b ++ encI n :=
    loopO_for (f := fun (v : Int × List UInt8) => codec_appendInt_b1 n ((nbI n : Nat) : Int) v.1 v.2) (nbI n)
      (fun k v => v = ((k : Int), b ++ tagI n :: (List.range k).map (byteI n (nbI n)))) (fun x => x = b ++ encI n) (by omega)
      (fun k v hk hv => by
        subst hv
        refine ⟨_, ?_, rfl⟩
        show codec_appendInt_b1 n ((nbI n : Nat) : Int) (k : Int) _ = _
        unfold codec_appendInt_b1
        have e1 : w64 (((nbI n : Nat) : Int) - 1) = ((nbI n - 1 : Nat) : Int) := by rw [w64_id (by omega)]; omega
        have e2 : w64 (((nbI n - 1 : Nat) : Int) - (k : Int)) = ((nbI n - 1 - k : Nat) : Int) := by rw [w64_id (by omega)]; omega
        have e3 : w64 (8 * ((nbI n - 1 - k : Nat) : Int)) = ((8 * (nbI n - 1 - k) : Nat) : Int) := by rw [w64_id (by omega)]; omega
        rw [if_pos (by simp; omega), e1, e2, e3, if_pos (by unfold NotNeg; omega), if_pos (fits1 (by simp; omega)), e_succ (by omega)]
        simp only [lt1, List.range_succ, List.map_append, List.map_cons, List.map_nil, List.append_assoc, List.cons_append]
        rfl)
      (fun v hv => by
        subst hv
        refine ⟨_, ?_, rfl⟩
        show codec_appendInt_b1 n ((nbI n : Nat) : Int) ((nbI n : Nat) : Int) _ = _
        unfold codec_appendInt_b1
        rw [if_neg (by simp)]
        rfl) (v0 := (0, b ++ [tagI n])) rfl
  obtain ⟨x, hx, rfl⟩ := key
  have hp : (if decide (n < 0) = true then
      (codec_appendInt_1 (~~~UInt64.ofInt n)).bind fun y => lt1 (UInt8.ofInt (w64 (31 - y))) fun (tag : UInt8) => some (y, tag)
    else some (((nb (UInt64.ofInt n).toNat : Nat) : Int), UInt8.ofInt (w64 (32 + ((nb (UInt64.ofInt n).toNat : Nat) : Int)))) : Option (Int × UInt8)) = some (((nbI n : Nat) : Int), tagI n) := by
    by_cases h : n < 0
    · rw [if_pos (by simpa using h), size_eq]
      have e : nbI n = nb (~~~(UInt64.ofInt n)).toNat := if_pos h
      rw [← e]
      show some (((nbI n : Nat) : Int), UInt8.ofInt (w64 (31 - ((nbI n : Nat) : Int)))) = _
      rw [w64_id (by omega)]
      unfold tagI
      rw [if_pos h]
    · rw [if_neg (by simpa using h)]
      have e : nbI n = nb (UInt64.ofInt n).toNat := if_neg h
      rw [← e, w64_id (by omega)]
      unfold tagI
      rw [if_neg h]
  unfold codec_appendInt
  refine (e_bindT (size_eq _)).trans ?_
  refine (e_lt1 _ _ _ rfl).trans ?_
  refine (e_bindT hp).trans ?_
  refine (if_pos (fits1 (by omega))).trans ?_
  refine (e_lt1 _ _ _ rfl).trans ?_
  exact (e_bindT (e_bindT hx)).trans rfl

/-! ### Shape -/
mutual
def shpV : Api_Value → Int × Bool
  | .mk k n b l =>
    if k = 1 then (0, b.length == 0 && l.length == 0)
    else if k = 2 then (0, n == 0 && l.length == 0)
    else if k = 3 then (if n = 0 ∧ b.length = 0 then shpL 0 l else (0, false))
    else (0, false)
def shpL (d : Int) : List Api_Value → Int × Bool
  | [] => (d + 1, true)
  | x :: l => if (shpV x).2 = true then shpL (mx64 d (shpV x).1) l else (0, false)
end

mutual
theorem shpV_le : ∀ v : Api_Value, 0 ≤ (shpV v).1 ∧ (shpV v).1 ≤ szV v
  | .mk k n b l => by
    have h := shpL_le 0 l
    unfold shpV szV
    split
    · simp; omega
    · split
      · simp; omega
      · split
        · split
          · omega
          · simp; omega
        · simp; omega
theorem shpL_le : ∀ (d : Int) (l : List Api_Value), 0 ≤ d → 0 ≤ (shpL d l).1 ∧ (shpL d l).1 ≤ max d (szVs l) + 1
  | d, [] => by intro h; simp [shpL, szVs]; omega
  | d, x :: l => by
    intro h
    have h1 := shpV_le x
    have hm : 0 ≤ mx64 d (shpV x).1 ∧ mx64 d (shpV x).1 ≤ max d (szV x) := by unfold mx64; split <;> omega
    have h2 := shpL_le (mx64 d (shpV x).1) l hm.1
    unfold shpL szVs
    split
    · omega
    · simp; omega
end
end Go.Proofs.YtgdiabbgiiemcaaDoor
