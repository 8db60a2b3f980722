/-
  The encoder, the recursive functions: shape, appendValue, Encode.
-/
import Derived.Test.YtgdiabbgiiemcaaDoorE1
namespace Go.Proofs.YtgdiabbgiiemcaaDoor
open Go.Rv
set_option linter.unusedVariables false
set_option linter.unusedSimpArgs false

theorem nth_mem {l : List Api_Value} {k : Nat} (h : k < l.length) : nth l k = l[k] := by simp [nth, List.getD_eq_getElem?_getD, h]

theorem len0 {α : Type} (l : List α) : ((l.length : Int) == 0) = (l.length == 0) := by
  cases l with
  | nil => rfl
  | cons a l => simp; omega
theorem shpL_nil (d : Int) : shpL d [] = (d + 1, true) := by unfold shpL; rfl
theorem shpL_cons (d : Int) (x : Api_Value) (l : List Api_Value) : shpL d (x :: l) = if (shpV x).2 = true then shpL (mx64 d (shpV x).1) l else (0, false) := by
  conv => lhs; unfold shpL

/-! ### Shape -/
theorem shape_loop (v : Api_Value) (rec_ : Api_Value → Option (Int × Bool)) (hr : ∀ x ∈ v.L, rec_ x = some (shpV x)) (hs : szV v ≤ 1099511627776) :
    ∃ x, loopO (fun (s : Int × Int) => codec_shape_b1 v rec_ s.1 s.2) (0, 0) = some x ∧
      ((∃ d : Int, shpL 0 v.L = (d + 1, true) ∧ 0 ≤ d ∧ d ≤ 1099511627776 ∧ x = .inl d) ∨ (shpL 0 v.L = (0, false) ∧ x = .inr (.inr (.inr (0, false))))) := by
  have hsz := szV_eq v
  have hlen := szVs_len v.L
  refine loopO_rule (f := fun (s : Int × Int) => codec_shape_b1 v rec_ s.1 s.2)
    (fun s => ∃ k : Nat, s.2 = (k : Int) ∧ k ≤ v.L.length ∧ 0 ≤ s.1 ∧ s.1 ≤ 1099511627776 ∧ shpL 0 v.L = shpL s.1 (v.L.drop k)) (fun s => v.L.length - s.2.toNat) _ ?_ ⟨0, rfl, Nat.zero_le _, by simp, by simp, rfl⟩ (by omega)
  rintro ⟨d, t⟩ ⟨k, ht, hk, hd0, hd1, hsp⟩
  simp only at ht hd0 hd1 hsp
  subst ht
  by_cases hkl : k < v.L.length
  · have hx : v.L.drop k = v.L[k] :: v.L.drop (k + 1) := List.drop_eq_getElem_cons hkl
    have hm : v.L[k] ∈ v.L := List.getElem_mem hkl
    have hsx := szVs_mem hm
    have hle := shpV_le v.L[k]
    rw [hx, shpL_cons] at hsp
    have hb : codec_shape_b1 v rec_ d (k : Int) = if (!(shpV v.L[k]).2) = true then some (.inr (.inr (.inr (.inr (0, false))))) else some (.inl (mx64 d (shpV v.L[k]).1, ((k + 1 : Nat) : Int))) := by
      unfold codec_shape_b1
      rw [if_pos (by simp; omega), if_pos (inR_of hkl)]
      simp only [Int.toNat_natCast, nth_mem hkl, lt1, value_eta]
      refine (e_bindT (hr _ hm)).trans ?_
      rw [e_succ (by omega)]
      rfl
    by_cases hg : (shpV v.L[k]).2 = true
    · left
      rw [if_pos hg] at hsp
      rw [if_neg (by simp [hg])] at hb
      refine ⟨_, hb, ⟨k + 1, rfl, hkl, ?_, ?_, hsp⟩, ?_⟩
      · simp only [mx64]; split <;> omega
      · simp only [mx64]; split <;> omega
      · simp only [Int.toNat_natCast]; omega
    · right
      rw [if_neg hg] at hsp
      rw [if_pos (by simp [hg])] at hb
      exact ⟨_, hb, .inr ⟨hsp, rfl⟩⟩
  · right
    have hkk : k = v.L.length := by omega
    subst hkk
    rw [List.drop_length, shpL_nil] at hsp
    refine ⟨.inl d, ?_, .inl ⟨d, hsp, hd0, hd1, rfl⟩⟩
    show codec_shape_b1 v rec_ d ((v.L.length : Nat) : Int) = _
    unfold codec_shape_b1
    rw [if_neg (by simp)]

theorem shape_n : ∀ (n : Nat) (v : Api_Value), szV v < n → szV v ≤ 1099511627776 → codec_shape_n n v = some (shpV v)
  | 0, v, h, _ => absurd h (Nat.not_lt_zero _)
  | n + 1, v, h, hs => by
    show codec_shape_F (codec_shape_n n) v = _
    have hsz := szV_eq v
    obtain ⟨x, hx, hq⟩ := shape_loop v (codec_shape_n n) (fun y hy => shape_n n y (by have := szVs_mem hy; omega) (by have := szVs_mem hy; omega)) hs
    have hv : shpV v = if v.Kind = 1 then (0, v.B.length == 0 && v.L.length == 0) else if v.Kind = 2 then (0, v.N == 0 && v.L.length == 0) else if v.Kind = 3 then (if v.N = 0 ∧ v.B.length = 0 then shpL 0 v.L else (0, false)) else (0, false) := by
      cases v with
      | mk k n b l => unfold shpV; rfl
    rw [hv]
    unfold codec_shape_F
    by_cases h1 : v.Kind = 1
    · rw [if_pos (by simp [h1]), if_pos h1]
      rw [len0, len0]
      by_cases hb : v.B.length = 0
      · simp [hb]
      · have : (v.B.length == 0) = false := by simpa using hb
        simp [this]
    · rw [if_neg (by simp [h1]), if_neg h1]
      by_cases h2 : v.Kind = 2
      · rw [if_pos (by simp [h2]), if_pos h2, len0]
        by_cases hn : v.N = 0
        · simp [hn]
        · simp [hn]
      · rw [if_neg (by simp [h2]), if_neg h2]
        by_cases h3 : v.Kind = 3
        · rw [if_pos (by simp [h3]), if_pos h3]
          by_cases hn : v.N = 0
          · by_cases hb : v.B.length = 0
            · rw [if_pos (show v.N = 0 ∧ v.B.length = 0 from ⟨hn, hb⟩)]
              have e1 : (if (v.N != 0) = true then some true else some ((v.B.length : Int) != 0) : Option Bool) = some false := by simp [hn, hb]
              refine (e_bindT (a := (.inr (shpL 0 v.L) : Unit ⊕ (Int × Bool))) ?_).trans rfl
              refine (e_bindT e1).trans ?_
              rw [if_neg (by simp)]
              rcases hq with ⟨d, e, h0, hd, rfl⟩ | ⟨e, rfl⟩
              · rw [hx, e]
                show some (Sum.inr (w64 (d + 1), true)) = _
                rw [w64_id (by omega)]
              · rw [hx, e]
                rfl
            · rw [if_neg (show ¬ (v.N = 0 ∧ v.B.length = 0) from fun h => hb h.2)]
              have e1 : (if (v.N != 0) = true then some true else some ((v.B.length : Int) != 0) : Option Bool) = some true := by
                rw [if_neg (by simp [hn])]; simp; intro e; apply hb; simp [e]
              refine (e_bindT (a := (.inr (0, false) : Unit ⊕ (Int × Bool))) ?_).trans rfl
              exact (e_bindT e1).trans rfl
          · rw [if_neg (show ¬ (v.N = 0 ∧ v.B.length = 0) from fun h => hn h.1)]
            have e1 : (if (v.N != 0) = true then some true else some ((v.B.length : Int) != 0) : Option Bool) = some true := by simp [hn]
            refine (e_bindT (a := (.inr (0, false) : Unit ⊕ (Int × Bool))) ?_).trans rfl
            exact (e_bindT e1).trans rfl
        · rw [if_neg (by simp [h3]), if_neg h3]
          rfl

/-! ### Encodings -/
def escB : List UInt8 → List UInt8
  | [] => []
  | c :: l => if c = 0 then 0 :: 255 :: escB l else c :: escB l
theorem escB_app (a b : List UInt8) : escB (a ++ b) = escB a ++ escB b := by
  induction a with
  | nil => rfl
  | cons c a ih => simp only [List.cons_append, escB]; split <;> simp [ih]
theorem escB_len (a : List UInt8) : (escB a).length ≤ 2 * a.length := by
  induction a with
  | nil => simp [escB]
  | cons c a ih => simp only [escB]; split <;> simp only [List.length_cons] <;> omega

mutual
def encV : Api_Value → List UInt8
  | .mk k n b l => if k = 1 then encI n else if k = 2 then 48 :: (escB b ++ [0, 0]) else 64 :: (encL l ++ [0])
def encL : List Api_Value → List UInt8
  | [] => []
  | x :: l => encV x ++ encL l
end
theorem encV_eq (v : Api_Value) : encV v = if v.Kind = 1 then encI v.N else if v.Kind = 2 then 48 :: (escB v.B ++ [0, 0]) else 64 :: (encL v.L ++ [0]) := by
  cases v with
  | mk k n b l => unfold encV; rfl
theorem encL_app (a b : List Api_Value) : encL (a ++ b) = encL a ++ encL b := by
  induction a with
  | nil => rfl
  | cons c a ih => simp only [List.cons_append, encL, ih, List.append_assoc]
mutual
theorem encV_len : ∀ v : Api_Value, (encV v).length ≤ 9 * szV v
  | .mk k n b l => by
    have h := encL_len l
    have h1 := encI_len n
    have h2 := nbI_le n
    have h3 := escB_len b
    unfold encV szV
    split
    · omega
    · split
      · simp only [List.length_cons, List.length_append, List.length_nil]; omega
      · simp only [List.length_cons, List.length_append, List.length_nil]; omega
theorem encL_len : ∀ l : List Api_Value, (encL l).length ≤ 9 * szVs l
  | [] => by simp [encL]
  | x :: l => by
    have h1 := encV_len x
    have h2 := encL_len l
    unfold encL szVs
    simp only [List.length_append]; omega
end
theorem encL_take (l : List Api_Value) (k : Nat) : (encL (l.take k)).length ≤ 9 * szVs l := by
  have h := encL_len l
  have : encL l = encL (l.take k) ++ encL (l.drop k) := by rw [← encL_app, List.take_append_drop]
  rw [this, List.length_append] at h
  omega

theorem bytes_loop (v : Api_Value) (a : List UInt8) (ha : a.length + 2 * v.B.length ≤ 100000000000000) :
    ∃ x, loopO (fun (s : Int × List UInt8) => codec_appendValue_b1 v s.1 s.2) (0, a) = some x ∧ x = a ++ escB v.B := by
  refine loopO_for (f := fun (s : Int × List UInt8) => codec_appendValue_b1 v s.1 s.2) v.B.length (fun k s => s = ((k : Int), a ++ escB (v.B.take k))) _ (by omega) ?_ ?_ (by simp [escB])
  · intro k s hk hs
    subst hs
    have hx : v.B.take (k + 1) = v.B.take k ++ [v.B[k]] := by rw [List.take_add_one, List.getElem?_eq_getElem hk]; rfl
    have hn : nth v.B k = v.B[k] := by simp [nth, List.getD_eq_getElem?_getD, hk]
    have hl := escB_len (v.B.take k)
    rw [List.length_take] at hl
    refine ⟨_, ?_, rfl⟩
    show codec_appendValue_b1 v (k : Int) _ = _
    unfold codec_appendValue_b1
    rw [if_pos (by simp; omega), if_pos (inR_of hk), if_pos (fits1 (by simp only [List.length_append]; omega)), e_succ (by omega)]
    simp only [Int.toNat_natCast, hn, lt1, hx, escB_app]
    by_cases h0 : v.B[k] = 0
    · rw [if_pos (by simp [h0]), if_pos (fits1 (by simp only [List.length_append, List.length_cons, List.length_nil]; omega))]
      simp [escB, h0]
    · rw [if_neg (by simp [h0])]
      simp [escB, h0]
  · intro s hs
    subst hs
    refine ⟨_, ?_, rfl⟩
    show codec_appendValue_b1 v ((v.B.length : Nat) : Int) _ = _
    unfold codec_appendValue_b1
    rw [if_neg (by simp), List.take_length]

theorem list_loop (v : Api_Value) (a : List UInt8) (rec_ : List UInt8 → Api_Value → Option (List UInt8)) (hr : ∀ x ∈ v.L, ∀ b, b.length + 9 * szV x ≤ a.length + 9 * szVs v.L → rec_ b x = some (b ++ encV x)) (hs : szV v ≤ 1099511627776) :
    ∃ x, loopO (fun (s : Int × List UInt8) => codec_appendValue_b2 v rec_ s.1 s.2) (0, a) = some x ∧ x = a ++ encL v.L := by
  have hsz := szV_eq v
  have hlen := szVs_len v.L
  refine loopO_for (f := fun (s : Int × List UInt8) => codec_appendValue_b2 v rec_ s.1 s.2) v.L.length (fun k s => s = ((k : Int), a ++ encL (v.L.take k))) _ (by omega) ?_ ?_ (by simp [encL])
  · intro k s hk hs'
    subst hs'
    have hx : v.L.take (k + 1) = v.L.take k ++ [v.L[k]] := by rw [List.take_add_one, List.getElem?_eq_getElem hk]; rfl
    have hm : v.L[k] ∈ v.L := List.getElem_mem hk
    have hsp : szVs v.L = szVs (v.L.take k) + szVs (v.L.drop k) := by
      have key : ∀ a b : List Api_Value, szVs (a ++ b) = szVs a + szVs b := by
        intro a b
        induction a with
        | nil => simp [szVs]
        | cons y a ih => simp only [List.cons_append, szVs, ih]; omega
      rw [← key, List.take_append_drop]
    rw [List.drop_eq_getElem_cons hk] at hsp
    simp only [szVs] at hsp
    have hl := encL_len (v.L.take k)
    refine ⟨_, ?_, rfl⟩
    show codec_appendValue_b2 v rec_ (k : Int) _ = _
    unfold codec_appendValue_b2
    rw [if_pos (by simp; omega), if_pos (inR_of hk), e_succ (by omega)]
    simp only [Int.toNat_natCast, nth_mem hk, lt1, value_eta]
    refine (e_bindT (hr _ hm _ (by simp only [List.length_append]; omega))).trans ?_
    rw [hx, encL_app]
    simp [encL]
  · intro s hs'
    subst hs'
    refine ⟨_, ?_, rfl⟩
    show codec_appendValue_b2 v rec_ ((v.L.length : Nat) : Int) _ = _
    unfold codec_appendValue_b2
    rw [if_neg (by simp), List.take_length]

theorem append_n : ∀ (n : Nat) (b : List UInt8) (v : Api_Value), szV v < n → b.length + 9 * szV v ≤ 1099511627776 → codec_appendValue_n n b v = some (b ++ encV v)
  | 0, b, v, h, _ => absurd h (Nat.not_lt_zero _)
  | n + 1, b, v, h, hs => by
    show codec_appendValue_F (codec_appendValue_n n) b v = _
    have hsz := szV_eq v
    rw [encV_eq]
    unfold codec_appendValue_F
    by_cases h1 : v.Kind = 1
    · rw [if_pos (by simp [h1]), if_pos h1]
      rw [appendInt_eq b v.N (by omega)]
      rfl
    · rw [if_neg (by simp [h1]), if_neg h1]
      by_cases h2 : v.Kind = 2
      · rw [if_pos (by simp [h2]), if_pos h2]
        obtain ⟨x, hx, rfl⟩ := bytes_loop v (b ++ [48]) (by simp only [List.length_append, List.length_cons, List.length_nil]; omega)
        have hl := escB_len v.B
        refine (e_bindT (a := (.inr (b ++ 48 :: (escB v.B ++ [0, 0])) : Unit ⊕ List UInt8)) ?_).trans rfl
        refine (if_pos (fits1 (by omega))).trans ?_
        refine (e_lt1 _ _ _ rfl).trans ?_
        refine (e_bindT (e_bindT hx)).trans ?_
        refine (if_pos (fits1 (by simp only [List.length_append, List.length_cons, List.length_nil]; omega))).trans ?_
        simp [lt1]
      · rw [if_neg (by simp [h2]), if_neg h2]
        obtain ⟨x, hx, rfl⟩ := list_loop v (b ++ [64]) (codec_appendValue_n n) (fun y hy c hc => append_n n c y (by have := szVs_mem hy; omega) (by simp only [List.length_append, List.length_cons, List.length_nil] at hc; omega)) (by omega)
        have hl := encL_len v.L
        refine (e_bindT (a := (.inl () : Unit ⊕ List UInt8)) rfl).trans ?_
        refine (if_pos (fits1 (by omega))).trans ?_
        refine (e_lt1 _ _ _ rfl).trans ?_
        refine (e_bindT (e_bindT hx)).trans ?_
        refine (if_pos (fits1 (by simp only [List.length_append, List.length_cons, List.length_nil]; omega))).trans ?_
        simp [lt1]

/-- What Encode answers. -/
def Enc (v : Api_Value) : List UInt8 × Int :=
  if (shpV v).2 = true then (if (shpV v).1 > 16 then ([], 2) else if (encV v).length > 65536 then ([], 2) else (encV v, 0)) else ([], 10)

theorem encode_eq (v : Api_Value) (h : szV v ≤ 100000000000) : codec_Encode v = some (Enc v) := by
  unfold codec_Encode codec_shape codec_appendValue Enc
  refine (e_bindT (shape_n 18446744073709551616 v (by omega) (by omega))).trans ?_
  by_cases h1 : (shpV v).2 = true
  · rw [if_neg (by simp [h1]), if_pos h1]
    by_cases h2 : (shpV v).1 > 16
    · rw [if_pos (by simpa using h2), if_pos h2]
    · rw [if_neg (by simpa using h2), if_neg h2]
      refine (e_bindT (append_n 18446744073709551616 [] v (by omega) (by simp; omega))).trans ?_
      by_cases h3 : (encV v).length > 65536
      · rw [if_pos (by simp; omega), if_pos h3]
      · rw [if_neg (by simp; omega), if_neg h3]
        rfl
  · rw [if_pos (by simp [h1]), if_neg h1]
end Go.Proofs.YtgdiabbgiiemcaaDoor
