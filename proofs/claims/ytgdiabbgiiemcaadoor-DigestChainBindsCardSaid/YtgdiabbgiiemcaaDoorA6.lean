/-
  DigestChainBinds, the plain law.
-/
import Derived.Test.YtgdiabbgiiemcaaDoorA4
namespace Go.Proofs.YtgdiabbgiiemcaaDoor
open Go.Rv
set_option linter.unusedVariables false
set_option linter.unusedSimpArgs false

theorem bindI1 {W R : Type} {o : Option (Unit ⊕ (Unit ⊕ W))} {F : Unit ⊕ W → Option R} (h : o = some (.inl ())) : (o.bind fun x => match x with
    | .inl () => some (.inl ())
    | .inr z => some z : Option (Unit ⊕ W)).bind F = F (.inl ()) := by rw [h]; rfl
theorem bindI2 {W R : Type} {o : Option (Unit ⊕ (Unit ⊕ W))} {F : Unit ⊕ W → Option R} {z : Unit ⊕ W} (h : o = some (.inr z)) : (o.bind fun x => match x with
    | .inl () => some (.inl ())
    | .inr z => some z : Option (Unit ⊕ W)).bind F = F z := by rw [h]; rfl

/-! ### Lists that are not too long -/
theorem long_ok (l : List (List UInt8)) : law02_long l = some true ∨ (law02_long l = some false ∧ l.length ≤ 8 ∧ ∀ i, i < l.length → (nth l i).length ≤ 200) := by
  obtain ⟨x, hx, hq⟩ := loopO_rule (f := fun v : Int => law02_long_b1 l v) (fun v => ∃ k : Nat, v = (k : Int) ∧ k ≤ 9 ∧ k ≤ l.length ∧ ∀ i, i < k → (nth l i).length ≤ 200) (fun v => (9 - v).toNat)
    (fun x => x = .inr (.inr true) ∨ (x = .inl () ∧ (9 ≤ l.length ∨ ∀ i, i < l.length → (nth l i).length ≤ 200)))
    (fun v hv => by
      obtain ⟨k, rfl, h9, hk, ha⟩ := hv
      by_cases h1 : k < l.length
      · by_cases h2 : k < 9
        · by_cases h3 : (nth l k).length ≤ 200
          · left
            refine ⟨((k + 1 : Nat) : Int), ?_, ⟨k + 1, rfl, by omega, by omega, fun i hi => ?_⟩, by omega⟩
            · show law02_long_b1 l (k : Int) = _
              unfold law02_long_b1
              have e1 : w64 ((k : Int) + 1) = ((k + 1 : Nat) : Int) := by rw [w64_id (by omega)]; omega
              have d1 : decide ((k : Int) < (l.length : Int)) = true := by simp; omega
              have d2 : decide ((k : Int) < 9) = true := by simp; omega
              have d3 : decide (((nth l k).length : Int) > 200) = false := by simp; omega
              simp only [d1, d2, if_true, Option.bind_some, if_pos (inR_of h1), Int.toNat_natCast, d3, e1, Bool.false_eq_true, if_false]
            · by_cases hik : i < k
              · exact ha i hik
              · have : i = k := by omega
                subst this; exact h3
          · right
            refine ⟨.inr (.inr true), ?_, .inl rfl⟩
            show law02_long_b1 l (k : Int) = _
            unfold law02_long_b1
            have d1 : decide ((k : Int) < (l.length : Int)) = true := by simp; omega
            have d2 : decide ((k : Int) < 9) = true := by simp; omega
            have d3 : decide (((nth l k).length : Int) > 200) = true := by simp; omega
            simp only [d1, d2, if_true, Option.bind_some, if_pos (inR_of h1), Int.toNat_natCast, d3]
        · right
          refine ⟨.inl (), ?_, .inr ⟨rfl, .inl (by omega)⟩⟩
          show law02_long_b1 l (k : Int) = _
          unfold law02_long_b1
          have d1 : decide ((k : Int) < (l.length : Int)) = true := by simp; omega
          have d2 : decide ((k : Int) < 9) = false := by simp; omega
          simp only [d1, d2, if_true, Option.bind_some, Bool.false_eq_true, if_false]
      · right
        refine ⟨.inl (), ?_, .inr ⟨rfl, .inr fun i hi => ha i (by omega)⟩⟩
        show law02_long_b1 l (k : Int) = _
        unfold law02_long_b1
        have d1 : decide ((k : Int) < (l.length : Int)) = false := by simp; omega
        simp only [d1, Option.bind_some, Bool.false_eq_true, if_false])
    (v0 := 0) ⟨0, rfl, by omega, by omega, fun i hi => by omega⟩ (by decide)
  unfold law02_long
  rcases hq with rfl | ⟨rfl, hq⟩
  · left
    rw [hx]; rfl
  · have e : law02_long l = some (decide ((l.length : Int) > 8)) := by
      unfold law02_long
      rw [hx]; rfl
    unfold law02_long at e
    rw [e]
    by_cases h8 : l.length ≤ 8
    · right
      refine ⟨by simp; omega, h8, ?_⟩
      rcases hq with h9 | h
      · omega
      · exact h
    · left
      simp; omega

/-! ### Chains -/
noncomputable def nx (d : Arr UInt8 32) (b : List UInt8) : Arr UInt8 32 := DS (hsh [110, 101, 120, 116] (d.l ++ b))
noncomputable def C (d : Arr UInt8 32) (l : List (List UInt8)) : Nat → Arr UInt8 32
  | 0 => d
  | k + 1 => nx (C d l k) (nth l k)

theorem C_same (d : Arr UInt8 32) (l m : List (List UInt8)) : ∀ k, (∀ i, i < k → nth l i = nth m i) → C d l k = C d m k
  | 0, _ => rfl
  | k + 1, h => by rw [C, C, C_same d l m k (fun i hi => h i (by omega)), h k (by omega)]

theorem chain_eq (d : Arr UInt8 32) (l : List (List UInt8)) (h8 : l.length ≤ 8) (h : ∀ i, i < l.length → (nth l i).length ≤ 200) : law02_chain d l = some ((List.range (l.length + 1)).map (C d l)) := by
  obtain ⟨x, hx, rfl⟩ := loopO_for (f := fun v : Int × Arr UInt8 32 × List (Arr UInt8 32) => law02_chain_b1 l v.1 v.2.1 v.2.2) l.length (fun k v => v = ((k : Int), C d l k, (List.range (k + 1)).map (C d l))) (fun x => x = (List.range (l.length + 1)).map (C d l)) (by omega)
    (fun k v hk hv => by
      subst hv
      refine ⟨_, ?_, rfl⟩
      show law02_chain_b1 l (k : Int) (C d l k) ((List.range (k + 1)).map (C d l)) = _
      unfold law02_chain_b1
      have e1 : w64 ((k : Int) + 1) = ((k + 1 : Nat) : Int) := by rw [w64_id (by omega)]; omega
      have d1 : decide ((k : Int) < (l.length : Int)) = true := by simp; omega
      have d2 : decide ((k : Int) < 8) = true := by simp; omega
      have hn := next_d (C d l k) (nth l k) (by have := h k hk; omega)
      have hf : Fits (((List.range (k + 1)).map (C d l)).length + 1) 32 := by
        rw [List.length_map, List.length_range]
        unfold Fits maxLen roomB; omega
      simp only [d1, d2, if_true, Option.bind_some, if_pos (inR_of hk), Int.toNat_natCast, hn, if_pos hf, e1, lt1]
      rw [List.range_succ (n := k + 1), List.map_append]
      rfl)
    (fun v hv => by
      subst hv
      refine ⟨_, ?_, rfl⟩
      show law02_chain_b1 l (l.length : Int) _ _ = _
      unfold law02_chain_b1
      have d1 : decide ((l.length : Int) < (l.length : Int)) = false := by simp
      simp only [d1, Option.bind_some, Bool.false_eq_true, if_false]) (v0 := (0, d, [d])) rfl
  unfold law02_chain
  refine (lt1_at _ _ _ rfl).trans ?_
  exact (bindS hx).trans rfl

theorem nth_C (d : Arr UInt8 32) (l : List (List UInt8)) (n i : Nat) (hi : i ≤ n) : nth ((List.range (n + 1)).map (C d l)) i = C d l i := by
  have : i < n + 1 := by omega
  simp [nth, List.getD_eq_getElem?_getD, this]

/-! ### The law -/
theorem law_chain (d : Arr UInt8 32) (l m : List (List UInt8)) : law02_DigestChainBinds d l m = some true := by
  unfold law02_DigestChainBinds
  rw [sane_ok]
  simp only [Option.bind_some, Bool.not_true, Bool.false_eq_true, if_false]
  by_cases hlen : l.length = m.length
  case neg =>
    have e : ((l.length : Int) != (m.length : Int)) = true := by simp; omega
    simp only [e, if_true, Option.bind_some]
  have e : ((l.length : Int) != (m.length : Int)) = false := by simp [hlen]
  rcases long_ok l with h1 | ⟨h1, h8, hb⟩
  · simp only [e, h1, Bool.false_eq_true, if_false, Option.bind_some, if_true]
  rcases long_ok m with h2 | ⟨h2, _, hb2⟩
  · simp only [e, h1, h2, Bool.false_eq_true, if_false, Option.bind_some, if_true]
  have hx := chain_eq d l h8 hb
  have hy := chain_eq d m (by omega) hb2
  rw [← hlen] at hy
  simp only [e, h1, h2, Bool.false_eq_true, if_false, Option.bind_some, hx, hy]
  generalize hn : l.length = n at *
  have hxl : ((List.range (n + 1)).map (C d l)).length = n + 1 := by simp
  have hyl : ((List.range (n + 1)).map (C d m)).length = n + 1 := by simp
  have hsame : ∀ a b : List UInt8, r02_Same a b = some (a == b) := fun _ _ => rfl
  rw [if_pos (inR_of (by omega)), if_pos (inR_of (by omega))]
  simp only [Int.toNat_natCast, nth_C d l n n (Nat.le_refl _), nth_C d m n n (Nat.le_refl _)]
  -- the third loop, where all are the same
  have loop3 : (∀ i, i < n → nth l i = nth m i) → loopO (fun v : Int => law02_DigestChainBinds_b3 l m v) 0 = some (.inl ()) := by
    intro hs
    obtain ⟨x, hx3, rfl⟩ := loopO_for (f := fun v : Int => law02_DigestChainBinds_b3 l m v) n (fun k v => v = (k : Int)) (fun x => x = .inl ()) (by omega)
      (fun k v hk hv => by
        subst hv
        refine ⟨_, ?_, rfl⟩
        show law02_DigestChainBinds_b3 l m (k : Int) = _
        unfold law02_DigestChainBinds_b3
        have e1 : w64 ((k : Int) + 1) = ((k + 1 : Nat) : Int) := by rw [w64_id (by omega)]; omega
        have d1 : decide ((k : Int) < (l.length : Int)) = true := by simp; omega
        have d2 : (nth l k == nth m k) = true := by simp [hs k hk]
        simp only [d1, if_true, if_pos (inR_of (show k < l.length by omega)), if_pos (inR_of (show k < m.length by omega)), Int.toNat_natCast, hsame, Option.bind_some, d2, Bool.not_true, Bool.false_eq_true, if_false, e1])
      (fun v hv => by
        subst hv
        refine ⟨_, ?_, rfl⟩
        show law02_DigestChainBinds_b3 l m (n : Int) = _
        unfold law02_DigestChainBinds_b3
        have d1 : decide ((n : Int) < (l.length : Int)) = false := by simp; omega
        simp only [d1, Bool.false_eq_true, if_false]) (v0 := 0) rfl
    exact hx3
  by_cases hne : C d l n = C d m n
  case neg =>
    obtain ⟨x, hx1, hq⟩ := loopO_rule (f := fun v : Int => law02_DigestChainBinds_b1 l m v) (fun v => ∃ k : Nat, v = (k : Int) ∧ k ≤ n ∧ ∀ i, i < k → nth l i = nth m i) (fun v => (n - v).toNat)
      (fun x => x = .inr (.inr (.inr true)))
      (fun v hv => by
        obtain ⟨k, rfl, hk, ha⟩ := hv
        by_cases h1 : k < n
        · by_cases h3 : nth l k = nth m k
          · left
            refine ⟨((k + 1 : Nat) : Int), ?_, ⟨k + 1, rfl, by omega, fun i hi => ?_⟩, by omega⟩
            · show law02_DigestChainBinds_b1 l m (k : Int) = _
              unfold law02_DigestChainBinds_b1
              have e1 : w64 ((k : Int) + 1) = ((k + 1 : Nat) : Int) := by rw [w64_id (by omega)]; omega
              have d1 : decide ((k : Int) < (l.length : Int)) = true := by simp; omega
              have d2 : (nth l k == nth m k) = true := by simp [h3]
              simp only [d1, if_true, if_pos (inR_of (show k < l.length by omega)), if_pos (inR_of (show k < m.length by omega)), Int.toNat_natCast, hsame, Option.bind_some, d2, Bool.not_true, Bool.false_eq_true, if_false, e1]
            · by_cases hik : i < k
              · exact ha i hik
              · have : i = k := by omega
                subst this; exact h3
          · right
            refine ⟨.inr (.inr (.inr true)), ?_, rfl⟩
            show law02_DigestChainBinds_b1 l m (k : Int) = _
            unfold law02_DigestChainBinds_b1
            have d1 : decide ((k : Int) < (l.length : Int)) = true := by simp; omega
            have d2 : (nth l k == nth m k) = false := by simp [h3]
            simp only [d1, if_true, if_pos (inR_of (show k < l.length by omega)), if_pos (inR_of (show k < m.length by omega)), Int.toNat_natCast, hsame, Option.bind_some, d2, Bool.not_false]
        · have : k = n := by omega
          subst this
          exact (hne (C_same d l m k ha)).elim)
      (v0 := 0) ⟨0, rfl, by omega, fun i hi => by omega⟩ (by show ((n : Int) - 0).toNat < _; omega)
    subst hq
    have hb : (!(C d l n == C d m n)) = true := by simp [hne]
    refine (bindT (a := .inr true) ?_).trans rfl
    refine (lt1_at _ true _ hb).trans ?_
    refine (if_pos rfl).trans ?_
    rw [hx1]; rfl
  case pos =>
    have hb : (!(C d l n == C d m n)) = false := by simp [hne]
    obtain ⟨x, hx2, hq⟩ := loopO_rule (f := fun v : Int => law02_DigestChainBinds_b2 l m ((List.range (n + 1)).map (C d l)) ((List.range (n + 1)).map (C d m)) v) (fun v => ∃ k : Nat, v = (k : Int) - 1 ∧ k ≤ n ∧ C d l k = C d m k ∧ ∀ i, k ≤ i → i < n → nth l i = nth m i) (fun v => (v + 1).toNat)
      (fun x => x = .inr (.inr true) ∨ (x = .inl () ∧ ∀ i, i < n → nth l i = nth m i))
      (fun v hv => by
        obtain ⟨k, rfl, hk, hc, ha⟩ := hv
        cases k with
        | zero =>
          right
          refine ⟨.inl (), ?_, .inr ⟨rfl, fun i hi => ha i (by omega) hi⟩⟩
          show law02_DigestChainBinds_b2 l m _ _ (((0 : Nat) : Int) - 1) = _
          unfold law02_DigestChainBinds_b2
          rw [if_neg (by decide)]
        | succ k =>
          have ek : ((k + 1 : Nat) : Int) - 1 = (k : Int) := by omega
          have e1 : w64 ((k : Int) + 1) = ((k + 1 : Nat) : Int) := by rw [w64_id (by omega)]; omega
          have e2 : w64 ((k : Int) - 1) = (k : Int) - 1 := w64_id (by omega)
          have d1 : decide ((k : Int) ≥ 0) = true := by simp
          have i1 : InR (k : Int) ((List.range (n + 1)).map (C d l)).length := inR_of (by omega)
          have i2 : InR (k : Int) ((List.range (n + 1)).map (C d m)).length := inR_of (by omega)
          have i3 : InR ((k + 1 : Nat) : Int) ((List.range (n + 1)).map (C d l)).length := inR_of (by omega)
          have i4 : InR ((k + 1 : Nat) : Int) ((List.range (n + 1)).map (C d m)).length := inR_of (by omega)
          have i5 : InR (k : Int) l.length := inR_of (by omega)
          have i6 : InR (k : Int) m.length := inR_of (by omega)
          have n1 := nth_C d l n k (by omega)
          have n2 := nth_C d m n k (by omega)
          have n3 := nth_C d l n (k + 1) (by omega)
          have n4 := nth_C d m n (k + 1) (by omega)
          have dc : (C d l (k + 1) == C d m (k + 1)) = true := by simp [hc]
          by_cases q1 : C d l k = C d m k
          · by_cases q2 : nth l k = nth m k
            · left
              refine ⟨(k : Int) - 1, ?_, ⟨k, rfl, by omega, q1, fun i hi hin => ?_⟩, by omega⟩
              · show law02_DigestChainBinds_b2 l m _ _ (((k + 1 : Nat) : Int) - 1) = _
                rw [ek]
                unfold law02_DigestChainBinds_b2
                have b1 : (C d l k == C d m k) = true := by simp [q1]
                have b2 : (nth l k == nth m k) = true := by simp [q2]
                simp only [d1, if_true, if_pos i1, if_pos i2, Int.toNat_natCast, n1, n2, b1, Bool.not_true, Bool.false_eq_true, if_false, if_pos i5, if_pos i6, hsame, Option.bind_some, b2, e2]
              · by_cases hik : i = k
                · subst hik; exact q2
                · exact ha i (by omega) hin
            · right
              refine ⟨.inr (.inr true), ?_, .inl rfl⟩
              show law02_DigestChainBinds_b2 l m _ _ (((k + 1 : Nat) : Int) - 1) = _
              rw [ek]
              unfold law02_DigestChainBinds_b2
              have b1 : (C d l k == C d m k) = true := by simp [q1]
              have b2 : (nth l k == nth m k) = false := by simp [q2]
              simp only [d1, if_true, if_pos i1, if_pos i2, Int.toNat_natCast, n1, n2, b1, Bool.not_true, Bool.false_eq_true, if_false, if_pos i5, if_pos i6, hsame, Option.bind_some, b2, Bool.not_false, e1, if_pos i3, if_pos i4, n3, n4, lt1, dc]
          · right
            refine ⟨.inr (.inr true), ?_, .inl rfl⟩
            show law02_DigestChainBinds_b2 l m _ _ (((k + 1 : Nat) : Int) - 1) = _
            rw [ek]
            unfold law02_DigestChainBinds_b2
            have b1 : (C d l k == C d m k) = false := by simp [q1]
            simp only [d1, if_true, if_pos i1, if_pos i2, Int.toNat_natCast, n1, n2, b1, Bool.not_false, Option.bind_some, e1, if_pos i3, if_pos i4, n3, n4, lt1, dc])
      (v0 := (n : Int) - 1) ⟨n, rfl, Nat.le_refl _, hne, fun i h1 h2 => by omega⟩ (by show ((n : Int) - 1 + 1).toNat < _; omega)
    have ew : w64 ((n : Int) - 1) = (n : Int) - 1 := w64_id (by omega)
    refine (bindT (a := .inl ()) ((lt1_at _ false _ hb).trans rfl)).trans ?_
    show Option.bind (Option.bind (lt1 _ _) _) _ = _
    rcases hq with rfl | ⟨rfl, hs⟩
    · refine (bindT (a := .inr true) ?_).trans rfl
      refine (bindT ((lt1_at _ ((n : Int) - 1) _ ew).trans hx2)).trans rfl
    · refine (bindT (a := .inl ()) ?_).trans ?_
      · exact (bindT ((lt1_at _ ((n : Int) - 1) _ ew).trans hx2)).trans rfl
      · have h3 := loop3 hs
        dsimp only
        rw [h3]; rfl

end Go.Proofs.YtgdiabbgiiemcaaDoor
