/-
  Part 50.
-/
import Derived.Test.YtnfoiocigicdnaaGreatDoorYV27
import Derived.Test.YtnfoiocigicdnaaGreatDoorYV43
import Derived.Test.YtnfoiocigicdnaaGreatDoorYV49
namespace Go.Proofs.YtnfoiocigicdnaaGreatDoor
open Go.Rv
set_option linter.unusedVariables false
set_option maxRecDepth 100000
theorem AdE (x y : Api_Part) : (!((x.Kind == y.Kind) && ((x.Serial == y.Serial) && (x.Fitted == y.Fitted)))) = decide (x ≠ y) := by
  by_cases h : x = y
  · subst h; simp
  · rw [decide_eq_true h]
    rcases x with ⟨a, b, c⟩
    rcases y with ⟨d, e, f⟩
    simp only [Api_Part.mk.injEq, not_and] at h
    simp only [Bool.not_eq_true', Bool.and_eq_false_iff, beq_eq_false_iff_ne, ne_eq]
    by_cases h1 : a = d
    · by_cases h2 : b = e
      · exact .inr (.inr (by simpa using h h1 h2))
      · exact .inr (.inl h2)
    · exact .inl h1
theorem AcL {a b : List Api_Part} (ha : a.length ≤ 1000000) : Fa a b = some (decide (a = b)) := by
  unfold Fa
  by_cases hl : a.length = b.length
  · rw [if_neg (by simp [hl])]
    obtain ⟨z, hz, hq⟩ := F9 (f := fun (v : Int) => Dq a b v) (fun v => ∃ k : Nat, v = (k : Int) ∧ k ≤ a.length ∧ a.take k = b.take k) (fun v => a.length - v.toNat)
      (fun z => match z with | .inl () => a = b | .inr (.inl ()) => False | .inr (.inr t) => t = false ∧ a ≠ b) (by
      rintro v ⟨k, rfl, hk, ht⟩
      unfold Dq
      by_cases hlt : k < a.length
      · have hlb : k < b.length := by omega
        rw [if_pos (decide_eq_true (by omega)), if_pos ⟨by omega, by simpa using hlt⟩, if_pos ⟨by omega, by simpa using hlb⟩]
        simp only [lt1, Int.toNat_natCast]
        have ea : a.take (k + 1) = a.take k ++ [nth a k] := by rw [List.take_add_one, List.getElem?_eq_getElem hlt]; simp [nth, List.getElem?_eq_getElem hlt]
        have eb : b.take (k + 1) = b.take k ++ [nth b k] := by rw [List.take_add_one, List.getElem?_eq_getElem hlb]; simp [nth, List.getElem?_eq_getElem hlb]
        by_cases he : nth a k = nth b k
        · rw [if_neg (by rw [AdE]; simp [he]), Mb (by omega)]
          refine .inl ⟨_, rfl, ⟨k + 1, rfl, by omega, by rw [ea, eb, ht, he]⟩, ?_⟩
          simp only [Int.toNat_natCast]; omega
        · rw [if_pos (by rw [AdE]; simpa using he)]
          exact .inr ⟨_, rfl, rfl, fun h => he (by rw [h])⟩
      · rw [if_neg (by simpa using hlt)]
        refine .inr ⟨_, rfl, ?_⟩
        rw [List.take_of_length_le (by omega), List.take_of_length_le (by omega)] at ht
        exact ht) (v0 := 0) ⟨0, rfl, Nat.zero_le _, rfl⟩ (by simp; omega)
    rw [hz]
    rcases z with ⟨⟩ | ⟨⟨⟩ | t⟩
    · have : a = b := hq
      rw [decide_eq_true this]; rfl
    · exact hq.elim
    · obtain ⟨rfl, h2⟩ := hq
      rw [decide_eq_false h2]; rfl
  · rw [if_pos (by simp; omega), decide_eq_false (fun h => hl (by rw [h]))]
theorem Ahi {a b : Api_Item} (h : Mw a = Mw b) (hk : a.Kind = b.Kind) (hr1 : a.Ref.Railway = b.Ref.Railway) (hr2 : a.Ref.No = b.Ref.No) (ht : a.Text = b.Text) (hp : a.Parts = b.Parts) : a = b := by
  rcases a with ⟨k, ⟨r, n⟩, a1, a2, a3, a4, a5, a6, a7, a8, a9, a10, a11, t, p⟩
  rcases b with ⟨k', ⟨r', n'⟩, b1, b2, b3, b4, b5, b6, b7, b8, b9, b10, b11, t', p'⟩
  simp only [Mw, List.cons.injEq, Prod.mk.injEq, true_and, and_true] at h
  obtain ⟨rfl, rfl, rfl, rfl, rfl, rfl, rfl, rfl, rfl, rfl, rfl⟩ := h
  simp only at hk hr1 hr2 ht hp
  subst hk hr1 hr2 ht hp
  rfl
theorem AiB {a b : Api_Item} (ha : OkItem a) (hb : OkItem b) : Fs a b = some (decide (a = b)) := by
  unfold Fs
  have l11 : ∀ it : Api_Item, (Mw it).length = 11 := fun _ => rfl
  obtain ⟨z, hz, hq⟩ := F9 (f := fun (v : Int) => Hf a b v) (fun v => ∃ k : Nat, v = (k : Int) ∧ k ≤ 11 ∧ (Mw a).take k = (Mw b).take k) (fun v => 11 - v.toNat)
    (fun z => match z with | .inl () => Mw a = Mw b | .inr (.inl ()) => False | .inr (.inr t) => t = false ∧ a ≠ b) (by
    rintro v ⟨k, rfl, hk, ht⟩
    unfold Hf
    by_cases hlt : k < 11
    · obtain ⟨c, n, f1, f2, f3, f4⟩ := Aby ha hlt
      obtain ⟨c', n', g1, g2, g3, g4⟩ := Aby hb hlt
      have hc : c = c' := by
        rw [f4] at g4
        exact (List.cons.inj g4).1
      subst hc
      have f3' : Hv a (nth [119, 112, 111, 110, 102, 116, 99, 100, 107, 103, 97] k) = some n := f3
      have g3' : Hv b (nth [119, 112, 111, 110, 102, 116, 99, 100, 107, 103, 97] k) = some n' := g3
      have hin : InR (k : Int) ([119, 112, 111, 110, 102, 116, 99, 100, 107, 103, 97] : List UInt8).length := ⟨by omega, by simpa using hlt⟩
      rw [if_pos (decide_eq_true (by omega)), if_pos hin]
      simp only [Int.toNat_natCast]
      rw [f3', Option.bind_some, if_pos hin, g3', Option.bind_some]
      have ea : (Mw a).take (k + 1) = (Mw a).take k ++ [(c, n)] := by rw [List.take_add_one, f1]; rfl
      have eb : (Mw b).take (k + 1) = (Mw b).take k ++ [(c, n')] := by rw [List.take_add_one, g1]; rfl
      by_cases he : n = n'
      · rw [if_neg (by simp [he]), Mb (by omega)]
        refine .inl ⟨_, rfl, ⟨k + 1, rfl, by omega, by rw [ea, eb, ht, he]⟩, ?_⟩
        simp only [Int.toNat_natCast]; omega
      · rw [if_pos (by simpa using he)]
        refine .inr ⟨_, rfl, rfl, fun h => he ?_⟩
        rw [h, g1] at f1
        exact (Prod.mk.inj (Option.some.inj f1)).2.symm
    · rw [if_neg (by simp; omega)]
      refine .inr ⟨_, rfl, ?_⟩
      rw [List.take_of_length_le (by rw [l11]; omega), List.take_of_length_le (by rw [l11]; omega)] at ht
      exact ht) (v0 := 0) ⟨0, rfl, Nat.zero_le _, rfl⟩ (by simp)
  rw [hz]
  have hpl := ha.parts
  rcases z with ⟨⟩ | ⟨⟨⟩ | t⟩
  · have hn : Mw a = Mw b := hq
    simp only [Option.bind_some]
    by_cases h1 : a.Kind = b.Kind
    · by_cases h2 : a.Ref.Railway = b.Ref.Railway
      · by_cases h3 : a.Ref.No = b.Ref.No
        · by_cases h4 : a.Text = b.Text
          · rw [if_pos (by simpa using h1), if_pos (by simp [h2, h3]), if_pos (by simpa using h4), AcL (by omega)]
            by_cases h5 : a.Parts = b.Parts
            · rw [decide_eq_true h5, decide_eq_true (Ahi hn h1 h2 h3 h4 h5)]; rfl
            · rw [decide_eq_false h5, decide_eq_false (fun h => h5 (by rw [h]))]; rfl
          · rw [if_pos (by simpa using h1), if_pos (by simp [h2, h3]), if_neg (by simpa using h4), decide_eq_false (fun h => h4 (by rw [h]))]; rfl
        · rw [if_pos (by simpa using h1), if_neg (by simp [h3]), decide_eq_false (fun h => h3 (by rw [h]))]; rfl
      · rw [if_pos (by simpa using h1), if_neg (by simp [h2]), decide_eq_false (fun h => h2 (by rw [h]))]; rfl
    · rw [if_neg (by simpa using h1), decide_eq_false (fun h => h1 (by rw [h]))]; rfl
  · exact hq.elim
  · obtain ⟨rfl, h2⟩ := hq
    rw [decide_eq_false h2]; rfl
theorem X6 {a : Api_Item} (ha : OkItem a) : Fs a a = some true := by rw [AiB ha ha, decide_eq_true rfl]
theorem AmK : OkItem ent := ⟨ent_ints.kind, ent_ints.ref, ent_ints.nums, Nat.zero_le _, Nat.zero_le _, ent_ints.part⟩
end Go.Proofs.YtnfoiocigicdnaaGreatDoor
namespace Go.Proofs.YtnfoiocigicdnaaGreatDoor.Kc
open Go.Rv
set_option linter.unusedVariables false
set_option linter.unusedSimpArgs false
theorem Ak {α β : Type} {o : Option α} {a : α} {f : α → Option β} (h : o = some a) : o.bind f = f a := by rw [h]; rfl
theorem AfW {α β : Type} (x y : α) (f : α → Option β) (h : x = y) : lt1 x f = f y := by rw [h]; rfl
theorem AeC (x : UInt64) (n : Nat) : (Wf x n).toNat = x.toNat / 2 ^ n := by
  show (x.toBitVec >>> n).toNat = _
  rw [BitVec.toNat_ushiftRight, Nat.shiftRight_eq_div_pow]; rfl
theorem T8 {k : Nat} (h : k < 9223372036854775807) : w64 ((k : Int) + 1) = ((k + 1 : Nat) : Int) := by
  rw [L4 (by omega)]; rfl
theorem value_eta (x : Api_Value) : Api_Value.mk x.Kind x.N x.B x.L = x := by cases x; rfl
mutual
def szV : Api_Value → Nat
  | .mk _ _ b l => b.length + 1 + szVs l
def szVs : List Api_Value → Nat
  | [] => 0
  | x :: l => szV x + szVs l
end
theorem Ajw (x : Api_Value) : 0 < szV x := by
  cases x with
  | mk k n b l => simp only [szV]; omega
theorem szVs_mem {l : List Api_Value} {x : Api_Value} (h : x ∈ l) : szV x ≤ szVs l := by
  induction l with
  | nil => cases h
  | cons y l ih =>
    simp only [szVs]
    rcases List.mem_cons.1 h with rfl | h
    · omega
    · have := ih h; omega
theorem szVs_len (l : List Api_Value) : l.length ≤ szVs l := by
  induction l with
  | nil => simp [szVs]
  | cons y l ih =>
    have := Ajw y
    simp only [szVs, List.length_cons]; omega
theorem szV_eq (x : Api_Value) : szV x = x.B.length + 1 + szVs x.L := by
  cases x with
  | mk k n b l => rfl
def nbF : Nat → Nat → Nat
  | 0, _ => 0
  | f + 1, u => if u = 0 then 0 else nbF f (u / 256) + 1
def nb (u : Nat) : Nat := nbF 8 u
theorem AlN (f u : Nat) : nbF f u ≤ f := by
  induction f generalizing u with
  | zero => exact Nat.le_refl _
  | succ f ih =>
    unfold nbF
    split
    · omega
    · have := ih (u / 256); omega
theorem Amz (f u : Nat) (h : u < 256 ^ f) (m : Nat) : nbF (f + m) u = nbF f u := by
  induction f generalizing u with
  | zero =>
    have : u = 0 := by simpa using h
    subst this
    cases m with
    | zero => rfl
    | succ m => rw [Nat.zero_add]; unfold nbF; simp
  | succ f ih =>
    rw [show f + 1 + m = (f + m) + 1 by omega]
    unfold nbF
    split
    · rfl
    · rw [ih (u / 256) (by rw [Nat.pow_succ] at h; omega)]
theorem AdT (u : Nat) : nb u ≤ 8 := AlN 8 u
theorem AdH : nb 0 = 0 := rfl
theorem Aic (u : Nat) (h : u ≠ 0) (hu : u < 256 ^ 8) : nb u = nb (u / 256) + 1 := by
  unfold nb
  rw [show (8 : Nat) = 7 + 1 from rfl]
  rw [Amz 7 (u / 256) (by have : (256 : Nat) ^ 8 = 256 ^ 7 * 256 := rfl; omega) 1]
  conv => lhs; unfold nbF
  rw [if_neg h]
theorem Aez (u : UInt64) : Ce u = some ((nb u.toNat : Nat) : Int) := by
  obtain ⟨x, hx, hq⟩ := F9 (f := fun (v : UInt64 × Int) => Bz v.1 v.2)
    (fun v => ∃ k : Nat, v.2 = (k : Int) ∧ k + nb v.1.toNat = nb u.toNat) (fun v => v.1.toNat) (fun x => x = ((nb u.toNat : Nat) : Int))
    (by
      rintro ⟨u', k'⟩ ⟨k, hk, hkn⟩
      simp only at hk hkn
      subst hk
      have hlt : u'.toNat < 256 ^ 8 := by have := u'.toNat_lt; exact this
      by_cases h0 : u'.toNat = 0
      · right
        refine ⟨(k : Int), ?_, ?_⟩
        · show Bz u' (k : Int) = _
          unfold Bz
          rw [if_neg]
          simp only [decide_eq_true_eq, gt_iff_lt, UInt64.lt_iff_toNat_lt]
          show ¬ 0 < u'.toNat
          omega
        · rw [h0, AdH] at hkn; rw [← hkn]; rfl
      · left
        have hs : (Wf u' ((8 : UInt64)).toNat).toNat = u'.toNat / 256 := by rw [AeC]; rfl
        refine ⟨(Wf u' ((8 : UInt64)).toNat, ((k + 1 : Nat) : Int)), ?_, ⟨k + 1, rfl, ?_⟩, ?_⟩
        · show Bz u' (k : Int) = _
          unfold Bz
          have := AdT u.toNat
          rw [if_pos, T8 (by omega)]
          · rfl
          · simp only [decide_eq_true_eq, gt_iff_lt, UInt64.lt_iff_toNat_lt]
            show 0 < u'.toNat
            omega
        · simp only [hs]
          have := Aic _ h0 hlt
          omega
        · simp only [hs]
          omega) (v0 := (u, 0)) ⟨0, rfl, by simp⟩ (by have := u.toNat_lt; omega)
  subst hq
  unfold Ce
  exact (Ak (Ak hx)).trans rfl
def nbI (n : Int) : Nat := if n < 0 then nb (~~~(UInt64.ofInt n)).toNat else nb (UInt64.ofInt n).toNat
def Vz (n : Int) : UInt8 := if n < 0 then UInt8.ofInt (31 - (nbI n : Int)) else UInt8.ofInt (32 + (nbI n : Int))
def Agd (n : Int) (k i : Nat) : UInt8 := (Wf (UInt64.ofInt n) (8 * (k - 1 - i))).toUInt8
def Afa (n : Int) : List UInt8 := Vz n :: (List.range (nbI n)).map (Agd n (nbI n))
theorem nbI_le (n : Int) : nbI n ≤ 8 := by unfold nbI; split <;> exact AdT _
theorem encI_len (n : Int) : (Afa n).length = nbI n + 1 := by simp [Afa]
theorem X3 (b : List UInt8) (n : Int) (hb : b.length ≤ 1099511627776) : D0 b n = some (b ++ Afa n) := by
  have h8 := nbI_le n
  have key : ∃ x, C6 (fun (v : Int × List UInt8) => B0 n ((nbI n : Nat) : Int) v.1 v.2) (0, b ++ [Vz n]) = some x ∧ x = b ++ Afa n :=
    I9 (f := fun (v : Int × List UInt8) => B0 n ((nbI n : Nat) : Int) v.1 v.2) (nbI n)
      (fun k v => v = ((k : Int), b ++ Vz n :: (List.range k).map (Agd n (nbI n)))) (fun x => x = b ++ Afa n) (by omega)
      (fun k v hk hv => by
        subst hv
        refine ⟨_, ?_, rfl⟩
        show B0 n ((nbI n : Nat) : Int) (k : Int) _ = _
        unfold B0
        have e1 : w64 (((nbI n : Nat) : Int) - 1) = ((nbI n - 1 : Nat) : Int) := by rw [L4 (by omega)]; omega
        have e2 : w64 (((nbI n - 1 : Nat) : Int) - (k : Int)) = ((nbI n - 1 - k : Nat) : Int) := by rw [L4 (by omega)]; omega
        have e3 : w64 (8 * ((nbI n - 1 - k : Nat) : Int)) = ((8 * (nbI n - 1 - k) : Nat) : Int) := by rw [L4 (by omega)]; omega
        rw [if_pos (by simp; omega), e1, e2, e3, if_pos (by unfold Xn; omega), if_pos (Qw (by simp; omega)), T8 (by omega)]
        simp only [lt1, List.range_succ, List.map_append, List.map_cons, List.map_nil, List.append_assoc, List.cons_append]
        rfl)
      (fun v hv => by
        subst hv
        refine ⟨_, ?_, rfl⟩
        show B0 n ((nbI n : Nat) : Int) ((nbI n : Nat) : Int) _ = _
        unfold B0
        rw [if_neg (by simp)]
        rfl) (v0 := (0, b ++ [Vz n])) rfl
  obtain ⟨x, hx, rfl⟩ := key
  have hp : (if decide (n < 0) = true then
      (Ce (~~~UInt64.ofInt n)).bind fun y => lt1 (UInt8.ofInt (w64 (31 - y))) fun (tag : UInt8) => some (y, tag)
    else some (((nb (UInt64.ofInt n).toNat : Nat) : Int), UInt8.ofInt (w64 (32 + ((nb (UInt64.ofInt n).toNat : Nat) : Int)))) : Option (Int × UInt8)) = some (((nbI n : Nat) : Int), Vz n) := by
    by_cases h : n < 0
    · rw [if_pos (by simpa using h), Aez]
      have e : nbI n = nb (~~~(UInt64.ofInt n)).toNat := if_pos h
      rw [← e]
      show some (((nbI n : Nat) : Int), UInt8.ofInt (w64 (31 - ((nbI n : Nat) : Int)))) = _
      rw [L4 (by omega)]
      unfold Vz
      rw [if_pos h]
    · rw [if_neg (by simpa using h)]
      have e : nbI n = nb (UInt64.ofInt n).toNat := if_neg h
      rw [← e, L4 (by omega)]
      unfold Vz
      rw [if_neg h]
  unfold D0
  refine (Ak (Aez _)).trans ?_
  refine (AfW _ _ _ rfl).trans ?_
  refine (Ak hp).trans ?_
  refine (if_pos (Qw (by omega))).trans ?_
  refine (AfW _ _ _ rfl).trans ?_
  exact (Ak (Ak hx)).trans rfl
mutual
def shpV : Api_Value → Int × Bool
  | .mk k n b l =>
    if k = 1 then (0, b.length == 0 && l.length == 0)
    else if k = 2 then (0, n == 0 && l.length == 0)
    else if k = 3 then (if n = 0 ∧ b.length = 0 then shpL 0 l else (0, false))
    else (0, false)
def shpL (d : Int) : List Api_Value → Int × Bool
  | [] => (d + 1, true)
  | x :: l => if (shpV x).2 = true then shpL (Pm d (shpV x).1) l else (0, false)
end
mutual
theorem Afm : ∀ v : Api_Value, 0 ≤ (shpV v).1 ∧ (shpV v).1 ≤ szV v
  | .mk k n b l => by
    have h := AdO 0 l
    unfold shpV szV
    split
    · simp; omega
    · split
      · simp; omega
      · split
        · split
          · omega
          · simp; omega
        · simp; omega
theorem AdO : ∀ (d : Int) (l : List Api_Value), 0 ≤ d → 0 ≤ (shpL d l).1 ∧ (shpL d l).1 ≤ max d (szVs l) + 1
  | d, [] => by intro h; simp [shpL, szVs]; omega
  | d, x :: l => by
    intro h
    have h1 := Afm x
    have hm : 0 ≤ Pm d (shpV x).1 ∧ Pm d (shpV x).1 ≤ max d (szV x) := by unfold Pm; split <;> omega
    have h2 := AdO (Pm d (shpV x).1) l hm.1
    unfold shpL szVs
    split
    · omega
    · simp; omega
end
theorem K0 {l : List Api_Value} {k : Nat} (h : k < l.length) : nth l k = l[k] := by simp [nth, List.getD_eq_getElem?_getD, h]
theorem Aoj {α : Type} (l : List α) : ((l.length : Int) == 0) = (l.length == 0) := by
  cases l with
  | nil => rfl
  | cons a l => simp; omega
theorem shpL_nil (d : Int) : shpL d [] = (d + 1, true) := by unfold shpL; rfl
theorem shpL_cons (d : Int) (x : Api_Value) (l : List Api_Value) : shpL d (x :: l) = if (shpV x).2 = true then shpL (Pm d (shpV x).1) l else (0, false) := by
  conv => lhs; unfold shpL
theorem Adj (v : Api_Value) (rec_ : Api_Value → Option (Int × Bool)) (hr : ∀ x ∈ v.L, rec_ x = some (shpV x)) (hs : szV v ≤ 1099511627776) :
    ∃ x, C6 (fun (s : Int × Int) => Ci v rec_ s.1 s.2) (0, 0) = some x ∧
      ((∃ d : Int, shpL 0 v.L = (d + 1, true) ∧ 0 ≤ d ∧ d ≤ 1099511627776 ∧ x = .inl d) ∨ (shpL 0 v.L = (0, false) ∧ x = .inr (.inr (.inr (0, false))))) := by
  have hsz := szV_eq v
  have hlen := szVs_len v.L
  refine F9 (f := fun (s : Int × Int) => Ci v rec_ s.1 s.2)
    (fun s => ∃ k : Nat, s.2 = (k : Int) ∧ k ≤ v.L.length ∧ 0 ≤ s.1 ∧ s.1 ≤ 1099511627776 ∧ shpL 0 v.L = shpL s.1 (v.L.drop k)) (fun s => v.L.length - s.2.toNat) _ ?_ ⟨0, rfl, Nat.zero_le _, by simp, by simp, rfl⟩ (by omega)
  rintro ⟨d, t⟩ ⟨k, ht, hk, hd0, hd1, hsp⟩
  simp only at ht hd0 hd1 hsp
  subst ht
  by_cases hkl : k < v.L.length
  · have hx : v.L.drop k = v.L[k] :: v.L.drop (k + 1) := List.drop_eq_getElem_cons hkl
    have hm : v.L[k] ∈ v.L := List.getElem_mem hkl
    have hsx := szVs_mem hm
    have hle := Afm v.L[k]
    rw [hx, shpL_cons] at hsp
    have hb : Ci v rec_ d (k : Int) = if (!(shpV v.L[k]).2) = true then some (.inr (.inr (.inr (.inr (0, false))))) else some (.inl (Pm d (shpV v.L[k]).1, ((k + 1 : Nat) : Int))) := by
      unfold Ci
      rw [if_pos (by simp; omega), if_pos (Aeu hkl)]
      simp only [Int.toNat_natCast, K0 hkl, lt1, value_eta]
      refine (Ak (hr _ hm)).trans ?_
      rw [T8 (by omega)]
      rfl
    by_cases hg : (shpV v.L[k]).2 = true
    · left
      rw [if_pos hg] at hsp
      rw [if_neg (by simp [hg])] at hb
      refine ⟨_, hb, ⟨k + 1, rfl, hkl, ?_, ?_, hsp⟩, ?_⟩
      · simp only [Pm]; split <;> omega
      · simp only [Pm]; split <;> omega
      · simp only [Int.toNat_natCast]; omega
    · right
      rw [if_neg hg] at hsp
      rw [if_pos (by simp [hg])] at hb
      exact ⟨_, hb, .inr ⟨hsp, rfl⟩⟩
  · right
    have hkk : k = v.L.length := by omega
    subst hkk
    rw [List.drop_length, shpL_nil] at hsp
    refine ⟨.inl d, ?_, .inl ⟨d, hsp, hd0, hd1, rfl⟩⟩
    show Ci v rec_ d ((v.L.length : Nat) : Int) = _
    unfold Ci
    rw [if_neg (by simp)]
theorem Y8 : ∀ (n : Nat) (v : Api_Value), szV v < n → szV v ≤ 1099511627776 → Ea n v = some (shpV v)
  | 0, v, h, _ => absurd h (Nat.not_lt_zero _)
  | n + 1, v, h, hs => by
    show Ft (Ea n) v = _
    have hsz := szV_eq v
    obtain ⟨x, hx, hq⟩ := Adj v (Ea n) (fun y hy => Y8 n y (by have := szVs_mem hy; omega) (by have := szVs_mem hy; omega)) hs
    have hv : shpV v = if v.Kind = 1 then (0, v.B.length == 0 && v.L.length == 0) else if v.Kind = 2 then (0, v.N == 0 && v.L.length == 0) else if v.Kind = 3 then (if v.N = 0 ∧ v.B.length = 0 then shpL 0 v.L else (0, false)) else (0, false) := by
      cases v with
      | mk k n b l => unfold shpV; rfl
    rw [hv]
    unfold Ft
    by_cases h1 : v.Kind = 1
    · rw [if_pos (by simp [h1]), if_pos h1]
      rw [Aoj, Aoj]
      by_cases hb : v.B.length = 0
      · simp [hb]
      · have : (v.B.length == 0) = false := by simpa using hb
        simp [this]
    · rw [if_neg (by simp [h1]), if_neg h1]
      by_cases h2 : v.Kind = 2
      · rw [if_pos (by simp [h2]), if_pos h2, Aoj]
        by_cases hn : v.N = 0
        · simp [hn]
        · simp [hn]
      · rw [if_neg (by simp [h2]), if_neg h2]
        by_cases h3 : v.Kind = 3
        · rw [if_pos (by simp [h3]), if_pos h3]
          by_cases hn : v.N = 0
          · by_cases hb : v.B.length = 0
            · rw [if_pos (show v.N = 0 ∧ v.B.length = 0 from ⟨hn, hb⟩)]
              have e1 : (if (v.N != 0) = true then some true else some ((v.B.length : Int) != 0) : Option Bool) = some false := by simp [hn, hb]
              refine (Ak (a := (.inr (shpL 0 v.L) : Unit ⊕ (Int × Bool))) ?_).trans rfl
              refine (Ak e1).trans ?_
              rw [if_neg (by simp)]
              rcases hq with ⟨d, e, h0, hd, rfl⟩ | ⟨e, rfl⟩
              · rw [hx, e]
                show some (Sum.inr (w64 (d + 1), true)) = _
                rw [L4 (by omega)]
              · rw [hx, e]
                rfl
            · rw [if_neg (show ¬ (v.N = 0 ∧ v.B.length = 0) from fun h => hb h.2)]
              have e1 : (if (v.N != 0) = true then some true else some ((v.B.length : Int) != 0) : Option Bool) = some true := by
                rw [if_neg (by simp [hn])]; simp; intro e; apply hb; simp [e]
              refine (Ak (a := (.inr (0, false) : Unit ⊕ (Int × Bool))) ?_).trans rfl
              exact (Ak e1).trans rfl
          · rw [if_neg (show ¬ (v.N = 0 ∧ v.B.length = 0) from fun h => hn h.1)]
            have e1 : (if (v.N != 0) = true then some true else some ((v.B.length : Int) != 0) : Option Bool) = some true := by simp [hn]
            refine (Ak (a := (.inr (0, false) : Unit ⊕ (Int × Bool))) ?_).trans rfl
            exact (Ak e1).trans rfl
        · rw [if_neg (by simp [h3]), if_neg h3]
          rfl
def escB : List UInt8 → List UInt8
  | [] => []
  | c :: l => if c = 0 then 0 :: 255 :: escB l else c :: escB l
theorem Ahk (a b : List UInt8) : escB (a ++ b) = escB a ++ escB b := by
  induction a with
  | nil => rfl
  | cons c a ih => simp only [List.cons_append, escB]; split <;> simp [ih]
theorem escB_len (a : List UInt8) : (escB a).length ≤ 2 * a.length := by
  induction a with
  | nil => simp [escB]
  | cons c a ih => simp only [escB]; split <;> simp only [List.length_cons] <;> omega
mutual
def encV : Api_Value → List UInt8
  | .mk k n b l => if k = 1 then Afa n else if k = 2 then 48 :: (escB b ++ [0, 0]) else 64 :: (encL l ++ [0])
def encL : List Api_Value → List UInt8
  | [] => []
  | x :: l => encV x ++ encL l
end
theorem encV_eq (v : Api_Value) : encV v = if v.Kind = 1 then Afa v.N else if v.Kind = 2 then 48 :: (escB v.B ++ [0, 0]) else 64 :: (encL v.L ++ [0]) := by
  cases v with
  | mk k n b l => unfold encV; rfl
theorem Ahw (a b : List Api_Value) : encL (a ++ b) = encL a ++ encL b := by
  induction a with
  | nil => rfl
  | cons c a ih => simp only [List.cons_append, encL, ih, List.append_assoc]
mutual
theorem Ag1 : ∀ v : Api_Value, (encV v).length ≤ 9 * szV v
  | .mk k n b l => by
    have h := Pz l
    have h1 := encI_len n
    have h2 := nbI_le n
    have h3 := escB_len b
    unfold encV szV
    split
    · omega
    · split
      · simp only [List.length_cons, List.length_append, List.length_nil]; omega
      · simp only [List.length_cons, List.length_append, List.length_nil]; omega
theorem Pz : ∀ l : List Api_Value, (encL l).length ≤ 9 * szVs l
  | [] => by simp [encL]
  | x :: l => by
    have h1 := Ag1 x
    have h2 := Pz l
    unfold encL szVs
    simp only [List.length_append]; omega
end
theorem AcU (v : Api_Value) (a : List UInt8) (ha : a.length + 2 * v.B.length ≤ 100000000000000) :
    ∃ x, C6 (fun (s : Int × List UInt8) => Bk v s.1 s.2) (0, a) = some x ∧ x = a ++ escB v.B := by
  refine I9 (f := fun (s : Int × List UInt8) => Bk v s.1 s.2) v.B.length (fun k s => s = ((k : Int), a ++ escB (v.B.take k))) _ (by omega) ?_ ?_ (by simp [escB])
  · intro k s hk hs
    subst hs
    have hx : v.B.take (k + 1) = v.B.take k ++ [v.B[k]] := by rw [List.take_add_one, List.getElem?_eq_getElem hk]; rfl
    have hn : nth v.B k = v.B[k] := by simp [nth, List.getD_eq_getElem?_getD, hk]
    have hl := escB_len (v.B.take k)
    rw [List.length_take] at hl
    refine ⟨_, ?_, rfl⟩
    show Bk v (k : Int) _ = _
    unfold Bk
    rw [if_pos (by simp; omega), if_pos (Aeu hk), if_pos (Qw (by simp only [List.length_append]; omega)), T8 (by omega)]
    simp only [Int.toNat_natCast, hn, lt1, hx, Ahk]
    by_cases h0 : v.B[k] = 0
    · rw [if_pos (by simp [h0]), if_pos (Qw (by simp only [List.length_append, List.length_cons, List.length_nil]; omega))]
      simp [escB, h0]
    · rw [if_neg (by simp [h0])]
      simp [escB, h0]
  · intro s hs
    subst hs
    refine ⟨_, ?_, rfl⟩
    show Bk v ((v.B.length : Nat) : Int) _ = _
    unfold Bk
    rw [if_neg (by simp), List.take_length]
theorem Afy (v : Api_Value) (a : List UInt8) (rec_ : List UInt8 → Api_Value → Option (List UInt8)) (hr : ∀ x ∈ v.L, ∀ b, b.length + 9 * szV x ≤ a.length + 9 * szVs v.L → rec_ b x = some (b ++ encV x)) (hs : szV v ≤ 1099511627776) :
    ∃ x, C6 (fun (s : Int × List UInt8) => Bj v rec_ s.1 s.2) (0, a) = some x ∧ x = a ++ encL v.L := by
  have hsz := szV_eq v
  have hlen := szVs_len v.L
  refine I9 (f := fun (s : Int × List UInt8) => Bj v rec_ s.1 s.2) v.L.length (fun k s => s = ((k : Int), a ++ encL (v.L.take k))) _ (by omega) ?_ ?_ (by simp [encL])
  · intro k s hk hs'
    subst hs'
    have hx : v.L.take (k + 1) = v.L.take k ++ [v.L[k]] := by rw [List.take_add_one, List.getElem?_eq_getElem hk]; rfl
    have hm : v.L[k] ∈ v.L := List.getElem_mem hk
    have hsp : szVs v.L = szVs (v.L.take k) + szVs (v.L.drop k) := by
      have key : ∀ a b : List Api_Value, szVs (a ++ b) = szVs a + szVs b := by
        intro a b
        induction a with
        | nil => simp [szVs]
        | cons y a ih => simp only [List.cons_append, szVs, ih]; omega
      rw [← key, List.take_append_drop]
    rw [List.drop_eq_getElem_cons hk] at hsp
    simp only [szVs] at hsp
    have hl := Pz (v.L.take k)
    refine ⟨_, ?_, rfl⟩
    show Bj v rec_ (k : Int) _ = _
    unfold Bj
    rw [if_pos (by simp; omega), if_pos (Aeu hk), T8 (by omega)]
    simp only [Int.toNat_natCast, K0 hk, lt1, value_eta]
    refine (Ak (hr _ hm _ (by simp only [List.length_append]; omega))).trans ?_
    rw [hx, Ahw]
    simp [encL]
  · intro s hs'
    subst hs'
    refine ⟨_, ?_, rfl⟩
    show Bj v rec_ ((v.L.length : Nat) : Int) _ = _
    unfold Bj
    rw [if_neg (by simp), List.take_length]
theorem AbU : ∀ (n : Nat) (b : List UInt8) (v : Api_Value), szV v < n → b.length + 9 * szV v ≤ 1099511627776 → Cc n b v = some (b ++ encV v)
  | 0, b, v, h, _ => absurd h (Nat.not_lt_zero _)
  | n + 1, b, v, h, hs => by
    show C4 (Cc n) b v = _
    have hsz := szV_eq v
    rw [encV_eq]
    unfold C4
    by_cases h1 : v.Kind = 1
    · rw [if_pos (by simp [h1]), if_pos h1]
      rw [X3 b v.N (by omega)]
      rfl
    · rw [if_neg (by simp [h1]), if_neg h1]
      by_cases h2 : v.Kind = 2
      · rw [if_pos (by simp [h2]), if_pos h2]
        obtain ⟨x, hx, rfl⟩ := AcU v (b ++ [48]) (by simp only [List.length_append, List.length_cons, List.length_nil]; omega)
        have hl := escB_len v.B
        refine (Ak (a := (.inr (b ++ 48 :: (escB v.B ++ [0, 0])) : Unit ⊕ List UInt8)) ?_).trans rfl
        refine (if_pos (Qw (by omega))).trans ?_
        refine (AfW _ _ _ rfl).trans ?_
        refine (Ak (Ak hx)).trans ?_
        refine (if_pos (Qw (by simp only [List.length_append, List.length_cons, List.length_nil]; omega))).trans ?_
        simp [lt1]
      · rw [if_neg (by simp [h2]), if_neg h2]
        obtain ⟨x, hx, rfl⟩ := Afy v (b ++ [64]) (Cc n) (fun y hy c hc => AbU n c y (by have := szVs_mem hy; omega) (by simp only [List.length_append, List.length_cons, List.length_nil] at hc; omega)) (by omega)
        have hl := Pz v.L
        refine (Ak (a := (.inl () : Unit ⊕ List UInt8)) rfl).trans ?_
        refine (if_pos (Qw (by omega))).trans ?_
        refine (AfW _ _ _ rfl).trans ?_
        refine (Ak (Ak hx)).trans ?_
        refine (if_pos (Qw (by simp only [List.length_append, List.length_cons, List.length_nil]; omega))).trans ?_
        simp [lt1]
def Enc (v : Api_Value) : List UInt8 × Int :=
  if (shpV v).2 = true then (if (shpV v).1 > 16 then ([], 2) else if (encV v).length > 65536 then ([], 2) else (encV v, 0)) else ([], 10)
theorem encode_eq (v : Api_Value) (h : szV v ≤ 100000000000) : Ex v = some (Enc v) := by
  unfold Ex Gf Gb Enc
  refine (Ak (Y8 18446744073709551616 v (by omega) (by omega))).trans ?_
  by_cases h1 : (shpV v).2 = true
  · rw [if_neg (by simp [h1]), if_pos h1]
    by_cases h2 : (shpV v).1 > 16
    · rw [if_pos (by simpa using h2), if_pos h2]
    · rw [if_neg (by simpa using h2), if_neg h2]
      refine (Ak (AbU 18446744073709551616 [] v (by omega) (by simp; omega))).trans ?_
      by_cases h3 : (encV v).length > 65536
      · rw [if_pos (by simp; omega), if_pos h3]
      · rw [if_neg (by simp; omega), if_neg h3]
        rfl
  · rw [if_pos (by simp [h1]), if_neg h1]
def Pw (a b : Int) : Int := if a < b then -1 else if b < a then 1 else 0
def cmpB : List UInt8 → List UInt8 → Int
  | [], [] => 0
  | [], _ :: _ => -1
  | _ :: _, [] => 1
  | x :: l, y :: m => if x = y then cmpB l m else if x < y then -1 else 1
mutual
def cmpV : Api_Value → Api_Value → Int
  | .mk k n b l, w => if k ≠ w.Kind then Pw k w.Kind else if k = 1 then Pw n w.N else if k = 2 then cmpB b w.B else if k = 3 then cmpL l w.L else 0
def cmpL : List Api_Value → List Api_Value → Int
  | [], [] => 0
  | [], _ :: _ => -1
  | _ :: _, [] => 1
  | x :: l, y :: m => if cmpV x y ≠ 0 then cmpV x y else cmpL l m
end
theorem cmpV_eq (v w : Api_Value) : cmpV v w = if v.Kind ≠ w.Kind then Pw v.Kind w.Kind else if v.Kind = 1 then Pw v.N w.N else if v.Kind = 2 then cmpB v.B w.B else if v.Kind = 3 then cmpL v.L w.L else 0 := by
  cases v with
  | mk k n b l => rw [cmpV]; rfl
theorem Tt {α : Type} [Inhabited α] {l : List α} {k : Nat} (h : k < l.length) : nth l k = l[k] := by simp [nth, List.getD_eq_getElem?_getD, h]
theorem Aed {a b : List UInt8} {k : Nat} (ha : k < a.length) (hb : k < b.length) : cmpB (a.drop k) (b.drop k) = if nth a k = nth b k then cmpB (a.drop (k + 1)) (b.drop (k + 1)) else if nth a k < nth b k then -1 else 1 := by
  rw [List.drop_eq_getElem_cons ha, List.drop_eq_getElem_cons hb, Tt ha, Tt hb, cmpB]
theorem AfQ {a b : List UInt8} {k : Nat} (hk : k ≤ a.length) (hk' : k ≤ b.length) (h : ¬ (k < a.length ∧ k < b.length)) : cmpB (a.drop k) (b.drop k) = Pw (a.length : Int) (b.length : Int) := by
  unfold Pw
  rcases Nat.lt_trichotomy a.length b.length with hl | hl | hl
  · have hka : k = a.length := by omega
    rw [if_pos (by omega), hka, List.drop_length, List.drop_eq_getElem_cons (by omega)]
    rfl
  · have hka : k = a.length := by omega
    rw [if_neg (by omega), if_neg (by omega), hka, List.drop_length, hl, List.drop_length]
    rfl
  · have hkb : k = b.length := by omega
    rw [if_neg (by omega), if_pos (by omega), hkb, List.drop_length, List.drop_eq_getElem_cons (by omega)]
    rfl
theorem AbD {l : List UInt8} {i : Nat} (h : i < l.length) : (⟨l.toArray⟩ : ByteArray)[i]! = nth l i := by
  rw [Tt h]
  have h2 : i < (⟨l.toArray⟩ : ByteArray).size := by simpa [ByteArray.size] using h
  rw [getElem!_pos (⟨l.toArray⟩ : ByteArray) i h2]
  show l.toArray[i] = _
  simp
theorem AbR (a b : List UInt8) : ∀ (m k : Nat), k + m = min a.length b.length →
    (match (List.range' k m).find? fun i => (⟨a.toArray⟩ : ByteArray)[i]! != (⟨b.toArray⟩ : ByteArray)[i]! with
      | some i => if (⟨a.toArray⟩ : ByteArray)[i]! < (⟨b.toArray⟩ : ByteArray)[i]! then -1 else 1
      | none => if (⟨a.toArray⟩ : ByteArray).size < (⟨b.toArray⟩ : ByteArray).size then (-1 : Int) else if (⟨a.toArray⟩ : ByteArray).size > (⟨b.toArray⟩ : ByteArray).size then 1 else 0) = cmpB (a.drop k) (b.drop k)
  | 0, k, h => by
    rw [List.range'_zero, List.find?_nil, AfQ (by omega) (by omega) (by omega)]
    have e : ∀ l : List UInt8, (⟨l.toArray⟩ : ByteArray).size = l.length := fun l => by simp [ByteArray.size]
    simp only [e, Pw, Int.ofNat_lt, gt_iff_lt]
  | m + 1, k, h => by
    have ha : k < a.length := by omega
    have hb : k < b.length := by omega
    rw [List.range'_succ, List.find?_cons, Aed ha hb, AbD ha, AbD hb]
    by_cases he : nth a k = nth b k
    · have : (nth a k != nth b k) = false := by simp [he]
      rw [this, if_pos he]
      exact AbR a b m (k + 1) (by omega)
    · have : (nth a k != nth b k) = true := by simp [he]
      rw [this, if_neg he]
      show (if (⟨a.toArray⟩ : ByteArray)[k]! < (⟨b.toArray⟩ : ByteArray)[k]! then (-1 : Int) else 1) = _
      rw [AbD ha, AbD hb]
theorem AaP (a b : List UInt8) : Px a b = cmpB a b := by
  have h := AbR a b (min a.length b.length) 0 (by omega)
  rw [← List.range_eq_range'] at h
  unfold Px Extern.BytealgCompare.cmp
  have e : ∀ l : List UInt8, (⟨l.toArray⟩ : ByteArray).size = l.length := fun l => by simp [ByteArray.size]
  rw [e, e]
  rw [e, e] at h
  exact h
theorem Rc (a b : List UInt8) : Fl a b = some (cmpB a b) := by
  unfold Fl Hp R7
  rw [AaP]; rfl
theorem Xg (a b : Int) : Dv a b = some (Pw a b) := by
  unfold Dv Ff Pw
  by_cases h : a < b
  · simp [h]
  · by_cases h2 : b < a <;> simp [h, h2]
theorem Aeh {a b : List Api_Value} {k : Nat} (ha : k < a.length) (hb : k < b.length) : cmpL (a.drop k) (b.drop k) = if cmpV (nth a k) (nth b k) ≠ 0 then cmpV (nth a k) (nth b k) else cmpL (a.drop (k + 1)) (b.drop (k + 1)) := by
  rw [List.drop_eq_getElem_cons ha, List.drop_eq_getElem_cons hb, Tt ha, Tt hb, cmpL]
theorem Ab4 {a b : List Api_Value} {k : Nat} (hk : k ≤ a.length) (hk' : k ≤ b.length) (h : ¬ (k < a.length ∧ k < b.length)) : cmpL (a.drop k) (b.drop k) = Pw (a.length : Int) (b.length : Int) := by
  unfold Pw
  rcases Nat.lt_trichotomy a.length b.length with hl | hl | hl
  · have hka : k = a.length := by omega
    rw [if_pos (by omega), hka, List.drop_length, List.drop_eq_getElem_cons (by omega), cmpL]
  · have hka : k = a.length := by omega
    rw [if_neg (by omega), if_neg (by omega), hka, List.drop_length, hl, List.drop_length, cmpL]
  · have hkb : k = b.length := by omega
    rw [if_neg (by omega), if_pos (by omega), hkb, List.drop_length, List.drop_eq_getElem_cons (by omega), cmpL]
theorem Si (a b : List Api_Value) (f : Api_Value → Api_Value → Option Int) (hf : ∀ x ∈ a, ∀ y, f x y = some (cmpV x y)) (ha : a.length ≤ 9223372036854775807) : Cn f a b f = some (cmpL a b) := by
  have key : ∃ x, C6 (fun (v : Int) => B1 a b f v) 0 = some x ∧ ((x = .inl () ∧ a.length ≤ b.length ∧ cmpL a b = Pw (a.length : Int) (b.length : Int)) ∨ (x = .inr (.inr (cmpL a b)))) := by
    refine F9 (f := fun (v : Int) => B1 a b f v) (fun i => ∃ k : Nat, i = (k : Int) ∧ k ≤ a.length ∧ k ≤ b.length ∧ cmpL a b = cmpL (a.drop k) (b.drop k)) (fun i => a.length - i.toNat) _ ?_ ⟨0, rfl, by simp, by simp, rfl⟩ (by omega)
    rintro _ ⟨k, rfl, hka, hkb, he⟩
    show _ ∨ _
    unfold B1
    by_cases h1 : k < a.length
    · have r1 : InR (k : Int) a.length := ⟨by omega, by omega⟩
      rw [if_pos (by simp; omega), if_pos r1]
      simp only [lt1, Int.toNat_natCast]
      by_cases h2 : k < b.length
      · have r2 : InR (k : Int) b.length := ⟨by omega, by omega⟩
        rw [if_neg (by simp; omega), if_pos r2]
        rw [value_eta, value_eta, hf _ (by rw [Tt h1]; exact List.getElem_mem h1)]
        rw [Aeh h1 h2] at he
        by_cases hz : cmpV (nth a k) (nth b k) = 0
        · left
          rw [if_neg (by simpa using hz)] at he
          refine ⟨_, (Ak rfl).trans ?_, ⟨k + 1, rfl, by omega, by omega, he⟩, ?_⟩
          · rw [if_neg (by simp [hz]), T8 (by omega)]
          · simp only [Int.toNat_natCast]; omega
        · right
          rw [if_pos hz] at he
          refine ⟨_, (Ak rfl).trans ?_, .inr rfl⟩
          rw [if_pos (by simpa using hz), he]; rfl
      · right
        rw [if_pos (by simp; omega)]
        refine ⟨_, rfl, .inr ?_⟩
        rw [he, Ab4 hka hkb (by omega)]
        unfold Pw
        rw [if_neg (by omega), if_pos (by omega)]
    · right
      rw [if_neg (by simp; omega)]
      exact ⟨_, rfl, .inl ⟨rfl, by omega, by rw [he]; exact Ab4 hka hkb (by omega)⟩⟩
  obtain ⟨x, hx, hq⟩ := key
  unfold Cn
  rcases hq with ⟨rfl, hl, he⟩ | rfl
  · refine (Ak (a := .inl ()) ((Ak hx).trans rfl)).trans ?_
    rw [he]
    unfold Pw
    by_cases h : (a.length : Int) < (b.length : Int)
    · simp [h]
    · have : ¬ (b.length : Int) < (a.length : Int) := by omega
      simp [h, this]
  · exact (Ak (a := .inr (cmpL a b)) ((Ak hx).trans rfl)).trans rfl
theorem Yz : ∀ (n : Nat) (a b : Api_Value), szV a < n → szV a ≤ 4611686018427387904 → D6 n a b = some (cmpV a b)
  | 0, a, b, h, _ => absurd h (Nat.not_lt_zero _)
  | n + 1, a, b, h, hs => by
    show D2 (D6 n) a b = _
    have hsz := szV_eq a
    have hlen := szVs_len a.L
    unfold D2
    rw [cmpV_eq]
    refine (Ak (Xg _ _)).trans ?_
    by_cases hk : a.Kind = b.Kind
    · have hz : Pw a.Kind b.Kind = 0 := by unfold Pw; simp [hk]
      rw [if_neg (show ¬ (Pw a.Kind b.Kind != 0) = true by simp [hz]), if_neg (show ¬ (a.Kind ≠ b.Kind) by simpa using hk)]
      by_cases h1 : a.Kind = 1
      · rw [if_pos (show (a.Kind == 1) = true by simp [h1]), if_pos h1]; exact Ak (Xg _ _)
      · rw [if_neg (show ¬ (a.Kind == 1) = true by simp [h1]), if_neg h1]
        by_cases h2 : a.Kind = 2
        · rw [if_pos (show (a.Kind == 2) = true by simp [h2]), if_pos h2]; exact Ak (Rc _ _)
        · rw [if_neg (show ¬ (a.Kind == 2) = true by simp [h2]), if_neg h2]
          by_cases h3 : a.Kind = 3
          · rw [if_pos (show (a.Kind == 3) = true by simp [h3]), if_pos h3]
            exact Ak (Si _ _ _ (fun x hx y => Yz n x y (by have := szVs_mem hx; omega) (by have := szVs_mem hx; omega)) (by omega))
          · rw [if_neg (show ¬ (a.Kind == 3) = true by simp [h3]), if_neg h3]
    · have hz : Pw a.Kind b.Kind ≠ 0 := by
        unfold Pw
        rcases Int.lt_trichotomy a.Kind b.Kind with h | h | h
        · rw [if_pos h]; decide
        · exact (hk h).elim
        · rw [if_neg (by omega), if_pos h]; decide
      rw [if_pos (show (Pw a.Kind b.Kind != 0) = true by simpa using hz), if_pos (show a.Kind ≠ b.Kind from hk)]
theorem compare_eq (a b : Api_Value) (h : szV a ≤ 4611686018427387904) : Jy a b = some (cmpV a b) := Yz _ a b (by omega) (by omega)
theorem cmpI_refl (a : Int) : Pw a a = 0 := by simp [Pw]
theorem cmpI_zero {a b : Int} : Pw a b = 0 ↔ a = b := by
  unfold Pw
  by_cases h : a < b
  · rw [if_pos h]; constructor
    · intro h; cases h
    · intro h; omega
  · rw [if_neg h]
    by_cases h2 : b < a
    · rw [if_pos h2]; constructor
      · intro h; cases h
      · intro h; omega
    · rw [if_neg h2]; constructor <;> intros <;> omega
end Go.Proofs.YtnfoiocigicdnaaGreatDoor.Kc
namespace Go.Proofs.YtnfoiocigicdnaaGreatDoor
open Go.Rv
set_option linter.unusedVariables false
set_option maxRecDepth 100000
theorem cI {x y : Int} : Kc.cmpV (iV x) (iV y) = 0 ↔ x = y := by
  rw [Kc.cmpV_eq, if_neg (by simp [iV, Api_Value.Kind]), if_pos (by simp [iV, Api_Value.Kind]), Kc.cmpI_zero]
  exact Iff.rfl
theorem cB_zero : ∀ {s t : List UInt8}, Kc.cmpB s t = 0 ↔ s = t
  | [], [] => by simp [Kc.cmpB]
  | [], _ :: _ => by simp [Kc.cmpB]
  | _ :: _, [] => by simp [Kc.cmpB]
  | x :: s, y :: t => by
    rw [Kc.cmpB]
    by_cases h : x = y
    · rw [if_pos h, cB_zero (s := s) (t := t), h]; simp
    · rw [if_neg h]
      constructor
      · intro h2; split at h2 <;> simp at h2
      · intro h2; exact absurd (List.cons.inj h2).1 h
theorem cL {l m : List Api_Value} : Kc.cmpV (lV l) (lV m) = 0 ↔ Kc.cmpL l m = 0 := by
  rw [Kc.cmpV_eq, if_neg (by simp [lV, Api_Value.Kind]), if_neg (by simp [lV, Api_Value.Kind]), if_neg (by simp [lV, Api_Value.Kind]), if_pos (by simp [lV, Api_Value.Kind])]
  exact Iff.rfl
theorem AbS : ∀ ps : List Api_Part, Kc.szVs (ps.map H0) = 4 * ps.length
  | [] => rfl
  | x :: ps => by
    rw [List.map_cons, Kc.szVs, AbS ps]
    simp only [H0, lV, iV, Kc.szV, Kc.szVs, List.length_nil, List.length_cons]
    omega
theorem AeE (it : Api_Item) : Kc.szV (val it) = 18 + it.Text.length + 4 * it.Parts.length := by
  unfold val U8
  simp only [lV, iV, tV, List.cons_append, List.nil_append, Kc.szV, Kc.szVs, List.length_nil, AbS]
  omega
end Go.Proofs.YtnfoiocigicdnaaGreatDoor
namespace Go.Proofs.YtnfoiocigicdnaaGreatDoor.Kc
open Go.Rv
set_option linter.unusedVariables false
def E4 (x : Int) : Prop := -9223372036854775808 ≤ x ∧ x ≤ 9223372036854775807
mutual
def okV : Api_Value → Prop
  | .mk k n b l => E4 k ∧ E4 n ∧ Alw l
def Alw : List Api_Value → Prop
  | [] => True
  | x :: l => okV x ∧ Alw l
end
theorem Agz (l : List Api_Value) : Alw l ↔ ∀ x ∈ l, okV x := by
  induction l with
  | nil => simp [Alw]
  | cons x l ih => simp [Alw, ih]
theorem Tz (v : Api_Value) : okV v ↔ E4 v.Kind ∧ E4 v.N ∧ ∀ x ∈ v.L, okV x := by
  rw [← Agz]
  cases v with
  | mk k n b l => simp only [okV]; rfl
theorem Ah2 (b : List UInt8) : b.length ≤ szL (fun _ => 1) b := by
  unfold szL
  induction b with
  | nil => simp
  | cons x b ih => simp only [List.map_cons, List.sum_cons, List.length_cons] at ih ⊢; omega
theorem Ais (l : List Api_Value) : szVs l + 1 ≤ szL szV l := by
  unfold szL
  induction l with
  | nil => simp [szVs]
  | cons x b ih => simp only [List.map_cons, List.sum_cons, szVs] at ih ⊢; omega
theorem opensAt_value {P : Program} {BB : ∀ H : Type, DataW H → Nat} {t tI tB tL : TypeId} {fs : Array Field} (hB : BulkOk BB) (ht : P.underlying t = some (.struct fs))
    (hfs : fs.toList = [⟨"Kind", tI, 0, false, "", "", 0⟩, ⟨"N", tI, 1, false, "", "", 8⟩, ⟨"B", tB, 2, false, "", "", 16⟩, ⟨"L", tL, 3, false, "", "", 40⟩])
    (hn : P.cellsOf t = 4) (cI : P.cellsOf tI = 1) (cB : P.cellsOf tB = 1) (cL : P.cellsOf tL = 1)
    (oI : Opens P BB tI Nc (fun _ => 1) (fun x => -9223372036854775808 ≤ x ∧ x ≤ 9223372036854775807))
    (oB : Opens P BB tB (cSl cU8) (szL fun _ => 1) (fun l => l.length ≤ maxLen ∧ ∀ x ∈ l, True))
    (hL : P.underlying tL = some (.slice t)) : ∀ fuel, Ju P BB fuel t cApi_Value szV okV
  | 0 => O8
  | fuel + 1 => by
    have hl : Ju P BB fuel tL (cSl cApi_Value) (szL szV) (fun l => l.length ≤ maxLen ∧ ∀ x ∈ l, okV x) := by
      cases fuel with
      | zero => exact O8
      | succ n => exact Ur hB hL hn (fun x => by rw [D8]; rfl) (opensAt_value hB ht hfs hn cI cB cL oI oB hL n)
    refine Sg hB ht hn (c := fun x : Int × Int × List UInt8 × List Api_Value × Unit => Nc x.1 ++ (Nc x.2.1 ++ (cSl cU8 x.2.2.1 ++ (cSl cApi_Value x.2.2.2.1 ++ []))))
      (by
        rw [hfs]
        exact Gj (k := 1) rfl cI (fun _ => rfl) (oI.at fuel) (Gj (k := 1) rfl cI (fun _ => rfl) (oI.at fuel) (Gj (k := 1) rfl cB (fun _ => rfl) (oB.at fuel) (Gj (k := 1) rfl cL (fun _ => rfl) hl Va))))
      (fun x => (Api_Value.mk x.1 x.2.1 x.2.2.1 x.2.2.2.1)) (fun x => by rw [D8]; rfl) (fun x => by rw [D8]; rfl) (fun x => ?_) (fun x h => ?_)
    · have h1 := Ah2 x.2.2.1
      have h2 := Ais x.2.2.2.1
      simp only [szV]
      omega
    · exact (Tz _).2 ⟨h.1, h.2.1, h.2.2.2.1.2⟩
  termination_by fuel => fuel
set_option linter.unusedSimpArgs false
theorem Afx {α : Type} {p : List α → Prop} (h0 : p []) (hs : ∀ l c, p l → p (l ++ [c])) (l : List α) : p l := by
  have : ∀ l : List α, p l.reverse := by
    intro l
    induction l with
    | nil => exact h0
    | cons c l ih => rw [List.reverse_cons]; exact hs _ _ ih
  simpa using this l.reverse
def dig : Nat → Nat → List UInt8
  | 0, _ => []
  | k + 1, u => dig k (u / 256) ++ [UInt8.ofNat u]
def valD (l : List UInt8) : Nat := l.foldl (fun a c => a * 256 + c.toNat) 0
theorem Gs : ∀ k u, (dig k u).length = k
  | 0, _ => rfl
  | k + 1, u => by simp [dig, Gs k]
theorem P1 (l : List UInt8) (c : UInt8) : valD (l ++ [c]) = valD l * 256 + c.toNat := by simp [valD]
theorem H2 (u : Nat) : (UInt8.ofNat u).toNat = u % 256 := by simp
theorem V7 : ∀ k u, u < 256 ^ k → valD (dig k u) = u
  | 0, u, h => by have : u = 0 := by simpa using h
                  subst this; rfl
  | k + 1, u, h => by
    rw [dig, P1, V7 k (u / 256) (by rw [Nat.pow_succ] at h; exact Nat.div_lt_of_lt_mul (by rw [Nat.mul_comm]; exact h)), H2]
    omega
theorem Us (l : List UInt8) : valD l < 256 ^ l.length := by
  refine Afx (p := fun l => valD l < 256 ^ l.length) (by simp [valD]) (fun l c ih => ?_) l
  · rw [P1, List.length_append, List.length_singleton, Nat.pow_succ]
    have := c.toNat_lt
    omega
theorem Af4 (l : List UInt8) : dig l.length (valD l) = l := by
  refine Afx (p := fun l => dig l.length (valD l) = l) rfl (fun l c ih => ?_) l
  · rw [P1, List.length_append, List.length_singleton, dig]
    have hc := c.toNat_lt
    have e1 : (valD l * 256 + c.toNat) / 256 = valD l := by omega
    have e2 : UInt8.ofNat (valD l * 256 + c.toNat) = c := by
      apply UInt8.toNat_inj.1
      rw [H2]; omega
    rw [e1, e2, ih]
def magI (n : Int) : Nat := if n < 0 then (-(n + 1)).toNat else n.toNat
theorem Zo {n : Int} (h : E4 n) : magI n < 9223372036854775808 := by
  unfold magI; obtain ⟨h1, h2⟩ := h; split <;> omega
theorem AhO (n : Int) : ((UInt64.ofInt n).toNat : Int) = n % 18446744073709551616 := by rw [UInt64.ofInt, UInt64.toNat_ofNat']; omega
theorem Aat (x : UInt64) : (~~~x).toNat = 18446744073709551615 - x.toNat := by rw [UInt64.toNat_not]; rfl
theorem magU {n : Int} (h : E4 n) : (if n < 0 then (~~~(UInt64.ofInt n)).toNat else (UInt64.ofInt n).toNat) = magI n := by
  obtain ⟨h1, h2⟩ := h
  unfold magI
  by_cases hn : n < 0
  · rw [if_pos hn, if_pos hn, Aat]
    have := AhO n
    omega
  · rw [if_neg hn, if_neg hn]
    have := AhO n
    omega
theorem AfM {n : Int} (h : E4 n) : nbI n = nb (magI n) := by
  have := magU h
  unfold nbI
  by_cases hn : n < 0
  · rw [if_pos hn] at this ⊢; rw [this]
  · rw [if_neg hn] at this ⊢; rw [this]
theorem Ae0 : ∀ (k u i : Nat), i < k → (dig k u)[i]? = some (UInt8.ofNat (u / 256 ^ (k - 1 - i)))
  | 0, _, _, h => absurd h (Nat.not_lt_zero _)
  | k + 1, u, i, h => by
    rw [dig]
    by_cases hi : i < k
    · rw [List.getElem?_append_left (by rw [Gs]; exact hi), Ae0 k (u / 256) i hi, Nat.div_div_eq_div_mul]
      have : k + 1 - 1 - i = (k - 1 - i) + 1 := by omega
      rw [this, Nat.pow_succ, Nat.mul_comm]
    · have : i = k := by omega
      subst this
      rw [List.getElem?_append_right (by rw [Gs]; exact Nat.le_refl _), Gs]
      simp
theorem Af8 (j : Nat) : 2 ^ (8 * j) = 256 ^ j := by rw [Nat.pow_mul]
def Uh (n : Int) (c : UInt8) : UInt8 := if n < 0 then ~~~c else c
theorem not8 (c : UInt8) : (~~~c).toNat = 255 - c.toNat := by rw [UInt8.toNat_not]; rfl
theorem AfY {n : Int} (h : E4 n) {k i : Nat} (hk : k ≤ 8) (hi : i < k) : Agd n k i = Uh n (UInt8.ofNat (magI n / 256 ^ (k - 1 - i))) := by
  have hm := Zo h
  have hu := magU h
  apply UInt8.toNat_inj.1
  unfold Agd Uh
  rw [UInt64.toNat_toUInt8, AeC, Af8]
  generalize hj : k - 1 - i = j
  have hj8 : j < 8 := by omega
  by_cases hn : n < 0
  · rw [if_pos hn] at hu ⊢
    rw [Aat] at hu
    rw [not8, H2]
    have hlt := (UInt64.ofInt n).toNat_lt
    generalize (UInt64.ofInt n).toNat = U at *
    generalize magI n = m at *
    match j, hj8 with
    | 0, _ => simp; omega
    | 1, _ => simp; omega
    | 2, _ => simp; omega
    | 3, _ => simp; omega
    | 4, _ => simp; omega
    | 5, _ => simp; omega
    | 6, _ => simp; omega
    | 7, _ => simp; omega
  · rw [if_neg hn] at hu ⊢
    rw [H2, hu]
theorem Zd {n : Int} (h : E4 n) : Afa n = Vz n :: (dig (nb (magI n)) (magI n)).map (Uh n) := by
  unfold Afa
  rw [AfM h]
  congr 1
  refine List.ext_getElem? fun i => ?_
  by_cases hi : i < nb (magI n)
  · rw [List.getElem?_map, List.getElem?_map, List.getElem?_range hi, Ae0 _ _ _ hi]
    simp only [Option.map_some]
    rw [AfY h (AdT _) hi]
  · rw [List.getElem?_eq_none (by simp; omega), List.getElem?_eq_none (by simp [Gs]; omega)]
theorem Ah1 (u : Nat) (h : u < 256 ^ 8) : u < 256 ^ nb u := by
  unfold nb
  have key : ∀ f u, u < 256 ^ f → u < 256 ^ nbF f u := by
    intro f
    induction f with
    | zero => intro u h; simpa [nbF] using h
    | succ f ih =>
      intro u h
      unfold nbF
      split
      · rename_i e; subst e; simp
      · rename_i e
        have := ih (u / 256) (by rw [Nat.pow_succ] at h; exact Nat.div_lt_of_lt_mul (by rw [Nat.mul_comm]; exact h))
        rw [Nat.pow_succ]
        omega
  exact key 8 u h
theorem AmO (u : Nat) (h : u < 256 ^ 8) (h0 : u ≠ 0) : 256 ^ (nb u - 1) ≤ u := by
  unfold nb
  have key : ∀ f u, u < 256 ^ f → u ≠ 0 → 256 ^ (nbF f u - 1) ≤ u ∧ 0 < nbF f u := by
    intro f
    induction f with
    | zero => intro u h h0; exact absurd (by simpa using h) h0
    | succ f ih =>
      intro u h h0
      unfold nbF
      rw [if_neg h0]
      by_cases h1 : u / 256 = 0
      · have : nbF f (u / 256) = 0 := by
          rw [h1]
          cases f with
          | zero => rfl
          | succ f => simp [nbF]
        rw [this]
        simp; omega
      · obtain ⟨i1, i2⟩ := ih (u / 256) (by rw [Nat.pow_succ] at h; exact Nat.div_lt_of_lt_mul (by rw [Nat.mul_comm]; exact h)) h1
        obtain ⟨m, hm⟩ : ∃ m, nbF f (u / 256) = m + 1 := ⟨nbF f (u / 256) - 1, by omega⟩
        rw [hm] at i1 ⊢
        simp only [Nat.add_sub_cancel] at i1 ⊢
        refine ⟨?_, by omega⟩
        rw [Nat.pow_succ]; omega
  exact (key 8 u h h0).1
theorem AiH {n : Int} (h : E4 n) : Vz n = if n < 0 then UInt8.ofInt (31 - (nb (magI n) : Int)) else UInt8.ofInt (32 + (nb (magI n) : Int)) := by
  unfold Vz
  rw [AfM h]
theorem Vs (v : Api_Value) : shpV v = if v.Kind = 1 then (0, v.B.length == 0 && v.L.length == 0) else if v.Kind = 2 then (0, v.N == 0 && v.L.length == 0) else if v.Kind = 3 then (if v.N = 0 ∧ v.B.length = 0 then shpL 0 v.L else (0, false)) else (0, false) := by
  cases v with
  | mk k n b l => unfold shpV; rfl
theorem V9 : ∀ (l : List Api_Value) (d : Int), (shpL d l).2 = l.all fun x => (shpV x).2
  | [], d => by rw [shpL_nil]; rfl
  | x :: l, d => by
    rw [shpL_cons, List.all_cons]
    cases h : (shpV x).2
    · rw [if_neg (by simp)]; rfl
    · rw [if_pos rfl, V9 l]; rfl
mutual
def Pp : Api_Value → Int
  | .mk k n b l => if k = 3 then Pk 0 l + 1 else Pk 0 l
def Pk (d : Int) : List Api_Value → Int
  | [] => d
  | x :: l => Pk (Pm d (Pp x)) l
end
mutual
theorem AgD : ∀ v : Api_Value, 0 ≤ Pp v ∧ Pp v ≤ szV v
  | .mk k n b l => by
    have h := Abh 0 l
    rw [Pp, szV]
    split <;> omega
theorem Abh : ∀ (d : Int) (l : List Api_Value), 0 ≤ d → 0 ≤ Pk d l ∧ Pk d l ≤ max d (szVs l)
  | d, [] => by intro h; rw [Pk]; omega
  | d, x :: l => by
    intro h
    have h1 := AgD x
    have hm : 0 ≤ Pm d (Pp x) ∧ Pm d (Pp x) ≤ max d (szV x) := by unfold Pm; split <;> omega
    have h2 := Abh (Pm d (Pp x)) l hm.1
    rw [Pk, szVs]
    omega
end
mutual
theorem Vg : ∀ v : Api_Value, (shpV v).2 = true → Pp v = (shpV v).1
  | .mk k n b l => by
    intro h
    rw [shpV] at h ⊢
    rw [Pp]
    by_cases k1 : k = 1
    · rw [if_pos k1] at h ⊢
      have hl : l.length = 0 := by simp at h; simp [h.2]
      have : l = [] := List.length_eq_zero_iff.1 hl
      subst this
      rw [if_neg (by omega), Pk]
    · rw [if_neg k1] at h ⊢
      by_cases k2 : k = 2
      · rw [if_pos k2] at h ⊢
        have hl : l.length = 0 := by simp at h; simp [h.2]
        have : l = [] := List.length_eq_zero_iff.1 hl
        subst this
        rw [if_neg (by omega), Pk]
      · rw [if_neg k2] at h ⊢
        by_cases k3 : k = 3
        · rw [if_pos k3] at h ⊢
          rw [if_pos k3]
          by_cases hc : n = 0 ∧ b.length = 0
          · rw [if_pos hc] at h ⊢
            exact X7 l 0 h
          · rw [if_neg hc] at h; cases h
        · rw [if_neg k3] at h; cases h
theorem X7 : ∀ (l : List Api_Value) (d : Int), (shpL d l).2 = true → Pk d l + 1 = (shpL d l).1
  | [], d => by intro _; rw [shpL_nil, Pk]
  | x :: l, d => by
    intro h
    rw [shpL_cons] at h ⊢
    by_cases hx : (shpV x).2 = true
    · rw [if_pos hx] at h ⊢
      rw [Pk, Vg x hx]
      exact X7 l _ h
    · rw [if_neg hx] at h; cases h
end
abbrev AdJ := (Api_Value × List UInt8) ⊕ Int
def Ado (n : Int) : Api_Value := .mk 1 n [] []
def Rh (b : List UInt8) : Api_Value := .mk 2 0 b []
def Nb (l : List Api_Value) : Api_Value := .mk 3 0 [] l
def Ph : Api_Value := .mk 0 0 [] []
def rdT : List UInt8 → List UInt8 → AdJ
  | acc, [] => .inr 5
  | acc, [c] => .inr 5
  | acc, c :: d :: b => if c ≠ 0 then rdT (acc ++ [c]) (d :: b) else if d = 0 then .inl (Rh acc, b) else if d = 255 then rdT (acc ++ [0]) b else .inr 4
def rdN (k : Nat) (fl : Bool) : Nat → Nat → List UInt8 → (Nat × List UInt8) ⊕ Int
  | 0, u, b => .inl (u, b)
  | m + 1, u, [] => .inr 5
  | m + 1, u, c :: b => if k = m + 1 ∧ ((if fl then ~~~c else c) = 0 ∨ (k = 8 ∧ (if fl then ~~~c else c) > 127)) then .inr 4 else rdN k fl m (u * 256 + (if fl then ~~~c else c).toNat) b
def Ui (t : UInt8) : Prop := 23 ≤ t.toNat ∧ t.toNat ≤ 40
def kOf (t : UInt8) : Nat := if t.toNat < 32 then 31 - t.toNat else t.toNat - 32
def Ip (t : UInt8) : Bool := decide (t.toNat < 32)
def rdI (t : UInt8) (b : List UInt8) : AdJ := match rdN (kOf t) (Ip t) (kOf t) 0 b with
  | .inl (u, r) => .inl (Ado (if Ip t = true then -(u : Int) - 1 else (u : Int)), r)
  | .inr e => .inr e
inductive Rd : UInt8 ⊕ List Api_Value → List UInt8 → AdJ → Prop
  | int (t b) (h : Ui t) : Rd (.inl t) b (rdI t b)
  | text (b) : Rd (.inl 48) b (rdT [] b)
  | lst (b o) (h : Rd (.inr []) b o) : Rd (.inl 64) b o
  | bad (t b) (h : ¬ Ui t) (h1 : t ≠ 48) (h2 : t ≠ 64) : Rd (.inl t) b (.inr 4)
  | lend (acc) : Rd (.inr acc) [] (.inr 5)
  | lfin (acc b) : Rd (.inr acc) (0 :: b) (.inl (Nb acc, b))
  | lerr (acc c b e) (hc : c ≠ 0) (h : Rd (.inl c) b (.inr e)) : Rd (.inr acc) (c :: b) (.inr e)
  | lstep (acc c b v b' o) (hc : c ≠ 0) (h : Rd (.inl c) b (.inl (v, b'))) (h2 : Rd (.inr (acc ++ [v])) b' o) : Rd (.inr acc) (c :: b) o
theorem AlE {s : UInt8 ⊕ List Api_Value} {b : List UInt8} {o : AdJ} (h : Rd s b o) : ∀ {o' : AdJ}, Rd s b o' → o = o' := by
  induction h with
  | int t b h =>
    intro o' h'
    cases h' with
    | int => rfl
    | text => exact absurd h.2 (by decide)
    | lst => exact absurd h.2 (by decide)
    | bad _ _ h1 => exact (h1 h).elim
  | text b =>
    intro o' h'
    cases h' with
    | int _ _ h => exact absurd h.2 (by decide)
    | text => rfl
    | bad _ _ _ h1 => exact (h1 rfl).elim
  | lst b o h ih =>
    intro o' h'
    cases h' with
    | int _ _ h => exact absurd h.2 (by decide)
    | lst _ _ h2 => exact ih h2
    | bad _ _ _ _ h2 => exact (h2 rfl).elim
  | bad t b h h1 h2 =>
    intro o' h'
    cases h' with
    | int _ _ h' => exact (h h').elim
    | text => exact (h1 rfl).elim
    | lst => exact (h2 rfl).elim
    | bad => rfl
  | lend acc => intro o' h'; cases h'; rfl
  | lfin acc b =>
    intro o' h'
    cases h' with
    | lfin => rfl
    | lerr _ _ _ _ hc => exact (hc rfl).elim
    | lstep _ _ _ _ _ _ hc => exact (hc rfl).elim
  | lerr acc c b e hc h ih =>
    intro o' h'
    cases h' with
    | lfin => exact (hc rfl).elim
    | lerr _ _ _ _ _ h2 => exact congrArg _ (Sum.inr.inj (ih h2))
    | lstep _ _ _ _ _ _ _ h2 => cases ih h2
  | lstep acc c b v b' o hc h h2 ih ih2 =>
    intro o' h'
    cases h' with
    | lfin => exact (hc rfl).elim
    | lerr _ _ _ _ _ h3 => cases ih h3
    | lstep _ _ _ _ _ _ _ h3 h4 => cases ih h3; exact ih2 h4
theorem Age {acc : List UInt8} {c : UInt8} {b : List UInt8} (hc : c ≠ 0) : rdT acc (c :: b) = rdT (acc ++ [c]) b := by
  cases b with
  | nil => simp [rdT]
  | cons d b => rw [rdT, if_pos hc]
theorem AaN : ∀ (a acc r : List UInt8), rdT acc (escB a ++ 0 :: 0 :: r) = .inl (Rh (acc ++ a), r)
  | [], acc, r => by simp [escB, rdT]
  | c :: a, acc, r => by
    by_cases hc : c = 0
    · subst hc
      rw [escB, if_pos rfl]
      show rdT acc (0 :: 255 :: (escB a ++ 0 :: 0 :: r)) = _
      rw [rdT, if_neg (by simp), if_neg (by decide), if_pos rfl, AaN a (acc ++ [0]) r]
      simp
    · rw [escB, if_neg hc]
      show rdT acc (c :: (escB a ++ 0 :: 0 :: r)) = _
      rw [Age hc, AaN a (acc ++ [c]) r]
      simp
theorem Za : ∀ (acc b : List UInt8) {v : Api_Value} {r : List UInt8}, rdT acc b = .inl (v, r) → ∃ a, v = Rh (acc ++ a) ∧ b = escB a ++ 0 :: 0 :: r
  | acc, [], v, r, h => by simp [rdT] at h
  | acc, [c], v, r, h => by simp [rdT] at h
  | acc, c :: d :: b, v, r, h => by
    rw [rdT] at h
    by_cases hc : c = 0
    · rw [if_neg (by simp [hc])] at h
      by_cases hd : d = 0
      · rw [if_pos hd] at h
        cases h
        exact ⟨[], by simp, by simp [escB, hc, hd]⟩
      · rw [if_neg hd] at h
        by_cases hd2 : d = 255
        · rw [if_pos hd2] at h
          obtain ⟨a, e1, e2⟩ := Za _ b h
          exact ⟨0 :: a, by rw [e1]; simp, by simp [escB, hc, hd2, e2]⟩
        · rw [if_neg hd2] at h; cases h
    · rw [if_pos hc] at h
      obtain ⟨a, e1, e2⟩ := Za _ (d :: b) h
      exact ⟨c :: a, by rw [e1]; simp, by simp [escB, hc, e2]⟩
theorem Aa3 : ∀ (a acc p : List UInt8), p.length < (escB a).length + 2 → p <+: escB a ++ [0, 0] → rdT acc p = .inr 5
  | a, acc, [], _, _ => by simp [rdT]
  | a, acc, [c], _, _ => by simp [rdT]
  | [], acc, c :: d :: p, hl, _ => by
    simp only [escB, List.length_cons, List.length_nil] at hl
    omega
  | x :: a, acc, c :: d :: p, hl, hp => by
    by_cases hx : x = 0
    · subst hx
      rw [escB, if_pos rfl] at hl hp
      simp only [List.cons_append, List.cons_prefix_cons] at hp
      obtain ⟨rfl, rfl, hp⟩ := hp
      rw [rdT, if_neg (by simp), if_neg (by decide), if_pos rfl]
      exact Aa3 a _ p (by simp at hl; omega) hp
    · rw [escB, if_neg hx] at hl hp
      simp only [List.cons_append, List.cons_prefix_cons] at hp
      obtain ⟨rfl, hp⟩ := hp
      rw [rdT, if_pos hx]
      exact Aa3 a _ (d :: p) (by simp at hl ⊢; omega) hp
def fl8 (fl : Bool) (c : UInt8) : UInt8 := if fl then ~~~c else c
theorem Zr (fl : Bool) (c : UInt8) : fl8 fl (fl8 fl c) = c := by cases fl <;> simp [fl8]
theorem M0 {k : Nat} {fl : Bool} {m u : Nat} {c : UInt8} {b : List UInt8} : rdN k fl (m + 1) u (c :: b) = if k = m + 1 ∧ (fl8 fl c = 0 ∨ (k = 8 ∧ fl8 fl c > 127)) then .inr 4 else rdN k fl m (u * 256 + (fl8 fl c).toNat) b := rfl
theorem AmV (u : Nat) : ∀ d : List UInt8, d.foldl (fun a c => a * 256 + c.toNat) u = u * 256 ^ d.length + valD d := by
  intro d
  refine Afx (p := fun d => d.foldl (fun a c => a * 256 + c.toNat) u = u * 256 ^ d.length + valD d) (by simp [valD]) (fun l c ih => ?_) d
  rw [List.foldl_append, List.foldl_cons, List.foldl_nil, ih, P1, List.length_append, List.length_singleton, Nat.pow_succ]
  have : u * (256 ^ l.length * 256) = u * 256 ^ l.length * 256 := by rw [Nat.mul_assoc]
  omega
theorem Aet {k : Nat} {fl : Bool} : ∀ (d : List UInt8) (u : Nat) (r : List UInt8), (d.length = k → ∀ c t, d = c :: t → ¬ (c = 0 ∨ (k = 8 ∧ c > 127))) → d.length ≤ k →
    rdN k fl d.length u (d.map (fl8 fl) ++ r) = .inl (d.foldl (fun a c => a * 256 + c.toNat) u, r)
  | [], u, r, _, _ => rfl
  | c :: d, u, r, h, hk => by
    show rdN k fl (d.length + 1) u (fl8 fl c :: (d.map (fl8 fl) ++ r)) = _
    rw [M0, Zr, if_neg (fun hh => h (by simpa using hh.1.symm) c d rfl hh.2), Aet d _ r (fun e => by simp at hk; omega) (by simp at hk; omega)]
    rfl
theorem Afl {k : Nat} {fl : Bool} : ∀ (m u : Nat) (b : List UInt8) {x : Nat} {r : List UInt8}, rdN k fl m u b = .inl (x, r) →
    ∃ d : List UInt8, d.length = m ∧ b = d.map (fl8 fl) ++ r ∧ x = d.foldl (fun a c => a * 256 + c.toNat) u ∧ (k = m → ∀ c t, d = c :: t → ¬ (c = 0 ∨ (k = 8 ∧ c > 127)))
  | 0, u, b, x, r, h => by
    cases h
    exact ⟨[], rfl, rfl, rfl, fun _ c t e => by cases e⟩
  | m + 1, u, [], x, r, h => by cases h
  | m + 1, u, c :: b, x, r, h => by
    rw [M0] at h
    split at h
    · cases h
    · rename_i hc
      obtain ⟨d, e1, e2, e3, e4⟩ := Afl m _ b h
      refine ⟨fl8 fl c :: d, by simp [e1], by simp [e2, Zr], by simp [e3], fun hk c' t e => ?_⟩
      cases e
      exact fun hh => hc ⟨hk, hh⟩
theorem AdG {k : Nat} {fl : Bool} : ∀ (d : List UInt8) (u : Nat) (p : List UInt8), (d.length = k → ∀ c t, d = c :: t → ¬ (c = 0 ∨ (k = 8 ∧ c > 127))) → d.length ≤ k → p.length < d.length → p <+: d.map (fl8 fl) → rdN k fl d.length u p = .inr 5
  | [], u, p, _, _, hl, _ => by simp at hl
  | c :: d, u, [], _, _, _, _ => rfl
  | c :: d, u, x :: p, h, hk, hl, hp => by
    simp only [List.map_cons, List.cons_prefix_cons] at hp
    obtain ⟨rfl, hp⟩ := hp
    show rdN k fl (d.length + 1) u (fl8 fl c :: p) = _
    rw [M0, Zr, if_neg (fun hh => h (by simpa using hh.1.symm) c d rfl hh.2)]
    exact AdG d _ p (fun e => by simp at hk; omega) (by simp at hk; omega) (by simpa using hl) hp
theorem Zq {n : Int} (h : E4 n) : (Vz n).toNat = if n < 0 then 31 - nb (magI n) else 32 + nb (magI n) := by
  have h8 := AdT (magI n)
  rw [AiH h]
  by_cases hn : n < 0
  · rw [if_pos hn, if_pos hn, UInt8.ofInt, UInt8.toNat_ofNat']; omega
  · rw [if_neg hn, if_neg hn, UInt8.ofInt, UInt8.toNat_ofNat']; omega
theorem Zy {n : Int} (h : E4 n) : Ui (Vz n) ∧ kOf (Vz n) = nb (magI n) ∧ Ip (Vz n) = decide (n < 0) := by
  have h8 := AdT (magI n)
  have ht := Zq h
  unfold Ui kOf Ip
  by_cases hn : n < 0
  · rw [if_pos hn] at ht
    rw [ht]
    refine ⟨by omega, ?_, ?_⟩
    · rw [if_pos (by omega)]; omega
    · simp [hn]; omega
  · rw [if_neg hn] at ht
    rw [ht]
    refine ⟨by omega, ?_, ?_⟩
    · rw [if_neg (by omega)]; omega
    · simp [hn]
theorem AeO {n : Int} : (if n < 0 then -((magI n : Nat) : Int) - 1 else ((magI n : Nat) : Int)) = n := by
  unfold magI
  by_cases hn : n < 0
  · rw [if_pos hn, if_pos hn]; omega
  · rw [if_neg hn, if_neg hn]; omega
theorem Wk (n : Int) : Uh n = fl8 (decide (n < 0)) := by
  funext c
  unfold Uh fl8
  by_cases hn : n < 0 <;> simp [hn]
theorem Aba {u : Nat} (hu : u < 9223372036854775808) {c : UInt8} {t : List UInt8} (h : dig (nb u) u = c :: t) : ¬ (c = 0 ∨ (nb u = 8 ∧ c > 127)) := by
  have hu8 : u < 256 ^ 8 := Nat.lt_trans hu (by decide)
  have hl := Gs (nb u) u
  rw [h, List.length_cons] at hl
  have hv := V7 (nb u) u (Ah1 u hu8)
  rw [h] at hv
  have e : valD (c :: t) = c.toNat * 256 ^ t.length + valD t := by
    unfold valD
    rw [List.foldl_cons, AmV]
    simp [valD]
  rw [e] at hv
  have hvt := Us t
  have h0 : u ≠ 0 := fun e => by rw [e, AdH] at hl; omega
  have hge := AmO u hu8 h0
  rw [show nb u - 1 = t.length by omega] at hge
  rintro (rfl | ⟨h8, hc⟩)
  · simp at hv; omega
  · rw [h8] at hl
    have ht : t.length = 7 := by omega
    rw [ht] at hv
    have : c.toNat > 127 := by rw [gt_iff_lt, UInt8.lt_iff_toNat_lt] at hc; exact hc
    have h7 : (256 : Nat) ^ 7 = 72057594037927936 := by decide
    rw [h7] at hv
    omega
theorem Ah4 {n : Int} (h : E4 n) (r : List UInt8) : rdI (Vz n) ((dig (nb (magI n)) (magI n)).map (Uh n) ++ r) = .inl (Ado n, r) := by
  obtain ⟨_, hk, hn⟩ := Zy h
  have hm := Zo h
  unfold rdI
  rw [hk, hn, Wk]
  have := Aet (k := nb (magI n)) (fl := decide (n < 0)) (dig (nb (magI n)) (magI n)) 0 r (fun _ c t e => Aba hm e) (by rw [Gs]; exact Nat.le_refl _)
  rw [Gs] at this
  rw [this]
  simp only
  rw [AmV, Nat.zero_mul, Nat.zero_add, V7 _ _ (Ah1 _ (Nat.lt_trans hm (by decide)))]
  have hb := AeO (n := n)
  by_cases hn0 : n < 0
  · rw [if_pos hn0] at hb; simp [hn0, hb]
  · rw [if_neg hn0] at hb; simp [hn0, hb]
theorem Ajm {n : Int} (h : E4 n) {p : List UInt8} (hl : p.length < nb (magI n)) (hp : p <+: (dig (nb (magI n)) (magI n)).map (Uh n)) : rdI (Vz n) p = .inr 5 := by
  obtain ⟨_, hk, hn⟩ := Zy h
  have hm := Zo h
  unfold rdI
  rw [hk, hn]
  rw [Wk] at hp
  have := AdG (k := nb (magI n)) (fl := decide (n < 0)) (dig (nb (magI n)) (magI n)) 0 p (fun _ c t e => Aba hm e) (by rw [Gs]; exact Nat.le_refl _) (by rw [Gs]; exact hl) hp
  rw [Gs] at this
  rw [this]
theorem AlQ {d : List UInt8} (hd : d.length ≤ 8) (h0 : ∀ c t, d = c :: t → c ≠ 0) : nb (valD d) = d.length := by
  have hlt := Us d
  have h8 : valD d < 256 ^ 8 := Nat.lt_of_lt_of_le hlt (Nat.pow_le_pow_right (by decide) hd)
  cases d with
  | nil => rfl
  | cons c t =>
    have hc := h0 c t rfl
    have hc' : c.toNat ≠ 0 := fun e => hc (UInt8.toNat_inj.1 (by rw [e]; rfl))
    have e : valD (c :: t) = c.toNat * 256 ^ t.length + valD t := by
      show List.foldl _ _ _ = _
      rw [List.foldl_cons, AmV]
      simp [valD]
    have hge : 256 ^ t.length ≤ valD (c :: t) := by
      rw [e]
      have : 1 * 256 ^ t.length ≤ c.toNat * 256 ^ t.length := Nat.mul_le_mul_right _ (by omega)
      omega
    have h1 := Ah1 _ h8
    have hnz : valD (c :: t) ≠ 0 := by
      have : 0 < 256 ^ t.length := Nat.pow_pos (by decide)
      omega
    have h2 := AmO _ h8 hnz
    rw [List.length_cons] at hlt ⊢
    have a1 : t.length < nb (valD (c :: t)) := (Nat.pow_lt_pow_iff_right (by decide : 1 < 256)).1 (Nat.lt_of_le_of_lt hge h1)
    have a2 : nb (valD (c :: t)) - 1 < t.length + 1 := (Nat.pow_lt_pow_iff_right (by decide : 1 < 256)).1 (Nat.lt_of_le_of_lt h2 hlt)
    omega
theorem Afp {t : UInt8} {b r : List UInt8} {v : Api_Value} (ht : Ui t) (h : rdI t b = .inl (v, r)) : ∃ n, E4 n ∧ v = Ado n ∧ t :: b = Afa n ++ r := by
  unfold rdI at h
  have hk : kOf t ≤ 8 := by unfold kOf; obtain ⟨h1, h2⟩ := ht; split <;> omega
  split at h
  case h_2 => cases h
  rename_i u r' hr
  cases h
  obtain ⟨d, hd, hb, hu, hc⟩ := Afl _ _ _ hr
  rw [AmV, Nat.zero_mul, Nat.zero_add] at hu
  have hcc := hc rfl
  have hnb : nb (valD d) = d.length := AlQ (by omega) (fun c t e => fun e0 => hcc c t e (.inl e0))
  have hlt := Us d
  have hlt63 : valD d < 9223372036854775808 := by
    rcases Nat.lt_or_ge d.length 8 with h7 | h8
    · have : (256 : Nat) ^ d.length ≤ 256 ^ 7 := Nat.pow_le_pow_right (by decide) (by omega)
      have h7' : (256 : Nat) ^ 7 = 72057594037927936 := by decide
      omega
    · cases d with
      | nil => simp at h8
      | cons c t =>
        have h3 := hcc c t rfl
        have hl : t.length = 7 := by simp at hd h8; omega
        have hcv : ¬ c > 127 := fun hh => h3 (.inr ⟨by simp at hd; omega, hh⟩)
        have hcn : c.toNat ≤ 127 := by
          rw [gt_iff_lt, UInt8.lt_iff_toNat_lt] at hcv
          have : (127 : UInt8).toNat = 127 := rfl
          omega
        have e : valD (c :: t) = c.toNat * 256 ^ t.length + valD t := by
          show List.foldl _ _ _ = _
          rw [List.foldl_cons, AmV]
          simp [valD]
        have hvt := Us t
        have h7' : (256 : Nat) ^ 7 = 72057594037927936 := by decide
        rw [hl, h7'] at hvt
        rw [e, hl, h7']
        omega
  subst hu
  have hdd := Af4 d
  rw [← hnb] at hdd
  by_cases hneg : Ip t = true
  · rw [if_pos hneg] at *
    have h32 : t.toNat < 32 := by simpa [Ip] using hneg
    refine ⟨-(valD d : Int) - 1, ⟨by omega, by omega⟩, rfl, ?_⟩
    have hm : magI (-(valD d : Int) - 1) = valD d := by unfold magI; rw [if_pos (by omega)]; omega
    rw [Zd ⟨by omega, by omega⟩, hm, hdd, hb, Wk, hneg, List.cons_append]
    have e1 : decide (-(valD d : Int) - 1 < 0) = true := by simp; omega
    rw [e1]
    congr 1
    apply UInt8.toNat_inj.1
    rw [Zq ⟨by omega, by omega⟩, if_pos (by omega), hm, hnb, hd]
    unfold kOf
    rw [if_pos h32]
    obtain ⟨q1, q2⟩ := ht
    omega
  · have hneg' : Ip t = false := by simpa using hneg
    rw [if_neg hneg] at *
    have h32 : ¬ t.toNat < 32 := by simpa [Ip] using hneg
    refine ⟨(valD d : Int), ⟨by omega, by omega⟩, rfl, ?_⟩
    have hm : magI (valD d : Int) = valD d := by unfold magI; rw [if_neg (by omega)]; omega
    rw [Zd ⟨by omega, by omega⟩, hm, hdd, hb, Wk, hneg', List.cons_append]
    have e1 : decide ((valD d : Int) < 0) = false := by simp
    rw [e1]
    congr 1
    apply UInt8.toNat_inj.1
    rw [Zq ⟨by omega, by omega⟩, if_neg (by omega), hm, hnb, hd]
    unfold kOf
    rw [if_neg h32]
    obtain ⟨q1, q2⟩ := ht
    omega
def wfV (v : Api_Value) : Prop := (shpV v).2 = true
theorem wf_list {l : List Api_Value} : wfV (Nb l) ↔ ∀ x ∈ l, wfV x := by
  unfold wfV Nb
  rw [Vs]
  show ((if (3 : Int) = 1 then _ else if (3 : Int) = 2 then _ else if (3 : Int) = 3 then (if (0 : Int) = 0 ∧ ([] : List UInt8).length = 0 then shpL 0 l else (0, false)) else (0, false) : Int × Bool).2 = true) ↔ _
  rw [if_neg (by decide), if_neg (by decide), if_pos rfl, if_pos ⟨rfl, rfl⟩, V9, List.all_eq_true]
theorem wf_cases {v : Api_Value} (h : wfV v) : v = Ado v.N ∨ v = Rh v.B ∨ (v = Nb v.L ∧ ∀ x ∈ v.L, wfV x) := by
  unfold wfV at h
  rw [Vs] at h
  cases v with
  | mk k n b l =>
    change (if k = 1 then ((0 : Int), b.length == 0 && l.length == 0) else if k = 2 then (0, n == 0 && l.length == 0) else if k = 3 then (if n = 0 ∧ b.length = 0 then shpL 0 l else (0, false)) else (0, false)).2 = true at h
    by_cases h1 : k = 1
    · rw [if_pos h1] at h
      simp at h
      left; rw [h1, h.1, h.2]; rfl
    · rw [if_neg h1] at h
      by_cases h2 : k = 2
      · rw [if_pos h2] at h
        simp at h
        right; left; rw [h2, h.1, h.2]; rfl
      · rw [if_neg h2] at h
        by_cases h3 : k = 3
        · rw [if_pos h3] at h
          by_cases hc : n = 0 ∧ b.length = 0
          · rw [if_pos hc, V9, List.all_eq_true] at h
            right; right
            have hb : b = [] := List.length_eq_zero_iff.1 hc.2
            subst h3
            obtain ⟨rfl, _⟩ := hc
            subst hb
            exact ⟨rfl, h⟩
          · rw [if_neg hc] at h; cases h
        · rw [if_neg h3] at h; cases h
theorem AlM (n : Int) : wfV (Ado n) := by unfold wfV Ado; rw [Vs]; rfl
theorem Ajk (b : List UInt8) : wfV (Rh b) := by unfold wfV Rh; rw [Vs]; rfl
theorem AaC (n : Int) : encV (Ado n) = Afa n := by rw [encV_eq]; rfl
theorem Wa (b : List UInt8) : encV (Rh b) = 48 :: (escB b ++ [0, 0]) := by rw [encV_eq]; rfl
theorem Uk (l : List Api_Value) : encV (Nb l) = 64 :: (encL l ++ [0]) := by rw [encV_eq]; rfl
theorem Ajt {l : List Api_Value} (h : okV (Nb l)) : ∀ x ∈ l, okV x := ((Tz _).1 h).2.2
theorem rng (n : Nat) (h : n ≤ 10) : E4 (n : Int) := ⟨by omega, by omega⟩
theorem ok_listI {l : List Api_Value} (h : ∀ x ∈ l, okV x) : okV (Nb l) := (Tz _).2 ⟨rng 3 (by decide), rng 0 (by decide), h⟩
theorem ok_intI {n : Int} (h : E4 n) : okV (Ado n) := (Tz _).2 ⟨rng 1 (by decide), h, fun x hx => by cases hx⟩
theorem ok_textI (b : List UInt8) : okV (Rh b) := (Tz _).2 ⟨rng 2 (by decide), rng 0 (by decide), fun x hx => by cases hx⟩
theorem AlS {n : Int} (h : okV (Ado n)) : E4 n := ((Tz _).1 h).2.1
def Ai9 (v : Api_Value) : Prop := ∃ t tl, encV v = t :: tl ∧ t ≠ 0 ∧ (∀ r, Rd (.inl t) (tl ++ r) (.inl (v, r))) ∧ ∀ p, p.length < tl.length → p <+: tl → Rd (.inl t) p (.inr 5)
theorem Af9 {n : Int} (h : E4 n) : Ai9 (Ado n) := by
  obtain ⟨hi, _, _⟩ := Zy h
  refine ⟨Vz n, (dig (nb (magI n)) (magI n)).map (Uh n), by rw [AaC, Zd h], ?_, fun r => ?_, fun p hl hp => ?_⟩
  · intro e
    rw [e] at hi
    exact absurd hi.1 (by decide)
  · have := Rd.int (Vz n) ((dig (nb (magI n)) (magI n)).map (Uh n) ++ r) hi
    rwa [Ah4 h r] at this
  · have := Rd.int (Vz n) p hi
    rwa [Ajm h (by simpa [Gs] using hl) hp] at this
theorem AdL (b : List UInt8) : Ai9 (Rh b) := by
  refine ⟨48, escB b ++ [0, 0], Wa b, by decide, fun r => ?_, fun p hl hp => ?_⟩
  · have := Rd.text ((escB b ++ [0, 0]) ++ r)
    have e := AaN b [] r
    have e2 : (escB b ++ [0, 0]) ++ r = escB b ++ 0 :: 0 :: r := by simp
    rw [e2] at this ⊢
    rw [e] at this
    exact this
  · have := Rd.text p
    rwa [Aa3 b [] p (by simpa using hl) hp] at this
theorem Ty : ∀ (l : List Api_Value), (∀ x ∈ l, Ai9 x) → (∀ acc r, Rd (.inr acc) (encL l ++ 0 :: r) (.inl (Nb (acc ++ l), r))) ∧
    ∀ acc p, p.length < (encL l).length + 1 → p <+: encL l ++ [0] → Rd (.inr acc) p (.inr 5)
  | [], _ => ⟨fun acc r => by simpa [encL] using Rd.lfin acc r, fun acc p hl hp => by
      have : p = [] := List.length_eq_zero_iff.1 (by simp [encL] at hl; exact hl ▸ rfl)
      subst this
      exact Rd.lend acc⟩
  | x :: l, h => by
    obtain ⟨h1, h2⟩ := Ty l (fun y hy => h y (List.mem_cons_of_mem _ hy))
    obtain ⟨t, tl, e, ht, g1, g2⟩ := h x List.mem_cons_self
    constructor
    · intro acc r
      have e2 : encL (x :: l) ++ 0 :: r = t :: (tl ++ (encL l ++ 0 :: r)) := by rw [encL, e]; simp
      rw [e2]
      refine Rd.lstep acc t _ x _ _ ht (g1 _) ?_
      have := h1 (acc ++ [x]) r
      simpa using this
    · intro acc p hl hp
      cases p with
      | nil => exact Rd.lend acc
      | cons c p =>
        have e2 : encL (x :: l) ++ [0] = t :: (tl ++ (encL l ++ [0])) := by rw [encL, e]; simp
        rw [e2, List.cons_prefix_cons] at hp
        obtain ⟨rfl, hp⟩ := hp
        have hl2 : p.length < tl.length + (encL l).length + 1 := by
          rw [encL, e] at hl
          simp at hl; omega
        by_cases hlt : p.length < tl.length
        · refine Rd.lerr acc c p 5 ht (g2 p hlt ?_)
          exact List.prefix_of_prefix_length_le hp (List.prefix_append _ _) (by omega)
        · have htp : tl <+: p := List.prefix_of_prefix_length_le (List.prefix_append _ _) hp (by omega)
          obtain ⟨q, rfl⟩ := htp
          have hq : q <+: encL l ++ [0] := (List.prefix_append_right_inj tl).1 hp
          refine Rd.lstep acc c _ x q _ ht (g1 q) ?_
          exact h2 _ q (by simp at hl2; omega) hq
theorem Afi {l : List Api_Value} (h : ∀ x ∈ l, Ai9 x) : Ai9 (Nb l) := by
  obtain ⟨h1, h2⟩ := Ty l h
  refine ⟨64, encL l ++ [0], Uk l, by decide, fun r => ?_, fun p hl hp => ?_⟩
  · refine Rd.lst _ _ ?_
    have := h1 [] r
    simpa using this
  · exact Rd.lst _ _ (h2 [] p (by simpa using hl) hp)
mutual
theorem Ad4 : ∀ v : Api_Value, wfV v → okV v → Ai9 v
  | .mk k n b l => by
    intro h ok
    rcases wf_cases h with e | e | ⟨e, hl⟩
    · rw [e] at ok ⊢
      exact Af9 (AlS ok)
    · rw [e]
      exact AdL _
    · rw [e] at ok ⊢
      exact Afi (AbL l hl (Ajt ok))
theorem AbL : ∀ l : List Api_Value, (∀ x ∈ l, wfV x) → (∀ x ∈ l, okV x) → ∀ x ∈ l, Ai9 x
  | [] => fun _ _ x hx => by cases hx
  | y :: l => fun h ok x hx => by
    rcases List.mem_cons.1 hx with hx | hx
    · rw [hx]
      exact Ad4 y (h y List.mem_cons_self) (ok y List.mem_cons_self)
    · exact AbL l (fun z hz => h z (List.mem_cons_of_mem _ hz)) (fun z hz => ok z (List.mem_cons_of_mem _ hz)) x hx
end
def InvR : UInt8 ⊕ List Api_Value → List UInt8 → AdJ → Prop
  | .inl t, b, .inl (v, r) => wfV v ∧ okV v ∧ t :: b = encV v ++ r
  | .inr acc, b, .inl (v, r) => ∃ l, v = Nb (acc ++ l) ∧ (∀ x ∈ l, wfV x ∧ okV x) ∧ b = encL l ++ 0 :: r
  | _, _, .inr e => e = 4 ∨ e = 5
theorem AeK {k : Nat} {fl : Bool} : ∀ (m u : Nat) (b : List UInt8) {e : Int}, rdN k fl m u b = .inr e → e = 4 ∨ e = 5
  | 0, u, b, e, h => by cases h
  | m + 1, u, [], e, h => by cases h; exact .inr rfl
  | m + 1, u, c :: b, e, h => by
    rw [M0] at h
    split at h
    · cases h; exact .inl rfl
    · exact AeK m _ b h
theorem AaW : ∀ (acc b : List UInt8) {e : Int}, rdT acc b = .inr e → e = 4 ∨ e = 5
  | acc, [], e, h => by simp [rdT] at h; exact .inr h.symm
  | acc, [c], e, h => by simp [rdT] at h; exact .inr h.symm
  | acc, c :: d :: b, e, h => by
    rw [rdT] at h
    split at h
    · exact AaW _ (d :: b) h
    · split at h
      · cases h
      · split at h
        · exact AaW _ b h
        · cases h; exact .inl rfl
theorem AeN {s : UInt8 ⊕ List Api_Value} {b : List UInt8} {o : AdJ} (h : Rd s b o) : InvR s b o := by
  induction h with
  | int t b h =>
    cases hr : rdI t b with
    | inl x =>
      obtain ⟨v, r⟩ := x
      obtain ⟨n, hn, rfl, e⟩ := Afp h hr
      exact ⟨AlM n, ok_intI hn, by rw [AaC]; exact e⟩
    | inr e =>
      unfold rdI at hr
      split at hr
      · cases hr
      · rename_i e' he; cases hr; exact AeK _ _ _ he
  | text b =>
    cases hr : rdT [] b with
    | inl x =>
      obtain ⟨v, r⟩ := x
      obtain ⟨a, rfl, e⟩ := Za _ _ hr
      refine ⟨Ajk _, ok_textI _, ?_⟩
      rw [Wa, e]; simp
    | inr e => exact AaW _ _ hr
  | lst b o h ih =>
    cases o with
    | inl x =>
      obtain ⟨v, r⟩ := x
      obtain ⟨l, rfl, hl, e⟩ := ih
      refine ⟨?_, ?_, ?_⟩
      · exact wf_list.2 (fun x hx => (hl x (by simpa using hx)).1)
      · exact ok_listI (fun x hx => (hl x (by simpa using hx)).2)
      · rw [List.nil_append, Uk, e]; simp
    | inr e => exact ih
  | bad => exact .inl rfl
  | lend => exact .inr rfl
  | lfin acc b => exact ⟨[], by simp, fun x hx => (by cases hx), by simp [encL]⟩
  | lerr acc c b e hc h ih => exact ih
  | lstep acc c b v b' o hc h h2 ih ih2 =>
    cases o with
    | inl x =>
      obtain ⟨w, r⟩ := x
      obtain ⟨l, rfl, hl, e⟩ := ih2
      obtain ⟨w1, w2, w3⟩ := ih
      refine ⟨v :: l, by simp, fun x hx => ?_, ?_⟩
      · rcases List.mem_cons.1 hx with rfl | hx
        · exact ⟨w1, w2⟩
        · exact hl x hx
      · rw [w3, encL, e]; simp
    | inr e => exact ih2
theorem AdK (v : Api_Value) : 0 < (encV v).length := by
  rw [encV_eq]
  split
  · rw [encI_len]; omega
  · split <;> simp
theorem Py : ∀ (n : Nat) (s : UInt8 ⊕ List Api_Value) (b : List UInt8), 2 * b.length + (match s with | .inl _ => 1 | .inr _ => 0) < n → ∃ o, Rd s b o
  | 0, s, b, h => absurd h (Nat.not_lt_zero _)
  | n + 1, .inl t, b, h => by
    by_cases hi : Ui t
    · exact ⟨_, Rd.int t b hi⟩
    · by_cases h1 : t = 48
      · subst h1; exact ⟨_, Rd.text b⟩
      · by_cases h2 : t = 64
        · subst h2
          obtain ⟨o, ho⟩ := Py n (.inr []) b (by simp at h ⊢; omega)
          exact ⟨o, Rd.lst b o ho⟩
        · exact ⟨_, Rd.bad t b hi h1 h2⟩
  | n + 1, .inr acc, [], h => ⟨_, Rd.lend acc⟩
  | n + 1, .inr acc, c :: b, h => by
    by_cases hc : c = 0
    · subst hc; exact ⟨_, Rd.lfin acc b⟩
    · obtain ⟨o, ho⟩ := Py n (.inl c) b (by simp at h ⊢; omega)
      cases o with
      | inr e => exact ⟨_, Rd.lerr acc c b e hc ho⟩
      | inl x =>
        obtain ⟨v, b'⟩ := x
        have hi : c :: b = encV v ++ b' := (AeN ho).2.2
        have hl : b.length + 1 = (encV v).length + b'.length := by
          have := congrArg List.length hi
          simpa using this
        have hp := AdK v
        obtain ⟨o2, ho2⟩ := Py n (.inr (acc ++ [v])) b' (by simp at h ⊢; omega)
        exact ⟨o2, Rd.lstep acc c b v b' o2 hc ho ho2⟩
abbrev CR := (Api_Value × Codec_decoder) ⊕ (Int × Codec_decoder)
def oc : AdJ → CR → Prop
  | .inl (v, r), x => x = .inl (v, ⟨r⟩)
  | .inr e, x => ∃ d, x = .inr (e, d)
theorem Pu : A1 ⟨[]⟩ = some (.inr (5, ⟨[]⟩)) := rfl
theorem Ej (c : UInt8) (b : List UInt8) : A1 ⟨c :: b⟩ = some (.inl (c, ⟨b⟩)) := by
  unfold A1
  rw [if_neg (by simp; omega), if_pos (show InR 0 (c :: b).length from ⟨by decide, by simp⟩), if_pos (show InB 1 (c :: b).length from ⟨by decide, by simp⟩)]
  simp [lt1, nth]
theorem Ni {V X : Type} {f : V → Option (V ⊕ X)} {m : Nat} {v v' : V} (h : f v = some (.inl v')) : La f (m + 1) v = La f m v' := by
  rw [La, h]
theorem Eo {V X : Type} {f : V → Option (V ⊕ X)} {m : Nat} {v : V} {x : X} (h : f v = some (.inr x)) : La f (m + 1) v = some x := by
  rw [La, h]
theorem M6 : ∀ (b acc : List UInt8) (m : Nat), b.length < m → b.length + acc.length ≤ 1000000000 → ∃ x, La (fun (v : List UInt8 × List UInt8) => An v.1 v.2) m (b, acc) = some x ∧ oc (rdT acc b) x
  | b, acc, 0, h, _ => absurd h (Nat.not_lt_zero _)
  | [], acc, m + 1, _, _ => ⟨_, Eo (show An [] acc = some (.inr (.inr (5, ⟨[]⟩))) from rfl), by simp [rdT, oc]⟩
  | [c], acc, m + 1, h, hs => by
    by_cases hc : c = 0
    · subst hc
      refine ⟨.inr (5, ⟨[]⟩), Eo ?_, by simp [rdT, oc]⟩
      show An [0] acc = _
      unfold An
      rw [Ej]
      refine (Ak rfl).trans ?_
      simp only
      rw [if_neg (by decide), Pu]
      rfl
    · obtain ⟨x, hx, hq⟩ := M6 [] (acc ++ [c]) m (by simp at h ⊢; omega) (by simp at hs ⊢; omega)
      refine ⟨x, (Ni ?_).trans hx, by simpa [rdT] using hq⟩
      show An [c] acc = _
      unfold An
      rw [Ej]
      refine (Ak rfl).trans ?_
      simp only
      rw [if_pos (by simpa using hc), if_pos (Qw (by simp at hs; omega))]
      rfl
  | c :: d :: b, acc, m + 1, h, hs => by
    by_cases hc : c = 0
    · have e0 : An (c :: d :: b) acc = if (d == 0) = true then some (.inr (.inl (Rh acc, ⟨b⟩))) else if (d == 255) = true then some (.inl (b, acc ++ [0])) else some (.inr (.inr (4, ⟨b⟩))) := by
        subst hc
        unfold An
        rw [Ej]
        refine (Ak rfl).trans ?_
        simp only
        rw [if_neg (by decide), Ej]
        refine (Ak rfl).trans ?_
        simp only
        by_cases hd : d = 0
        · have p : (d == 0) = true := by simp [hd]
          rw [if_pos p, if_pos p]; rfl
        · have p : ¬ (d == 0) = true := by simpa using hd
          rw [if_neg p, if_neg p]
          by_cases hd2 : d = 255
          · have q : (d == 255) = true := by simp [hd2]
            rw [if_pos q, if_pos q, if_pos (Qw (by simp at hs; omega))]; rfl
          · have q : ¬ (d == 255) = true := by simpa using hd2
            rw [if_neg q, if_neg q]; rfl
      rw [rdT, if_neg (by simp [hc])]
      by_cases hd : d = 0
      · rw [if_pos (by simp [hd])] at e0
        rw [if_pos hd]
        exact ⟨_, Eo e0, rfl⟩
      · rw [if_neg (by simpa using hd)] at e0
        rw [if_neg hd]
        by_cases hd2 : d = 255
        · rw [if_pos (by simp [hd2])] at e0
          rw [if_pos hd2]
          obtain ⟨x, hx, hq⟩ := M6 b (acc ++ [0]) m (by simp at h ⊢; omega) (by simp at hs ⊢; omega)
          exact ⟨x, (Ni e0).trans hx, hq⟩
        · rw [if_neg (by simpa using hd2)] at e0
          rw [if_neg hd2]
          exact ⟨_, Eo e0, ⟨_, rfl⟩⟩
    · rw [rdT, if_pos hc]
      obtain ⟨x, hx, hq⟩ := M6 (d :: b) (acc ++ [c]) m (by simp at h ⊢; omega) (by simp at hs ⊢; omega)
      refine ⟨x, (Ni ?_).trans hx, hq⟩
      show An (c :: d :: b) acc = _
      unfold An
      rw [Ej]
      refine (Ak rfl).trans ?_
      simp only
      rw [if_pos (by simpa using hc), if_pos (Qw (by simp at hs; omega))]
      rfl
def flB (fl : Bool) : UInt8 := if fl then 255 else 0
theorem Aln (fl : Bool) (c : UInt8) : c ^^^ flB fl = fl8 fl c := by
  cases fl
  · simp [flB, fl8]
  · unfold flB fl8
    rw [if_pos rfl, if_pos rfl]
    apply UInt8.toBitVec_inj.1
    show c.toBitVec ^^^ BitVec.allOnes 8 = ~~~c.toBitVec
    exact BitVec.xor_allOnes
theorem AkI (u : UInt64) (x : UInt8) (h : u.toNat < 256 ^ 7) : (Yd u (8 : UInt64).toNat ||| x.toUInt64).toNat = u.toNat * 256 + x.toNat := by
  have hx := x.toNat_lt
  have e1 : (Yd u (8 : UInt64).toNat).toNat = 2 ^ 8 * u.toNat := by
    show (u.toBitVec <<< (8 : Nat)).toNat = _
    rw [BitVec.toNat_shiftLeft, Nat.shiftLeft_eq, Nat.mod_eq_of_lt]
    · show u.toNat * 2 ^ 8 = _; omega
    · have : (256 : Nat) ^ 7 = 72057594037927936 := by decide
      show u.toNat * 2 ^ 8 < 2 ^ 64
      omega
  rw [UInt64.toNat_or, e1, UInt8.toNat_toUInt64, ← Nat.two_pow_add_eq_or_of_lt (by omega)]
  omega
abbrev IX := (UInt64 × List UInt8) ⊕ ((UInt64 × List UInt8) ⊕ CR)
def ic : (Nat × List UInt8) ⊕ Int → IX → Prop
  | .inl (n, r), x => ∃ u : UInt64, u.toNat = n ∧ x = .inl (u, r)
  | .inr e, x => ∃ d, x = .inr (.inr (.inr (e, d)))
theorem Aa8 {k : Nat} (hk : k ≤ 8) (fl : Bool) : ∀ (j : Nat) (u : UInt64) (b : List UInt8) (m : Nat), j ≤ k → j < m → u.toNat < 256 ^ (k - j) →
    ∃ x, La (fun (v : UInt64 × Int × List UInt8) => Aw (k : Int) (flB fl) v.1 v.2.1 v.2.2) m (u, ((k - j : Nat) : Int), b) = some x ∧ ic (rdN k fl j u.toNat b) x
  | j, u, b, 0, _, h, _ => absurd h (Nat.not_lt_zero _)
  | 0, u, b, m + 1, _, _, _ => by
    refine ⟨.inl (u, b), Eo ?_, ⟨u, rfl, rfl⟩⟩
    show Aw (k : Int) (flB fl) u ((k - 0 : Nat) : Int) b = _
    unfold Aw
    rw [if_neg (by simp)]
  | j + 1, u, [], m + 1, hj, _, _ => by
    refine ⟨.inr (.inr (.inr (5, ⟨[]⟩))), Eo ?_, ⟨_, rfl⟩⟩
    show Aw (k : Int) (flB fl) u ((k - (j + 1) : Nat) : Int) [] = _
    unfold Aw
    rw [if_pos (by simp; omega), Pu]
    rfl
  | j + 1, u, c :: b, m + 1, hj, hm, hu => by
    have e0 : Aw (k : Int) (flB fl) u ((k - (j + 1) : Nat) : Int) (c :: b) =
        if k = j + 1 ∧ (fl8 fl c = 0 ∨ (k = 8 ∧ fl8 fl c > 127)) then some (.inr (.inr (.inr (.inr (4, ⟨b⟩))))) else some (.inl (Yd u (8 : UInt64).toNat ||| (fl8 fl c).toUInt64, ((k - j : Nat) : Int), b)) := by
      unfold Aw
      rw [if_pos (by simp; omega), Ej]
      refine (Ak rfl).trans ?_
      simp only
      rw [Aln]
      have hc : (if (((k - (j + 1) : Nat) : Int) == 0) = true then if (fl8 fl c == 0) = true then some true else if ((k : Int) == 8) = true then some (decide (fl8 fl c > 127)) else some false else some false : Option Bool) =
          some (decide (k = j + 1 ∧ (fl8 fl c = 0 ∨ (k = 8 ∧ fl8 fl c > 127)))) := by
        by_cases h1 : k = j + 1
        · rw [if_pos (by simp; omega)]
          by_cases h2 : fl8 fl c = 0
          · rw [if_pos (by simpa using h2)]; simp [h1, h2]
          · rw [if_neg (by simpa using h2)]
            by_cases h3 : k = 8
            · rw [if_pos (by simp; omega)]; simp [h1, h2]; omega
            · rw [if_neg (by simp; omega)]; simp [h2, h3]
        · rw [if_neg (by simp; omega)]; simp [h1]
      refine (Ak hc).trans ?_
      have ei : w64 (((k - (j + 1) : Nat) : Int) + 1) = ((k - j : Nat) : Int) := by rw [L4 (by omega)]; omega
      by_cases hcond : k = j + 1 ∧ (fl8 fl c = 0 ∨ (k = 8 ∧ fl8 fl c > 127))
      · rw [if_pos (by simpa using hcond), if_pos hcond]; rfl
      · rw [if_neg (by simpa using hcond), if_neg hcond, ei]; rfl
    rw [M0]
    by_cases hcond : k = j + 1 ∧ (fl8 fl c = 0 ∨ (k = 8 ∧ fl8 fl c > 127))
    · rw [if_pos hcond] at e0 ⊢
      exact ⟨_, Eo e0, ⟨_, rfl⟩⟩
    · rw [if_neg hcond] at e0 ⊢
      have hu7 : u.toNat < 256 ^ 7 := Nat.lt_of_lt_of_le hu (Nat.pow_le_pow_right (by decide) (by omega))
      have hs := AkI u (fl8 fl c) hu7
      have hx := (fl8 fl c).toNat_lt
      obtain ⟨x, hx2, hq⟩ := Aa8 hk fl j (Yd u (8 : UInt64).toNat ||| (fl8 fl c).toUInt64) b m (by omega) (by omega) (by
        rw [hs, show k - j = (k - (j + 1)) + 1 by omega, Nat.pow_succ]; omega)
      rw [hs] at hq
      exact ⟨x, (Ni e0).trans hx2, hq⟩
theorem AcS {t : UInt8} (ht : Ui t) (b : List UInt8) : ∃ x, B8 ⟨b⟩ (kOf t : Int) (flB (Ip t)) = some x ∧ oc (rdI t b) x := by
  have hk : kOf t ≤ 8 := by unfold kOf; obtain ⟨h1, h2⟩ := ht; split <;> omega
  obtain ⟨x, hx, hq⟩ := Aa8 hk (Ip t) (kOf t) 0 b 18446744073709551616 (Nat.le_refl _) (by omega) (by simp)
  rw [Nat.sub_self] at hx
  have hx' : C6 (fun (v : UInt64 × Int × List UInt8) => Aw (kOf t : Int) (flB (Ip t)) v.1 v.2.1 v.2.2) (0, 0, b) = some x := hx
  have hz : (0 : UInt64).toNat = 0 := rfl
  rw [hz] at hq
  unfold B8 rdI
  cases hr : rdN (kOf t) (Ip t) (kOf t) 0 b with
  | inr e =>
    rw [hr] at hq
    obtain ⟨d, rfl⟩ := hq
    refine ⟨.inr (e, d), ?_, ⟨d, rfl⟩⟩
    refine (Ak (a := .inr (.inr (e, d))) ((Ak hx').trans rfl)).trans rfl
  | inl y =>
    obtain ⟨n, r⟩ := y
    rw [hr] at hq
    obtain ⟨u, hu, rfl⟩ := hq
    have hinv : rdI t b = .inl (Ado (if Ip t = true then -(n : Int) - 1 else (n : Int)), r) := by unfold rdI; rw [hr]
    obtain ⟨n', hn', e1, _⟩ := Afp ht hinv
    have e1' : (if Ip t = true then -(n : Int) - 1 else (n : Int)) = n' := congrArg Api_Value.N e1
    obtain ⟨r1, r2⟩ := hn'
    refine ⟨.inl (Ado (if Ip t = true then -(n : Int) - 1 else (n : Int)), ⟨r⟩), ?_, rfl⟩
    refine (Ak (a := .inl (u, r)) ((Ak hx').trans rfl)).trans ?_
    cases hng : Ip t
    · rw [hng] at e1'
      simp only [Bool.false_eq_true, if_false] at e1'
      have : flB false = 0 := rfl
      rw [this]
      simp only [bne_self_eq_false, Bool.false_eq_true, if_false]
      refine (Ak rfl).trans ?_
      rw [hu, L4 (by omega)]; rfl
    · rw [hng] at e1'
      simp only [if_true] at e1'
      have : flB true = 255 := rfl
      rw [this, if_pos (by decide)]
      refine (Ak rfl).trans ?_
      have e2 : w64 ((~~~u).toNat : Int) = -(n : Int) - 1 := by
        rw [Aat, hu]
        have hlt := u.toNat_lt
        unfold w64 IntKind.wrap
        simp [IntKind.signed, IntKind.bits]
        split <;> omega
      rw [e2]; rfl
abbrev LX := (List UInt8 × List Api_Value) ⊕ ((List UInt8 × List Api_Value) ⊕ (Unit ⊕ CR))
def lc : AdJ → LX → Prop
  | .inl (v, r), x => ∃ l, v = Nb l ∧ x = .inl (r, l)
  | .inr e, x => ∃ d, x = .inr (.inr (.inr (.inr (e, d))))
def PC (o : AdJ) : UInt8 ⊕ List Api_Value → List UInt8 → Prop
  | .inl t, b => ∀ n, b.length < n → ∃ x, Ax n ⟨b⟩ t = some x ∧ oc o x
  | .inr acc, [] => o = .inr 5
  | .inr acc, c :: b => ∀ n, b.length < n → acc.length + b.length ≤ 1000000 → ∀ m, b.length < m → ∃ x, La (fun (v : UInt8 × List UInt8 × List Api_Value) => Bc (Ax n) v.1 v.2.1 v.2.2) m (c, b, acc) = some x ∧ lc o x
theorem Yt {n : Nat} (h : n ≤ 2000000) : Fv n 64 := by unfold Fv maxLen M9; omega
theorem rd_codec {s : UInt8 ⊕ List Api_Value} {b : List UInt8} {o : AdJ} (h : Rd s b o) : b.length ≤ 65536 → PC o s b := by
  induction h with
  | int t b h =>
    intro hb n hn
    obtain ⟨n, rfl⟩ : ∃ m, n = m + 1 := ⟨n - 1, by omega⟩
    show ∃ x, A3 (Ax n) ⟨b⟩ t = some x ∧ _
    obtain ⟨x, hx, hq⟩ := AcS h b
    refine ⟨x, ?_, hq⟩
    obtain ⟨h1, h2⟩ := id h
    unfold A3
    have hn32 : (Ip t = true) = (t.toNat < 32) := by unfold Ip; simp
    by_cases h32 : t.toNat < 32
    · have hc : (if decide (t ≥ (32 : UInt8)) = true then some (decide (t ≤ (40 : UInt8))) else some false : Option Bool) = some false := by
        rw [if_neg (by simp [UInt8.le_iff_toNat_le]; omega)]
      have hc2 : (if decide (t < (32 : UInt8)) = true then some (decide (t ≥ (23 : UInt8))) else some false : Option Bool) = some true := by
        rw [if_pos (by simp [UInt8.lt_iff_toNat_lt]; omega)]; simp [UInt8.le_iff_toNat_le]; omega
      have hng : Ip t = true := by rw [hn32]; exact h32
      have hk : (((31 : UInt8) - t).toNat : Int) = (kOf t : Int) := by
        unfold kOf
        rw [if_pos h32, UInt8.toNat_sub]
        have : (31 : UInt8).toNat = 31 := rfl
        omega
      rw [hng] at hx
      have hfl : flB true = 255 := rfl
      rw [hfl, ← hk] at hx
      refine (Ak (a := .inr x) ?_).trans rfl
      refine (Ak hc).trans ?_
      rw [if_neg (by simp)]
      refine (Ak hc2).trans ?_
      rw [if_pos rfl]
      refine (Ak hx).trans ?_
      cases x <;> rfl
    · have hc : (if decide (t ≥ (32 : UInt8)) = true then some (decide (t ≤ (40 : UInt8))) else some false : Option Bool) = some true := by
        rw [if_pos (by simp [UInt8.le_iff_toNat_le]; omega)]; simp [UInt8.le_iff_toNat_le]; omega
      have hng : Ip t = false := by cases hh : Ip t; rfl; exact (h32 (hn32 ▸ hh)).elim
      have hk : ((t - (32 : UInt8)).toNat : Int) = (kOf t : Int) := by
        unfold kOf
        rw [if_neg h32, UInt8.toNat_sub]
        have : (32 : UInt8).toNat = 32 := rfl
        omega
      rw [hng] at hx
      have hfl : flB false = 0 := rfl
      rw [hfl, ← hk] at hx
      refine (Ak (a := .inr x) ?_).trans rfl
      refine (Ak hc).trans ?_
      rw [if_pos rfl]
      refine (Ak hx).trans ?_
      cases x <;> rfl
  | text b =>
    intro hb n hn
    obtain ⟨n, rfl⟩ : ∃ m, n = m + 1 := ⟨n - 1, by omega⟩
    show ∃ x, A3 (Ax n) ⟨b⟩ 48 = some x ∧ _
    obtain ⟨x, hx, hq⟩ := M6 b [] 18446744073709551616 (by omega) (by simp; omega)
    have hx' : C6 (fun (v : List UInt8 × List UInt8) => An v.1 v.2) (b, []) = some x := hx
    refine ⟨x, ?_, hq⟩
    unfold A3 Dy
    rw [hx']
    cases x <;> rfl
  | lst b o h ih =>
    intro hb n hn
    obtain ⟨n, rfl⟩ : ∃ m, n = m + 1 := ⟨n - 1, by omega⟩
    show ∃ x, A3 (Ax n) ⟨b⟩ 64 = some x ∧ _
    have hi := ih hb
    cases b with
    | nil =>
      have : o = .inr 5 := hi
      subst this
      exact ⟨.inr (5, ⟨[]⟩), rfl, ⟨_, rfl⟩⟩
    | cons c b =>
      obtain ⟨x, hx, hq⟩ := hi n (by simp at hn; omega) (by simp at hb ⊢; omega) 18446744073709551616 (by simp at hb; omega)
      have hx' : C6 (fun (v : UInt8 × List UInt8 × List Api_Value) => Bc (Ax n) v.1 v.2.1 v.2.2) (c, b, []) = some x := hx
      unfold A3
      cases o with
      | inl y =>
        obtain ⟨v, r⟩ := y
        obtain ⟨l, rfl, rfl⟩ := hq
        refine ⟨.inl (Nb l, ⟨r⟩), ?_, rfl⟩
        refine (Ak (a := .inr (.inl (Nb l, ⟨r⟩))) ?_).trans rfl
        show (((A1 ⟨c :: b⟩).bind _).bind _) = _
        rw [Ej]
        refine (Ak (a := .inl (r, l)) ((Ak rfl).trans ?_)).trans rfl
        exact (Ak hx').trans rfl
      | inr e =>
        obtain ⟨d, rfl⟩ := hq
        refine ⟨.inr (e, d), ?_, ⟨d, rfl⟩⟩
        refine (Ak (a := .inr (.inr (e, d))) ?_).trans rfl
        show (((A1 ⟨c :: b⟩).bind _).bind _) = _
        rw [Ej]
        refine (Ak (a := .inr (.inr (.inr (e, d)))) ((Ak rfl).trans ?_)).trans rfl
        exact (Ak hx').trans rfl
  | bad t b h h1 h2 =>
    intro hb n hn
    obtain ⟨n, rfl⟩ : ∃ m, n = m + 1 := ⟨n - 1, by omega⟩
    refine ⟨.inr (4, ⟨b⟩), ?_, ⟨_, rfl⟩⟩
    show A3 (Ax n) ⟨b⟩ t = _
    unfold A3
    unfold Ui at h
    have hc : (if decide (t ≥ (32 : UInt8)) = true then some (decide (t ≤ (40 : UInt8))) else some false : Option Bool) = some false := by
      by_cases h32 : t.toNat < 32
      · rw [if_neg (by simp [UInt8.le_iff_toNat_le]; omega)]
      · rw [if_pos (by simp [UInt8.le_iff_toNat_le]; omega)]; simp [UInt8.le_iff_toNat_le]; omega
    have hc2 : (if decide (t < (32 : UInt8)) = true then some (decide (t ≥ (23 : UInt8))) else some false : Option Bool) = some false := by
      by_cases h32 : t.toNat < 32
      · rw [if_pos (by simp [UInt8.lt_iff_toNat_lt]; omega)]; simp [UInt8.le_iff_toNat_le]; omega
      · rw [if_neg (by simp [UInt8.lt_iff_toNat_lt]; omega)]
    refine (Ak (a := (.inl () : Unit ⊕ CR)) ?_).trans rfl
    refine (Ak hc).trans ?_
    rw [if_neg (by simp)]
    refine (Ak hc2).trans ?_
    rw [if_neg (by simp), if_neg (by simpa using h1), if_neg (by simpa using h2)]
  | lend acc => intro _; rfl
  | lfin acc b =>
    intro hb n hn ha m hm
    obtain ⟨m, rfl⟩ : ∃ k, m = k + 1 := ⟨m - 1, by omega⟩
    exact ⟨.inl (b, acc), Eo rfl, ⟨acc, rfl, rfl⟩⟩
  | lerr acc c b e hc h ih =>
    intro hb n hn ha m hm
    obtain ⟨m, rfl⟩ : ∃ k, m = k + 1 := ⟨m - 1, by omega⟩
    obtain ⟨x, hx, d, rfl⟩ := ih (by simp at hb; omega) n hn
    refine ⟨.inr (.inr (.inr (.inr (e, d)))), Eo ?_, ⟨d, rfl⟩⟩
    show Bc (Ax n) c b acc = _
    unfold Bc
    rw [if_pos (by simpa using hc), hx]
    rfl
  | lstep acc c b v b' o hc h h2 ih ih2 =>
    intro hb n hn ha m hm
    obtain ⟨m, rfl⟩ : ∃ k, m = k + 1 := ⟨m - 1, by omega⟩
    have hb0 : b.length ≤ 65536 := by simp at hb; omega
    obtain ⟨x, hx, hxe⟩ := ih hb0 n hn
    have hxe' : x = .inl (v, ⟨b'⟩) := hxe
    subst hxe'
    have hinv : c :: b = encV v ++ b' := (AeN h).2.2
    have hl : b.length + 1 = (encV v).length + b'.length := by
      have := congrArg List.length hinv
      simpa using this
    have hp := AdK v
    have hi2 := ih2 (by omega)
    have e0 : ∀ o' , (A1 ⟨b'⟩ = o') → Bc (Ax n) c b acc = o'.bind fun y => match y with
        | .inl w => some (.inl (w.1, w.2.b, acc ++ [v]))
        | .inr w => some (.inr (.inr (.inr (.inr (.inr (w.1, w.2)))))) := by
      intro o' ho
      unfold Bc
      rw [if_pos (by simpa using hc), hx]
      refine (Ak rfl).trans ?_
      simp only
      rw [if_pos (Yt (by omega)), ho]
      rfl
    cases b' with
    | nil =>
      have : o = .inr 5 := hi2
      subst this
      refine ⟨.inr (.inr (.inr (.inr (5, ⟨[]⟩)))), Eo ?_, ⟨_, rfl⟩⟩
      exact (e0 _ Pu).trans rfl
    | cons c2 b2 =>
      obtain ⟨x, hx2, hq⟩ := hi2 n (by simp at hl; omega) (by simp at hl ⊢; omega) m (by simp at hl; omega)
      exact ⟨x, (Ni ((e0 _ (Ej c2 b2)).trans rfl)).trans hx2, hq⟩
def AnC (b : List UInt8) (r : Api_Value × Int) : Prop :=
  (b.length > 65536 ∧ r = (Ph, 2)) ∨ (b.length ≤ 65536 ∧ ((b = [] ∧ r = (Ph, 5)) ∨ ∃ t b' o, b = t :: b' ∧ Rd (.inl t) b' o ∧
    ((∃ e, o = .inr e ∧ r = (Ph, e)) ∨ ∃ v rest, o = .inl (v, rest) ∧ ((rest ≠ [] ∧ r = (Ph, 4)) ∨ (rest = [] ∧ ((Pp v > 16 ∧ r = (Ph, 2)) ∨ (Pp v ≤ 16 ∧ r = (v, 0))))))))
mutual
theorem AhK : ∀ v : Api_Value, wfV v → szV v ≤ (encV v).length
  | .mk k n b l => by
    intro h
    rcases wf_cases h with e | e | ⟨e, hl⟩
    · rw [e, AaC, encI_len]
      simp [Ado, szV, szVs]
    · rw [e, Wa]
      have he : ∀ b : List UInt8, b.length ≤ (escB b).length := by
        intro b
        induction b with
        | nil => simp
        | cons c b ih => simp only [escB]; split <;> simp <;> omega
      have := he (Api_Value.mk k n b l).B
      simp only [Rh, szV, szVs, List.length_cons, List.length_append, List.length_nil]
      omega
    · rw [e, Uk]
      have := Afj l hl
      simp only [Nb, szV, List.length_cons, List.length_append, List.length_nil]
      show ([] : List UInt8).length + 1 + szVs l ≤ (encL l).length + 1 + 1
      simp; omega
theorem Afj : ∀ l : List Api_Value, (∀ x ∈ l, wfV x) → szVs l ≤ (encL l).length
  | [] => fun _ => by simp [szVs]
  | x :: l => fun h => by
    have h1 := AhK x (h x List.mem_cons_self)
    have h2 := Afj l (fun y hy => h y (List.mem_cons_of_mem _ hy))
    rw [szVs, encL, List.length_append]
    omega
end
theorem AgV (v : Api_Value) (h : szV v ≤ 100000000000) : Gf v = some (shpV v) := Y8 18446744073709551616 v (by omega) (by omega)
theorem AfG (b : List UInt8) : ∃ r, AnC b r ∧ Cy b = some r := by
  by_cases hb : b.length > 65536
  · refine ⟨_, .inl ⟨hb, rfl⟩, ?_⟩
    unfold Cy
    rw [if_pos (by simp; omega)]; rfl
  · have hb' : b.length ≤ 65536 := by omega
    have e1 : ∀ o, A1 ⟨b⟩ = o → Cy b = o.bind fun y => match y with
        | .inl v => (Do v.2 v.1).bind fun y => match y with
          | .inl v => if (decide ((v.2.b.length : Int) > 0)) = true then some (Ph, 4) else
              (Gf v.1).bind fun y => if (decide (y.1 > 16)) = true then some (Ph, 2) else some (v.1, 0)
          | .inr v => some (Ph, v.1)
        | .inr v => some (Ph, v.1) := by
      intro o ho
      subst ho
      unfold Cy
      rw [if_neg (by simp; omega)]
      rfl
    cases b with
    | nil => exact ⟨_, .inr ⟨hb', .inl ⟨rfl, rfl⟩⟩, (e1 _ Pu).trans rfl⟩
    | cons t b =>
      obtain ⟨o, ho⟩ := Py _ (.inl t) b (Nat.lt_succ_self _)
      have hbl : b.length ≤ 65536 := by simp at hb'; omega
      obtain ⟨x, hx, hq⟩ := (rd_codec ho hbl : ∀ n, b.length < n → ∃ x, Ax n ⟨b⟩ t = some x ∧ oc o x) 18446744073709551616 (by omega)
      have hx' : Do ⟨b⟩ t = some x := hx
      have e1 := e1 _ (Ej t b)
      cases o with
      | inr e =>
        obtain ⟨d, rfl⟩ := hq
        refine ⟨(Ph, e), .inr ⟨hb', .inr ⟨t, b, _, rfl, ho, .inl ⟨e, rfl, rfl⟩⟩⟩, ?_⟩
        refine e1.trans ((Ak rfl).trans ?_)
        exact (Ak hx').trans rfl
      | inl y =>
        obtain ⟨v, rest⟩ := y
        have hq' : x = .inl (v, ⟨rest⟩) := hq
        subst hq'
        obtain ⟨w1, w2, w3⟩ := AeN ho
        have hlen : b.length + 1 = (encV v).length + rest.length := by
          have := congrArg List.length w3
          simpa using this
        have hsz := AhK v w1
        by_cases hr : rest = []
        · subst hr
          have hsh := AgV v (by simp at hlen; omega)
          have hn := Vg v w1
          by_cases hd : Pp v > 16
          · refine ⟨(Ph, 2), .inr ⟨hb', .inr ⟨t, b, _, rfl, ho, .inr ⟨v, [], rfl, .inr ⟨rfl, .inl ⟨hd, rfl⟩⟩⟩⟩⟩, ?_⟩
            refine e1.trans ((Ak rfl).trans ?_)
            refine (Ak hx').trans ?_
            simp only
            rw [if_neg (by simp), hsh]
            refine (Ak rfl).trans ?_
            rw [if_pos (by simp; omega)]
          · refine ⟨(v, 0), .inr ⟨hb', .inr ⟨t, b, _, rfl, ho, .inr ⟨v, [], rfl, .inr ⟨rfl, .inr ⟨by omega, rfl⟩⟩⟩⟩⟩, ?_⟩
            refine e1.trans ((Ak rfl).trans ?_)
            refine (Ak hx').trans ?_
            simp only
            rw [if_neg (by simp), hsh]
            refine (Ak rfl).trans ?_
            rw [if_neg (by simp; omega)]
        · refine ⟨(Ph, 4), .inr ⟨hb', .inr ⟨t, b, _, rfl, ho, .inr ⟨v, rest, rfl, .inl ⟨hr, rfl⟩⟩⟩⟩, ?_⟩
          refine e1.trans ((Ak rfl).trans ?_)
          refine (Ak hx').trans ?_
          simp only
          have : rest.length ≠ 0 := fun e => hr (List.length_eq_zero_iff.1 e)
          rw [if_pos (by simp; omega)]
theorem AgI {b : List UInt8} {r r' : Api_Value × Int} (h : AnC b r) (h' : AnC b r') : r = r' := by
  rcases h with ⟨h1, rfl⟩ | ⟨h1, h⟩ <;> rcases h' with ⟨h1', rfl⟩ | ⟨h1', h'⟩
  · rfl
  · omega
  · omega
  · rcases h with ⟨h2, rfl⟩ | ⟨t, b1, o, h2, h3, h4⟩ <;> rcases h' with ⟨h2', rfl⟩ | ⟨t', b1', o', h2', h3', h4'⟩
    · rfl
    · rw [h2] at h2'; cases h2'
    · rw [h2'] at h2; cases h2
    · rw [h2] at h2'
      cases h2'
      have := AlE h3 h3'
      subst this
      rcases h4 with ⟨e, rfl, rfl⟩ | ⟨v, rest, rfl, h4⟩
      · rcases h4' with ⟨e', he, rfl⟩ | ⟨v', rest', he, _⟩
        · cases he; rfl
        · cases he
      · rcases h4' with ⟨e', he, rfl⟩ | ⟨v', rest', he, h4'⟩
        · cases he
        · cases he
          rcases h4 with ⟨h5, rfl⟩ | ⟨h5, h4⟩ <;> rcases h4' with ⟨h5', rfl⟩ | ⟨h5', h4'⟩
          · rfl
          · exact (h5 h5').elim
          · exact (h5' h5).elim
          · rcases h4 with ⟨h6, rfl⟩ | ⟨h6, rfl⟩ <;> rcases h4' with ⟨h6', rfl⟩ | ⟨h6', rfl⟩
            · rfl
            · omega
            · omega
            · rfl
theorem Aew {b : List UInt8} {r : Api_Value × Int} (h : AnC b r) : Cy b = some r := by
  obtain ⟨r', h', e⟩ := AfG b
  rw [e, AgI h h']
theorem decode_enc {v : Api_Value} (h : wfV v) (ok : okV v) (hd : (shpV v).1 ≤ 16) (hl : (encV v).length ≤ 65536) : Cy (encV v) = some (v, 0) := by
  obtain ⟨t, tl, e, _, g1, _⟩ := Ad4 v h ok
  have := g1 []
  rw [List.append_nil] at this
  refine Aew (.inr ⟨hl, .inr ⟨t, tl, _, e, this, .inr ⟨v, [], rfl, .inr ⟨rfl, .inr ⟨?_, rfl⟩⟩⟩⟩⟩)
  rw [Vg v h]; exact hd
instance (t : UInt8) : Decidable (Ui t) := inferInstanceAs (Decidable (_ ∧ _))
end Go.Proofs.YtnfoiocigicdnaaGreatDoor.Kc
namespace Go.Proofs.YtnfoiocigicdnaaGreatDoor
open Go.Rv
set_option linter.unusedVariables false
set_option maxRecDepth 100000
theorem Yj : ∀ (ps : List Api_Part) (d : Int), 0 ≤ d → d ≤ 1 → ∃ e, Kc.shpL d (ps.map H0) = (e, true) ∧ 1 ≤ e ∧ e ≤ 2
  | [], d, h0, h1 => ⟨d + 1, by rw [List.map_nil, Kc.shpL_nil], by omega, by omega⟩
  | x :: ps, d, h0, h1 => by
    have e : Kc.shpV (H0 x) = (1, true) := by
      simp [H0, lV, iV, Kc.shpV, Kc.shpL, Pm]
    rw [List.map_cons, Kc.shpL_cons, e, if_pos rfl]
    exact Yj ps _ (by simp only [Pm]; split <;> omega) (by simp only [Pm]; split <;> omega)
theorem AaK (it : Api_Item) : ∃ e, Kc.shpV (val it) = (e, true) ∧ 0 ≤ e ∧ e ≤ 4 := by
  obtain ⟨e, h1, h2, h3⟩ := Yj it.Parts 0 (by omega) (by omega)
  have hi : ∀ n, Kc.shpV (iV n) = (0, true) := fun n => by simp [iV, Kc.shpV]
  have ht : Kc.shpV (tV it.Text) = (0, true) := by simp [tV, Kc.shpV]
  have hr : Kc.shpV (lV [iV it.Ref.Railway, iV it.Ref.No]) = (1, true) := by simp [lV, iV, Kc.shpV, Kc.shpL, Pm]
  have hp : Kc.shpV (lV (it.Parts.map H0)) = (e, true) := by
    rw [lV, Kc.shpV, if_neg (by decide), if_neg (by decide), if_pos rfl, if_pos ⟨rfl, rfl⟩, h1]
  have hv : Kc.shpV (val it) = Kc.shpL 0 (U8 it ++ [tV it.Text, lV (it.Parts.map H0)]) := by
    unfold val
    rw [lV, Kc.shpV, if_neg (by decide), if_neg (by decide), if_pos rfl, if_pos ⟨rfl, rfl⟩]
  have hk : ∀ {d : Int} {x : Api_Value} {l : List Api_Value}, 0 ≤ d → Kc.shpV x = (0, true) → Kc.shpL d (x :: l) = Kc.shpL d l := fun {d x l} h0 hx => by
    rw [Kc.shpL_cons, hx, if_pos rfl]
    have : Pm d 0 = d := by simp only [Pm]; split <;> omega
    rw [this]
  rw [hv]
  unfold U8
  simp only [List.cons_append, List.nil_append]
  rw [hk (by omega) (hi _), Kc.shpL_cons, hr, if_pos rfl, show Pm 0 (1, true).1 = 1 from rfl]
  rw [hk (by omega) (hi _), hk (by omega) (hi _), hk (by omega) (hi _), hk (by omega) (hi _), hk (by omega) (hi _), hk (by omega) (hi _), hk (by omega) (hi _), hk (by omega) (hi _), hk (by omega) (hi _), hk (by omega) (hi _), hk (by omega) (hi _), hk (by omega) ht]
  rw [Kc.shpL_cons, hp, if_pos rfl, Kc.shpL_nil]
  exact ⟨_, rfl, by simp only [Pm]; split <;> omega, by simp only [Pm]; split <;> omega⟩
theorem J2 (n : Int) : (Kc.encV (iV n)).length ≤ 9 := by
  rw [Kc.encV_eq, if_pos (by rfl), Kc.encI_len]
  have := Kc.nbI_le (iV n).N
  omega
theorem M4 : ∀ ps : List Api_Part, (Kc.encL (ps.map H0)).length ≤ 29 * ps.length
  | [] => by simp [Kc.encL]
  | x :: ps => by
    have h1 := J2 x.Kind
    have h2 := J2 x.Serial
    have h3 := J2 (if x.Fitted = true then 1 else 0)
    have := M4 ps
    have e : Kc.encV (H0 x) = 64 :: (Kc.encL [iV x.Kind, iV x.Serial, iV (if x.Fitted = true then 1 else 0)] ++ [0]) := by
      rw [Kc.encV_eq]; rfl
    rw [List.map_cons, Kc.encL, e]
    simp only [Kc.encL, List.length_append, List.length_cons, List.length_nil]
    omega
theorem Q0 {it : Api_Item} (ht : it.Text.length ≤ 2000) (hp : it.Parts.length ≤ 20) : (Kc.encV (val it)).length ≤ 65536 := by
  have hi := J2
  have hps := M4 it.Parts
  have htx : (Kc.encV (tV it.Text)).length ≤ 2 * it.Text.length + 3 := by
    have e : Kc.encV (tV it.Text) = 48 :: (Kc.escB it.Text ++ [0, 0]) := by rw [Kc.encV_eq]; rfl
    have := Kc.escB_len it.Text
    rw [e]; simp; omega
  have e1 : ∀ l, Kc.encV (lV l) = 64 :: (Kc.encL l ++ [0]) := fun l => by rw [Kc.encV_eq]; rfl
  unfold val U8
  rw [e1]
  simp only [List.cons_append, List.nil_append, Kc.encL, e1, List.length_append, List.length_cons, List.length_nil]
  have q0 := hi it.Kind; have q1 := hi it.Ref.Railway; have q2 := hi it.Ref.No; have q3 := hi it.Wagon; have q4 := hi it.Place; have q5 := hi it.Other; have q6 := hi it.Number; have q7 := hi it.From
  have q8 := hi it.To; have q9 := hi it.Code; have q10 := hi it.Dest; have q11 := hi it.Class; have q12 := hi it.Weight; have q13 := hi it.Amount
  omega
theorem Amf {it : Api_Item} (h : Ints it) : Kc.okV (val it) := by
  have hi : ∀ {n : Int}, I64 n → Kc.okV (iV n) := fun h => Kc.ok_intI h
  have hl : ∀ {l : List Api_Value}, (∀ x ∈ l, Kc.okV x) → Kc.okV (lV l) := fun h => Kc.ok_listI h
  obtain ⟨h1, h2, h3, h4, h5, h6, h7, h8, h9, h10, h11⟩ := h.nums
  have hp : Kc.okV (lV (it.Parts.map H0)) := by
    refine hl fun x hx => ?_
    obtain ⟨p, hp, rfl⟩ := List.mem_map.1 hx
    have hz := h.part p hp
    refine hl fun y hy => ?_
    simp only [List.mem_cons, List.not_mem_nil, or_false] at hy
    rcases hy with rfl | rfl | rfl
    · exact hi hz.1
    · exact hi hz.2
    · exact hi (by split <;> exact ⟨by omega, by omega⟩)
  have hr : Kc.okV (lV [iV it.Ref.Railway, iV it.Ref.No]) := by
    refine hl fun y hy => ?_
    simp only [List.mem_cons, List.not_mem_nil, or_false] at hy
    rcases hy with rfl | rfl
    · exact hi h.ref.1
    · exact hi h.ref.2
  unfold val U8
  refine hl fun y hy => ?_
  simp only [List.cons_append, List.nil_append, List.mem_cons, List.not_mem_nil, or_false] at hy
  rcases hy with rfl | rfl | rfl | rfl | rfl | rfl | rfl | rfl | rfl | rfl | rfl | rfl | rfl | rfl | rfl
  · exact hi h.kind
  · exact hr
  · exact hi h1
  · exact hi h2
  · exact hi h3
  · exact hi h4
  · exact hi h5
  · exact hi h6
  · exact hi h7
  · exact hi h8
  · exact hi h9
  · exact hi h10
  · exact hi h11
  · exact Kc.ok_textI _
  · exact hp
theorem Adh {it : Api_Item} (ht : it.Text.length ≤ 2000) (hp : it.Parts.length ≤ 20) : Ex (val it) = some (Kc.encV (val it), 0) := by
  obtain ⟨e, h1, h2, h3⟩ := AaK it
  have hl := Q0 ht hp
  rw [Kc.encode_eq _ (by rw [AeE]; omega), Kc.Enc, h1, if_pos rfl, if_neg (by simp only; omega), if_neg (by omega)]
theorem AcZ {it : Api_Item} (h : Ints it) (ht : it.Text.length ≤ 2000) (hp : it.Parts.length ≤ 20) : Cy (Kc.encV (val it)) = some (val it, 0) := by
  obtain ⟨e, h1, h2, h3⟩ := AaK it
  exact Kc.decode_enc (show (Kc.shpV (val it)).2 = true by rw [h1]) (Amf h) (by rw [h1]; simp only; omega) (Q0 ht hp)
theorem Ad0 (l : List UInt8) : Kc.cmpB l l = 0 := cB_zero.2 rfl
mutual
theorem Yp : ∀ v : Api_Value, Kc.cmpV v v = 0
  | .mk k n b l => by
    rw [Kc.cmpV_eq, if_neg (by simp)]
    (repeat' split)
    · exact Kc.cmpI_refl _
    · exact Ad0 _
    · exact Xx l
    · rfl
theorem Xx : ∀ l : List Api_Value, Kc.cmpL l l = 0
  | [] => by rw [Kc.cmpL]
  | x :: l => by rw [Kc.cmpL, if_neg (by rw [Yp x]; simp)]; exact Xx l
end
theorem AhI : ∀ (n : Nat) (w v : Api_Value), Kc.szV w < n → Kc.szV w ≤ 1152921504606846976 → ∃ b, Hb n w v = some b ∧ (b = true → Kc.wfV w → w = v) ∧ (w = v → b = true)
  | 0, w, v, h, _ => absurd h (Nat.not_lt_zero _)
  | n + 1, w, v, h, hs => by
    show ∃ b, I8 (Hb n) w v = some b ∧ _ ∧ _
    have hsz := Kc.szV_eq w
    have hlen := Kc.szVs_len w.L
    unfold I8
    by_cases h1 : w.Kind = v.Kind
    · rw [if_neg (by simp [h1]), Kc.compare_eq _ _ (by omega), Option.bind_some]
      by_cases h2 : Kc.cmpV w v = 0
      · rw [if_neg (by simp [h2])]
        by_cases h3 : w.N = v.N
        · rw [if_neg (by simp [h3])]
          by_cases h4 : w.B.length = v.B.length
          · rw [if_neg (by simp [h4]), Option.bind_some]
            by_cases h5 : w.L.length = v.L.length
            · rw [if_neg (by simp [h5])]
              obtain ⟨z, hz, hq⟩ := F9 (f := fun (i : Int) => Hw w v (Hb n) i) (fun i => ∃ k : Nat, i = (k : Int) ∧ k ≤ w.L.length ∧ ((∀ x ∈ w.L, Kc.wfV x) → w.L.take k = v.L.take k)) (fun i => w.L.length - i.toNat)
                (fun z => match z with | .inl () => (∀ x ∈ w.L, Kc.wfV x) → w.L = v.L | .inr (.inl ()) => False | .inr (.inr t) => t = false ∧ w.L ≠ v.L) (by
                rintro i ⟨k, rfl, hk, ht⟩
                unfold Hw
                by_cases hlt : k < w.L.length
                · have hlv : k < v.L.length := by omega
                  rw [if_pos (decide_eq_true (by omega)), if_pos ⟨by omega, by simpa using hlt⟩, if_pos ⟨by omega, by simpa using hlv⟩]
                  simp only [Int.toNat_natCast]
                  have hm := Kc.szVs_mem (K0 hlt)
                  obtain ⟨b, hb, hb1, hb2⟩ := AhI n (nth w.L k) (nth v.L k) (by omega) (by omega)
                  rw [hb, Option.bind_some]
                  have ea : w.L.take (k + 1) = w.L.take k ++ [nth w.L k] := by rw [List.take_add_one, List.getElem?_eq_getElem hlt]; simp [nth, List.getElem?_eq_getElem hlt]
                  have eb : v.L.take (k + 1) = v.L.take k ++ [nth v.L k] := by rw [List.take_add_one, List.getElem?_eq_getElem hlv]; simp [nth, List.getElem?_eq_getElem hlv]
                  cases b with
                  | true =>
                    rw [if_neg (by simp), Mb (by omega)]
                    refine .inl ⟨_, rfl, ⟨k + 1, rfl, by omega, fun hw => ?_⟩, ?_⟩
                    · rw [ea, eb, ht hw, hb1 rfl (hw _ (K0 hlt))]
                    · simp only [Int.toNat_natCast]; omega
                  | false =>
                    rw [if_pos (by simp)]
                    refine .inr ⟨_, rfl, rfl, fun he => ?_⟩
                    have := hb2 (by rw [he])
                    simp at this
                · rw [if_neg (by simpa using hlt)]
                  refine .inr ⟨_, rfl, fun hw => ?_⟩
                  have := ht hw
                  rwa [List.take_of_length_le (by omega), List.take_of_length_le (by omega)] at this) (v0 := 0) ⟨0, rfl, Nat.zero_le _, fun _ => rfl⟩ (by simp; omega)
              rw [hz]
              rcases z with ⟨⟩ | ⟨⟨⟩ | t⟩
              · refine ⟨true, rfl, fun _ hw => ?_, fun _ => rfl⟩
                have hL : (∀ x ∈ w.L, Kc.wfV x) → w.L = v.L := hq
                rcases Kc.wf_cases hw with e | e | ⟨e, hwl⟩
                · have hb : w.B = [] := by rw [e]; rfl
                  have hl : w.L = [] := by rw [e]; rfl
                  have hb' : v.B = [] := List.length_eq_zero_iff.1 (by rw [← h4, hb]; rfl)
                  have hl' : v.L = [] := List.length_eq_zero_iff.1 (by rw [← h5, hl]; rfl)
                  rw [← Kc.value_eta w, ← Kc.value_eta v, h1, h3, hb, hl, hb', hl']
                · have hk2 : w.Kind = 2 := by rw [e]; rfl
                  have hl : w.L = [] := by rw [e]; rfl
                  have hl' : v.L = [] := List.length_eq_zero_iff.1 (by rw [← h5, hl]; rfl)
                  rw [Kc.cmpV_eq, if_neg (by simp [h1]), if_neg (by rw [hk2]; decide), if_pos hk2] at h2
                  rw [← Kc.value_eta w, ← Kc.value_eta v, h1, h3, cB_zero.1 h2, hl, hl']
                · have hb : w.B = [] := by rw [e]; rfl
                  have hb' : v.B = [] := List.length_eq_zero_iff.1 (by rw [← h4, hb]; rfl)
                  rw [← Kc.value_eta w, ← Kc.value_eta v, h1, h3, hb, hb', hL hwl]
              · exact hq.elim
              · obtain ⟨rfl, h6⟩ := hq
                exact ⟨false, rfl, (by intro h; cases h), fun e => absurd (by rw [e]) h6⟩
            · rw [if_pos (by simp; omega)]
              exact ⟨false, rfl, (by intro h; cases h), fun e => absurd (by rw [e]) h5⟩
          · rw [if_pos (by simp; omega), Option.bind_some, if_pos rfl]
            exact ⟨false, rfl, (by intro h; cases h), fun e => absurd (by rw [e]) h4⟩
        · rw [if_pos (by simpa using h3), Option.bind_some, if_pos rfl]
          exact ⟨false, rfl, (by intro h; cases h), fun e => absurd (by rw [e]) h3⟩
      · rw [if_pos (by simpa using h2), Option.bind_some, if_pos rfl]
        exact ⟨false, rfl, (by intro h; cases h), fun e => absurd (by rw [e]; exact Yp v) h2⟩
    · rw [if_pos (by simpa using h1), Option.bind_some, if_pos rfl]
      exact ⟨false, rfl, (by intro h; cases h), fun e => absurd (by rw [e]) h1⟩
theorem Xm {w v : Api_Value} (h : Kc.szV w ≤ 1152921504606846976) : ∃ b, P4 w v = some b ∧ (b = true → Kc.wfV w → w = v) ∧ (w = v → b = true) := AhI 18446744073709551616 w v (by omega) h
def Ms (x : Api_Value) : Api_Part := ⟨(nth x.L 0).N, (nth x.L 1).N, (nth x.L 2).N == 1⟩
def Agt (v : Api_Value) (ps : List Api_Part) : Api_Item := { Kind := (nth v.L 0).N, Ref := { Railway := (nth (nth v.L 1).L 0).N, No := (nth (nth v.L 1).L 1).N }, Wagon := (nth v.L 2).N, Place := (nth v.L 3).N, Other := (nth v.L 4).N, Number := (nth v.L 5).N, From := (nth v.L 6).N, To := (nth v.L 7).N, Code := (nth v.L 8).N, Dest := (nth v.L 9).N, Class := (nth v.L 10).N, Weight := (nth v.L 11).N, Amount := (nth v.L 12).N, Text := (nth v.L 13).B, Parts := ps }
theorem AiN {n : Nat} (h : n ≤ 2199023255552) : Fv n 24 := ⟨Nat.le_trans h (by decide), Nat.le_trans (Nat.mul_le_mul_right 24 h) (by decide)⟩
theorem Afr {v : Api_Value} (hq : (nth v.L 14).L.length ≤ 2199023255552) : ∃ R : Option (List Api_Part), C6 (fun (s : Int × List Api_Part) => C9 v s.1 s.2) (0, []) = some (match R with | some l => .inl l | none => .inr (.inr (ent, 10))) ∧
    (∀ l, R = some l → l = (nth v.L 14).L.map Ms) ∧ (R = none → ¬ ∀ x ∈ (nth v.L 14).L, x.L.length = 3) := by
  generalize hQ : (nth v.L 14).L = Q at hq
  obtain ⟨z, hz, hr⟩ := F9 (f := fun (s : Int × List Api_Part) => C9 v s.1 s.2) (fun s => ∃ k : Nat, s = ((k : Int), (Q.take k).map Ms) ∧ k ≤ Q.length) (fun s => Q.length - s.1.toNat)
    (fun z => ∃ R : Option (List Api_Part), z = (match R with | some l => .inl l | none => .inr (.inr (ent, 10))) ∧ (∀ l, R = some l → l = Q.map Ms) ∧ (R = none → ¬ ∀ x ∈ Q, x.L.length = 3)) (by
    rintro s ⟨k, rfl, hk⟩
    unfold C9
    simp only [lt1, hQ]
    by_cases hlt : k < Q.length
    · rw [if_pos (decide_eq_true (by omega)), if_pos ⟨by omega, by simpa using hlt⟩]
      simp only [Int.toNat_natCast]
      by_cases h3 : (nth Q k).L.length = 3
      · rw [if_neg (by simp [h3]), if_pos ⟨by omega, by rw [h3]; decide⟩, if_pos ⟨by omega, by rw [h3]; decide⟩, if_pos ⟨by omega, by rw [h3]; decide⟩, if_pos (AiN (by simp; omega)), Mb (by omega)]
        refine .inl ⟨_, rfl, ⟨k + 1, ?_, by omega⟩, ?_⟩
        · rw [map_take _ _ k hlt]; rfl
        · simp only [Int.toNat_natCast]; omega
      · rw [if_pos (by simp; omega)]
        exact .inr ⟨_, rfl, none, rfl, (by intro l h; cases h), fun _ hh => h3 (hh _ (K0 hlt))⟩
    · rw [if_neg (by simpa using hlt)]
      refine .inr ⟨_, rfl, some _, rfl, fun l h => ?_, by intro h; cases h⟩
      obtain rfl := Option.some.inj h
      rw [List.take_of_length_le (by omega)]) (v0 := (0, [])) ⟨0, by simp, Nat.zero_le _⟩ (by simp; omega)
  obtain ⟨R, rfl, h1, h2⟩ := hr
  exact ⟨R, hz, h1, h2⟩
theorem AdQ {v : Api_Value} (h14 : v.L.length = 15 → (nth v.L 14).L.length ≤ 2199023255552) (h13 : v.L.length = 15 → (nth v.L 13).B.length ≤ 140737488355328) : (B6 v = some (ent, 10) ∧ ¬ (v.L.length = 15 ∧ (nth v.L 1).L.length = 2 ∧ ∀ x ∈ (nth v.L 14).L, x.L.length = 3)) ∨
    (B6 v = (P4 (val (Agt v ((nth v.L 14).L.map Ms))) v).bind (fun b => if (!b) = true then some (ent, 10) else some (Agt v ((nth v.L 14).L.map Ms), 0)) ∧ (nth v.L 14).L.length ≤ 2199023255552 ∧ (nth v.L 13).B.length ≤ 140737488355328) := by
  unfold B6
  by_cases h15 : v.L.length = 15
  · have hin : ∀ k : Nat, k < 15 → InR (k : Int) v.L.length := fun k hk => ⟨by omega, by rw [h15]; simpa using hk⟩
    have i0 : InR 0 v.L.length := hin 0 (by omega)
    have i1 : InR 1 v.L.length := hin 1 (by omega)
    have i2 : InR 2 v.L.length := hin 2 (by omega)
    have i3 : InR 3 v.L.length := hin 3 (by omega)
    have i4 : InR 4 v.L.length := hin 4 (by omega)
    have i5 : InR 5 v.L.length := hin 5 (by omega)
    have i6 : InR 6 v.L.length := hin 6 (by omega)
    have i7 : InR 7 v.L.length := hin 7 (by omega)
    have i8 : InR 8 v.L.length := hin 8 (by omega)
    have i9 : InR 9 v.L.length := hin 9 (by omega)
    have i10 : InR 10 v.L.length := hin 10 (by omega)
    have i11 : InR 11 v.L.length := hin 11 (by omega)
    have i12 : InR 12 v.L.length := hin 12 (by omega)
    have i13 : InR 13 v.L.length := hin 13 (by omega)
    have i14 : InR 14 v.L.length := hin 14 (by omega)
    have q14 := h14 h15
    have q13 := h13 h15
    rw [if_neg (by simp [h15]), if_pos i1, Option.bind_some]
    by_cases h2 : (nth v.L 1).L.length = 2
    · have j0 : InR 0 (nth v.L 1).L.length := ⟨by omega, by rw [h2]; decide⟩
      have j1 : InR 1 (nth v.L 1).L.length := ⟨by omega, by rw [h2]; decide⟩
      obtain ⟨R, hloop, hR, hN⟩ := Afr (v := v) q14
      rw [if_neg (by simp [h2])]
      simp only [lt1, if_pos i0, if_pos i1, if_pos i2, if_pos i3, if_pos i4, if_pos i5, if_pos i6, if_pos i7, if_pos i8, if_pos i9, if_pos i10, if_pos i11, if_pos i12, if_pos i13, if_pos i14, if_pos j0, if_pos j1, Option.bind_some, hloop]
      match R with
      | none => exact .inl ⟨rfl, fun h => hN rfl h.2.2⟩
      | some l =>
        obtain rfl := hR l rfl
        refine .inr ⟨?_, q14, q13⟩
        simp only [Option.bind_some]
        have hv : En (Agt v ((nth v.L 14).L.map Ms)) = some (val (Agt v ((nth v.L 14).L.map Ms))) := Uv (by show ((nth v.L 14).L.map Ms).length ≤ _; rw [List.length_map]; omega)
        unfold Agt at hv
        rw [hv, Option.bind_some]
        rfl
    · refine .inl ⟨?_, fun h => h2 h.2.1⟩
      rw [if_pos (by simp; omega)]; rfl
  · refine .inl ⟨?_, fun h => h15 h.1⟩
    rw [if_pos (by simp; omega), Option.bind_some, if_pos rfl]; rfl
theorem AkF (it : Api_Item) : Kc.wfV (val it) := by
  obtain ⟨e, h1, _, _⟩ := AaK it
  show (Kc.shpV (val it)).2 = true
  rw [h1]
theorem Afg {v : Api_Value} (h14 : v.L.length = 15 → (nth v.L 14).L.length ≤ 2199023255552) (h13 : v.L.length = 15 → (nth v.L 13).B.length ≤ 140737488355328) : B6 v = some (ent, 10) ∨ ∃ it, B6 v = some (it, 0) ∧ val it = v ∧ it.Parts.length ≤ 2199023255552 ∧ it.Text.length ≤ 140737488355328 := by
  rcases AdQ h14 h13 with ⟨h, _⟩ | ⟨h, h1, h2⟩
  · exact .inl h
  · have hl : ((nth v.L 14).L.map Ms).length = (nth v.L 14).L.length := List.length_map _
    obtain ⟨b, hb, hb1, hb2⟩ := Xm (w := val (Agt v ((nth v.L 14).L.map Ms))) (v := v) (by
      rw [AeE]
      have e1 : (Agt v ((nth v.L 14).L.map Ms)).Text.length = (nth v.L 13).B.length := rfl
      have e2 : (Agt v ((nth v.L 14).L.map Ms)).Parts.length = (nth v.L 14).L.length := hl
      omega)
    rw [h, hb, Option.bind_some]
    cases b with
    | false => exact .inl rfl
    | true => exact .inr ⟨_, rfl, hb1 rfl (AkF _), by show ((nth v.L 14).L.map Ms).length ≤ _; omega, h2⟩
theorem Ag6 {it : Api_Item} (ht : it.Text.length ≤ 100000) (hp : it.Parts.length ≤ 100000) : B6 (val it) = some (it, 0) := by
  have hL : (nth (val it).L 14).L = it.Parts.map H0 := rfl
  have hps : (nth (val it).L 14).L.map Ms = it.Parts := by
    rw [hL, List.map_map]
    have : (Ms ∘ H0) = id := by
      funext x
      exact AiP x
    rw [this, List.map_id]
  have hc : Agt (val it) it.Parts = it := rfl
  have h3 : ∀ x ∈ (nth (val it).L 14).L, x.L.length = 3 := by
    rw [hL]
    intro x hx
    obtain ⟨p, _, rfl⟩ := List.mem_map.1 hx
    rfl
  have hs := AeE it
  rcases AdQ (v := val it) (fun _ => by rw [hL, List.length_map]; omega) (fun _ => by show it.Text.length ≤ _; omega) with ⟨_, h⟩ | ⟨h, _, _⟩
  · exact absurd ⟨rfl, rfl, h3⟩ h
  · rw [hps, hc] at h
    obtain ⟨b, hb, _, hb2⟩ := Xm (w := val it) (v := val it) (by omega)
    rw [h, hb, hb2 rfl]; rfl
theorem Ac8 {it : Api_Item} {v : Api_Value} (h : Ints it) (h14 : v.L.length = 15 → (nth v.L 14).L.length ≤ 2199023255552) (h13 : v.L.length = 15 → (nth v.L 13).B.length ≤ 140737488355328) : Fm it v = some true := by
  unfold Fm
  rw [Aju, Option.bind_some, if_neg (by simp), Ahh, Option.bind_some]
  by_cases hs : it.Text.length ≤ 2000 ∧ it.Parts.length ≤ 20
  · have hok := h.ok hs.1 hs.2
    have hf := Ag6 (it := it) (by omega) (by omega)
    rw [if_neg (by simp [hs]), Uv (by omega), Option.bind_some, hf, Option.bind_some, Option.bind_some, Adh hs.1 hs.2, Option.bind_some]
    simp only
    rw [AcZ h hs.1 hs.2, Option.bind_some]
    simp only
    rw [hf, Option.bind_some, if_neg (by simp), X6 hok, Option.bind_some, if_neg (by simp), if_neg (by simp), if_neg (by simp), if_neg (by simp), Option.bind_some, Option.bind_some, if_neg (by simp)]
    rcases Afg h14 h13 with h1 | ⟨z, h1, h2, h3, h4⟩
    · rw [h1, Option.bind_some, if_pos (by simp), if_pos (by simp)]
      have := X6 AmK
      unfold ent at this ⊢
      rw [this]; rfl
    · rw [h1, Option.bind_some, if_neg (by simp), Uv h3, Option.bind_some, ← h2, Agm h4 h3]; rfl
  · rw [if_pos (by simp; omega)]
end Go.Proofs.YtnfoiocigicdnaaGreatDoor
