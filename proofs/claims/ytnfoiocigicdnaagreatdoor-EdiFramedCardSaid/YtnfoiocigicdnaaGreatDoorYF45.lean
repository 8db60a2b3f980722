/-
  Part 45.
-/
import Derived.Test.YtnfoiocigicdnaaGreatDoorYF39
import Derived.Test.YtnfoiocigicdnaaGreatDoorYF40
import Derived.Test.YtnfoiocigicdnaaGreatDoorYF44
namespace Go.Proofs.YtnfoiocigicdnaaGreatDoor
open Go.Rv
set_option linter.unusedVariables false
set_option maxRecDepth 100000
theorem AnC : Ha 119 = 0 := by decide +kernel
theorem Amt : Ha 112 = 1 := by decide +kernel
theorem AmH : Ha 111 = 2 := by decide +kernel
theorem AlZ : Ha 110 = 3 := by decide +kernel
theorem AlX : Ha 102 = 4 := by decide +kernel
theorem AnH : Ha 116 = 5 := by decide +kernel
theorem An9 : Ha 99 = 6 := by decide +kernel
theorem AnU : Ha 100 = 7 := by decide +kernel
theorem An8 : Ha 107 = 8 := by decide +kernel
theorem Aoi : Ha 103 = 9 := by decide +kernel
theorem AnI : Ha 97 = 10 := by decide +kernel
theorem E0 {j : Api_Item} {c : UInt8} {k n : Int} (hk : Ha c = k) (hk1 : k ≠ -1) (h : I64 n) (hz : n = 0 → Acr j k n = j) : Cm j (T5 c n) = some (some (Acr j k n)) := by
  unfold T5
  by_cases h0 : n = 0
  · rw [if_pos h0, hz h0]; rfl
  · have hl := Do h.1 h.2
    rw [if_neg h0, Cm, Z5 (by omega) (by rw [hk]; exact hk1), Amp h, hk]
    rfl
theorem Afl {j : Api_Item} {r : Api_Ref} (h : I64 r.Railway ∧ I64 r.No) (hj : j.Ref = ⟨0, 0⟩) : Cm j (Aiq r) = some (some { j with Ref := r }) := by
  unfold Aiq
  by_cases h0 : r.Railway = 0 ∧ r.No = 0
  · rw [if_pos h0]
    have : r = j.Ref := by rw [hj]; cases r; simp only at h0; rw [h0.1, h0.2]
    rw [this]; rfl
  · have q1 := Do h.1.1 h.1.2
    have q2 := Do h.2.1 h.2.2
    rw [if_neg h0, Cm, Z7 (by simp; omega), AlU h.1 h.2]
    rfl
theorem AbW {j : Api_Item} {t : List UInt8} (ht : t.length ≤ 70000) (hj : j.Text = []) : Cm j (Abq t) = some (some { j with Text := t }) := by
  unfold Abq
  by_cases h0 : t = []
  · rw [if_pos h0, h0, ← hj]; rfl
  · rw [if_neg h0, Cm, Vx, Ae0 (by omega)]
    rfl
theorem Agm (x : Api_Part) : (⟨x.Kind, x.Serial, (if x.Fitted = true then (1 : Int) else 0) == 1⟩ : Api_Part) = x := by
  rcases x with ⟨a, b, c⟩
  cases c <;> rfl
theorem Q5 : ∀ {ps : List Api_Part} {j : Api_Item}, (∀ x ∈ ps, I64 x.Kind ∧ I64 x.Serial) → j.Parts.length + ps.length ≤ 500000 → Cm j (ps.map U1) = some (some { j with Parts := j.Parts ++ ps })
  | [], j, _, _ => by simp [Cm]
  | x :: ps, j, h, hl => by
    have hx := h x (by simp)
    have q1 := Do hx.1.1 hx.1.2
    have q2 := Do hx.2.1 hx.2.2
    simp only [List.length_cons] at hl
    have hf : (Ais x.Fitted).length = 1 := by cases x.Fitted <;> rfl
    have e : Cg j (U1 x) = some (true, { j with Parts := j.Parts ++ [x] }) := by
      unfold U1
      rw [Vw (by simp only [List.length_append, List.length_cons]; omega) (by omega), AmO hx.1 hx.2]
      simp only
      rw [Agm]
    rw [List.map_cons, Cm, e, Option.bind_some, if_pos rfl, Q5 (fun y hy => h y (by simp [hy])) (by simp; omega)]
    simp
def kit (k : Int) : Api_Item := { ent with Kind := k }
theorem ent_ints : Ints ent := by
  have z : I64 0 := ⟨by omega, by omega⟩
  exact ⟨z, ⟨z, z⟩, ⟨z, z, z, z, z, z, z, z, z, z, z⟩, fun x hx => by cases hx⟩
theorem Aji {k : Int} (h : I64 k) : Rg (kit k) 0 := ⟨⟨h, ent_ints.ref, ent_ints.nums, ent_ints.part⟩, Nat.zero_le _, Nat.le_refl _⟩
theorem Aem {it : Api_Item} (h : Ints it) (ht : it.Text.length ≤ 70000) (hp : it.Parts.length ≤ 500000) : Cm (kit it.Kind) (els it) = some (some it) := by
  obtain ⟨h1, h2, h3, h4, h5, h6, h7, h8, h9, h10, h11⟩ := h.nums
  obtain ⟨k, r, w, p, o, nn, f, t, c, d, kl, g, a, tx, ps⟩ := it
  unfold els AeM
  simp only [List.append_assoc]
  refine (B2 (Afl (j := kit k) h.ref rfl)).trans ?_
  refine (B2 (E0 (j := ⟨k, r, 0, 0, 0, 0, 0, 0, 0, 0, 0, 0, 0, [], []⟩) AnC (by decide) h1 (fun e => by simp only at e; subst e; rfl))).trans ?_
  refine (B2 (E0 (j := ⟨k, r, w, 0, 0, 0, 0, 0, 0, 0, 0, 0, 0, [], []⟩) Amt (by decide) h2 (fun e => by simp only at e; subst e; rfl))).trans ?_
  refine (B2 (E0 (j := ⟨k, r, w, p, 0, 0, 0, 0, 0, 0, 0, 0, 0, [], []⟩) AmH (by decide) h3 (fun e => by simp only at e; subst e; rfl))).trans ?_
  refine (B2 (E0 (j := ⟨k, r, w, p, o, 0, 0, 0, 0, 0, 0, 0, 0, [], []⟩) AlZ (by decide) h4 (fun e => by simp only at e; subst e; rfl))).trans ?_
  refine (B2 (E0 (j := ⟨k, r, w, p, o, nn, 0, 0, 0, 0, 0, 0, 0, [], []⟩) AlX (by decide) h5 (fun e => by simp only at e; subst e; rfl))).trans ?_
  refine (B2 (E0 (j := ⟨k, r, w, p, o, nn, f, 0, 0, 0, 0, 0, 0, [], []⟩) AnH (by decide) h6 (fun e => by simp only at e; subst e; rfl))).trans ?_
  refine (B2 (E0 (j := ⟨k, r, w, p, o, nn, f, t, 0, 0, 0, 0, 0, [], []⟩) An9 (by decide) h7 (fun e => by simp only at e; subst e; rfl))).trans ?_
  refine (B2 (E0 (j := ⟨k, r, w, p, o, nn, f, t, c, 0, 0, 0, 0, [], []⟩) AnU (by decide) h8 (fun e => by simp only at e; subst e; rfl))).trans ?_
  refine (B2 (E0 (j := ⟨k, r, w, p, o, nn, f, t, c, d, 0, 0, 0, [], []⟩) An8 (by decide) h9 (fun e => by simp only at e; subst e; rfl))).trans ?_
  refine (B2 (E0 (j := ⟨k, r, w, p, o, nn, f, t, c, d, kl, 0, 0, [], []⟩) Aoi (by decide) h10 (fun e => by simp only at e; subst e; rfl))).trans ?_
  refine (B2 (E0 (j := ⟨k, r, w, p, o, nn, f, t, c, d, kl, g, 0, [], []⟩) AnI (by decide) h11 (fun e => by simp only at e; subst e; rfl))).trans ?_
  refine (B2 (AbW (j := ⟨k, r, w, p, o, nn, f, t, c, d, kl, g, a, [], []⟩) ht rfl)).trans ?_
  exact Q5 (j := ⟨k, r, w, p, o, nn, f, t, c, d, kl, g, a, tx, []⟩) h.part (by simpa using hp)
theorem Aa2 (x : List UInt8) : ∃ i, B7 glob0.l x = some i ∧ -1 ≤ i ∧ i ≤ 15 := by
  have hl : glob0.l.length = 16 := glob0.h
  unfold B7
  obtain ⟨z, hz, hq⟩ := Dz (f := fun (v : Int) => C4 glob0.l x v) (fun v => 0 ≤ v ∧ v ≤ 16) (fun v => 16 - v.toNat) (fun z => match z with | .inl () => True | .inr (.inl ()) => True | .inr (.inr i) => 0 ≤ i ∧ i ≤ 15) (by
    rintro v ⟨h1, h2⟩
    unfold C4
    rw [hl]
    by_cases hv : v < 16
    · rw [if_pos (decide_eq_true (by omega)), if_pos ⟨h1, by omega⟩]
      by_cases hx : (x == nth glob0.l v.toNat) = true
      · rw [if_pos hx]
        exact .inr ⟨_, rfl, by omega, by omega⟩
      · rw [if_neg hx, Ff (by omega)]
        exact .inl ⟨_, rfl, ⟨by omega, by omega⟩, by omega⟩
    · rw [if_neg (by simp; omega)]
      exact .inr ⟨_, rfl, trivial⟩) (v0 := 0) ⟨by omega, by omega⟩ (by simp)
  rw [hz]
  rcases z with ⟨⟩ | ⟨⟨⟩ | i⟩
  · exact ⟨-1, rfl, by omega, by omega⟩
  · exact ⟨-1, rfl, by omega, by omega⟩
  · exact ⟨i, rfl, by have := hq.1; omega, hq.2⟩
theorem Rs : ∀ k : Fin 16, B7 glob0.l (glob0.get k.val) = some (k.val : Int) := by decide +kernel
theorem AcN {k : Int} (h1 : 1 ≤ k) (h2 : k ≤ 15) : B7 glob0.l (glob0.get k.toNat) = some k := by
  have := Rs ⟨k.toNat, by omega⟩
  simp only at this
  rw [this, show ((k.toNat : Nat) : Int) = k by omega]
def cut (s : List UInt8) : List UInt8 := if (s.drop (s.length - 1)) = [39] then s.take (s.length - 1) else s
theorem Ajf {s : List UInt8} (hs : s.length ≤ 100000) : C9 s [39] = some (cut s, decide (s.drop (s.length - 1) = [39])) := by
  unfold C9 C5 C3 cut
  by_cases h0 : s = []
  · subst h0; rfl
  · have hp : 0 < s.length := List.length_pos_iff.2 h0
    have hw : w64 ((s.length : Int) - (([39] : List UInt8).length : Int)) = ((s.length - 1 : Nat) : Int) := by
      simp only [List.length_cons, List.length_nil]
      rw [Ff (by omega)]; omega
    have hc : (decide ((s.length : Int) ≥ (([39] : List UInt8).length : Int))) = true := decide_eq_true (by simp only [List.length_cons, List.length_nil]; omega)
    rw [if_pos hc, hw, if_pos ⟨by omega, by simp⟩]
    simp only [Int.toNat_natCast, Option.bind_some]
    rw [List.take_of_length_le (by rw [List.length_drop]; exact Nat.le_refl _)]
    by_cases hq : s.drop (s.length - 1) = [39]
    · rw [if_neg (by simp [hq]), if_pos ⟨by omega, by simp⟩]
      simp only [lt1, Option.bind_some, hq, if_true, decide_true]
    · rw [if_pos (by simpa using hq)]
      simp only [Option.bind_some, hq, if_false, decide_false]
theorem Adi (it : Api_Item) : cut (msg it) = Wf it := by
  unfold cut msg
  rw [List.length_append, List.length_singleton, Nat.add_sub_cancel, List.drop_left, if_pos rfl, List.take_left']
  rfl
theorem AhE (s : List UInt8) : (cut s).length ≤ s.length := by
  unfold cut
  split
  · rw [List.length_take]; omega
  · exact Nat.le_refl _
theorem Ah4 (it : Api_Item) : Cy ({ Kind := it.Kind, Ref := { Railway := it.Ref.Railway, No := it.Ref.No }, Wagon := it.Wagon, Place := it.Place, Other := it.Other, Number := it.Number, From := it.From, To := it.To, Code := it.Code, Dest := it.Dest, Class := it.Class, Weight := it.Weight, Amount := it.Amount, Text := it.Text, Parts := it.Parts } : Api_Item) = Cy it := rfl
theorem Aeu {s : List UInt8} (hs : s.length ≤ 65536) : ∃ k R, B7 glob0.l ((splitAtL 43 (cut s)).headD []) = some k ∧ -1 ≤ k ∧ k ≤ 15 ∧ Cm (kit k) (splitAtL 43 (cut s)).tail = some R ∧
    (∀ it, R = some it → Rg it (splitAtL 43 (cut s)).tail.length ∧ it.Kind = k) ∧
    E3 s = match R with
      | none => some (ent, 4)
      | some it => (Cy it).bind fun y => if (y.2 != 0 || !(y.1 == s)) = true then some (ent, 4) else some (it, 0) := by
  have hcl := AhE s
  have hsl := J8 43 (cut s)
  have hcnt : (cut s).count 43 ≤ (cut s).length := List.count_le_length
  have hsm : ∀ p ∈ splitAtL 43 (cut s), p.length ≤ 70000 := fun p hp => by have := Qr _ _ (Nat.le_refl _) p hp; omega
  unfold E3
  rw [if_neg (by simp; omega), Ajf (by omega), Option.bind_some]
  simp only
  rw [Aft (by omega), Option.bind_some]
  revert hsl hsm
  generalize splitAtL 43 (cut s) = L
  intro hsl hsm
  match L with
  | [] => simp at hsl
  | e0 :: L =>
    obtain ⟨k, hk1, hk2, hk3⟩ := Aa2 e0
    have hkI : I64 k := ⟨by omega, by omega⟩
    simp only [List.length_cons] at hsl
    obtain ⟨R, hR, hloop, hin⟩ := Aal (L := L) (e0 := e0) (it0 := kit k) (by omega) (fun e he => hsm e (by simp [he])) (Aji hkI) hkI
    refine ⟨k, R, hk1, hk2, hk3, hR, hin, ?_⟩
    have e1 : nth (e0 :: L) 0 = e0 := rfl
    rw [if_pos ⟨by omega, by simp⟩, e1, hk1, Option.bind_some, if_pos ⟨by omega, by simp⟩]
    have hloop' := hloop
    unfold un kit ent at hloop'
    rw [hloop']
    match R with
    | none => rfl
    | some it =>
      simp only [Option.bind_some]
      rw [Ah4]
      cases Cy it with
      | none => rfl
      | some y =>
        simp only [Option.bind_some]
        by_cases h1 : (y.2 != 0) = true
        · rw [if_pos h1, h1]; rfl
        · have h1' : (y.2 != 0) = false := by simpa using h1
          rw [if_neg h1, h1']
          simp only [Option.bind_some, Bool.false_or]
          rfl
theorem AdM {it : Api_Item} (hi : OkItem it) (h : Ints it) (h1 : 1 ≤ it.Kind) (h2 : it.Kind ≤ 15) (hl : (msg it).length ≤ 65536) : E3 (msg it) = some (it, 0) := by
  obtain ⟨k, R, q1, _, _, q4, q5, q6⟩ := Aeu hl
  rw [Adi, Ql, List.headD_cons] at q1
  rw [AcN h1 h2] at q1
  obtain rfl := Option.some.inj q1
  rw [Adi, Ql, List.tail_cons, Aem h hi.text (by have := hi.parts; omega)] at q4
  obtain rfl := Option.some.inj q4
  rw [q6]
  simp only
  rw [Vf hi, if_pos ⟨h1, h2⟩, if_neg (by omega), Option.bind_some, if_neg (by simp)]
theorem AcC (x y : Api_Part) : (!((x.Kind == y.Kind) && ((x.Serial == y.Serial) && (x.Fitted == y.Fitted)))) = decide (x ≠ y) := by
  by_cases h : x = y
  · subst h; simp
  · rw [decide_eq_true h]
    rcases x with ⟨a, b, c⟩
    rcases y with ⟨d, e, f⟩
    simp only [Api_Part.mk.injEq, not_and] at h
    simp only [Bool.not_eq_true', Bool.and_eq_false_iff, beq_eq_false_iff_ne, ne_eq]
    by_cases h1 : a = d
    · by_cases h2 : b = e
      · exact .inr (.inr (by simpa using h h1 h2))
      · exact .inr (.inl h2)
    · exact .inl h1
theorem Aaf {a b : List Api_Part} (ha : a.length ≤ 1000000) : Ez a b = some (decide (a = b)) := by
  unfold Ez
  by_cases hl : a.length = b.length
  · rw [if_neg (by simp [hl])]
    obtain ⟨z, hz, hq⟩ := Dz (f := fun (v : Int) => Dl a b v) (fun v => ∃ k : Nat, v = (k : Int) ∧ k ≤ a.length ∧ a.take k = b.take k) (fun v => a.length - v.toNat)
      (fun z => match z with | .inl () => a = b | .inr (.inl ()) => False | .inr (.inr t) => t = false ∧ a ≠ b) (by
      rintro v ⟨k, rfl, hk, ht⟩
      unfold Dl
      by_cases hlt : k < a.length
      · have hlb : k < b.length := by omega
        rw [if_pos (decide_eq_true (by omega)), if_pos ⟨by omega, by simpa using hlt⟩, if_pos ⟨by omega, by simpa using hlb⟩]
        simp only [lt1, Int.toNat_natCast]
        have ea : a.take (k + 1) = a.take k ++ [nth a k] := by rw [List.take_add_one, List.getElem?_eq_getElem hlt]; simp [nth, List.getElem?_eq_getElem hlt]
        have eb : b.take (k + 1) = b.take k ++ [nth b k] := by rw [List.take_add_one, List.getElem?_eq_getElem hlb]; simp [nth, List.getElem?_eq_getElem hlb]
        by_cases he : nth a k = nth b k
        · rw [if_neg (by rw [AcC]; simp [he]), G6 (by omega)]
          refine .inl ⟨_, rfl, ⟨k + 1, rfl, by omega, by rw [ea, eb, ht, he]⟩, ?_⟩
          simp only [Int.toNat_natCast]; omega
        · rw [if_pos (by rw [AcC]; simpa using he)]
          exact .inr ⟨_, rfl, rfl, fun h => he (by rw [h])⟩
      · rw [if_neg (by simpa using hlt)]
        refine .inr ⟨_, rfl, ?_⟩
        rw [List.take_of_length_le (by omega), List.take_of_length_le (by omega)] at ht
        exact ht) (v0 := 0) ⟨0, rfl, Nat.zero_le _, rfl⟩ (by simp; omega)
    rw [hz]
    rcases z with ⟨⟩ | ⟨⟨⟩ | t⟩
    · have : a = b := hq
      rw [decide_eq_true this]; rfl
    · exact hq.elim
    · obtain ⟨rfl, h2⟩ := hq
      rw [decide_eq_false h2]; rfl
  · rw [if_pos (by simp; omega), decide_eq_false (fun h => hl (by rw [h]))]
theorem AdW {a b : Api_Item} (h : Kt a = Kt b) (hk : a.Kind = b.Kind) (hr1 : a.Ref.Railway = b.Ref.Railway) (hr2 : a.Ref.No = b.Ref.No) (ht : a.Text = b.Text) (hp : a.Parts = b.Parts) : a = b := by
  rcases a with ⟨k, ⟨r, n⟩, a1, a2, a3, a4, a5, a6, a7, a8, a9, a10, a11, t, p⟩
  rcases b with ⟨k', ⟨r', n'⟩, b1, b2, b3, b4, b5, b6, b7, b8, b9, b10, b11, t', p'⟩
  simp only [Kt, List.cons.injEq, Prod.mk.injEq, true_and, and_true] at h
  obtain ⟨rfl, rfl, rfl, rfl, rfl, rfl, rfl, rfl, rfl, rfl, rfl⟩ := h
  simp only at hk hr1 hr2 ht hp
  subst hk hr1 hr2 ht hp
  rfl
theorem AhH {a b : Api_Item} (ha : OkItem a) (hb : OkItem b) : Gb a b = some (decide (a = b)) := by
  unfold Gb
  have l11 : ∀ it : Api_Item, (Kt it).length = 11 := fun _ => rfl
  obtain ⟨z, hz, hq⟩ := Dz (f := fun (v : Int) => Gu a b v) (fun v => ∃ k : Nat, v = (k : Int) ∧ k ≤ 11 ∧ (Kt a).take k = (Kt b).take k) (fun v => 11 - v.toNat)
    (fun z => match z with | .inl () => Kt a = Kt b | .inr (.inl ()) => False | .inr (.inr t) => t = false ∧ a ≠ b) (by
    rintro v ⟨k, rfl, hk, ht⟩
    unfold Gu
    by_cases hlt : k < 11
    · obtain ⟨c, n, f1, f2, f3, f4⟩ := Z6 ha hlt
      obtain ⟨c', n', g1, g2, g3, g4⟩ := Z6 hb hlt
      have hc : c = c' := by
        rw [f4] at g4
        exact (List.cons.inj g4).1
      subst hc
      have f3' : G7 a (nth [119, 112, 111, 110, 102, 116, 99, 100, 107, 103, 97] k) = some n := f3
      have g3' : G7 b (nth [119, 112, 111, 110, 102, 116, 99, 100, 107, 103, 97] k) = some n' := g3
      have hin : InR (k : Int) ([119, 112, 111, 110, 102, 116, 99, 100, 107, 103, 97] : List UInt8).length := ⟨by omega, by simpa using hlt⟩
      rw [if_pos (decide_eq_true (by omega)), if_pos hin]
      simp only [Int.toNat_natCast]
      rw [f3', Option.bind_some, if_pos hin, g3', Option.bind_some]
      have ea : (Kt a).take (k + 1) = (Kt a).take k ++ [(c, n)] := by rw [List.take_add_one, f1]; rfl
      have eb : (Kt b).take (k + 1) = (Kt b).take k ++ [(c, n')] := by rw [List.take_add_one, g1]; rfl
      by_cases he : n = n'
      · rw [if_neg (by simp [he]), G6 (by omega)]
        refine .inl ⟨_, rfl, ⟨k + 1, rfl, by omega, by rw [ea, eb, ht, he]⟩, ?_⟩
        simp only [Int.toNat_natCast]; omega
      · rw [if_pos (by simpa using he)]
        refine .inr ⟨_, rfl, rfl, fun h => he ?_⟩
        rw [h, g1] at f1
        exact (Prod.mk.inj (Option.some.inj f1)).2.symm
    · rw [if_neg (by simp; omega)]
      refine .inr ⟨_, rfl, ?_⟩
      rw [List.take_of_length_le (by rw [l11]; omega), List.take_of_length_le (by rw [l11]; omega)] at ht
      exact ht) (v0 := 0) ⟨0, rfl, Nat.zero_le _, rfl⟩ (by simp)
  rw [hz]
  have hpl := ha.parts
  rcases z with ⟨⟩ | ⟨⟨⟩ | t⟩
  · have hn : Kt a = Kt b := hq
    simp only [Option.bind_some]
    by_cases h1 : a.Kind = b.Kind
    · by_cases h2 : a.Ref.Railway = b.Ref.Railway
      · by_cases h3 : a.Ref.No = b.Ref.No
        · by_cases h4 : a.Text = b.Text
          · rw [if_pos (by simpa using h1), if_pos (by simp [h2, h3]), if_pos (by simpa using h4), Aaf (by omega)]
            by_cases h5 : a.Parts = b.Parts
            · rw [decide_eq_true h5, decide_eq_true (AdW hn h1 h2 h3 h4 h5)]; rfl
            · rw [decide_eq_false h5, decide_eq_false (fun h => h5 (by rw [h]))]; rfl
          · rw [if_pos (by simpa using h1), if_pos (by simp [h2, h3]), if_neg (by simpa using h4), decide_eq_false (fun h => h4 (by rw [h]))]; rfl
        · rw [if_pos (by simpa using h1), if_neg (by simp [h3]), decide_eq_false (fun h => h3 (by rw [h]))]; rfl
      · rw [if_pos (by simpa using h1), if_neg (by simp [h2]), decide_eq_false (fun h => h2 (by rw [h]))]; rfl
    · rw [if_neg (by simpa using h1), decide_eq_false (fun h => h1 (by rw [h]))]; rfl
  · exact hq.elim
  · obtain ⟨rfl, h2⟩ := hq
    rw [decide_eq_false h2]; rfl
theorem AcU {a : Api_Item} (ha : OkItem a) : Gb a a = some true := by rw [AhH ha ha, decide_eq_true rfl]
theorem Agi {it : Api_Item} (hi : OkItem it) (ht : it.Text.length ≤ 2000) (hp : it.Parts.length ≤ 20) (h1 : 1 ≤ it.Kind) (h2 : it.Kind ≤ 15) : (msg it).length ≤ 65536 := by
  have q1 := Yj ⟨it.Kind.toNat, by omega⟩
  have q2 := Wp hi.ref
  have q3 := Sz hi
  have q4 := Sv (t := it.Text)
  have q5 := Lq hi.part
  simp only at q1
  unfold msg Wf
  simp only [List.length_append, List.length_singleton]
  omega
end Go.Proofs.YtnfoiocigicdnaaGreatDoor
namespace Go.Proofs.YtnfoiocigicdnaaGreatDoor.Kf
open Go.Rv
set_option linter.unusedVariables false
def st (c : BitVec 32) : BitVec 32 := (c >>> 1) ^^^ (if c.getLsbD 0 = true then 0xedb88320#32 else 0#32)
theorem Ak6 (a b : BitVec 32) : st (a ^^^ b) = st a ^^^ st b := by
  unfold st
  rw [BitVec.getLsbD_xor, BitVec.ushiftRight_xor_distrib]
  have hp : ∀ p x : BitVec 32, p ^^^ (p ^^^ x) = x := fun p x => by rw [← BitVec.xor_assoc, BitVec.xor_self, BitVec.zero_xor]
  cases a.getLsbD 0 <;> cases b.getLsbD 0
  · simp
  · simp; ac_rfl
  · simp; ac_rfl
  · simp
    have : a >>> 1 ^^^ 3988292384#32 ^^^ (b >>> 1 ^^^ 3988292384#32) = 3988292384#32 ^^^ (3988292384#32 ^^^ (a >>> 1 ^^^ b >>> 1)) := by ac_rfl
    rw [this, hp]
theorem S0 (c : BitVec 32) (h : c.getLsbD 0 = false) : st c = c >>> 1 := by
  unfold st; rw [h]; simp
theorem Adr (c : BitVec 32) : st (st (st (st c))) = (c >>> 4) ^^^ st (st (st (st (c &&& 15#32)))) := by
  have h : c = (c &&& 15#32) ^^^ ((c >>> 4) <<< 4) := by
    apply BitVec.eq_of_getLsbD_eq
    intro i hi
    have h15 : (15#32).getLsbD i = decide (i < 4) := by
      have : ∀ j : Fin 32, (15#32).getLsbD j = decide (j.val < 4) := by decide
      exact this ⟨i, hi⟩
    rw [BitVec.getLsbD_xor, BitVec.getLsbD_and, h15, BitVec.getLsbD_shiftLeft, BitVec.getLsbD_ushiftRight]
    by_cases h4 : i < 4
    · simp [h4]
    · have e : 4 + (i - 4) = i := by omega
      simp [h4, hi, e]
  have hz : ∀ k, k < 4 → ((c >>> 4) <<< 4).getLsbD k = false := by
    intro k hk
    rw [BitVec.getLsbD_shiftLeft]
    simp [hk]
  have hb : st (st (st (st ((c >>> 4) <<< 4)))) = c >>> 4 := by
    have h0 := hz 0 (by omega)
    have h1 := hz 1 (by omega)
    have h2 := hz 2 (by omega)
    have h3 := hz 3 (by omega)
    generalize hy : (c >>> 4) <<< 4 = y at h0 h1 h2 h3
    have e1 : st y = y >>> 1 := S0 _ h0
    have e2 : st (y >>> 1) = y >>> 1 >>> 1 := S0 _ (by simpa [BitVec.getLsbD_ushiftRight] using h1)
    have e3 : st (y >>> 1 >>> 1) = y >>> 1 >>> 1 >>> 1 := S0 _ (by simpa [BitVec.getLsbD_ushiftRight] using h2)
    have e4 : st (y >>> 1 >>> 1 >>> 1) = y >>> 1 >>> 1 >>> 1 >>> 1 := S0 _ (by simpa [BitVec.getLsbD_ushiftRight] using h3)
    rw [e1, e2, e3, e4, ← hy]
    apply BitVec.eq_of_getLsbD_eq
    intro i hi
    simp only [BitVec.getLsbD_ushiftRight, BitVec.getLsbD_shiftLeft]
    by_cases h5 : i + 4 < 32
    · have e1 : 1 + (1 + (1 + (1 + i))) = i + 4 := by omega
      have e2 : i + 4 - 4 = i := by omega
      simp [e1, h5, e2]
    · have e1 : 1 + (1 + (1 + (1 + i))) = i + 4 := by omega
      have : c.getLsbD (4 + i) = false := BitVec.getLsbD_of_ge _ _ (by omega)
      simp [e1, h5, this]
  calc st (st (st (st c))) = st (st (st (st ((c &&& 15#32) ^^^ ((c >>> 4) <<< 4))))) := by rw [← h]
    _ = st (st (st (st (c &&& 15#32)))) ^^^ st (st (st (st ((c >>> 4) <<< 4)))) := by simp only [Ak6]
    _ = _ := by rw [hb, BitVec.xor_comm]
def sU (c : UInt32) : UInt32 := ⟨st c.toBitVec⟩
def s4 (c : UInt32) : UInt32 := sU (sU (sU (sU c)))
def s8 (c : UInt32) : UInt32 := s4 (s4 c)
def Ahq (c : UInt32) (l : List UInt8) : UInt32 := l.foldl (fun c x => s8 (c ^^^ x.toUInt32)) c
def crc (l : List UInt8) : UInt32 := ~~~ Ahq 4294967295 l
theorem AeF (c : UInt32) : s4 c = K6 c 4 ^^^ s4 (c &&& 15) := by
  apply UInt32.toBitVec_inj.1
  exact Adr c.toBitVec
theorem Aah (c : UInt32) : K6 c 1 ^^^ ((3988292384 : UInt32) &&& (0 - (c &&& 1))) = sU c := by
  apply UInt32.toBitVec_inj.1
  show (c.toBitVec >>> 1) ^^^ (0xedb88320#32 &&& (0#32 - (c.toBitVec &&& 1#32))) = st c.toBitVec
  unfold st
  congr 1
  have h : c.toBitVec &&& 1#32 = if c.toBitVec.getLsbD 0 = true then 1#32 else 0#32 := by
    apply BitVec.eq_of_getLsbD_eq
    intro i hi
    have h1 : (1#32).getLsbD i = decide (i = 0) := by
      have : ∀ j : Fin 32, (1#32).getLsbD j = decide (j.val = 0) := by decide
      exact this ⟨i, hi⟩
    rw [BitVec.getLsbD_and, h1]
    by_cases h0 : i = 0
    · subst h0
      cases c.toBitVec.getLsbD 0 <;> rfl
    · cases c.toBitVec.getLsbD 0 <;> simp [h0, h1]
  rw [h]
  cases c.toBitVec.getLsbD 0 <;> decide
theorem Ih {k : Nat} (h : k < 9223372036854775807) : w64 ((k : Int) + 1) = ((k + 1 : Nat) : Int) := by
  rw [Ff (by omega)]; rfl
theorem Aer (c : UInt32) : C6 (fun (v : UInt32 × Int) => Ci v.1 v.2) (c, 0) = some (s4 c) := by
  have h : ∀ k : Nat, k < 4 → ∀ c, Ci c (k : Int) = some (.inl (sU c, ((k + 1 : Nat) : Int))) := by
    intro k hk c
    unfold Ci
    rw [if_pos (by simp; omega), Ih (by omega)]
    show some (Sum.inl (K6 c 1 ^^^ _, _)) = _
    rw [Aah]
  have he : ∀ c, Ci c 4 = some (.inr c) := fun c => by unfold Ci; rfl
  have h0 := h 0 (by omega); have h1 := h 1 (by omega); have h2 := h 2 (by omega); have h3 := h 3 (by omega)
  have key : ∃ x, C6 (fun (v : UInt32 × Int) => Ci v.1 v.2) (c, 0) = some x ∧ x = s4 c := by
    refine Dz (f := fun (v : UInt32 × Int) => Ci v.1 v.2) (fun v => (v.2 = 0 ∧ v.1 = c) ∨ (v.2 = 1 ∧ v.1 = sU c) ∨ (v.2 = 2 ∧ v.1 = sU (sU c)) ∨ (v.2 = 3 ∧ v.1 = sU (sU (sU c))) ∨ (v.2 = 4 ∧ v.1 = s4 c)) (fun v => (4 - v.2).toNat) (fun x => x = s4 c) ?_ (v0 := (c, 0)) (.inl ⟨rfl, rfl⟩) (by simp)
    rintro ⟨d, i⟩ hi
    simp only at hi
    rcases hi with ⟨rfl, rfl⟩ | ⟨rfl, rfl⟩ | ⟨rfl, rfl⟩ | ⟨rfl, rfl⟩ | ⟨rfl, rfl⟩
    · exact .inl ⟨_, h0 _, .inr (.inl ⟨rfl, rfl⟩), by simp⟩
    · exact .inl ⟨_, h1 _, .inr (.inr (.inl ⟨rfl, rfl⟩)), by simp⟩
    · exact .inl ⟨_, h2 _, .inr (.inr (.inr (.inl ⟨rfl, rfl⟩))), by simp⟩
    · exact .inl ⟨_, h3 _, .inr (.inr (.inr (.inr ⟨rfl, rfl⟩))), by simp⟩
    · exact .inr ⟨_, he _, rfl⟩
  obtain ⟨x, hx, hq⟩ := key
  rw [hx, hq]
def tab : Arr UInt32 16 := ⟨(List.range 16).map fun i => s4 (UInt32.ofNat i), by simp⟩
theorem AeW : C6 (fun (v : Int × Arr UInt32 16) => Dg v.1 v.2) (0, Arr.rep 16 0) = some tab := by
  have key : ∃ x, C6 (fun (v : Int × Arr UInt32 16) => Dg v.1 v.2) (0, Arr.rep 16 0) = some x ∧ x = tab := by
    refine Dz (f := fun (v : Int × Arr UInt32 16) => Dg v.1 v.2) (fun v => ∃ k : Nat, v.1 = (k : Int) ∧ k ≤ 16 ∧ v.2.l = ((List.range k).map fun i => s4 (UInt32.ofNat i)) ++ List.replicate (16 - k) 0) (fun v => (16 - v.1).toNat) (fun x => x = tab) ?_ (v0 := (0, Arr.rep 16 0)) ⟨0, rfl, by omega, rfl⟩ (by simp)
    rintro ⟨i, a⟩ ⟨k, hk, hk16, ha⟩
    simp only at hk ha
    subst hk
    by_cases h : k < 16
    · left
      refine ⟨(((k + 1 : Nat) : Int), a.set k (s4 (UInt32.ofInt (k : Int)))), ?_, ⟨k + 1, rfl, by omega, ?_⟩, by simp; omega⟩
      · simp only
        unfold Dg
        rw [if_pos (by simp; omega), Aer]
        simp only [Option.bind_some]
        rw [if_pos (by unfold InR; omega), Ih (by omega)]
        rfl
      · show a.l.set k _ = _
        rw [ha]
        have hl : ((List.range k).map fun i => s4 (UInt32.ofNat i)).length = k := by simp
        rw [List.set_append_right _ _ (by omega), hl, Nat.sub_self]
        have : 16 - k = (16 - (k + 1)) + 1 := by omega
        rw [this, List.replicate_succ, List.set_cons_zero, List.range_succ, List.map_append]
        simp only [List.map_cons, List.map_nil, List.append_assoc, List.cons_append, List.nil_append]
        congr 3
        have : k < 16 := h
        have hall : ∀ j : Fin 16, UInt32.ofInt ((j.val : Nat) : Int) = UInt32.ofNat j.val := by decide
        rw [hall ⟨k, h⟩]
    · right
      have : k = 16 := by omega
      subst this
      refine ⟨a, by simp only; unfold Dg; rfl, ?_⟩
      apply Arr.ext'
      rw [ha]
      simp [tab]
  obtain ⟨x, hx, hq⟩ := key
  rw [hx, hq]
theorem AhR (c : UInt32) (h : c.toNat < 16) : tab.get c.toNat = s4 c := by
  unfold Arr.get nth tab
  simp only [List.getD_eq_getElem?_getD, List.getElem?_map, List.getElem?_range h, Option.map_some, Option.getD_some]
  congr 1
  apply UInt32.toNat_inj.1
  rw [UInt32.toNat_ofNat']
  omega
theorem AhS (c : UInt32) : (c &&& 15).toNat < 16 := by
  rw [UInt32.toNat_and]
  exact Nat.lt_of_le_of_lt Nat.and_le_right (by decide)
theorem nib (c : UInt32) : K6 c (4 : UInt64).toNat ^^^ tab.get (c &&& 15).toNat = s4 c := by
  rw [AhR _ (AhS c), AeF c]; rfl
theorem Adp (c : UInt32) (l : List UInt8) (x : UInt8) : Ahq c (l ++ [x]) = s8 (Ahq c l ^^^ x.toUInt32) := by simp [Ahq]
theorem AdJ (b : List UInt8) (h : b.length ≤ maxLen) : I1 b = some (crc b) := by
  unfold maxLen at h
  unfold I1
  rw [AeW]
  simp only [Option.bind_some]
  have key : ∃ x, C6 (fun (v : UInt32 × Int) => Dq b tab v.1 v.2) ((4294967295 : UInt32), 0) = some x ∧ x = Ahq 4294967295 b := by
    refine Dz (f := fun (v : UInt32 × Int) => Dq b tab v.1 v.2) (fun v => ∃ k : Nat, v.2 = (k : Int) ∧ k ≤ b.length ∧ v.1 = Ahq 4294967295 (b.take k)) (fun v => (b.length - v.2).toNat) (fun x => x = Ahq 4294967295 b) ?_ (v0 := ((4294967295 : UInt32), 0)) ⟨0, rfl, by omega, rfl⟩ (by simp; omega)
    rintro ⟨c, i⟩ ⟨k, hk, hkl, hc⟩
    simp only at hk hc
    subst hk
    by_cases h1 : k < b.length
    · left
      refine ⟨(s8 (c ^^^ (nth b k).toUInt32), ((k + 1 : Nat) : Int)), ?_, ⟨k + 1, rfl, by omega, ?_⟩, by simp; omega⟩
      · simp only
        unfold Dq
        rw [if_pos (by simp; omega), if_pos (by unfold InR; omega)]
        simp only [lt1, Int.toNat_natCast, nib]
        rw [if_pos (by unfold InR; have := AhS (c ^^^ (nth b k).toUInt32); omega), if_pos (by unfold InR; have := AhS (s4 (c ^^^ (nth b k).toUInt32)); omega), Ih (by omega)]
        rfl
      · simp only
        rw [List.take_succ_eq_append_getElem h1, Adp, ← hc]
        simp [nth, h1]
    · right
      have : k = b.length := by omega
      subst this
      refine ⟨c, by simp only; unfold Dq; rw [if_neg (by simp)], ?_⟩
      rw [hc, List.take_length]
  obtain ⟨x, hx, hq⟩ := key
  rw [hx, hq]; rfl
def esc (x : UInt8) : List UInt8 := if x = 126 ∨ x = 125 then [125, x ^^^ 32] else [x]
def Es (l : List UInt8) : List UInt8 := l.flatMap esc
def sealB (c : UInt32) : List UInt8 := [(K6 c 24).toUInt8, (K6 c 16).toUInt8, (K6 c 8).toUInt8, c.toUInt8]
def frameOf (b : List UInt8) : List UInt8 := 126 :: Es (b ++ sealB (crc b)) ++ [126]
theorem Og (x : UInt8) : (esc x).length ≤ 2 := by unfold esc; split <;> simp
theorem wrapB_len (l : List UInt8) : (Es l).length ≤ 2 * l.length := by
  induction l with
  | nil => simp [Es]
  | cons x l ih =>
    simp only [Es, List.flatMap_cons, List.length_append, List.length_cons] at ih ⊢
    have := Og x
    omega
theorem Vi (a b : List UInt8) : Es (a ++ b) = Es a ++ Es b := by simp [Es]
theorem AaH (l : List UInt8) {k : Nat} (h : k < l.length) : Es (l.take (k + 1)) = Es (l.take k) ++ esc (nth l k) := by
  rw [List.take_succ_eq_append_getElem h, Vi]
  congr 1
  simp [Es, nth, h]
theorem Lw (b : List UInt8) (h : b.length ≤ maxLen) : Gp b = some (sealB (crc b)) := by
  unfold Gp
  rw [AdJ b h]
  rfl
theorem Q8 (ls : List (List UInt8)) (t : Nat) (a : List UInt8) (h : (nth ls t).length ≤ 10000) (ha : a.length ≤ 100000) :
    C6 (fun (v : Int × List UInt8) => Di ls (t : Int) v.1 v.2) (0, a) = some (a ++ Es (nth ls t)) := by
  obtain ⟨x, hx, hq⟩ : ∃ x, C6 (fun (v : Int × List UInt8) => Di ls (t : Int) v.1 v.2) (0, a) = some x ∧ x = a ++ Es (nth ls t) := by
    refine G2 (nth ls t).length (fun k v => v.1 = (k : Int) ∧ v.2 = a ++ Es ((nth ls t).take k)) _ (by omega) ?_ ?_ ⟨rfl, by simp [Es]⟩
    · rintro k ⟨i, c⟩ hk ⟨hi, hc⟩
      simp only at hi hc
      subst hi hc
      refine ⟨(((k + 1 : Nat) : Int), a ++ Es ((nth ls t).take (k + 1))), ?_, rfl, rfl⟩
      simp only
      unfold Di
      simp only [Int.toNat_natCast, lt1]
      have hl := wrapB_len ((nth ls t).take k)
      have hl2 : ((nth ls t).take k).length = k := by simp; omega
      have hf : ∀ m, m ≤ 1 → Ei ((a ++ Es ((nth ls t).take k)).length + m) 1 := fun m hm => Aff (by simp; omega)
      have hf2 : ∀ y, Ei ((a ++ Es ((nth ls t).take k) ++ [y]).length + 1) 1 := fun y => Aff (by simp; omega)
      rw [if_pos (by simp; omega), if_pos (Ada hk), if_pos (hf 1 (by omega)), Ih (by omega), AaH _ hk]
      generalize nth (nth ls t) k = x
      unfold esc
      by_cases h1 : x = 126
      · subst h1; simp only [beq_self_eq_true, if_true, Option.bind_some, true_or]
        rw [if_pos (hf2 _)]; simp
      · by_cases h2 : x = 125
        · subst h2
          have e : ((125 : UInt8) == 126) = false := rfl
          simp only [e, beq_self_eq_true, if_true, Option.bind_some, or_true, Bool.false_eq_true, if_false]
          rw [if_pos (hf2 _)]; simp
        · have e1 : (x == 126) = false := by simp [h1]
          have e2 : (x == 125) = false := by simp [h2]
          simp only [e1, e2, Option.bind_some, Bool.false_eq_true, if_false, h1, h2, or_self]
          rw [if_pos (hf 1 (by omega))]; simp
    · rintro ⟨i, c⟩ ⟨hi, hc⟩
      simp only at hi hc
      subst hi hc
      refine ⟨a ++ Es (nth ls t), ?_, rfl⟩
      simp only
      unfold Di
      simp only [Int.toNat_natCast]
      rw [if_neg (by simp), List.take_length]
  rw [hx, hq]
theorem frame_make (b : List UInt8) (h : b.length ≤ maxLen) : H6 b = if 8192 < b.length then some ([], 2) else some (frameOf b, 0) := by
  unfold H6
  by_cases h1 : 8192 < b.length
  · rw [if_pos (by simp; omega), if_pos h1]
  · rw [if_neg (by simp; omega), if_neg h1, Lw b h]
    have hw : w64 ((b.length : Int) + 6) = (b.length : Int) + 6 := Ff (by omega)
    rw [if_pos (by rw [hw]; unfold Mk maxLen I6; omega)]
    simp only [lt1, Option.bind_some]
    rw [if_pos (by decide)]
    obtain ⟨x, hx, hq⟩ : ∃ x, C6 (fun (v : Int × List UInt8) => D9 b (sealB (crc b)) [b, sealB (crc b)] v.1 v.2) (0, [126]) = some x ∧ x = 126 :: Es (b ++ sealB (crc b)) := by
      refine G2 2 (fun k v => v.1 = (k : Int) ∧ v.2 = 126 :: Es (([b, sealB (crc b)].take k).flatten)) _ (by omega) ?_ ?_ ⟨rfl, rfl⟩
      · rintro k ⟨i, c⟩ hk ⟨hi, hc⟩
        simp only at hi hc
        subst hi hc
        refine ⟨(((k + 1 : Nat) : Int), 126 :: Es (([b, sealB (crc b)].take (k + 1)).flatten)), ?_, rfl, rfl⟩
        simp only
        unfold D9
        simp only [lt1]
        have hs : (sealB (crc b)).length = 4 := rfl
        have hk2 : (decide ((k : Int) < (([b, sealB (crc b)] : List (List UInt8)).length : Int))) = true := by simp; omega
        rw [if_pos hk2, if_pos (Ada (by simpa using hk)), Ih (by omega)]
        rcases (show k = 0 ∨ k = 1 by omega) with rfl | rfl
        · rw [Q8 [b, sealB (crc b)] 0 _ (by show b.length ≤ 10000; omega) (by simp [Es])]
          simp [nth, Es]
        · have hl := wrapB_len b
          rw [Q8 [b, sealB (crc b)] 1 _ (by show (sealB (crc b)).length ≤ 10000; omega) (by simp; omega)]
          simp [nth, Vi]
      · rintro ⟨i, c⟩ ⟨hi, hc⟩
        simp only at hi hc
        subst hi hc
        refine ⟨126 :: Es (b ++ sealB (crc b)), ?_, rfl⟩
        simp only
        unfold D9
        simp [lt1]
    have hset : (List.replicate 1 (0 : UInt8)).set 0 126 = [126] := rfl
    rw [hset, hx, hq]
    simp only [Option.bind_some]
    have hl := wrapB_len (b ++ sealB (crc b))
    have hs : (sealB (crc b)).length = 4 := rfl
    rw [if_pos (Aff (by simp at hl ⊢; omega))]
    rfl
def Gc (d : Api_Deframer) : List UInt8 × Bool :=
  if d.Escape = true ∨ d.Bad = true ∨ d.Rest.length < 4 ∨ 8196 < d.Rest.length then ([], false)
  else (d.Rest.take (d.Rest.length - 4), sealB (crc (d.Rest.take (d.Rest.length - 4))) == d.Rest.drop (d.Rest.length - 4))
theorem Np (d : Api_Deframer) (h : d.Rest.length ≤ 100000000) : Dx d = some (Gc d) := by
  unfold Dx Gc
  simp only [lt1]
  have hw : w64 ((d.Rest.length : Int) - 4) = (d.Rest.length : Int) - 4 := Ff (by omega)
  rw [hw]
  cases he : d.Escape
  · cases hb : d.Bad
    · by_cases h4 : d.Rest.length < 4
      · have h1 : decide ((d.Rest.length : Int) - 4 < 0) = true := by simp; omega
        simp [h1, h4]
      · have h1 : decide ((d.Rest.length : Int) - 4 < 0) = false := by simp; omega
        by_cases h8 : 8196 < d.Rest.length
        · have h2 : decide ((d.Rest.length : Int) - 4 > 8192) = true := by simp; omega
          simp [h1, h2, h4, h8]
        · have h2 : decide ((d.Rest.length : Int) - 4 > 8192) = false := by simp; omega
          have hn : ((d.Rest.length : Int) - 4).toNat = d.Rest.length - 4 := by omega
          have hB : InB ((d.Rest.length : Int) - 4) d.Rest.length := by unfold InB; omega
          have hB2 : InB ((d.Rest.length : Int) - 4) (d.Rest.length - 4) := by unfold InB; omega
          have htk : (d.Rest.drop (d.Rest.length - 4)).take (d.Rest.length - (d.Rest.length - 4)) = d.Rest.drop (d.Rest.length - 4) := List.take_of_length_le (by simp)
          rw [if_neg (show ¬ (false = true ∨ false = true ∨ d.Rest.length < 4 ∨ 8196 < d.Rest.length) by simp; omega)]
          simp only [h1, h2, hn, Option.bind_some, Bool.false_eq_true, if_false, if_pos hB, if_pos hB2, htk]
          rw [Lw _ (by simp [maxLen]; omega)]
          rfl
    · simp
  · simp
def Dd (s : Api_Deframer × List (List UInt8) × Nat) (c : UInt8) : Api_Deframer × List (List UInt8) × Nat :=
  if c = 126 then
    (⟨[], true, false, false⟩, if s.1.In = true ∧ (s.1.Rest ≠ [] ∨ s.1.Escape = true ∨ s.1.Bad = true) then (if (Gc s.1).2 = true then (s.2.1 ++ [(Gc s.1).1], s.2.2) else (s.2.1, s.2.2 + 1)) else s.2)
  else if s.1.In = false ∨ s.1.Bad = true then s
  else if c = 125 ∧ s.1.Escape = false then (⟨s.1.Rest, s.1.In, true, s.1.Bad⟩, s.2)
  else if 8196 ≤ s.1.Rest.length then (⟨[], s.1.In, false, true⟩, s.2)
  else (⟨s.1.Rest ++ [if s.1.Escape = true then c ^^^ 32 else c], s.1.In, false, s.1.Bad⟩, s.2)
def feedS (s : Api_Deframer × List (List UInt8) × Nat) (b : List UInt8) : Api_Deframer × List (List UInt8) × Nat := b.foldl Dd s
theorem AaF (s : Api_Deframer × List (List UInt8) × Nat) (c : UInt8) : (Dd s c).1.Rest.length ≤ s.1.Rest.length + 1 := by
  unfold Dd
  repeat' split
  all_goals simp
theorem Aif (s : Api_Deframer × List (List UInt8) × Nat) (c : UInt8) : (Dd s c).2.1.length ≤ s.2.1.length + 1 := by
  unfold Dd
  repeat' split
  all_goals simp
theorem AdC (s : Api_Deframer × List (List UInt8) × Nat) (c : UInt8) : (Dd s c).2.2 ≤ s.2.2 + 1 := by
  unfold Dd
  repeat' split
  all_goals simp
theorem Qx (s : Api_Deframer × List (List UInt8) × Nat) (b : List UInt8) (c : UInt8) : feedS s (b ++ [c]) = Dd (feedS s b) c := by simp [feedS]
theorem feedS_bounds (s : Api_Deframer × List (List UInt8) × Nat) (b : List UInt8) : (feedS s b).1.Rest.length ≤ s.1.Rest.length + b.length ∧ (feedS s b).2.1.length ≤ s.2.1.length + b.length ∧ (feedS s b).2.2 ≤ s.2.2 + b.length := by
  induction b generalizing s with
  | nil => simp [feedS]
  | cons c b ih =>
    have h := ih (Dd s c)
    have h1 := AaF s c
    have h2 := Aif s c
    have h3 := AdC s c
    show (feedS (Dd s c) b).1.Rest.length ≤ _ ∧ (feedS (Dd s c) b).2.1.length ≤ _ ∧ (feedS (Dd s c) b).2.2 ≤ _
    simp only [List.length_cons]
    omega
theorem AcE {n : Nat} (h : n ≤ 100000000) : Ei n 24 := by unfold Ei maxLen I6; omega
theorem Abp (b : List UInt8) (s : Api_Deframer × List (List UInt8) × Nat) (k : Nat) (hk : k < b.length) (hb : b.length ≤ 40000000) (h1 : s.1.Rest.length ≤ 90000000) (h2 : s.2.1.length ≤ 90000000) (h3 : s.2.2 ≤ 90000000) :
    Bv b (s.2.2 : Int) (k : Int) s.1.In s.1.Escape s.1.Bad s.2.1 s.1.Rest = some (.inl (((Dd s (nth b k)).2.2 : Int), ((k + 1 : Nat) : Int), (Dd s (nth b k)).1.In, (Dd s (nth b k)).1.Escape, (Dd s (nth b k)).1.Bad, (Dd s (nth b k)).2.1, (Dd s (nth b k)).1.Rest)) := by
  obtain ⟨⟨rest, fin, fesc, fbad⟩, l, n⟩ := s
  simp only at h1 h2 h3
  unfold Bv
  simp only [Int.toNat_natCast, lt1]
  have hkk : w64 ((k : Int) + 1) = ((k + 1 : Nat) : Int) := Ih (by omega)
  rw [if_pos (by simp; omega), if_pos (Ada hk)]
  simp only [hkk]
  generalize nth b k = c
  have hf : Ei (rest.length + 1) 1 := Aff (by omega)
  have hf2 : Ei (l.length + 1) 24 := AcE (by omega)
  have hn : w64 ((n : Int) + 1) = ((n + 1 : Nat) : Int) := Ih (by omega)
  have hc := Np ⟨rest, fin, fesc, fbad⟩ (by simp only; omega)
  unfold Dd
  simp only
  by_cases c1 : c = 126
  · subst c1
    simp only [beq_self_eq_true, if_true]
    cases fin
    · simp
    · by_cases hr : rest = []
      · subst hr
        cases fesc
        · cases fbad
          · simp
          · simp [hc, hf2, hn]
            cases hcc : (Gc ⟨[], true, false, true⟩).2 <;> simp [hcc, hf2, hn]
        · simp [hc, hf2, hn]
          cases hcc : (Gc ⟨[], true, true, fbad⟩).2 <;> simp [hcc, hf2, hn]
      · have hpos : 0 < rest.length := List.length_pos_iff.2 hr
        have hd : decide ((rest.length : Int) > 0) = true := by simp; omega
        simp only [hd, if_true, Option.bind_some, hc]
        cases hcc : (Gc ⟨rest, true, fesc, fbad⟩).2 <;> simp [hcc, hf2, hn, hr]
  · have e1 : (c == 126) = false := by simp [c1]
    simp only [e1, Bool.false_eq_true, if_false, c1]
    cases fin
    · simp
    · cases fbad
      · by_cases c2 : c = 125
        · subst c2
          cases fesc
          · simp
          · by_cases h8 : 8196 ≤ rest.length
            · have h8i : (8196 : Int) ≤ (rest.length : Int) := by omega
              simp [h8, h8i]
            · have h8i : ¬ (8196 : Int) ≤ (rest.length : Int) := by omega
              simp [h8, h8i, hf]
        · have e2 : (c == 125) = false := by simp [c2]
          cases fesc
          · by_cases h8 : 8196 ≤ rest.length
            · have h8i : (8196 : Int) ≤ (rest.length : Int) := by omega
              simp [e2, c2, h8, h8i]
            · have h8i : ¬ (8196 : Int) ≤ (rest.length : Int) := by omega
              simp [e2, c2, h8, h8i, hf]
          · by_cases h8 : 8196 ≤ rest.length
            · have h8i : (8196 : Int) ≤ (rest.length : Int) := by omega
              simp [e2, c2, h8, h8i]
            · have h8i : ¬ (8196 : Int) ≤ (rest.length : Int) := by omega
              simp [e2, c2, h8, h8i, hf]
      · simp
theorem frame_feed (d : Api_Deframer) (b : List UInt8) (hd : d.Rest.length ≤ 40000000) (hb : b.length ≤ 40000000) :
    B9 d b = some ((feedS (d, [], 0) b).1, (feedS (d, [], 0) b).2.1, ((feedS (d, [], 0) b).2.2 : Int)) := by
  unfold B9
  rw [if_pos (by unfold Mk maxLen I6; omega)]
  simp only [lt1]
  have hov : ovl (List.replicate ((d.Rest.length : Int)).toNat (0 : UInt8)) (d.Rest.take (min d.Rest.length (List.replicate ((d.Rest.length : Int)).toNat (0 : UInt8)).length)) 0 = d.Rest := by
    simp [ovl]
  rw [hov]
  obtain ⟨x, hx, hq⟩ : ∃ x, C6 (fun (v : Int × Int × Bool × Bool × Bool × List (List UInt8) × List UInt8) => Bv b v.1 v.2.1 v.2.2.1 v.2.2.2.1 v.2.2.2.2.1 v.2.2.2.2.2.1 v.2.2.2.2.2.2) (0, 0, d.In, d.Escape, d.Bad, [], d.Rest) = some x ∧
      x = (((feedS (d, [], 0) b).2.2 : Int), (feedS (d, [], 0) b).1.In, (feedS (d, [], 0) b).1.Escape, (feedS (d, [], 0) b).1.Bad, (feedS (d, [], 0) b).2.1, (feedS (d, [], 0) b).1.Rest) := by
    refine G2 b.length (fun k v => ∃ s, s = feedS (d, [], 0) (b.take k) ∧ v = ((s.2.2 : Int), (k : Int), s.1.In, s.1.Escape, s.1.Bad, s.2.1, s.1.Rest)) _ (by omega) ?_ ?_ ⟨_, rfl, rfl⟩
    · rintro k v hk ⟨s, hs, rfl⟩
      have hbd := feedS_bounds (d, [], 0) (b.take k)
      rw [← hs] at hbd
      simp only [List.length_take, List.length_nil] at hbd
      refine ⟨_, Abp b s k hk hb (by omega) (by omega) (by omega), Dd s (nth b k), ?_, rfl⟩
      rw [List.take_succ_eq_append_getElem hk, Qx, ← hs]
      congr 1
      simp [nth, hk]
    · rintro v ⟨s, hs, rfl⟩
      rw [List.take_length] at hs
      subst hs
      refine ⟨_, ?_, rfl⟩
      simp only
      unfold Bv
      rw [if_neg (by simp)]
  rw [hx, hq]
  rfl
def R0 : Api_Deframer := ⟨[], true, false, false⟩
theorem feed_app (s : Api_Deframer × List (List UInt8) × Nat) (a b : List UInt8) : feedS s (a ++ b) = feedS (feedS s a) b := by simp [feedS]
theorem Afs (r : List UInt8) (x : UInt8) (l : List (List UInt8) × Nat) (h : r.length < 8196) : feedS (⟨r, true, false, false⟩, l) (esc x) = (⟨r ++ [x], true, false, false⟩, l) := by
  have h8 : ¬ 8196 ≤ r.length := by omega
  by_cases h1 : x = 126
  · subst h1
    show feedS _ [125, 94] = _
    simp [feedS, Dd, h8]
    decide
  · by_cases h2 : x = 125
    · subst h2
      show feedS _ [125, 93] = _
      simp [feedS, Dd, h8]
      decide
    · have : esc x = [x] := by unfold esc; rw [if_neg (by simp [h1, h2])]
      rw [this]
      simp [feedS, Dd, h1, h2, h8]
theorem Ac6 (m : List UInt8) : ∀ (r : List UInt8) (l : List (List UInt8) × Nat), r.length + m.length ≤ 8196 → feedS (⟨r, true, false, false⟩, l) (Es m) = (⟨r ++ m, true, false, false⟩, l) := by
  induction m with
  | nil => intro r l h; simp [Es, feedS]
  | cons x m ih =>
    intro r l h
    simp only [List.length_cons] at h
    have : Es (x :: m) = esc x ++ Es m := rfl
    rw [this, feed_app, Afs r x l (by omega), ih (r ++ [x]) l (by simp; omega)]
    simp
theorem Aap (b : List UInt8) (h : b.length ≤ 8192) : Gc ⟨b ++ sealB (crc b), true, false, false⟩ = (b, true) := by
  have hs : (sealB (crc b)).length = 4 := rfl
  unfold Gc
  simp only [List.length_append, hs]
  rw [if_neg (by simp; omega)]
  have e : b.length + 4 - 4 = b.length := by omega
  rw [e, List.take_left, List.drop_left]
  simp
theorem Ag5 (b : List UInt8) (h : b.length ≤ 8192) (l : List (List UInt8)) (n : Nat) : Dd (⟨b ++ sealB (crc b), true, false, false⟩, l, n) 126 = (R0, l ++ [b], n) := by
  have hne : b ++ sealB (crc b) ≠ [] := by simp [sealB]
  unfold Dd
  simp only [if_true, Aap b h]
  rw [if_pos ⟨trivial, .inl hne⟩]
  rfl
theorem Ab0 (b : List UInt8) (h : b.length ≤ 8192) (l : List (List UInt8)) (n : Nat) : feedS (R0, l, n) ((frameOf b).drop 1) = (R0, l ++ [b], n) := by
  have hd : (frameOf b).drop 1 = Es (b ++ sealB (crc b)) ++ [126] := rfl
  have hs : (sealB (crc b)).length = 4 := rfl
  rw [hd, Qx]
  show Dd (feedS (⟨[], true, false, false⟩, l, n) _) 126 = _
  rw [Ac6 _ [] (l, n) (by simp [hs]; omega)]
  exact Ag5 b h l n
def AiA (d : Api_Deframer) : Prop := d.Rest = [] ∧ d.Escape = false ∧ d.Bad = false
theorem AbG (d : Api_Deframer) (hd : AiA d) (l : List (List UInt8)) (n : Nat) : Dd (d, l, n) 126 = (R0, l, n) := by
  obtain ⟨h1, h2, h3⟩ := hd
  unfold Dd
  simp [h1, h2, h3, R0]
theorem feed_frame (d : Api_Deframer) (hd : AiA d) (b : List UInt8) (h : b.length ≤ 8192) (l : List (List UInt8)) (n : Nat) : feedS (d, l, n) (frameOf b) = (R0, l ++ [b], n) := by
  have : frameOf b = [126] ++ (frameOf b).drop 1 := rfl
  rw [this, feed_app]
  show feedS (Dd (d, l, n) 126) _ = _
  rw [AbG d hd, Ab0 b h]
set_option linter.unusedSimpArgs false
theorem Ae3 (d : Api_Deframer) (l : List (List UInt8)) (n : Nat) (c : UInt8) :
    Dd (d, l, n) c = ((Dd (d, [], 0) c).1, l ++ (Dd (d, [], 0) c).2.1, n + (Dd (d, [], 0) c).2.2) := by
  unfold Dd
  repeat' split
  all_goals simp_all
theorem feed_pre (b : List UInt8) : ∀ (d : Api_Deframer) (l : List (List UInt8)) (n : Nat),
    feedS (d, l, n) b = ((feedS (d, [], 0) b).1, l ++ (feedS (d, [], 0) b).2.1, n + (feedS (d, [], 0) b).2.2) := by
  induction b with
  | nil => intro d l n; simp [feedS]
  | cons c b ih =>
    intro d l n
    show feedS (Dd (d, l, n) c) b = ((feedS (Dd (d, [], 0) c) b).1, l ++ (feedS (Dd (d, [], 0) c) b).2.1, n + (feedS (Dd (d, [], 0) c) b).2.2)
    rw [Ae3 d l n c, ih]
    generalize hs : Dd (d, [], 0) c = s
    obtain ⟨d1, l1, n1⟩ := s
    simp only
    rw [ih d1 l1 n1]
    simp only [List.append_assoc, Nat.add_assoc]
end Go.Proofs.YtnfoiocigicdnaaGreatDoor.Kf
namespace Go.Proofs.YtnfoiocigicdnaaGreatDoor
open Go.Rv
set_option linter.unusedVariables false
set_option linter.unusedSimpArgs false
theorem AbP (d : Api_Deframer) (b : List UInt8) : Cx d b = B9 d b := by
  unfold Cx B9
  rfl
theorem Ahy (cut : Int) (n : Nat) : ∃ c : Nat, AcQ 0 (Wa cut (n : Int)) = (c : Int) ∧ c ≤ n := by
  refine ⟨(AcQ 0 (Wa cut (n : Int))).toNat, ?_, ?_⟩ <;> (unfold AcQ Wa; omega)
theorem Afi {it : Api_Item} (hi : OkItem it) (ht : it.Text.length ≤ 2000) (hp : it.Parts.length ≤ 20) (h1 : 1 ≤ it.Kind) (h2 : it.Kind ≤ 15) : (msg it).length ≤ 8192 := by
  have q1 := Yj ⟨it.Kind.toNat, by omega⟩
  have q2 := Wp hi.ref
  have q3 := Sz hi
  have q4 := Sv (t := it.Text)
  have q5 := Lq hi.part
  simp only at q1
  unfold msg Wf
  simp only [List.length_append, List.length_singleton]
  omega
theorem Akc {m : List UInt8} (hm : m.length ≤ 8192) (c : Nat) : ∃ d1 l1 d2 l2, Cx ⟨[], false, false, false⟩ ((Kf.frameOf m).take c) = some (d1, l1, 0) ∧ B9 d1 ((Kf.frameOf m).drop c) = some (d2, l2, 0) ∧ l1 ++ l2 = [m] := by
  have hl : (Kf.frameOf m).length ≤ 20000 := by
    have := Kf.wrapB_len (m ++ Kf.sealB (Kf.crc m))
    have hs : (Kf.sealB (Kf.crc m)).length = 4 := rfl
    unfold Kf.frameOf
    simp only [List.length_append, List.length_cons, List.length_nil, hs] at this ⊢
    omega
  have hall := Kf.feed_frame ⟨[], false, false, false⟩ ⟨rfl, rfl, rfl⟩ m hm [] 0
  rw [← List.take_append_drop c (Kf.frameOf m), Kf.feed_app] at hall
  have hb := Kf.feedS_bounds (⟨[], false, false, false⟩, [], 0) ((Kf.frameOf m).take c)
  have f1 := Kf.frame_feed ⟨[], false, false, false⟩ ((Kf.frameOf m).take c) (by simp) (by simp; omega)
  generalize Kf.feedS (⟨[], false, false, false⟩, [], 0) ((Kf.frameOf m).take c) = s1 at hall hb f1
  obtain ⟨d1, l1, n1⟩ := s1
  simp only [List.length_nil, Nat.zero_add, List.length_take] at hb
  have f2 := Kf.frame_feed d1 ((Kf.frameOf m).drop c) (by omega) (by simp; omega)
  rw [Kf.feed_pre] at hall
  generalize Kf.feedS (d1, [], 0) ((Kf.frameOf m).drop c) = s2 at hall f2
  obtain ⟨d2, l2, n2⟩ := s2
  simp only [Prod.mk.injEq, List.nil_append] at hall
  obtain ⟨_, e1, e2⟩ := hall
  have z1 : n1 = 0 := by omega
  have z2 : n2 = 0 := by omega
  subst z1 z2
  exact ⟨d1, l1, d2, l2, by rw [AbP]; exact f1, f2, e1⟩
theorem Abo {it : Api_Item} (h : Ints it) (cut : Int) : Dv it cut = some true := by
  unfold Dv
  rw [Ail, Option.bind_some, if_neg (by simp), AdZ, Option.bind_some]
  by_cases hs : it.Text.length ≤ 2000 ∧ it.Parts.length ≤ 20
  · have hok := h.ok hs.1 hs.2
    rw [if_neg (by simp [hs])]
    by_cases h1 : it.Kind < 1
    · rw [if_pos (decide_eq_true h1), Option.bind_some]; rfl
    · rw [if_neg (by simpa using h1), Option.bind_some]
      by_cases h2 : it.Kind > 15
      · rw [decide_eq_true h2]; rfl
      · have hl := Agi hok hs.1 hs.2 (by omega) (by omega)
        have hl8 := Afi hok hs.1 hs.2 (by omega) (by omega)
        have hp := AdM hok h (by omega) (by omega) hl
        have e : (if 1 ≤ it.Kind ∧ it.Kind ≤ 15 then (if (msg it).length > 65536 then (([] : List UInt8), (2 : Int)) else (msg it, 0)) else ([], 110)) = (msg it, 0) := by rw [if_pos (by omega), if_neg (by omega)]
        obtain ⟨c, hc, hcl⟩ := Ahy cut (Kf.frameOf (msg it)).length
        obtain ⟨d1, l1, d2, l2, f1, f2, fm⟩ := Akc hl8 c
        rw [decide_eq_false h2, if_neg (by simp), Vf hok, Option.bind_some, e]
        simp only
        rw [Kf.frame_make (msg it) (by unfold maxLen; omega), if_neg (by omega), Option.bind_some]
        simp only [bne_self_eq_false, Bool.false_eq_true, if_false, Option.bind_some, lt1, hc, Int.toNat_natCast]
        rw [if_pos (by unfold InB; omega), f1, Option.bind_some]
        simp only
        rw [if_pos (by unfold InB; omega), List.take_of_length_le (by simp), show (⟨d1.Rest, d1.In, d1.Escape, d1.Bad⟩ : Api_Deframer) = d1 from rfl, f2, Option.bind_some]
        have hlen : l1.length + l2.length = 1 := by rw [← List.length_append, fm]; rfl
        have hw : w64 ((l1.length : Int) + (l2.length : Int)) = 1 := by rw [Ff (by omega)]; omega
        simp only [hw, bne_self_eq_false, Bool.false_eq_true, if_false, Option.bind_some, fm]
        rw [if_pos (by unfold Ei maxLen I6; omega), if_pos (by unfold InR; simp)]
        show (E3 (msg it)).bind _ = _
        rw [hp, Option.bind_some]
        simp only [beq_self_eq_true, if_true]
        rw [AcU hok]
        rfl
  · rw [if_pos (by simp; omega)]
    rfl
theorem Xl {it : Api_Item} (h : Ints it) {cut : Int} (_ : I64 cut) : Dv it cut = some true := Abo h cut
end Go.Proofs.YtnfoiocigicdnaaGreatDoor
