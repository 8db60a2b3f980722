/-
  Part 45.
-/
import Derived.Test.YtnfoiocigicdnaaGreatDoorYF39
import Derived.Test.YtnfoiocigicdnaaGreatDoorYF40
import Derived.Test.YtnfoiocigicdnaaGreatDoorYF44
namespace Go.Proofs.YtnfoiocigicdnaaGreatDoor
open Go.Rv
set_option linter.unusedVariables false
set_option maxRecDepth 100000
theorem Amq : G2 119 = 0 := by decide +kernel
theorem An5 : G2 112 = 1 := by decide +kernel
theorem An6 : G2 111 = 2 := by decide +kernel
theorem AlS : G2 110 = 3 := by decide +kernel
theorem AmG : G2 102 = 4 := by decide +kernel
theorem AmM : G2 116 = 5 := by decide +kernel
theorem Ana : G2 99 = 6 := by decide +kernel
theorem AnY : G2 100 = 7 := by decide +kernel
theorem Am4 : G2 107 = 8 := by decide +kernel
theorem AnB : G2 103 = 9 := by decide +kernel
theorem Am7 : G2 97 = 10 := by decide +kernel
theorem Ey {j : Api_Item} {c : UInt8} {k n : Int} (hk : G2 c = k) (hk1 : k ≠ -1) (h : I64 n) (hz : n = 0 → AcL j k n = j) : Cj j (Vz c n) = some (some (AcL j k n)) := by
  unfold Vz
  by_cases h0 : n = 0
  · rw [if_pos h0, hz h0]; rfl
  · have hl := Dm h.1 h.2
    rw [if_neg h0, Cj, Zg (by omega) (by rw [hk]; exact hk1), Amp h, hk]
    rfl
theorem AfH {j : Api_Item} {r : Api_Ref} (h : I64 r.Railway ∧ I64 r.No) (hj : j.Ref = ⟨0, 0⟩) : Cj j (Aiq r) = some (some { j with Ref := r }) := by
  unfold Aiq
  by_cases h0 : r.Railway = 0 ∧ r.No = 0
  · rw [if_pos h0]
    have : r = j.Ref := by rw [hj]; cases r; simp only at h0; rw [h0.1, h0.2]
    rw [this]; rfl
  · have q1 := Dm h.1.1 h.1.2
    have q2 := Dm h.2.1 h.2.2
    rw [if_neg h0, Cj, Yw (by simp; omega), Anl h.1 h.2]
    rfl
theorem Ada {j : Api_Item} {t : List UInt8} (ht : t.length ≤ 70000) (hj : j.Text = []) : Cj j (Abk t) = some (some { j with Text := t }) := by
  unfold Abk
  by_cases h0 : t = []
  · rw [if_pos h0, h0, ← hj]; rfl
  · rw [if_neg h0, Cj, Vh, AfI (by omega)]
    rfl
theorem AgD (x : Api_Part) : (⟨x.Kind, x.Serial, (if x.Fitted = true then (1 : Int) else 0) == 1⟩ : Api_Part) = x := by
  rcases x with ⟨a, b, c⟩
  cases c <;> rfl
theorem Qv : ∀ {ps : List Api_Part} {j : Api_Item}, (∀ x ∈ ps, I64 x.Kind ∧ I64 x.Serial) → j.Parts.length + ps.length ≤ 500000 → Cj j (ps.map Uf) = some (some { j with Parts := j.Parts ++ ps })
  | [], j, _, _ => by simp [Cj]
  | x :: ps, j, h, hl => by
    have hx := h x (by simp)
    have q1 := Dm hx.1.1 hx.1.2
    have q2 := Dm hx.2.1 hx.2.2
    simp only [List.length_cons] at hl
    have hf : (Ais x.Fitted).length = 1 := by cases x.Fitted <;> rfl
    have e : Cc j (Uf x) = some (true, { j with Parts := j.Parts ++ [x] }) := by
      unfold Uf
      rw [U2 (by simp only [List.length_append, List.length_cons]; omega) (by omega), Ani hx.1 hx.2]
      simp only
      rw [AgD]
    rw [List.map_cons, Cj, e, Option.bind_some, if_pos rfl, Qv (fun y hy => h y (by simp [hy])) (by simp; omega)]
    simp
def kit (k : Int) : Api_Item := { ent with Kind := k }
theorem ent_ints : Ints ent := by
  have z : I64 0 := ⟨by omega, by omega⟩
  exact ⟨z, ⟨z, z⟩, ⟨z, z, z, z, z, z, z, z, z, z, z⟩, fun x hx => by cases hx⟩
theorem Aj3 {k : Int} (h : I64 k) : Rg (kit k) 0 := ⟨⟨h, ent_ints.ref, ent_ints.nums, ent_ints.part⟩, Nat.zero_le _, Nat.le_refl _⟩
theorem Aep {it : Api_Item} (h : Ints it) (ht : it.Text.length ≤ 70000) (hp : it.Parts.length ≤ 500000) : Cj (kit it.Kind) (els it) = some (some it) := by
  obtain ⟨h1, h2, h3, h4, h5, h6, h7, h8, h9, h10, h11⟩ := h.nums
  obtain ⟨k, r, w, p, o, nn, f, t, c, d, kl, g, a, tx, ps⟩ := it
  unfold els Aej
  simp only [List.append_assoc]
  refine (B3 (AfH (j := kit k) h.ref rfl)).trans ?_
  refine (B3 (Ey (j := ⟨k, r, 0, 0, 0, 0, 0, 0, 0, 0, 0, 0, 0, [], []⟩) Amq (by decide) h1 (fun e => by simp only at e; subst e; rfl))).trans ?_
  refine (B3 (Ey (j := ⟨k, r, w, 0, 0, 0, 0, 0, 0, 0, 0, 0, 0, [], []⟩) An5 (by decide) h2 (fun e => by simp only at e; subst e; rfl))).trans ?_
  refine (B3 (Ey (j := ⟨k, r, w, p, 0, 0, 0, 0, 0, 0, 0, 0, 0, [], []⟩) An6 (by decide) h3 (fun e => by simp only at e; subst e; rfl))).trans ?_
  refine (B3 (Ey (j := ⟨k, r, w, p, o, 0, 0, 0, 0, 0, 0, 0, 0, [], []⟩) AlS (by decide) h4 (fun e => by simp only at e; subst e; rfl))).trans ?_
  refine (B3 (Ey (j := ⟨k, r, w, p, o, nn, 0, 0, 0, 0, 0, 0, 0, [], []⟩) AmG (by decide) h5 (fun e => by simp only at e; subst e; rfl))).trans ?_
  refine (B3 (Ey (j := ⟨k, r, w, p, o, nn, f, 0, 0, 0, 0, 0, 0, [], []⟩) AmM (by decide) h6 (fun e => by simp only at e; subst e; rfl))).trans ?_
  refine (B3 (Ey (j := ⟨k, r, w, p, o, nn, f, t, 0, 0, 0, 0, 0, [], []⟩) Ana (by decide) h7 (fun e => by simp only at e; subst e; rfl))).trans ?_
  refine (B3 (Ey (j := ⟨k, r, w, p, o, nn, f, t, c, 0, 0, 0, 0, [], []⟩) AnY (by decide) h8 (fun e => by simp only at e; subst e; rfl))).trans ?_
  refine (B3 (Ey (j := ⟨k, r, w, p, o, nn, f, t, c, d, 0, 0, 0, [], []⟩) Am4 (by decide) h9 (fun e => by simp only at e; subst e; rfl))).trans ?_
  refine (B3 (Ey (j := ⟨k, r, w, p, o, nn, f, t, c, d, kl, 0, 0, [], []⟩) AnB (by decide) h10 (fun e => by simp only at e; subst e; rfl))).trans ?_
  refine (B3 (Ey (j := ⟨k, r, w, p, o, nn, f, t, c, d, kl, g, 0, [], []⟩) Am7 (by decide) h11 (fun e => by simp only at e; subst e; rfl))).trans ?_
  refine (B3 (Ada (j := ⟨k, r, w, p, o, nn, f, t, c, d, kl, g, a, [], []⟩) ht rfl)).trans ?_
  exact Qv (j := ⟨k, r, w, p, o, nn, f, t, c, d, kl, g, a, tx, []⟩) h.part (by simpa using hp)
theorem AaI (x : List UInt8) : ∃ i, B6 glob0.l x = some i ∧ -1 ≤ i ∧ i ≤ 15 := by
  have hl : glob0.l.length = 16 := glob0.h
  unfold B6
  obtain ⟨z, hz, hq⟩ := D6 (f := fun (v : Int) => Cy glob0.l x v) (fun v => 0 ≤ v ∧ v ≤ 16) (fun v => 16 - v.toNat) (fun z => match z with | .inl () => True | .inr (.inl ()) => True | .inr (.inr i) => 0 ≤ i ∧ i ≤ 15) (by
    rintro v ⟨h1, h2⟩
    unfold Cy
    rw [hl]
    by_cases hv : v < 16
    · rw [if_pos (decide_eq_true (by omega)), if_pos ⟨h1, by omega⟩]
      by_cases hx : (x == nth glob0.l v.toNat) = true
      · rw [if_pos hx]
        exact .inr ⟨_, rfl, by omega, by omega⟩
      · rw [if_neg hx, Fc (by omega)]
        exact .inl ⟨_, rfl, ⟨by omega, by omega⟩, by omega⟩
    · rw [if_neg (by simp; omega)]
      exact .inr ⟨_, rfl, trivial⟩) (v0 := 0) ⟨by omega, by omega⟩ (by simp)
  rw [hz]
  rcases z with ⟨⟩ | ⟨⟨⟩ | i⟩
  · exact ⟨-1, rfl, by omega, by omega⟩
  · exact ⟨-1, rfl, by omega, by omega⟩
  · exact ⟨i, rfl, by have := hq.1; omega, hq.2⟩
theorem R7 : ∀ k : Fin 16, B6 glob0.l (glob0.get k.val) = some (k.val : Int) := by decide +kernel
theorem Ac3 {k : Int} (h1 : 1 ≤ k) (h2 : k ≤ 15) : B6 glob0.l (glob0.get k.toNat) = some k := by
  have := R7 ⟨k.toNat, by omega⟩
  simp only at this
  rw [this, show ((k.toNat : Nat) : Int) = k by omega]
def cut (s : List UInt8) : List UInt8 := if (s.drop (s.length - 1)) = [39] then s.take (s.length - 1) else s
theorem Akl {s : List UInt8} (hs : s.length ≤ 100000) : Da s [39] = some (cut s, decide (s.drop (s.length - 1) = [39])) := by
  unfold Da C2 Cz cut
  by_cases h0 : s = []
  · subst h0; rfl
  · have hp : 0 < s.length := List.length_pos_iff.2 h0
    have hw : w64 ((s.length : Int) - (([39] : List UInt8).length : Int)) = ((s.length - 1 : Nat) : Int) := by
      simp only [List.length_cons, List.length_nil]
      rw [Fc (by omega)]; omega
    have hc : (decide ((s.length : Int) ≥ (([39] : List UInt8).length : Int))) = true := decide_eq_true (by simp only [List.length_cons, List.length_nil]; omega)
    rw [if_pos hc, hw, if_pos ⟨by omega, by simp⟩]
    simp only [Int.toNat_natCast, Option.bind_some]
    rw [List.take_of_length_le (by rw [List.length_drop]; exact Nat.le_refl _)]
    by_cases hq : s.drop (s.length - 1) = [39]
    · rw [if_neg (by simp [hq]), if_pos ⟨by omega, by simp⟩]
      simp only [lt1, Option.bind_some, hq, if_true, decide_true]
    · rw [if_pos (by simpa using hq)]
      simp only [Option.bind_some, hq, if_false, decide_false]
theorem Adt (it : Api_Item) : cut (msg it) = Wy it := by
  unfold cut msg
  rw [List.length_append, List.length_singleton, Nat.add_sub_cancel, List.drop_left, if_pos rfl, List.take_left']
  rfl
theorem AhJ (s : List UInt8) : (cut s).length ≤ s.length := by
  unfold cut
  split
  · rw [List.length_take]; omega
  · exact Nat.le_refl _
theorem Ah6 (it : Api_Item) : Cu ({ Kind := it.Kind, Ref := { Railway := it.Ref.Railway, No := it.Ref.No }, Wagon := it.Wagon, Place := it.Place, Other := it.Other, Number := it.Number, From := it.From, To := it.To, Code := it.Code, Dest := it.Dest, Class := it.Class, Weight := it.Weight, Amount := it.Amount, Text := it.Text, Parts := it.Parts } : Api_Item) = Cu it := rfl
theorem AdX {s : List UInt8} (hs : s.length ≤ 65536) : ∃ k R, B6 glob0.l ((splitAtL 43 (cut s)).headD []) = some k ∧ -1 ≤ k ∧ k ≤ 15 ∧ Cj (kit k) (splitAtL 43 (cut s)).tail = some R ∧
    (∀ it, R = some it → Rg it (splitAtL 43 (cut s)).tail.length ∧ it.Kind = k) ∧
    Es s = match R with
      | none => some (ent, 4)
      | some it => (Cu it).bind fun y => if (y.2 != 0 || !(y.1 == s)) = true then some (ent, 4) else some (it, 0) := by
  have hcl := AhJ s
  have hsl := J1 43 (cut s)
  have hcnt : (cut s).count 43 ≤ (cut s).length := List.count_le_length
  have hsm : ∀ p ∈ splitAtL 43 (cut s), p.length ≤ 70000 := fun p hp => by have := Q5 _ _ (Nat.le_refl _) p hp; omega
  unfold Es
  rw [if_neg (by simp; omega), Akl (by omega), Option.bind_some]
  simp only
  rw [Aeq (by omega), Option.bind_some]
  revert hsl hsm
  generalize splitAtL 43 (cut s) = L
  intro hsl hsm
  match L with
  | [] => simp at hsl
  | e0 :: L =>
    obtain ⟨k, hk1, hk2, hk3⟩ := AaI e0
    have hkI : I64 k := ⟨by omega, by omega⟩
    simp only [List.length_cons] at hsl
    obtain ⟨R, hR, hloop, hin⟩ := AaK (L := L) (e0 := e0) (it0 := kit k) (by omega) (fun e he => hsm e (by simp [he])) (Aj3 hkI) hkI
    refine ⟨k, R, hk1, hk2, hk3, hR, hin, ?_⟩
    have e1 : nth (e0 :: L) 0 = e0 := rfl
    rw [if_pos ⟨by omega, by simp⟩, e1, hk1, Option.bind_some, if_pos ⟨by omega, by simp⟩]
    have hloop' := hloop
    unfold un kit ent at hloop'
    rw [hloop']
    match R with
    | none => rfl
    | some it =>
      simp only [Option.bind_some]
      rw [Ah6]
      cases Cu it with
      | none => rfl
      | some y =>
        simp only [Option.bind_some]
        by_cases h1 : (y.2 != 0) = true
        · rw [if_pos h1, h1]; rfl
        · have h1' : (y.2 != 0) = false := by simpa using h1
          rw [if_neg h1, h1']
          simp only [Option.bind_some, Bool.false_or]
          rfl
theorem Acu {it : Api_Item} (hi : OkItem it) (h : Ints it) (h1 : 1 ≤ it.Kind) (h2 : it.Kind ≤ 15) (hl : (msg it).length ≤ 65536) : Es (msg it) = some (it, 0) := by
  obtain ⟨k, R, q1, _, _, q4, q5, q6⟩ := AdX hl
  rw [Adt, Qp, List.headD_cons] at q1
  rw [Ac3 h1 h2] at q1
  obtain rfl := Option.some.inj q1
  rw [Adt, Qp, List.tail_cons, Aep h hi.text (by have := hi.parts; omega)] at q4
  obtain rfl := Option.some.inj q4
  rw [q6]
  simp only
  rw [T3 hi, if_pos ⟨h1, h2⟩, if_neg (by omega), Option.bind_some, if_neg (by simp)]
theorem AcV (x y : Api_Part) : (!((x.Kind == y.Kind) && ((x.Serial == y.Serial) && (x.Fitted == y.Fitted)))) = decide (x ≠ y) := by
  by_cases h : x = y
  · subst h; simp
  · rw [decide_eq_true h]
    rcases x with ⟨a, b, c⟩
    rcases y with ⟨d, e, f⟩
    simp only [Api_Part.mk.injEq, not_and] at h
    simp only [Bool.not_eq_true', Bool.and_eq_false_iff, beq_eq_false_iff_ne, ne_eq]
    by_cases h1 : a = d
    · by_cases h2 : b = e
      · exact .inr (.inr (by simpa using h h1 h2))
      · exact .inr (.inl h2)
    · exact .inl h1
theorem Aax {a b : List Api_Part} (ha : a.length ≤ 1000000) : E7 a b = some (decide (a = b)) := by
  unfold E7
  by_cases hl : a.length = b.length
  · rw [if_neg (by simp [hl])]
    obtain ⟨z, hz, hq⟩ := D6 (f := fun (v : Int) => Dh a b v) (fun v => ∃ k : Nat, v = (k : Int) ∧ k ≤ a.length ∧ a.take k = b.take k) (fun v => a.length - v.toNat)
      (fun z => match z with | .inl () => a = b | .inr (.inl ()) => False | .inr (.inr t) => t = false ∧ a ≠ b) (by
      rintro v ⟨k, rfl, hk, ht⟩
      unfold Dh
      by_cases hlt : k < a.length
      · have hlb : k < b.length := by omega
        rw [if_pos (decide_eq_true (by omega)), if_pos ⟨by omega, by simpa using hlt⟩, if_pos ⟨by omega, by simpa using hlb⟩]
        simp only [lt1, Int.toNat_natCast]
        have ea : a.take (k + 1) = a.take k ++ [nth a k] := by rw [List.take_add_one, List.getElem?_eq_getElem hlt]; simp [nth, List.getElem?_eq_getElem hlt]
        have eb : b.take (k + 1) = b.take k ++ [nth b k] := by rw [List.take_add_one, List.getElem?_eq_getElem hlb]; simp [nth, List.getElem?_eq_getElem hlb]
        by_cases he : nth a k = nth b k
        · rw [if_neg (by rw [AcV]; simp [he]), Gt (by omega)]
          refine .inl ⟨_, rfl, ⟨k + 1, rfl, by omega, by rw [ea, eb, ht, he]⟩, ?_⟩
          simp only [Int.toNat_natCast]; omega
        · rw [if_pos (by rw [AcV]; simpa using he)]
          exact .inr ⟨_, rfl, rfl, fun h => he (by rw [h])⟩
      · rw [if_neg (by simpa using hlt)]
        refine .inr ⟨_, rfl, ?_⟩
        rw [List.take_of_length_le (by omega), List.take_of_length_le (by omega)] at ht
        exact ht) (v0 := 0) ⟨0, rfl, Nat.zero_le _, rfl⟩ (by simp; omega)
    rw [hz]
    rcases z with ⟨⟩ | ⟨⟨⟩ | t⟩
    · have : a = b := hq
      rw [decide_eq_true this]; rfl
    · exact hq.elim
    · obtain ⟨rfl, h2⟩ := hq
      rw [decide_eq_false h2]; rfl
  · rw [if_pos (by simp; omega), decide_eq_false (fun h => hl (by rw [h]))]
theorem AfC {a b : Api_Item} (h : Kq a = Kq b) (hk : a.Kind = b.Kind) (hr1 : a.Ref.Railway = b.Ref.Railway) (hr2 : a.Ref.No = b.Ref.No) (ht : a.Text = b.Text) (hp : a.Parts = b.Parts) : a = b := by
  rcases a with ⟨k, ⟨r, n⟩, a1, a2, a3, a4, a5, a6, a7, a8, a9, a10, a11, t, p⟩
  rcases b with ⟨k', ⟨r', n'⟩, b1, b2, b3, b4, b5, b6, b7, b8, b9, b10, b11, t', p'⟩
  simp only [Kq, List.cons.injEq, Prod.mk.injEq, true_and, and_true] at h
  obtain ⟨rfl, rfl, rfl, rfl, rfl, rfl, rfl, rfl, rfl, rfl, rfl⟩ := h
  simp only at hk hr1 hr2 ht hp
  subst hk hr1 hr2 ht hp
  rfl
theorem Aha {a b : Api_Item} (ha : OkItem a) (hb : OkItem b) : Ga a b = some (decide (a = b)) := by
  unfold Ga
  have l11 : ∀ it : Api_Item, (Kq it).length = 11 := fun _ => rfl
  obtain ⟨z, hz, hq⟩ := D6 (f := fun (v : Int) => G7 a b v) (fun v => ∃ k : Nat, v = (k : Int) ∧ k ≤ 11 ∧ (Kq a).take k = (Kq b).take k) (fun v => 11 - v.toNat)
    (fun z => match z with | .inl () => Kq a = Kq b | .inr (.inl ()) => False | .inr (.inr t) => t = false ∧ a ≠ b) (by
    rintro v ⟨k, rfl, hk, ht⟩
    unfold G7
    by_cases hlt : k < 11
    · obtain ⟨c, n, f1, f2, f3, f4⟩ := Zc ha hlt
      obtain ⟨c', n', g1, g2, g3, g4⟩ := Zc hb hlt
      have hc : c = c' := by
        rw [f4] at g4
        exact (List.cons.inj g4).1
      subst hc
      have f3' : Gv a (nth [119, 112, 111, 110, 102, 116, 99, 100, 107, 103, 97] k) = some n := f3
      have g3' : Gv b (nth [119, 112, 111, 110, 102, 116, 99, 100, 107, 103, 97] k) = some n' := g3
      have hin : InR (k : Int) ([119, 112, 111, 110, 102, 116, 99, 100, 107, 103, 97] : List UInt8).length := ⟨by omega, by simpa using hlt⟩
      rw [if_pos (decide_eq_true (by omega)), if_pos hin]
      simp only [Int.toNat_natCast]
      rw [f3', Option.bind_some, if_pos hin, g3', Option.bind_some]
      have ea : (Kq a).take (k + 1) = (Kq a).take k ++ [(c, n)] := by rw [List.take_add_one, f1]; rfl
      have eb : (Kq b).take (k + 1) = (Kq b).take k ++ [(c, n')] := by rw [List.take_add_one, g1]; rfl
      by_cases he : n = n'
      · rw [if_neg (by simp [he]), Gt (by omega)]
        refine .inl ⟨_, rfl, ⟨k + 1, rfl, by omega, by rw [ea, eb, ht, he]⟩, ?_⟩
        simp only [Int.toNat_natCast]; omega
      · rw [if_pos (by simpa using he)]
        refine .inr ⟨_, rfl, rfl, fun h => he ?_⟩
        rw [h, g1] at f1
        exact (Prod.mk.inj (Option.some.inj f1)).2.symm
    · rw [if_neg (by simp; omega)]
      refine .inr ⟨_, rfl, ?_⟩
      rw [List.take_of_length_le (by rw [l11]; omega), List.take_of_length_le (by rw [l11]; omega)] at ht
      exact ht) (v0 := 0) ⟨0, rfl, Nat.zero_le _, rfl⟩ (by simp)
  rw [hz]
  have hpl := ha.parts
  rcases z with ⟨⟩ | ⟨⟨⟩ | t⟩
  · have hn : Kq a = Kq b := hq
    simp only [Option.bind_some]
    by_cases h1 : a.Kind = b.Kind
    · by_cases h2 : a.Ref.Railway = b.Ref.Railway
      · by_cases h3 : a.Ref.No = b.Ref.No
        · by_cases h4 : a.Text = b.Text
          · rw [if_pos (by simpa using h1), if_pos (by simp [h2, h3]), if_pos (by simpa using h4), Aax (by omega)]
            by_cases h5 : a.Parts = b.Parts
            · rw [decide_eq_true h5, decide_eq_true (AfC hn h1 h2 h3 h4 h5)]; rfl
            · rw [decide_eq_false h5, decide_eq_false (fun h => h5 (by rw [h]))]; rfl
          · rw [if_pos (by simpa using h1), if_pos (by simp [h2, h3]), if_neg (by simpa using h4), decide_eq_false (fun h => h4 (by rw [h]))]; rfl
        · rw [if_pos (by simpa using h1), if_neg (by simp [h3]), decide_eq_false (fun h => h3 (by rw [h]))]; rfl
      · rw [if_pos (by simpa using h1), if_neg (by simp [h2]), decide_eq_false (fun h => h2 (by rw [h]))]; rfl
    · rw [if_neg (by simpa using h1), decide_eq_false (fun h => h1 (by rw [h]))]; rfl
  · exact hq.elim
  · obtain ⟨rfl, h2⟩ := hq
    rw [decide_eq_false h2]; rfl
theorem Ab9 {a : Api_Item} (ha : OkItem a) : Ga a a = some true := by rw [Aha ha ha, decide_eq_true rfl]
theorem AhP {it : Api_Item} (hi : OkItem it) (ht : it.Text.length ≤ 2000) (hp : it.Parts.length ≤ 20) (h1 : 1 ≤ it.Kind) (h2 : it.Kind ≤ 15) : (msg it).length ≤ 65536 := by
  have q1 := Xl ⟨it.Kind.toNat, by omega⟩
  have q2 := W4 hi.ref
  have q3 := R8 hi
  have q4 := Sz (t := it.Text)
  have q5 := Lb hi.part
  simp only at q1
  unfold msg Wy
  simp only [List.length_append, List.length_singleton]
  omega
end Go.Proofs.YtnfoiocigicdnaaGreatDoor
namespace Go.Proofs.YtnfoiocigicdnaaGreatDoor.Kf
open Go.Rv
set_option linter.unusedVariables false
def st (c : BitVec 32) : BitVec 32 := (c >>> 1) ^^^ (if c.getLsbD 0 = true then 0xedb88320#32 else 0#32)
theorem Aj8 (a b : BitVec 32) : st (a ^^^ b) = st a ^^^ st b := by
  unfold st
  rw [BitVec.getLsbD_xor, BitVec.ushiftRight_xor_distrib]
  have hp : ∀ p x : BitVec 32, p ^^^ (p ^^^ x) = x := fun p x => by rw [← BitVec.xor_assoc, BitVec.xor_self, BitVec.zero_xor]
  cases a.getLsbD 0 <;> cases b.getLsbD 0
  · simp
  · simp; ac_rfl
  · simp; ac_rfl
  · simp
    have : a >>> 1 ^^^ 3988292384#32 ^^^ (b >>> 1 ^^^ 3988292384#32) = 3988292384#32 ^^^ (3988292384#32 ^^^ (a >>> 1 ^^^ b >>> 1)) := by ac_rfl
    rw [this, hp]
theorem Rd (c : BitVec 32) (h : c.getLsbD 0 = false) : st c = c >>> 1 := by
  unfold st; rw [h]; simp
theorem Ady (c : BitVec 32) : st (st (st (st c))) = (c >>> 4) ^^^ st (st (st (st (c &&& 15#32)))) := by
  have h : c = (c &&& 15#32) ^^^ ((c >>> 4) <<< 4) := by
    apply BitVec.eq_of_getLsbD_eq
    intro i hi
    have h15 : (15#32).getLsbD i = decide (i < 4) := by
      have : ∀ j : Fin 32, (15#32).getLsbD j = decide (j.val < 4) := by decide
      exact this ⟨i, hi⟩
    rw [BitVec.getLsbD_xor, BitVec.getLsbD_and, h15, BitVec.getLsbD_shiftLeft, BitVec.getLsbD_ushiftRight]
    by_cases h4 : i < 4
    · simp [h4]
    · have e : 4 + (i - 4) = i := by omega
      simp [h4, hi, e]
  have hz : ∀ k, k < 4 → ((c >>> 4) <<< 4).getLsbD k = false := by
    intro k hk
    rw [BitVec.getLsbD_shiftLeft]
    simp [hk]
  have hb : st (st (st (st ((c >>> 4) <<< 4)))) = c >>> 4 := by
    have h0 := hz 0 (by omega)
    have h1 := hz 1 (by omega)
    have h2 := hz 2 (by omega)
    have h3 := hz 3 (by omega)
    generalize hy : (c >>> 4) <<< 4 = y at h0 h1 h2 h3
    have e1 : st y = y >>> 1 := Rd _ h0
    have e2 : st (y >>> 1) = y >>> 1 >>> 1 := Rd _ (by simpa [BitVec.getLsbD_ushiftRight] using h1)
    have e3 : st (y >>> 1 >>> 1) = y >>> 1 >>> 1 >>> 1 := Rd _ (by simpa [BitVec.getLsbD_ushiftRight] using h2)
    have e4 : st (y >>> 1 >>> 1 >>> 1) = y >>> 1 >>> 1 >>> 1 >>> 1 := Rd _ (by simpa [BitVec.getLsbD_ushiftRight] using h3)
    rw [e1, e2, e3, e4, ← hy]
    apply BitVec.eq_of_getLsbD_eq
    intro i hi
    simp only [BitVec.getLsbD_ushiftRight, BitVec.getLsbD_shiftLeft]
    by_cases h5 : i + 4 < 32
    · have e1 : 1 + (1 + (1 + (1 + i))) = i + 4 := by omega
      have e2 : i + 4 - 4 = i := by omega
      simp [e1, h5, e2]
    · have e1 : 1 + (1 + (1 + (1 + i))) = i + 4 := by omega
      have : c.getLsbD (4 + i) = false := BitVec.getLsbD_of_ge _ _ (by omega)
      simp [e1, h5, this]
  calc st (st (st (st c))) = st (st (st (st ((c &&& 15#32) ^^^ ((c >>> 4) <<< 4))))) := by rw [← h]
    _ = st (st (st (st (c &&& 15#32)))) ^^^ st (st (st (st ((c >>> 4) <<< 4)))) := by simp only [Aj8]
    _ = _ := by rw [hb, BitVec.xor_comm]
def sU (c : UInt32) : UInt32 := ⟨st c.toBitVec⟩
def s4 (c : UInt32) : UInt32 := sU (sU (sU (sU c)))
def s8 (c : UInt32) : UInt32 := s4 (s4 c)
def AhH (c : UInt32) (l : List UInt8) : UInt32 := l.foldl (fun c x => s8 (c ^^^ x.toUInt32)) c
def crc (l : List UInt8) : UInt32 := ~~~ AhH 4294967295 l
theorem AeA (c : UInt32) : s4 c = Kt c 4 ^^^ s4 (c &&& 15) := by
  apply UInt32.toBitVec_inj.1
  exact Ady c.toBitVec
theorem Abi (c : UInt32) : Kt c 1 ^^^ ((3988292384 : UInt32) &&& (0 - (c &&& 1))) = sU c := by
  apply UInt32.toBitVec_inj.1
  show (c.toBitVec >>> 1) ^^^ (0xedb88320#32 &&& (0#32 - (c.toBitVec &&& 1#32))) = st c.toBitVec
  unfold st
  congr 1
  have h : c.toBitVec &&& 1#32 = if c.toBitVec.getLsbD 0 = true then 1#32 else 0#32 := by
    apply BitVec.eq_of_getLsbD_eq
    intro i hi
    have h1 : (1#32).getLsbD i = decide (i = 0) := by
      have : ∀ j : Fin 32, (1#32).getLsbD j = decide (j.val = 0) := by decide
      exact this ⟨i, hi⟩
    rw [BitVec.getLsbD_and, h1]
    by_cases h0 : i = 0
    · subst h0
      cases c.toBitVec.getLsbD 0 <;> rfl
    · cases c.toBitVec.getLsbD 0 <;> simp [h0, h1]
  rw [h]
  cases c.toBitVec.getLsbD 0 <;> decide
theorem Id {k : Nat} (h : k < 9223372036854775807) : w64 ((k : Int) + 1) = ((k + 1 : Nat) : Int) := by
  rw [Fc (by omega)]; rfl
theorem Afi (c : UInt32) : C4 (fun (v : UInt32 × Int) => Cg v.1 v.2) (c, 0) = some (s4 c) := by
  have h : ∀ k : Nat, k < 4 → ∀ c, Cg c (k : Int) = some (.inl (sU c, ((k + 1 : Nat) : Int))) := by
    intro k hk c
    unfold Cg
    rw [if_pos (by simp; omega), Id (by omega)]
    show some (Sum.inl (Kt c 1 ^^^ _, _)) = _
    rw [Abi]
  have he : ∀ c, Cg c 4 = some (.inr c) := fun c => by unfold Cg; rfl
  have h0 := h 0 (by omega); have h1 := h 1 (by omega); have h2 := h 2 (by omega); have h3 := h 3 (by omega)
  have key : ∃ x, C4 (fun (v : UInt32 × Int) => Cg v.1 v.2) (c, 0) = some x ∧ x = s4 c := by
    refine D6 (f := fun (v : UInt32 × Int) => Cg v.1 v.2) (fun v => (v.2 = 0 ∧ v.1 = c) ∨ (v.2 = 1 ∧ v.1 = sU c) ∨ (v.2 = 2 ∧ v.1 = sU (sU c)) ∨ (v.2 = 3 ∧ v.1 = sU (sU (sU c))) ∨ (v.2 = 4 ∧ v.1 = s4 c)) (fun v => (4 - v.2).toNat) (fun x => x = s4 c) ?_ (v0 := (c, 0)) (.inl ⟨rfl, rfl⟩) (by simp)
    rintro ⟨d, i⟩ hi
    simp only at hi
    rcases hi with ⟨rfl, rfl⟩ | ⟨rfl, rfl⟩ | ⟨rfl, rfl⟩ | ⟨rfl, rfl⟩ | ⟨rfl, rfl⟩
    · exact .inl ⟨_, h0 _, .inr (.inl ⟨rfl, rfl⟩), by simp⟩
    · exact .inl ⟨_, h1 _, .inr (.inr (.inl ⟨rfl, rfl⟩)), by simp⟩
    · exact .inl ⟨_, h2 _, .inr (.inr (.inr (.inl ⟨rfl, rfl⟩))), by simp⟩
    · exact .inl ⟨_, h3 _, .inr (.inr (.inr (.inr ⟨rfl, rfl⟩))), by simp⟩
    · exact .inr ⟨_, he _, rfl⟩
  obtain ⟨x, hx, hq⟩ := key
  rw [hx, hq]
def tab : Arr UInt32 16 := ⟨(List.range 16).map fun i => s4 (UInt32.ofNat i), by simp⟩
theorem Afq : C4 (fun (v : Int × Arr UInt32 16) => Dc v.1 v.2) (0, Arr.rep 16 0) = some tab := by
  have key : ∃ x, C4 (fun (v : Int × Arr UInt32 16) => Dc v.1 v.2) (0, Arr.rep 16 0) = some x ∧ x = tab := by
    refine D6 (f := fun (v : Int × Arr UInt32 16) => Dc v.1 v.2) (fun v => ∃ k : Nat, v.1 = (k : Int) ∧ k ≤ 16 ∧ v.2.l = ((List.range k).map fun i => s4 (UInt32.ofNat i)) ++ List.replicate (16 - k) 0) (fun v => (16 - v.1).toNat) (fun x => x = tab) ?_ (v0 := (0, Arr.rep 16 0)) ⟨0, rfl, by omega, rfl⟩ (by simp)
    rintro ⟨i, a⟩ ⟨k, hk, hk16, ha⟩
    simp only at hk ha
    subst hk
    by_cases h : k < 16
    · left
      refine ⟨(((k + 1 : Nat) : Int), a.set k (s4 (UInt32.ofInt (k : Int)))), ?_, ⟨k + 1, rfl, by omega, ?_⟩, by simp; omega⟩
      · simp only
        unfold Dc
        rw [if_pos (by simp; omega), Afi]
        simp only [Option.bind_some]
        rw [if_pos (by unfold InR; omega), Id (by omega)]
        rfl
      · show a.l.set k _ = _
        rw [ha]
        have hl : ((List.range k).map fun i => s4 (UInt32.ofNat i)).length = k := by simp
        rw [List.set_append_right _ _ (by omega), hl, Nat.sub_self]
        have : 16 - k = (16 - (k + 1)) + 1 := by omega
        rw [this, List.replicate_succ, List.set_cons_zero, List.range_succ, List.map_append]
        simp only [List.map_cons, List.map_nil, List.append_assoc, List.cons_append, List.nil_append]
        congr 3
        have : k < 16 := h
        have hall : ∀ j : Fin 16, UInt32.ofInt ((j.val : Nat) : Int) = UInt32.ofNat j.val := by decide
        rw [hall ⟨k, h⟩]
    · right
      have : k = 16 := by omega
      subst this
      refine ⟨a, by simp only; unfold Dc; rfl, ?_⟩
      apply Arr.ext'
      rw [ha]
      simp [tab]
  obtain ⟨x, hx, hq⟩ := key
  rw [hx, hq]
theorem Ahs (c : UInt32) (h : c.toNat < 16) : tab.get c.toNat = s4 c := by
  unfold Arr.get nth tab
  simp only [List.getD_eq_getElem?_getD, List.getElem?_map, List.getElem?_range h, Option.map_some, Option.getD_some]
  congr 1
  apply UInt32.toNat_inj.1
  rw [UInt32.toNat_ofNat']
  omega
theorem AhE (c : UInt32) : (c &&& 15).toNat < 16 := by
  rw [UInt32.toNat_and]
  exact Nat.lt_of_le_of_lt Nat.and_le_right (by decide)
theorem nib (c : UInt32) : Kt c (4 : UInt64).toNat ^^^ tab.get (c &&& 15).toNat = s4 c := by
  rw [Ahs _ (AhE c), AeA c]; rfl
theorem AbX (c : UInt32) (l : List UInt8) (x : UInt8) : AhH c (l ++ [x]) = s8 (AhH c l ^^^ x.toUInt32) := by simp [AhH]
theorem AbK (b : List UInt8) (h : b.length ≤ maxLen) : Ji b = some (crc b) := by
  unfold maxLen at h
  unfold Ji
  rw [Afq]
  simp only [Option.bind_some]
  have key : ∃ x, C4 (fun (v : UInt32 × Int) => Ds b tab v.1 v.2) ((4294967295 : UInt32), 0) = some x ∧ x = AhH 4294967295 b := by
    refine D6 (f := fun (v : UInt32 × Int) => Ds b tab v.1 v.2) (fun v => ∃ k : Nat, v.2 = (k : Int) ∧ k ≤ b.length ∧ v.1 = AhH 4294967295 (b.take k)) (fun v => (b.length - v.2).toNat) (fun x => x = AhH 4294967295 b) ?_ (v0 := ((4294967295 : UInt32), 0)) ⟨0, rfl, by omega, rfl⟩ (by simp; omega)
    rintro ⟨c, i⟩ ⟨k, hk, hkl, hc⟩
    simp only at hk hc
    subst hk
    by_cases h1 : k < b.length
    · left
      refine ⟨(s8 (c ^^^ (nth b k).toUInt32), ((k + 1 : Nat) : Int)), ?_, ⟨k + 1, rfl, by omega, ?_⟩, by simp; omega⟩
      · simp only
        unfold Ds
        rw [if_pos (by simp; omega), if_pos (by unfold InR; omega)]
        simp only [lt1, Int.toNat_natCast, nib]
        rw [if_pos (by unfold InR; have := AhE (c ^^^ (nth b k).toUInt32); omega), if_pos (by unfold InR; have := AhE (s4 (c ^^^ (nth b k).toUInt32)); omega), Id (by omega)]
        rfl
      · simp only
        rw [List.take_succ_eq_append_getElem h1, AbX, ← hc]
        simp [nth, h1]
    · right
      have : k = b.length := by omega
      subst this
      refine ⟨c, by simp only; unfold Ds; rw [if_neg (by simp)], ?_⟩
      rw [hc, List.take_length]
  obtain ⟨x, hx, hq⟩ := key
  rw [hx, hq]; rfl
def esc (x : UInt8) : List UInt8 := if x = 126 ∨ x = 125 then [125, x ^^^ 32] else [x]
def Er (l : List UInt8) : List UInt8 := l.flatMap esc
def sealB (c : UInt32) : List UInt8 := [(Kt c 24).toUInt8, (Kt c 16).toUInt8, (Kt c 8).toUInt8, c.toUInt8]
def frameOf (b : List UInt8) : List UInt8 := 126 :: Er (b ++ sealB (crc b)) ++ [126]
theorem Ow (x : UInt8) : (esc x).length ≤ 2 := by unfold esc; split <;> simp
theorem wrapB_len (l : List UInt8) : (Er l).length ≤ 2 * l.length := by
  induction l with
  | nil => simp [Er]
  | cons x l ih =>
    simp only [Er, List.flatMap_cons, List.length_append, List.length_cons] at ih ⊢
    have := Ow x
    omega
theorem Vp (a b : List UInt8) : Er (a ++ b) = Er a ++ Er b := by simp [Er]
theorem Abu (l : List UInt8) {k : Nat} (h : k < l.length) : Er (l.take (k + 1)) = Er (l.take k) ++ esc (nth l k) := by
  rw [List.take_succ_eq_append_getElem h, Vp]
  congr 1
  simp [Er, nth, h]
theorem L1 (b : List UInt8) (h : b.length ≤ maxLen) : Gm b = some (sealB (crc b)) := by
  unfold Gm
  rw [AbK b h]
  rfl
theorem Qw (ls : List (List UInt8)) (t : Nat) (a : List UInt8) (h : (nth ls t).length ≤ 10000) (ha : a.length ≤ 100000) :
    C4 (fun (v : Int × List UInt8) => Df ls (t : Int) v.1 v.2) (0, a) = some (a ++ Er (nth ls t)) := by
  obtain ⟨x, hx, hq⟩ : ∃ x, C4 (fun (v : Int × List UInt8) => Df ls (t : Int) v.1 v.2) (0, a) = some x ∧ x = a ++ Er (nth ls t) := by
    refine Gu (nth ls t).length (fun k v => v.1 = (k : Int) ∧ v.2 = a ++ Er ((nth ls t).take k)) _ (by omega) ?_ ?_ ⟨rfl, by simp [Er]⟩
    · rintro k ⟨i, c⟩ hk ⟨hi, hc⟩
      simp only at hi hc
      subst hi hc
      refine ⟨(((k + 1 : Nat) : Int), a ++ Er ((nth ls t).take (k + 1))), ?_, rfl, rfl⟩
      simp only
      unfold Df
      simp only [Int.toNat_natCast, lt1]
      have hl := wrapB_len ((nth ls t).take k)
      have hl2 : ((nth ls t).take k).length = k := by simp; omega
      have hf : ∀ m, m ≤ 1 → Eg ((a ++ Er ((nth ls t).take k)).length + m) 1 := fun m hm => Ae8 (by simp; omega)
      have hf2 : ∀ y, Eg ((a ++ Er ((nth ls t).take k) ++ [y]).length + 1) 1 := fun y => Ae8 (by simp; omega)
      rw [if_pos (by simp; omega), if_pos (AcF hk), if_pos (hf 1 (by omega)), Id (by omega), Abu _ hk]
      generalize nth (nth ls t) k = x
      unfold esc
      by_cases h1 : x = 126
      · subst h1; simp only [beq_self_eq_true, if_true, Option.bind_some, true_or]
        rw [if_pos (hf2 _)]; simp
      · by_cases h2 : x = 125
        · subst h2
          have e : ((125 : UInt8) == 126) = false := rfl
          simp only [e, beq_self_eq_true, if_true, Option.bind_some, or_true, Bool.false_eq_true, if_false]
          rw [if_pos (hf2 _)]; simp
        · have e1 : (x == 126) = false := by simp [h1]
          have e2 : (x == 125) = false := by simp [h2]
          simp only [e1, e2, Option.bind_some, Bool.false_eq_true, if_false, h1, h2, or_self]
          rw [if_pos (hf 1 (by omega))]; simp
    · rintro ⟨i, c⟩ ⟨hi, hc⟩
      simp only at hi hc
      subst hi hc
      refine ⟨a ++ Er (nth ls t), ?_, rfl⟩
      simp only
      unfold Df
      simp only [Int.toNat_natCast]
      rw [if_neg (by simp), List.take_length]
  rw [hx, hq]
theorem frame_make (b : List UInt8) (h : b.length ≤ maxLen) : Hz b = if 8192 < b.length then some ([], 2) else some (frameOf b, 0) := by
  unfold Hz
  by_cases h1 : 8192 < b.length
  · rw [if_pos (by simp; omega), if_pos h1]
  · rw [if_neg (by simp; omega), if_neg h1, L1 b h]
    have hw : w64 ((b.length : Int) + 6) = (b.length : Int) + 6 := Fc (by omega)
    rw [if_pos (by rw [hw]; unfold Mk maxLen Je; omega)]
    simp only [lt1, Option.bind_some]
    rw [if_pos (by decide)]
    obtain ⟨x, hx, hq⟩ : ∃ x, C4 (fun (v : Int × List UInt8) => D1 b (sealB (crc b)) [b, sealB (crc b)] v.1 v.2) (0, [126]) = some x ∧ x = 126 :: Er (b ++ sealB (crc b)) := by
      refine Gu 2 (fun k v => v.1 = (k : Int) ∧ v.2 = 126 :: Er (([b, sealB (crc b)].take k).flatten)) _ (by omega) ?_ ?_ ⟨rfl, rfl⟩
      · rintro k ⟨i, c⟩ hk ⟨hi, hc⟩
        simp only at hi hc
        subst hi hc
        refine ⟨(((k + 1 : Nat) : Int), 126 :: Er (([b, sealB (crc b)].take (k + 1)).flatten)), ?_, rfl, rfl⟩
        simp only
        unfold D1
        simp only [lt1]
        have hs : (sealB (crc b)).length = 4 := rfl
        have hk2 : (decide ((k : Int) < (([b, sealB (crc b)] : List (List UInt8)).length : Int))) = true := by simp; omega
        rw [if_pos hk2, if_pos (AcF (by simpa using hk)), Id (by omega)]
        rcases (show k = 0 ∨ k = 1 by omega) with rfl | rfl
        · rw [Qw [b, sealB (crc b)] 0 _ (by show b.length ≤ 10000; omega) (by simp [Er])]
          simp [nth, Er]
        · have hl := wrapB_len b
          rw [Qw [b, sealB (crc b)] 1 _ (by show (sealB (crc b)).length ≤ 10000; omega) (by simp; omega)]
          simp [nth, Vp]
      · rintro ⟨i, c⟩ ⟨hi, hc⟩
        simp only at hi hc
        subst hi hc
        refine ⟨126 :: Er (b ++ sealB (crc b)), ?_, rfl⟩
        simp only
        unfold D1
        simp [lt1]
    have hset : (List.replicate 1 (0 : UInt8)).set 0 126 = [126] := rfl
    rw [hset, hx, hq]
    simp only [Option.bind_some]
    have hl := wrapB_len (b ++ sealB (crc b))
    have hs : (sealB (crc b)).length = 4 := rfl
    rw [if_pos (Ae8 (by simp at hl ⊢; omega))]
    rfl
def Gj (d : Api_Deframer) : List UInt8 × Bool :=
  if d.Escape = true ∨ d.Bad = true ∨ d.Rest.length < 4 ∨ 8196 < d.Rest.length then ([], false)
  else (d.Rest.take (d.Rest.length - 4), sealB (crc (d.Rest.take (d.Rest.length - 4))) == d.Rest.drop (d.Rest.length - 4))
theorem Nj (d : Api_Deframer) (h : d.Rest.length ≤ 100000000) : D2 d = some (Gj d) := by
  unfold D2 Gj
  simp only [lt1]
  have hw : w64 ((d.Rest.length : Int) - 4) = (d.Rest.length : Int) - 4 := Fc (by omega)
  rw [hw]
  cases he : d.Escape
  · cases hb : d.Bad
    · by_cases h4 : d.Rest.length < 4
      · have h1 : decide ((d.Rest.length : Int) - 4 < 0) = true := by simp; omega
        simp [h1, h4]
      · have h1 : decide ((d.Rest.length : Int) - 4 < 0) = false := by simp; omega
        by_cases h8 : 8196 < d.Rest.length
        · have h2 : decide ((d.Rest.length : Int) - 4 > 8192) = true := by simp; omega
          simp [h1, h2, h4, h8]
        · have h2 : decide ((d.Rest.length : Int) - 4 > 8192) = false := by simp; omega
          have hn : ((d.Rest.length : Int) - 4).toNat = d.Rest.length - 4 := by omega
          have hB : InB ((d.Rest.length : Int) - 4) d.Rest.length := by unfold InB; omega
          have hB2 : InB ((d.Rest.length : Int) - 4) (d.Rest.length - 4) := by unfold InB; omega
          have htk : (d.Rest.drop (d.Rest.length - 4)).take (d.Rest.length - (d.Rest.length - 4)) = d.Rest.drop (d.Rest.length - 4) := List.take_of_length_le (by simp)
          rw [if_neg (show ¬ (false = true ∨ false = true ∨ d.Rest.length < 4 ∨ 8196 < d.Rest.length) by simp; omega)]
          simp only [h1, h2, hn, Option.bind_some, Bool.false_eq_true, if_false, if_pos hB, if_pos hB2, htk]
          rw [L1 _ (by simp [maxLen]; omega)]
          rfl
    · simp
  · simp
def Db (s : Api_Deframer × List (List UInt8) × Nat) (c : UInt8) : Api_Deframer × List (List UInt8) × Nat :=
  if c = 126 then
    (⟨[], true, false, false⟩, if s.1.In = true ∧ (s.1.Rest ≠ [] ∨ s.1.Escape = true ∨ s.1.Bad = true) then (if (Gj s.1).2 = true then (s.2.1 ++ [(Gj s.1).1], s.2.2) else (s.2.1, s.2.2 + 1)) else s.2)
  else if s.1.In = false ∨ s.1.Bad = true then s
  else if c = 125 ∧ s.1.Escape = false then (⟨s.1.Rest, s.1.In, true, s.1.Bad⟩, s.2)
  else if 8196 ≤ s.1.Rest.length then (⟨[], s.1.In, false, true⟩, s.2)
  else (⟨s.1.Rest ++ [if s.1.Escape = true then c ^^^ 32 else c], s.1.In, false, s.1.Bad⟩, s.2)
def feedS (s : Api_Deframer × List (List UInt8) × Nat) (b : List UInt8) : Api_Deframer × List (List UInt8) × Nat := b.foldl Db s
theorem Abc (s : Api_Deframer × List (List UInt8) × Nat) (c : UInt8) : (Db s c).1.Rest.length ≤ s.1.Rest.length + 1 := by
  unfold Db
  repeat' split
  all_goals simp
theorem AgX (s : Api_Deframer × List (List UInt8) × Nat) (c : UInt8) : (Db s c).2.1.length ≤ s.2.1.length + 1 := by
  unfold Db
  repeat' split
  all_goals simp
theorem AbH (s : Api_Deframer × List (List UInt8) × Nat) (c : UInt8) : (Db s c).2.2 ≤ s.2.2 + 1 := by
  unfold Db
  repeat' split
  all_goals simp
theorem Qx (s : Api_Deframer × List (List UInt8) × Nat) (b : List UInt8) (c : UInt8) : feedS s (b ++ [c]) = Db (feedS s b) c := by simp [feedS]
theorem feedS_bounds (s : Api_Deframer × List (List UInt8) × Nat) (b : List UInt8) : (feedS s b).1.Rest.length ≤ s.1.Rest.length + b.length ∧ (feedS s b).2.1.length ≤ s.2.1.length + b.length ∧ (feedS s b).2.2 ≤ s.2.2 + b.length := by
  induction b generalizing s with
  | nil => simp [feedS]
  | cons c b ih =>
    have h := ih (Db s c)
    have h1 := Abc s c
    have h2 := AgX s c
    have h3 := AbH s c
    show (feedS (Db s c) b).1.Rest.length ≤ _ ∧ (feedS (Db s c) b).2.1.length ≤ _ ∧ (feedS (Db s c) b).2.2 ≤ _
    simp only [List.length_cons]
    omega
theorem Ack {n : Nat} (h : n ≤ 100000000) : Eg n 24 := by unfold Eg maxLen Je; omega
theorem AaU (b : List UInt8) (s : Api_Deframer × List (List UInt8) × Nat) (k : Nat) (hk : k < b.length) (hb : b.length ≤ 40000000) (h1 : s.1.Rest.length ≤ 90000000) (h2 : s.2.1.length ≤ 90000000) (h3 : s.2.2 ≤ 90000000) :
    Bu b (s.2.2 : Int) (k : Int) s.1.In s.1.Escape s.1.Bad s.2.1 s.1.Rest = some (.inl (((Db s (nth b k)).2.2 : Int), ((k + 1 : Nat) : Int), (Db s (nth b k)).1.In, (Db s (nth b k)).1.Escape, (Db s (nth b k)).1.Bad, (Db s (nth b k)).2.1, (Db s (nth b k)).1.Rest)) := by
  obtain ⟨⟨rest, fin, fesc, fbad⟩, l, n⟩ := s
  simp only at h1 h2 h3
  unfold Bu
  simp only [Int.toNat_natCast, lt1]
  have hkk : w64 ((k : Int) + 1) = ((k + 1 : Nat) : Int) := Id (by omega)
  rw [if_pos (by simp; omega), if_pos (AcF hk)]
  simp only [hkk]
  generalize nth b k = c
  have hf : Eg (rest.length + 1) 1 := Ae8 (by omega)
  have hf2 : Eg (l.length + 1) 24 := Ack (by omega)
  have hn : w64 ((n : Int) + 1) = ((n + 1 : Nat) : Int) := Id (by omega)
  have hc := Nj ⟨rest, fin, fesc, fbad⟩ (by simp only; omega)
  unfold Db
  simp only
  by_cases c1 : c = 126
  · subst c1
    simp only [beq_self_eq_true, if_true]
    cases fin
    · simp
    · by_cases hr : rest = []
      · subst hr
        cases fesc
        · cases fbad
          · simp
          · simp [hc, hf2, hn]
            cases hcc : (Gj ⟨[], true, false, true⟩).2 <;> simp [hcc, hf2, hn]
        · simp [hc, hf2, hn]
          cases hcc : (Gj ⟨[], true, true, fbad⟩).2 <;> simp [hcc, hf2, hn]
      · have hpos : 0 < rest.length := List.length_pos_iff.2 hr
        have hd : decide ((rest.length : Int) > 0) = true := by simp; omega
        simp only [hd, if_true, Option.bind_some, hc]
        cases hcc : (Gj ⟨rest, true, fesc, fbad⟩).2 <;> simp [hcc, hf2, hn, hr]
  · have e1 : (c == 126) = false := by simp [c1]
    simp only [e1, Bool.false_eq_true, if_false, c1]
    cases fin
    · simp
    · cases fbad
      · by_cases c2 : c = 125
        · subst c2
          cases fesc
          · simp
          · by_cases h8 : 8196 ≤ rest.length
            · have h8i : (8196 : Int) ≤ (rest.length : Int) := by omega
              simp [h8, h8i]
            · have h8i : ¬ (8196 : Int) ≤ (rest.length : Int) := by omega
              simp [h8, h8i, hf]
        · have e2 : (c == 125) = false := by simp [c2]
          cases fesc
          · by_cases h8 : 8196 ≤ rest.length
            · have h8i : (8196 : Int) ≤ (rest.length : Int) := by omega
              simp [e2, c2, h8, h8i]
            · have h8i : ¬ (8196 : Int) ≤ (rest.length : Int) := by omega
              simp [e2, c2, h8, h8i, hf]
          · by_cases h8 : 8196 ≤ rest.length
            · have h8i : (8196 : Int) ≤ (rest.length : Int) := by omega
              simp [e2, c2, h8, h8i]
            · have h8i : ¬ (8196 : Int) ≤ (rest.length : Int) := by omega
              simp [e2, c2, h8, h8i, hf]
      · simp
theorem frame_feed (d : Api_Deframer) (b : List UInt8) (hd : d.Rest.length ≤ 40000000) (hb : b.length ≤ 40000000) :
    B7 d b = some ((feedS (d, [], 0) b).1, (feedS (d, [], 0) b).2.1, ((feedS (d, [], 0) b).2.2 : Int)) := by
  unfold B7
  rw [if_pos (by unfold Mk maxLen Je; omega)]
  simp only [lt1]
  have hov : ovl (List.replicate ((d.Rest.length : Int)).toNat (0 : UInt8)) (d.Rest.take (min d.Rest.length (List.replicate ((d.Rest.length : Int)).toNat (0 : UInt8)).length)) 0 = d.Rest := by
    simp [ovl]
  rw [hov]
  obtain ⟨x, hx, hq⟩ : ∃ x, C4 (fun (v : Int × Int × Bool × Bool × Bool × List (List UInt8) × List UInt8) => Bu b v.1 v.2.1 v.2.2.1 v.2.2.2.1 v.2.2.2.2.1 v.2.2.2.2.2.1 v.2.2.2.2.2.2) (0, 0, d.In, d.Escape, d.Bad, [], d.Rest) = some x ∧
      x = (((feedS (d, [], 0) b).2.2 : Int), (feedS (d, [], 0) b).1.In, (feedS (d, [], 0) b).1.Escape, (feedS (d, [], 0) b).1.Bad, (feedS (d, [], 0) b).2.1, (feedS (d, [], 0) b).1.Rest) := by
    refine Gu b.length (fun k v => ∃ s, s = feedS (d, [], 0) (b.take k) ∧ v = ((s.2.2 : Int), (k : Int), s.1.In, s.1.Escape, s.1.Bad, s.2.1, s.1.Rest)) _ (by omega) ?_ ?_ ⟨_, rfl, rfl⟩
    · rintro k v hk ⟨s, hs, rfl⟩
      have hbd := feedS_bounds (d, [], 0) (b.take k)
      rw [← hs] at hbd
      simp only [List.length_take, List.length_nil] at hbd
      refine ⟨_, AaU b s k hk hb (by omega) (by omega) (by omega), Db s (nth b k), ?_, rfl⟩
      rw [List.take_succ_eq_append_getElem hk, Qx, ← hs]
      congr 1
      simp [nth, hk]
    · rintro v ⟨s, hs, rfl⟩
      rw [List.take_length] at hs
      subst hs
      refine ⟨_, ?_, rfl⟩
      simp only
      unfold Bu
      rw [if_neg (by simp)]
  rw [hx, hq]
  rfl
def R0 : Api_Deframer := ⟨[], true, false, false⟩
theorem feed_app (s : Api_Deframer × List (List UInt8) × Nat) (a b : List UInt8) : feedS s (a ++ b) = feedS (feedS s a) b := by simp [feedS]
theorem AfK (r : List UInt8) (x : UInt8) (l : List (List UInt8) × Nat) (h : r.length < 8196) : feedS (⟨r, true, false, false⟩, l) (esc x) = (⟨r ++ [x], true, false, false⟩, l) := by
  have h8 : ¬ 8196 ≤ r.length := by omega
  by_cases h1 : x = 126
  · subst h1
    show feedS _ [125, 94] = _
    simp [feedS, Db, h8]
    decide
  · by_cases h2 : x = 125
    · subst h2
      show feedS _ [125, 93] = _
      simp [feedS, Db, h8]
      decide
    · have : esc x = [x] := by unfold esc; rw [if_neg (by simp [h1, h2])]
      rw [this]
      simp [feedS, Db, h1, h2, h8]
theorem AcT (m : List UInt8) : ∀ (r : List UInt8) (l : List (List UInt8) × Nat), r.length + m.length ≤ 8196 → feedS (⟨r, true, false, false⟩, l) (Er m) = (⟨r ++ m, true, false, false⟩, l) := by
  induction m with
  | nil => intro r l h; simp [Er, feedS]
  | cons x m ih =>
    intro r l h
    simp only [List.length_cons] at h
    have : Er (x :: m) = esc x ++ Er m := rfl
    rw [this, feed_app, AfK r x l (by omega), ih (r ++ [x]) l (by simp; omega)]
    simp
theorem Aai (b : List UInt8) (h : b.length ≤ 8192) : Gj ⟨b ++ sealB (crc b), true, false, false⟩ = (b, true) := by
  have hs : (sealB (crc b)).length = 4 := rfl
  unfold Gj
  simp only [List.length_append, hs]
  rw [if_neg (by simp; omega)]
  have e : b.length + 4 - 4 = b.length := by omega
  rw [e, List.take_left, List.drop_left]
  simp
theorem Agp (b : List UInt8) (h : b.length ≤ 8192) (l : List (List UInt8)) (n : Nat) : Db (⟨b ++ sealB (crc b), true, false, false⟩, l, n) 126 = (R0, l ++ [b], n) := by
  have hne : b ++ sealB (crc b) ≠ [] := by simp [sealB]
  unfold Db
  simp only [if_true, Aai b h]
  rw [if_pos ⟨trivial, .inl hne⟩]
  rfl
theorem Ab5 (b : List UInt8) (h : b.length ≤ 8192) (l : List (List UInt8)) (n : Nat) : feedS (R0, l, n) ((frameOf b).drop 1) = (R0, l ++ [b], n) := by
  have hd : (frameOf b).drop 1 = Er (b ++ sealB (crc b)) ++ [126] := rfl
  have hs : (sealB (crc b)).length = 4 := rfl
  rw [hd, Qx]
  show Db (feedS (⟨[], true, false, false⟩, l, n) _) 126 = _
  rw [AcT _ [] (l, n) (by simp [hs]; omega)]
  exact Agp b h l n
def AjZ (d : Api_Deframer) : Prop := d.Rest = [] ∧ d.Escape = false ∧ d.Bad = false
theorem Acm (d : Api_Deframer) (hd : AjZ d) (l : List (List UInt8)) (n : Nat) : Db (d, l, n) 126 = (R0, l, n) := by
  obtain ⟨h1, h2, h3⟩ := hd
  unfold Db
  simp [h1, h2, h3, R0]
theorem feed_frame (d : Api_Deframer) (hd : AjZ d) (b : List UInt8) (h : b.length ≤ 8192) (l : List (List UInt8)) (n : Nat) : feedS (d, l, n) (frameOf b) = (R0, l ++ [b], n) := by
  have : frameOf b = [126] ++ (frameOf b).drop 1 := rfl
  rw [this, feed_app]
  show feedS (Db (d, l, n) 126) _ = _
  rw [Acm d hd, Ab5 b h]
set_option linter.unusedSimpArgs false
theorem AfA (d : Api_Deframer) (l : List (List UInt8)) (n : Nat) (c : UInt8) :
    Db (d, l, n) c = ((Db (d, [], 0) c).1, l ++ (Db (d, [], 0) c).2.1, n + (Db (d, [], 0) c).2.2) := by
  unfold Db
  repeat' split
  all_goals simp_all
theorem feed_pre (b : List UInt8) : ∀ (d : Api_Deframer) (l : List (List UInt8)) (n : Nat),
    feedS (d, l, n) b = ((feedS (d, [], 0) b).1, l ++ (feedS (d, [], 0) b).2.1, n + (feedS (d, [], 0) b).2.2) := by
  induction b with
  | nil => intro d l n; simp [feedS]
  | cons c b ih =>
    intro d l n
    show feedS (Db (d, l, n) c) b = ((feedS (Db (d, [], 0) c) b).1, l ++ (feedS (Db (d, [], 0) c) b).2.1, n + (feedS (Db (d, [], 0) c) b).2.2)
    rw [AfA d l n c, ih]
    generalize hs : Db (d, [], 0) c = s
    obtain ⟨d1, l1, n1⟩ := s
    simp only
    rw [ih d1 l1 n1]
    simp only [List.append_assoc, Nat.add_assoc]
end Go.Proofs.YtnfoiocigicdnaaGreatDoor.Kf
namespace Go.Proofs.YtnfoiocigicdnaaGreatDoor
open Go.Rv
set_option linter.unusedVariables false
set_option linter.unusedSimpArgs false
theorem AcD (d : Api_Deframer) (b : List UInt8) : Cv d b = B7 d b := by
  unfold Cv B7
  rfl
theorem Ahl (cut : Int) (n : Nat) : ∃ c : Nat, AbE 0 (V5 cut (n : Int)) = (c : Int) ∧ c ≤ n := by
  refine ⟨(AbE 0 (V5 cut (n : Int))).toNat, ?_, ?_⟩ <;> (unfold AbE V5; omega)
theorem AfL {it : Api_Item} (hi : OkItem it) (ht : it.Text.length ≤ 2000) (hp : it.Parts.length ≤ 20) (h1 : 1 ≤ it.Kind) (h2 : it.Kind ≤ 15) : (msg it).length ≤ 8192 := by
  have q1 := Xl ⟨it.Kind.toNat, by omega⟩
  have q2 := W4 hi.ref
  have q3 := R8 hi
  have q4 := Sz (t := it.Text)
  have q5 := Lb hi.part
  simp only at q1
  unfold msg Wy
  simp only [List.length_append, List.length_singleton]
  omega
theorem AiU {m : List UInt8} (hm : m.length ≤ 8192) (c : Nat) : ∃ d1 l1 d2 l2, Cv ⟨[], false, false, false⟩ ((Kf.frameOf m).take c) = some (d1, l1, 0) ∧ B7 d1 ((Kf.frameOf m).drop c) = some (d2, l2, 0) ∧ l1 ++ l2 = [m] := by
  have hl : (Kf.frameOf m).length ≤ 20000 := by
    have := Kf.wrapB_len (m ++ Kf.sealB (Kf.crc m))
    have hs : (Kf.sealB (Kf.crc m)).length = 4 := rfl
    unfold Kf.frameOf
    simp only [List.length_append, List.length_cons, List.length_nil, hs] at this ⊢
    omega
  have hall := Kf.feed_frame ⟨[], false, false, false⟩ ⟨rfl, rfl, rfl⟩ m hm [] 0
  rw [← List.take_append_drop c (Kf.frameOf m), Kf.feed_app] at hall
  have hb := Kf.feedS_bounds (⟨[], false, false, false⟩, [], 0) ((Kf.frameOf m).take c)
  have f1 := Kf.frame_feed ⟨[], false, false, false⟩ ((Kf.frameOf m).take c) (by simp) (by simp; omega)
  generalize Kf.feedS (⟨[], false, false, false⟩, [], 0) ((Kf.frameOf m).take c) = s1 at hall hb f1
  obtain ⟨d1, l1, n1⟩ := s1
  simp only [List.length_nil, Nat.zero_add, List.length_take] at hb
  have f2 := Kf.frame_feed d1 ((Kf.frameOf m).drop c) (by omega) (by simp; omega)
  rw [Kf.feed_pre] at hall
  generalize Kf.feedS (d1, [], 0) ((Kf.frameOf m).drop c) = s2 at hall f2
  obtain ⟨d2, l2, n2⟩ := s2
  simp only [Prod.mk.injEq, List.nil_append] at hall
  obtain ⟨_, e1, e2⟩ := hall
  have z1 : n1 = 0 := by omega
  have z2 : n2 = 0 := by omega
  subst z1 z2
  exact ⟨d1, l1, d2, l2, by rw [AcD]; exact f1, f2, e1⟩
theorem Aav {it : Api_Item} (h : Ints it) (cut : Int) : Dq it cut = some true := by
  unfold Dq
  rw [Ahi, Option.bind_some, if_neg (by simp), Aew, Option.bind_some]
  by_cases hs : it.Text.length ≤ 2000 ∧ it.Parts.length ≤ 20
  · have hok := h.ok hs.1 hs.2
    rw [if_neg (by simp [hs])]
    by_cases h1 : it.Kind < 1
    · rw [if_pos (decide_eq_true h1), Option.bind_some]; rfl
    · rw [if_neg (by simpa using h1), Option.bind_some]
      by_cases h2 : it.Kind > 15
      · rw [decide_eq_true h2]; rfl
      · have hl := AhP hok hs.1 hs.2 (by omega) (by omega)
        have hl8 := AfL hok hs.1 hs.2 (by omega) (by omega)
        have hp := Acu hok h (by omega) (by omega) hl
        have e : (if 1 ≤ it.Kind ∧ it.Kind ≤ 15 then (if (msg it).length > 65536 then (([] : List UInt8), (2 : Int)) else (msg it, 0)) else ([], 110)) = (msg it, 0) := by rw [if_pos (by omega), if_neg (by omega)]
        obtain ⟨c, hc, hcl⟩ := Ahl cut (Kf.frameOf (msg it)).length
        obtain ⟨d1, l1, d2, l2, f1, f2, fm⟩ := AiU hl8 c
        rw [decide_eq_false h2, if_neg (by simp), T3 hok, Option.bind_some, e]
        simp only
        rw [Kf.frame_make (msg it) (by unfold maxLen; omega), if_neg (by omega), Option.bind_some]
        simp only [bne_self_eq_false, Bool.false_eq_true, if_false, Option.bind_some, lt1, hc, Int.toNat_natCast]
        rw [if_pos (by unfold InB; omega), f1, Option.bind_some]
        simp only
        rw [if_pos (by unfold InB; omega), List.take_of_length_le (by simp), show (⟨d1.Rest, d1.In, d1.Escape, d1.Bad⟩ : Api_Deframer) = d1 from rfl, f2, Option.bind_some]
        have hlen : l1.length + l2.length = 1 := by rw [← List.length_append, fm]; rfl
        have hw : w64 ((l1.length : Int) + (l2.length : Int)) = 1 := by rw [Fc (by omega)]; omega
        simp only [hw, bne_self_eq_false, Bool.false_eq_true, if_false, Option.bind_some, fm]
        rw [if_pos (by unfold Eg maxLen Je; omega), if_pos (by unfold InR; simp)]
        show (Es (msg it)).bind _ = _
        rw [hp, Option.bind_some]
        simp only [beq_self_eq_true, if_true]
        rw [Ab9 hok]
        rfl
  · rw [if_pos (by simp; omega)]
    rfl
theorem Xx {it : Api_Item} (h : Ints it) {cut : Int} (_ : I64 cut) : Dq it cut = some true := Aav h cut
end Go.Proofs.YtnfoiocigicdnaaGreatDoor
