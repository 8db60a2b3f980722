/-
  WindowReorders. No condition.
-/
import Derived.Test.YtomjphpnpcgacaaZC3
/-
  The law WindowReorders, in plain Lean.
-/
namespace Go.Proofs.Ytomjphpnpcgacaa
open Go.Rv
set_option linter.unusedVariables false
set_option linter.unusedSimpArgs false

/-- The packet with the message j. -/
def pkR (ms : List (List UInt8)) (j : Nat) : Api_Packet := { Epoch := 2, To := 1, Seq := 7 + (j : Int), Ack := 0, Data := nth ms j }
/-- The side after c messages, with some early ones. -/
def sideR (c : Nat) (E : List Api_Packet) : Api_Peer := { Epoch := 1, Other := 2, First := 0, Queue := [], Next := 7 + (c : Int), Early := E, SentAt := -1 }

theorem eok_ins {next : Int} {x : Api_Packet} (hx : x.Seq < next + 64 ∧ x.Seq < 1099511627776 ∧ x.Data.length ≤ 8000 ∧ x.Epoch = 0 ∧ x.To = 0 ∧ x.Ack = 0) : ∀ {l : List Api_Packet} {last : Int}, EOk next last l → last < x.Seq → EOk next last (insS l x)
  | [], last, _, h => ⟨⟨h, hx⟩, trivial⟩
  | e :: r, last, h, hl => by
    unfold insS
    by_cases h1 : e.Seq < x.Seq
    · rw [if_pos h1]
      exact ⟨h.1, eok_ins hx h.2 h1⟩
    · rw [if_neg h1]
      by_cases h2 : e.Seq = x.Seq
      · rw [if_pos h2]; exact h
      · rw [if_neg h2]
        exact ⟨⟨hl, hx⟩, ⟨by omega, h.1.2⟩, h.2⟩

theorem eok_next {next next' : Int} (hn : next ≤ next') : ∀ {l : List Api_Packet} {last : Int}, EOk next last l → EOk next' last l
  | [], _, _ => trivial
  | e :: r, last, h => ⟨⟨h.1.1, by have := h.1.2.1; omega, h.1.2.2⟩, eok_next hn h.2⟩

theorem eok_len {next : Int} : ∀ {l : List Api_Packet} {last : Int}, EOk next last l → (l.length : Int) ≤ max 0 (next + 63 - last)
  | [], _, _ => by simp; omega
  | e :: r, last, h => by
    have := eok_len h.2
    have := h.1.1
    have := h.1.2.1
    simp only [List.length_cons]
    omega

theorem insS_sub (l : List Api_Packet) (x : Api_Packet) : (∀ e ∈ l, e ∈ insS l x) ∧ (x ∈ insS l x ∨ ∃ e ∈ l, e.Seq = x.Seq) := by
  induction l with
  | nil => simp [insS]
  | cons a r ih =>
    unfold insS
    by_cases h1 : a.Seq < x.Seq
    · rw [if_pos h1]
      refine ⟨fun e he => ?_, ?_⟩
      · rcases List.mem_cons.1 he with rfl | he
        · simp
        · exact List.mem_cons_of_mem _ (ih.1 e he)
      · rcases ih.2 with h | ⟨e, h, h'⟩
        · exact .inl (List.mem_cons_of_mem _ h)
        · exact .inr ⟨e, List.mem_cons_of_mem _ h, h'⟩
    · rw [if_neg h1]
      by_cases h2 : a.Seq = x.Seq
      · rw [if_pos h2]
        exact ⟨fun e he => he, .inr ⟨a, by simp, h2⟩⟩
      · rw [if_neg h2]
        exact ⟨fun e he => List.mem_cons_of_mem _ he, .inl (by simp)⟩

theorem take_one (ms : List (List UInt8)) {m : Nat} (h : m < ms.length) : ms.take m ++ [nth ms m] = ms.take (m + 1) := by
  rw [List.take_add_one]
  congr 1
  unfold nth
  rw [List.getD_eq_getElem?_getD, List.getElem?_eq_getElem h]
  rfl

theorem runS_spec (ms : List (List UInt8)) (n : Nat) (hn : n ≤ ms.length) {next : Int} : ∀ (l : List Api_Packet) (m : Nat), m ≤ n → EOk next (7 + (m : Int) - 1) l → (∀ e ∈ l, ∃ j, j < n ∧ e = newE (pkR ms j)) →
    ∃ c' : Nat, m ≤ c' ∧ c' ≤ n ∧ (runS (7 + (m : Int)) l).1 = 7 + (c' : Int) ∧ ms.take m ++ (runS (7 + (m : Int)) l).2.1 = ms.take c' ∧ EOk next (7 + (c' : Int)) (runS (7 + (m : Int)) l).2.2 ∧
      (∀ e ∈ (runS (7 + (m : Int)) l).2.2, e ∈ l) ∧ ∀ e ∈ l, e ∈ (runS (7 + (m : Int)) l).2.2 ∨ e.Seq < 7 + (c' : Int)
  | [], m, hm, _, _ => ⟨m, Nat.le_refl _, hm, rfl, by simp [runS], trivial, fun e h => h, fun e h => absurd h (by simp)⟩
  | e :: r, m, hm, he, hf => by
    obtain ⟨j, hj, rfl⟩ := hf e (by simp)
    by_cases hs : (newE (pkR ms j)).Seq = 7 + (m : Int)
    · have hjm : j = m := by
        have : 7 + (j : Int) = 7 + (m : Int) := hs
        omega
      subst hjm
      have he2 := he.2
      rw [hs] at he2
      obtain ⟨c', c1, c2, c3, c4, c5, c6, c7⟩ := runS_spec ms n hn r (j + 1) hj (by rw [show 7 + ((j + 1 : Nat) : Int) - 1 = 7 + (j : Int) by omega]; exact he2) (fun e h => hf e (by simp [h]))
      rw [show 7 + ((j + 1 : Nat) : Int) = 7 + (j : Int) + 1 by omega] at c3 c4 c5 c6 c7
      unfold runS
      rw [if_pos hs]
      refine ⟨c', by omega, c2, c3, ?_, c5, fun e h => by simp [c6 e h], fun e h => ?_⟩
      · rw [← c4, ← take_one ms (by omega : j < ms.length)]
        simp [newE, pkR]
      · rcases List.mem_cons.1 h with rfl | h
        · right; rw [hs]; omega
        · exact c7 e h
    · unfold runS
      rw [if_neg hs]
      refine ⟨m, Nat.le_refl _, hm, rfl, by simp, ⟨⟨?_, he.1.2⟩, he.2⟩, fun e h => h, fun e h => .inl h⟩
      have := he.1.1
      omega

/-- What holds between two packets. -/
structure InvR (ms : List (List UInt8)) (n c : Nat) (E : List Api_Packet) : Prop where
  cc : c ≤ n
  e : EOk (7 + (c : Int)) (7 + (c : Int)) E
  f : ∀ e ∈ E, ∃ j, j < n ∧ e = newE (pkR ms j)

def seenR (ms : List (List UInt8)) (c : Nat) (E : List Api_Packet) (j : Nat) : Prop := j < c ∨ newE (pkR ms j) ∈ E

theorem acc_sideR {ms : List (List UInt8)} {n c j : Nat} {E : List Api_Packet} (hn : n ≤ ms.length) (hn2 : n ≤ 64) (h : InvR ms n c E) (hj : j < n) (hd : ∀ j, j < n → (nth ms j).length ≤ 100) :
    ∃ c' E' out, accS (sideR c E) (pkR ms j) = (sideR c' E', out, false) ∧ InvR ms n c' E' ∧ ms.take c ++ out = ms.take c' ∧ seenR ms c' E' j ∧ ∀ i, i < n → seenR ms c E i → seenR ms c' E' i := by
  have hcn := h.cc
  have hlen := eok_len h.e
  have hok : okA (sideR c E) (pkR ms j) = true := by
    have h1 : okEs (sideR c E) = true := by
      unfold okEs
      rw [List.all_eq_true]
      intro k hk
      have := (eok_of (next := (sideR c E).Next) (by simp [sideR]; omega) E (sideR c E).Next).2 h.e k (by simpa [sideR] using hk)
      rw [Bool.not_eq_true']
      cases k <;> exact this
    have h2 : vPk (pkR ms j) = true := by
      have := hd j hj
      unfold vPk bt pkR
      simp only [Bool.and_eq_true, decide_eq_true_eq]
      omega
    have h3 : okH (sideR c E) = true := by
      unfold okH bt sideR
      have : w64 (0 + (([] : List (List UInt8)).length : Int)) = 0 := by simp [w64_id]
      simp only [this]
      simp
      omega
    unfold okA validS
    rw [h1, h2, h3]
    simp [sideR, pkR]
  have hr : resetS (sideR c E) (pkR ms j) = sideR c E := by unfold resetS; rw [if_neg (by simp [sideR, pkR])]
  have ha : ackS (sideR c E) (pkR ms j) = sideR c E := by unfold ackS; rw [if_neg (by simp [sideR, pkR])]
  unfold accS
  rw [if_pos hok, hr]
  have hst : stepS (sideR c E) (pkR ms j) = delS (keepS (sideR c E) (pkR ms j)) (pkR ms j) := by unfold stepS; rw [if_pos (show (pkR ms j).To = (sideR c E).Epoch from rfl), ha]
  rw [hst]
  have hdf : decide ((pkR ms j).Epoch > (sideR c E).Other) = false := by simp [sideR, pkR]
  rw [hdf]
  rcases Nat.lt_trichotomy j c with hjc | hjc | hjc
  · have hk : keepS (sideR c E) (pkR ms j) = sideR c E := by unfold keepS; rw [if_neg (by simp [sideR, pkR]; omega)]
    rw [hk]
    unfold delS
    rw [if_neg (by simp [sideR, pkR]; omega)]
    exact ⟨c, E, [], rfl, h, by simp, .inl hjc, fun i _ hi => hi⟩
  · subst hjc
    have hk : keepS (sideR j E) (pkR ms j) = sideR j E := by unfold keepS; rw [if_neg (by simp [sideR, pkR])]
    rw [hk]
    unfold delS
    rw [if_pos (by simp [sideR, pkR])]
    obtain ⟨c', c1, c2, c3, c4, c5, c6, c7⟩ := runS_spec ms n hn E (j + 1) hj (by rw [show 7 + ((j + 1 : Nat) : Int) - 1 = 7 + (j : Int) by omega]; exact h.e) h.f
    rw [show 7 + ((j + 1 : Nat) : Int) = 7 + (j : Int) + 1 by omega] at c3 c4 c5 c6 c7
    refine ⟨c', _, nth ms j :: (runS (7 + (j : Int) + 1) E).2.1, ?_, ⟨c2, eok_next (by omega) c5, fun e he => h.f e (c6 e he)⟩, ?_, .inl (by omega), fun i hi hs => ?_⟩
    · show (({ Epoch := 1, Other := 2, First := 0, Queue := [], Next := (runS (7 + (j : Int) + 1) E).1, Early := (runS (7 + (j : Int) + 1) E).2.2, SentAt := -1 } : Api_Peer), _, _) = _
      rw [c3]
      rfl
    · rw [← c4, ← take_one ms (by omega : j < ms.length)]; simp
    · rcases hs with hs | hs
      · exact .inl (by omega)
      · rcases c7 _ hs with h1 | h1
        · exact .inr h1
        · left
          have : 7 + (i : Int) < 7 + (c' : Int) := h1
          omega
  · have hk : keepS (sideR c E) (pkR ms j) = sideR c (insS E (newE (pkR ms j))) := by unfold keepS; rw [if_pos (by simp [sideR, pkR]; omega)]; rfl
    rw [hk]
    unfold delS
    rw [if_neg (by simp [sideR, pkR]; omega)]
    have hx : newE (pkR ms j) ∈ insS E (newE (pkR ms j)) := by
      rcases (insS_sub E (newE (pkR ms j))).2 with h1 | ⟨e, h1, h2⟩
      · exact h1
      · obtain ⟨i, hi, rfl⟩ := h.f e h1
        have : 7 + (i : Int) = 7 + (j : Int) := h2
        have : i = j := by omega
        subst this
        exact (insS_sub E _).1 _ h1
    refine ⟨c, _, [], rfl, ⟨hcn, eok_ins ?_ h.e (by show 7 + (c : Int) < 7 + (j : Int); omega), fun e he => ?_⟩, by simp, .inr hx, fun i hi hs => ?_⟩
    · have := hd j hj
      refine ⟨by show 7 + (j : Int) < _; omega, by show 7 + (j : Int) < _; omega, by show (nth ms j).length ≤ 8000; omega, rfl, rfl, rfl⟩
    · rcases insS_mem _ _ e he with rfl | he
      · exact ⟨j, hj, rfl⟩
      · exact h.f e he
    · rcases hs with hs | hs
      · exact .inl hs
      · exact .inr ((insS_sub E _).1 _ hs)

theorem at_eq (x : Int) {n : Nat} (h0 : 0 < n) (hn : n ≤ 64) : ∃ i : Nat, i < n ∧ law12_at x (n : Int) = some (i : Int) := by
  have h1 : (UInt64.ofInt (n : Int)).toNat = n := by rw [UInt64.ofInt, UInt64.toNat_ofNat']; omega
  have hne : ¬ (UInt64.ofInt (n : Int)) = 0 := fun e => by rw [e] at h1; simp at h1; omega
  have hm : (UInt64.ofInt x % UInt64.ofInt (n : Int)).toNat < n := by rw [UInt64.toNat_mod, h1]; exact Nat.mod_lt _ h0
  refine ⟨(UInt64.ofInt x % UInt64.ofInt (n : Int)).toNat, hm, ?_⟩
  unfold law12_at
  rw [if_pos hne]
  simp only [lt1]
  rw [w64_id (by omega)]

theorem nth_pks (ms : List (List UInt8)) {n j : Nat} (h : j < n) : nth ((List.range n).map (pkR ms)) j = pkR ms j := by
  unfold nth
  simp [List.getD_eq_getElem?_getD, h]

theorem law_reorders (ms : List (List UInt8)) (order : List Int) : law12_WindowReorders ms order = some true := by
  unfold law12_WindowReorders
  rw [sane_ok, Option.bind_some, if_neg (by simp)]
  obtain ⟨n, hn⟩ : ∃ n, n = min ms.length 64 := ⟨_, rfl⟩
  have hmn : mn64 (ms.length : Int) 64 = (n : Int) := by unfold mn64; split <;> omega
  have hn1 : n ≤ ms.length := by omega
  have hn2 : n ≤ 64 := by omega
  rw [hmn]
  simp only [lt1]
  clear hmn hn
  obtain ⟨x, hx, hxs⟩ := loopO_rule (f := fun v : Int × List Api_Packet => law12_WindowReorders_b1 ms (n : Int) v.1 v.2)
    (fun v => ∃ k : Nat, v = ((k : Int), (List.range k).map (pkR ms)) ∧ k ≤ n ∧ ∀ j, j < k → (nth ms j).length ≤ 100) (fun v => n - v.1.toNat)
    (fun x => x = .inr (.inr true) ∨ (x = .inl ((List.range n).map (pkR ms)) ∧ ∀ j, j < n → (nth ms j).length ≤ 100)) (by
      rintro v ⟨k, rfl, hk, hd⟩
      show (∃ v', law12_WindowReorders_b1 ms (n : Int) (k : Int) _ = some (.inl v') ∧ _) ∨ (∃ x, law12_WindowReorders_b1 ms (n : Int) (k : Int) _ = some (.inr x) ∧ _)
      by_cases hkn : k < n
      · have hi : InR (k : Int) ms.length := inR_of (by omega)
        by_cases hl : (nth ms k).length ≤ 100
        · left
          refine ⟨(((k + 1 : Nat) : Int), (List.range (k + 1)).map (pkR ms)), ?_, ⟨k + 1, rfl, hkn, fun j hj => ?_⟩, by simp; omega⟩
          · unfold law12_WindowReorders_b1
            rw [if_pos (by simp; omega)]
            simp only [hi, if_true, lt1, Int.toNat_natCast, w64_one (show k + 1 < 9223372036854775807 by omega)]
            rw [if_neg (by simp; omega), if_pos (fits56 (by simp; omega)), w64_id (by omega), List.range_succ, List.map_append]
            rfl
          · by_cases e : j = k
            · rw [e]; exact hl
            · exact hd j (by omega)
        · right
          refine ⟨.inr (.inr true), ?_, .inl rfl⟩
          unfold law12_WindowReorders_b1
          rw [if_pos (by simp; omega)]
          simp only [hi, if_true, lt1, Int.toNat_natCast]
          rw [if_pos (by simp; omega)]
          rfl
      · right
        have : k = n := by omega
        subst this
        refine ⟨.inl _, ?_, .inr ⟨rfl, hd⟩⟩
        unfold law12_WindowReorders_b1
        rw [if_neg (by simp)]) (v0 := (0, [])) ⟨0, rfl, Nat.zero_le _, fun j hj => absurd hj (Nat.not_lt_zero _)⟩ (by simp; omega)
  rw [hx, Option.bind_some]
  rcases hxs with rfl | ⟨rfl, hd⟩
  · rfl
  simp only [Option.bind_some]
  obtain ⟨y, hy, c, E, rfl, hI⟩ := loopO_rule (f := fun v : Int × Int × Int × Int × List (List UInt8) × Int × List Api_Packet × Int × List (List UInt8) => law12_WindowReorders_b2 order (n : Int) ((List.range n).map (pkR ms)) v.1 v.2.1 v.2.2.1 v.2.2.2.1 v.2.2.2.2.1 v.2.2.2.2.2.1 v.2.2.2.2.2.2.1 v.2.2.2.2.2.2.2.1 v.2.2.2.2.2.2.2.2)
    (fun v => ∃ (k c : Nat) (E : List Api_Packet), v = ((k : Int), 1, 2, 0, [], 7 + (c : Int), E, -1, ms.take c) ∧ InvR ms n c E) (fun v => 200 - v.1.toNat)
    (fun y => ∃ (c : Nat) (E : List Api_Packet), y = (1, 2, 0, [], 7 + (c : Int), E, -1, ms.take c) ∧ InvR ms n c E) (by
      rintro v ⟨k, c, E, rfl, hI⟩
      show (∃ v', law12_WindowReorders_b2 order (n : Int) _ (k : Int) 1 2 0 [] (7 + (c : Int)) E (-1) (ms.take c) = some (.inl v') ∧ _) ∨ (∃ x, law12_WindowReorders_b2 order (n : Int) _ (k : Int) 1 2 0 [] (7 + (c : Int)) E (-1) (ms.take c) = some (.inr x) ∧ _)
      have hg : (if decide ((k : Int) < (order.length : Int)) = true then if decide ((k : Int) < 200) = true then some (decide ((n : Int) > 0)) else some false else some false) = some (decide (k < order.length ∧ k < 200 ∧ 0 < n)) := by
        by_cases h1 : k < order.length <;> by_cases h2 : k < 200 <;> simp [h1, h2] <;> omega
      have hcn := hI.cc
      by_cases hgo : k < order.length ∧ k < 200 ∧ 0 < n
      · left
        obtain ⟨g1, g2, g3⟩ := hgo
        obtain ⟨j, hj, hat⟩ := at_eq (nth order k) g3 hn2
        obtain ⟨c', E', out, a1, a2, a3, _, _⟩ := acc_sideR hn1 hn2 hI hj hd
        have hE := eok_len hI.e
        refine ⟨(((k + 1 : Nat) : Int), 1, 2, 0, [], 7 + (c' : Int), E', -1, ms.take c'), ?_, ⟨k + 1, c', E', rfl, a2⟩, by simp; omega⟩
        unfold law12_WindowReorders_b2
        rw [hg, Option.bind_some, if_pos (by simpa using ⟨g1, g2, g3⟩), if_pos (inR_of g1), Int.toNat_natCast, hat, Option.bind_some, if_pos (inR_of (by simpa using hj)), Int.toNat_natCast, nth_pks ms hj]
        have hacc : window_Accept (sideR c E) (pkR ms j) = some (accS (sideR c E) (pkR ms j)) := acc_w _ _ (by simp [sideR]; omega)
        rw [show ({ Epoch := 1, Other := 2, First := 0, Queue := [], Next := 7 + (c : Int), Early := E, SentAt := -1 } : Api_Peer) = sideR c E from rfl, hacc, a1, Option.bind_some]
        have hl : (ms.take c ++ out).length ≤ 64 := by rw [a3]; have := a2.cc; simp; omega
        rw [if_pos (fits24 (by simpa using (Nat.le_trans hl (by omega))))]
        simp only [lt1, w64_one (show k + 1 < 9223372036854775807 by omega), a3]
        rfl
      · right
        refine ⟨(1, 2, 0, [], 7 + (c : Int), E, -1, ms.take c), ?_, c, E, rfl, hI⟩
        unfold law12_WindowReorders_b2
        rw [hg, Option.bind_some, if_neg (by simpa using hgo)]) (v0 := (0, 1, 2, 0, [], 7, [], (-1), [])) ⟨0, 0, [], rfl, ⟨Nat.zero_le _, trivial, fun e he => by cases he⟩⟩ (by simp)
  rw [hy, Option.bind_some]
  simp only [Option.bind_some]
  have hw : w64 ((n : Int) - 1) = (n : Int) - 1 := w64_id (by omega)
  rw [hw]
  obtain ⟨z, hz, c2, E2, rfl, hI2, hseen⟩ := loopO_rule (f := fun v : Int × Int × Int × Int × List (List UInt8) × Int × List Api_Packet × Int × List (List UInt8) => law12_WindowReorders_b3 ((List.range n).map (pkR ms)) v.1 v.2.1 v.2.2.1 v.2.2.2.1 v.2.2.2.2.1 v.2.2.2.2.2.1 v.2.2.2.2.2.2.1 v.2.2.2.2.2.2.2.1 v.2.2.2.2.2.2.2.2)
    (fun v => ∃ (m c : Nat) (E : List Api_Packet), v = ((m : Int) - 1, 1, 2, 0, [], 7 + (c : Int), E, -1, ms.take c) ∧ InvR ms n c E ∧ m ≤ n ∧ ∀ j, m ≤ j → j < n → seenR ms c E j) (fun v => (v.1 + 1).toNat)
    (fun y => ∃ (c : Nat) (E : List Api_Packet), y = (1, 2, 0, [], 7 + (c : Int), E, -1, ms.take c) ∧ InvR ms n c E ∧ ∀ j, j < n → seenR ms c E j) (by
      rintro v ⟨m, c, E, rfl, hI, hm, hs⟩
      show (∃ v', law12_WindowReorders_b3 _ ((m : Int) - 1) 1 2 0 [] (7 + (c : Int)) E (-1) (ms.take c) = some (.inl v') ∧ _) ∨ (∃ x, law12_WindowReorders_b3 _ ((m : Int) - 1) 1 2 0 [] (7 + (c : Int)) E (-1) (ms.take c) = some (.inr x) ∧ _)
      have hcn := hI.cc
      cases m with
      | zero =>
        right
        refine ⟨(1, 2, 0, [], 7 + (c : Int), E, -1, ms.take c), ?_, c, E, rfl, hI, fun j hj => hs j (Nat.zero_le _) hj⟩
        unfold law12_WindowReorders_b3
        rw [if_neg (by simp)]
      | succ j =>
        left
        have hj : j < n := hm
        obtain ⟨c', E', out, a1, a2, a3, a4, a5⟩ := acc_sideR hn1 hn2 hI hj hd
        have hE := eok_len hI.e
        have e1 : ((j + 1 : Nat) : Int) - 1 = (j : Int) := by omega
        refine ⟨((j : Int) - 1, 1, 2, 0, [], 7 + (c' : Int), E', -1, ms.take c'), ?_, ⟨j, c', E', rfl, a2, by omega, fun i h1 h2 => ?_⟩, by simp only; omega⟩
        · unfold law12_WindowReorders_b3
          rw [e1, if_pos (by simp), if_pos (inR_of (by simpa using hj)), Int.toNat_natCast, nth_pks ms hj]
          have hacc : window_Accept (sideR c E) (pkR ms j) = some (accS (sideR c E) (pkR ms j)) := acc_w _ _ (by simp [sideR]; omega)
          rw [show ({ Epoch := 1, Other := 2, First := 0, Queue := [], Next := 7 + (c : Int), Early := E, SentAt := -1 } : Api_Peer) = sideR c E from rfl, hacc, a1, Option.bind_some]
          have hl : (ms.take c ++ out).length ≤ 64 := by rw [a3]; have := a2.cc; simp; omega
          rw [if_pos (fits24 (by simpa using (Nat.le_trans hl (by omega))))]
          simp only [lt1, a3]
          rw [w64_id (by omega)]
          rfl
        · by_cases e : i = j
          · rw [e]; exact a4
          · exact a5 i h2 (hs i (by omega) h2)) (v0 := ((n : Int) - 1, 1, 2, 0, [], 7 + (c : Int), E, -1, ms.take c)) ⟨n, c, E, rfl, hI, Nat.le_refl _, fun j h1 h2 => absurd h2 (by omega)⟩ (by simp only; omega)
  rw [hz, Option.bind_some]
  simp only [Option.bind_some]
  have hc2 : c2 = n := by
    rcases Nat.lt_or_ge c2 n with hlt | hge
    · rcases hseen c2 hlt with h1 | h1
      · omega
      · have : 7 + (c2 : Int) < 7 + (c2 : Int) := (eok_mem hI2.e _ h1).1
        omega
    · have := hI2.cc
      omega
  subst hc2
  have hE2 : E2 = [] := by
    cases hE : E2 with
    | nil => rfl
    | cons e r =>
      have hm : e ∈ E2 := by rw [hE]; simp
      obtain ⟨j, hj, rfl⟩ := hI2.f e hm
      have : 7 + (c2 : Int) < 7 + (j : Int) := (eok_mem hI2.e _ hm).1
      omega
  subst hE2
  rw [if_pos (by unfold InB; omega), Int.toNat_natCast, msgs_same _ (by simp; omega), Option.bind_some, if_pos rfl, w64_id (by omega)]
  simp
end Go.Proofs.Ytomjphpnpcgacaa
namespace Go.Proofs.Ytomjphpnpcgacaa
open Go.Rv Go.ChangeShapes Go.WideShapes Go.ChangeAt Go.RowKit
set_option linter.unusedVariables false

set_option maxRecDepth 100000 in
theorem windowReorders_contract (H : Type) (enc : TypeId × Value → H) (W : World) (base : Nat) (args : Array Value) (ds gs : List (DataW H)) (before : List MemPlace)
    (hval0 : ∀ (j : Nat) t v, Try.f8.params[j]? = some t → args[j]? = some v → Value.okWide Try.prog W .any base t v)
    (hW : DataW.Whole enc Try.prog Try.f8.params.toList Rows.windowReordersSpec.vars false W args.toList ds gs before) :
    Calls Try.prog 8 args W fun e W' => ∃ v, e = .returned v ∧ Rows.windowReordersSpec.post enc Try.prog Try.f8 false true false false W args v W' := by
  have hval : ∀ (j : Nat) t v, Try.f8.params[j]? = some t → args[j]? = some v → Value.okWide Try.prog W .any base t v := hval0
  have hW' := hW
  obtain ⟨p, q, hA0, hV, rfl, hfz, hnd⟩ := hW
  have hA : DataW.TrodAll enc Try.prog W 0 (fun _ => true) true Try.f8.params.toList args.toList ds p := hA0
  rw [Try.params8] at hA hval
  obtain ⟨v0, vs0, d0, ds0, p0, q0, hargs, rfl, rfl, h0, r0⟩ := trodAll_cons hA
  obtain ⟨v1, vs1, d1, ds1, p1, q1, rfl, rfl, rfl, h1, r1⟩ := trodAll_cons r0
  obtain ⟨rfl, rfl, rfl⟩ := trodAll_nil r1
  obtain rfl : args = #[v0, v1] := by cases args; simp_all
  obtain ⟨rfl, rfl⟩ := trodVars_none hV
  obtain ⟨x0, hsz0, hok0, hrep0⟩ := arg_one opens22 (fun x => ⟨_, rfl⟩) (vcells_slice Try.underlying22 (hval 0 22 v0 rfl rfl)) h0 (pr := prot (B.env fun _ => False) []) (fun a => prot_empty a)
  obtain ⟨x1, hsz1, hok1, hrep1⟩ := arg_one opens58 (fun x => ⟨_, rfl⟩) (vcells_slice Try.underlying58 (hval 1 58 v1 rfl rfl)) h1 (pr := prot (B.env fun _ => False) []) (fun a => prot_empty a)
  refine (law_calls G_none (law12_WindowReorders_con (law_reorders x0 x1 )) Try.func8 rfl (by decide +kernel) (W := W) (args := #[v0, v1]) ⟨hrep0 _ rfl, hrep1 _ rfl, trivial⟩).mono fun e W' ⟨he, hbel⟩ => ?_
  exact ⟨_, he, law_post hW' rfl rfl rfl Try.underlying4 laid_ok (by decide +kernel) hbel⟩

set_option maxRecDepth 100000 in
theorem windowReorders_lifted (os : Os) (started : os.Started) (H : Type) (enc : TypeId × Value → H) :
    ReturnsInHanded {} Try.checked os 8 .any (Rows.windowReordersSpec.pre6 enc Try.prog Try.f8 Rows.windowReordersRow.domain false) (Rows.windowReordersSpec.post enc Try.prog Try.f8 false true false false) := by
  refine returnsInHanded_of_change (C := Try.checked) own started (by kernel_rfl) Try.func8
    (ChangeSpec.witness6 (enc := enc) (C := Try.checked) false ⟨#[], #[.slice none 0 0, .slice none 0 0], []⟩ 8 (by kernel_rfl) (by kernel_rfl) (by kernel_rfl) (by kernel_rfl)) ?_
  intro W base args ds gs before hval hW _ _
  exact windowReorders_contract H enc W base args ds gs before hval hW

theorem windowReorders_said : Rows.WindowReordersSaid :=
  OpenClaim.holds_of_wide 8 Try.f8 rfl rfl rfl rfl rfl rfl rfl ⟨rfl, rfl, rfl, rfl, rfl⟩ rfl rfl rfl rfl rfl (by kernel_rfl) Try.func8 (by kernel_rfl)
    (of_decide_eq_true (by kernel_rfl)) (by unfold Func.isWrapper; first | (rw [if_pos (by decide +kernel)]; kernel_rfl) | (rw [if_neg (by decide +kernel)]; exact ⟨rfl, rfl⟩))
    (fun os started H enc _ => windowReorders_lifted os started H enc)

end Go.Proofs.Ytomjphpnpcgacaa
