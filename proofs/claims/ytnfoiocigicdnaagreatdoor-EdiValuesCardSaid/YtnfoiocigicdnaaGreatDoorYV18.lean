/-
  Part 18.
-/
import Derived.Test.YtnfoiocigicdnaaGreatDoorYV17
namespace Go.Rv
set_option linter.unusedVariables false
set_option linter.unusedSimpArgs false
variable {E : Env}
def Anb : AV → Bool
  | .tup _ => true
  | _ => false
def wkc (sel : List Nat) : AV → AV → Prop
  | .ref i o, .ref id o' => sel[id]? = some i ∧ o = o'
  | .tref i t, .tref id t' => sel[id]? = some i ∧ t = t'
  | x, y => x = y ∧ y.closed = true ∧ Anb y = false
def Apz (sel : List Nat) : List AV → List AV → Prop
  | [], [] => True
  | x :: xs, y :: ys => wkc sel x y ∧ Apz sel xs ys
  | _, _ => False
theorem Vp {sel : List Nat} : ∀ {xs ys : List AV}, Apz sel xs ys → xs.length = ys.length ∧ ∀ (i : Nat) (y : AV), ys[i]? = some y → ∃ x, xs[i]? = some x ∧ wkc sel x y
  | [], [], _ => ⟨rfl, fun i y h => by simp at h⟩
  | x :: xs, y :: ys, h => by
    obtain ⟨h1, h2⟩ := Vp h.2
    refine ⟨by simp [h1], fun i z hz => ?_⟩
    cases i with
    | zero => simp at hz; subst hz; exact ⟨x, rfl, h.1⟩
    | succ i => simpa using h2 i z (by simpa using hz)
theorem Nd {sel : List Nat} {x y : AV} (h : wkc sel x y) : ∀ ys, y ≠ .tup ys := by
  rintro ys rfl
  cases x <;> (simp only [wkc] at h; obtain ⟨_, _, h3⟩ := h; cases h3)
theorem Nr {sel : List Nat} {x y : AV} (h : wkc sel x y) : (∃ i o id, x = .ref i o ∧ y = .ref id o ∧ sel[id]? = some i) ∨ (∃ i o id, x = .tref i o ∧ y = .tref id o ∧ sel[id]? = some i) ∨ (x = y ∧ y.closed = true) := by
  unfold wkc at h
  split at h
  · obtain ⟨h1, rfl⟩ := h; exact .inl ⟨_, _, _, rfl, rfl, h1⟩
  · obtain ⟨h1, rfl⟩ := h; exact .inr (.inl ⟨_, _, _, rfl, rfl, h1⟩)
  · exact .inr (.inr ⟨h.1, h.2.1⟩)
def wk0 (sel : List Nat) : AV → AV → Prop
  | _, .junk => True
  | .bs f i t o l, .bs f' id t' o' l' => sel[id]? = some i ∧ (f' = true → f = true) ∧ t = t' ∧ o = o' ∧ l = l'
  | .ref i o, .ref id o' => sel[id]? = some i ∧ o = o'
  | .tref i t, .tref id t' => sel[id]? = some i ∧ t = t'
  | .mref i, .mref id => sel[id]? = some i
  | .nref i, .nref id => sel[id]? = some i
  | .eref i t a b, .eref id t' a' b' => sel[id]? = some i ∧ t = t' ∧ a = a' ∧ b = b'
  | .sl f els, .sl f' els' => (f' = true → f = true) ∧ els = els'
  | .fn f cs, .fn f' cs' => (AV.fn f cs = AV.fn f' cs' ∧ (AV.fn f' cs').closed = true) ∨ (f = f' ∧ Apz sel cs cs')
  | x, y => x = y ∧ y.closed = true
def wkL (sel : List Nat) : List AV → List AV → Prop
  | [], [] => True
  | x :: xs, y :: ys => wk0 sel x y ∧ wkL sel xs ys
  | _, _ => False
def wk1 (sel : List Nat) : AV → AV → Prop
  | .agg xs, .agg ys => wkL sel xs ys
  | .tup xs, .tup ys => wkL sel xs ys
  | x, y => wk0 sel x y
def Acn (sel : List Nat) : ABlk → ABlk → Prop
  | .box cs ro, .box cs' ro' => ro = ro' ∧ wkL sel cs cs'
  | .buf k els ro, .buf k' els' ro' => k = k' ∧ ro = ro' ∧ els = els' ∧ Cp els' = true
  | .obj o, .obj o' => o = o'
  | .tb T l, .tb T' l' => T = T' ∧ l = l'
  | _, _ => False
def Kb (sel : List Nat) (σ : Ab) : List Nat → Ab → Prop
  | [], [] => True
  | i :: l, b' :: σ' => (match σ[i]? with
    | some b => Acn sel b b'
    | none => False) ∧ Kb sel σ l σ'
  | _, _ => False
def Akd (sel : List Nat) (l : Fr) : Fr → Prop
  | [] => True
  | p :: l' => wk1 sel (Gk l p.1) p.2 ∧ Akd sel l l'
theorem Kp {sel : List Nat} : ∀ {xs ys : List AV}, wkL sel xs ys → xs.length = ys.length ∧ ∀ (i : Nat) (y : AV), ys[i]? = some y → ∃ x, xs[i]? = some x ∧ wk0 sel x y
  | [], [], _ => ⟨rfl, fun i y h => by simp at h⟩
  | x :: xs, y :: ys, h => by
    obtain ⟨h1, h2⟩ := Kp h.2
    refine ⟨by simp [h1], fun i z hz => ?_⟩
    cases i with
    | zero => simp at hz; subst hz; exact ⟨x, rfl, h.1⟩
    | succ i => simpa using h2 i z (by simpa using hz)
theorem Ns {sel : List Nat} {σ : Ab} : ∀ {l : List Nat} {σ' : Ab}, Kb sel σ l σ' → l.length = σ'.length ∧ ∀ (id : Nat) (b' : ABlk), σ'[id]? = some b' → ∃ i b, l[id]? = some i ∧ σ[i]? = some b ∧ Acn sel b b'
  | [], [], _ => ⟨rfl, fun i y h => by simp at h⟩
  | i :: l, b' :: σ', h => by
    obtain ⟨h1, h2⟩ := Ns h.2
    refine ⟨by simp [h1], fun id z hz => ?_⟩
    cases id with
    | zero =>
      simp at hz
      subst hz
      have h3 := h.1
      split at h3
      · rename_i b hb; exact ⟨i, b, rfl, hb, h3⟩
      · exact h3.elim
    | succ id => simpa using h2 id z (by simpa using hz)
theorem Xd {sel : List Nat} {l : Fr} : ∀ {l' : Fr}, Akd sel l l' → ∀ t, Gk l' t = .junk ∨ wk1 sel (Gk l t) (Gk l' t)
  | [], _, t => .inl rfl
  | p :: l', h, t => by
    show (if t = p.1 then p.2 else Gk l' t) = _ ∨ wk1 sel _ (if t = p.1 then p.2 else Gk l' t)
    by_cases e : t = p.1
    · rw [if_pos e]; right; rw [e]; exact h.1
    · rw [if_neg e]; exact Xd h.2 t
def Dl (sel : List Nat) (g : Gh) : Gh := sel.map fun i => g.getD i ⟨none, 0, 0, 0, 0, false, false⟩
theorem A5 {sel : List Nat} {g : Gh} {id : Nat} {b : GB} (hs : ∀ i ∈ sel, i < g.length) : (Dl sel g)[id]? = some b ↔ ∃ i, sel[id]? = some i ∧ g[i]? = some b := by
  unfold Dl
  rw [List.getElem?_map, Option.map_eq_some_iff]
  constructor
  · rintro ⟨i, hi, rfl⟩
    have := hs i (List.mem_of_getElem? hi)
    exact ⟨i, hi, by rw [List.getElem?_eq_getElem this, List.getD_eq_getElem?_getD, List.getElem?_eq_getElem this]; rfl⟩
  · rintro ⟨i, hi, hb⟩
    exact ⟨i, hi, by rw [List.getD_eq_getElem?_getD, hb]; rfl⟩
section
variable {w : World} {g : Gh} {sel : List Nat}
theorem G5 (hs : ∀ i ∈ sel, i < g.length) {a : Addr} (h : A2 E g a) : A2 E (Dl sel g) a :=
  ⟨h.1, fun id b hb hβ => by obtain ⟨i, _, hi⟩ := (A5 hs).1 hb; exact h.2 i b hi hβ⟩
theorem D9 (hs : ∀ i ∈ sel, i < g.length) {β : Nat} (h : Gu (Dl sel g) β) : Gu g β := by
  obtain ⟨id, b, hb, hβ⟩ := h
  obtain ⟨i, _, hi⟩ := (A5 hs).1 hb
  exact ⟨i, b, hi, hβ⟩
theorem Rt (hs : ∀ i ∈ sel, i < g.length) {v : Value} {x y : AV} (h : Rep w (A2 E g) g v x) (hw : wk0 sel x y) : Rep w (A2 E (Dl sel g)) (Dl sel g) v y := by
  have hcl : ∀ {z : AV}, Rep w (A2 E g) g v z → z.closed = true → Rep w (A2 E (Dl sel g)) (Dl sel g) v z := fun h1 h2 =>
    (Cq h1 h2).mono (fun a u hc hp => ⟨hc, G5 hs hp⟩) (GLe.nil _)
  by_cases hj : y = .junk
  · subst hj; exact .junk _ _
  cases x <;> cases y <;> first
    | exact (hj rfl).elim
    | (simp only [wk0] at hw; exfalso; have h1 := hw.1; cases h1; done)
    | (simp only [wk0] at hw; obtain ⟨e, hc⟩ := hw; rw [← e] at hc ⊢; exact hcl h hc; done)
    | skip
  case bs.bs f i t o l f' id t' o' l' =>
    simp only [wk0] at hw
    obtain ⟨h1, h2, rfl, rfl, rfl⟩ := hw
    cases h with
    | bs _ _ _ _ _ _ _ b hb hx ht h ho =>
      refine .bs _ _ _ _ _ _ _ b ((A5 hs).2 ⟨i, h1, hb⟩) hx ht (fun e => ?_) ho
      obtain ⟨a, cap, q1, q2, q3, q4, q5⟩ := h e
      exact ⟨a, cap, q1, q2, fun e => q3 (h2 e), q4, q5⟩
  case ref.ref i o id o' =>
    simp only [wk0] at hw
    obtain ⟨h1, rfl⟩ := hw
    cases h with
    | ref _ _ _ β b hb hx hβ => exact .ref _ _ _ β b ((A5 hs).2 ⟨i, h1, hb⟩) hx hβ
  case tref.tref i t id t' =>
    simp only [wk0] at hw
    obtain ⟨h1, rfl⟩ := hw
    cases h with
    | tref _ _ _ β b hb hx hβ ht => exact .tref _ _ _ β b ((A5 hs).2 ⟨i, h1, hb⟩) hx hβ ht
  case mref.mref i id =>
    simp only [wk0] at hw
    cases h with
    | mref _ _ β b hb hx hβ => exact .mref _ _ β b ((A5 hs).2 ⟨i, hw, hb⟩) hx hβ
  case nref.nref i id =>
    simp only [wk0] at hw
    cases h with
    | nref _ _ _ b hb hx h => exact .nref _ _ _ b ((A5 hs).2 ⟨i, hw, hb⟩) hx h
  case eref.eref i t a b' id t' a' b2 =>
    simp only [wk0] at hw
    obtain ⟨h1, rfl, rfl, rfl⟩ := hw
    cases h with
    | eref _ _ _ _ _ _ b hb hx ht h ho => exact .eref _ _ _ _ _ _ b ((A5 hs).2 ⟨i, h1, hb⟩) hx ht h ho
  case sl.sl f els f' els' =>
    simp only [wk0] at hw
    obtain ⟨h1, rfl⟩ := hw
    have : Rep w (A2 E g) g v (.sl f' els) := by
      cases h with
      | sl _ a len cap _ _ k c hlen hcap hfull hnone hk hc hr => exact .sl _ a len cap f' els k c hlen hcap (fun e => hfull (h1 e)) hnone hk hc hr
    exact hcl this (by simp [AV.closed])
  case fn.fn f cs f' cs' =>
    simp only [wk0] at hw
    rcases hw with ⟨e, hc⟩ | ⟨rfl, hw⟩
    · rw [← e] at hc ⊢; exact hcl h hc
    obtain ⟨l1, l2⟩ := Vp hw
    have hnt : ∀ ys, cs' ≠ [.tup ys] := by
      rintro ys rfl
      obtain ⟨x, _, hx⟩ := l2 0 _ rfl
      exact Nd hx ys rfl
    have conv : ∀ {u : Value} {x y : AV}, Rep w (A2 E g) g u x → wkc sel x y → Rep w (A2 E (Dl sel g)) (Dl sel g) u y := by
      intro u x y hr hxy
      rcases Nr hxy with ⟨i, o, id, rfl, rfl, h1⟩ | ⟨i, o, id, rfl, rfl, h1⟩ | ⟨rfl, hc⟩
      · cases hr with
        | ref _ _ _ β b hb hx hβ => exact .ref _ _ _ β b ((A5 hs).2 ⟨i, h1, hb⟩) hx hβ
      · cases hr with
        | tref _ _ _ β b hb hx hβ ht => exact .tref _ _ _ β b ((A5 hs).2 ⟨i, h1, hb⟩) hx hβ ht
      · exact (Cq hr hc).mono (fun a u hc hp => ⟨hc, G5 hs hp⟩) (GLe.nil _)
    cases h with
    | fn _ _ caps _ hsz hr hn =>
      refine .fn _ _ caps cs' (by omega) (fun i y hy => ?_) hnt
      obtain ⟨x, hx, hxy⟩ := l2 i y hy
      exact conv (hr i x hx) hxy
    | fnb _ _ fs xs hsz hr =>
      exfalso
      match cs', hw with
      | [y], hw =>
        obtain ⟨hy, _⟩ := hw
        rcases Nr hy with ⟨i, o, id, h1, _⟩ | ⟨i, o, id, h1, _⟩ | ⟨h1, _⟩
        · cases h1
        · cases h1
        · exact Nd hy _ h1.symm
theorem AiL (hs : ∀ i ∈ sel, i < g.length) {v : Value} {x y : AV} (h : Rep w (A2 E g) g v x) (hw : wk1 sel x y) : Rep w (A2 E (Dl sel g)) (Dl sel g) v y := by
  by_cases ha : ∃ xs ys, x = .agg xs ∧ y = .agg ys
  · obtain ⟨xs, ys, rfl, rfl⟩ := ha
    simp only [wk1] at hw
    obtain ⟨h1, h2⟩ := Kp hw
    cases h with
    | agg _ vs _ hs' ho hr =>
      refine .agg _ vs ys (by omega) (fun i y hy => ?_) (fun i y hy => ?_)
      · obtain ⟨x, hx, _⟩ := h2 i y hy; exact ho i x hx
      · obtain ⟨x, hx, hxy⟩ := h2 i y hy; exact Rt hs (hr i x hx) hxy
  by_cases hb : ∃ xs ys, x = .tup xs ∧ y = .tup ys
  · obtain ⟨xs, ys, rfl, rfl⟩ := hb
    simp only [wk1] at hw
    obtain ⟨h1, h2⟩ := Kp hw
    cases h with
    | tup _ vs _ hs' hr =>
      refine .tup _ vs ys (by omega) (fun i y hy => ?_)
      obtain ⟨x, hx, hxy⟩ := h2 i y hy; exact Rt hs (hr i x hx) hxy
  have : wk1 sel x y = wk0 sel x y := by
    cases x <;> cases y <;> first
      | rfl
      | exact (ha ⟨_, _, rfl, rfl⟩).elim
      | exact (hb ⟨_, _, rfl, rfl⟩).elim
  exact Rt hs h (this ▸ hw)
end
theorem Nn : ∀ {l : List Nat}, l.Nodup → ∀ {i j : Nat} (hi : i < l.length) (hj : j < l.length), l[i] = l[j] → i = j
  | [], _, i, j, hi, _, _ => by simp at hi
  | x :: l, h, 0, 0, _, _, _ => rfl
  | x :: l, h, 0, j + 1, _, hj, e => by
    exfalso
    have := (List.nodup_cons.1 h).1
    refine this ?_
    have e' : x = l[j]'(by simpa using hj) := e
    rw [e']
    exact List.getElem_mem _
  | x :: l, h, i + 1, 0, hi, _, e => by
    exfalso
    have := (List.nodup_cons.1 h).1
    refine this ?_
    have e' : l[i]'(by simpa using hi) = x := e
    rw [← e']
    exact List.getElem_mem _
  | x :: l, h, i + 1, j + 1, hi, hj, e => by
    have := Nn (List.nodup_cons.1 h).2 (by simpa using hi) (by simpa using hj) e
    omega
theorem Abu {n N : Nat} {l l' : Fr} {σ σ' : Ab} (sel : List Nat) (hnd : sel.Nodup) (hn : sel.take n = List.range n) (hσ : Kb sel σ sel σ') (hf : Akd sel l l') : Weak E n ⟨Am N l, σ⟩ ⟨Am N l', σ'⟩ := by
  obtain ⟨hl, hget⟩ := Ns hσ
  refine Hi fun a w g h => ?_
  have hm := h.mem
  have hlen : g.length = σ.length := hm.len
  have hs : ∀ i ∈ sel, i < g.length := by
    intro i hi
    obtain ⟨id, hid, rfl⟩ := List.getElem_of_mem hi
    obtain ⟨i', b, h1, h2, _⟩ := hget id (σ'[id]'(by omega)) (List.getElem?_eq_getElem _)
    rw [List.getElem?_eq_getElem hid] at h1
    cases h1
    rw [hlen]
    exact (List.getElem?_eq_some_iff.1 h2).1
  refine ⟨Dl sel g, ⟨?_, ?_, ?_, h.defers⟩, ?_⟩
  · have := h.size; simpa [Am] using this
  · intro t x hx
    rw [Er] at hx
    split at hx
    case isFalse => cases hx
    rename_i ht
    cases hx
    rcases Xd hf t with e | e
    · rw [e]; exact .junk _ _
    · exact AiL hs (h.slot t _ (by rw [Er, if_pos ht])) e
  · refine ⟨by simp [Dl, hl], ?_, ?_, fun a ha => ⟨(hm.foreign a ha).1, fun hh => (hm.foreign a ha).2 (D9 hs hh)⟩, ?_, hm.maps, fun i vs h => ⟨fun hh => (hm.whole i vs h).1 (D9 hs hh), (hm.whole i vs h).2⟩⟩
    · intro id b ab' h1 h2
      obtain ⟨i, ab, e1, e2, e3⟩ := hget id ab' h2
      obtain ⟨i', f1, f2⟩ := (A5 hs).1 h1
      rw [e1] at f1
      cases f1
      have hk := hm.blk i b ab f2 e2
      cases ab with
      | box cs ro =>
        cases ab' with
        | buf => exact e3.elim
        | obj => exact e3.elim
        | tb => exact e3.elim
        | box cs' ro' =>
          obtain ⟨rfl, e4⟩ := e3
          obtain ⟨e5, e6⟩ := Kp e4
          obtain ⟨k1, k2, k3, k4, k5, β, arr, t, fz, k6, k7, k8, k9, k10⟩ := hk
          refine ⟨k1, k2, k3, by omega, k5, β, arr, t, fz, k6, k7, by omega, k9, fun j y hj => ?_⟩
          obtain ⟨x, hx, hxy⟩ := e6 j y hj
          exact ⟨Rt hs (k10 j x hx).1 hxy, (k10 j x hx).2⟩
      | buf k els ro =>
        cases ab' with
        | box => exact e3.elim
        | obj => exact e3.elim
        | tb => exact e3.elim
        | buf k' els' ro' =>
          obtain ⟨rfl, rfl, rfl, e4⟩ := e3
          obtain ⟨k1, k2, k3, k4, k5, k6, k7⟩ := hk
          refine ⟨k1, k2, k3, k4, k5, k6, fun β hβ => ?_⟩
          obtain ⟨arr, t, fz, g1, g2, g3, g4, g5⟩ := k7 β hβ
          refine ⟨arr, t, fz, g1, g2, g3, g4, fun i cs j x hi hj => ⟨?_, (g5 i cs j x hi hj).2⟩⟩
          have hcl : x.closed = true := List.all_eq_true.1 (List.all_eq_true.1 e4 cs (List.mem_of_getElem? hi)) x (List.mem_of_getElem? hj)
          exact (Cq (g5 i cs j x hi hj).1 hcl).mono (fun a u hc hp => ⟨hc, G5 hs hp⟩) (GLe.nil _)
      | obj o =>
        cases ab' with
        | box => exact e3.elim
        | buf => exact e3.elim
        | tb => exact e3.elim
        | obj o' =>
          obtain rfl : o = o' := e3
          exact hk
      | tb T l =>
        cases ab' with
        | box => exact e3.elim
        | buf => exact e3.elim
        | obj => exact e3.elim
        | tb T' l' =>
          obtain ⟨rfl, rfl⟩ := e3
          exact Abn hk
    · intro id id' b b' β h1 h2 e1 e2
      obtain ⟨i, f1, f2⟩ := (A5 hs).1 h1
      obtain ⟨i', f1', f2'⟩ := (A5 hs).1 h2
      have := hm.inj i i' b b' β f2 f2' e1 e2
      subst this
      have hi1 := (List.getElem?_eq_some_iff.1 f1)
      have hi2 := (List.getElem?_eq_some_iff.1 f1')
      obtain ⟨l1, q1⟩ := hi1
      obtain ⟨l2, q2⟩ := hi2
      exact Nn hnd l1 l2 (q1.trans q2.symm)
    · intro i cs hG
      obtain ⟨q1, q2, q3, c, q4⟩ := hm.glob i cs hG
      exact ⟨q1, fun hh => q2 (D9 hs hh), q3, c, fun j x hj => ⟨(q4 j x hj).1, (q4 j x hj).2.1.mono (fun a u hc hp => ⟨hc, G5 hs hp⟩) (GLe.nil _), (q4 j x hj).2.2⟩⟩
  · refine ⟨rfl, rfl, rfl, Nat.le_refl _, fun a u hc hp => ⟨hc, G5 hs hp⟩, fun β _ hn' => ⟨rfl, fun hh => hn' (D9 hs hh)⟩, fun id hid b hb => ⟨b, (A5 hs).2 ⟨id, ?_, hb⟩, GB.step.refl b⟩⟩
    have : (sel.take n)[id]? = some id := by rw [hn, List.getElem?_range hid]
    rw [List.getElem?_take, if_pos hid] at this
    exact this
theorem Ey {w : World} {g : Gh} {σ : Ab} (hm : Mem E w g σ) (k : Nat) : Mem E w (g ++ [⟨none, 0, k, 0, 0, false, false⟩]) (σ ++ [.buf k [] false]) ∧
    (∀ a, A2 E g a → A2 E (g ++ [⟨none, 0, k, 0, 0, false, false⟩]) a) ∧ (∀ β, Gu (g ++ [⟨none, 0, k, 0, 0, false, false⟩]) β → Gu g β) := by
  have hget : ∀ (id : Nat) (b : GB), (g ++ [(⟨none, 0, k, 0, 0, false, false⟩ : GB)])[id]? = some b → (g[id]? = some b) ∨ (id = g.length ∧ b = ⟨none, 0, k, 0, 0, false, false⟩) := by
    intro id b h
    rcases Nat.lt_or_ge id g.length with hl | hl
    · rw [List.getElem?_append_left hl] at h; exact .inl h
    · rw [List.getElem?_append_right hl] at h
      have : id - g.length = 0 := by
        have := (List.getElem?_eq_some_iff.1 h).1; simp at this; exact this
      rw [this] at h
      simp at h
      exact .inr ⟨by omega, h.symm⟩
  have hp : ∀ a, A2 E g a → A2 E (g ++ [⟨none, 0, k, 0, 0, false, false⟩]) a := fun a h => ⟨h.1, fun id b hb hβ => by
    rcases hget id b hb with h2 | ⟨_, rfl⟩
    · exact h.2 id b h2 hβ
    · cases hβ⟩
  have hmine : ∀ β, Gu (g ++ [⟨none, 0, k, 0, 0, false, false⟩]) β → Gu g β := by
    rintro β ⟨id, b, hb, hβ⟩
    rcases hget id b hb with h2 | ⟨_, rfl⟩
    · exact ⟨id, b, h2, hβ⟩
    · cases hβ
  refine ⟨⟨by simp [hm.len], ?_, ?_, fun a ha => ⟨(hm.foreign a ha).1, fun hh => (hm.foreign a ha).2 (hmine _ hh)⟩, ?_, hm.maps, fun i vs h => ⟨fun hh => (hm.whole i vs h).1 (hmine _ hh), (hm.whole i vs h).2⟩⟩, hp, hmine⟩
  · intro id b ab h1 h2
    rcases hget id b h1 with h3 | ⟨rfl, rfl⟩
    · have hl : id < σ.length := by rw [← hm.len]; exact (List.getElem?_eq_some_iff.1 h3).1
      rw [List.getElem?_append_left hl] at h2
      exact (hm.blk id b ab h3 h2).mono (fun a u hc hpr => ⟨hc, hp a hpr⟩) (GLe.append _ _) (fun _ _ => rfl)
    · rw [hm.len, List.getElem?_append_right (Nat.le_refl _)] at h2
      simp at h2
      subst h2
      exact ⟨rfl, rfl, rfl, rfl, by simp, fun _ => ⟨.inl rfl, rfl⟩, by simp⟩
  · intro id id' b b' β h1 h2 e1 e2
    rcases hget id b h1 with h3 | ⟨rfl, rfl⟩
    · rcases hget id' b' h2 with h4 | ⟨rfl, rfl⟩
      · exact hm.inj id id' b b' β h3 h4 e1 e2
      · cases e2
    · cases e1
  · intro i cs hG
    obtain ⟨q1, q2, q3, c, q4⟩ := hm.glob i cs hG
    exact ⟨q1, fun hh => q2 (hmine _ hh), q3, c, fun j x hj => ⟨(q4 j x hj).1, (q4 j x hj).2.1.mono (fun a u hc hpr => ⟨hc, hp a hpr⟩) (GLe.nil _), (q4 j x hj).2.2⟩⟩
theorem K9 {w : World} {g : Gh} {pr pr' : Addr → Prop} {v : Value} (h : Rep w pr g v (.sl true [])) (k : Nat) : Rep w pr' (g ++ [⟨none, 0, k, 0, 0, false, false⟩]) v (.bs true g.length 0 0 0) := by
  cases h with
  | sl _ a len cap _ _ k' c hlen hcap hfull hnone hk hc hr =>
    simp at hlen
    subst hlen
    have := hfull rfl
    refine .bs _ _ _ _ _ _ _ ⟨none, 0, k, 0, 0, false, false⟩ (by rw [List.getElem?_append_right (Nat.le_refl _)]; simp) rfl (Nat.le_refl _) (fun _ => ⟨a, cap, rfl, hcap, fun _ => this, Nat.le_refl _, .inl this⟩) rfl
theorem Ku {w : World} {g : Gh} {σ : Ab} (hm : Mem E w g σ) (n k : Nat) : Evo E n w g w (g ++ [⟨none, 0, k, 0, 0, false, false⟩]) := by
  obtain ⟨_, hp, hmine⟩ := Ey hm k
  exact ⟨rfl, rfl, rfl, Nat.le_refl _, fun a u hc hpr => ⟨hc, hp a hpr⟩, fun β _ hn => ⟨rfl, fun hh => hn (hmine β hh)⟩, fun id _ b hb => GLe.append g _ id b hb⟩
theorem Gp {n N : Nat} {l : Fr} {σ : Ab} (id j k : Nat) {cs : List AV} {ro : Bool} (hσ : σ[id]? = some (.box cs ro)) (h : cs[j]? = some (.sl true [])) :
    Weak E n ⟨Am N l, σ⟩ ⟨Am N l, σ.set id (.box (cs.set j (.bs true σ.length 0 0 0)) ro) ++ [.buf k [] false]⟩ := by
  refine Hi fun a w g hr => ⟨_, ⟨?_, ?_, ?_, hr.defers⟩, Ku hr.mem n k⟩
  · have := hr.size; simpa [Am] using this
  · intro s x hx
    exact (hr.slot s x hx).mono (fun a u hc hpr => ⟨hc, (Ey hr.mem k).2.1 a hpr⟩) (GLe.append _ _)
  · have hm := (Ey hr.mem k).1
    have hid : id < σ.length := (List.getElem?_eq_some_iff.1 hσ).1
    refine ⟨by simp [hr.mem.len], ?_, hm.inj, hm.foreign, hm.glob, hm.maps, hm.whole⟩
    intro id' b ab h1 h2
    by_cases e : id' = id
    · subst e
      rw [List.getElem?_append_left (by simpa using hid), List.getElem?_set_self hid] at h2
      cases h2
      obtain ⟨k1, k2, k3, k4, k5, β, arr, t, fz, k6, k7, k8, k9, k10⟩ := hm.blk id' b (.box cs ro) h1 (by rw [List.getElem?_append_left hid]; exact hσ)
      refine ⟨k1, k2, k3, by simpa using k4, k5, β, arr, t, fz, k6, k7, by simpa using k8, k9, fun j' x hj => ?_⟩
      rw [List.getElem?_set] at hj
      by_cases e2 : j = j'
      · subst e2
        rw [if_pos rfl] at hj
        split at hj
        case isFalse => cases hj
        cases hj
        refine ⟨?_, (k10 j _ h).2⟩
        have hb0 : g[id']? = some b := by
          rw [List.getElem?_append_left (by rw [hr.mem.len]; exact hid)] at h1; exact h1
        obtain ⟨_, _, _, _, _, β0, arr0, t0, fz0, k60, k70, _, _, k100⟩ := hr.mem.blk id' b (.box cs ro) hb0 hσ
        rw [k6] at k60; cases k60
        rw [k7] at k70; obtain ⟨rfl, _, _⟩ := Obj.cells.inj (Option.some.inj k70)
        rw [← hr.mem.len]
        exact K9 (k100 j _ h).1 k
      · rw [if_neg e2] at hj
        exact k10 j' x hj
    · refine hm.blk id' b ab h1 ?_
      rcases Nat.lt_or_ge id' σ.length with hl | hl
      · rw [List.getElem?_append_left (by simpa using hl), List.getElem?_set_ne (fun e2 => e e2.symm)] at h2
        rw [List.getElem?_append_left hl]; exact h2
      · rw [List.getElem?_append_right (by simpa using hl)] at h2
        rw [List.getElem?_append_right hl]; simpa using h2
theorem Ac0 {w : World} {g : Gh} {st : St} {a : Act} (h : Rel E w g st a) (n : Nat) (ids : List Nat) : ∃ g', Rel E w g' ⟨st.fr, J9 st.σ ids⟩ a ∧ Evo E n w g w g' ∧ Abd g g' ∧ (∀ a, A2 E g a → A2 E g' a) := by
  obtain ⟨g', m1, hle, he, hs, hp⟩ := Lg ids h.mem
  exact ⟨g', ⟨h.size, fun t x hx => (h.slot t x hx).mono (fun a u hc hpr => ⟨hc, hp a hpr⟩) hle, m1, h.defers⟩, he.of_gle hle, hs, hp⟩
def R2 (E : Env) {V : Type} (n : Nat) (S : V → St) (J : V → Prop) (K : Dx) : Dx := fun ex st' => match ex with
  | .normal => ∃ v, J v ∧ Weak E n st' (S v)
  | ex => K ex st'
theorem Abi {V : Type} {n : Nat} {A B : Code} {st : St} {K : Dx} (S : V → St) (J : V → Prop) (hA : Run E n A st (R2 E n S J K)) (hB : ∀ v, J v → Run E n B (S v) K) : Run E n (.seq A B) st K := by
  refine L9 (G9 hA ?_)
  intro ex st' h
  cases ex <;> first
    | (obtain ⟨v, hv, hw⟩ := h; exact Fp hw (hB v hv))
    | exact h
def La {V X : Type} (f : V → Option (V ⊕ X)) : Nat → V → Option X
  | 0, _ => none
  | n + 1, v => match f v with
    | none => none
    | some (.inl v') => La f n v'
    | some (.inr x) => some x
def C6 {V X : Type} (f : V → Option (V ⊕ X)) (v : V) : Option X := La f 18446744073709551616 v
def lpK (E : Env) {V X : Type} (n : Nat) (S : V → St) (o : V ⊕ X) (K : Dx) : Dx := fun ex st' => match ex with
  | .normal => ∃ v', o = .inl v' ∧ Weak E n st' (S v')
  | ex => K ex st'
theorem Xu {V X : Type} {f : V → Option (V ⊕ X)} {n : Nat} {c : Code} {K : Dx} {x : X} (S : V → St) (h : ∀ v o, f v = some o → (∀ x', o = .inr x' → x' = x) → Run E n c (S v) (lpK E n S o K)) :
    ∀ (m : Nat) (v : V), La f m v = some x → LoopN E n c K m (S v)
  | 0, v, hx => by cases hx
  | m + 1, v, hx => by
    unfold La at hx
    split at hx
    · cases hx
    · rename_i v' hv
      refine G9 (h v _ hv (fun x' e => by cases e)) ?_
      intro ex st' hk
      cases ex <;> first
        | (obtain ⟨v2, e, hw⟩ := hk
           cases e
           have h2 := Xu S h m v' hx
           cases m with
           | zero => exact h2.elim
           | succ m => exact Fp hw h2)
        | exact hk
    · rename_i x' hv
      cases hx
      refine G9 (h v _ hv (fun x' e => by cases e; rfl)) ?_
      intro ex st' hk
      cases ex <;> first
        | (obtain ⟨v2, e, hw⟩ := hk; cases e)
        | exact hk
theorem Aex {V X : Type} {f : V → Option (V ⊕ X)} {v0 : V} {x : X} {n : Nat} {c : Code} {K : Dx} {st : St} (hx : C6 f v0 = some x) (S : V → St) (h0 : Weak E n st (S v0))
    (h : ∀ v o, f v = some o → (∀ x', o = .inr x' → x' = x) → Run E n c (S v) (lpK E n S o K)) : Run E n (.loop c) st K :=
  Fp h0 (Abk _ (Xu S h _ _ hx))
def AlV (K : Dx) : Dx := fun ex st' => match ex with
  | .goto _ => False
  | ex => K ex st'
theorem Hl {n N : Nat} {t : Nat} {b : Bool} {x y : Code} {l : Fr} {σ : Ab} {K : Dx} (hc : Gk l t = .bool b) (hN : t < N) (ht : b = true → Run E n x ⟨Am N l, σ⟩ K) (hf : b = false → Run E n y ⟨Am N l, σ⟩ K) : Run E n (.cond (.tmp t) x y) ⟨Am N l, σ⟩ K := by
  refine Ahb (t := b) ?_ ht hf
  rw [Hg]
  simp only [evL, if_pos hN, hc]
def Abf (E : Env) (n : Nat) (l : Fr) (σ : Ab) : List ResultVar → Option (List AV)
  | [] => some []
  | .tmp t :: r => (Abf E n l σ r).bind fun xs => some (evL n l (.tmp t) :: xs)
  | .cell p t :: r => match E.tab t with
    | some d => (loadA E σ d (evL n l (.tmp p))).bind fun x => (Abf E n l σ r).bind fun xs => some (x :: xs)
    | none => none
theorem Mv (n : Nat) (l : Fr) (σ : Ab) : ∀ rs : List ResultVar, Eh E σ (Am n l) rs = Abf E n l σ rs
  | [] => rfl
  | .tmp t :: r => by
    have : (Am n l).getD t .junk = evL n l (.tmp t) := by rw [← Hg]; rfl
    simp only [Eh, Abf, Mv n l σ r, this]
    cases Abf E n l σ r <;> rfl
  | .cell p t :: r => by
    have : (Am n l).getD p .junk = evL n l (.tmp p) := by rw [← Hg]; rfl
    simp only [Eh, Abf, Mv n l σ r, this]
    cases E.tab t with
    | none => rfl
    | some d =>
      simp only
      cases loadA E σ d (evL n l (.tmp p)) <;> cases Abf E n l σ r <;> rfl
def Ant (E : Env) (rs : List ResultVar) (r0 : AV) : Dx := fun ex st => (ex = .normal ∨ ex = .ret) ∧ ∃ xs, Eh E st.σ st.fr rs = some xs ∧ fzR st.σ (Hq xs) = some r0
theorem Aer {n : Nat} {l : Fr} {σ : Ab} {rs : List ResultVar} {r0 : AV} {ex : Exit} (hex : ex = .normal ∨ ex = .ret) (h : (Abf E n l σ rs).bind (fun xs => fzR σ (Hq xs)) = some r0) : Ant E rs r0 ex ⟨Am n l, σ⟩ := by
  rw [Option.bind_eq_some_iff] at h
  obtain ⟨xs, h1, h2⟩ := h
  exact ⟨hex, xs, by rw [Mv]; exact h1, h2⟩
theorem Hd (n : Nat) (args : List AV) (h : args.length ≤ n) (l : Fr) (hl : ∀ t, t < n → Gk l t = args.getD t .junk) : V8 n args = Am n l := by
  refine List.ext_getElem? fun t => ?_
  rw [Er]
  unfold V8
  rcases Nat.lt_or_ge t args.length with h1 | h1
  · rw [List.getElem?_append_left h1, if_pos (by omega), hl t (by omega), List.getElem?_eq_getElem h1]
    simp [List.getD_eq_getElem?_getD, List.getElem?_eq_getElem h1]
  · rw [List.getElem?_append_right h1, List.getElem?_replicate]
    by_cases h2 : t < n
    · rw [if_pos (by omega), if_pos h2, hl t h2]
      simp [List.getD_eq_getElem?_getD, List.getElem?_eq_none h1]
    · rw [if_neg (by omega), if_neg h2]
def S2 : Nat → List AV → Fr
  | _, [] => []
  | i, x :: l => (i, x) :: S2 (i + 1) l
theorem Hz : ∀ (args : List AV) (i t : Nat), i ≤ t → Gk (S2 i args) t = args.getD (t - i) .junk
  | [], i, t, h => by simp [S2, Gk]
  | x :: l, i, t, h => by
    show (if t = i then x else Gk (S2 (i + 1) l) t) = _
    by_cases e : t = i
    · subst e; simp
    · rw [if_neg e, Hz l (i + 1) t (by omega)]
      have : t - i = (t - (i + 1)) + 1 := by omega
      rw [this]; rfl
theorem Ji {B : Base} {f : FuncId} {fn : Func} {c : Code} {args : List AV} {r0 : AV} {rs : List ResultVar} {N : Nat} (hB : B.Ok) (hf : B.P.funcs[f]? = some fn) (hb : fn.body = some c) (hn : (fn.name == "runtime.NumGoroutine") = false) (hN : fn.ntmps = N) (hrs : fn.results.toList = rs)
    (hlen : args.length ≤ N) (h : ∀ F, Run (B.env F) 0 c ⟨Am N (S2 0 args), []⟩ (Ant (B.env F) rs r0)) : Con B f args [] (fun r' σ' => r' = r0 ∧ σ' = []) := by
  refine T7 (R := fun r σ' => fzR σ' r = some r0) ?_ (fun r σ' h => h)
  refine Ab0 hB hf hb hn (fun F => ?_)
  subst hN hrs
  rw [Hd fn.ntmps args hlen (S2 0 args) (fun t _ => Hz args 0 t (Nat.zero_le _))]
  refine G9 (h F) ?_
  rintro ex st ⟨h1, xs, h2, h3⟩
  exact ⟨h1, xs, h2, h3⟩
open Classical in
noncomputable def AfO : List (Nat × FuncId × List AV × AV) → Option Tmp → FuncId → List AV → Option AV
  | [], _, _, _ => none
  | e :: l, d, f, a => if d = some e.1 then (if f = e.2.1 ∧ a = e.2.2.1 then some e.2.2.2 else none) else AfO l d f a
open Classical in
noncomputable def Y6 : List (Nat × FuncId × List AV × Ab × AV × Ab) → Option Tmp → FuncId → List AV → Ab → Option (AV × Ab)
  | [], _, _, _, _ => none
  | e :: l, d, f, a, σ => if d = some e.1 then (if f = e.2.1 ∧ a = e.2.2.1 ∧ σ = e.2.2.2.1 then some e.2.2.2.2 else none) else Y6 l d f a σ
noncomputable def Acm (l : List (Nat × FuncId × List AV × AV)) (m : List (Nat × FuncId × List AV × Ab × AV × Ab)) (d : Option Tmp) : Orc := ⟨AfO l d, Y6 m d⟩
def AgY (B : Base) : List (Nat × FuncId × List AV × AV) → Prop
  | [] => True
  | e :: l => Con B e.2.1 e.2.2.1 [] (fun r' σ' => r' = e.2.2.2 ∧ σ' = []) ∧ AgY B l
def AjZ (B : Base) : List (Nat × FuncId × List AV × Ab × AV × Ab) → Prop
  | [] => True
  | e :: l => (∀ F, Wv (B.env F) e.2.1 e.2.2.1 e.2.2.2.1 e.2.2.2.2.1 e.2.2.2.2.2) ∧ AjZ B l
theorem AeY {B : Base} : ∀ {l : List (Nat × FuncId × List AV × AV)}, AgY B l → ∀ d f a r, AfO l d f a = some r → Con B f a [] (fun r' σ' => r' = r ∧ σ' = [])
  | [], _, d, f, a, r, h => by cases h
  | e :: l, hl, d, f, a, r, h => by
    unfold AfO at h
    split at h
    · split at h
      · rename_i hfa
        obtain ⟨rfl, rfl⟩ := hfa
        cases h
        exact hl.1
      · cases h
    · exact AeY hl.2 d f a r h
theorem Aep {B : Base} : ∀ {l : List (Nat × FuncId × List AV × Ab × AV × Ab)}, AjZ B l → ∀ d f a σ r σ', Y6 l d f a σ = some (r, σ') → ∀ F, Wv (B.env F) f a σ r σ'
  | [], _, d, f, a, σ, r, σ', h => by cases h
  | e :: l, hl, d, f, a, σ, r, σ', h => by
    unfold Y6 at h
    split at h
    · split at h
      · rename_i hfa
        obtain ⟨rfl, rfl, rfl⟩ := hfa
        obtain ⟨t, f, a, σ, r2, σ2⟩ := e
        cases h
        exact hl.1
      · cases h
    · exact Aep hl.2 d f a σ r σ' h
theorem Ag {B : Base} {l : List (Nat × FuncId × List AV × AV)} {m : List (Nat × FuncId × List AV × Ab × AV × Ab)} (h1 : AgY B l) (h2 : AjZ B m) : Nu B (Acm l m) := fun d => ⟨AeY h1 d, Aep h2 d⟩
theorem Gz {B : Base} {l : List (Nat × FuncId × List AV × AV)} (h1 : AgY B l) : Nu B (Acm l []) := Ag h1 trivial
theorem Aa {B : Base} : Nu B (Acm [] []) := Gz trivial
theorem Aje {l : List (Nat × FuncId × List AV × AV)} {m : List (Nat × FuncId × List AV × Ab × AV × Ab)} {d : Option Tmp} : (Acm l m d).fz = AfO l d := rfl
theorem AgT {l : List (Nat × FuncId × List AV × AV)} {m : List (Nat × FuncId × List AV × Ab × AV × Ab)} {d : Option Tmp} : (Acm l m d).own = Y6 m d := rfl
theorem AeR {t : Nat} {f : FuncId} {a : List AV} {r : AV} {l : List (Nat × FuncId × List AV × AV)} : AfO ((t, f, a, r) :: l) (some t) f a = some r := by simp [AfO]
theorem Aef {t s : Nat} {e : FuncId × List AV × AV} {l : List (Nat × FuncId × List AV × AV)} (h : (s == t) = false) : AfO ((t, e) :: l) (some s) = AfO l (some s) := by
  funext f a
  simp only [beq_eq_false_iff_ne, ne_eq] at h
  simp [AfO, h]
theorem Afw {t : Nat} {f : FuncId} {a : List AV} {σ : Ab} {r : AV × Ab} {l : List (Nat × FuncId × List AV × Ab × AV × Ab)} : Y6 ((t, f, a, σ, r) :: l) (some t) f a σ = some r := by simp [Y6]
theorem Ad3 {t s : Nat} {e : FuncId × List AV × Ab × AV × Ab} {l : List (Nat × FuncId × List AV × Ab × AV × Ab)} (h : (s == t) = false) : Y6 ((t, e) :: l) (some s) = Y6 l (some s) := by
  funext f a σ
  simp only [beq_eq_false_iff_ne, ne_eq] at h
  simp [Y6, h]
def lt1 {α β : Type} (x : α) (f : α → Option β) : Option β := f x
theorem AgH {α β : Type} {x : α} {f : α → Option β} {r : β} (h : lt1 x f = some r) : ∃ y, y = x ∧ f y = some r := ⟨x, rfl, h⟩
theorem Az {α β : Type} {x : Option α} {f : α → Option β} {r : β} (h : x.bind f = some r) : ∃ y, x = some y ∧ f y = some r := Option.bind_eq_some_iff.1 h
theorem AkX {α : Type} {b : Bool} {x y : α} {r : α} (h : (if b = true then x else y) = r) (hb : b = true) : x = r := by rw [if_pos hb] at h; exact h
theorem Amj {α : Type} {b : Bool} {x y : α} {r : α} (h : (if b = true then x else y) = r) (hb : b = false) : y = r := by rw [if_neg (by simp [hb])] at h; exact h
theorem Vv {α : Type} {c : Prop} [Decidable c] {x : Option α} {r : α} (h : (if c then x else none) = some r) : c ∧ x = some r := by
  by_cases hc : c
  · rw [if_pos hc] at h; exact ⟨hc, h⟩
  · rw [if_neg hc] at h; cases h
variable {E : Env} {n : Nat} {K : Dx} {st : St}
theorem Ajc {y : Code} (h : Run E n y st K) : Uf E n y K .normal st := h
theorem Ai7 {y : Code} (h : K .ret st) : Uf E n y K .ret st := h
theorem AfZ {i : Nat} (h : K .normal st) : I3 i K (.exit i) st := by simp only [I3, if_true]; exact h
theorem Ahc {i j : Nat} (h : K (.exit j) st) (hne : (j == i) = false) : I3 i K (.exit j) st := by
  simp only [beq_eq_false_iff_ne, ne_eq] at hne
  simp only [I3, if_neg hne]; exact h
theorem Aon : (true == true) = true := rfl
theorem AnY : (true == false) = false := rfl
theorem AnR : (false == true) = false := rfl
theorem ApT : (false == false) = true := rfl
end Go.Rv
