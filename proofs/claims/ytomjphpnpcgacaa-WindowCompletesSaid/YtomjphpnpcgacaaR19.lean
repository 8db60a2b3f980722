/-
  R19: blocks that are forgotten and renamed; joins, loops, scopes; a contract from a walk.
-/
import Derived.Test.YtomjphpnpcgacaaR18
namespace Go.Rv
set_option linter.unusedVariables false
set_option linter.unusedSimpArgs false

variable {E : Env}

/-! ### Blocks renamed -/
/-- 'sel': for each block of the new state, the block of the old one. -/
def wk0 (sel : List Nat) : AV → AV → Prop
  | _, .junk => True
  | .bs f i t o l, .bs f' id t' o' l' => sel[id]? = some i ∧ (f' = true → f = true) ∧ t = t' ∧ o = o' ∧ l = l'
  | .ref i o, .ref id o' => sel[id]? = some i ∧ o = o'
  | .eref i t a b, .eref id t' a' b' => sel[id]? = some i ∧ t = t' ∧ a = a' ∧ b = b'
  | .sl f els, .sl f' els' => (f' = true → f = true) ∧ els = els'
  | x, y => x = y ∧ y.closed = true

def wkL (sel : List Nat) : List AV → List AV → Prop
  | [], [] => True
  | x :: xs, y :: ys => wk0 sel x y ∧ wkL sel xs ys
  | _, _ => False

def wk1 (sel : List Nat) : AV → AV → Prop
  | .agg xs, .agg ys => wkL sel xs ys
  | .tup xs, .tup ys => wkL sel xs ys
  | x, y => wk0 sel x y

def blkUp (sel : List Nat) : ABlk → ABlk → Prop
  | .box cs ro, .box cs' ro' => ro = ro' ∧ wkL sel cs cs'
  | .buf k els ro, .buf k' els' ro' => k = k' ∧ ro = ro' ∧ els = els' ∧ elsClosed els' = true
  | _, _ => False

def stUp (sel : List Nat) (σ : Store) : List Nat → Store → Prop
  | [], [] => True
  | i :: l, b' :: σ' => (match σ[i]? with
    | some b => blkUp sel b b'
    | none => False) ∧ stUp sel σ l σ'
  | _, _ => False

def frUp (sel : List Nat) (l : Fr) : Fr → Prop
  | [] => True
  | p :: l' => wk1 sel (look l p.1) p.2 ∧ frUp sel l l'

theorem wkL_get {sel : List Nat} : ∀ {xs ys : List AV}, wkL sel xs ys → xs.length = ys.length ∧ ∀ (i : Nat) (y : AV), ys[i]? = some y → ∃ x, xs[i]? = some x ∧ wk0 sel x y
  | [], [], _ => ⟨rfl, fun i y h => by simp at h⟩
  | x :: xs, y :: ys, h => by
    obtain ⟨h1, h2⟩ := wkL_get h.2
    refine ⟨by simp [h1], fun i z hz => ?_⟩
    cases i with
    | zero => simp at hz; subst hz; exact ⟨x, rfl, h.1⟩
    | succ i => simpa using h2 i z (by simpa using hz)

theorem stUp_get {sel : List Nat} {σ : Store} : ∀ {l : List Nat} {σ' : Store}, stUp sel σ l σ' → l.length = σ'.length ∧ ∀ (id : Nat) (b' : ABlk), σ'[id]? = some b' → ∃ i b, l[id]? = some i ∧ σ[i]? = some b ∧ blkUp sel b b'
  | [], [], _ => ⟨rfl, fun i y h => by simp at h⟩
  | i :: l, b' :: σ', h => by
    obtain ⟨h1, h2⟩ := stUp_get h.2
    refine ⟨by simp [h1], fun id z hz => ?_⟩
    cases id with
    | zero =>
      simp at hz
      subst hz
      have h3 := h.1
      split at h3
      · rename_i b hb; exact ⟨i, b, rfl, hb, h3⟩
      · exact h3.elim
    | succ id => simpa using h2 id z (by simpa using hz)

theorem frUp_look {sel : List Nat} {l : Fr} : ∀ {l' : Fr}, frUp sel l l' → ∀ t, look l' t = .junk ∨ wk1 sel (look l t) (look l' t)
  | [], _, t => .inl rfl
  | p :: l', h, t => by
    show (if t = p.1 then p.2 else look l' t) = _ ∨ wk1 sel _ (if t = p.1 then p.2 else look l' t)
    by_cases e : t = p.1
    · rw [if_pos e]; right; rw [e]; exact h.1
    · rw [if_neg e]; exact frUp_look h.2 t

/-- The ghosts chosen. -/
def ghSel (sel : List Nat) (g : Gh) : Gh := sel.map fun i => g.getD i ⟨none, 0, 0, 0, 0, false, false⟩

theorem ghSel_get {sel : List Nat} {g : Gh} {id : Nat} {b : GB} (hs : ∀ i ∈ sel, i < g.length) : (ghSel sel g)[id]? = some b ↔ ∃ i, sel[id]? = some i ∧ g[i]? = some b := by
  unfold ghSel
  rw [List.getElem?_map, Option.map_eq_some_iff]
  constructor
  · rintro ⟨i, hi, rfl⟩
    have := hs i (List.mem_of_getElem? hi)
    exact ⟨i, hi, by rw [List.getElem?_eq_getElem this, List.getD_eq_getElem?_getD, List.getElem?_eq_getElem this]; rfl⟩
  · rintro ⟨i, hi, hb⟩
    exact ⟨i, hi, by rw [List.getD_eq_getElem?_getD, hb]; rfl⟩

section
variable {w : World} {g : Gh} {sel : List Nat}

theorem prot_sel (hs : ∀ i ∈ sel, i < g.length) {a : Addr} (h : prot E g a) : prot E (ghSel sel g) a :=
  ⟨h.1, fun id b hb hβ => by obtain ⟨i, _, hi⟩ := (ghSel_get hs).1 hb; exact h.2 i b hi hβ⟩

theorem mine_sel (hs : ∀ i ∈ sel, i < g.length) {β : Nat} (h : mine (ghSel sel g) β) : mine g β := by
  obtain ⟨id, b, hb, hβ⟩ := h
  obtain ⟨i, _, hi⟩ := (ghSel_get hs).1 hb
  exact ⟨i, b, hi, hβ⟩

theorem rep_wk0 (hs : ∀ i ∈ sel, i < g.length) {v : Value} {x y : AV} (h : Rep w (prot E g) g v x) (hw : wk0 sel x y) : Rep w (prot E (ghSel sel g)) (ghSel sel g) v y := by
  have hcl : ∀ {z : AV}, Rep w (prot E g) g v z → z.closed = true → Rep w (prot E (ghSel sel g)) (ghSel sel g) v z := fun h1 h2 =>
    (closed_rep h1 h2).mono (fun a u hc hp => ⟨hc, prot_sel hs hp⟩) (GLe.nil _)
  by_cases hj : y = .junk
  · subst hj; exact .junk _ _
  cases x <;> cases y <;> first
    | exact (hj rfl).elim
    | (simp only [wk0] at hw; exfalso; have h1 := hw.1; cases h1; done)
    | (simp only [wk0] at hw; obtain ⟨e, hc⟩ := hw; rw [← e] at hc ⊢; exact hcl h hc)
    | skip
  case bs.bs f i t o l f' id t' o' l' =>
    simp only [wk0] at hw
    obtain ⟨h1, h2, rfl, rfl, rfl⟩ := hw
    cases h with
    | bs _ _ _ _ _ _ _ b hb hx ht h ho =>
      refine .bs _ _ _ _ _ _ _ b ((ghSel_get hs).2 ⟨i, h1, hb⟩) hx ht (fun e => ?_) ho
      obtain ⟨a, cap, q1, q2, q3, q4, q5⟩ := h e
      exact ⟨a, cap, q1, q2, fun e => q3 (h2 e), q4, q5⟩
  case ref.ref i o id o' =>
    simp only [wk0] at hw
    obtain ⟨h1, rfl⟩ := hw
    cases h with
    | ref _ _ _ β b hb hx hβ => exact .ref _ _ _ β b ((ghSel_get hs).2 ⟨i, h1, hb⟩) hx hβ
  case eref.eref i t a b' id t' a' b2 =>
    simp only [wk0] at hw
    obtain ⟨h1, rfl, rfl, rfl⟩ := hw
    cases h with
    | eref _ _ _ _ _ _ b hb hx ht h ho => exact .eref _ _ _ _ _ _ b ((ghSel_get hs).2 ⟨i, h1, hb⟩) hx ht h ho
  case sl.sl f els f' els' =>
    simp only [wk0] at hw
    obtain ⟨h1, rfl⟩ := hw
    have : Rep w (prot E g) g v (.sl f' els) := by
      cases h with
      | sl _ a len cap _ _ k c hlen hcap hfull hnone hk hc hr => exact .sl _ a len cap f' els k c hlen hcap (fun e => hfull (h1 e)) hnone hk hc hr
    exact hcl this (by simp [AV.closed])

theorem rep_wk1 (hs : ∀ i ∈ sel, i < g.length) {v : Value} {x y : AV} (h : Rep w (prot E g) g v x) (hw : wk1 sel x y) : Rep w (prot E (ghSel sel g)) (ghSel sel g) v y := by
  by_cases ha : ∃ xs ys, x = .agg xs ∧ y = .agg ys
  · obtain ⟨xs, ys, rfl, rfl⟩ := ha
    simp only [wk1] at hw
    obtain ⟨h1, h2⟩ := wkL_get hw
    cases h with
    | agg _ vs _ hs' ho hr =>
      refine .agg _ vs ys (by omega) (fun i y hy => ?_) (fun i y hy => ?_)
      · obtain ⟨x, hx, _⟩ := h2 i y hy; exact ho i x hx
      · obtain ⟨x, hx, hxy⟩ := h2 i y hy; exact rep_wk0 hs (hr i x hx) hxy
  by_cases hb : ∃ xs ys, x = .tup xs ∧ y = .tup ys
  · obtain ⟨xs, ys, rfl, rfl⟩ := hb
    simp only [wk1] at hw
    obtain ⟨h1, h2⟩ := wkL_get hw
    cases h with
    | tup _ vs _ hs' hr =>
      refine .tup _ vs ys (by omega) (fun i y hy => ?_)
      obtain ⟨x, hx, hxy⟩ := h2 i y hy; exact rep_wk0 hs (hr i x hx) hxy
  have : wk1 sel x y = wk0 sel x y := by
    cases x <;> cases y <;> first
      | rfl
      | exact (ha ⟨_, _, rfl, rfl⟩).elim
      | exact (hb ⟨_, _, rfl, rfl⟩).elim
  exact rep_wk0 hs h (this ▸ hw)
end

theorem nodup_inj : ∀ {l : List Nat}, l.Nodup → ∀ {i j : Nat} (hi : i < l.length) (hj : j < l.length), l[i] = l[j] → i = j
  | [], _, i, j, hi, _, _ => by simp at hi
  | x :: l, h, 0, 0, _, _, _ => rfl
  | x :: l, h, 0, j + 1, _, hj, e => by
    exfalso
    have := (List.nodup_cons.1 h).1
    refine this ?_
    have e' : x = l[j]'(by simpa using hj) := e
    rw [e']
    exact List.getElem_mem _
  | x :: l, h, i + 1, 0, hi, _, e => by
    exfalso
    have := (List.nodup_cons.1 h).1
    refine this ?_
    have e' : l[i]'(by simpa using hi) = x := e
    rw [← e']
    exact List.getElem_mem _
  | x :: l, h, i + 1, j + 1, hi, hj, e => by
    have := nodup_inj (List.nodup_cons.1 h).2 (by simpa using hi) (by simpa using hj) e
    omega

theorem weak_sel {n N : Nat} {l l' : Fr} {σ σ' : Store} (sel : List Nat) (hnd : sel.Nodup) (hn : sel.take n = List.range n) (hσ : stUp sel σ sel σ') (hf : frUp sel l l') : Weak E n ⟨asFr N l, σ⟩ ⟨asFr N l', σ'⟩ := by
  obtain ⟨hl, hget⟩ := stUp_get hσ
  refine weak_of_rel fun a w g h => ?_
  have hm := h.mem
  have hlen : g.length = σ.length := hm.len
  have hs : ∀ i ∈ sel, i < g.length := by
    intro i hi
    obtain ⟨id, hid, rfl⟩ := List.getElem_of_mem hi
    obtain ⟨i', b, h1, h2, _⟩ := hget id (σ'[id]'(by omega)) (List.getElem?_eq_getElem _)
    rw [List.getElem?_eq_getElem hid] at h1
    cases h1
    rw [hlen]
    exact (List.getElem?_eq_some_iff.1 h2).1
  refine ⟨ghSel sel g, ⟨?_, ?_, ?_, h.defers⟩, ?_⟩
  · have := h.size; simpa [asFr] using this
  · intro t x hx
    rw [asFr_get] at hx
    split at hx
    case isFalse => cases hx
    rename_i ht
    cases hx
    rcases frUp_look hf t with e | e
    · rw [e]; exact .junk _ _
    · exact rep_wk1 hs (h.slot t _ (by rw [asFr_get, if_pos ht])) e
  · refine ⟨by simp [ghSel, hl], ?_, ?_, fun a ha => ⟨(hm.foreign a ha).1, fun hh => (hm.foreign a ha).2 (mine_sel hs hh)⟩, ?_, hm.maps, fun i vs h => ⟨fun hh => (hm.whole i vs h).1 (mine_sel hs hh), (hm.whole i vs h).2⟩⟩
    · intro id b ab' h1 h2
      obtain ⟨i, ab, e1, e2, e3⟩ := hget id ab' h2
      obtain ⟨i', f1, f2⟩ := (ghSel_get hs).1 h1
      rw [e1] at f1
      cases f1
      have hk := hm.blk i b ab f2 e2
      cases ab with
      | box cs ro =>
        cases ab' with
        | buf => exact e3.elim
        | box cs' ro' =>
          obtain ⟨rfl, e4⟩ := e3
          obtain ⟨e5, e6⟩ := wkL_get e4
          obtain ⟨k1, k2, k3, k4, k5, β, arr, t, fz, k6, k7, k8, k9, k10⟩ := hk
          refine ⟨k1, k2, k3, by omega, k5, β, arr, t, fz, k6, k7, by omega, k9, fun j y hj => ?_⟩
          obtain ⟨x, hx, hxy⟩ := e6 j y hj
          exact ⟨rep_wk0 hs (k10 j x hx).1 hxy, (k10 j x hx).2⟩
      | buf k els ro =>
        cases ab' with
        | box => exact e3.elim
        | buf k' els' ro' =>
          obtain ⟨rfl, rfl, rfl, e4⟩ := e3
          obtain ⟨k1, k2, k3, k4, k5, k6, k7⟩ := hk
          refine ⟨k1, k2, k3, k4, k5, k6, fun β hβ => ?_⟩
          obtain ⟨arr, t, fz, g1, g2, g3, g4, g5⟩ := k7 β hβ
          refine ⟨arr, t, fz, g1, g2, g3, g4, fun i cs j x hi hj => ⟨?_, (g5 i cs j x hi hj).2⟩⟩
          have hcl : x.closed = true := List.all_eq_true.1 (List.all_eq_true.1 e4 cs (List.mem_of_getElem? hi)) x (List.mem_of_getElem? hj)
          exact (closed_rep (g5 i cs j x hi hj).1 hcl).mono (fun a u hc hp => ⟨hc, prot_sel hs hp⟩) (GLe.nil _)
    · intro id id' b b' β h1 h2 e1 e2
      obtain ⟨i, f1, f2⟩ := (ghSel_get hs).1 h1
      obtain ⟨i', f1', f2'⟩ := (ghSel_get hs).1 h2
      have := hm.inj i i' b b' β f2 f2' e1 e2
      subst this
      have hi1 := (List.getElem?_eq_some_iff.1 f1)
      have hi2 := (List.getElem?_eq_some_iff.1 f1')
      obtain ⟨l1, q1⟩ := hi1
      obtain ⟨l2, q2⟩ := hi2
      exact nodup_inj hnd l1 l2 (q1.trans q2.symm)
    · intro i cs hG
      obtain ⟨q1, q2, q3, c, q4⟩ := hm.glob i cs hG
      exact ⟨q1, fun hh => q2 (mine_sel hs hh), q3, c, fun j x hj => ⟨(q4 j x hj).1, (q4 j x hj).2.1.mono (fun a u hc hp => ⟨hc, prot_sel hs hp⟩) (GLe.nil _), (q4 j x hj).2.2⟩⟩
  · refine ⟨rfl, rfl, rfl, Nat.le_refl _, fun a u hc hp => ⟨hc, prot_sel hs hp⟩, fun β _ hn' => ⟨rfl, fun hh => hn' (mine_sel hs hh)⟩, fun id hid b hb => ⟨b, (ghSel_get hs).2 ⟨id, ?_, hb⟩, GB.step.refl b⟩⟩
    have : (sel.take n)[id]? = some id := by rw [hn, List.getElem?_range hid]
    rw [List.getElem?_take, if_pos hid] at this
    exact this

/-! ### A nil slice as an empty buffer -/
theorem mem_emptybuf {w : World} {g : Gh} {σ : Store} (hm : Mem E w g σ) (k : Nat) : Mem E w (g ++ [⟨none, 0, k, 0, 0, false, false⟩]) (σ ++ [.buf k [] false]) ∧
    (∀ a, prot E g a → prot E (g ++ [⟨none, 0, k, 0, 0, false, false⟩]) a) ∧ (∀ β, mine (g ++ [⟨none, 0, k, 0, 0, false, false⟩]) β → mine g β) := by
  have hget : ∀ (id : Nat) (b : GB), (g ++ [(⟨none, 0, k, 0, 0, false, false⟩ : GB)])[id]? = some b → (g[id]? = some b) ∨ (id = g.length ∧ b = ⟨none, 0, k, 0, 0, false, false⟩) := by
    intro id b h
    rcases Nat.lt_or_ge id g.length with hl | hl
    · rw [List.getElem?_append_left hl] at h; exact .inl h
    · rw [List.getElem?_append_right hl] at h
      have : id - g.length = 0 := by
        have := (List.getElem?_eq_some_iff.1 h).1; simp at this; exact this
      rw [this] at h
      simp at h
      exact .inr ⟨by omega, h.symm⟩
  have hp : ∀ a, prot E g a → prot E (g ++ [⟨none, 0, k, 0, 0, false, false⟩]) a := fun a h => ⟨h.1, fun id b hb hβ => by
    rcases hget id b hb with h2 | ⟨_, rfl⟩
    · exact h.2 id b h2 hβ
    · cases hβ⟩
  have hmine : ∀ β, mine (g ++ [⟨none, 0, k, 0, 0, false, false⟩]) β → mine g β := by
    rintro β ⟨id, b, hb, hβ⟩
    rcases hget id b hb with h2 | ⟨_, rfl⟩
    · exact ⟨id, b, h2, hβ⟩
    · cases hβ
  refine ⟨⟨by simp [hm.len], ?_, ?_, fun a ha => ⟨(hm.foreign a ha).1, fun hh => (hm.foreign a ha).2 (hmine _ hh)⟩, ?_, hm.maps, fun i vs h => ⟨fun hh => (hm.whole i vs h).1 (hmine _ hh), (hm.whole i vs h).2⟩⟩, hp, hmine⟩
  · intro id b ab h1 h2
    rcases hget id b h1 with h3 | ⟨rfl, rfl⟩
    · have hl : id < σ.length := by rw [← hm.len]; exact (List.getElem?_eq_some_iff.1 h3).1
      rw [List.getElem?_append_left hl] at h2
      exact (hm.blk id b ab h3 h2).mono (fun a u hc hpr => ⟨hc, hp a hpr⟩) (GLe.append _ _) (fun _ _ => rfl)
    · rw [hm.len, List.getElem?_append_right (Nat.le_refl _)] at h2
      simp at h2
      subst h2
      exact ⟨rfl, rfl, rfl, rfl, by simp, fun _ => ⟨.inl rfl, rfl⟩, by simp⟩
  · intro id id' b b' β h1 h2 e1 e2
    rcases hget id b h1 with h3 | ⟨rfl, rfl⟩
    · rcases hget id' b' h2 with h4 | ⟨rfl, rfl⟩
      · exact hm.inj id id' b b' β h3 h4 e1 e2
      · cases e2
    · cases e1
  · intro i cs hG
    obtain ⟨q1, q2, q3, c, q4⟩ := hm.glob i cs hG
    exact ⟨q1, fun hh => q2 (hmine _ hh), q3, c, fun j x hj => ⟨(q4 j x hj).1, (q4 j x hj).2.1.mono (fun a u hc hpr => ⟨hc, hp a hpr⟩) (GLe.nil _), (q4 j x hj).2.2⟩⟩

theorem rep_emptybuf {w : World} {g : Gh} {pr pr' : Addr → Prop} {v : Value} (h : Rep w pr g v (.sl true [])) (k : Nat) : Rep w pr' (g ++ [⟨none, 0, k, 0, 0, false, false⟩]) v (.bs true g.length 0 0 0) := by
  cases h with
  | sl _ a len cap _ _ k' c hlen hcap hfull hnone hk hc hr =>
    simp at hlen
    subst hlen
    have := hfull rfl
    refine .bs _ _ _ _ _ _ _ ⟨none, 0, k, 0, 0, false, false⟩ (by rw [List.getElem?_append_right (Nat.le_refl _)]; simp) rfl (Nat.le_refl _) (fun _ => ⟨a, cap, rfl, hcap, fun _ => this, Nat.le_refl _, .inl this⟩) rfl

theorem evo_emptybuf {w : World} {g : Gh} {σ : Store} (hm : Mem E w g σ) (n k : Nat) : Evo E n w g w (g ++ [⟨none, 0, k, 0, 0, false, false⟩]) := by
  obtain ⟨_, hp, hmine⟩ := mem_emptybuf hm k
  exact ⟨rfl, rfl, rfl, Nat.le_refl _, fun a u hc hpr => ⟨hc, hp a hpr⟩, fun β _ hn => ⟨rfl, fun hh => hn (hmine β hh)⟩, fun id _ b hb => GLe.append g _ id b hb⟩

theorem weak_nil {n N : Nat} {l : Fr} {σ : Store} (t k : Nat) (h : look l t = .sl true []) : Weak E n ⟨asFr N l, σ⟩ ⟨asFr N ((t, .bs true σ.length 0 0 0) :: l), σ ++ [.buf k [] false]⟩ := by
  refine weak_of_rel fun a w g hr => ⟨_, ⟨?_, ?_, (mem_emptybuf hr.mem k).1, hr.defers⟩, evo_emptybuf hr.mem n k⟩
  · have := hr.size; simpa [asFr] using this
  · intro s x hx
    rw [asFr_get] at hx
    split at hx
    case isFalse => cases hx
    rename_i hs
    cases hx
    show Rep _ _ _ _ (if s = t then _ else look l s)
    have hslot := hr.slot s (look l s) (by rw [asFr_get, if_pos hs])
    by_cases e : s = t
    · subst e
      rw [if_pos rfl, ← hr.mem.len]
      rw [h] at hslot
      exact rep_emptybuf hslot k
    · rw [if_neg e]
      exact hslot.mono (fun a u hc hpr => ⟨hc, (mem_emptybuf hr.mem k).2.1 a hpr⟩) (GLe.append _ _)

theorem weak_nil_box {n N : Nat} {l : Fr} {σ : Store} (id j k : Nat) {cs : List AV} {ro : Bool} (hσ : σ[id]? = some (.box cs ro)) (h : cs[j]? = some (.sl true [])) :
    Weak E n ⟨asFr N l, σ⟩ ⟨asFr N l, σ.set id (.box (cs.set j (.bs true σ.length 0 0 0)) ro) ++ [.buf k [] false]⟩ := by
  refine weak_of_rel fun a w g hr => ⟨_, ⟨?_, ?_, ?_, hr.defers⟩, evo_emptybuf hr.mem n k⟩
  · have := hr.size; simpa [asFr] using this
  · intro s x hx
    exact (hr.slot s x hx).mono (fun a u hc hpr => ⟨hc, (mem_emptybuf hr.mem k).2.1 a hpr⟩) (GLe.append _ _)
  · have hm := (mem_emptybuf hr.mem k).1
    have hid : id < σ.length := (List.getElem?_eq_some_iff.1 hσ).1
    refine ⟨by simp [hr.mem.len], ?_, hm.inj, hm.foreign, hm.glob, hm.maps, hm.whole⟩
    intro id' b ab h1 h2
    by_cases e : id' = id
    · subst e
      rw [List.getElem?_append_left (by simpa using hid), List.getElem?_set_self hid] at h2
      cases h2
      obtain ⟨k1, k2, k3, k4, k5, β, arr, t, fz, k6, k7, k8, k9, k10⟩ := hm.blk id' b (.box cs ro) h1 (by rw [List.getElem?_append_left hid]; exact hσ)
      refine ⟨k1, k2, k3, by simpa using k4, k5, β, arr, t, fz, k6, k7, by simpa using k8, k9, fun j' x hj => ?_⟩
      rw [List.getElem?_set] at hj
      by_cases e2 : j = j'
      · subst e2
        rw [if_pos rfl] at hj
        split at hj
        case isFalse => cases hj
        cases hj
        refine ⟨?_, (k10 j _ h).2⟩
        have hb0 : g[id']? = some b := by
          rw [List.getElem?_append_left (by rw [hr.mem.len]; exact hid)] at h1; exact h1
        obtain ⟨_, _, _, _, _, β0, arr0, t0, fz0, k60, k70, _, _, k100⟩ := hr.mem.blk id' b (.box cs ro) hb0 hσ
        rw [k6] at k60; cases k60
        rw [k7] at k70; cases k70
        rw [← hr.mem.len]
        exact rep_emptybuf (k100 j _ h).1 k
      · rw [if_neg e2] at hj
        exact k10 j' x hj
    · refine hm.blk id' b ab h1 ?_
      rcases Nat.lt_or_ge id' σ.length with hl | hl
      · rw [List.getElem?_append_left (by simpa using hl), List.getElem?_set_ne (fun e2 => e e2.symm)] at h2
        rw [List.getElem?_append_left hl]; exact h2
      · rw [List.getElem?_append_right (by simpa using hl)] at h2
        rw [List.getElem?_append_right hl]; simpa using h2

/-! ### Slices that change no more -/
theorem rel_markRo {w : World} {g : Gh} {st : St} {a : Act} (h : Rel E w g st a) (n : Nat) (ids : List Nat) : ∃ g', Rel E w g' ⟨st.fr, markRo st.σ ids⟩ a ∧ Evo E n w g w g' ∧ SameGh g g' ∧ (∀ a, prot E g a → prot E g' a) := by
  obtain ⟨g', m1, hle, he, hs, hp⟩ := markRo_mem ids h.mem
  exact ⟨g', ⟨h.size, fun t x hx => (h.slot t x hx).mono (fun a u hc hpr => ⟨hc, hp a hpr⟩) hle, m1, h.defers⟩, he.of_gle hle, hs, hp⟩

/-! ### Joins, loops, scopes -/
def joinK (E : Env) {V : Type} (n : Nat) (S : V → St) (J : V → Prop) (K : Post) : Post := fun ex st' => match ex with
  | .normal => ∃ v, J v ∧ Weak E n st' (S v)
  | ex => K ex st'

theorem run_join {V : Type} {n : Nat} {A B : Code} {st : St} {K : Post} (S : V → St) (J : V → Prop) (hA : Run E n A st (joinK E n S J K)) (hB : ∀ v, J v → Run E n B (S v) K) : Run E n (.seq A B) st K := by
  refine run_seq (run_mono hA ?_)
  intro ex st' h
  cases ex <;> first
    | (obtain ⟨v, hv, hw⟩ := h; exact run_weak hw (hB v hv))
    | exact h

def loopF {V X : Type} (f : V → Option (V ⊕ X)) : Nat → V → Option X
  | 0, _ => none
  | n + 1, v => match f v with
    | none => none
    | some (.inl v') => loopF f n v'
    | some (.inr x) => some x

def loopO {V X : Type} (f : V → Option (V ⊕ X)) (v : V) : Option X := loopF f 18446744073709551616 v

def lpK (E : Env) {V X : Type} (n : Nat) (S : V → St) (o : V ⊕ X) (K : Post) : Post := fun ex st' => match ex with
  | .normal => ∃ v', o = .inl v' ∧ Weak E n st' (S v')
  | ex => K ex st'

theorem run_loopF {V X : Type} {f : V → Option (V ⊕ X)} {n : Nat} {c : Code} {K : Post} {x : X} (S : V → St) (h : ∀ v o, f v = some o → (∀ x', o = .inr x' → x' = x) → Run E n c (S v) (lpK E n S o K)) :
    ∀ (m : Nat) (v : V), loopF f m v = some x → LoopN E n c K m (S v)
  | 0, v, hx => by cases hx
  | m + 1, v, hx => by
    unfold loopF at hx
    split at hx
    · cases hx
    · rename_i v' hv
      refine run_mono (h v _ hv (fun x' e => by cases e)) ?_
      intro ex st' hk
      cases ex <;> first
        | (obtain ⟨v2, e, hw⟩ := hk
           cases e
           have h2 := run_loopF S h m v' hx
           cases m with
           | zero => exact h2.elim
           | succ m => exact run_weak hw h2)
        | exact hk
    · rename_i x' hv
      cases hx
      refine run_mono (h v _ hv (fun x' e => by cases e; rfl)) ?_
      intro ex st' hk
      cases ex <;> first
        | (obtain ⟨v2, e, hw⟩ := hk; cases e)
        | exact hk

theorem run_loopO {V X : Type} {f : V → Option (V ⊕ X)} {v0 : V} {x : X} {n : Nat} {c : Code} {K : Post} {st : St} (hx : loopO f v0 = some x) (S : V → St) (h0 : Weak E n st (S v0))
    (h : ∀ v o, f v = some o → (∀ x', o = .inr x' → x' = x) → Run E n c (S v) (lpK E n S o K)) : Run E n (.loop c) st K :=
  run_weak h0 (run_loop _ (run_loopF S h _ _ hx))

theorem run_condL {n N : Nat} {t : Nat} {b : Bool} {x y : Code} {l : Fr} {σ : Store} {K : Post} (hc : look l t = .bool b) (hN : t < N) (ht : b = true → Run E n x ⟨asFr N l, σ⟩ K) (hf : b = false → Run E n y ⟨asFr N l, σ⟩ K) : Run E n (.cond (.tmp t) x y) ⟨asFr N l, σ⟩ K := by
  refine run_cond (t := b) ?_ ht hf
  rw [ev_asFr]
  simp only [evL, if_pos hN, hc]

/-! ### Contracts -/
def resL (E : Env) (n : Nat) (l : Fr) (σ : Store) : List ResultVar → Option (List AV)
  | [] => some []
  | .tmp t :: r => (resL E n l σ r).bind fun xs => some (evL n l (.tmp t) :: xs)
  | .cell p t :: r => match E.tab t with
    | some d => (loadA E σ d (evL n l (.tmp p))).bind fun x => (resL E n l σ r).bind fun xs => some (x :: xs)
    | none => none

theorem resL_eq (n : Nat) (l : Fr) (σ : Store) : ∀ rs : List ResultVar, resultA E σ (asFr n l) rs = resL E n l σ rs
  | [] => rfl
  | .tmp t :: r => by
    have : (asFr n l).getD t .junk = evL n l (.tmp t) := by rw [← ev_asFr]; rfl
    simp only [resultA, resL, resL_eq n l σ r, this]
    cases resL E n l σ r <;> rfl
  | .cell p t :: r => by
    have : (asFr n l).getD p .junk = evL n l (.tmp p) := by rw [← ev_asFr]; rfl
    simp only [resultA, resL, resL_eq n l σ r, this]
    cases E.tab t with
    | none => rfl
    | some d =>
      simp only
      cases loadA E σ d (evL n l (.tmp p)) <;> cases resL E n l σ r <;> rfl

def retK (E : Env) (rs : List ResultVar) (r0 : AV) : Post := fun ex st => (ex = .normal ∨ ex = .ret) ∧ ∃ xs, resultA E st.σ st.fr rs = some xs ∧ fzR st.σ (result1 xs) = some r0

theorem ret_ok {n : Nat} {l : Fr} {σ : Store} {rs : List ResultVar} {r0 : AV} {ex : Exit} (hex : ex = .normal ∨ ex = .ret) (h : (resL E n l σ rs).bind (fun xs => fzR σ (result1 xs)) = some r0) : retK E rs r0 ex ⟨asFr n l, σ⟩ := by
  rw [Option.bind_eq_some_iff] at h
  obtain ⟨xs, h1, h2⟩ := h
  exact ⟨hex, xs, by rw [resL_eq]; exact h1, h2⟩

theorem entry_asFr (n : Nat) (args : List AV) (h : args.length ≤ n) (l : Fr) (hl : ∀ t, t < n → look l t = args.getD t .junk) : entry n args = asFr n l := by
  refine List.ext_getElem? fun t => ?_
  rw [asFr_get]
  unfold entry
  rcases Nat.lt_or_ge t args.length with h1 | h1
  · rw [List.getElem?_append_left h1, if_pos (by omega), hl t (by omega), List.getElem?_eq_getElem h1]
    simp [List.getD_eq_getElem?_getD, List.getElem?_eq_getElem h1]
  · rw [List.getElem?_append_right h1, List.getElem?_replicate]
    by_cases h2 : t < n
    · rw [if_pos (by omega), if_pos h2, hl t h2]
      simp [List.getD_eq_getElem?_getD, List.getElem?_eq_none h1]
    · rw [if_neg (by omega), if_neg h2]

def numb : Nat → List AV → Fr
  | _, [] => []
  | i, x :: l => (i, x) :: numb (i + 1) l

theorem look_numb : ∀ (args : List AV) (i t : Nat), i ≤ t → look (numb i args) t = args.getD (t - i) .junk
  | [], i, t, h => by simp [numb, look]
  | x :: l, i, t, h => by
    show (if t = i then x else look (numb (i + 1) l) t) = _
    by_cases e : t = i
    · subst e; simp
    · rw [if_neg e, look_numb l (i + 1) t (by omega)]
      have : t - i = (t - (i + 1)) + 1 := by omega
      rw [this]; rfl

/-- A contract from a walk through the body. -/
theorem con_walk {B : Base} {f : FuncId} {fn : Func} {c : Code} {args : List AV} {r0 : AV} {rs : List ResultVar} {N : Nat} (hB : B.Ok) (hf : B.P.funcs[f]? = some fn) (hb : fn.body = some c) (hn : (fn.name == "runtime.NumGoroutine") = false) (hN : fn.ntmps = N) (hrs : fn.results.toList = rs)
    (hlen : args.length ≤ N) (h : ∀ F, Run (B.env F) 0 c ⟨asFr N (numb 0 args), []⟩ (retK (B.env F) rs r0)) : Con B f args [] (fun r' σ' => r' = r0 ∧ σ' = []) := by
  refine con_closed (R := fun r σ' => fzR σ' r = some r0) ?_ (fun r σ' h => h)
  refine con_of hB hf hb hn (fun F => ?_)
  subst hN hrs
  rw [entry_asFr fn.ntmps args hlen (numb 0 args) (fun t _ => look_numb args 0 t (Nat.zero_le _))]
  refine run_mono (h F) ?_
  rintro ex st ⟨h1, xs, h2, h3⟩
  exact ⟨h1, xs, h2, h3⟩

/-! ### Answers to calls -/
open Classical in
noncomputable def orcF : List (Nat × FuncId × List AV × AV) → Option Tmp → FuncId → List AV → Option AV
  | [], _, _, _ => none
  | e :: l, d, f, a => if d = some e.1 then (if f = e.2.1 ∧ a = e.2.2.1 then some e.2.2.2 else none) else orcF l d f a

open Classical in
noncomputable def orcX : List (Nat × FuncId × List AV × Store × AV × Store) → Option Tmp → FuncId → List AV → Store → Option (AV × Store)
  | [], _, _, _, _ => none
  | e :: l, d, f, a, σ => if d = some e.1 then (if f = e.2.1 ∧ a = e.2.2.1 ∧ σ = e.2.2.2.1 then some e.2.2.2.2 else none) else orcX l d f a σ

noncomputable def orcL (l : List (Nat × FuncId × List AV × AV)) (m : List (Nat × FuncId × List AV × Store × AV × Store)) (d : Option Tmp) : Orc := ⟨orcF l d, orcX m d⟩

def Orcs1 (B : Base) : List (Nat × FuncId × List AV × AV) → Prop
  | [] => True
  | e :: l => Con B e.2.1 e.2.2.1 [] (fun r' σ' => r' = e.2.2.2 ∧ σ' = []) ∧ Orcs1 B l

def Orcs2 (B : Base) : List (Nat × FuncId × List AV × Store × AV × Store) → Prop
  | [] => True
  | e :: l => (∀ F, WCon (B.env F) e.2.1 e.2.2.1 e.2.2.2.1 e.2.2.2.2.1 e.2.2.2.2.2) ∧ Orcs2 B l

theorem orcF_ok {B : Base} : ∀ {l : List (Nat × FuncId × List AV × AV)}, Orcs1 B l → ∀ d f a r, orcF l d f a = some r → Con B f a [] (fun r' σ' => r' = r ∧ σ' = [])
  | [], _, d, f, a, r, h => by cases h
  | e :: l, hl, d, f, a, r, h => by
    unfold orcF at h
    split at h
    · split at h
      · rename_i hfa
        obtain ⟨rfl, rfl⟩ := hfa
        cases h
        exact hl.1
      · cases h
    · exact orcF_ok hl.2 d f a r h

theorem orcX_ok {B : Base} : ∀ {l : List (Nat × FuncId × List AV × Store × AV × Store)}, Orcs2 B l → ∀ d f a σ r σ', orcX l d f a σ = some (r, σ') → ∀ F, WCon (B.env F) f a σ r σ'
  | [], _, d, f, a, σ, r, σ', h => by cases h
  | e :: l, hl, d, f, a, σ, r, σ', h => by
    unfold orcX at h
    split at h
    · split at h
      · rename_i hfa
        obtain ⟨rfl, rfl, rfl⟩ := hfa
        obtain ⟨t, f, a, σ, r2, σ2⟩ := e
        cases h
        exact hl.1
      · cases h
    · exact orcX_ok hl.2 d f a σ r σ' h

theorem orcs_ok2 {B : Base} {l : List (Nat × FuncId × List AV × AV)} {m : List (Nat × FuncId × List AV × Store × AV × Store)} (h1 : Orcs1 B l) (h2 : Orcs2 B m) : Orcs B (orcL l m) := fun d => ⟨orcF_ok h1 d, orcX_ok h2 d⟩
theorem orcs_ok {B : Base} {l : List (Nat × FuncId × List AV × AV)} (h1 : Orcs1 B l) : Orcs B (orcL l []) := orcs_ok2 h1 trivial
theorem orcs_nil {B : Base} : Orcs B (orcL [] []) := orcs_ok trivial

theorem orcL_fz {l : List (Nat × FuncId × List AV × AV)} {m : List (Nat × FuncId × List AV × Store × AV × Store)} {d : Option Tmp} : (orcL l m d).fz = orcF l d := rfl
theorem orcL_own {l : List (Nat × FuncId × List AV × AV)} {m : List (Nat × FuncId × List AV × Store × AV × Store)} {d : Option Tmp} : (orcL l m d).own = orcX m d := rfl
theorem orcL_here {t : Nat} {f : FuncId} {a : List AV} {r : AV} {l : List (Nat × FuncId × List AV × AV)} : orcF ((t, f, a, r) :: l) (some t) f a = some r := by simp [orcF]
theorem orcL_next {t s : Nat} {e : FuncId × List AV × AV} {l : List (Nat × FuncId × List AV × AV)} (h : (s == t) = false) : orcF ((t, e) :: l) (some s) = orcF l (some s) := by
  funext f a
  simp only [beq_eq_false_iff_ne, ne_eq] at h
  simp [orcF, h]
theorem orcX_here {t : Nat} {f : FuncId} {a : List AV} {σ : Store} {r : AV × Store} {l : List (Nat × FuncId × List AV × Store × AV × Store)} : orcX ((t, f, a, σ, r) :: l) (some t) f a σ = some r := by simp [orcX]
theorem orcX_next {t s : Nat} {e : FuncId × List AV × Store × AV × Store} {l : List (Nat × FuncId × List AV × Store × AV × Store)} (h : (s == t) = false) : orcX ((t, e) :: l) (some s) = orcX l (some s) := by
  funext f a σ
  simp only [beq_eq_false_iff_ne, ne_eq] at h
  simp [orcX, h]

/-! ### Bits of plain programs -/
def lt1 {α β : Type} (x : α) (f : α → Option β) : Option β := f x
theorem lt1_some {α β : Type} {x : α} {f : α → Option β} {r : β} (h : lt1 x f = some r) : ∃ y, y = x ∧ f y = some r := ⟨x, rfl, h⟩
theorem bind_some1 {α β : Type} {x : Option α} {f : α → Option β} {r : β} (h : x.bind f = some r) : ∃ y, x = some y ∧ f y = some r := Option.bind_eq_some_iff.1 h
theorem ite_t {α : Type} {b : Bool} {x y : α} {r : α} (h : (if b = true then x else y) = r) (hb : b = true) : x = r := by rw [if_pos hb] at h; exact h
theorem ite_f {α : Type} {b : Bool} {x y : α} {r : α} (h : (if b = true then x else y) = r) (hb : b = false) : y = r := by rw [if_neg (by simp [hb])] at h; exact h
theorem chk_some {α : Type} {c : Prop} [Decidable c] {x : Option α} {r : α} (h : (if c then x else none) = some r) : c ∧ x = some r := by
  by_cases hc : c
  · rw [if_pos hc] at h; exact ⟨hc, h⟩
  · rw [if_neg hc] at h; cases h

end Go.Rv
namespace Go.Rv
variable {E : Env} {n : Nat} {K : Post} {st : St}
/-! ### Ways out -/
theorem thenK_n {y : Code} (h : Run E n y st K) : thenK E n y K .normal st := h
theorem thenK_x {y : Code} {i : Nat} (h : K (.exit i) st) : thenK E n y K (.exit i) st := h
theorem thenK_r {y : Code} (h : K .ret st) : thenK E n y K .ret st := h
theorem blockK_n {i : Nat} (h : K .normal st) : blockK i K .normal st := h
theorem blockK_x {i : Nat} (h : K .normal st) : blockK i K (.exit i) st := by simp only [blockK, if_true]; exact h
theorem blockK_r {i : Nat} (h : K .ret st) : blockK i K .ret st := h
theorem lpK_x {V X : Type} {S : V → St} {o : V ⊕ X} {i : Nat} (h : K (.exit i) st) : lpK E n S o K (.exit i) st := h
theorem lpK_r {V X : Type} {S : V → St} {o : V ⊕ X} (h : K .ret st) : lpK E n S o K .ret st := h
theorem lpK_n {V X : Type} {S : V → St} {o : V ⊕ X} (v : V) (e : o = .inl v) (h : Weak E n st (S v)) : lpK E n S o K .normal st := ⟨v, e, h⟩
theorem joinK_r {V : Type} {S : V → St} {J : V → Prop} (h : K .ret st) : joinK E n S J K .ret st := h
theorem joinK_n {V : Type} {S : V → St} {J : V → Prop} (v : V) (e : J v) (h : Weak E n st (S v)) : joinK E n S J K .normal st := ⟨v, e, h⟩
theorem bb_tt : (true == true) = true := rfl
theorem bb_tf : (true == false) = false := rfl
theorem bb_ft : (false == true) = false := rfl
theorem bb_ff : (false == false) = true := rfl
end Go.Rv
