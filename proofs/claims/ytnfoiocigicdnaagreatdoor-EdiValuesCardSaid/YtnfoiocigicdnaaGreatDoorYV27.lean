/-
  Part 27.
-/
import Derived.Test.YtnfoiocigicdnaaGreatDoorYV26
namespace Go.Rv
set_option linter.unusedVariables false
set_option linter.unusedSimpArgs false
def Ju (P : Program) (B : ∀ H : Type, DataW H → Nat) (fuel : Nat) (t : TypeId) {α : Type} (c : α → List AV) (sz : α → Nat) (ok : α → Prop) : Prop :=
  ∀ (H : Type) (enc : TypeId × Value → H) (W : World) (pr : Addr → Prop), (∀ a, pr a) → ∀ (cs : List Value) (d : DataW H) (ps : List MemPlace),
    DataW.trod enc P W 0 (fun _ => true) true fuel t cs = some (d, ps) →
    ∃ x : α, cs.length = (c x).length ∧ sz x ≤ B H d ∧ ok x ∧ ∀ (j : Nat) (y : AV), (c x)[j]? = some y → Rep W pr [] (cs.getD j undef) y ∧ one (cs.getD j undef) = true
section
variable {P : Program} {B : ∀ H : Type, DataW H → Nat}
theorem Opens.at {t : TypeId} {α : Type} {c : α → List AV} {sz : α → Nat} {ok : α → Prop} (h : Opens P B t c sz ok) (fuel : Nat) : Ju P B fuel t c sz ok :=
  fun H enc W pr hpr cs d ps ht => h H enc W pr hpr fuel cs d ps ht
theorem Aaa {t : TypeId} {α : Type} {c : α → List AV} {sz : α → Nat} {ok : α → Prop} (h : ∀ fuel, Ju P B fuel t c sz ok) : Opens P B t c sz ok :=
  fun H enc W pr hpr fuel cs d ps ht => h fuel H enc W pr hpr cs d ps ht
theorem O8 {t : TypeId} {α : Type} {c : α → List AV} {sz : α → Nat} {ok : α → Prop} : Ju P B 0 t c sz ok :=
  fun H enc W pr hpr cs d ps ht => by cases ht
theorem Ur {t e : TypeId} {fuel : Nat} (hB : BulkOk B) (ht : P.underlying t = some (.slice e)) {α : Type} {c : α → List AV} {sz : α → Nat} {ok : α → Prop} {k : Nat} (hk : P.cellsOf e = k) (hck : ∀ x, (c x).length = k)
    (he : Ju P B fuel e c sz ok) : Ju P B (fuel + 1) t (cSl c) (szL sz) (fun l => l.length ≤ maxLen ∧ ∀ x ∈ l, ok x) := by
  intro H enc W pr hpr cs d ps h
  unfold DataW.trod at h
  rw [ht] at h
  split at h <;> try (rename_i hh; cases hh; done)
  all_goals try (rename_i hh _; cases hh; done)
  all_goals try (cases h; done)
  · rename_i hk'
    cases h
    refine ⟨[], rfl, hB.one _ _, ⟨by simp, by simp⟩, Ie ?_ rfl⟩
    exact .sl _ none 0 0 false _ 0 (fun _ _ => undef) rfl (Nat.le_refl _) (by intro e; cases e) (fun _ => rfl) (by simp [L]) (by simp [L]) (by simp [L])
  · rename_i e' a len cap hk'
    cases hk'
    simp only at h
    split at h
    case isFalse => cases h
    rename_i hcap
    obtain ⟨_, hlc, hcm⟩ := hcap
    rw [Option.bind_eq_some_iff] at h
    obtain ⟨elems, hel, h⟩ := h
    rw [Option.map_eq_some_iff] at h
    obtain ⟨rest, hrest, h⟩ := h
    simp only [Prod.mk.injEq] at h
    obtain ⟨rfl, _⟩ := h
    obtain ⟨hlen, hget⟩ := Q2 hel
    rw [List.length_range] at hlen
    have hex : ∀ i, i < len → ∃ x : α, ∃ cs' : List Value, (∀ j, j < k → W.cell? (a.add (i * k + j)) = some (cs'.getD j undef)) ∧ cs'.length = k ∧ sz x ≤ B H ((elems.map (·.1)).getD i .nil) ∧ ok x ∧
        ∀ (j : Nat) (y : AV), (c x)[j]? = some y → Rep W pr [] (cs'.getD j undef) y ∧ one (cs'.getD j undef) = true := by
      intro i hi
      obtain ⟨i', hi', hf⟩ := hget i (elems[i]'(by omega)) (List.getElem?_eq_getElem _)
      rw [List.getElem?_range hi] at hi'
      cases hi'
      rw [Option.bind_eq_some_iff] at hf
      obtain ⟨cs', hcs, hf⟩ := hf
      rw [hk] at hcs
      obtain ⟨q1, q2⟩ := Ud hcs
      obtain ⟨x, r1, r2, r3, r4⟩ := he H enc W pr hpr cs' _ _ hf
      refine ⟨x, cs', fun j hj => by rw [← q2 j hj, Abj], q1, ?_, r3, r4⟩
      have : (elems.map (·.1)).getD i .nil = (elems[i]'(by omega)).1 := by
        simp [List.getD_eq_getElem?_getD, List.getElem?_map, List.getElem?_eq_getElem (show i < elems.length by omega)]
      rw [this]; exact r2
    obtain ⟨l, hll, hl⟩ := Ml _ len hex
    have hcell : ∀ i, i < len → ∃ cs' : List Value, (∀ j, j < k → W.cell? (a.add (i * k + j)) = some (cs'.getD j undef)) ∧ ∀ x, l[i]? = some x → ∀ (j : Nat) (y : AV), (c x)[j]? = some y → Rep W pr [] (cs'.getD j undef) y ∧ one (cs'.getD j undef) = true := by
      intro i hi
      obtain ⟨cs', h1, _, _, _, h2⟩ := hl i (l[i]'(by omega)) (List.getElem?_eq_getElem _)
      refine ⟨cs', h1, fun x hx => ?_⟩
      rw [List.getElem?_eq_getElem (by omega)] at hx
      cases hx
      exact h2
    have hc2 : ∃ f : Nat → Nat → Value, ∀ i, i < len → (∀ j, j < k → W.cell? (a.add (i * k + j)) = some (f i j)) ∧ ∀ x, l[i]? = some x → ∀ (j : Nat) (y : AV), (c x)[j]? = some y → Rep W pr [] (f i j) y ∧ one (f i j) = true := by
      refine ⟨fun i j => if h : i < len then (Classical.choose (hcell i h)).getD j undef else undef, fun i hi => ?_⟩
      have := Classical.choose_spec (hcell i hi)
      simp only [dif_pos hi]
      exact this
    obtain ⟨f, hf⟩ := hc2
    refine ⟨l, rfl, ?_, ⟨by omega, fun x hx => ?_⟩, Ie ?_ rfl⟩
    · refine Nat.le_trans (Nat.succ_le_succ ?_) (hB.slice H (elems.map (·.1)) (rest.map (·.1)))
      refine Tm (by simp; omega) ?_
      intro i x y hx hy
      simp only [List.getElem?_map, Option.map_eq_some_iff] at hx hy
      obtain ⟨u, hu, rfl⟩ := hx
      obtain ⟨v, hv, rfl⟩ := hy
      obtain ⟨cs', _, _, h3, _⟩ := hl i u hu
      have : (elems.map (·.1)).getD i .nil = v := by
        obtain ⟨v', hv', rfl⟩ := hv
        simp [List.getD_eq_getElem?_getD, List.getElem?_map, hv']
      rw [this] at h3; exact h3
    · obtain ⟨i, hi, rfl⟩ := List.getElem_of_mem hx
      obtain ⟨cs', _, _, _, h4, _⟩ := hl i l[i] (List.getElem?_eq_getElem hi)
      exact h4
    · have hg : ∀ (i : Nat) (cs : List AV), (L c l)[i]? = some cs → i < len ∧ ∃ x, l[i]? = some x ∧ cs = c x := by
        intro i cs hi
        simp only [L, List.getElem?_map, Option.map_eq_some_iff] at hi
        obtain ⟨x, hx, rfl⟩ := hi
        exact ⟨by rw [← hll]; exact (List.getElem?_eq_some_iff.1 hx).1, x, hx, rfl⟩
      refine .sl _ (some a) len cap false _ k f (by rw [Agi, hll]) hlc (by intro e; cases e) (by intro e; cases e) ?_ ?_ ?_
      · intro i cs hi
        obtain ⟨_, x, _, rfl⟩ := hg i cs hi
        exact hck x
      · intro i cs j x hi hj
        obtain ⟨hil, u, hu, rfl⟩ := hg i cs hi
        have hjk : j < k := by rw [← hck u]; exact (List.getElem?_eq_some_iff.1 hj).1
        exact ⟨a, rfl, (hf i hil).1 j hjk, hpr _, ((hf i hil).2 u hu j x hj).2⟩
      · intro i cs j x hi hj
        obtain ⟨hil, u, hu, rfl⟩ := hg i cs hi
        exact ((hf i hil).2 u hu j x hj).1
def Nm (P : Program) (B : ∀ H : Type, DataW H → Nat) (fuel : Nat) (fs : List Field) (o : Nat) {α : Type} (c : α → List AV) (sz : α → Nat) (ok : α → Prop) : Prop :=
  ∀ (H : Type) (enc : TypeId × Value → H) (W : World) (pr : Addr → Prop), (∀ a, pr a) → ∀ (cs : List Value) (l : List (DataW H × List MemPlace)),
    (fs.mapM fun f => DataW.trod enc P W 0 (fun _ => true) true fuel f.type ((cs.drop f.offset).take (P.cellsOf f.type))) = some l →
    ∃ x : α, sz x ≤ (l.map fun d => B H d.1).sum ∧ ok x ∧ ∀ (j : Nat) (y : AV), (c x)[j]? = some y → Rep W pr [] (cs.getD (o + j) undef) y ∧ one (cs.getD (o + j) undef) = true
theorem Va {o fuel : Nat} : Nm P B fuel [] o (fun _ : Unit => []) (fun _ => 0) (fun _ => True) := by
  intro H enc W pr hpr cs l h
  exact ⟨(), by simp, trivial, fun j y hj => by simp at hj⟩
theorem Gj {f : Field} {fs : List Field} {o k fuel : Nat} {α β : Type} {c1 : α → List AV} {sz1 : α → Nat} {ok1 : α → Prop} {c2 : β → List AV} {sz2 : β → Nat} {ok2 : β → Prop}
    (ho : f.offset = o) (hk : P.cellsOf f.type = k) (hck : ∀ x, (c1 x).length = k) (h1 : Ju P B fuel f.type c1 sz1 ok1) (h2 : Nm P B fuel fs (o + k) c2 sz2 ok2) :
    Nm P B fuel (f :: fs) o (fun x : α × β => c1 x.1 ++ c2 x.2) (fun x => sz1 x.1 + sz2 x.2) (fun x => ok1 x.1 ∧ ok2 x.2) := by
  intro H enc W pr hpr cs l h
  rw [List.mapM_cons] at h
  simp only [Option.bind_eq_bind, Option.bind_eq_some_iff] at h
  obtain ⟨d, hd, l2, hl, h⟩ := h
  cases h
  obtain ⟨x, e1, e2, e3, e4⟩ := h1 H enc W pr hpr _ d.1 d.2 hd
  obtain ⟨y, g1, g2, g3⟩ := h2 H enc W pr hpr cs l2 hl
  refine ⟨(x, y), by simp only [List.map_cons, List.sum_cons]; omega, ⟨e3, g2⟩, fun j z hj => ?_⟩
  by_cases hjk : j < k
  · rw [List.getElem?_append_left (by rw [hck]; exact hjk)] at hj
    have := e4 j z hj
    have e : ((cs.drop f.offset).take (P.cellsOf f.type)).getD j undef = cs.getD (o + j) undef := by
      simp only [List.getD_eq_getElem?_getD, List.getElem?_take, List.getElem?_drop, hk, ho, hjk, if_true]
    rwa [e] at this
  · rw [List.getElem?_append_right (by rw [hck]; omega), hck] at hj
    have := g3 (j - k) z hj
    rwa [show o + k + (j - k) = o + j by omega] at this
theorem Sg {t : TypeId} {fuel : Nat} {fs : Array Field} (hB : BulkOk B) (ht : P.underlying t = some (.struct fs)) {α β : Type} {c : α → List AV} {sz : α → Nat} {ok : α → Prop} {n : Nat}
    (hn : P.cellsOf t = n) (hf : Nm P B fuel fs.toList 0 c sz ok) (e : α → β) {cb : β → List AV} {szb : β → Nat} {okb : β → Prop} (hc : ∀ x, cb (e x) = c x) (hcn : ∀ x, (cb x).length = n) (hs : ∀ x, szb (e x) ≤ sz x) (hok : ∀ x, ok x → okb (e x)) :
    Ju P B (fuel + 1) t cb szb okb := by
  intro H enc W pr hpr cs d ps h
  unfold DataW.trod at h
  rw [ht] at h
  split at h <;> try (rename_i hh; cases hh; done)
  all_goals try (rename_i hh _; cases hh; done)
  all_goals try (cases h; done)
  case h_21 =>
    exfalso
    rename ∀ (fs' : Array Field), some (TypeDesc.struct fs) = some (TypeDesc.struct fs') → False => hh
    exact hh _ rfl
  rename_i fs' hk
  cases hk
  split at h
  case isFalse => cases h
  rename_i hl
  rw [Option.map_eq_some_iff] at h
  obtain ⟨l, hl2, he⟩ := h
  obtain ⟨x, h1, h2, h3⟩ := hf H enc W pr hpr _ l hl2
  cases he
  refine ⟨e x, by rw [hcn, hl, hn], ?_, hok x h2, fun j y hj => ?_⟩
  · have := hB.agg H (l.map (·.1))
    rw [List.map_map] at this
    exact Nat.le_trans (hs x) (Nat.le_trans h1 this)
  · rw [hc] at hj
    have := h3 j y hj
    rwa [Nat.zero_add] at this
end
end Go.Rv
