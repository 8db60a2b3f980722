/-
  Part 23.
-/
import Derived.Test.YtnfoiocigicdnaaGreatDoorYV22
import GoSem.ClaimChange
namespace Go.Rv
set_option linter.unusedVariables false
set_option linter.unusedSimpArgs false
structure BulkOk (B : ∀ H : Type, DataW H → Nat) : Prop where
  one : ∀ (H : Type) (d : DataW H), 1 ≤ B H d
  str : ∀ (H : Type) (l : List UInt8), l.length + 1 ≤ B H (.lit (.string l))
  slice : ∀ (H : Type) (elems spare : List (DataW H)), (elems.map (B H)).sum + 1 ≤ B H (.slice elems spare)
  agg : ∀ (H : Type) (parts : List (DataW H)), (parts.map (B H)).sum ≤ B H (.agg parts)
def Opens (P : Program) (B : ∀ H : Type, DataW H → Nat) (t : TypeId) {α : Type} (c : α → List AV) (sz : α → Nat) (ok : α → Prop) : Prop :=
  ∀ (H : Type) (enc : TypeId × Value → H) (W : World) (pr : Addr → Prop), (∀ a, pr a) → ∀ (fuel : Nat) (cs : List Value) (d : DataW H) (ps : List MemPlace),
    DataW.trod enc P W 0 (fun _ => true) true fuel t cs = some (d, ps) →
    ∃ x : α, cs.length = (c x).length ∧ sz x ≤ B H d ∧ ok x ∧ ∀ (j : Nat) (y : AV), (c x)[j]? = some y → Rep W pr [] (cs.getD j undef) y ∧ one (cs.getD j undef) = true
section
variable {P : Program} {B : ∀ H : Type, DataW H → Nat} {t : TypeId}
theorem Ie {W : World} {pr : Addr → Prop} {v : Value} {x : AV} (h : Rep W pr [] v x) (ho : one v = true) : ∀ (j : Nat) (y : AV), [x][j]? = some y → Rep W pr [] ([v].getD j undef) y ∧ one ([v].getD j undef) = true := by
  intro j y hj
  cases j with
  | zero => cases hj; exact ⟨h, ho⟩
  | succ j => simp at hj
theorem Aei {k : IntKind} (hB : BulkOk B) (ht : P.underlying t = some (.int k)) {α : Type} (c : α → List AV) (hc : ∀ n : Int, k.min ≤ n → n ≤ k.max → ∃ x, c x = [.int k n]) : Opens P B t c (fun _ => 1) (fun _ => True) := by
  intro H enc W pr hpr fuel cs d ps h
  cases fuel with
  | zero => cases h
  | succ fuel =>
    unfold DataW.trod at h
    rw [ht] at h
    split at h <;> try (rename_i hh; cases hh; done)
    all_goals try (rename_i hh _; cases hh; done)
    all_goals try (cases h; done)
    rename_i k1 k' n hk
    cases hk
    split at h
    case isFalse => cases h
    rename_i hc2
    obtain ⟨rfl, hwf⟩ := hc2
    simp only [Lit.wf, Bool.and_eq_true, decide_eq_true_eq] at hwf
    obtain ⟨x, hx⟩ := hc n hwf.1 hwf.2
    cases h
    refine ⟨x, by rw [hx]; rfl, hB.one _ _, trivial, ?_⟩
    rw [hx]
    exact Ie (.int _ _ _) rfl
theorem Xb (hB : BulkOk B) (ht : P.underlying t = some (.int .i64)) : Opens P B t Nc (fun _ => 1) (fun x => -9223372036854775808 ≤ x ∧ x ≤ 9223372036854775807) := by
  intro H enc W pr hpr fuel cs d ps h
  cases fuel with
  | zero => cases h
  | succ fuel =>
    unfold DataW.trod at h
    rw [ht] at h
    split at h <;> try (rename_i hh; cases hh; done)
    all_goals try (rename_i hh _; cases hh; done)
    all_goals try (cases h; done)
    rename_i k1 k' n hk
    cases hk
    split at h
    case isFalse => cases h
    rename_i hc2
    obtain ⟨rfl, hwf⟩ := hc2
    simp only [Lit.wf, Bool.and_eq_true, decide_eq_true_eq] at hwf
    cases h
    exact ⟨n, rfl, hB.one _ _, ⟨hwf.1, hwf.2⟩, Ie (.int _ _ _) rfl⟩
theorem Agq (hB : BulkOk B) (ht : P.underlying t = some (.int .u8)) : Opens P B t cU8 (fun _ => 1) (fun _ => True) :=
  Aei hB ht cU8 fun n h1 h2 => ⟨UInt8.ofNat n.toNat, by
    have h3 : (0 : Int) ≤ n := h1
    have h4 : n ≤ 255 := h2
    have : ((UInt8.ofNat n.toNat).toNat : Int) = n := by rw [UInt8.toNat_ofNat']; omega
    simp only [cU8, u8, this]⟩
theorem Acj (hB : BulkOk B) (ht : P.underlying t = some .bool) : Opens P B t AiK (fun _ => 1) (fun _ => True) := by
  intro H enc W pr hpr fuel cs d ps h
  cases fuel with
  | zero => cases h
  | succ fuel =>
    unfold DataW.trod at h
    rw [ht] at h
    split at h <;> try (rename_i hh; cases hh; done)
    all_goals try (rename_i hh _; cases hh; done)
    all_goals try (cases h; done)
    rename_i b hk
    cases h
    exact ⟨b, rfl, hB.one _ _, trivial, Ie (.bool _ _) rfl⟩
theorem AdS (hB : BulkOk B) (ht : P.underlying t = some .string) : Opens P B t Tj (fun l => l.length + 1) (fun l => l.length ≤ maxLen) := by
  intro H enc W pr hpr fuel cs d ps h
  cases fuel with
  | zero => cases h
  | succ fuel =>
    unfold DataW.trod at h
    rw [ht] at h
    split at h <;> try (rename_i hh; cases hh; done)
    all_goals try (rename_i hh _; cases hh; done)
    all_goals try (cases h; done)
    rename_i b hk
    split at h
    case isFalse => cases h
    rename_i hl
    cases h
    exact ⟨b.data.toList, rfl, hB.str _ _, by simpa using hl, Ie (.str _ _ _ rfl) rfl⟩
end
theorem Abj (a : Addr) (m j : Nat) : (a.add m).add j = a.add (m + j) := by
  unfold Addr.add
  by_cases hm : m = 0
  · subst hm; simp
  · by_cases hj : j = 0
    · subst hj; simp [hm]
    · rw [if_neg hm, if_neg hj, if_neg (by omega)]
      simp [Nat.add_assoc]
theorem Ml {α : Type} (p : Nat → α → Prop) : ∀ (n : Nat), (∀ i, i < n → ∃ x, p i x) → ∃ l : List α, l.length = n ∧ ∀ (i : Nat) (x : α), l[i]? = some x → p i x
  | 0, _ => ⟨[], rfl, fun i x h => by simp at h⟩
  | n + 1, h => by
    obtain ⟨l, hl, hp⟩ := Ml p n (fun i hi => h i (by omega))
    obtain ⟨x, hx⟩ := h n (by omega)
    refine ⟨l ++ [x], by simp [hl], fun i y hy => ?_⟩
    rcases Nat.lt_or_ge i n with hi | hi
    · rw [List.getElem?_append_left (by omega)] at hy; exact hp i y hy
    · rw [List.getElem?_append_right (by omega)] at hy
      have : i - l.length = 0 := by
        have := (List.getElem?_eq_some_iff.1 hy).1; simp at this; exact this
      rw [this] at hy
      cases hy
      have : i = n := by omega
      subst this
      exact hx
theorem Tm {l m : List Nat} (hl : l.length = m.length) (h : ∀ (i : Nat) (x y : Nat), l[i]? = some x → m[i]? = some y → x ≤ y) : l.sum ≤ m.sum := by
  induction l generalizing m with
  | nil => simp
  | cons a l ih =>
    cases m with
    | nil => simp at hl
    | cons b m =>
      have h0 := h 0 a b rfl rfl
      have h1 := ih (by simpa using hl) (fun i x y hx hy => h (i + 1) x y (by simpa using hx) (by simpa using hy))
      simp
      omega
theorem Q2 {α β : Type} {f : α → Option β} : ∀ {l : List α} {r : List β}, l.mapM f = some r → l.length = r.length ∧ ∀ (i : Nat) (y : β), r[i]? = some y → ∃ x, l[i]? = some x ∧ f x = some y :=
  fun {l r} h => J0 f l r h
theorem Ud {w : World} {a : Addr} {n : Nat} {cs : List Value} (h : w.cells? 0 a n = some cs) : cs.length = n ∧ ∀ j, j < n → w.cell? (a.add j) = some (cs.getD j undef) := by
  unfold World.cells? at h
  rw [if_pos (Nat.zero_le _)] at h
  obtain ⟨h1, h2⟩ := Q2 h
  rw [List.length_range] at h1
  refine ⟨h1.symm, fun j hj => ?_⟩
  obtain ⟨x, hx, hv⟩ := h2 j (cs[j]'(by omega)) (List.getElem?_eq_getElem _)
  rw [List.getElem?_range hj] at hx
  cases hx
  rw [hv, List.getD_eq_getElem?_getD, List.getElem?_eq_getElem (by omega)]; rfl
def szL {α : Type} (sz : α → Nat) (l : List α) : Nat := (l.map sz).sum + 1
theorem Qf {P : Program} {B : ∀ H : Type, DataW H → Nat} {t e : TypeId} (hB : BulkOk B) (ht : P.underlying t = some (.slice e)) {α : Type} {c : α → List AV} {sz : α → Nat} {ok : α → Prop} {k : Nat} (hk : P.cellsOf e = k) (hck : ∀ x, (c x).length = k)
    (he : Opens P B e c sz ok) : Opens P B t (cSl c) (szL sz) (fun l => l.length ≤ maxLen ∧ ∀ x ∈ l, ok x) := by
  intro H enc W pr hpr fuel cs d ps h
  cases fuel with
  | zero => cases h
  | succ fuel =>
    unfold DataW.trod at h
    rw [ht] at h
    split at h <;> try (rename_i hh; cases hh; done)
    all_goals try (rename_i hh _; cases hh; done)
    all_goals try (cases h; done)
    · rename_i hk'
      cases h
      refine ⟨[], rfl, hB.one _ _, ⟨by simp, by simp⟩, Ie ?_ rfl⟩
      exact .sl _ none 0 0 false _ 0 (fun _ _ => undef) rfl (Nat.le_refl _) (by intro e; cases e) (fun _ => rfl) (by simp [L]) (by simp [L]) (by simp [L])
    · rename_i e' a len cap hk'
      cases hk'
      simp only at h
      split at h
      case isFalse => cases h
      rename_i hcap
      obtain ⟨_, hlc, hcm⟩ := hcap
      rw [Option.bind_eq_some_iff] at h
      obtain ⟨elems, hel, h⟩ := h
      rw [Option.map_eq_some_iff] at h
      obtain ⟨rest, hrest, h⟩ := h
      simp only [Prod.mk.injEq] at h
      obtain ⟨rfl, _⟩ := h
      obtain ⟨hlen, hget⟩ := Q2 hel
      rw [List.length_range] at hlen
      have hex : ∀ i, i < len → ∃ x : α, ∃ cs' : List Value, (∀ j, j < k → W.cell? (a.add (i * k + j)) = some (cs'.getD j undef)) ∧ cs'.length = k ∧ sz x ≤ B H ((elems.map (·.1)).getD i .nil) ∧ ok x ∧
          ∀ (j : Nat) (y : AV), (c x)[j]? = some y → Rep W pr [] (cs'.getD j undef) y ∧ one (cs'.getD j undef) = true := by
        intro i hi
        obtain ⟨i', hi', hf⟩ := hget i (elems[i]'(by omega)) (List.getElem?_eq_getElem _)
        rw [List.getElem?_range hi] at hi'
        cases hi'
        rw [Option.bind_eq_some_iff] at hf
        obtain ⟨cs', hcs, hf⟩ := hf
        rw [hk] at hcs
        obtain ⟨q1, q2⟩ := Ud hcs
        obtain ⟨x, r1, r2, r3, r4⟩ := he H enc W pr hpr fuel cs' _ _ hf
        refine ⟨x, cs', fun j hj => by rw [← q2 j hj, Abj], q1, ?_, r3, r4⟩
        have : (elems.map (·.1)).getD i .nil = (elems[i]'(by omega)).1 := by
          simp [List.getD_eq_getElem?_getD, List.getElem?_map, List.getElem?_eq_getElem (show i < elems.length by omega)]
        rw [this]; exact r2
      obtain ⟨l, hll, hl⟩ := Ml _ len hex
      have hcell : ∀ i, i < len → ∃ cs' : List Value, (∀ j, j < k → W.cell? (a.add (i * k + j)) = some (cs'.getD j undef)) ∧ ∀ x, l[i]? = some x → ∀ (j : Nat) (y : AV), (c x)[j]? = some y → Rep W pr [] (cs'.getD j undef) y ∧ one (cs'.getD j undef) = true := by
        intro i hi
        obtain ⟨cs', h1, _, _, _, h2⟩ := hl i (l[i]'(by omega)) (List.getElem?_eq_getElem _)
        refine ⟨cs', h1, fun x hx => ?_⟩
        rw [List.getElem?_eq_getElem (by omega)] at hx
        cases hx
        exact h2
      have hc2 : ∃ f : Nat → Nat → Value, ∀ i, i < len → (∀ j, j < k → W.cell? (a.add (i * k + j)) = some (f i j)) ∧ ∀ x, l[i]? = some x → ∀ (j : Nat) (y : AV), (c x)[j]? = some y → Rep W pr [] (f i j) y ∧ one (f i j) = true := by
        refine ⟨fun i j => if h : i < len then (Classical.choose (hcell i h)).getD j undef else undef, fun i hi => ?_⟩
        have := Classical.choose_spec (hcell i hi)
        simp only [dif_pos hi]
        exact this
      obtain ⟨f, hf⟩ := hc2
      refine ⟨l, rfl, ?_, ⟨by omega, fun x hx => ?_⟩, Ie ?_ rfl⟩
      · refine Nat.le_trans (Nat.succ_le_succ ?_) (hB.slice H (elems.map (·.1)) (rest.map (·.1)))
        refine Tm (by simp; omega) ?_
        intro i x y hx hy
        simp only [List.getElem?_map, Option.map_eq_some_iff] at hx hy
        obtain ⟨u, hu, rfl⟩ := hx
        obtain ⟨v, hv, rfl⟩ := hy
        obtain ⟨cs', _, _, h3, _⟩ := hl i u hu
        have : (elems.map (·.1)).getD i .nil = v := by
          obtain ⟨v', hv', rfl⟩ := hv
          simp [List.getD_eq_getElem?_getD, List.getElem?_map, hv']
        rw [this] at h3; exact h3
      · obtain ⟨i, hi, rfl⟩ := List.getElem_of_mem hx
        obtain ⟨cs', _, _, _, h4, _⟩ := hl i l[i] (List.getElem?_eq_getElem hi)
        exact h4
      · have hg : ∀ (i : Nat) (cs : List AV), (L c l)[i]? = some cs → i < len ∧ ∃ x, l[i]? = some x ∧ cs = c x := by
          intro i cs hi
          simp only [L, List.getElem?_map, Option.map_eq_some_iff] at hi
          obtain ⟨x, hx, rfl⟩ := hi
          exact ⟨by rw [← hll]; exact (List.getElem?_eq_some_iff.1 hx).1, x, hx, rfl⟩
        refine .sl _ (some a) len cap false _ k f (by rw [Agi, hll]) hlc (by intro e; cases e) (by intro e; cases e) ?_ ?_ ?_
        · intro i cs hi
          obtain ⟨_, x, _, rfl⟩ := hg i cs hi
          exact hck x
        · intro i cs j x hi hj
          obtain ⟨hil, u, hu, rfl⟩ := hg i cs hi
          have hjk : j < k := by rw [← hck u]; exact (List.getElem?_eq_some_iff.1 hj).1
          exact ⟨a, rfl, (hf i hil).1 j hjk, hpr _, ((hf i hil).2 u hu j x hj).2⟩
        · intro i cs j x hi hj
          obtain ⟨hil, u, hu, rfl⟩ := hg i cs hi
          exact ((hf i hil).2 u hu j x hj).1
theorem T3 {V X : Type} {f : V → Option (V ⊕ X)} (I : V → Prop) (μ : V → Nat) (Q : X → Prop)
    (h : ∀ v, I v → (∃ v', f v = some (.inl v') ∧ I v' ∧ μ v' < μ v) ∨ (∃ x, f v = some (.inr x) ∧ Q x)) : ∀ (n : Nat) (v : V), I v → μ v < n → ∃ x, La f n v = some x ∧ Q x
  | 0, v, _, hn => absurd hn (Nat.not_lt_zero _)
  | n + 1, v, hv, hn => by
    unfold La
    rcases h v hv with ⟨v', h1, h2, h3⟩ | ⟨x, h1, h2⟩
    · rw [h1]
      exact T3 I μ Q h n v' h2 (by omega)
    · rw [h1]
      exact ⟨x, rfl, h2⟩
theorem F9 {V X : Type} {f : V → Option (V ⊕ X)} (I : V → Prop) (μ : V → Nat) (Q : X → Prop)
    (h : ∀ v, I v → (∃ v', f v = some (.inl v') ∧ I v' ∧ μ v' < μ v) ∨ (∃ x, f v = some (.inr x) ∧ Q x)) {v0 : V} (h0 : I v0) (hm : μ v0 < 18446744073709551616) : ∃ x, C6 f v0 = some x ∧ Q x :=
  T3 I μ Q h _ v0 h0 hm
theorem I9 {V X : Type} {f : V → Option (V ⊕ X)} (n : Nat) (J : Nat → V → Prop) (Q : X → Prop) (hn : n < 18446744073709551616) (hs : ∀ k v, k < n → J k v → ∃ v', f v = some (.inl v') ∧ J (k + 1) v')
    (he : ∀ v, J n v → ∃ x, f v = some (.inr x) ∧ Q x) {v0 : V} (h0 : J 0 v0) : ∃ x, C6 f v0 = some x ∧ Q x := by
  have key : ∀ (m k : Nat) (v : V), k + m = n → J k v → ∀ fuel, m < fuel → ∃ x, La f fuel v = some x ∧ Q x := by
    intro m
    induction m with
    | zero =>
      intro k v hk hj fuel hf
      obtain ⟨fuel, rfl⟩ : ∃ g, fuel = g + 1 := ⟨fuel - 1, by omega⟩
      have : k = n := by omega
      subst this
      obtain ⟨x, hx, hq⟩ := he v hj
      unfold La
      rw [hx]
      exact ⟨x, rfl, hq⟩
    | succ m ih =>
      intro k v hk hj fuel hf
      obtain ⟨fuel, rfl⟩ : ∃ g, fuel = g + 1 := ⟨fuel - 1, by omega⟩
      obtain ⟨v', hv, hj'⟩ := hs k v (by omega) hj
      unfold La
      rw [hv]
      exact ih (k + 1) v' (by omega) hj' fuel (by omega)
  exact key n 0 v0 (by omega) h0 _ hn
theorem Qw {n : Nat} (h : n ≤ 140737488355328) : Fv n 1 := by unfold Fv maxLen M9; omega
theorem Aeu {k n : Nat} (h : k < n) : InR (k : Int) n := by unfold InR; omega
def V6 (P : Program) (B : ∀ H : Type, DataW H → Nat) (fs : List Field) (o : Nat) {α : Type} (c : α → List AV) (sz : α → Nat) (ok : α → Prop) : Prop :=
  ∀ (H : Type) (enc : TypeId × Value → H) (W : World) (pr : Addr → Prop), (∀ a, pr a) → ∀ (fuel : Nat) (cs : List Value) (l : List (DataW H × List MemPlace)),
    (fs.mapM fun f => DataW.trod enc P W 0 (fun _ => true) true fuel f.type ((cs.drop f.offset).take (P.cellsOf f.type))) = some l →
    ∃ x : α, sz x ≤ (l.map fun d => B H d.1).sum ∧ ok x ∧ ∀ (j : Nat) (y : AV), (c x)[j]? = some y → Rep W pr [] (cs.getD (o + j) undef) y ∧ one (cs.getD (o + j) undef) = true
theorem Mf {P : Program} {B : ∀ H : Type, DataW H → Nat} {o : Nat} : V6 P B [] o (fun _ : Unit => []) (fun _ => 0) (fun _ => True) := by
  intro H enc W pr hpr fuel cs l h
  exact ⟨(), by simp, trivial, fun j y hj => by simp at hj⟩
theorem Be {P : Program} {B : ∀ H : Type, DataW H → Nat} {f : Field} {fs : List Field} {o k : Nat} {α β : Type} {c1 : α → List AV} {sz1 : α → Nat} {ok1 : α → Prop} {c2 : β → List AV} {sz2 : β → Nat} {ok2 : β → Prop}
    (ho : f.offset = o) (hk : P.cellsOf f.type = k) (hck : ∀ x, (c1 x).length = k) (h1 : Opens P B f.type c1 sz1 ok1) (h2 : V6 P B fs (o + k) c2 sz2 ok2) :
    V6 P B (f :: fs) o (fun x : α × β => c1 x.1 ++ c2 x.2) (fun x => sz1 x.1 + sz2 x.2) (fun x => ok1 x.1 ∧ ok2 x.2) := by
  intro H enc W pr hpr fuel cs l h
  rw [List.mapM_cons] at h
  simp only [Option.bind_eq_bind, Option.bind_eq_some_iff] at h
  obtain ⟨d, hd, l2, hl, h⟩ := h
  cases h
  obtain ⟨x, e1, e2, e3, e4⟩ := h1 H enc W pr hpr fuel _ d.1 d.2 hd
  obtain ⟨y, g1, g2, g3⟩ := h2 H enc W pr hpr fuel cs l2 hl
  refine ⟨(x, y), by simp only [List.map_cons, List.sum_cons]; omega, ⟨e3, g2⟩, fun j z hj => ?_⟩
  by_cases hjk : j < k
  · rw [List.getElem?_append_left (by rw [hck]; exact hjk)] at hj
    have := e4 j z hj
    have e : ((cs.drop f.offset).take (P.cellsOf f.type)).getD j undef = cs.getD (o + j) undef := by
      simp only [List.getD_eq_getElem?_getD, List.getElem?_take, List.getElem?_drop, hk, ho, hjk, if_true]
    rwa [e] at this
  · rw [List.getElem?_append_right (by rw [hck]; omega), hck] at hj
    have := g3 (j - k) z hj
    rwa [show o + k + (j - k) = o + j by omega] at this
theorem K1 {P : Program} {B : ∀ H : Type, DataW H → Nat} {t : TypeId} {fs : Array Field} (hB : BulkOk B) (ht : P.underlying t = some (.struct fs)) {α β : Type} {c : α → List AV} {sz : α → Nat} {ok : α → Prop} {n : Nat}
    (hn : P.cellsOf t = n) (hf : V6 P B fs.toList 0 c sz ok) (e : α → β) {cb : β → List AV} {szb : β → Nat} {okb : β → Prop} (hc : ∀ x, cb (e x) = c x) (hcn : ∀ x, (cb x).length = n) (hs : ∀ x, szb (e x) ≤ sz x) (hok : ∀ x, ok x → okb (e x)) :
    Opens P B t cb szb okb := by
  intro H enc W pr hpr fuel cs d ps h
  cases fuel with
  | zero => cases h
  | succ fuel =>
    unfold DataW.trod at h
    rw [ht] at h
    split at h <;> try (rename_i hh; cases hh; done)
    all_goals try (rename_i hh _; cases hh; done)
    all_goals try (cases h; done)
    case h_21 =>
      exfalso
      rename ∀ (fs' : Array Field), some (TypeDesc.struct fs) = some (TypeDesc.struct fs') → False => hh
      exact hh _ rfl
    rename_i fs' hk
    cases hk
    split at h
    case isFalse => cases h
    rename_i hl
    rw [Option.map_eq_some_iff] at h
    obtain ⟨l, hl2, he⟩ := h
    obtain ⟨x, h1, h2, h3⟩ := hf H enc W pr hpr fuel _ l hl2
    cases he
    refine ⟨e x, by rw [hcn, hl, hn], ?_, hok x h2, fun j y hj => ?_⟩
    · have := hB.agg H (l.map (·.1))
      rw [List.map_map] at this
      exact Nat.le_trans (hs x) (Nat.le_trans h1 this)
    · rw [hc] at hj
      have := h3 j y hj
      rwa [Nat.zero_add] at this
end Go.Rv
