/-
  R27: arrays as arguments of statements.
-/
import Derived.Test.YtomjphpnpcgacaaR26
namespace Go.Rv
set_option linter.unusedVariables false
set_option linter.unusedSimpArgs false

theorem opens_arr {P : Program} {B : ∀ H : Type, DataW H → Nat} {t e : TypeId} {n : Nat} (hB : BulkOk B) (ht : P.underlying t = some (.array n e)) (hn : P.cellsOf t = n) (h1 : P.cellsOf e = 1) {α : Type} {c : α → AV} {sz : α → Nat} {ok : α → Prop}
    (he : Opens P B e (fun x => [c x]) sz ok) : Opens P B t (fun a : Arr α n => C1 c a.l) (fun a => (a.l.map sz).sum) (fun a => ∀ x ∈ a.l, ok x) := by
  intro H enc W pr hpr fuel cs d ps h
  cases fuel with
  | zero => cases h
  | succ fuel =>
    unfold DataW.trod at h
    rw [ht] at h
    split at h <;> try (rename_i hh; cases hh; done)
    all_goals try (rename_i hh _; cases hh; done)
    all_goals try (cases h; done)
    all_goals try (exfalso; rename ∀ (n' : Nat) (e' : TypeId), some (TypeDesc.array n e) = some (TypeDesc.array n' e') → False => hh; exact hh _ _ rfl)
    rename_i cs _ _ n' e' hk
    cases hk
    split at h
    case isFalse => cases h
    rename_i hl
    rw [hn] at hl
    rw [Option.map_eq_some_iff] at h
    obtain ⟨xs, hxs, h⟩ := h
    simp only [Prod.mk.injEq] at h
    obtain ⟨rfl, _⟩ := h
    obtain ⟨hlen, hget⟩ := mapM_some hxs
    rw [List.length_range] at hlen
    have hex : ∀ i, i < n → ∃ x : α, sz x ≤ B H ((xs.map (·.1)).getD i .nil) ∧ ok x ∧ Rep W pr [] (cs.getD i undef) (c x) ∧ one (cs.getD i undef) = true := by
      intro i hi
      obtain ⟨i', hi', hf⟩ := hget i (xs[i]'(by omega)) (List.getElem?_eq_getElem _)
      rw [List.getElem?_range hi] at hi'
      cases hi'
      rw [h1, Nat.mul_one] at hf
      obtain ⟨x, r1, r2, r3, r4⟩ := he H enc W pr hpr fuel _ _ _ hf
      have := r4 0 (c x) rfl
      have ed : ((cs.drop i).take 1).getD 0 undef = cs.getD i undef := by
        simp [List.getD_eq_getElem?_getD, List.getElem?_take, List.getElem?_drop]
      rw [ed] at this
      refine ⟨x, ?_, r3, this.1, this.2⟩
      have eg : (xs.map (·.1)).getD i .nil = (xs[i]'(by omega)).1 := by
        simp [List.getD_eq_getElem?_getD, List.getElem?_map, List.getElem?_eq_getElem (show i < xs.length by omega)]
      rw [eg]; exact r2
    obtain ⟨l, hll, hl2⟩ := choose_list _ n hex
    refine ⟨⟨l, hll⟩, by simp [C1, hll, hl], ?_, fun x hx => ?_, fun j y hj => ?_⟩
    · refine Nat.le_trans ?_ (hB.agg H (xs.map (·.1)))
      refine sum_le_get (by simp; omega) ?_
      intro i x y hx hy
      simp only [List.getElem?_map, Option.map_eq_some_iff] at hx hy
      obtain ⟨u, hu, rfl⟩ := hx
      obtain ⟨v, hv, rfl⟩ := hy
      obtain ⟨h3, _⟩ := hl2 i u hu
      have : (xs.map (·.1)).getD i .nil = v := by
        obtain ⟨v', hv', rfl⟩ := hv
        simp [List.getD_eq_getElem?_getD, List.getElem?_map, hv']
      rw [this] at h3; exact h3
    · obtain ⟨i, hi, rfl⟩ := List.getElem_of_mem hx
      exact (hl2 i l[i] (List.getElem?_eq_getElem hi)).2.1
    · simp only [C1, List.getElem?_map, Option.map_eq_some_iff] at hj
      obtain ⟨x, hx, rfl⟩ := hj
      exact (hl2 j x hx).2.2

end Go.Rv
