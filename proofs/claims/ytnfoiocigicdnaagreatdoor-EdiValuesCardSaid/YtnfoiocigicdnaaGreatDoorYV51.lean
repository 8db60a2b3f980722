/-
  What the reach of the arguments says of the lists within an argument.
-/
import Derived.Test.YtnfoiocigicdnaaGreatDoorYV28
namespace Go.Rv
open Go.ChangeShapes Go.WideShapes Go.ChangeAt Go.RowKit
set_option linter.unusedVariables false
set_option linter.unusedSimpArgs false

section
variable {P : Program} {H : Type} {enc : TypeId × Value → H} {W : World} {t e : TypeId} {α : Type} {c : α → List AV} {v : Value} {d : DataW H} {p : List MemPlace} {pr : Addr → Prop} {l : List α} {fuel : Nat}
abbrev wOk (P : Program) (t : TypeId) (d : DataW H) : Prop := (d.weights P t).all (· ≤ reachBytes) = true
theorem weightsAll_mem : ∀ {ds : List (DataW H)}, (DataW.weightsAll P e ds).all (· ≤ reachBytes) = true → ∀ x ∈ ds, wOk P e x
  | [], _, x, hx => by cases hx
  | y :: ds, h, x, hx => by
    rw [DataW.weightsAll, List.all_append, Bool.and_eq_true] at h
    rcases List.mem_cons.1 hx with rfl | hx
    · exact h.1
    · exact weightsAll_mem h.2 x hx
theorem trod_sl (ht : P.underlying t = some (.slice e)) (hd : DataW.trod enc P W 0 (fun _ => true) true fuel t [v] = some (d, p)) (hr : Rep W pr [] v (.sl false (L c l))) (hw : wOk P t d) :
    l.length * P.bytesOf e ≤ reachBytes ∧ ∀ (hck : ∀ x, (c x).length = P.cellsOf e) (i : Nat) (hi : i < l.length), ∃ fuel' cs' d' p', DataW.trod enc P W 0 (fun _ => true) true fuel' e cs' = some (d', p') ∧ wOk P e d' ∧ ∀ (j : Nat) (y : AV), (c l[i])[j]? = some y → Rep W pr [] (cs'.getD j undef) y := by
  cases hr with
  | sl _ a len cap full els k cc hlen hcap hfull hnone hk hc hr =>
    have hll : l.length = len := by rw [← hlen]; simp [L]
    cases a with
    | none =>
      have h0 : l.length = 0 := by have := hnone rfl; omega
      exact ⟨by rw [h0, Nat.zero_mul]; exact Nat.zero_le _, fun _ i hi => absurd hi (by omega)⟩
    | some a =>
      cases fuel with
      | zero => cases hd
      | succ fuel =>
        unfold DataW.trod at hd
        rw [ht] at hd
        simp only at hd
        split at hd
        case isFalse => cases hd
        rw [Option.bind_eq_some_iff] at hd
        obtain ⟨elems, hel, hd⟩ := hd
        rw [Option.map_eq_some_iff] at hd
        obtain ⟨rest, hrest, hd⟩ := hd
        simp only [Prod.mk.injEq] at hd
        obtain ⟨rfl, _⟩ := hd
        obtain ⟨hlen2, hget⟩ := Q2 hel
        rw [List.length_range] at hlen2
        unfold wOk DataW.weights at hw
        rw [ht] at hw
        simp only [List.all_cons, Bool.and_eq_true, decide_eq_true_eq, List.length_map, List.all_append] at hw
        refine ⟨Nat.le_trans (Nat.mul_le_mul_right _ (by omega)) hw.1, fun hck i hi => ?_⟩
        have hie : i < elems.length := by omega
        obtain ⟨i', hi', hf⟩ := hget i (elems[i]'hie) (List.getElem?_eq_getElem _)
        rw [List.getElem?_range (by omega)] at hi'
        cases hi'
        rw [Option.bind_eq_some_iff] at hf
        obtain ⟨cs', hcs, hf⟩ := hf
        obtain ⟨q1, q2⟩ := Ud hcs
        refine ⟨fuel, cs', _, _, hf, weightsAll_mem hw.2.1 _ (List.mem_map.2 ⟨_, List.getElem_mem hie, rfl⟩), fun j y hj => ?_⟩
        have hels : (L c l)[i]? = some (c l[i]) := by simp [L, hi]
        have hjk : j < P.cellsOf e := by rw [← hck l[i]]; exact (List.getElem?_eq_some_iff.1 hj).1
        have hkk := hk i _ hels
        rw [hck] at hkk
        obtain ⟨b, hb, hcell, _, _⟩ := hc i _ j y hels hj
        cases hb
        have h2 := q2 j hjk
        rw [Abj, hkk] at h2
        rw [h2] at hcell
        have := Option.some.inj hcell
        rw [this]
        exact hr i _ j y hels hj
theorem take1 {cs : List Value} {k : Nat} (h : cs.length = 4) (hk : k < 4) : (cs.drop k).take 1 = [cs.getD k undef] := by
  match cs, h, k, hk with
  | [_, _, _, _], _, 0, _ => rfl
  | [_, _, _, _], _, 1, _ => rfl
  | [_, _, _, _], _, 2, _ => rfl
  | [_, _, _, _], _, 3, _ => rfl
/-- A struct of two numbers and two lists (api.Value). -/
theorem trod_val {fs : Array Field} {tI tB tL : TypeId} {cs : List Value} (ht : P.underlying t = some (.struct fs)) (hfs : fs.toList = [⟨"Kind", tI, 0, false, "", "", 0⟩, ⟨"N", tI, 1, false, "", "", 8⟩, ⟨"B", tB, 2, false, "", "", 16⟩, ⟨"L", tL, 3, false, "", "", 40⟩])
    (hn : P.cellsOf t = 4) (cB : P.cellsOf tB = 1) (cL : P.cellsOf tL = 1) (hd : DataW.trod enc P W 0 (fun _ => true) true fuel t cs = some (d, p)) (hw : wOk P t d) :
    ∃ fuel' d3 p3 d4 p4, cs.length = 4 ∧ DataW.trod enc P W 0 (fun _ => true) true fuel' tB [cs.getD 2 undef] = some (d3, p3) ∧ wOk P tB d3 ∧ DataW.trod enc P W 0 (fun _ => true) true fuel' tL [cs.getD 3 undef] = some (d4, p4) ∧ wOk P tL d4 := by
  cases fuel with
  | zero => cases hd
  | succ fuel =>
    unfold DataW.trod at hd
    rw [ht] at hd
    split at hd <;> try (rename_i hh; cases hh; done)
    all_goals try (rename_i hh _; cases hh; done)
    all_goals try (cases hd; done)
    case h_21 =>
      exfalso
      rename ∀ (fs' : Array Field), some (TypeDesc.struct fs) = some (TypeDesc.struct fs') → False => hh
      exact hh _ rfl
    rename_i fs' hk
    cases hk
    split at hd
    case isFalse => cases hd
    rename_i hl
    rw [hn] at hl
    rw [Option.map_eq_some_iff] at hd
    obtain ⟨l, hl2, he⟩ := hd
    cases he
    unfold wOk DataW.weights at hw
    rw [ht] at hw
    rw [hfs] at hl2
    simp only [hfs, List.map_cons, List.map_nil] at hw
    simp only [List.mapM_cons, List.mapM_nil, Option.bind_eq_bind, Option.bind_eq_some_iff, Option.pure_def] at hl2
    obtain ⟨a, _, l1, ⟨b, _, l2, ⟨x, hx, l3, ⟨y, hy, l4, h4, h3⟩, h2⟩, h1⟩, h0⟩ := hl2
    cases h4
    cases h3
    cases h2
    cases h1
    cases h0
    simp only [List.map_cons, List.map_nil, DataW.weightsEach, List.all_append, Bool.and_eq_true] at hw
    rw [cB, take1 hl (by omega)] at hx
    rw [cL, take1 hl (by omega)] at hy
    exact ⟨fuel, _, _, _, _, hl, hx, hw.2.2.1, hy, hw.2.2.2.1⟩
theorem agg_cells {cs : List AV} (h : Rep W pr [] v (.agg cs)) : ∀ (j : Nat) (y : AV), cs[j]? = some y → Rep W pr [] (v.cells.toList.getD j undef) y := by
  cases h with
  | agg _ vs _ hs ho hr =>
    intro j y hj
    have := hr j y hj
    simpa [Value.cells, List.getD_eq_getElem?_getD, Array.getD_eq_getD_getElem?] using this
end
end Go.Rv
