/-
  Part 15.
-/
import Derived.Test.YtnfoiocigicdnaaGreatDoorYV14
namespace Go.Rv
set_option linter.unusedVariables false
set_option linter.unusedSimpArgs false
variable {E : Env}
def AV.under (m : Nat) : AV → Bool
  | .bs _ id .. | .ref id _ | .tref id _ | .mref id | .nref id | .eref id .. => decide (id < m)
  | .agg cs => cs.attach.all fun ⟨x, _⟩ => x.under m
  | .tup cs => cs.attach.all fun ⟨x, _⟩ => x.under m
  | .fn _ cs => cs.attach.all fun ⟨x, _⟩ => x.under m
  | .iface _ x => x.under m
  | _ => true
def Af3 (m : Nat) (els : List (List AV)) : Prop := ∀ cs ∈ els, ∀ x ∈ cs, x.under m = true
def Abw (m : Nat) : ABlk → Prop
  | .box cs _ => ∀ x ∈ cs, x.under m = true
  | .buf _ els _ => Af3 m els
  | .obj _ => True
  | .tb _ _ => True
theorem H7 {α : Type} {l : List α} {m i : Nat} {x : α} (h : l[i]? = some x) (hi : i < m) : (l.take m)[i]? = some x := by
  rw [List.getElem?_take, if_pos hi]; exact h
theorem H9 {α : Type} {l : List α} {m i : Nat} {x : α} (h : (l.take m)[i]? = some x) : l[i]? = some x ∧ i < m := by
  rw [List.getElem?_take] at h
  split at h
  · exact ⟨h, by assumption⟩
  · cases h
theorem AbB {w : World} {pr : Addr → Prop} {m : Nat} {g : Gh} {v : Value} {x : AV} (h : Rep w pr g v x) : x.under m = true → Rep w pr (g.take m) v x := by
  induction h with
  | junk g v => intro _; exact .junk _ _
  | bool g b => intro _; exact .bool _ _
  | int g k n => intro _; exact .int _ _ _
  | str g s l h => intro _; exact .str _ _ _ h
  | sl g a len cap full els k c hlen hcap hfull hnone hk hc hr ih => intro _; exact .sl _ a len cap full els k c hlen hcap hfull hnone hk hc hr
  | bs g v full id tot off len b hb hx ht h ho => intro hm; exact .bs _ _ _ _ _ _ _ b (H7 hb (by simpa [AV.under] using hm)) hx ht h ho
  | ref g id off β b hb hx hβ => intro hm; exact .ref _ _ _ _ b (H7 hb (by simpa [AV.under] using hm)) hx hβ
  | tref g id t β b hb hx hβ ht => intro hm; exact .tref _ _ _ _ b (H7 hb (by simpa [AV.under] using hm)) hx hβ ht
  | mref g id β b hb hx hβ => intro hm; exact .mref _ _ _ b (H7 hb (by simpa [AV.under] using hm)) hx hβ
  | nref g v id b hb hx h => intro hm; exact .nref _ _ _ b (H7 hb (by simpa [AV.under] using hm)) hx h
  | eref g v id tot i j b hb hx ht h ho => intro hm; exact .eref _ _ _ _ _ _ b (H7 hb (by simpa [AV.under] using hm)) hx ht h ho
  | rp g a cs c hc hr ih => intro _; exact .rp _ a cs c hc hr
  | agg g vs cs hs ho hr ih =>
    intro hm
    refine .agg _ vs cs hs ho (fun i x hx => ih i x hx ?_)
    simp only [AV.under, List.all_eq_true] at hm
    exact hm ⟨x, List.mem_of_getElem? hx⟩ (List.mem_attach _ _)
  | tup g vs xs hs hr ih =>
    intro hm
    refine .tup _ vs xs hs (fun i x hx => ih i x hx ?_)
    simp only [AV.under, List.all_eq_true] at hm
    exact hm ⟨x, List.mem_of_getElem? hx⟩ (List.mem_attach _ _)
  | fn g f caps xs hs hr hn ih =>
    intro hm
    refine .fn _ f caps xs hs (fun i x hx => ih i x hx ?_) hn
    simp only [AV.under, List.all_eq_true] at hm
    exact hm ⟨x, List.mem_of_getElem? hx⟩ (List.mem_attach _ _)
  | fnb g f fs xs hs hr ih =>
    intro hm
    refine .fnb _ f fs xs hs (fun i x hx => ih i x hx ?_)
    simp only [AV.under, List.all_eq_true] at hm
    have h2 := hm ⟨.tup xs, by simp⟩ (List.mem_attach _ _)
    simp only [AV.under, List.all_eq_true] at h2
    exact h2 ⟨x, List.mem_of_getElem? hx⟩ (List.mem_attach _ _)
  | iface g t v x hr ih => intro hm; exact .iface _ t v x (ih (by simpa [AV.under] using hm))
  | glob g i => intro _; exact .glob _ _
  | val g v h => intro _; exact .val _ _ h
theorem Kz {g : Gh} {m : Nat} {a : Addr} (h : A2 E g a) : A2 E (g.take m) a := ⟨h.1, fun id b hb hβ => h.2 id b (H9 hb).1 hβ⟩
theorem Kj {g : Gh} {m β : Nat} (h : Gu (g.take m) β) : Gu g β := by
  obtain ⟨id, b, hb, hβ⟩ := h
  exact ⟨id, b, (H9 hb).1, hβ⟩
theorem Abt {w : World} {g : Gh} {σ : Ab} (hm : Mem E w g σ) (m : Nat) (hb : ∀ ab ∈ σ.take m, Abw m ab) : Mem E w (g.take m) (σ.take m) := by
  have hcell : ∀ a u, w.cell? a = some u → A2 E g a → w.cell? a = some u ∧ A2 E (g.take m) a := fun a u hc hp => ⟨hc, Kz hp⟩
  have hrep : ∀ {v : Value} {x : AV}, Rep w (A2 E g) g v x → x.under m = true → Rep w (A2 E (g.take m)) (g.take m) v x := fun h hx => (AbB h hx).mono hcell (GLe.refl _)
  refine ⟨by simp [hm.len], ?_, ?_, fun a ha => ⟨(hm.foreign a ha).1, fun h => (hm.foreign a ha).2 (Kj h)⟩, ?_, hm.maps, fun i vs h => ⟨fun hh => (hm.whole i vs h).1 (Kj hh), (hm.whole i vs h).2⟩⟩
  · intro id b ab h1 h2
    have hab := hb ab (List.mem_of_getElem? h2)
    have hk := hm.blk id b ab (H9 h1).1 (H9 h2).1
    cases ab with
    | box cs ro =>
      obtain ⟨k1, k2, k3, k4, k5, β, arr, t, fz, k6, k7, k8, k9, k10⟩ := hk
      exact ⟨k1, k2, k3, k4, k5, β, arr, t, fz, k6, k7, k8, k9, fun j x hj => ⟨hrep (k10 j x hj).1 (hab x (List.mem_of_getElem? hj)), (k10 j x hj).2⟩⟩
    | buf k els ro =>
      obtain ⟨k1, k2, k3, k4, k5, k6, k7⟩ := hk
      refine ⟨k1, k2, k3, k4, k5, k6, fun β hβ => ?_⟩
      obtain ⟨arr, t, fz, g1, g2, g3, g4, g5⟩ := k7 β hβ
      exact ⟨arr, t, fz, g1, g2, g3, g4, fun i cs j x hi hj => ⟨hrep (g5 i cs j x hi hj).1 (hab cs (List.mem_of_getElem? hi) x (List.mem_of_getElem? hj)), (g5 i cs j x hi hj).2⟩⟩
    | obj o => exact hk
    | tb T l =>
      obtain ⟨⟨k1, k2, k3, k4, k5, k6, k7⟩, k8⟩ := hk
      refine ⟨⟨k1, k2, k3, k4, k5, k6, fun β hβ => ?_⟩, k8⟩
      obtain ⟨arr, t, fz, g1, g2, g3, g4, g5⟩ := k7 β hβ
      refine ⟨arr, t, fz, g1, g2, g3, g4, fun i cs j x hi hj => ⟨hrep (g5 i cs j x hi hj).1 ?_, (g5 i cs j x hi hj).2⟩⟩
      have hm1 := List.mem_of_getElem? hi
      simp only [G1, List.mem_map] at hm1
      obtain ⟨y, _, rfl⟩ := hm1
      have := List.mem_of_getElem? hj
      simp only [List.mem_singleton] at this
      subst this
      simp [AV.under]
  · intro i j b b' β h1 h2 e1 e2
    exact hm.inj i j b b' β (H9 h1).1 (H9 h2).1 e1 e2
  · intro i cs h
    obtain ⟨h1, h2, h3, c, hc⟩ := hm.glob i cs h
    exact ⟨h1, fun h => h2 (Kj h), h3, c, fun j x hj => ⟨(hc j x hj).1, (hc j x hj).2.1.mono hcell (GLe.nil _), (hc j x hj).2.2⟩⟩
end Go.Rv
