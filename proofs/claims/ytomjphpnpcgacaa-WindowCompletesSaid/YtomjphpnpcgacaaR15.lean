/-
  R15: contracts of functions that hand back what changes no more; bytes.
-/
import Derived.Test.YtomjphpnpcgacaaR14
namespace Go.Rv
set_option linter.unusedVariables false
set_option linter.unusedSimpArgs false

def fzR (σ : Store) : AV → Option AV
  | .tup xs => (xs.mapM (fz σ)).map .tup
  | x => fz σ x

theorem fzR_rep {E : Env} {w : World} {g : Gh} {σ : Store} (hm : Mem E w g σ) {pr : Addr → Prop} {v : Value} {x y : AV} (hv : Rep w (prot E g) g v x) (hy : fzR σ x = some y)
    (hp : ∀ a, prot E g a → pr a) (hb : ∀ (id : Nat) (b : GB), g[id]? = some b → ∀ β off, b.blk = some β → pr ⟨β, off, none⟩) : Rep w pr [] v y := by
  by_cases htu : ∃ xs, x = .tup xs
  · obtain ⟨xs, rfl⟩ := htu
    simp only [fzR, Option.map_eq_some_iff] at hy
    obtain ⟨ys, hys, rfl⟩ := hy
    obtain ⟨hl, hget⟩ := mapM_get _ _ _ hys
    cases hv with
    | tup _ vs _ hs hr =>
      refine .tup _ vs ys (by omega) ?_
      intro i y hi
      obtain ⟨x, hx, hxy⟩ := hget i y hi
      exact fz_rep hm (hr i x hx) hxy hp (fun id b _ hgb β off hβ _ => hb id b hgb β off hβ)
  · have e : fzR σ x = fz σ x := by cases x <;> first | rfl | (exact (htu ⟨_, rfl⟩).elim)
    rw [e] at hy
    exact fz_rep hm hv hy hp (fun id b _ hgb β off hβ _ => hb id b hgb β off hβ)

theorem con_closed {B : Base} {f : FuncId} {args : List AV} {R : AV → Store → Prop} {r0 : AV} (h : Con B f args [] R) (hr : ∀ r σ', R r σ' → fzR σ' r = some r0) : Con B f args [] (fun r' σ' => r' = r0 ∧ σ' = []) := by
  refine ⟨fun F w g vs hm ha => ?_⟩
  have hg : g = [] := List.length_eq_zero_iff.1 hm.len
  subst hg
  refine (h.call F w [] vs hm ha).mono ?_
  rintro e w' ⟨v, r, σ', g', rfl, hR, hm', he, hrep⟩
  have hnm : ∀ β, ¬ mine [] β := by rintro β ⟨id, b, h, _⟩; simp at h
  have hp : ∀ a, prot (B.env F) g' a → prot (B.env F) [] a := fun a ha => prot_of_not_mine ha.1 (hnm _)
  refine ⟨v, r0, [], [], rfl, ⟨rfl, rfl⟩, ?_, ?_, ?_⟩
  · refine ⟨rfl, fun id b ab h => by simp at h, fun id id' b b' β h => by simp at h, fun a ha => ⟨(hm'.foreign a ha).1, hnm _⟩, fun i cs h => ?_, hm'.maps, fun i vs h => ⟨hnm _, (hm'.whole i vs h).2⟩⟩
    obtain ⟨h1, h2, h3, c, hc⟩ := hm'.glob i cs h
    exact ⟨h1, hnm _, h3, c, fun j x hj => ⟨(hc j x hj).1, (hc j x hj).2.1.mono (fun a u hcc hpr => ⟨hcc, hp a hpr⟩) (GLe.nil _), (hc j x hj).2.2⟩⟩
  · exact ⟨he.os, he.tape, he.output, he.size, fun a u hc hpr => ⟨(he.cells a u hc hpr).1, hpr⟩, fun β hβ _ => ⟨(he.blocks β hβ (hnm _)).1, hnm _⟩, fun id hid => absurd hid (Nat.not_lt_zero _)⟩
  · exact fzR_rep hm' hrep (hr r σ' hR) hp (fun id b hgb β off hβ => prot_of_not_mine (fun hF => (hm'.foreign _ hF).2 ⟨id, b, hgb, hβ⟩) (hnm _))

end Go.Rv
