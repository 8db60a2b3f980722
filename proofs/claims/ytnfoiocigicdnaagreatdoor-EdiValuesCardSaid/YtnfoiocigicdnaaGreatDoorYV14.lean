/-
  Part 14.
-/
import Derived.Test.YtnfoiocigicdnaaGreatDoorYV13
namespace Go.Rv
set_option linter.unusedVariables false
set_option linter.unusedSimpArgs false
variable {E : Env}
def Agb (P : Program) (t : Nat) : Option TD :=
  match P.underlying t, P.info? t with
  | some d, some i => match i.zero with
    | some z => if z.cells.size = i.size ∧ z.cells.all one = true then some ⟨d, i.size, i.bytes, z.cells.toList.map Ub⟩ else none
    | none => none
  | _, _ => none
def AdM (P : Program) (G : Nat → Option (List AV)) (own : FuncId → Bool) (maps : TypeId → Option MapS := fun _ => none) (whole : Nat → Option (Array Value) := fun _ => none) (bty : Option TypeId := none) (lm : Bool := false) (hlm : lm = true → ∀ t, maps t = none := by intro h; cases h) : Base := ⟨P, Agb P, G, own, maps, whole, bty, lm, hlm⟩
theorem Ab7 (P : Program) (G : Nat → Option (List AV)) (own : FuncId → Bool) (maps : TypeId → Option MapS := fun _ => none) (whole : Nat → Option (Array Value) := fun _ => none) (bty : Option TypeId := none) (lm : Bool := false) (hlm : lm = true → ∀ t, maps t = none := by intro h; cases h) : (AdM P G own maps whole bty lm hlm).Ok := by
  have key : ∀ t d, Agb P t = some d → P.underlying t = some d.desc ∧ ∃ i z, P.info? t = some i ∧ i.size = d.size ∧ i.bytes = d.bytes ∧ i.zero = some z ∧ z.cells.size = d.zero.length ∧ d.zero.length = d.size ∧
      ∀ w pr g (j : Nat) (x : AV), d.zero[j]? = some x → Rep w pr g (z.cells.getD j undef) x ∧ one (z.cells.getD j undef) = true := by
    intro t d h
    unfold Agb at h
    split at h
    case h_2 => cases h
    rename_i dd i h1 h2
    split at h
    case h_2 => cases h
    rename_i z hz
    split at h
    case isFalse => cases h
    rename_i hc
    obtain ⟨c1, c2⟩ := hc
    cases h
    refine ⟨h1, i, z, h2, rfl, rfl, hz, by simp, by simp [c1], ?_⟩
    intro w pr g j x hj
    simp only [List.getElem?_map, Option.map_eq_some_iff] at hj
    obtain ⟨u, hu, rfl⟩ := hj
    have hu' : z.cells[j]? = some u := by simpa using hu
    have hl : j < z.cells.size := (Array.getElem?_eq_some_iff.1 hu').1
    rw [Au hu']
    refine ⟨Nz u, ?_⟩
    have := Array.all_eq_true.1 c2 j hl
    rw [← (Array.getElem?_eq_some_iff.1 hu').2]
    exact this
  exact ⟨fun t d h => (key t d h).1, fun t d h => (key t d h).2⟩
def Qe (ops : Array Oper) (fr : List AV) (o : Oper) : Option Bool :=
  match o.guard with
  | none => some true
  | some (j, want) => (Pa ops fr j).map (· == some want)
inductive Acc where
  | run (fr : List AV) (σ : Ab)
  | stop (l : List Oper) (fr : List AV) (σ : Ab)
  | bad
def fzR (σ : Ab) : AV → Option AV
  | .tup xs => (xs.mapM (fz σ)).map .tup
  | x => fz σ x
theorem AiA {E : Env} {w : World} {g : Gh} {σ : Ab} (hm : Mem E w g σ) {pr : Addr → Prop} {v : Value} {x y : AV} (hv : Rep w (A2 E g) g v x) (hy : fzR σ x = some y)
    (hp : ∀ a, A2 E g a → pr a) (hb : ∀ (id : Nat) (b : GB), g[id]? = some b → ∀ β off, b.blk = some β → pr ⟨β, off, none⟩) : Rep w pr [] v y := by
  by_cases htu : ∃ xs, x = .tup xs
  · obtain ⟨xs, rfl⟩ := htu
    simp only [fzR, Option.map_eq_some_iff] at hy
    obtain ⟨ys, hys, rfl⟩ := hy
    obtain ⟨hl, hget⟩ := J0 _ _ _ hys
    cases hv with
    | tup _ vs _ hs hr =>
      refine .tup _ vs ys (by omega) ?_
      intro i y hi
      obtain ⟨x, hx, hxy⟩ := hget i y hi
      exact Tk hm (hr i x hx) hxy hp (fun id b _ hgb β off hβ _ => hb id b hgb β off hβ)
  · have e : fzR σ x = fz σ x := by cases x <;> first | rfl | (exact (htu ⟨_, rfl⟩).elim)
    rw [e] at hy
    exact Tk hm hv hy hp (fun id b _ hgb β off hβ _ => hb id b hgb β off hβ)
theorem T7 {B : Base} {f : FuncId} {args : List AV} {R : AV → Ab → Prop} {r0 : AV} (h : Con B f args [] R) (hr : ∀ r σ', R r σ' → fzR σ' r = some r0) : Con B f args [] (fun r' σ' => r' = r0 ∧ σ' = []) := by
  refine ⟨fun F w g vs hm ha => ?_⟩
  have hg : g = [] := List.length_eq_zero_iff.1 hm.len
  subst hg
  refine (h.call F w [] vs hm ha).mono ?_
  rintro e w' ⟨v, r, σ', g', rfl, hR, hm', he, hrep⟩
  have hnm : ∀ β, ¬ Gu [] β := by rintro β ⟨id, b, h, _⟩; simp at h
  have hp : ∀ a, A2 (B.env F) g' a → A2 (B.env F) [] a := fun a ha => B4 ha.1 (hnm _)
  refine ⟨v, r0, [], [], rfl, ⟨rfl, rfl⟩, ?_, ?_, ?_⟩
  · refine ⟨rfl, fun id b ab h => by simp at h, fun id id' b b' β h => by simp at h, fun a ha => ⟨(hm'.foreign a ha).1, hnm _⟩, fun i cs h => ?_, hm'.maps, fun i vs h => ⟨hnm _, (hm'.whole i vs h).2⟩⟩
    obtain ⟨h1, h2, h3, c, hc⟩ := hm'.glob i cs h
    exact ⟨h1, hnm _, h3, c, fun j x hj => ⟨(hc j x hj).1, (hc j x hj).2.1.mono (fun a u hcc hpr => ⟨hcc, hp a hpr⟩) (GLe.nil _), (hc j x hj).2.2⟩⟩
  · exact ⟨he.os, he.tape, he.output, he.size, fun a u hc hpr => ⟨(he.cells a u hc hpr).1, hpr⟩, fun β hβ _ => ⟨(he.blocks β hβ (hnm _)).1, hnm _⟩, fun id hid => absurd hid (Nat.not_lt_zero _)⟩
  · exact AiA hm' hrep (hr r σ' hR) hp (fun id b hgb β off hβ => B4 (fun hF => (hm'.foreign _ hF).2 ⟨id, b, hgb, hβ⟩) (hnm _))
end Go.Rv
