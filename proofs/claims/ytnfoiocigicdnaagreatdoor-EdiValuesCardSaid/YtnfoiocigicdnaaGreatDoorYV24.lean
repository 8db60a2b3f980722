/-
  Part 24.
-/
import Derived.Test.YtnfoiocigicdnaaGreatDoorYV23
import Derived.ChangeSame
import Derived.WideKeyArgs
import Derived.RowKit
import Derived.ProofKit
namespace Go.Rv
open Go.RowKit Go.WideShapes Go.ChangeShapes Go.ChangeAt
set_option linter.unusedVariables false
set_option linter.unusedSimpArgs false
theorem T1 {B : Base} (a : Addr) : A2 (B.env fun _ => False) [] a := ⟨fun h => h, fun id b h => by simp at h⟩
section
variable {H : Type} {enc : TypeId × Value → H} {P : Program}
theorem W8 (hl : laidOutB P = true) {W W' : World} (hb : Below W.heap.size W W') {sp : Nat → Bool} : ∀ {ts : List TypeId} {vs : List Value} {ds : List (DataW H)} {p : List MemPlace},
    (∀ t ∈ ts, P.readableRec t = true ∧ t < P.types.size) → DataW.TrodAll enc P W 0 (fun _ => true) true ts vs ds p → (∀ x ∈ p, x.block < W.heap.size) → (∀ x ∈ p, sp x.block = true) → DataW.TrodAll enc P W' 0 sp true ts vs ds p
  | [], [], [], p, _, h, _, _ => h
  | t :: ts, v :: vs, d :: ds, p, hr, h, hlt, hs => by
    obtain ⟨q, q', h1, h2, rfl⟩ := h
    refine ⟨q, q', WideElems.Trod_stays hl (hr t (by simp)).1 (hr t (by simp)).2 h1 (fun x hx => hb.same (hlt x (by simp [hx]))) (fun x hx => hs x (by simp [hx])), ?_, rfl⟩
    exact W8 hl hb (fun u hu => hr u (by simp [hu])) h2 (fun x hx => hlt x (by simp [hx])) (fun x hx => hs x (by simp [hx]))
  | [], _ :: _, _, _, _, h, _, _ => by cases h
  | [], [], _ :: _, _, _, h, _, _ => by cases h
  | _ :: _, [], _, _, _, h, _, _ => by cases h
  | _ :: _, _ :: _, [], _, _, h, _, _ => by cases h
theorem Ahs {f : Func} {s : ChangeSpec} {apart fresh handsOn again : Bool} {W W' : World} {args : Array Value} {ds gs : List (DataW H)} {before : List MemPlace} {tb : TypeId}
    (hW : DataW.Whole enc P f.params.toList s.vars apart W args.toList ds gs before) (hv : s.vars = []) (hfn : s.fn H (ds ++ gs) = { results := [.lit (.bool true)], args := ds, vars := [] })
    (hrt : f.resultTypes = #[tb]) (htb : P.underlying tb = some .bool) (hl : laidOutB P = true) (hr : ∀ t ∈ f.params.toList, P.readableRec t = true ∧ t < P.types.size) (hb : Below W.heap.size W W') :
    s.post enc P f apart fresh handsOn again W args (.bool true) W' := by
  obtain ⟨p, q, hA, hV, hpq, hz, hn⟩ := id hW
  rw [hv] at hV
  obtain ⟨rfl, rfl⟩ : gs = [] ∧ q = [] := by
    cases gs with
    | nil => exact ⟨rfl, hV⟩
    | cons g gs => cases hV
  rw [List.append_nil] at hpq
  subst hpq
  have hlt : ∀ x ∈ before, x.block < W.heap.size := fun x hx => hW.lt x hx
  have hargs : ∀ sp : Nat → Bool, (∀ x ∈ before, sp x.block = true) → DataW.TrodAll enc P W' 0 sp true f.params.toList args.toList (s.fn H (ds ++ [])).args before := by
    intro sp hs
    rw [hfn]
    exact W8 hl hb hr hA hlt hs
  have hres : ∀ (b : Nat) (sp : Nat → Bool) (hd : Bool), DataW.TrodAll enc P W' b sp hd f.resultTypes.toList ((Value.bool true).resultList f.resultTypes.size) (s.fn H (ds ++ [])).results [] := by
    intro b sp hd
    rw [hfn, hrt]
    exact ⟨[], [], shut_bool htb true, rfl, rfl⟩
  have hvars : ∀ sp : Nat → Bool, DataW.TrodVars enc P W' sp s.vars (s.fn H (ds ++ [])).vars [] := by
    intro sp
    rw [hfn, hv]
    rfl
  have hold : ∀ x ∈ before, (fun b => decide (b < W.heap.size)) x.block = true := fun x hx => by simpa using hlt x hx
  refine ⟨ds, [], before, [], before, [], hW, hres _ _ _, hargs _ hold, hvars _, World.keptBut_mono (fun x hx => ⟨hx, ?_⟩) (hb.frame (· ∈ before)), fun _ => ?_⟩
  · exact Or.inr (Or.inl hx)
  · refine ⟨?_, _, _, ([] ++ before) ++ [], ⟨[] ++ before, [], trodAll_append (hargs _ (fun _ _ => rfl)) (hres _ _ _), hvars _, rfl, ?_, ?_⟩, ?_⟩
    · intro j t r hj hr'
      rw [hrt] at hj hr'
      cases j with
      | zero =>
        cases hj
        cases hr'
        exact okWide_bool_mk htb true
      | succ j => simp at hj
    · intro b off hp
      have hin : MemPlace.cell b off ∈ before := by simpa using hp
      rw [hb.frozen (hlt _ hin)]
      exact hz b off hin
    · intro ha
      have := hn ha
      simpa using this
    · intro x hx _; simpa using hx
end
section
variable {P : Program} {W : World} {r : Reach} {b0 : Nat} {t : TypeId} {v : Value}
variable {B : ∀ H : Type, DataW H → Nat} {α : Type} {c : α → List AV} {sz : α → Nat} {ok : α → Prop} {H : Type} {enc : TypeId × Value → H} {d : DataW H} {p : List MemPlace}
theorem Ad8 {fs : Array Field} (ht : P.underlying t = some (.struct fs)) (hval : Value.okWide P W r b0 t v) (h : Opens P B t c sz ok) (hd : DataW.Trod enc P W 0 (fun _ => true) true t v d p) {pr : Addr → Prop} (hpr : ∀ a, pr a) :
    ∃ x, sz x ≤ B H d ∧ ok x ∧ Rep W pr [] v (.agg (c x)) := by
  unfold Value.okWide at hval
  simp only [ht] at hval
  obtain ⟨cs, rfl, _, _⟩ := hval
  obtain ⟨fuel, hd⟩ := hd
  obtain ⟨x, h1, h2, h3, h4⟩ := h H enc W pr hpr fuel _ d p hd
  refine ⟨x, h2, h3, .agg _ cs (c x) (by simpa [Value.cells] using h1) (fun i y hi => ?_) (fun i y hi => ?_)⟩
  · have := (h4 i y hi).2
    simpa [Value.cells, List.getD_eq_getElem?_getD, Array.getD_eq_getD_getElem?] using this
  · have := (h4 i y hi).1
    simpa [Value.cells, List.getD_eq_getElem?_getD, Array.getD_eq_getD_getElem?] using this
end
end Go.Rv
