/-
  R25: from the contract of a law to what its statement asks of the call.
-/
import Derived.Test.YtomjphpnpcgacaaR24
import Derived.ChangeSame
import Derived.WideKeyArgs
import Derived.RowKit
import Derived.ProofKit
namespace Go.Rv
open Go.RowKit Go.WideShapes Go.ChangeShapes Go.ChangeAt
set_option linter.unusedVariables false
set_option linter.unusedSimpArgs false

theorem mem_empty {B : Base} (hG : ∀ i, B.G i = none) (W : World) (hM : ∀ i, B.maps i = none := by intro i; rfl) (hW : ∀ i, B.whole i = none := by intro i; rfl) : Mem (B.env fun _ => False) W [] [] :=
  ⟨rfl, fun id b ab h => by simp at h, fun id id' b b' β h => by simp at h, fun a h => h.elim, fun i cs h => by (have := hG i; rw [show (B.env fun _ => False).G i = B.G i from rfl, this] at h; cases h),
    fun i p h => by (have := hM i; rw [show (B.env fun _ => False).maps i = B.maps i from rfl, this] at h; cases h), fun i p h => by (have := hW i; rw [show (B.env fun _ => False).whole i = B.whole i from rfl, this] at h; cases h)⟩

theorem prot_empty {B : Base} (a : Addr) : prot (B.env fun _ => False) [] a := ⟨fun h => h, fun id b h => by simp at h⟩

/-- A law whose contract says true: the call returns true, and below the heap's old size nothing turns. -/
theorem law_calls {B : Base} (hG : ∀ i, B.G i = none) {f : FuncId} {avs : List AV} (h : Con B f avs [] (fun r σ' => r = .bool true ∧ σ' = [])) {fn : Func} {c : Code} (hf : B.P.funcs[f]? = some fn) (hb : fn.body = some c) (hn : (fn.name == "runtime.NumGoroutine") = false) {W : World} {args : Array Value}
    (ha : AllRep W (prot (B.env fun _ => False) []) [] args.toList avs) (hM : ∀ i, B.maps i = none := by intro i; rfl) (hW : ∀ i, B.whole i = none := by intro i; rfl) : Calls B.P f args W fun e W' => e = .returned (.bool true) ∧ Below W.heap.size W W' := by
  refine ((h.call (fun _ => False) W [] args (mem_empty hG W hM hW) ha).calls hf hb hn).mono ?_
  rintro e w' ⟨v, r, σ', g', rfl, ⟨rfl, rfl⟩, hm, he, hr⟩
  exact ⟨by rw [rep_bool hr], he.below⟩

section
variable {H : Type} {enc : TypeId × Value → H} {P : Program}

theorem args_stay (hl : laidOutB P = true) {W W' : World} (hb : Below W.heap.size W W') {sp : Nat → Bool} : ∀ {ts : List TypeId} {vs : List Value} {ds : List (DataW H)} {p : List MemPlace},
    (∀ t ∈ ts, P.readableRec t = true ∧ t < P.types.size) → DataW.TrodAll enc P W 0 (fun _ => true) true ts vs ds p → (∀ x ∈ p, x.block < W.heap.size) → (∀ x ∈ p, sp x.block = true) → DataW.TrodAll enc P W' 0 sp true ts vs ds p
  | [], [], [], p, _, h, _, _ => h
  | t :: ts, v :: vs, d :: ds, p, hr, h, hlt, hs => by
    obtain ⟨q, q', h1, h2, rfl⟩ := h
    refine ⟨q, q', WideElems.Trod_stays hl (hr t (by simp)).1 (hr t (by simp)).2 h1 (fun x hx => hb.same (hlt x (by simp [hx]))) (fun x hx => hs x (by simp [hx])), ?_, rfl⟩
    exact args_stay hl hb (fun u hu => hr u (by simp [hu])) h2 (fun x hx => hlt x (by simp [hx])) (fun x hx => hs x (by simp [hx]))
  | [], _ :: _, _, _, _, h, _, _ => by cases h
  | [], [], _ :: _, _, _, h, _, _ => by cases h
  | _ :: _, [], _, _, _, h, _, _ => by cases h
  | _ :: _, _ :: _, [], _, _, h, _, _ => by cases h

/-- What the statement asks behind the call. -/
theorem law_post {f : Func} {s : ChangeSpec} {apart fresh handsOn again : Bool} {W W' : World} {args : Array Value} {ds gs : List (DataW H)} {before : List MemPlace} {tb : TypeId}
    (hW : DataW.Whole enc P f.params.toList s.vars apart W args.toList ds gs before) (hv : s.vars = []) (hfn : s.fn H (ds ++ gs) = { results := [.lit (.bool true)], args := ds, vars := [] })
    (hrt : f.resultTypes = #[tb]) (htb : P.underlying tb = some .bool) (hl : laidOutB P = true) (hr : ∀ t ∈ f.params.toList, P.readableRec t = true ∧ t < P.types.size) (hb : Below W.heap.size W W') :
    s.post enc P f apart fresh handsOn again W args (.bool true) W' := by
  obtain ⟨p, q, hA, hV, hpq, hz, hn⟩ := id hW
  rw [hv] at hV
  obtain ⟨rfl, rfl⟩ : gs = [] ∧ q = [] := by
    cases gs with
    | nil => exact ⟨rfl, hV⟩
    | cons g gs => cases hV
  rw [List.append_nil] at hpq
  subst hpq
  have hlt : ∀ x ∈ before, x.block < W.heap.size := fun x hx => hW.lt x hx
  have hargs : ∀ sp : Nat → Bool, (∀ x ∈ before, sp x.block = true) → DataW.TrodAll enc P W' 0 sp true f.params.toList args.toList (s.fn H (ds ++ [])).args before := by
    intro sp hs
    rw [hfn]
    exact args_stay hl hb hr hA hlt hs
  have hres : ∀ (b : Nat) (sp : Nat → Bool) (hd : Bool), DataW.TrodAll enc P W' b sp hd f.resultTypes.toList ((Value.bool true).resultList f.resultTypes.size) (s.fn H (ds ++ [])).results [] := by
    intro b sp hd
    rw [hfn, hrt]
    exact ⟨[], [], shut_bool htb true, rfl, rfl⟩
  have hvars : ∀ sp : Nat → Bool, DataW.TrodVars enc P W' sp s.vars (s.fn H (ds ++ [])).vars [] := by
    intro sp
    rw [hfn, hv]
    rfl
  have hold : ∀ x ∈ before, (fun b => decide (b < W.heap.size)) x.block = true := fun x hx => by simpa using hlt x hx
  refine ⟨ds, [], before, [], before, [], hW, hres _ _ _, hargs _ hold, hvars _, World.keptBut_mono (fun x hx => ⟨hx, ?_⟩) (hb.frame (· ∈ before)), fun _ => ?_⟩
  · exact Or.inr (Or.inl hx)
  · refine ⟨?_, _, _, ([] ++ before) ++ [], ⟨[] ++ before, [], trodAll_append (hargs _ (fun _ _ => rfl)) (hres _ _ _), hvars _, rfl, ?_, ?_⟩, ?_⟩
    · intro j t r hj hr'
      rw [hrt] at hj hr'
      cases j with
      | zero =>
        cases hj
        cases hr'
        exact okWide_bool_mk htb true
      | succ j => simp at hj
    · intro b off hp
      have hin : MemPlace.cell b off ∈ before := by simpa using hp
      rw [hb.frozen (hlt _ hin)]
      exact hz b off hin
    · intro ha
      have := hn ha
      simpa using this
    · intro x hx _; simpa using hx
end

/-! ### Arguments as abstract values -/
section
variable {P : Program} {W : World} {r : Reach} {b0 : Nat} {t : TypeId} {v : Value}
theorem vcells_slice {e : TypeId} (ht : P.underlying t = some (.slice e)) (hval : Value.okWide P W r b0 t v) : v.cells.toList = [v] := by
  unfold Value.okWide at hval
  simp only [ht] at hval
  unfold Cell.okWide at hval
  simp only [ht] at hval
  unfold Cell.ok at hval
  simp only [ht] at hval
  cases v <;> first | rfl | exact hval.elim
variable {B : ∀ H : Type, DataW H → Nat} {α : Type} {c : α → List AV} {sz : α → Nat} {ok : α → Prop} {H : Type} {enc : TypeId × Value → H} {d : DataW H} {p : List MemPlace}
/-- An argument of one cell. -/
theorem arg_one (h : Opens P B t c sz ok) (hone : ∀ x, ∃ y, c x = [y]) (hv : v.cells.toList = [v]) (hd : DataW.Trod enc P W 0 (fun _ => true) true t v d p) {pr : Addr → Prop} (hpr : ∀ a, pr a) :
    ∃ x, sz x ≤ B H d ∧ ok x ∧ ∀ y, c x = [y] → Rep W pr [] v y := by
  obtain ⟨fuel, hd⟩ := hd
  rw [hv] at hd
  obtain ⟨x, h1, h2, h3, h4⟩ := h H enc W pr hpr fuel _ d p hd
  refine ⟨x, h2, h3, fun y hy => ?_⟩
  have := h4 0 y (by rw [hy]; rfl)
  simpa using this.1
end

end Go.Rv
