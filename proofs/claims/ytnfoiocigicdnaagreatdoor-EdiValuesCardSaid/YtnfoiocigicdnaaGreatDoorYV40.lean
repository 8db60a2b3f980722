/-
  Part 40.
-/
import Derived.Test.YtnfoiocigicdnaaGreatDoorYV39
namespace Go.Rv
open Go.RowKit
set_option linter.unusedVariables false
set_option linter.unusedSimpArgs false
variable {E : Env}
def Aj7 : AV → Bool
  | .rp _ | .sl .. => true
  | _ => false
def Ajg : Op → Option Nat
  | .load _ (.tmp p) => some p
  | .fieldAddr _ (.tmp p) _ => some p
  | .indexAddr _ (.tmp p) _ => some p
  | _ => none
theorem AlJ {orc : Option Tmp → Orc} {ops : Array Oper} {y : Oper} {fr : List AV} {p : Nat} (hp : Ajg y.op = some p) (ha : Aj7 (ev fr (.tmp p)) = true) : Free E orc ops y fr := by
  intro σ σ' v h
  have hf : Ky E ops y = false := AfX (fun _ _ _ h => by rw [h] at hp; cases hp) (fun _ _ _ h => by rw [h] at hp; cases hp)
  simp only [Ada hf] at h ⊢
  cases hw : Qe ops fr y with
  | none => simp [hw] at h
  | some b =>
    cases b with
    | false =>
      simp only [hw, Option.some.injEq, Prod.mk.injEq] at h ⊢
      exact ⟨h.2.symm, fun σ2 => ⟨h.1, trivial⟩⟩
    | true =>
      simp only [hw] at h ⊢
      unfold Ajg at hp
      generalize hx : ev fr (.tmp p) = x at ha
      split at hp
      case h_4 => cases hp
      case h_1 ho =>
        cases hp
        simp only [ho, D3, Fx, hx] at h ⊢
        cases x <;> simp only [Aj7] at ha <;> try (cases ha; done)
        all_goals
          split at h
          case h_2 => cases h
          rename_i d hd
          rw [Option.map_eq_some_iff] at h
          obtain ⟨u, hu, h⟩ := h
          cases h
          refine ⟨rfl, fun σ2 => ?_⟩
          simp only [loadA] at hu ⊢
          first | (rw [hu]; rfl) | cases hu
      case h_2 ho =>
        cases hp
        simp only [ho, D3, Fx, hx] at h ⊢
        rw [Option.map_eq_some_iff] at h
        obtain ⟨u, hu, h⟩ := h
        cases h
        refine ⟨rfl, fun σ2 => ?_⟩
        have e : ∀ s f σ, C2 E σ s x f = C2 E [] s x f := by
          intro s f σ
          cases x <;> simp only [Aj7] at ha <;> first | (cases ha; done) | rfl
        rw [e] at hu ⊢
        rw [hu]; rfl
      case h_3 ho =>
        cases hp
        simp only [ho, D3, Fx, hx] at h ⊢
        rw [Option.map_eq_some_iff] at h
        obtain ⟨u, hu, h⟩ := h
        cases h
        refine ⟨rfl, fun σ2 => ?_⟩
        have e : ∀ t i σ, As E σ t x i = As E [] t x i := by
          intro t i σ
          unfold As
          cases x <;> simp only [Aj7] at ha <;> try (cases ha; done)
          all_goals
            cases E.tab t with
            | none => rfl
            | some d =>
              obtain ⟨desc, sz, bt, z⟩ := d
              cases desc <;> try rfl
              all_goals (rename_i e; dsimp only; cases E.tab e <;> first | rfl | (dsimp only; cases idx i _ <;> rfl))
        rw [e] at hu ⊢
        rw [hu]; rfl
def AmR (ops : Array Oper) (T : List (List Nat)) (ns ts : List Nat) (i : Nat) (y : Oper) : Bool :=
  match Ajg y.op with
  | some p => ns.contains p && AbY ops ts (fun k => (T.getD i []).contains k && decide (k < i)) p
  | none => false
def Aho (E : Env) (ops : Array Oper) (T : List (List Nat)) (ns ts : List Nat) : Bool :=
  (List.range ops.size).all fun i => (List.range i).all fun j => (T.getD i []).contains j || (match ops[j]?, ops[i]? with
    | some x, some y => Qk E ops x y || (x.apart ops y && AmR ops T ns ts i y)
    | _, _ => false)
def NsL (n : Nat) (fr : Fr) : List Nat → Prop
  | [] => True
  | p :: ps => Aj7 (evL n fr (.tmp p)) = true ∧ NsL n fr ps
theorem AhQ {n : Nat} {fr : Fr} : ∀ {ps : List Nat} {t : Nat}, NsL n fr ps → t ∈ ps → Aj7 (evL n fr (.tmp t)) = true
  | p :: ps, t, hr, h => by
    rcases List.mem_cons.1 h with rfl | h
    · exact hr.1
    · exact AhQ hr.2 h
theorem Dj (hE : E.Ok) (hP : E.P.follows .mixedOrders = true) {m n id : Nat} {l : List Oper} (T : List (List Nat)) (hok1 : K5 l.toArray T = true) (ns ts : List Nat) (hok2 : Aho E l.toArray T ns ts = true) {fr fr' : Fr} {σ σ' : Ab} {K : Dx} (hw : Xi E m K)
    (hns : NsL n fr' ns) (h : ∃ lz, Nu E.toBase lz ∧ Oy E lz true n l ts (fr, σ) = some (fr', σ'))
    (hk : K .normal ⟨Am n fr', σ'⟩) : Run E m (.region id l.toArray true) ⟨Am n fr, σ⟩ K := by
  obtain ⟨lz, hO, h⟩ := h
  simp only [Oy, Option.bind_eq_some_iff, Option.some.injEq, Prod.mk.injEq] at h
  obtain ⟨⟨fr1, σ2⟩, h1, rfl, rfl⟩ := h
  have hsteps := He (E := E) (ops := l.toArray) 0 l fr fr1 σ σ2 (by simp) h1
  rw [← List.range_eq_range'] at hsteps
  intro ac w g hr Q hq
  refine wp_region_any hP ?_
  have hsm : SameMem w { w with drawn := w.drawn + 1 } := ⟨rfl, rfl, rfl, rfl⟩
  have hfin : ∀ t, ts.contains t = true → ev (Am n fr1) (.tmp t) = evL n (keep ts fr1) (.tmp t) := by
    intro t ht
    rw [Hg]
    show (if t < n then Gk fr1 t else .junk) = if t < n then Gk (keep ts fr1) t else .junk
    rw [Ya ts fr1 t (List.contains_iff_mem.1 ht)]
  refine Rf hE hO hok1 (st' := ⟨Am n fr1, σ2⟩) ?_ l.toArray.size (List.range l.length) _ ⟨Am n fr, σ⟩ ac _ g (by simp) List.pairwise_lt_range (by simp) ?_ ?_ hsteps (Pt hr hsm) ?_
  · intro i his l1 l2 st hp hT hst
    have hi : l.toArray[i]? = some l.toArray[i] := Array.getElem?_eq_getElem his
    refine M5 hi l1 st (fun m1 j m2 e x hx => ?_) hst
    have hj : j ∈ l1 := by rw [e]; simp
    have hji : j < i := by
      rw [List.pairwise_append] at hp
      exact hp.2.2 j hj i List.mem_cons_self
    have h1' := Bt (Bt hok2 his) hji
    simp only [Bool.or_eq_true, List.contains_iff_mem] at h1'
    rcases h1' with h1' | h1'
    · exact (hT j hj h1').elim
    · simp only [hx, hi, Bool.or_eq_true, Bool.and_eq_true] at h1'
      rcases h1' with h1' | ⟨h1', h2'⟩
      · exact .inl h1'
      · refine .inr ⟨h1', fun st3 h3 => ?_⟩
        have hst3 : ∀ t, (∀ k ∈ ((j :: m2) ++ i :: l2), ∀ o, l.toArray[k]? = some o → o.dst ≠ some t) → ev st3.fr (.tmp t) = ev (Am n fr1) (.tmp t) := fun t hk => (Kr _ _ _ hk h3).symm
        have hpw : ((j :: m2) ++ i :: l2).Pairwise (· < ·) := by
          rw [e, List.append_assoc] at hp
          exact (List.pairwise_append.1 hp).2.1
        have hge : ∀ k ∈ ((j :: m2) ++ i :: l2), j ≤ k := by
          intro k hk
          rw [List.cons_append] at hpw hk
          rcases List.mem_cons.1 hk with rfl | hk
          · exact Nat.le_refl _
          · exact Nat.le_of_lt (List.rel_of_pairwise_cons hpw hk)
        have hnT : ∀ k ∈ ((j :: m2) ++ i :: l2), ¬(k ∈ T.getD i [] ∧ k < i) := by
          rintro k hk ⟨q1, q2⟩
          rcases List.mem_append.1 hk with hk | hk
          · exact hT k (by rw [e]; simp only [List.mem_append]; exact .inr hk) q1
          · rcases List.mem_cons.1 hk with rfl | hk
            · omega
            · have := List.rel_of_pairwise_cons (List.pairwise_append.1 hpw).2.1 hk
              omega
        have hstill : ∀ (ok : Nat → Bool) t, AbY l.toArray ts ok t = true → (∀ k ∈ ((j :: m2) ++ i :: l2), ok k = false) → ts.contains t = true ∧ ev st3.fr (.tmp t) = evL n (keep ts fr1) (.tmp t) := by
          intro ok t h hno
          simp only [AbY, Bool.and_eq_true] at h
          refine ⟨h.1, (hst3 t fun k hk o hko => ?_).trans (hfin t h.1)⟩
          have h2 := Bt h.2 (Array.getElem?_eq_some_iff.1 hko).1
          rw [hno k hk, hko] at h2
          simpa using h2
        have hq0 : ∀ q, AbY l.toArray ts (fun k => (T.getD i []).contains k && decide (k < i)) q = true → ts.contains q = true ∧ ev st3.fr (.tmp q) = evL n (keep ts fr1) (.tmp q) := fun q s1 => hstill _ q s1 (fun k hk => by
          have := hnT k hk
          simp only [Bool.and_eq_false_iff, decide_eq_false_iff_not]
          by_cases hm : k ∈ T.getD i []
          · exact .inr fun h => this ⟨hm, h⟩
          · exact .inl (by simpa using hm))
        unfold AmR at h2'
        split at h2'
        case h_2 => cases h2'
        rename_i p hfp
        simp only [Bool.and_eq_true] at h2'
        obtain ⟨c1, c2⟩ := hq0 p h2'.2
        exact .free (AlJ hfp (by rw [c2]; exact AhQ hns (List.contains_iff_mem.1 h2'.1)))
  · intro j
    rw [List.mem_range]
    by_cases h : j < l.length <;> simp [Array.getD, h]
  · intro k hk hkn
    exact (hkn (List.mem_range.2 (by simpa using hk))).elim
  · intro a' w' g' hr' he hg
    exact hq _ _ _ _ _ (hw _ _ (Hy _ _ _ _ _) hk) hr' ((Evo.same hsm).trans (he.of_gle hg))
end Go.Rv
