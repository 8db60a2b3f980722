/-
  R34: regions that draw their order, with a call that turns the state beside operations that look at other parts of it.
-/
import Derived.Test.YtomjphpnpcgacaaR33
namespace Go.Rv
set_option linter.unusedVariables false
set_option linter.unusedSimpArgs false

variable {E : Env}

theorem wpAny_front (hE : E.Ok) {orc : Option Tmp → Orc} (hO : ∀ d, OrcOk E.toBase (orc d)) {ops : Array Oper} {T : List (List Nat)} (hc : okClo ops T = true) {st' : St} (hfront : ∀ (i : Nat) (his : i < ops.size) (l1 l2 : List Nat) (st : St), (l1 ++ i :: l2).Pairwise (· < ·) → (∀ j ∈ l1, j ∉ T.getD i []) → stepsV E orc ops (l1 ++ i :: l2) st = some st' →
      ∃ st1, stepV E orc ops ops[i] st = some st1 ∧ stepsV E orc ops (l1 ++ l2) st1 = some st') {Q : Exit → Act → World → Prop} :
    ∀ (fuel : Nat) (rem : List Nat) (listed : Array Bool) (st : St) (a : Act) (w : World) (g : Gh), rem.length = fuel → rem.Pairwise (· < ·) → listed.size = ops.size →
      (∀ j, listed.getD j true = false ↔ j ∈ rem) → (∀ k, k < ops.size → k ∉ rem → ∀ d ∈ depsOf ops k, d ∉ rem) →
      stepsV E orc ops rem st = some st' → Rel E w g st a → (∀ a' w' g', Rel E w' g' st' a' → Evo E 0 w g w' g' → GLe g g' → Q .normal a' w') →
      wpAny E.P .any ops Q fuel listed a w := by
  have hin : ∀ (rem : List Nat) (listed : Array Bool), listed.size = ops.size → (∀ j, listed.getD j true = false ↔ j ∈ rem) → ∀ j ∈ rem, j < ops.size := by
    intro rem listed hs hl j hj
    have := (hl j).2 hj
    by_cases e : j < listed.size
    · omega
    · simp [Array.getD, e] at this
  have hgd : ∀ (rem : List Nat) (listed : Array Bool), listed.size = ops.size → (∀ j, listed.getD j true = false ↔ j ∈ rem) → ∀ d, d < ops.size → (listed.getD d false = true ↔ d ∉ rem) := by
    intro rem listed hs hl d hd
    have h1 : listed.getD d false = listed.getD d true := by
      have : d < listed.size := by omega
      simp [Array.getD, this]
    rw [h1, ← hl d]
    cases listed.getD d true <;> simp
  have hrd : ∀ (rem : List Nat) (listed : Array Bool), listed.size = ops.size → (∀ j, listed.getD j true = false ↔ j ∈ rem) → ∀ i,
      (i ∈ Region.ready .any ops listed ↔ i ∈ rem ∧ ∀ d ∈ depsOf ops i, d ∉ rem) := by
    intro rem listed hs hl i
    rw [mem_ready, hl i]
    constructor
    · rintro ⟨h1, o, ho, h2⟩
      refine ⟨h1, fun d hd => ?_⟩
      have hlt := okClo_lt hc (hin rem listed hs hl i h1) hd
      have hds := Nat.lt_trans hlt (hin rem listed hs hl i h1)
      obtain ⟨e, he, hb, rfl⟩ := (mem_depsOf ho).1 hd
      exact (hgd rem listed hs hl _ hds).1 (h2 e he hb)
    · rintro ⟨h1, h2⟩
      have hi := hin rem listed hs hl i h1
      refine ⟨h1, ops[i], Array.getElem?_eq_getElem hi, fun e he hb => ?_⟩
      have hd : e.on ∈ depsOf ops i := (mem_depsOf (Array.getElem?_eq_getElem hi)).2 ⟨e, he, hb, rfl⟩
      exact (hgd rem listed hs hl _ (Nat.lt_trans (okClo_lt hc hi hd) hi)).2 (h2 _ hd)
  have hdone : ∀ (rem : List Nat) (listed : Array Bool), rem.Pairwise (· < ·) → listed.size = ops.size → (∀ j, listed.getD j true = false ↔ j ∈ rem) → Region.ready .any ops listed = [] → rem = [] := by
    intro rem listed hp hs hl hr
    cases rem with
    | nil => rfl
    | cons i r =>
      have hi : i ∈ Region.ready .any ops listed := (hrd _ listed hs hl i).2 ⟨List.mem_cons_self, fun d hd hm => by
        have := okClo_lt hc (hin _ listed hs hl i List.mem_cons_self) hd
        rcases List.mem_cons.1 hm with rfl | hm
        · omega
        · have := List.rel_of_pairwise_cons hp hm
          omega⟩
      rw [hr] at hi
      cases hi
  intro fuel
  induction fuel with
  | zero =>
    intro rem listed st a w g hf hp hs hl hd hst hr hq
    have : rem = [] := List.length_eq_zero_iff.1 hf
    subst this
    simp only [stepsV, Option.some.injEq] at hst
    subst hst
    refine ⟨?_, hq a w g hr (Evo.refl _ _ _ _) (GLe.refl _)⟩
    rw [List.eq_nil_iff_forall_not_mem]
    intro i hi
    have := ((hrd _ listed hs hl i).1 hi).1
    cases this
  | succ fuel ih =>
    intro rem listed st a w g hf hp hs hl hd hst hr hq
    refine ⟨fun h => ?_, fun i hi => ?_⟩
    · have := hdone rem listed hp hs hl h
      subst this
      simp at hf
    · obtain ⟨hir, hid⟩ := (hrd rem listed hs hl i).1 hi
      have his := hin rem listed hs hl i hir
      obtain ⟨l1, l2, rfl⟩ := List.append_of_mem hir
      have hp' := hp
      rw [List.pairwise_append] at hp'
      obtain ⟨p1, p2, p3⟩ := hp'
      have hnd : ∀ j ∈ l1 ++ l2, j ≠ i := by
        intro j hj
        rcases List.mem_append.1 hj with hj | hj
        · have := p3 j hj i List.mem_cons_self; omega
        · have := List.rel_of_pairwise_cons p2 hj; omega
      have hmem : ∀ j, j ∈ l1 ++ l2 ↔ j ∈ l1 ++ i :: l2 ∧ j ≠ i := by
        intro j
        constructor
        · intro hj
          refine ⟨?_, hnd j hj⟩
          simp only [List.mem_append, List.mem_cons] at hj ⊢
          rcases hj with hj | hj
          · exact .inl hj
          · exact .inr (.inr hj)
        · rintro ⟨hj, hne⟩
          simp only [List.mem_append, List.mem_cons] at hj ⊢
          rcases hj with hj | hj | hj
          · exact .inl hj
          · exact (hne hj).elim
          · exact .inr hj
      obtain ⟨st1, h1, h2⟩ := hfront i his l1 l2 st hp (fun j hj hT => okClo_below hc hd i his hid j hT (List.mem_append_left _ hj)) hst
      refine stepV_wp hE hO (Array.getElem?_eq_getElem his) h1 hr fun a1 w1 g1 hr1 he1 hg1 => ?_
      refine ih (l1 ++ l2) (listed.setIfInBounds i true) st1 a1 w1 g1 ?_ ?_ ?_ ?_ ?_ h2 hr1 ?_
      · simp at hf ⊢; omega
      · exact hp.sublist (List.Sublist.append_left (List.sublist_cons_self i l2) l1)
      · simp [hs]
      · intro j
        rw [hmem j, ← hl j]
        by_cases e : j = i
        · subst e
          have : j < listed.size := by omega
          simp [Array.getD, this]
        · rw [getD_set_ne true (fun h => e h.symm)]
          simp [e]
      · intro k hk hkn d hdk hdm
        have hd2 := ((hmem d).1 hdm).1
        by_cases e : k = i
        · subst e
          exact hid d hdk hd2
        · exact hd k hk (fun h => hkn ((hmem k).2 ⟨h, e⟩)) d hdk hd2
      · intro a' w' g' hr' he' hg'
        exact hq a' w' g' hr' (he1.trans he') (hg1.trans hg')


def notCall : Op → Bool
  | .call _ => false
  | _ => true

/-- x looks at what y does not turn. -/
structure CommY (E : Env) (orc : Option Tmp → Orc) (ops : Array Oper) (x y : Oper) (j : Nat) (frF : List AV) : Prop where
  apart : x.apart ops y = true
  eff : effA E x.op = false
  call : notCall x.op = true
  keep : ∀ t, Operand.tmp t ∈ x.op.operands → ∀ k o, j ≤ k → ops[k]? = some o → o.dst ≠ some t
  same : ∀ (st : St) (u : AV) (σ2 : Store), valA E orc ops y st.fr st.σ = some (u, σ2) → (∀ z ∈ x.op.operands, ev st.fr z = ev frF z) → (evOp E st.fr st.σ x.op).map (·.1) = (evOp E st.fr σ2 x.op).map (·.1)

theorem stepsV_still {orc : Option Tmp → Orc} {ops : Array Oper} {t : Tmp} : ∀ (js : List Nat) (st st1 : St), (∀ k ∈ js, ∀ o, ops[k]? = some o → o.dst ≠ some t) → stepsV E orc ops js st = some st1 → ev st1.fr (.tmp t) = ev st.fr (.tmp t)
  | [], st, st1, _, h => by
    simp only [stepsV, Option.some.injEq] at h
    subst h; rfl
  | i :: js, st, st1, hk, h => by
    unfold stepsV at h
    cases hi : ops[i]? with
    | none => simp [hi] at h
    | some x =>
      simp only [hi, Option.bind_eq_some_iff] at h
      obtain ⟨st2, h2, h3⟩ := h
      rw [stepsV_still js st2 st1 (fun k hk' => hk k (List.mem_cons_of_mem _ hk')) h3]
      obtain ⟨v, e⟩ := stepV_fr h2
      rw [e, setSlot_keep (hk i List.mem_cons_self x hi)]

/-! ### The rule -/
def isOwnOp (E : Env) (o : Oper) : Bool := match o.op with
  | .call c => isOwn E c
  | _ => false

/-- What the operations see before the call is what they see behind it. -/
def DynL (E : Env) (n : Nat) (fr : Fr) (σ0 σ1 : Store) (l : List Oper) : List Nat → Prop
  | [] => True
  | j :: js => (match l[j]? with
    | some x => (evOpR E (evL n fr) σ0 x.op).map (·.1) = (evOpR E (evL n fr) σ1 x.op).map (·.1)
    | none => True) ∧ DynL E n fr σ0 σ1 l js

theorem keep_look : ∀ (ts : List Nat) (l : Fr) (t : Nat), t ∈ ts → look (keep ts l) t = look l t := by
  intro ts l t ht
  induction ts with
  | nil => cases ht
  | cons s ts ih =>
    show (if t = s then look l s else look (keep ts l) t) = _
    by_cases e : t = s
    · rw [if_pos e, e]
    · rw [if_neg e]
      exact ih ((List.mem_cons.1 ht).resolve_left e)

attribute [go_sem] DynL

end Go.Rv
