/-
  Part 32.
-/
import Derived.Test.YtnfoiocigicdnaaGreatDoorYV31
namespace Go.Rv
set_option linter.unusedVariables false
set_option linter.unusedSimpArgs false
variable {E : Env}
theorem Rf (hE : E.Ok) {orc : Option Tmp → Orc} (hO : ∀ d, S3 E.toBase (orc d)) {ops : Array Oper} {T : List (List Nat)} (hc : K5 ops T = true) {st' : St} (hfront : ∀ (i : Nat) (his : i < ops.size) (l1 l2 : List Nat) (st : St), (l1 ++ i :: l2).Pairwise (· < ·) → (∀ j ∈ l1, j ∉ T.getD i []) → B9 E orc ops (l1 ++ i :: l2) st = some st' →
      ∃ st1, Em E orc ops ops[i] st = some st1 ∧ B9 E orc ops (l1 ++ l2) st1 = some st') {Q : Exit → Act → World → Prop} :
    ∀ (fuel : Nat) (rem : List Nat) (listed : Array Bool) (st : St) (a : Act) (w : World) (g : Gh), rem.length = fuel → rem.Pairwise (· < ·) → listed.size = ops.size →
      (∀ j, listed.getD j true = false ↔ j ∈ rem) → (∀ k, k < ops.size → k ∉ rem → ∀ d ∈ F2 ops k, d ∉ rem) →
      B9 E orc ops rem st = some st' → Rel E w g st a → (∀ a' w' g', Rel E w' g' st' a' → Evo E 0 w g w' g' → GLe g g' → Q .normal a' w') →
      wpAny E.P .any ops Q fuel listed a w := by
  have hin : ∀ (rem : List Nat) (listed : Array Bool), listed.size = ops.size → (∀ j, listed.getD j true = false ↔ j ∈ rem) → ∀ j ∈ rem, j < ops.size := by
    intro rem listed hs hl j hj
    have := (hl j).2 hj
    by_cases e : j < listed.size
    · omega
    · simp [Array.getD, e] at this
  have hgd : ∀ (rem : List Nat) (listed : Array Bool), listed.size = ops.size → (∀ j, listed.getD j true = false ↔ j ∈ rem) → ∀ d, d < ops.size → (listed.getD d false = true ↔ d ∉ rem) := by
    intro rem listed hs hl d hd
    have h1 : listed.getD d false = listed.getD d true := by
      have : d < listed.size := by omega
      simp [Array.getD, this]
    rw [h1, ← hl d]
    cases listed.getD d true <;> simp
  have hrd : ∀ (rem : List Nat) (listed : Array Bool), listed.size = ops.size → (∀ j, listed.getD j true = false ↔ j ∈ rem) → ∀ i,
      (i ∈ Region.ready .any ops listed ↔ i ∈ rem ∧ ∀ d ∈ F2 ops i, d ∉ rem) := by
    intro rem listed hs hl i
    rw [mem_ready, hl i]
    constructor
    · rintro ⟨h1, o, ho, h2⟩
      refine ⟨h1, fun d hd => ?_⟩
      have hlt := Gi hc (hin rem listed hs hl i h1) hd
      have hds := Nat.lt_trans hlt (hin rem listed hs hl i h1)
      obtain ⟨e, he, hb, rfl⟩ := (Ha ho).1 hd
      exact (hgd rem listed hs hl _ hds).1 (h2 e he hb)
    · rintro ⟨h1, h2⟩
      have hi := hin rem listed hs hl i h1
      refine ⟨h1, ops[i], Array.getElem?_eq_getElem hi, fun e he hb => ?_⟩
      have hd : e.on ∈ F2 ops i := (Ha (Array.getElem?_eq_getElem hi)).2 ⟨e, he, hb, rfl⟩
      exact (hgd rem listed hs hl _ (Nat.lt_trans (Gi hc hi hd) hi)).2 (h2 _ hd)
  have hdone : ∀ (rem : List Nat) (listed : Array Bool), rem.Pairwise (· < ·) → listed.size = ops.size → (∀ j, listed.getD j true = false ↔ j ∈ rem) → Region.ready .any ops listed = [] → rem = [] := by
    intro rem listed hp hs hl hr
    cases rem with
    | nil => rfl
    | cons i r =>
      have hi : i ∈ Region.ready .any ops listed := (hrd _ listed hs hl i).2 ⟨List.mem_cons_self, fun d hd hm => by
        have := Gi hc (hin _ listed hs hl i List.mem_cons_self) hd
        rcases List.mem_cons.1 hm with rfl | hm
        · omega
        · have := List.rel_of_pairwise_cons hp hm
          omega⟩
      rw [hr] at hi
      cases hi
  intro fuel
  induction fuel with
  | zero =>
    intro rem listed st a w g hf hp hs hl hd hst hr hq
    have : rem = [] := List.length_eq_zero_iff.1 hf
    subst this
    simp only [B9, Option.some.injEq] at hst
    subst hst
    refine ⟨?_, hq a w g hr (Evo.refl _ _ _ _) (GLe.refl _)⟩
    rw [List.eq_nil_iff_forall_not_mem]
    intro i hi
    have := ((hrd _ listed hs hl i).1 hi).1
    cases this
  | succ fuel ih =>
    intro rem listed st a w g hf hp hs hl hd hst hr hq
    refine ⟨fun h => ?_, fun i hi => ?_⟩
    · have := hdone rem listed hp hs hl h
      subst this
      simp at hf
    · obtain ⟨hir, hid⟩ := (hrd rem listed hs hl i).1 hi
      have his := hin rem listed hs hl i hir
      obtain ⟨l1, l2, rfl⟩ := List.append_of_mem hir
      have hp' := hp
      rw [List.pairwise_append] at hp'
      obtain ⟨p1, p2, p3⟩ := hp'
      have hnd : ∀ j ∈ l1 ++ l2, j ≠ i := by
        intro j hj
        rcases List.mem_append.1 hj with hj | hj
        · have := p3 j hj i List.mem_cons_self; omega
        · have := List.rel_of_pairwise_cons p2 hj; omega
      have hmem : ∀ j, j ∈ l1 ++ l2 ↔ j ∈ l1 ++ i :: l2 ∧ j ≠ i := by
        intro j
        constructor
        · intro hj
          refine ⟨?_, hnd j hj⟩
          simp only [List.mem_append, List.mem_cons] at hj ⊢
          rcases hj with hj | hj
          · exact .inl hj
          · exact .inr (.inr hj)
        · rintro ⟨hj, hne⟩
          simp only [List.mem_append, List.mem_cons] at hj ⊢
          rcases hj with hj | hj | hj
          · exact .inl hj
          · exact (hne hj).elim
          · exact .inr hj
      obtain ⟨st1, h1, h2⟩ := hfront i his l1 l2 st hp (fun j hj hT => Mp hc hd i his hid j hT (List.mem_append_left _ hj)) hst
      refine Wu hE hO (Array.getElem?_eq_getElem his) h1 hr fun a1 w1 g1 hr1 he1 hg1 => ?_
      refine ih (l1 ++ l2) (listed.setIfInBounds i true) st1 a1 w1 g1 ?_ ?_ ?_ ?_ ?_ h2 hr1 ?_
      · simp at hf ⊢; omega
      · exact hp.sublist (List.Sublist.append_left (List.sublist_cons_self i l2) l1)
      · simp [hs]
      · intro j
        rw [hmem j, ← hl j]
        by_cases e : j = i
        · subst e
          have : j < listed.size := by omega
          simp [Array.getD, this]
        · rw [getD_set_ne true (fun h => e h.symm)]
          simp [e]
      · intro k hk hkn d hdk hdm
        have hd2 := ((hmem d).1 hdm).1
        by_cases e : k = i
        · subst e
          exact hid d hdk hd2
        · exact hd k hk (fun h => hkn ((hmem k).2 ⟨h, e⟩)) d hdk hd2
      · intro a' w' g' hr' he' hg'
        exact hq a' w' g' hr' (he1.trans he') (hg1.trans hg')
def Aen : Op → Bool
  | .call _ => false
  | _ => true
structure CommY (E : Env) (orc : Option Tmp → Orc) (ops : Array Oper) (x y : Oper) (j : Nat) (frF : List AV) : Prop where
  apart : x.apart ops y = true
  eff : S5 E x.op = false
  call : Aen x.op = true
  keep : ∀ t, Operand.tmp t ∈ x.op.operands → ∀ k o, j ≤ k → ops[k]? = some o → o.dst ≠ some t
  same : ∀ (st : St) (u : AV) (σ2 : Ab), Ib E orc ops y st.fr st.σ = some (u, σ2) → (∀ z ∈ x.op.operands, ev st.fr z = ev frF z) → (Fx E st.fr st.σ x.op).map (·.1) = (Fx E st.fr σ2 x.op).map (·.1)
theorem Kr {orc : Option Tmp → Orc} {ops : Array Oper} {t : Tmp} : ∀ (js : List Nat) (st st1 : St), (∀ k ∈ js, ∀ o, ops[k]? = some o → o.dst ≠ some t) → B9 E orc ops js st = some st1 → ev st1.fr (.tmp t) = ev st.fr (.tmp t)
  | [], st, st1, _, h => by
    simp only [B9, Option.some.injEq] at h
    subst h; rfl
  | i :: js, st, st1, hk, h => by
    unfold B9 at h
    cases hi : ops[i]? with
    | none => simp [hi] at h
    | some x =>
      simp only [hi, Option.bind_eq_some_iff] at h
      obtain ⟨st2, h2, h3⟩ := h
      rw [Kr js st2 st1 (fun k hk' => hk k (List.mem_cons_of_mem _ hk')) h3]
      obtain ⟨v, e⟩ := V0 h2
      rw [e, K8 (hk i List.mem_cons_self x hi)]
theorem Z3 {orc : Option Tmp → Orc} {ops : Array Oper} {x y : Oper} {j : Nat} {frF : List AV} {st st1 st2 : St} (hc : CommY E orc ops x y j frF) (hz : ∀ z ∈ x.op.operands, ev st.fr z = ev frF z)
    (h1 : Em E orc ops x st = some st1) (h2 : Em E orc ops y st1 = some st2) : ∃ st3, Em E orc ops y st = some st3 ∧ Em E orc ops x st3 = some st2 := by
  obtain ⟨a1, a2, a3⟩ := Oper.apart_spec hc.apart
  have hfz : Ky E ops x = false := by
    cases hf : Ky E ops x with
    | false => rfl
    | true =>
      have := hc.eff
      rcases Gx hf with ⟨t, n, l, e⟩ | ⟨s, d, z, e, hs⟩
      · rw [e] at this; cases this
      · rw [e] at this; simp only [S5] at this; rw [this] at hs; cases hs
  have hnb : S9 E ops x = false := by unfold S9; rw [hc.eff]; rfl
  unfold Em at h1 h2 ⊢
  rw [Option.map_eq_some_iff] at h1 h2
  obtain ⟨⟨v, σ1⟩, hv, rfl⟩ := h1
  obtain ⟨⟨u, σ2⟩, hu, rfl⟩ := h2
  simp only at hu ⊢
  rw [Ez a1] at hu
  obtain rfl := Du hnb hv
  have hs := hc.same st u σ2 hu hz
  have hx : Ib E orc ops x st.fr σ2 = some (v, σ2) := by
    unfold Ib at hv ⊢
    have hop : ∀ σ, D3 E (orc x.dst) x.op st.fr σ = Fx E st.fr σ x.op := by
      intro σ
      have := hc.call
      unfold D3
      split
      · rename_i c e; rw [e] at this; cases this
      · rfl
    have hfr : ∀ σ, Jq (Ky E ops x) σ = some := fun σ => by funext r; simp [Jq, hfz]
    cases hw : Qe ops st.fr x with
    | none => simp [hw] at hv
    | some b =>
      cases b with
      | false => simp only [hw, Option.some.injEq, Prod.mk.injEq] at hv ⊢; exact ⟨hv.1, trivial⟩
      | true =>
        simp only [hw, hop, hfr, C7] at hv ⊢
        rw [hv] at hs
        simp only [Option.map_some] at hs
        cases he : Fx E st.fr σ2 x.op with
        | none => rw [he] at hs; cases hs
        | some r =>
          rw [he] at hs
          obtain ⟨r1, r2⟩ := r
          simp only [Option.map_some, Option.some.injEq] at hs
          obtain rfl := N0 hc.eff he
          rw [hs]
  refine ⟨⟨Bl st.fr y.dst u, σ2⟩, by rw [hu]; rfl, ?_⟩
  simp only
  rw [Ez a3, hx]
  simp only [Option.map_some, Kw st.fr v u a2]
theorem Nt {orc : Option Tmp → Orc} {ops : Array Oper} {i : Nat} {y : Oper} (hi : ops[i]? = some y) {l2 : List Nat} {st' : St} : ∀ (l1 : List Nat) (st : St), (l1 ++ i :: l2).Pairwise (· < ·) →
    (∀ j ∈ l1, ∀ x, ops[j]? = some x → Qk E ops x y = true ∨ CommY E orc ops x y j st'.fr) → B9 E orc ops (l1 ++ i :: l2) st = some st' →
    ∃ st1, Em E orc ops y st = some st1 ∧ B9 E orc ops (l1 ++ l2) st1 = some st'
  | [], st, _, _, h => by
    simp only [List.nil_append, B9, hi] at h
    rw [Option.bind_eq_some_iff] at h
    exact h
  | j :: l1, st, hp, hc, h0 => by
    have h := h0
    simp only [List.cons_append, B9] at h
    cases hj : ops[j]? with
    | none => simp [hj] at h
    | some x =>
      simp only [hj] at h
      rw [Option.bind_eq_some_iff] at h
      obtain ⟨s1, h1, h⟩ := h
      rw [List.cons_append] at hp
      obtain ⟨s2, h2, h⟩ := Nt hi l1 s1 (List.Pairwise.of_cons hp) (fun k hk => hc k (List.mem_cons_of_mem _ hk)) h
      have : ∃ st3, Em E orc ops y st = some st3 ∧ Em E orc ops x st3 = some s2 := by
        rcases hc j List.mem_cons_self x hj with hcb | hcy
        · exact Oh hcb h1 h2
        · refine Z3 hcy (fun z hz => ?_) h1 h2
          cases z with
          | tmp t =>
            refine (Kr (j :: (l1 ++ i :: l2)) st st' (fun k hk o ho => hcy.keep t hz k o ?_ ho) h0).symm
            rcases List.mem_cons.1 hk with rfl | hk
            · exact Nat.le_refl _
            · exact Nat.le_of_lt (List.rel_of_pairwise_cons hp hk)
          | _ => rfl
      obtain ⟨s3, h3, h4⟩ := this
      refine ⟨s3, h3, ?_⟩
      simp only [List.cons_append, B9, hj, h4, Option.bind_some]
      exact h
def Ze (E : Env) (o : Oper) : Bool := match o.op with
  | .call c => Yf E c
  | _ => false
def Afv (ops : Array Oper) (ts : List Nat) (j : Nat) : Operand → Bool
  | .tmp t => ts.contains t && (List.range ops.size).all fun k => k < j || (match ops[k]? with
    | some o => o.dst != some t
    | none => true)
  | _ => true
def Ajs (E : Env) (ops : Array Oper) (T : List (List Nat)) (i0 : Nat) (dy ts : List Nat) : Bool :=
  (List.range ops.size).all fun i => (List.range i).all fun j => (T.getD i []).contains j || (match ops[j]?, ops[i]? with
    | some x, some y => Qk E ops x y || (i == i0 && dy.contains j && x.apart ops y && !S5 E x.op && Aen x.op && Ze E y && x.op.operands.toList.all (Afv ops ts j))
    | _, _ => false)
def Anx (E : Env) (n : Nat) (fr : Fr) (σ0 σ1 : Ab) (l : List Oper) : List Nat → Prop
  | [] => True
  | j :: js => (match l[j]? with
    | some x => (Sj E (evL n fr) σ0 x.op).map (·.1) = (Sj E (evL n fr) σ1 x.op).map (·.1)
    | none => True) ∧ Anx E n fr σ0 σ1 l js
theorem Afu {n : Nat} {fr : Fr} {σ0 σ1 : Ab} {l : List Oper} : ∀ {js : List Nat}, Anx E n fr σ0 σ1 l js → ∀ j ∈ js, ∀ x, l[j]? = some x → (Sj E (evL n fr) σ0 x.op).map (·.1) = (Sj E (evL n fr) σ1 x.op).map (·.1)
  | k :: js, h, j, hj, x, hx => by
    rcases List.mem_cons.1 hj with rfl | hj
    · have := h.1
      rw [hx] at this
      exact this
    · exact Afu h.2 j hj x hx
theorem Ae3 {t : Nat} {f f' : FuncId} {a a' : List AV} {σ σ' : Ab} {r r' : AV × Ab} (h : Y6 [(t, f, a, σ, r)] (some t) f' a' σ' = some r') : σ' = σ ∧ r' = r := by
  simp only [Y6, if_true] at h
  split at h
  · rename_i hh
    cases h
    exact ⟨hh.2.2, rfl⟩
  · cases h
theorem Ya : ∀ (ts : List Nat) (l : Fr) (t : Nat), t ∈ ts → Gk (keep ts l) t = Gk l t := by
  intro ts l t ht
  induction ts with
  | nil => cases ht
  | cons s ts ih =>
    show (if t = s then Gk l s else Gk (keep ts l) t) = _
    by_cases e : t = s
    · rw [if_pos e, e]
    · rw [if_neg e]
      exact ih ((List.mem_cons.1 ht).resolve_left e)
theorem Ue (hE : E.Ok) (hP : E.P.follows .mixedOrders = true) {m n id : Nat} {l : List Oper} (T : List (List Nat)) (hok1 : K5 l.toArray T = true) (i0 : Nat) (dy ts : List Nat) (hok2 : Ajs E l.toArray T i0 dy ts = true) {fr fr' : Fr} {σ σ' : Ab} {K : Dx} (hw : Xi E m K)
    (h : ∃ fz t f a σ0 r σ1, (l[i0]?).bind (·.dst) = some t ∧ Anx E n fr' σ0 σ1 l dy ∧ Nu E.toBase (Acm fz [(t, f, a, σ0, r, σ1)]) ∧ Oy E (Acm fz [(t, f, a, σ0, r, σ1)]) true n l ts (fr, σ) = some (fr', σ'))
    (hk : K .normal ⟨Am n fr', σ'⟩) : Run E m (.region id l.toArray true) ⟨Am n fr, σ⟩ K := by
  obtain ⟨fz, t, f, a, σ0, r, σ1, hdst, hdyn, hO, h⟩ := h
  simp only [Oy, Option.bind_eq_some_iff, Option.some.injEq, Prod.mk.injEq] at h
  obtain ⟨⟨fr1, σ2⟩, h1, rfl, rfl⟩ := h
  have hsteps := He (E := E) (ops := l.toArray) 0 l fr fr1 σ σ2 (by simp) h1
  rw [← List.range_eq_range'] at hsteps
  intro ac w g hr Q hq
  refine wp_region_any hP ?_
  have hsm : SameMem w { w with drawn := w.drawn + 1 } := ⟨rfl, rfl, rfl, rfl⟩
  refine Rf hE hO hok1 (st' := ⟨Am n fr1, σ2⟩) ?_ l.toArray.size (List.range l.length) _ ⟨Am n fr, σ⟩ ac _ g (by simp) List.pairwise_lt_range (by simp) ?_ ?_ hsteps (Pt hr hsm) ?_
  · intro i his l1 l2 st hp hT hst
    have hi : l.toArray[i]? = some l.toArray[i] := Array.getElem?_eq_getElem his
    refine Nt hi l1 st hp (fun j hj x hx => ?_) hst
    have hji : j < i := by
      rw [List.pairwise_append] at hp
      exact hp.2.2 j hj i List.mem_cons_self
    have h1' := Bt (Bt hok2 his) hji
    simp only [Bool.or_eq_true, List.contains_iff_mem] at h1'
    rcases h1' with h1' | h1'
    · exact (hT j hj h1').elim
    · simp only [hx, hi, Bool.or_eq_true, Bool.and_eq_true, beq_iff_eq, List.contains_iff_mem, Bool.not_eq_true'] at h1'
      rcases h1' with h1' | ⟨⟨⟨⟨⟨⟨e1, e2⟩, e3⟩, e4⟩, e5⟩, e6⟩, e7⟩
      · exact .inl h1'
      · refine .inr ⟨e3, e4, e5, fun u hu k o hjk hko => ?_, fun st2 u σ3 hval hz => ?_⟩
        · have := List.all_eq_true.1 e7 _ (by simpa using hu)
          simp only [Afv, Bool.and_eq_true] at this
          have h2 := Bt this.2 (Array.getElem?_eq_some_iff.1 hko).1
          rw [hko] at h2
          simp only [Bool.or_eq_true, decide_eq_true_eq, bne_iff_ne] at h2
          rcases h2 with h2 | h2
          · omega
          · exact h2
        · subst e1
          have hx' : l[j]? = some x := by simpa using hx
          have hd : l.toArray[i].dst = some t := by
            have : l[i]? = some l.toArray[i] := by simp
            rw [this] at hdst
            exact hdst
          have hst2 : st2.σ = σ0 ∧ σ3 = σ1 ∨ st2.σ = σ3 := by
            unfold Ib at hval
            cases hwn : Qe l.toArray st2.fr l.toArray[i] with
            | none => rw [hwn] at hval; cases hval
            | some b =>
              cases b with
              | false => rw [hwn] at hval; cases hval; exact .inr rfl
              | true =>
                rw [hwn] at hval
                simp only at hval
                have hfz : Ky E l.toArray l.toArray[i] = false := by
                  unfold Ze at e6
                  unfold Ky
                  split
                  · split
                    · rename_i ee; rw [ee] at e6; cases e6
                    · rename_i ee; rw [ee] at e6; cases e6
                    · rfl
                  · rfl
                have hfr : Jq (Ky E l.toArray l.toArray[i]) st2.σ = some := by rw [hfz]; funext q; simp [Jq]
                rw [hfr, C7] at hval
                unfold Ze at e6
                unfold D3 at hval
                split at e6
                case h_2 => cases e6
                rename_i c ec
                simp only [ec] at hval
                split at hval
                · rename_i bi eb
                  unfold Yf at e6
                  rw [eb] at e6; cases e6
                · rw [if_pos e6] at hval
                  unfold AhZ at hval
                  split at hval
                  case h_2 => cases hval
                  split at hval
                  case h_2 => cases hval
                  rw [hd] at hval
                  have hval' : Y6 [(t, f, a, σ0, r, σ1)] (some t) _ _ st2.σ = some (u, σ3) := hval
                  obtain ⟨q1, q2⟩ := Ae3 hval'
                  cases q2
                  exact .inl ⟨q1, rfl⟩
          rcases hst2 with ⟨q1, q2⟩ | q
          · have hdj := Afu hdyn j e2 x hx'
            have hev : ∀ σ, Fx E st2.fr σ x.op = Sj E (evL n (keep ts fr1)) σ x.op := by
              intro σ
              rw [← Hg, ← Zk]
              refine N9 fun z hz' => ?_
              rw [hz z hz']
              cases z with
              | tmp u =>
                have := List.all_eq_true.1 e7 _ (by simpa using hz')
                simp only [Afv, Bool.and_eq_true, List.contains_iff_mem] at this
                rw [Hg, Hg]
                show (if u < n then Gk fr1 u else .junk) = if u < n then Gk (keep ts fr1) u else .junk
                rw [Ya ts fr1 u this.1]
              | _ => rfl
            rw [hev, hev, q1, q2]
            exact hdj
          · rw [q]
  · intro j
    rw [List.mem_range]
    by_cases h : j < l.length <;> simp [Array.getD, h]
  · intro k hk hkn
    exact (hkn (List.mem_range.2 (by simpa using hk))).elim
  · intro a' w' g' hr' he hg
    exact hq _ _ _ _ _ (hw _ _ (Hy _ _ _ _ _) hk) hr' ((Evo.same hsm).trans (he.of_gle hg))
attribute [go_sem] Anx
end Go.Rv
