/-
  Part 29.
-/
import Derived.Test.YtnfoiocigicdnaaGreatDoorYV28
namespace Go.Rv
set_option linter.unusedVariables false
set_option linter.unusedSimpArgs false
variable {E : Env}
abbrev Abs (v : Value) : List PanicEntry := [{ v := v, recovered := false }]
structure Pan (B : Base) (f : FuncId) (args : List AV) (σ : Ab) (v : Value) (σ2 : Ab) : Prop where
  call : ∀ (F : Addr → Prop) (w : World) (g : Gh) (vs : Array Value), Mem (B.env F) w g σ → Cm w (A2 (B.env F) g) g vs.toList args →
    DoCall B.P f vs w (fun e w' => ∃ g', e = .panicked (Abs v) ∧ Mem (B.env F) w' g' σ2 ∧ Evo (B.env F) σ.length w g w' g')
inductive Out
  | ret (r : AV) (σ : Ab)
  | pan (v : Value) (σ : Ab)
def PCon (B : Base) (f : FuncId) (args : List AV) (σ : Ab) : Out → Prop
  | .ret r σ' => Con B f args σ (fun r1 σ1 => r1 = r ∧ σ1 = σ')
  | .pan v σ' => Pan B f args σ v σ'
theorem PCon.to {B : Base} {f : FuncId} {args : List AV} {σ : Ab} {o : Out} (h : PCon B f args σ o) {r : AV} {σ' : Ab} (ho : o = .ret r σ') : Con B f args σ (fun r1 σ1 => r1 = r ∧ σ1 = σ') := by
  subst ho; exact h
theorem PCon.pan {B : Base} {f : FuncId} {args : List AV} {σ : Ab} {o : Out} (h : PCon B f args σ o) {v : Value} {σ' : Ab} (ho : o = .pan v σ') : Pan B f args σ v σ' := by
  subst ho; exact h
def AiR (E : Env) (f : FuncId) (args : List AV) (σ : Ab) (v : Value) (σ' : Ab) : Prop :=
  ∀ (w : World) (g : Gh) (vs : Array Value), Mem E w g σ → Cm w (A2 E g) g vs.toList args →
    DoCall E.P f vs w (fun e w' => ∃ g', e = .panicked (Abs v) ∧ Mem E w' g' σ' ∧ GLe g g' ∧ Evo E 0 w g w' g')
theorem AjB {f : FuncId} {args : List AV} {σ : Ab} {v : Value} {σ' : Ab} (h : AiR (E.toBase.env E.F) f args σ v σ') : AiR E f args σ v σ' := by
  refine fun w g vs hm ha => (h w g vs (AhB hm) ha).mono ?_
  rintro e w' ⟨g', h1, h2, h3, h4⟩
  exact ⟨g', h1, AhE h2, h3, AhS h4⟩
theorem Ace {B : Base} {f : FuncId} {args1 : List AV} {σ1 : Ab} {v : Value} {σ2 : Ab} (hcon : Pan B f args1 σ1 v σ2) {σ : Ab} {args : List AV} (sel : List Nat) (hnd : sel.Nodup) (hσ : Kb sel σ sel σ1)
    (ha : wkA sel args args1) (hb : C8 σ2 = true) (F : Addr → Prop) : AiR (B.env F) f args σ v (O1 σ sel (σ2.map (Ahd sel σ.length))) := by
  refine fun w g vs hm har => ?_
  refine (Tg (Fin := fun e w' pr g => e = .panicked (Abs v)) (fun F w g vs hm har => (hcon.call F w g vs hm har).mono ?_) sel hnd hσ ha hb F hm har).mono ?_
  · rintro e w' ⟨g', h1, h3, h4⟩
    exact ⟨g', h1, h3, h4⟩
  · rintro e w' ⟨g', pr1, g1, h1, _, h3, h4, h6⟩
    exact ⟨g', h1, h3, h4, h6⟩
theorem Dz {B : Base} {f : FuncId} {args1 : List AV} {σ1 : Ab} {v : Value} {σ2 : Ab} (hcon : Pan B f args1 σ1 v σ2) {σ : Ab} {args : List AV} (sel : List Nat) (hnd : sel.Nodup) (hσ : Kb sel σ sel σ1)
    (ha : wkA sel args args1) (hb : C8 σ2 = true) {σ' : Ab} (hs : O1 σ sel (σ2.map (Ahd sel σ.length)) = σ') : ∀ F, AiR (B.env F) f args σ v σ' := by
  subst hs
  exact Ace hcon sel hnd hσ ha hb
def Vi (E : Env) (ρ : Operand → AV) (σ : Ab) (op : Op) (v : Value) (σ' : Ab) : Prop :=
  (∃ x t k n, op = .panic x ∧ ρ x = .iface t (.int k n) ∧ v = .iface t (.int k n) ∧ σ' = σ) ∨
  (∃ c f fid, op = .call c ∧ c.callee = .value f ∧ ρ f = .fn fid [] ∧ AiR E fid (c.args.toList.map ρ) σ v σ')
theorem AhN {o : Oper} {st : St} {v : Value} {σ' : Ab} (h : Vi E (ev st.fr) st.σ o.op v σ') {a : Act} {w : World} {g : Gh} (hr : Rel E w g st a) {next : Act → World → Prop} {Q : Exit → Act → World → Prop}
    (hk : ∀ w' g', Rel E w' g' ⟨st.fr, σ'⟩ a → Evo E 0 w g w' g' → GLe g g' → Q (.panic (Abs v)) a w') : o.wp E.P a w next Q := by
  rcases h with ⟨x, t, k, n, hop, hx, rfl, rfl⟩ | ⟨c, f, fid, hop, hc, hf, hp⟩
  · have hv := Fy hr x
    rw [hx] at hv
    have e : a.eval x = .iface t (.int k n) := by
      generalize a.eval x = u at hv
      cases hv with
      | iface _ _ v _ h2 => cases h2; rfl
    unfold Oper.wp
    have : (execOp a.eval o).run E.P w = .halt (.panic (.iface t (.int k n))) w := by
      unfold execOp
      rw [hop]
      simp only [e]
      rfl
    rw [this, Oper.upon_panic]
    exact hk w g hr (Evo.refl _ _ _ _) (GLe.refl _)
  · have hfv := Fy hr f
    rw [hf] at hfv
    obtain ⟨capv, hcv, hcr⟩ := E3 hfv
    have hcapv : capv = #[] := by
      have := Df hcr
      apply Array.ext'
      simpa using this
    subst hcapv
    refine K3 (B := E.toBase) hop hc hcv (hp w g (c.args.map a.eval ++ #[]) hr.mem ?_) ?_
    · rw [Array.append_empty, Array.toList_map]
      exact E1 _ _ (Fy hr) _
    · rintro e w' ⟨g', rfl, hm', hle, he⟩
      exact hk w' g' (J5 hr hm' hle he) he hle
theorem AaY (fr : List AV) (d : Option Tmp) (v : AV) : (Bl fr d v).length = fr.length := by cases d <;> simp [Bl]
theorem Jp (n : Nat) (l : Fr) : (Am n l).length = n := by simp [Am]
theorem Adl {E : Env} (hE : E.Ok) {orc : Option Tmp → Orc} (hO : Nu E.toBase orc) {m n id k : Nat} {l : List Oper} {o : Oper} (hk0 : l[k]? = some o) (hg : o.guard = none) {fr fr1 : Fr} {σ σ1 : Ab} {v : Value} {σ2 : Ab} {K : Dx}
    (h : E2 E orc false n l.toArray (l.take k) (fr, σ) = some (fr1, σ1)) (hp : Vi E (ev (Am n fr1)) σ1 o.op v σ2) (hk : K (.panic (Abs v)) ⟨Am n fr1, σ2⟩) : Run E m (.region id l.toArray false) ⟨Am n fr, σ⟩ K := by
  refine Lh ?_
  have hkl := (List.getElem?_eq_some_iff.1 hk0).1
  have hl : l = l.take k ++ (o :: l.drop (k + 1)) := by
    conv => lhs; rw [← List.take_append_drop k l, List.drop_eq_getElem_cons hkl]
    rw [(List.getElem?_eq_some_iff.1 hk0).2]
  have := J4 (E := E) (m := m) (K := K) (ops := l.toArray) (rest := o :: l.drop (k + 1)) hE hO (l.take k) fr σ fr1 σ1 h (by
    intro a w g hr Q hq
    simp only [wpList, Region.wanted, hg, if_true]
    left
    refine AhN (st := ⟨Am n fr1, σ1⟩) hp hr (fun w' g' hr' he hle => ?_)
    exact hq _ _ _ _ _ hk hr' (he.of_gle hle))
  rw [← hl] at this
  exact this
def Ad9 : AV → Option AV
  | .iface t (.int k z) => some (.val (.iface t (.int k z)))
  | _ => none
theorem Ac6 {t : TypeId} {x : Int} : Ad9 (.iface t (i64 x)) = some (.val (.iface t (.int .i64 x))) := rfl
noncomputable def Aj6 (m : List (Nat × FuncId × List AV × Ab × AV × Ab)) (n : Nat) (ks : List Nat) (o : Oper) : Option (Fr × Ab) → Option ((AV × Ab) × List AV)
  | some (fr, σ) => match o.op with
    | .panic x => (Ad9 (evL n fr x)).map fun u => ((u, σ), ks.map fun t => evL n fr (.tmp t))
    | .call c => match c.callee with
      | .value f => match evL n fr f with
        | .fn fid [] => (Y6 m o.dst fid (c.args.toList.map (evL n fr)) σ).map fun r => (r, ks.map fun t => evL n fr (.tmp t))
        | _ => none
      | _ => none
    | _ => none
  | none => none
def AcF (B : Base) : List (Nat × FuncId × List AV × Ab × AV × Ab) → Prop
  | [] => True
  | e :: l => (∀ v, e.2.2.2.2.1 = .val v → ∀ F, AiR (B.env F) e.2.1 e.2.2.1 e.2.2.2.1 v e.2.2.2.2.2) ∧ AcF B l
theorem Ae2 {B : Base} : ∀ {l : List (Nat × FuncId × List AV × Ab × AV × Ab)}, AcF B l → ∀ d f a σ v σ', Y6 l d f a σ = some (.val v, σ') → ∀ F, AiR (B.env F) f a σ v σ'
  | [], _, d, f, a, σ, v, σ', h => by cases h
  | e :: l, hl, d, f, a, σ, v, σ', h => by
    unfold Y6 at h
    split at h
    · split at h
      · rename_i hfa
        obtain ⟨rfl, rfl, rfl⟩ := hfa
        obtain ⟨t, f, a, σ, r2, σ2⟩ := e
        cases h
        exact hl.1 v rfl
      · cases h
    · exact Ae2 hl.2 d f a σ v σ' h
theorem V4 {m : List (Nat × FuncId × List AV × Ab × AV × Ab)} (hm : AcF E.toBase m) {n : Nat} {ks : List Nat} {vals : List AV} {o : Oper} {fr : Fr} {σ : Ab} {v : Value} {σ' : Ab} (h : Aj6 m n ks o (some (fr, σ)) = some ((.val v, σ'), vals)) :
    Vi E (ev (Am n fr)) σ o.op v σ' ∧ vals = ks.map fun t => ev (Am n fr) (.tmp t) := by
  simp only [Aj6] at h
  rw [Hg]
  split at h
  · rename_i x hop
    rw [Option.map_eq_some_iff] at h
    obtain ⟨u, h1, h2⟩ := h
    unfold Ad9 at h1
    split at h1
    · rename_i t k z hx
      simp only [Option.some.injEq] at h1
      subst h1
      simp only [Prod.mk.injEq, AV.val.injEq] at h2
      obtain ⟨⟨rfl, rfl⟩, rfl⟩ := h2
      exact ⟨.inl ⟨x, t, k, z, hop, hx, rfl, rfl⟩, rfl⟩
    · cases h1
  · rename_i c hop
    split at h
    · rename_i f hc
      split at h
      · rename_i fid hf
        rw [Option.map_eq_some_iff] at h
        obtain ⟨r, h, e⟩ := h
        simp only [Prod.mk.injEq] at e
        obtain ⟨rfl, rfl⟩ := e
        exact ⟨.inr ⟨c, f, fid, hop, hc, hf, AjB (Ae2 hm _ _ _ _ _ _ h E.F)⟩, rfl⟩
      · cases h
    · cases h
  · cases h
def Aka (E : Env) (orc : Option Tmp → Orc) (dr : Bool) (n : Nat) (l : List Oper) (k : Nat) (s : Fr × Ab) : Option (Fr × Ab) := E2 E orc dr n l.toArray (l.take k) s
theorem AjK {orc : Option Tmp → Orc} {dr : Bool} {n : Nat} {l : List Oper} {k : Nat} {s : Fr × Ab} : Aka E orc dr n l k s = Qt E orc dr n l.toArray (l.take k) (some s) := by
  rw [M3]; rfl
theorem I2 (hE : E.Ok) (ks : List Nat) {vals : List AV} {m n id : Nat} {l : List Oper} (k : Nat) (o : Oper) {fr : Fr} {σ : Ab} {v : Value} {σ2 : Ab} {K : Dx} (hk0 : l[k]? = some o) (hg : o.guard = none)
    (h : ∃ orc pl, Nu E.toBase orc ∧ AcF E.toBase pl ∧ Aj6 pl n ks o (Aka E orc false n l k (fr, σ)) = some ((.val v, σ2), vals)) (hk : ∀ fr', fr'.length = n → (ks.map fun t => ev fr' (.tmp t)) = vals → K (.panic (Abs v)) ⟨fr', σ2⟩) : Run E m (.region id l.toArray false) ⟨Am n fr, σ⟩ K := by
  obtain ⟨orc, pl, hO, hP, h⟩ := h
  cases hpre : Aka E orc false n l k (fr, σ) with
  | none => rw [hpre] at h; cases h
  | some s =>
    rw [hpre] at h
    exact Adl hE hO hk0 hg hpre (V4 hP h).1 (hk _ (Jp _ _) (V4 hP h).2.symm)
theorem G7 (hE : E.Ok) (ks : List Nat) {vals : List AV} {m n id : Nat} {l : List Oper} (k : Nat) (o : Oper) {fr : Fr} {σ : Ab} {v : Value} {σ2 : Ab} {K : Dx} (hk0 : l[k]? = some o) (hg : o.guard = none)
    (h : ∃ orc pl, Nu E.toBase orc ∧ AcF E.toBase pl ∧ Aj6 pl n ks o (Aka E orc false n l k (fr, σ)) = some ((.val v, σ2), vals)) {y : Code} (hk : ∀ fr', fr'.length = n → (ks.map fun t => ev fr' (.tmp t)) = vals → K (.panic (Abs v)) ⟨fr', σ2⟩) : Run E m (.seq (.region id l.toArray false) y) ⟨Am n fr, σ⟩ K :=
  L9 (I2 hE ks k o hk0 hg h hk)
def Adx (ops : Array Oper) (o x : Oper) : Bool := match x.dst with
  | some d => (o.looksAt ops).contains d
  | none => false
def Aal (E : Env) (ops : Array Oper) (T : List (List Nat)) (k : Nat) : Bool :=
  (List.range k).all fun i => (List.range i).all fun j => (T.getD i []).contains j || (match ops[j]?, ops[i]? with
    | some x, some y => Qk E ops x y
    | _, _ => false)
def Ahl (E : Env) (ops : Array Oper) (T : List (List Nat)) (k : Nat) : Bool := match ops[k]? with
  | some o => (List.range ops.size).all fun j => j == k || (if j < k then (T.getD k []).contains j || (match ops[j]? with
      | some x => !S9 E ops x && !Adx ops o x
      | none => false) else (T.getD j []).contains k)
  | none => false
theorem Ac4 {ρ ρ' : Operand → AV} {σ : Ab} {op : Op} {v : Value} {σ' : Ab} (hρ : ∀ x ∈ op.operands, ρ x = ρ' x) (h : Vi E ρ σ op v σ') : Vi E ρ' σ op v σ' := by
  rcases h with ⟨x, t, k, n, rfl, hx, rfl, rfl⟩ | ⟨c, f, fid, rfl, hc, hf, hp⟩
  · exact .inl ⟨x, t, k, n, rfl, by rw [← hρ x (by simp [Op.operands])]; exact hx, rfl, rfl⟩
  · have hfo : f ∈ (Op.call c).operands := by simp [Op.operands, Call.operands, hc]
    have hargs : c.args.toList.map ρ = c.args.toList.map ρ' := List.map_congr_left fun x hx => hρ x (by
      simp only [Op.operands, Call.operands]
      simp only [Array.mem_append, Array.mem_toList_iff] at hx ⊢
      simp [hx])
    exact .inr ⟨c, f, fid, rfl, hc, by rw [← hρ f hfo]; exact hf, by rw [← hargs]; exact hp⟩
theorem AcJ {orc : Option Tmp → Orc} {ops : Array Oper} {x : Oper} {st st1 : St} (he : S9 E ops x = false) (h : Em E orc ops x st = some st1) : st1.σ = st.σ ∧ ∃ v, st1.fr = Bl st.fr x.dst v := by
  unfold Em at h
  rw [Option.map_eq_some_iff] at h
  obtain ⟨⟨v, σ'⟩, hv, rfl⟩ := h
  exact ⟨Du he hv, v, rfl⟩
theorem Rs {orc : Option Tmp → Orc} {ops : Array Oper} {o : Oper} {v : Value} {σ' : Ab} : ∀ (l : List Nat) (st st1 : St), (∀ j ∈ l, ∀ x, ops[j]? = some x → S9 E ops x = false ∧ Adx ops o x = false) →
    B9 E orc ops l st = some st1 → Vi E (ev st1.fr) st1.σ o.op v σ' → Vi E (ev st.fr) st.σ o.op v σ'
  | [], st, st1, _, h, hp => by
    simp only [B9, Option.some.injEq] at h
    subst h; exact hp
  | i :: l, st, st1, hl, h, hp => by
    unfold B9 at h
    cases hi : ops[i]? with
    | none => simp [hi] at h
    | some x =>
      simp only [hi, Option.bind_eq_some_iff] at h
      obtain ⟨st2, h2, h3⟩ := h
      have hp2 := Rs l st2 st1 (fun j hj => hl j (List.mem_cons_of_mem _ hj)) h3 hp
      obtain ⟨e1, e2⟩ := hl i List.mem_cons_self x hi
      obtain ⟨s1, u, s2⟩ := AcJ e1 h2
      rw [s1] at hp2
      refine Ac4 (fun y hy => ?_) hp2
      rw [s2]
      refine Om fun d hd hyd => ?_
      subst hyd
      have := Ql (ops := ops) hy
      unfold Adx at e2
      rw [hd] at e2
      simp [this] at e2
def AdD (ks : List Nat) (l : List Oper) : Bool := ks.all fun t => l.all fun o => o.dst != some t
theorem K8 {fr : List AV} {d : Option Tmp} {v : AV} {t : Nat} (h : d ≠ some t) : ev (Bl fr d v) (.tmp t) = ev fr (.tmp t) :=
  Om fun e he h2 => by cases h2; exact h he
theorem V0 {orc : Option Tmp → Orc} {ops : Array Oper} {x : Oper} {st st1 : St} (h : Em E orc ops x st = some st1) : ∃ v, st1.fr = Bl st.fr x.dst v := by
  unfold Em at h
  rw [Option.map_eq_some_iff] at h
  obtain ⟨⟨v, σ'⟩, hv, rfl⟩ := h
  exact ⟨v, rfl⟩
theorem Abp {ks : List Nat} {l : List Oper} (hks : AdD ks l = true) {i : Nat} {x : Oper} (hx : l.toArray[i]? = some x) {t : Nat} (ht : t ∈ ks) : x.dst ≠ some t := by
  have h1 := List.all_eq_true.1 hks t ht
  have h2 := List.all_eq_true.1 h1 x (List.mem_of_getElem? (by simpa using hx))
  simpa using h2
theorem Qh {orc : Option Tmp → Orc} {ks : List Nat} {l : List Oper} (hks : AdD ks l = true) {t : Nat} (ht : t ∈ ks) : ∀ (js : List Nat) (st st1 : St), B9 E orc l.toArray js st = some st1 → ev st1.fr (.tmp t) = ev st.fr (.tmp t)
  | [], st, st1, h => by
    simp only [B9, Option.some.injEq] at h
    subst h; rfl
  | i :: js, st, st1, h => by
    unfold B9 at h
    cases hi : l.toArray[i]? with
    | none => simp [hi] at h
    | some x =>
      simp only [hi, Option.bind_eq_some_iff] at h
      obtain ⟨st2, h2, h3⟩ := h
      rw [Qh hks ht js st2 st1 h3]
      obtain ⟨v, e⟩ := V0 h2
      rw [e, K8 (Abp hks hi ht)]
theorem Afk (hE : E.Ok) {orc : Option Tmp → Orc} (hO : ∀ d, S3 E.toBase (orc d)) {ops : Array Oper} {T : List (List Nat)} (hc : K5 ops T = true) {k : Nat} (hm : Aal E ops T k = true) (hkp : Ahl E ops T k = true) {o : Oper} (hok : ops[k]? = some o) (hgo : o.guard = none)
    {v : Value} {σ' : Ab} {Q : Exit → Act → World → Prop} {l : List Oper} (hlo : l.toArray = ops) (ks : List Nat) (hks : AdD ks l = true) (fr0 : List AV) :
    ∀ (fuel : Nat) (l1 l2 : List Nat) (listed : Array Bool) (st stk : St) (a : Act) (w : World) (g : Gh), (l1 ++ k :: l2).length = fuel → (l1 ++ k :: l2).Pairwise (· < ·) → listed.size = ops.size →
      (∀ j, listed.getD j true = false ↔ j ∈ l1 ++ k :: l2) → (∀ i, i < ops.size → i ∉ l1 ++ k :: l2 → ∀ d ∈ F2 ops i, d ∉ l1 ++ k :: l2) →
      B9 E orc ops l1 st = some stk → Vi E (ev stk.fr) stk.σ o.op v σ' → Rel E w g st a → ((∀ t ∈ ks, ev st.fr (.tmp t) = ev fr0 (.tmp t)) ∧ st.fr.length = fr0.length) → (∀ a' fr' w' g', ((∀ t ∈ ks, ev fr' (.tmp t) = ev fr0 (.tmp t)) ∧ fr'.length = fr0.length) → Rel E w' g' ⟨fr', σ'⟩ a' → Evo E 0 w g w' g' → GLe g g' → Q (.panic (Abs v)) a' w') →
      wpAny E.P .any ops Q fuel listed a w := by
  have hksz : k < ops.size := (Array.getElem?_eq_some_iff.1 hok).1
  have hin : ∀ (rem : List Nat) (listed : Array Bool), listed.size = ops.size → (∀ j, listed.getD j true = false ↔ j ∈ rem) → ∀ j ∈ rem, j < ops.size := by
    intro rem listed hs hl j hj
    have := (hl j).2 hj
    by_cases e : j < listed.size
    · omega
    · simp [Array.getD, e] at this
  have hgd : ∀ (rem : List Nat) (listed : Array Bool), listed.size = ops.size → (∀ j, listed.getD j true = false ↔ j ∈ rem) → ∀ d, d < ops.size → (listed.getD d false = true ↔ d ∉ rem) := by
    intro rem listed hs hl d hd
    have h1 : listed.getD d false = listed.getD d true := by
      have : d < listed.size := by omega
      simp [Array.getD, this]
    rw [h1, ← hl d]
    cases listed.getD d true <;> simp
  have hrd : ∀ (rem : List Nat) (listed : Array Bool), listed.size = ops.size → (∀ j, listed.getD j true = false ↔ j ∈ rem) → ∀ i,
      (i ∈ Region.ready .any ops listed ↔ i ∈ rem ∧ ∀ d ∈ F2 ops i, d ∉ rem) := by
    intro rem listed hs hl i
    rw [mem_ready, hl i]
    constructor
    · rintro ⟨h1, o, ho, h2⟩
      refine ⟨h1, fun d hd => ?_⟩
      have hlt := Gi hc (hin rem listed hs hl i h1) hd
      have hds := Nat.lt_trans hlt (hin rem listed hs hl i h1)
      obtain ⟨e, he, hb, rfl⟩ := (Ha ho).1 hd
      exact (hgd rem listed hs hl _ hds).1 (h2 e he hb)
    · rintro ⟨h1, h2⟩
      have hi := hin rem listed hs hl i h1
      refine ⟨h1, ops[i], Array.getElem?_eq_getElem hi, fun e he hb => ?_⟩
      have hd : e.on ∈ F2 ops i := (Ha (Array.getElem?_eq_getElem hi)).2 ⟨e, he, hb, rfl⟩
      exact (hgd rem listed hs hl _ (Nat.lt_trans (Gi hc hi hd) hi)).2 (h2 _ hd)
  have hpan : ∀ j, j < ops.size → j ≠ k → (j < k → j ∈ T.getD k [] ∨ ∀ x, ops[j]? = some x → S9 E ops x = false ∧ Adx ops o x = false) ∧ (k < j → k ∈ T.getD j []) := by
    intro j hj hne
    unfold Ahl at hkp
    rw [hok] at hkp
    have := Bt hkp hj
    simp only [Bool.or_eq_true, beq_iff_eq, hne, false_or] at this
    constructor
    · intro hlt
      rw [if_pos hlt] at this
      simp only [Bool.or_eq_true, List.contains_iff_mem] at this
      rcases this with h | h
      · exact .inl h
      · refine .inr fun x hx => ?_
        rw [hx] at h
        simpa using h
    · intro hlt
      rw [if_neg (by omega)] at this
      simpa using this
  intro fuel
  induction fuel with
  | zero =>
    intro l1 l2 listed st stk a w g hf
    simp at hf
  | succ fuel ih =>
    intro l1 l2 listed st stk a w g hf hp hs hl hd hst hpa hr hag hq
    have hkmem : k ∈ l1 ++ k :: l2 := by simp
    have hnosub : ∀ i ∈ l1 ++ k :: l2, (∀ d ∈ F2 ops i, d ∉ l1 ++ k :: l2) → ∀ j ∈ T.getD i [], j ∉ l1 ++ k :: l2 := fun i hi hid j hj => Mp hc hd i (hin _ listed hs hl i hi) hid j hj
    refine ⟨fun h => ?_, fun i hi => ?_⟩
    · exfalso
      have : ∃ i, i ∈ Region.ready .any ops listed := by
        cases l1 with
        | nil =>
          refine ⟨k, (hrd _ listed hs hl k).2 ⟨by simp, fun d hdk hm => ?_⟩⟩
          have hlt := Gi hc hksz hdk
          rcases List.mem_cons.1 hm with e | hm
          · omega
          · have := List.rel_of_pairwise_cons (by simpa using hp) hm
            omega
        | cons i0 l1' =>
          have hi0 : i0 < ops.size := hin _ listed hs hl i0 (by simp)
          refine ⟨i0, (hrd _ listed hs hl i0).2 ⟨by simp, fun d hdk hm => ?_⟩⟩
          have hlt := Gi hc hi0 hdk
          rw [List.cons_append] at hm hp
          rcases List.mem_cons.1 hm with e | hm
          · omega
          · have := List.rel_of_pairwise_cons hp hm
            omega
      obtain ⟨i, hi⟩ := this
      rw [h] at hi
      cases hi
    · obtain ⟨hir, hid⟩ := (hrd _ listed hs hl i).1 hi
      have his := hin _ listed hs hl i hir
      have hp' := hp
      rw [List.pairwise_append] at hp'
      obtain ⟨p1, p2, p3⟩ := hp'
      rcases List.mem_append.1 hir with h1 | h1
      ·
        obtain ⟨l11, l12, rfl⟩ := List.append_of_mem h1
        have hik : i < k := p3 i h1 k (by simp)
        have hcm : ∀ j ∈ l11, ∀ x, ops[j]? = some x → Qk E ops x ops[i] = true := by
          intro j hj x hx
          have hji : j < i := by
            rw [List.pairwise_append] at p1
            exact p1.2.2 j hj i List.mem_cons_self
          have h1 := Bt (Bt hm hik) hji
          simp only [Bool.or_eq_true, List.contains_iff_mem] at h1
          rcases h1 with h1 | h1
          · exact (hnosub i hir hid j h1 (by simp [hj])).elim
          · simp only [hx, Array.getElem?_eq_getElem his] at h1
            exact h1
        obtain ⟨st1, q1, q2⟩ := K7 (Array.getElem?_eq_getElem his) l11 st hcm hst
        have hmem : ∀ j, j ∈ (l11 ++ l12) ++ k :: l2 ↔ j ∈ (l11 ++ i :: l12) ++ k :: l2 ∧ j ≠ i := by
          have hnd : ∀ j ∈ (l11 ++ l12) ++ k :: l2, j ≠ i := by
            intro j hj e
            subst e
            rw [List.pairwise_append] at p1
            obtain ⟨a1, a2, a3⟩ := p1
            rcases List.mem_append.1 hj with hj | hj
            · rcases List.mem_append.1 hj with hj | hj
              · have := a3 j hj j List.mem_cons_self; omega
              · have := List.rel_of_pairwise_cons a2 hj; omega
            · rcases List.mem_cons.1 hj with e | hj
              · omega
              · have := p3 j h1 j (List.mem_cons_of_mem _ hj); omega
          intro j
          constructor
          · intro hj
            refine ⟨?_, hnd j hj⟩
            simp only [List.mem_append, List.mem_cons] at hj ⊢
            rcases hj with (hj | hj) | hj
            · exact .inl (.inl hj)
            · exact .inl (.inr (.inr hj))
            · exact .inr hj
          · rintro ⟨hj, hne⟩
            simp only [List.mem_append, List.mem_cons] at hj ⊢
            rcases hj with (hj | hj | hj) | hj
            · exact .inl (.inl hj)
            · exact (hne hj).elim
            · exact .inl (.inr hj)
            · exact .inr hj
        refine Wu hE hO (Array.getElem?_eq_getElem his) q1 hr fun a1 w1 g1 hr1 he1 hg1 => ?_
        refine ih (l11 ++ l12) l2 (listed.setIfInBounds i true) st1 stk a1 w1 g1 ?_ ?_ ?_ ?_ ?_ q2 hpa hr1 ?_ ?_
        · simp at hf ⊢; omega
        · refine hp.sublist ?_
          exact List.Sublist.append_right (List.Sublist.append_left (List.sublist_cons_self i l12) l11) _
        · simp [hs]
        · intro j
          rw [hmem j, ← hl j]
          by_cases e : j = i
          · subst e
            have : j < listed.size := by omega
            simp [Array.getD, this]
          · rw [getD_set_ne true (fun h => e h.symm)]
            simp [e]
        · intro j hj hjn d hdk hdm
          have hd2 := ((hmem d).1 hdm).1
          by_cases e : j = i
          · subst e
            exact hid d hdk hd2
          · exact hd j hj (fun h => hjn ((hmem j).2 ⟨h, e⟩)) d hdk hd2
        · obtain ⟨v1, e1⟩ := V0 q1
          refine ⟨fun t ht => ?_, by rw [e1, AaY]; exact hag.2⟩
          have hx : l.toArray[i]? = some ops[i] := by rw [hlo]; exact Array.getElem?_eq_getElem his
          rw [e1, K8 (Abp hks hx ht)]
          exact hag.1 t ht
        · intro a' fr' w' g' ha' hr' he' hg'
          exact hq a' fr' w' g' ha' hr' (he1.trans he') (hg1.trans hg')
      · rcases List.mem_cons.1 h1 with rfl | h2
        ·
          have hlk : ∀ j ∈ l1, ∀ x, ops[j]? = some x → S9 E ops x = false ∧ Adx ops o x = false := by
            intro j hj
            have hjk : j < i := p3 j hj i (by simp)
            rcases (hpan j (by omega) (by omega)).1 hjk with h | h
            · exact (hnosub i hir hid j h (by simp [hj])).elim
            · exact h
          have hp0 := Rs l1 st stk hlk hst hpa
          unfold wpOp
          simp only [hok, Region.wanted, hgo, if_true]
          left
          exact AhN hp0 hr (fun w' g' hr' he hle => hq _ _ _ _ hag hr' he hle)
        · exfalso
          have hki : k < i := List.rel_of_pairwise_cons p2 h2
          exact hnosub i hir hid k ((hpan i his (by omega)).2 hki) hkmem
theorem Rz (hE : E.Ok) {orc : Option Tmp → Orc} (hO : Nu E.toBase orc) (hP : E.P.follows .mixedOrders = true) (ks : List Nat) {m n id k : Nat} {l : List Oper} (hks : AdD ks l = true) {o : Oper} (hk0 : l[k]? = some o) (hg : o.guard = none) (T : List (List Nat)) (hok1 : K5 l.toArray T = true) (hok2 : Aal E l.toArray T k = true) (hok3 : Ahl E l.toArray T k = true)
    {fr fr1 : Fr} {σ σ1 : Ab} {v : Value} {σ2 : Ab} {K : Dx}
    (h : E2 E orc true n l.toArray (l.take k) (fr, σ) = some (fr1, σ1)) (hp : Vi E (ev (Am n fr1)) σ1 o.op v σ2) (hk : ∀ fr', fr'.length = n → (ks.map fun t => ev fr' (.tmp t)) = (ks.map fun t => ev (Am n fr1) (.tmp t)) → K (.panic (Abs v)) ⟨fr', σ2⟩) : Run E m (.region id l.toArray true) ⟨Am n fr, σ⟩ K := by
  intro a w g hr Q hq
  refine wp_region_any hP ?_
  have hsm : SameMem w { w with drawn := w.drawn + 1 } := ⟨rfl, rfl, rfl, rfl⟩
  have hkl := (List.getElem?_eq_some_iff.1 hk0).1
  have hsp : List.range l.length = List.range k ++ k :: List.range' (k + 1) (l.length - (k + 1)) := by
    rw [List.range_eq_range', List.range_eq_range']
    have h1 : List.range' 0 l.length = List.range' 0 k ++ List.range' (0 + 1 * k) (l.length - k) := by
      rw [List.range'_append]; congr 1; omega
    rw [h1]
    congr 1
    have : l.length - k = (l.length - (k + 1)) + 1 := by omega
    rw [this, List.range'_succ]
    simp
  have hst : B9 E orc l.toArray (List.range k) ⟨Am n fr, σ⟩ = some ⟨Am n fr1, σ1⟩ := by
    have key : ∀ (q j : Nat) (fr fr' : Fr) (σ σ' : Ab), j + q ≤ l.length → E2 E orc true n l.toArray ((l.drop j).take q) (fr, σ) = some (fr', σ') →
        B9 E orc l.toArray (List.range' j q) ⟨Am n fr, σ⟩ = some ⟨Am n fr', σ'⟩ := by
      intro q
      induction q with
      | zero =>
        intro j fr fr' σ σ' _ h
        simp only [List.take_zero, E2, Option.some.injEq, Prod.mk.injEq] at h
        obtain ⟨rfl, rfl⟩ := h
        rfl
      | succ q ih =>
        intro j fr fr' σ σ' hle h
        have hj : j < l.length := by omega
        rw [List.drop_eq_getElem_cons hj, List.take_succ_cons] at h
        simp only [E2, Option.bind_eq_some_iff] at h
        obtain ⟨⟨fr2, σ2⟩, h1, h2⟩ := h
        rw [List.range'_succ]
        unfold B9
        have : l.toArray[j]? = some l[j] := by simp [hj]
        simp only [this, Th h1, Option.bind_some]
        exact ih (j + 1) _ _ _ _ (by omega) h2
    have := key k 0 fr fr1 σ σ1 (by omega) (by simpa using h)
    rw [List.range_eq_range']
    exact this
  refine Afk hE hO hok1 hok2 hok3 (by simpa using hk0) hg rfl ks hks (Am n fr) l.toArray.size (List.range k) (List.range' (k + 1) (l.length - (k + 1))) _ _ _ a _ g ?_ ?_ (by simp) ?_ ?_ hst hp (Pt hr hsm) ⟨fun _ _ => rfl, rfl⟩ ?_
  · rw [← hsp]; simp
  · rw [← hsp]; exact List.pairwise_lt_range
  · intro j
    rw [← hsp, List.mem_range]
    by_cases h : j < l.length <;> simp [Array.getD, h]
  · intro i hi hin
    rw [← hsp] at hin
    exact (hin (List.mem_range.2 (by simpa using hi))).elim
  · intro a' fr' w' g' ha' hr' he hg
    exact hq _ _ _ _ _ (hk fr' (ha'.2.trans (Jp _ _)) (List.map_congr_left fun t ht => (ha'.1 t ht).trans (Qh hks ht _ _ _ hst).symm)) hr' ((Evo.same hsm).trans (he.of_gle hg))
theorem Ad1 (hE : E.Ok) (hP : E.P.follows .mixedOrders = true) (ks : List Nat) {vals : List AV} {m n id : Nat} {l : List Oper} (hks : AdD ks l = true) (T : List (List Nat)) (hok1 : K5 l.toArray T = true) (k : Nat) (hok2 : Aal E l.toArray T k = true) (hok3 : Ahl E l.toArray T k = true) (o : Oper) {fr : Fr} {σ : Ab} {v : Value} {σ2 : Ab} {K : Dx} (hk0 : l[k]? = some o) (hg : o.guard = none)
    (h : ∃ orc pl, Nu E.toBase orc ∧ AcF E.toBase pl ∧ Aj6 pl n ks o (Aka E orc true n l k (fr, σ)) = some ((.val v, σ2), vals)) (hk : ∀ fr', fr'.length = n → (ks.map fun t => ev fr' (.tmp t)) = vals → K (.panic (Abs v)) ⟨fr', σ2⟩) : Run E m (.region id l.toArray true) ⟨Am n fr, σ⟩ K := by
  obtain ⟨orc, pl, hO, hPl, h⟩ := h
  cases hpre : Aka E orc true n l k (fr, σ) with
  | none => rw [hpre] at h; cases h
  | some s =>
    rw [hpre] at h
    exact Rz hE hO hP ks hks hk0 hg T hok1 hok2 hok3 hpre (V4 hPl h).1 (fun fr' hl' h' => hk fr' hl' (h'.trans (V4 hPl h).2.symm))
end Go.Rv
