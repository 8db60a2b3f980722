/-
  R31: functions that may panic: what a panic leaves behind, regions that stop at one, contracts.
-/
import Derived.Test.YtomjphpnpcgacaaR30
namespace Go.Rv
set_option linter.unusedVariables false
set_option linter.unusedSimpArgs false

variable {E : Env}

abbrev one1 (v : Value) : List PanicEntry := [{ v := v, recovered := false }]

/-- A function that panics with v; the blocks that it was handed are then as 'σ2' says. -/
structure Pan (B : Base) (f : FuncId) (args : List AV) (σ : Store) (v : Value) (σ2 : Store) : Prop where
  call : ∀ (F : Addr → Prop) (w : World) (g : Gh) (vs : Array Value), Mem (B.env F) w g σ → AllRep w (prot (B.env F) g) g vs.toList args →
    DoCall B.P f vs w (fun e w' => ∃ g', e = .panicked (one1 v) ∧ Mem (B.env F) w' g' σ2 ∧ Evo (B.env F) σ.length w g w' g')

/-- How a function ends. -/
inductive Out
  | ret (r : AV) (σ : Store)
  | pan (v : Value) (σ : Store)

def PCon (B : Base) (f : FuncId) (args : List AV) (σ : Store) : Out → Prop
  | .ret r σ' => Con B f args σ (fun r1 σ1 => r1 = r ∧ σ1 = σ')
  | .pan v σ' => Pan B f args σ v σ'

theorem PCon.to {B : Base} {f : FuncId} {args : List AV} {σ : Store} {o : Out} (h : PCon B f args σ o) {r : AV} {σ' : Store} (ho : o = .ret r σ') : Con B f args σ (fun r1 σ1 => r1 = r ∧ σ1 = σ') := by
  subst ho; exact h
theorem PCon.pan {B : Base} {f : FuncId} {args : List AV} {σ : Store} {o : Out} (h : PCon B f args σ o) {v : Value} {σ' : Store} (ho : o = .pan v σ') : Pan B f args σ v σ' := by
  subst ho; exact h

/-! ### Calls that panic -/
def WPan (E : Env) (f : FuncId) (args : List AV) (σ : Store) (v : Value) (σ' : Store) : Prop :=
  ∀ (w : World) (g : Gh) (vs : Array Value), Mem E w g σ → AllRep w (prot E g) g vs.toList args →
    DoCall E.P f vs w (fun e w' => ∃ g', e = .panicked (one1 v) ∧ Mem E w' g' σ' ∧ GLe g g' ∧ Evo E 0 w g w' g')

theorem wpan_of {f : FuncId} {args : List AV} {σ : Store} {v : Value} {σ' : Store} (h : WPan (E.toBase.env E.F) f args σ v σ') : WPan E f args σ v σ' := by
  refine fun w g vs hm ha => (h w g vs (mem_to hm) ha).mono ?_
  rintro e w' ⟨g', h1, h2, h3, h4⟩
  exact ⟨g', h1, mem_of h2, h3, evo_of h4⟩

theorem wpan_frame {B : Base} {f : FuncId} {args1 : List AV} {σ1 : Store} {v : Value} {σ2 : Store} (hcon : Pan B f args1 σ1 v σ2) {σ : Store} {args : List AV} (sel : List Nat) (hnd : sel.Nodup) (hσ : stUp sel σ sel σ1)
    (ha : wkA sel args args1) (hb : bufsClosed σ2 = true) (F : Addr → Prop) : WPan (B.env F) f args σ v (setL σ sel (σ2.map (renB sel σ.length))) := by
  refine fun w g vs hm har => ?_
  refine (frame_core (Fin := fun e w' pr g => e = .panicked (one1 v)) (fun F w g vs hm har => (hcon.call F w g vs hm har).mono ?_) sel hnd hσ ha hb F hm har).mono ?_
  · rintro e w' ⟨g', h1, h3, h4⟩
    exact ⟨g', h1, h3, h4⟩
  · rintro e w' ⟨g', pr1, g1, h1, _, h3, h4, h6⟩
    exact ⟨g', h1, h3, h4, h6⟩

theorem wpan_call {B : Base} {f : FuncId} {args1 : List AV} {σ1 : Store} {v : Value} {σ2 : Store} (hcon : Pan B f args1 σ1 v σ2) {σ : Store} {args : List AV} (sel : List Nat) (hnd : sel.Nodup) (hσ : stUp sel σ sel σ1)
    (ha : wkA sel args args1) (hb : bufsClosed σ2 = true) {σ' : Store} (hs : setL σ sel (σ2.map (renB sel σ.length)) = σ') : ∀ F, WPan (B.env F) f args σ v σ' := by
  subst hs
  exact wpan_frame hcon sel hnd hσ ha hb

/-- The operation panics here. -/
def PanAt (E : Env) (ρ : Operand → AV) (σ : Store) (op : Op) (v : Value) (σ' : Store) : Prop :=
  (∃ x t k n, op = .panic x ∧ ρ x = .iface t (.int k n) ∧ v = .iface t (.int k n) ∧ σ' = σ) ∨
  (∃ c f fid, op = .call c ∧ c.callee = .value f ∧ ρ f = .fn fid [] ∧ WPan E fid (c.args.toList.map ρ) σ v σ')

theorem pan_wp {o : Oper} {st : St} {v : Value} {σ' : Store} (h : PanAt E (ev st.fr) st.σ o.op v σ') {a : Act} {w : World} {g : Gh} (hr : Rel E w g st a) {next : Act → World → Prop} {Q : Exit → Act → World → Prop}
    (hk : ∀ w' g', Rel E w' g' ⟨st.fr, σ'⟩ a → Evo E 0 w g w' g' → GLe g g' → Q (.panic (one1 v)) a w') : o.wp E.P a w next Q := by
  rcases h with ⟨x, t, k, n, hop, hx, rfl, rfl⟩ | ⟨c, f, fid, hop, hc, hf, hp⟩
  · have hv := rep_ev hr x
    rw [hx] at hv
    have e : a.eval x = .iface t (.int k n) := by
      generalize a.eval x = u at hv
      cases hv with
      | iface _ _ v _ h2 => cases h2; rfl
    unfold Oper.wp
    have : (execOp a.eval o).run E.P w = .halt (.panic (.iface t (.int k n))) w := by
      unfold execOp
      rw [hop]
      simp only [e]
      rfl
    rw [this, Oper.upon_panic]
    exact hk w g hr (Evo.refl _ _ _ _) (GLe.refl _)
  · have hfv := rep_ev hr f
    rw [hf] at hfv
    obtain ⟨capv, hcv, hcr⟩ := callee_value hfv
    have hcapv : capv = #[] := by
      have := allRep_length hcr
      apply Array.ext'
      simpa using this
    subst hcapv
    refine docall_wp (B := E.toBase) hop hc hcv (hp w g (c.args.map a.eval ++ #[]) hr.mem ?_) ?_
    · rw [Array.append_empty, Array.toList_map]
      exact allRep_map _ _ (rep_ev hr) _
    · rintro e w' ⟨g', rfl, hm', hle, he⟩
      exact hk w' g' (rel_mem hr hm' hle he) he hle

theorem setSlot_len (fr : List AV) (d : Option Tmp) (v : AV) : (setSlot fr d v).length = fr.length := by cases d <;> simp [setSlot]
theorem asFr_len (n : Nat) (l : Fr) : (asFr n l).length = n := by simp [asFr]

/-! ### Regions that stop at a panic -/
theorem region_pan {E : Env} (hE : E.Ok) {orc : Option Tmp → Orc} (hO : Orcs E.toBase orc) {m n id k : Nat} {l : List Oper} {o : Oper} (hk0 : l[k]? = some o) (hg : o.guard = none) {fr fr1 : Fr} {σ σ1 : Store} {v : Value} {σ2 : Store} {K : Post}
    (h : stepsL E orc false n l.toArray (l.take k) (fr, σ) = some (fr1, σ1)) (hp : PanAt E (ev (asFr n fr1)) σ1 o.op v σ2) (hk : K (.panic (one1 v)) ⟨asFr n fr1, σ2⟩) : Run E m (.region id l.toArray false) ⟨asFr n fr, σ⟩ K := by
  refine run_region ?_
  have hkl := (List.getElem?_eq_some_iff.1 hk0).1
  have hl : l = l.take k ++ (o :: l.drop (k + 1)) := by
    conv => lhs; rw [← List.take_append_drop k l, List.drop_eq_getElem_cons hkl]
    rw [(List.getElem?_eq_some_iff.1 hk0).2]
  have := stepsL_then (E := E) (m := m) (K := K) (ops := l.toArray) (rest := o :: l.drop (k + 1)) hE hO (l.take k) fr σ fr1 σ1 h (by
    intro a w g hr Q hq
    simp only [wpList, Region.wanted, hg, if_true]
    left
    refine pan_wp (st := ⟨asFr n fr1, σ1⟩) hp hr (fun w' g' hr' he hle => ?_)
    exact hq _ _ _ _ _ hk hr' (he.of_gle hle))
  rw [← hl] at this
  exact this

/-- What is thrown. -/
def panVal : AV → Option AV
  | .iface t (.int k z) => some (.val (.iface t (.int k z)))
  | _ => none
theorem panVal_i64 {t : TypeId} {x : Int} : panVal (.iface t (i64 x)) = some (.val (.iface t (.int .i64 x))) := rfl

/-- What a panicking operation does, by the answers in a list. -/
noncomputable def panO (m : List (Nat × FuncId × List AV × Store × AV × Store)) (n : Nat) (ks : List Nat) (o : Oper) : Option (Fr × Store) → Option ((AV × Store) × List AV)
  | some (fr, σ) => match o.op with
    | .panic x => (panVal (evL n fr x)).map fun u => ((u, σ), ks.map fun t => evL n fr (.tmp t))
    | .call c => match c.callee with
      | .value f => match evL n fr f with
        | .fn fid [] => (orcX m o.dst fid (c.args.toList.map (evL n fr)) σ).map fun r => (r, ks.map fun t => evL n fr (.tmp t))
        | _ => none
      | _ => none
    | _ => none
  | none => none

def OrcsP (B : Base) : List (Nat × FuncId × List AV × Store × AV × Store) → Prop
  | [] => True
  | e :: l => (∀ v, e.2.2.2.2.1 = .val v → ∀ F, WPan (B.env F) e.2.1 e.2.2.1 e.2.2.2.1 v e.2.2.2.2.2) ∧ OrcsP B l

theorem orcP_ok {B : Base} : ∀ {l : List (Nat × FuncId × List AV × Store × AV × Store)}, OrcsP B l → ∀ d f a σ v σ', orcX l d f a σ = some (.val v, σ') → ∀ F, WPan (B.env F) f a σ v σ'
  | [], _, d, f, a, σ, v, σ', h => by cases h
  | e :: l, hl, d, f, a, σ, v, σ', h => by
    unfold orcX at h
    split at h
    · split at h
      · rename_i hfa
        obtain ⟨rfl, rfl, rfl⟩ := hfa
        obtain ⟨t, f, a, σ, r2, σ2⟩ := e
        cases h
        exact hl.1 v rfl
      · cases h
    · exact orcP_ok hl.2 d f a σ v σ' h

theorem panO_at {m : List (Nat × FuncId × List AV × Store × AV × Store)} (hm : OrcsP E.toBase m) {n : Nat} {ks : List Nat} {vals : List AV} {o : Oper} {fr : Fr} {σ : Store} {v : Value} {σ' : Store} (h : panO m n ks o (some (fr, σ)) = some ((.val v, σ'), vals)) :
    PanAt E (ev (asFr n fr)) σ o.op v σ' ∧ vals = ks.map fun t => ev (asFr n fr) (.tmp t) := by
  simp only [panO] at h
  rw [ev_asFr]
  split at h
  · rename_i x hop
    rw [Option.map_eq_some_iff] at h
    obtain ⟨u, h1, h2⟩ := h
    unfold panVal at h1
    split at h1
    · rename_i t k z hx
      simp only [Option.some.injEq] at h1
      subst h1
      simp only [Prod.mk.injEq, AV.val.injEq] at h2
      obtain ⟨⟨rfl, rfl⟩, rfl⟩ := h2
      exact ⟨.inl ⟨x, t, k, z, hop, hx, rfl, rfl⟩, rfl⟩
    · cases h1
  · rename_i c hop
    split at h
    · rename_i f hc
      split at h
      · rename_i fid hf
        rw [Option.map_eq_some_iff] at h
        obtain ⟨r, h, e⟩ := h
        simp only [Prod.mk.injEq] at e
        obtain ⟨rfl, rfl⟩ := e
        exact ⟨.inr ⟨c, f, fid, hop, hc, hf, wpan_of (orcP_ok hm _ _ _ _ _ _ h E.F)⟩, rfl⟩
      · cases h
    · cases h
  · cases h

def preL (E : Env) (orc : Option Tmp → Orc) (dr : Bool) (n : Nat) (l : List Oper) (k : Nat) (s : Fr × Store) : Option (Fr × Store) := stepsL E orc dr n l.toArray (l.take k) s
theorem preL_eq {orc : Option Tmp → Orc} {dr : Bool} {n : Nat} {l : List Oper} {k : Nat} {s : Fr × Store} : preL E orc dr n l k s = stepsO E orc dr n l.toArray (l.take k) (some s) := by
  rw [stepsO_eq]; rfl

theorem run_panT0 (hE : E.Ok) (ks : List Nat) {vals : List AV} {m n id : Nat} {l : List Oper} (k : Nat) (o : Oper) {fr : Fr} {σ : Store} {v : Value} {σ2 : Store} {K : Post} (hk0 : l[k]? = some o) (hg : o.guard = none)
    (h : ∃ orc pl, Orcs E.toBase orc ∧ OrcsP E.toBase pl ∧ panO pl n ks o (preL E orc false n l k (fr, σ)) = some ((.val v, σ2), vals)) (hk : ∀ fr', fr'.length = n → (ks.map fun t => ev fr' (.tmp t)) = vals → K (.panic (one1 v)) ⟨fr', σ2⟩) : Run E m (.region id l.toArray false) ⟨asFr n fr, σ⟩ K := by
  obtain ⟨orc, pl, hO, hP, h⟩ := h
  cases hpre : preL E orc false n l k (fr, σ) with
  | none => rw [hpre] at h; cases h
  | some s =>
    rw [hpre] at h
    exact region_pan hE hO hk0 hg hpre (panO_at hP h).1 (hk _ (asFr_len _ _) (panO_at hP h).2.symm)

theorem run_panT (hE : E.Ok) (ks : List Nat) {vals : List AV} {m n id : Nat} {l : List Oper} (k : Nat) (o : Oper) {fr : Fr} {σ : Store} {v : Value} {σ2 : Store} {K : Post} (hk0 : l[k]? = some o) (hg : o.guard = none)
    (h : ∃ orc pl, Orcs E.toBase orc ∧ OrcsP E.toBase pl ∧ panO pl n ks o (preL E orc false n l k (fr, σ)) = some ((.val v, σ2), vals)) {y : Code} (hk : ∀ fr', fr'.length = n → (ks.map fun t => ev fr' (.tmp t)) = vals → K (.panic (one1 v)) ⟨fr', σ2⟩) : Run E m (.seq (.region id l.toArray false) y) ⟨asFr n fr, σ⟩ K :=
  run_seq (run_panT0 hE ks k o hk0 hg h hk)

/-! ### The same, in a region that draws its order -/
def dstIn (ops : Array Oper) (o x : Oper) : Bool := match x.dst with
  | some d => (o.looksAt ops).contains d
  | none => false

/-- All that comes before the call, but not by an arrow, only looks; all that comes after it comes after it by arrows. -/
def okCommN (E : Env) (ops : Array Oper) (T : List (List Nat)) (k : Nat) : Bool :=
  (List.range k).all fun i => (List.range i).all fun j => (T.getD i []).contains j || (match ops[j]?, ops[i]? with
    | some x, some y => commB E ops x y
    | _, _ => false)

def okPan (E : Env) (ops : Array Oper) (T : List (List Nat)) (k : Nat) : Bool := match ops[k]? with
  | some o => (List.range ops.size).all fun j => j == k || (if j < k then (T.getD k []).contains j || (match ops[j]? with
      | some x => !effB E ops x && !dstIn ops o x
      | none => false) else (T.getD j []).contains k)
  | none => false

theorem panAt_pull {ρ ρ' : Operand → AV} {σ : Store} {op : Op} {v : Value} {σ' : Store} (hρ : ∀ x ∈ op.operands, ρ x = ρ' x) (h : PanAt E ρ σ op v σ') : PanAt E ρ' σ op v σ' := by
  rcases h with ⟨x, t, k, n, rfl, hx, rfl, rfl⟩ | ⟨c, f, fid, rfl, hc, hf, hp⟩
  · exact .inl ⟨x, t, k, n, rfl, by rw [← hρ x (by simp [Op.operands])]; exact hx, rfl, rfl⟩
  · have hfo : f ∈ (Op.call c).operands := by simp [Op.operands, Call.operands, hc]
    have hargs : c.args.toList.map ρ = c.args.toList.map ρ' := List.map_congr_left fun x hx => hρ x (by
      simp only [Op.operands, Call.operands]
      simp only [Array.mem_append, Array.mem_toList_iff] at hx ⊢
      simp [hx])
    exact .inr ⟨c, f, fid, rfl, hc, by rw [← hρ f hfo]; exact hf, by rw [← hargs]; exact hp⟩

theorem stepV_look {orc : Option Tmp → Orc} {ops : Array Oper} {x : Oper} {st st1 : St} (he : effB E ops x = false) (h : stepV E orc ops x st = some st1) : st1.σ = st.σ ∧ ∃ v, st1.fr = setSlot st.fr x.dst v := by
  unfold stepV at h
  rw [Option.map_eq_some_iff] at h
  obtain ⟨⟨v, σ'⟩, hv, rfl⟩ := h
  exact ⟨valA_noeff he hv, v, rfl⟩

theorem stepsV_pull {orc : Option Tmp → Orc} {ops : Array Oper} {o : Oper} {v : Value} {σ' : Store} : ∀ (l : List Nat) (st st1 : St), (∀ j ∈ l, ∀ x, ops[j]? = some x → effB E ops x = false ∧ dstIn ops o x = false) →
    stepsV E orc ops l st = some st1 → PanAt E (ev st1.fr) st1.σ o.op v σ' → PanAt E (ev st.fr) st.σ o.op v σ'
  | [], st, st1, _, h, hp => by
    simp only [stepsV, Option.some.injEq] at h
    subst h; exact hp
  | i :: l, st, st1, hl, h, hp => by
    unfold stepsV at h
    cases hi : ops[i]? with
    | none => simp [hi] at h
    | some x =>
      simp only [hi, Option.bind_eq_some_iff] at h
      obtain ⟨st2, h2, h3⟩ := h
      have hp2 := stepsV_pull l st2 st1 (fun j hj => hl j (List.mem_cons_of_mem _ hj)) h3 hp
      obtain ⟨e1, e2⟩ := hl i List.mem_cons_self x hi
      obtain ⟨s1, u, s2⟩ := stepV_look e1 h2
      rw [s1] at hp2
      refine panAt_pull (fun y hy => ?_) hp2
      rw [s2]
      refine ev_setSlot fun d hd hyd => ?_
      subst hyd
      have := mem_looksAt (ops := ops) hy
      unfold dstIn at e2
      rw [hd] at e2
      simp [this] at e2

/-- Slots that no operation of the region writes. -/
def keepB (ks : List Nat) (l : List Oper) : Bool := ks.all fun t => l.all fun o => o.dst != some t

theorem setSlot_keep {fr : List AV} {d : Option Tmp} {v : AV} {t : Nat} (h : d ≠ some t) : ev (setSlot fr d v) (.tmp t) = ev fr (.tmp t) :=
  ev_setSlot fun e he h2 => by cases h2; exact h he

theorem stepV_fr {orc : Option Tmp → Orc} {ops : Array Oper} {x : Oper} {st st1 : St} (h : stepV E orc ops x st = some st1) : ∃ v, st1.fr = setSlot st.fr x.dst v := by
  unfold stepV at h
  rw [Option.map_eq_some_iff] at h
  obtain ⟨⟨v, σ'⟩, hv, rfl⟩ := h
  exact ⟨v, rfl⟩

theorem keepB_at {ks : List Nat} {l : List Oper} (hks : keepB ks l = true) {i : Nat} {x : Oper} (hx : l.toArray[i]? = some x) {t : Nat} (ht : t ∈ ks) : x.dst ≠ some t := by
  have h1 := List.all_eq_true.1 hks t ht
  have h2 := List.all_eq_true.1 h1 x (List.mem_of_getElem? (by simpa using hx))
  simpa using h2

theorem stepsV_keep {orc : Option Tmp → Orc} {ks : List Nat} {l : List Oper} (hks : keepB ks l = true) {t : Nat} (ht : t ∈ ks) : ∀ (js : List Nat) (st st1 : St), stepsV E orc l.toArray js st = some st1 → ev st1.fr (.tmp t) = ev st.fr (.tmp t)
  | [], st, st1, h => by
    simp only [stepsV, Option.some.injEq] at h
    subst h; rfl
  | i :: js, st, st1, h => by
    unfold stepsV at h
    cases hi : l.toArray[i]? with
    | none => simp [hi] at h
    | some x =>
      simp only [hi, Option.bind_eq_some_iff] at h
      obtain ⟨st2, h2, h3⟩ := h
      rw [stepsV_keep hks ht js st2 st1 h3]
      obtain ⟨v, e⟩ := stepV_fr h2
      rw [e, setSlot_keep (keepB_at hks hi ht)]

theorem wpAny_pan (hE : E.Ok) {orc : Option Tmp → Orc} (hO : ∀ d, OrcOk E.toBase (orc d)) {ops : Array Oper} {T : List (List Nat)} (hc : okClo ops T = true) {k : Nat} (hm : okCommN E ops T k = true) (hkp : okPan E ops T k = true) {o : Oper} (hok : ops[k]? = some o) (hgo : o.guard = none)
    {v : Value} {σ' : Store} {Q : Exit → Act → World → Prop} {l : List Oper} (hlo : l.toArray = ops) (ks : List Nat) (hks : keepB ks l = true) (fr0 : List AV) :
    ∀ (fuel : Nat) (l1 l2 : List Nat) (listed : Array Bool) (st stk : St) (a : Act) (w : World) (g : Gh), (l1 ++ k :: l2).length = fuel → (l1 ++ k :: l2).Pairwise (· < ·) → listed.size = ops.size →
      (∀ j, listed.getD j true = false ↔ j ∈ l1 ++ k :: l2) → (∀ i, i < ops.size → i ∉ l1 ++ k :: l2 → ∀ d ∈ depsOf ops i, d ∉ l1 ++ k :: l2) →
      stepsV E orc ops l1 st = some stk → PanAt E (ev stk.fr) stk.σ o.op v σ' → Rel E w g st a → ((∀ t ∈ ks, ev st.fr (.tmp t) = ev fr0 (.tmp t)) ∧ st.fr.length = fr0.length) → (∀ a' fr' w' g', ((∀ t ∈ ks, ev fr' (.tmp t) = ev fr0 (.tmp t)) ∧ fr'.length = fr0.length) → Rel E w' g' ⟨fr', σ'⟩ a' → Evo E 0 w g w' g' → GLe g g' → Q (.panic (one1 v)) a' w') →
      wpAny E.P .any ops Q fuel listed a w := by
  have hksz : k < ops.size := (Array.getElem?_eq_some_iff.1 hok).1
  have hin : ∀ (rem : List Nat) (listed : Array Bool), listed.size = ops.size → (∀ j, listed.getD j true = false ↔ j ∈ rem) → ∀ j ∈ rem, j < ops.size := by
    intro rem listed hs hl j hj
    have := (hl j).2 hj
    by_cases e : j < listed.size
    · omega
    · simp [Array.getD, e] at this
  have hgd : ∀ (rem : List Nat) (listed : Array Bool), listed.size = ops.size → (∀ j, listed.getD j true = false ↔ j ∈ rem) → ∀ d, d < ops.size → (listed.getD d false = true ↔ d ∉ rem) := by
    intro rem listed hs hl d hd
    have h1 : listed.getD d false = listed.getD d true := by
      have : d < listed.size := by omega
      simp [Array.getD, this]
    rw [h1, ← hl d]
    cases listed.getD d true <;> simp
  have hrd : ∀ (rem : List Nat) (listed : Array Bool), listed.size = ops.size → (∀ j, listed.getD j true = false ↔ j ∈ rem) → ∀ i,
      (i ∈ Region.ready .any ops listed ↔ i ∈ rem ∧ ∀ d ∈ depsOf ops i, d ∉ rem) := by
    intro rem listed hs hl i
    rw [mem_ready, hl i]
    constructor
    · rintro ⟨h1, o, ho, h2⟩
      refine ⟨h1, fun d hd => ?_⟩
      have hlt := okClo_lt hc (hin rem listed hs hl i h1) hd
      have hds := Nat.lt_trans hlt (hin rem listed hs hl i h1)
      obtain ⟨e, he, hb, rfl⟩ := (mem_depsOf ho).1 hd
      exact (hgd rem listed hs hl _ hds).1 (h2 e he hb)
    · rintro ⟨h1, h2⟩
      have hi := hin rem listed hs hl i h1
      refine ⟨h1, ops[i], Array.getElem?_eq_getElem hi, fun e he hb => ?_⟩
      have hd : e.on ∈ depsOf ops i := (mem_depsOf (Array.getElem?_eq_getElem hi)).2 ⟨e, he, hb, rfl⟩
      exact (hgd rem listed hs hl _ (Nat.lt_trans (okClo_lt hc hi hd) hi)).2 (h2 _ hd)
  have hpan : ∀ j, j < ops.size → j ≠ k → (j < k → j ∈ T.getD k [] ∨ ∀ x, ops[j]? = some x → effB E ops x = false ∧ dstIn ops o x = false) ∧ (k < j → k ∈ T.getD j []) := by
    intro j hj hne
    unfold okPan at hkp
    rw [hok] at hkp
    have := getD_range_all hkp hj
    simp only [Bool.or_eq_true, beq_iff_eq, hne, false_or] at this
    constructor
    · intro hlt
      rw [if_pos hlt] at this
      simp only [Bool.or_eq_true, List.contains_iff_mem] at this
      rcases this with h | h
      · exact .inl h
      · refine .inr fun x hx => ?_
        rw [hx] at h
        simpa using h
    · intro hlt
      rw [if_neg (by omega)] at this
      simpa using this
  intro fuel
  induction fuel with
  | zero =>
    intro l1 l2 listed st stk a w g hf
    simp at hf
  | succ fuel ih =>
    intro l1 l2 listed st stk a w g hf hp hs hl hd hst hpa hr hag hq
    have hkmem : k ∈ l1 ++ k :: l2 := by simp
    have hnosub : ∀ i ∈ l1 ++ k :: l2, (∀ d ∈ depsOf ops i, d ∉ l1 ++ k :: l2) → ∀ j ∈ T.getD i [], j ∉ l1 ++ k :: l2 := fun i hi hid j hj => okClo_below hc hd i (hin _ listed hs hl i hi) hid j hj
    refine ⟨fun h => ?_, fun i hi => ?_⟩
    · exfalso
      -- the least that remains is ready
      have : ∃ i, i ∈ Region.ready .any ops listed := by
        cases l1 with
        | nil =>
          refine ⟨k, (hrd _ listed hs hl k).2 ⟨by simp, fun d hdk hm => ?_⟩⟩
          have hlt := okClo_lt hc hksz hdk
          rcases List.mem_cons.1 hm with e | hm
          · omega
          · have := List.rel_of_pairwise_cons (by simpa using hp) hm
            omega
        | cons i0 l1' =>
          have hi0 : i0 < ops.size := hin _ listed hs hl i0 (by simp)
          refine ⟨i0, (hrd _ listed hs hl i0).2 ⟨by simp, fun d hdk hm => ?_⟩⟩
          have hlt := okClo_lt hc hi0 hdk
          rw [List.cons_append] at hm hp
          rcases List.mem_cons.1 hm with e | hm
          · omega
          · have := List.rel_of_pairwise_cons hp hm
            omega
      obtain ⟨i, hi⟩ := this
      rw [h] at hi
      cases hi
    · obtain ⟨hir, hid⟩ := (hrd _ listed hs hl i).1 hi
      have his := hin _ listed hs hl i hir
      have hp' := hp
      rw [List.pairwise_append] at hp'
      obtain ⟨p1, p2, p3⟩ := hp'
      rcases List.mem_append.1 hir with h1 | h1
      · -- one of those before the call
        obtain ⟨l11, l12, rfl⟩ := List.append_of_mem h1
        have hik : i < k := p3 i h1 k (by simp)
        have hcm : ∀ j ∈ l11, ∀ x, ops[j]? = some x → commB E ops x ops[i] = true := by
          intro j hj x hx
          have hji : j < i := by
            rw [List.pairwise_append] at p1
            exact p1.2.2 j hj i List.mem_cons_self
          have h1 := getD_range_all (getD_range_all hm hik) hji
          simp only [Bool.or_eq_true, List.contains_iff_mem] at h1
          rcases h1 with h1 | h1
          · exact (hnosub i hir hid j h1 (by simp [hj])).elim
          · simp only [hx, Array.getElem?_eq_getElem his] at h1
            exact h1
        obtain ⟨st1, q1, q2⟩ := stepsV_front (Array.getElem?_eq_getElem his) l11 st hcm hst
        have hmem : ∀ j, j ∈ (l11 ++ l12) ++ k :: l2 ↔ j ∈ (l11 ++ i :: l12) ++ k :: l2 ∧ j ≠ i := by
          have hnd : ∀ j ∈ (l11 ++ l12) ++ k :: l2, j ≠ i := by
            intro j hj e
            subst e
            rw [List.pairwise_append] at p1
            obtain ⟨a1, a2, a3⟩ := p1
            rcases List.mem_append.1 hj with hj | hj
            · rcases List.mem_append.1 hj with hj | hj
              · have := a3 j hj j List.mem_cons_self; omega
              · have := List.rel_of_pairwise_cons a2 hj; omega
            · rcases List.mem_cons.1 hj with e | hj
              · omega
              · have := p3 j h1 j (List.mem_cons_of_mem _ hj); omega
          intro j
          constructor
          · intro hj
            refine ⟨?_, hnd j hj⟩
            simp only [List.mem_append, List.mem_cons] at hj ⊢
            rcases hj with (hj | hj) | hj
            · exact .inl (.inl hj)
            · exact .inl (.inr (.inr hj))
            · exact .inr hj
          · rintro ⟨hj, hne⟩
            simp only [List.mem_append, List.mem_cons] at hj ⊢
            rcases hj with (hj | hj | hj) | hj
            · exact .inl (.inl hj)
            · exact (hne hj).elim
            · exact .inl (.inr hj)
            · exact .inr hj
        refine stepV_wp hE hO (Array.getElem?_eq_getElem his) q1 hr fun a1 w1 g1 hr1 he1 hg1 => ?_
        refine ih (l11 ++ l12) l2 (listed.setIfInBounds i true) st1 stk a1 w1 g1 ?_ ?_ ?_ ?_ ?_ q2 hpa hr1 ?_ ?_
        · simp at hf ⊢; omega
        · refine hp.sublist ?_
          exact List.Sublist.append_right (List.Sublist.append_left (List.sublist_cons_self i l12) l11) _
        · simp [hs]
        · intro j
          rw [hmem j, ← hl j]
          by_cases e : j = i
          · subst e
            have : j < listed.size := by omega
            simp [Array.getD, this]
          · rw [getD_set_ne true (fun h => e h.symm)]
            simp [e]
        · intro j hj hjn d hdk hdm
          have hd2 := ((hmem d).1 hdm).1
          by_cases e : j = i
          · subst e
            exact hid d hdk hd2
          · exact hd j hj (fun h => hjn ((hmem j).2 ⟨h, e⟩)) d hdk hd2
        · obtain ⟨v1, e1⟩ := stepV_fr q1
          refine ⟨fun t ht => ?_, by rw [e1, setSlot_len]; exact hag.2⟩
          have hx : l.toArray[i]? = some ops[i] := by rw [hlo]; exact Array.getElem?_eq_getElem his
          rw [e1, setSlot_keep (keepB_at hks hx ht)]
          exact hag.1 t ht
        · intro a' fr' w' g' ha' hr' he' hg'
          exact hq a' fr' w' g' ha' hr' (he1.trans he') (hg1.trans hg')
      · rcases List.mem_cons.1 h1 with rfl | h2
        · -- the call
          have hlk : ∀ j ∈ l1, ∀ x, ops[j]? = some x → effB E ops x = false ∧ dstIn ops o x = false := by
            intro j hj
            have hjk : j < i := p3 j hj i (by simp)
            rcases (hpan j (by omega) (by omega)).1 hjk with h | h
            · exact (hnosub i hir hid j h (by simp [hj])).elim
            · exact h
          have hp0 := stepsV_pull l1 st stk hlk hst hpa
          unfold wpOp
          simp only [hok, Region.wanted, hgo, if_true]
          left
          exact pan_wp hp0 hr (fun w' g' hr' he hle => hq _ _ _ _ hag hr' he hle)
        · exfalso
          have hki : k < i := List.rel_of_pairwise_cons p2 h2
          exact hnosub i hir hid k ((hpan i his (by omega)).2 hki) hkmem

theorem region_draw_pan (hE : E.Ok) {orc : Option Tmp → Orc} (hO : Orcs E.toBase orc) (hP : E.P.follows .mixedOrders = true) (ks : List Nat) {m n id k : Nat} {l : List Oper} (hks : keepB ks l = true) {o : Oper} (hk0 : l[k]? = some o) (hg : o.guard = none) (T : List (List Nat)) (hok1 : okClo l.toArray T = true) (hok2 : okCommN E l.toArray T k = true) (hok3 : okPan E l.toArray T k = true)
    {fr fr1 : Fr} {σ σ1 : Store} {v : Value} {σ2 : Store} {K : Post}
    (h : stepsL E orc true n l.toArray (l.take k) (fr, σ) = some (fr1, σ1)) (hp : PanAt E (ev (asFr n fr1)) σ1 o.op v σ2) (hk : ∀ fr', fr'.length = n → (ks.map fun t => ev fr' (.tmp t)) = (ks.map fun t => ev (asFr n fr1) (.tmp t)) → K (.panic (one1 v)) ⟨fr', σ2⟩) : Run E m (.region id l.toArray true) ⟨asFr n fr, σ⟩ K := by
  intro a w g hr Q hq
  refine wp_region_any hP ?_
  have hsm : SameMem w { w with drawn := w.drawn + 1 } := ⟨rfl, rfl, rfl, rfl⟩
  have hkl := (List.getElem?_eq_some_iff.1 hk0).1
  have hsp : List.range l.length = List.range k ++ k :: List.range' (k + 1) (l.length - (k + 1)) := by
    rw [List.range_eq_range', List.range_eq_range']
    have h1 : List.range' 0 l.length = List.range' 0 k ++ List.range' (0 + 1 * k) (l.length - k) := by
      rw [List.range'_append]; congr 1; omega
    rw [h1]
    congr 1
    have : l.length - k = (l.length - (k + 1)) + 1 := by omega
    rw [this, List.range'_succ]
    simp
  have hst : stepsV E orc l.toArray (List.range k) ⟨asFr n fr, σ⟩ = some ⟨asFr n fr1, σ1⟩ := by
    have key : ∀ (q j : Nat) (fr fr' : Fr) (σ σ' : Store), j + q ≤ l.length → stepsL E orc true n l.toArray ((l.drop j).take q) (fr, σ) = some (fr', σ') →
        stepsV E orc l.toArray (List.range' j q) ⟨asFr n fr, σ⟩ = some ⟨asFr n fr', σ'⟩ := by
      intro q
      induction q with
      | zero =>
        intro j fr fr' σ σ' _ h
        simp only [List.take_zero, stepsL, Option.some.injEq, Prod.mk.injEq] at h
        obtain ⟨rfl, rfl⟩ := h
        rfl
      | succ q ih =>
        intro j fr fr' σ σ' hle h
        have hj : j < l.length := by omega
        rw [List.drop_eq_getElem_cons hj, List.take_succ_cons] at h
        simp only [stepsL, Option.bind_eq_some_iff] at h
        obtain ⟨⟨fr2, σ2⟩, h1, h2⟩ := h
        rw [List.range'_succ]
        unfold stepsV
        have : l.toArray[j]? = some l[j] := by simp [hj]
        simp only [this, stepL_draw h1, Option.bind_some]
        exact ih (j + 1) _ _ _ _ (by omega) h2
    have := key k 0 fr fr1 σ σ1 (by omega) (by simpa using h)
    rw [List.range_eq_range']
    exact this
  refine wpAny_pan hE hO hok1 hok2 hok3 (by simpa using hk0) hg rfl ks hks (asFr n fr) l.toArray.size (List.range k) (List.range' (k + 1) (l.length - (k + 1))) _ _ _ a _ g ?_ ?_ (by simp) ?_ ?_ hst hp (rel_same hr hsm) ⟨fun _ _ => rfl, rfl⟩ ?_
  · rw [← hsp]; simp
  · rw [← hsp]; exact List.pairwise_lt_range
  · intro j
    rw [← hsp, List.mem_range]
    by_cases h : j < l.length <;> simp [Array.getD, h]
  · intro i hi hin
    rw [← hsp] at hin
    exact (hin (List.mem_range.2 (by simpa using hi))).elim
  · intro a' fr' w' g' ha' hr' he hg
    exact hq _ _ _ _ _ (hk fr' (ha'.2.trans (asFr_len _ _)) (List.map_congr_left fun t ht => (ha'.1 t ht).trans (stepsV_keep hks ht _ _ _ hst).symm)) hr' ((Evo.same hsm).trans (he.of_gle hg))

theorem run_panD0 (hE : E.Ok) (hP : E.P.follows .mixedOrders = true) (ks : List Nat) {vals : List AV} {m n id : Nat} {l : List Oper} (hks : keepB ks l = true) (T : List (List Nat)) (hok1 : okClo l.toArray T = true) (k : Nat) (hok2 : okCommN E l.toArray T k = true) (hok3 : okPan E l.toArray T k = true) (o : Oper) {fr : Fr} {σ : Store} {v : Value} {σ2 : Store} {K : Post} (hk0 : l[k]? = some o) (hg : o.guard = none)
    (h : ∃ orc pl, Orcs E.toBase orc ∧ OrcsP E.toBase pl ∧ panO pl n ks o (preL E orc true n l k (fr, σ)) = some ((.val v, σ2), vals)) (hk : ∀ fr', fr'.length = n → (ks.map fun t => ev fr' (.tmp t)) = vals → K (.panic (one1 v)) ⟨fr', σ2⟩) : Run E m (.region id l.toArray true) ⟨asFr n fr, σ⟩ K := by
  obtain ⟨orc, pl, hO, hPl, h⟩ := h
  cases hpre : preL E orc true n l k (fr, σ) with
  | none => rw [hpre] at h; cases h
  | some s =>
    rw [hpre] at h
    exact region_draw_pan hE hO hP ks hks hk0 hg T hok1 hok2 hok3 hpre (panO_at hPl h).1 (fun fr' hl' h' => hk fr' hl' (h'.trans (panO_at hPl h).2.symm))
theorem run_panD (hE : E.Ok) (hP : E.P.follows .mixedOrders = true) (ks : List Nat) {vals : List AV} {m n id : Nat} {l : List Oper} (hks : keepB ks l = true) (T : List (List Nat)) (hok1 : okClo l.toArray T = true) (k : Nat) (hok2 : okCommN E l.toArray T k = true) (hok3 : okPan E l.toArray T k = true) (o : Oper) {fr : Fr} {σ : Store} {v : Value} {σ2 : Store} {K : Post} (hk0 : l[k]? = some o) (hg : o.guard = none)
    (h : ∃ orc pl, Orcs E.toBase orc ∧ OrcsP E.toBase pl ∧ panO pl n ks o (preL E orc true n l k (fr, σ)) = some ((.val v, σ2), vals)) {y : Code} (hk : ∀ fr', fr'.length = n → (ks.map fun t => ev fr' (.tmp t)) = vals → K (.panic (one1 v)) ⟨fr', σ2⟩) : Run E m (.seq (.region id l.toArray true) y) ⟨asFr n fr, σ⟩ K :=
  run_seq (run_panD0 hE hP ks hks T hok1 k hok2 hok3 o hk0 hg h hk)

end Go.Rv
