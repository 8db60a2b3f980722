/-
  R35: a function that puts off a closure which catches what the function's body throws.
-/
import Derived.Test.YtomjphpnpcgacaaR34
import Derived.Recover
namespace Go.Rv
set_option linter.unusedVariables false
set_option linter.unusedSimpArgs false

/-! ### Steps of a closure that recovers -/
section
variable {P : Program} {ops : Array Oper} {Q : Exit → Act → List Frame → World → Prop}

theorem opsS_val {i : Nat} {rest : List Nat} {a : Act} {cs : List Frame} {w w' : World} (o : Oper) (v : Value) (a' : Act) (ho : ops[i]? = some o) (hg : o.guard = none) (hr : (execOp a.eval o).run P w = .ok (.value v) w') (ha : a.put o.dst v = a')
    (h : wpOpsS P ops Q rest a' cs w') : wpOpsS P ops Q (i :: rest) a cs w := by
  subst ha
  simp only [wpOpsS, ho, Region.wanted, hg, if_true, hr]
  exact h

theorem opsS_caught {i : Nat} {rest : List Nat} {a : Act} {c : Frame} {cs : List Frame} {w : World} (o : Oper) (v : Value) (older : List PanicEntry) (a' : Act) (ho : ops[i]? = some o) (hg : o.guard = none) (hr : (execOp a.eval o).run P w = .ok .recover w)
    (hc : c.mode = .panicking ({ v := v, recovered := false } :: older)) (ha : a.put o.dst v = a')
    (h : wpOpsS P ops Q rest a' ({ c with mode := .panicking ({ v := v, recovered := true } :: older) } :: cs) w) : wpOpsS P ops Q (i :: rest) a (c :: cs) w := by
  subst ha
  have e : recoverD (c :: cs) = some (v, { c with mode := .panicking ({ v := v, recovered := true } :: older) } :: cs) := by
    unfold recoverD
    simp only [hc]
  simp only [wpOpsS, ho, Region.wanted, hg, if_true, hr, e]
  exact h

theorem opsS_idle {i : Nat} {rest : List Nat} {a : Act} {c : Frame} {cs : List Frame} {w : World} (o : Oper) (a' : Act) (ho : ops[i]? = some o) (hg : o.guard = none) (hr : (execOp a.eval o).run P w = .ok .recover w)
    (hc : c.mode = .returning) (ha : a.put o.dst .nilIface = a')
    (h : wpOpsS P ops Q rest a' ({ c with mode := .returning } :: cs) w) : wpOpsS P ops Q (i :: rest) a (c :: cs) w := by
  subst ha
  have hcc : { c with mode := .returning } = c := by cases c; simp_all
  rw [hcc] at h
  have e : recoverD (c :: cs) = none := by
    unfold recoverD
    simp only [hc]
  simp only [wpOpsS, ho, Region.wanted, hg, if_true, hr, e]
  exact h

theorem opsS_nil {a : Act} {cs : List Frame} {w : World} (h : Q .normal a cs w) : wpOpsS P ops Q [] a cs w := h
end

theorem run_assert_hit {E : Env} (hE : E.Ok) {t : TypeId} {k : IntKind} {sz by' : Nat} {z : List AV} (ht : E.tab t = some ⟨.int k, sz, by', z⟩) (v : Value) (xt : TypeId) (w : World) :
    (Instr.typeAssert (.iface t v) xt t true).run E.P w = .ok (.tuple #[v, .bool true]) w := by
  unfold Instr.typeAssert
  simp only [Sem.run_bind, run_und hE ht, Result.andThen_ok, if_true, Sem.run_pure]

theorem run_assert_nil {E : Env} (hE : E.Ok) {t : TypeId} {k : IntKind} {sz by' : Nat} {z : List AV} (ht : E.tab t = some ⟨.int k, sz, by', z⟩) (xt : TypeId) (w : World) :
    ∃ u, (Instr.typeAssert .nilIface xt t true).run E.P w = .ok (.tuple #[u, .bool false]) w := by
  obtain ⟨u, hu, _⟩ := run_zero hE ht w
  refine ⟨u, ?_⟩
  unfold Instr.typeAssert
  simp only [Sem.run_bind, run_und hE ht, Result.andThen_ok, if_true, Sem.run_pure, hu]

/-- Slots, one by one. -/
theorem slots_of {w : World} {pr : Addr → Prop} {g : Gh} {n : Nat} {l : Fr} {tmps : Array Value} (h : ∀ p ∈ l, Rep w pr g (tmps.getD p.1 undef) p.2) : ∀ (t : Nat) (x : AV), (asFr n l)[t]? = some x → Rep w pr g (tmps.getD t undef) x := by
  intro t x hx
  rw [asFr_get] at hx
  split at hx
  case isFalse => cases hx
  cases hx
  induction l with
  | nil => exact .junk _ _
  | cons p l ih =>
    show Rep w pr g _ (if t = p.1 then p.2 else look l t)
    by_cases e : t = p.1
    · rw [if_pos e, e]; exact h p List.mem_cons_self
    · rw [if_neg e]; exact ih (fun q hq => h q (List.mem_cons_of_mem _ hq))

/-! ### The closure's contract -/
/-- A closure that is put off: what it leaves of the blocks that it is handed, and of the frame below. -/
def DCon (B : Base) (f : FuncId) (caps : List AV) (σ : Store) (u u' : FrameMode) (σ' : Store) : Prop :=
  ∀ (F : Addr → Prop) (w : World) (g : Gh) (vs : Array Value), Mem (B.env F) w g σ → AllRep w (prot (B.env F) g) g vs.toList caps →
    CallsD B.P f vs u w (fun e u2 w' => ∃ v g', e = .returned v ∧ u2 = u' ∧ Mem (B.env F) w' g' σ' ∧ Evo (B.env F) σ.length w g w' g')

/-- The rest of the closure's body, from where it has recovered. -/
theorem dcon_rest {B : Base} {F : Addr → Prop} {fn : Func} {rest : Code} {c₀ : Frame} {u' : FrameMode} {cs : List Frame} {w : World} {g : Gh} {n N : Nat} {l : Fr} {σ σ' : Store} {a : Act} (hres : fn.results = #[]) (hn : σ.length = n)
    (hsz : a.tmps.size = N) (hd : a.defers = []) (hm : Mem (B.env F) w g σ) (hl : ∀ p ∈ l, Rep w (prot (B.env F) g) g (a.tmps.getD p.1 undef) p.2)
    (hrun : Run (B.env F) n rest ⟨asFr N l, σ⟩ (fun ex st => ex = .normal ∧ st.σ = σ')) :
    rest.wpS B.P (bodyPostS B.P fn c₀ cs (fun e u2 w' => ∃ v g', e = .returned v ∧ u2 = u' ∧ Mem (B.env F) w' g' σ' ∧ Evo (B.env F) σ.length w g w' g')) a ({ c₀ with mode := u' } :: cs) w := by
  refine wpS_of_wp ?_
  refine hrun a w g ⟨by simpa [asFr] using hsz, slots_of hl, hm, hd⟩ _ ?_
  rintro ex st a' w' g' ⟨rfl, h2⟩ hr he
  subst hn
  refine ⟨hr.defers, u', rfl, .tuple #[], ?_, _, g', rfl, rfl, h2 ▸ hr.mem, he⟩
  show (results fn a'.tmps).run B.P w' = _
  have e : results fn a'.tmps = (do let vs ← fn.results.mapM (resSem a'.tmps); pure (if h : vs.size = 1 then vs[0] else .tuple vs)) := rfl
  rw [e, hres, Sem.run_bind, Array.mapM_eq_mapM_toList, Sem.run_map]
  rfl

/-! ### The function -/
def slotsOk (f : Operand → AV) : Fr → Prop
  | [] => True
  | p :: l => f (.tmp p.1) = p.2 ∧ slotsOk f l

theorem slotsOk_at {f : Operand → AV} : ∀ {l : Fr}, slotsOk f l → ∀ p ∈ l, f (.tmp p.1) = p.2
  | q :: l, h, p, hp => by
    rcases List.mem_cons.1 hp with rfl | hp
    · exact h.1
    · exact slotsOk_at h.2 p hp

/-- What the body must come to, for the closure to make of it what is asked. -/
def retD (B : Base) (F : Addr → Prop) (cf : FuncId) (caps : List AV) (rs : List ResultVar) (N : Nat) (rfr : Fr) (r0 : AV) : Post := fun ex st =>
  ∃ u σ0 u' σ' xs, st.fr.length = N ∧ (((ex = .normal ∨ ex = .ret) ∧ u = .returning) ∨ ∃ ch, ex = .panic ch ∧ u = .panicking ch) ∧ stUp (List.range caps.length) st.σ (List.range caps.length) σ0 ∧ DCon B cf caps σ0 u u' σ' ∧ settle u' = .returning ∧
    slotsOk (ev st.fr) rfr ∧ resultA (B.env F) σ' (asFr N rfr) rs = some xs ∧ fzR σ' (result1 xs) = some r0

/-- The captured boxes, as the closure is handed them. -/
def refsTo : Nat → List AV
  | 0 => []
  | n + 1 => refsTo n ++ [.ref n 0]

theorem refsTo_ne : ∀ n ys, refsTo n ≠ [.tup ys]
  | 0, ys, h => by cases h
  | 1, ys, h => by cases h
  | n + 2, ys, h => by
    have := congrArg List.length h
    simp [refsTo] at this

theorem refsTo_len : ∀ n, (refsTo n).length = n
  | 0 => rfl
  | n + 1 => by simp [refsTo, refsTo_len n]

theorem rep_ref_sel {w : World} {pr pr' : Addr → Prop} {g : Gh} {sel : List Nat} {v : Value} {i id o : Nat} (hs : ∀ i ∈ sel, i < g.length) (h : Rep w pr g v (.ref i o)) (hi : sel[id]? = some i) : Rep w pr' (ghSel sel g) v (.ref id o) := by
  cases h with
  | ref _ _ _ β b hb hx hβ => exact .ref _ _ _ β b ((ghSel_get hs).2 ⟨i, hi, hb⟩) hx hβ

theorem mem_D {B : Base} {F : Addr → Prop} {D D' : List Deferred} {w : World} {g : Gh} {σ : Store} (h : Mem { B.env F with D := D } w g σ) : Mem { B.env F with D := D' } w g σ := ⟨h.len, h.blk, h.inj, h.foreign, h.glob, h.maps, h.whole⟩
theorem evo_D {B : Base} {F : Addr → Prop} {D D' : List Deferred} {n : Nat} {w w' : World} {g g' : Gh} (h : Evo { B.env F with D := D } n w g w' g') : Evo { B.env F with D := D' } n w g w' g' := ⟨h.os, h.tape, h.output, h.size, h.cells, h.blocks, h.ids⟩
theorem evo_zero {E : Env} {n : Nat} {w w' : World} {g g' : Gh} (h : Evo E n w g w' g') : Evo E 0 w g w' g' := ⟨h.os, h.tape, h.output, h.size, h.cells, h.blocks, fun _ hh => absurd hh (Nat.not_lt_zero _)⟩

/-- A pointer into a box keeps its place. -/
theorem rep_ref_step {w w' : World} {pr pr' : Addr → Prop} {g g' : Gh} {v : Value} {i o n : Nat} (h : Rep w pr g v (.ref i o)) (hi : i < n) (hs : ∀ id, id < n → ∀ b, g[id]? = some b → ∃ b', g'[id]? = some b' ∧ b.step b') : Rep w' pr' g' v (.ref i o) := by
  cases h with
  | ref _ _ _ β b hb hx hβ =>
    obtain ⟨b', hb', hst⟩ := hs i hi b hb
    rcases hst with hst | ⟨s1, _⟩
    · exact .ref _ _ _ β b' hb' (hst.2.2.2.2.2.trans hx) (hst.1.trans hβ)
    · rw [hx] at s1; cases s1

def refB (n : Nat) (p : Nat × AV) : Bool := match p.2 with
  | .ref i 0 => decide (i < n)
  | _ => false

theorem allRep_to {w w' : World} {pr pr' : Addr → Prop} {g g' : Gh} : ∀ {vs : List Value} {xs : List AV}, AllRep w pr g vs xs → (∀ v x, x ∈ xs → Rep w pr g v x → Rep w' pr' g' v x) → AllRep w' pr' g' vs xs
  | [], [], _, _ => trivial
  | [], _ :: _, h, _ => h.elim
  | _ :: _, [], h, _ => h.elim
  | _ :: _, _ :: _, h, k => ⟨k _ _ List.mem_cons_self h.1, allRep_to h.2 (fun v x hx => k v x (List.mem_cons_of_mem _ hx))⟩

theorem refsTo_mem : ∀ {n : Nat} {x : AV}, x ∈ refsTo n → ∃ i, i < n ∧ x = .ref i 0
  | 0, x, h => by cases h
  | n + 1, x, h => by
    rcases List.mem_append.1 h with h | h
    · obtain ⟨i, hi, e⟩ := refsTo_mem h
      exact ⟨i, by omega, e⟩
    · exact ⟨n, by omega, by simpa using h⟩

theorem con_defer {B : Base} {f cf : FuncId} {fn : Func} {args : List AV} {r0 : AV} {rs : List ResultVar} {N i1 i2 t7 m : Nat} {l1 : List Oper} {o1 o2 : Oper} {rest : Code} {capops : Array Operand} {rfr : Fr} {fr1 : Fr} {σ1 : Store}
    (hB : B.Ok) (hf : B.P.funcs[f]? = some fn) (hb : fn.body = some (.seq (.region i1 l1.toArray false) (.seq (.region i2 [o1, o2].toArray false) rest))) (hname : (fn.name == "runtime.NumGoroutine") = false) (hN : fn.ntmps = N) (hrs : fn.results.toList = rs) (hlen : args.length ≤ N)
    (ho1 : o1.op = .makeFunc (.func cf) #[] capops) (hd1 : o1.dst = some t7) (hg1 : o1.guard = none) (ho2 : o2.op = .defer ⟨.value (.tmp t7), #[], #[]⟩) (hd2 : o2.dst = none) (hg2 : o2.guard = none) (ht7 : t7 < N)
    (h1 : ∀ F, stepsL (B.env F) (orcL [] []) false N l1.toArray l1 (numb 0 args, []) = some (fr1, σ1)) (hm : σ1.length = m) (hcaps : capops.toList.map (evL N fr1) = refsTo m) (hrfr : rfr.all (refB m) = true) {fnc : Func} {cc : Code} (hfc : B.P.funcs[cf]? = some fnc) (hbc : fnc.body = some cc) (hnc : (fnc.name == "runtime.NumGoroutine") = false)
    (hrest : ∀ F D, Run { B.env F with D := D } m rest ⟨asFr N (put (some t7) (.fn cf (refsTo m)) fr1), σ1⟩ (retD B F cf (refsTo m) rs N rfr r0)) : Con B f args [] (fun r' σ' => r' = r0 ∧ σ' = []) := by
  refine con_closed (R := fun r σ' => fzR σ' r = some r0) ⟨fun F w g vs hmem ha => .inl ⟨⟨fn, _, hf, hb, hname⟩, ?_⟩⟩ (fun r σ' h => h)
  have hE := hB.env F
  refine calls_of_wp_defers hf hb ?_
  have hr0 := rel_entry (fn := fn) hmem ha
  subst hN hrs
  rw [entry_asFr fn.ntmps args hlen (numb 0 args) (fun t _ => look_numb args 0 t (Nat.zero_le _))] at hr0
  refine wp_seq ?_
  refine run_region (E := B.env F) (n := 0) (stepsL_run (K := fun ex st => ex = .normal ∧ st = ⟨asFr fn.ntmps fr1, σ1⟩) hE (orcs_nil (B := B)) _ _ _ _ _ (h1 F) ⟨rfl, rfl⟩) _ w g hr0 _ ?_
  rintro ex st a1 w1 g1 ⟨rfl, rfl⟩ hr1 he1
  refine wp_seq ?_
  refine wp_region_lit ?_
  simp only [wpList, Region.wanted, hg1, if_true]
  left
  have hop1 : opL (B.env F) (orcL [] [] none) false (evL fn.ntmps fr1) σ1 o1.op = some (.fn cf (refsTo m), σ1) := by
    rw [ho1]
    show evOpR (B.env F) (evL fn.ntmps fr1) σ1 (.makeFunc (.func cf) #[] capops) = _
    simp only [evOpR, hcaps]
    have hne : ∀ ys, refsTo m ≠ [.tup ys] := refsTo_ne m
    split
    · split
      · rename_i h2; exact absurd h2 (hne _)
      · rfl
    · rename_i h2; exact (h2 trivial).elim
  refine opL_run hE (orcs_nil (B := B) none) hop1 hr1 ?_
  intro a2 w2 g2 hr2 he2 hle2
  simp only [wpList, Region.wanted, hg2, if_true]
  left
  simp only [hd1] at hr2
  -- the closure is put off
  have hfv := hr2.slot t7 (.fn cf (refsTo m)) (by rw [asFr_get, if_pos ht7]; show some (if t7 = t7 then _ else _) = _; rw [if_pos rfl])
  obtain ⟨capv, hcv, hcr⟩ := callee_value hfv (refsTo_ne m)
  have hd : (execOp a2.eval o2).run B.P w2 = .ok (.defer { target := .fn (.func cf) capv, args := #[] }) w2 := by
    have hev : a2.eval (.tmp t7) = .func (.func cf) #[] capv := hcv
    simp only [execOp, ho2, resolve, hev, Deferred.ofValue, Sem.run_bind, Sem.run_pure, Result.andThen_ok]
    simp
  unfold Oper.wp
  rw [hd, Oper.upon_defer, hd2]
  show rest.wp B.P (bodyPostD B.P fn _) { a2 with defers := { target := .fn (.func cf) capv, args := #[] } :: a2.defers } w2
  have hd0 : a2.defers = [] := hr2.defers
  rw [hd0]
  generalize hDd : ({ target := .fn (.func cf) capv, args := #[] } : Deferred) = dd
  have hr3 : Rel { B.env F with D := [dd] } w2 g2 ⟨asFr fn.ntmps (put (some t7) (.fn cf (refsTo m)) fr1), σ1⟩ { a2 with defers := [dd] } :=
    ⟨hr2.size, hr2.slot, mem_D (D := []) hr2.mem, rfl⟩
  refine hrest F [dd] _ w2 g2 hr3 _ ?_
  rintro ex st a' w' g' ⟨u, σ0, u', σ', xs, hlenN, hu, hσ, hD, hset, hsl, hres, hfz⟩ hr' he'
  have hdef : a'.defers = [dd] := hr'.defers
  have hrl : (refsTo m).length = m := refsTo_len m
  rw [hrl] at hσ
  obtain ⟨s1, s2, s3, s4⟩ := mem_sel (n := m) hr'.mem (List.range m) List.nodup_range (List.take_of_length_le (by simp)) hσ
  have hur : u ≠ .run := by rcases hu with ⟨_, rfl⟩ | ⟨_, _, rfl⟩ <;> simp
  have hgetr : ∀ i, i < m → (List.range m)[i]? = some i := fun i hi => List.getElem?_range hi
  have href : ∀ (v : Value) (i : Nat), i < m → Rep w2 (prot (B.env F) g2) g2 v (.ref i 0) → Rep w' (prot (B.env F) (ghSel (List.range m) g')) (ghSel (List.range m) g') v (.ref i 0) := fun v i hi h =>
    rep_ref_sel s1 (rep_ref_step (w' := w') (pr' := fun _ => True) h hi he'.ids) (hgetr i hi)
  have hcl : Leaves B.P fn a'.tmps (fun e w' => ∃ v r σ' g', e = .returned v ∧ (fzR σ' r = some r0) ∧ Mem (B.env F) w' g' σ' ∧ Evo (B.env F) ([] : Store).length w g w' g' ∧ Rep w' (prot (B.env F) g') g' v r) a'.defers u w' := by
    rw [hdef, ← hDd]
    refine leaves_cons (f := cf) (args := #[] ++ capv) hur ?_ ?_
    · exact callFunc_body hfc hbc hnc _ _
    · refine (hD F w' (ghSel (List.range m) g') (#[] ++ capv) (mem_D (D' := []) s2) ?_).mono ?_
      · simp only [Array.empty_append]
        refine allRep_to hcr fun v x hx h => ?_
        obtain ⟨i, hi, rfl⟩ := refsTo_mem hx
        exact href v i hi h
      · rintro e u2 w3 ⟨v, g3, rfl, rfl, hm3, he3⟩
        show Leaves B.P fn a'.tmps _ [] (settle u2) w3
        rw [hset]
        have hl0 : σ0.length = m := by
          have := (stUp_get hσ).1
          simpa using this.symm
        have hrel : Rel (B.env F) w3 g3 ⟨asFr fn.ntmps rfr, σ'⟩ { a' with defers := [] } := by
          refine ⟨?_, slots_of fun p hp => ?_, hm3, rfl⟩
          · rw [asFr_len]; exact hr'.size.trans hlenN
          · have h2 := rep_ev hr' (.tmp p.1)
            rw [slotsOk_at hsl p hp] at h2
            have h3 := List.all_eq_true.1 hrfr p hp
            unfold refB at h3
            split at h3
            · rename_i i hpi
              rw [hpi] at h2 ⊢
              have hi : i < m := by simpa using h3
              exact rep_ref_step (rep_ref_sel (pr' := fun _ => True) s1 h2 (hgetr i hi)) (by rw [hl0]; exact hi) he3.ids
            · cases h3
        obtain ⟨us, hus, hrep⟩ := results_sound hE hrel fn.results.toList xs hres
        have hres2 : (results fn a'.tmps).run B.P w3 = .ok (if h : us.toArray.size = 1 then us.toArray[0] else .tuple us.toArray) w3 := by
          have e : results fn a'.tmps = (do let vs ← fn.results.mapM (resSem a'.tmps); pure (if h : vs.size = 1 then vs[0] else .tuple vs)) := rfl
          have hus' : (fn.results.toList.mapM (resSem a'.tmps)).run B.P w3 = .ok us w3 := hus
          rw [e, Sem.run_bind, Array.mapM_eq_mapM_toList, Sem.run_map, hus']
          rfl
        exact ⟨_, hres2, _, _, σ', g3, rfl, hfz, hm3, (evo_zero he1).trans ((evo_zero he2).trans ((evo_D (evo_zero he')).trans ((evo_D (evo_zero s3)).trans (evo_zero he3)))), result1_rep hrep⟩
  rcases hu with ⟨rfl | rfl, rfl⟩ | ⟨ch, rfl, rfl⟩
  · exact hcl
  · exact hcl
  · exact hcl

theorem run_textK {E : Env} (hE : E.Ok) {m n id : Nat} {l : List Oper} {fr fr' : Fr} {σ σ' : Store} {K : Post} (ts : List Nat) (h : ∃ orc, Orcs E.toBase orc ∧ regL E orc false n l ts (fr, σ) = some (fr', σ'))
    (hk : ∀ fr, K .normal ⟨fr, σ'⟩) : Run E m (.region id l.toArray false) ⟨asFr n fr, σ⟩ K := by
  obtain ⟨orc, hO, h⟩ := h
  simp only [regL, Option.bind_eq_some_iff, Option.some.injEq, Prod.mk.injEq] at h
  obtain ⟨⟨fr1, σ1⟩, h1, rfl, rfl⟩ := h
  exact run_text0 hE hO h1 (hk _)

theorem resD {E : Env} {σ : Store} {n : Nat} {l : Fr} {rs : List ResultVar} {xs : List AV} (h : resL E n l σ rs = some xs) : resultA E σ (asFr n l) rs = some xs := by rw [resL_eq]; exact h
attribute [go_sem] slotsOk ev_asFr

end Go.Rv
