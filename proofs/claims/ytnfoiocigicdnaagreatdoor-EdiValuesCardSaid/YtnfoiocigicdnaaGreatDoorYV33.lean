/-
  Part 33.
-/
import Derived.Test.YtnfoiocigicdnaaGreatDoorYV32
import Derived.Recover
namespace Go.Rv
set_option linter.unusedVariables false
set_option linter.unusedSimpArgs false
section
variable {P : Program} {ops : Array Oper} {Q : Exit → Act → List Frame → World → Prop}
theorem Ep {i : Nat} {rest : List Nat} {a : Act} {cs : List Frame} {w w' : World} (o : Oper) (v : Value) (a' : Act) (ho : ops[i]? = some o) (hg : o.guard = none) (hr : (execOp a.eval o).run P w = .ok (.value v) w') (ha : a.put o.dst v = a')
    (h : wpOpsS P ops Q rest a' cs w') : wpOpsS P ops Q (i :: rest) a cs w := by
  subst ha
  simp only [wpOpsS, ho, Region.wanted, hg, if_true, hr]
  exact h
theorem AaQ {i : Nat} {rest : List Nat} {a : Act} {c : Frame} {cs : List Frame} {w : World} (o : Oper) (v : Value) (older : List PanicEntry) (a' : Act) (ho : ops[i]? = some o) (hg : o.guard = none) (hr : (execOp a.eval o).run P w = .ok .recover w)
    (hc : c.mode = .panicking ({ v := v, recovered := false } :: older)) (ha : a.put o.dst v = a')
    (h : wpOpsS P ops Q rest a' ({ c with mode := .panicking ({ v := v, recovered := true } :: older) } :: cs) w) : wpOpsS P ops Q (i :: rest) a (c :: cs) w := by
  subst ha
  have e : recoverD (c :: cs) = some (v, { c with mode := .panicking ({ v := v, recovered := true } :: older) } :: cs) := by
    unfold recoverD
    simp only [hc]
  simp only [wpOpsS, ho, Region.wanted, hg, if_true, hr, e]
  exact h
theorem AeM {i : Nat} {rest : List Nat} {a : Act} {c : Frame} {cs : List Frame} {w : World} (o : Oper) (a' : Act) (ho : ops[i]? = some o) (hg : o.guard = none) (hr : (execOp a.eval o).run P w = .ok .recover w)
    (hc : c.mode = .returning) (ha : a.put o.dst .nilIface = a')
    (h : wpOpsS P ops Q rest a' ({ c with mode := .returning } :: cs) w) : wpOpsS P ops Q (i :: rest) a (c :: cs) w := by
  subst ha
  have hcc : { c with mode := .returning } = c := by cases c; simp_all
  rw [hcc] at h
  have e : recoverD (c :: cs) = none := by
    unfold recoverD
    simp only [hc]
  simp only [wpOpsS, ho, Region.wanted, hg, if_true, hr, e]
  exact h
theorem Aa9 {a : Act} {cs : List Frame} {w : World} (h : Q .normal a cs w) : wpOpsS P ops Q [] a cs w := h
end
theorem Sz {E : Env} (hE : E.Ok) {t : TypeId} {k : IntKind} {sz by' : Nat} {z : List AV} (ht : E.tab t = some ⟨.int k, sz, by', z⟩) (v : Value) (xt : TypeId) (w : World) :
    (Instr.typeAssert (.iface t v) xt t true).run E.P w = .ok (.tuple #[v, .bool true]) w := by
  unfold Instr.typeAssert
  simp only [Sem.run_bind, A7 hE ht, Result.andThen_ok, if_true, Sem.run_pure]
theorem Sh {E : Env} (hE : E.Ok) {t : TypeId} {k : IntKind} {sz by' : Nat} {z : List AV} (ht : E.tab t = some ⟨.int k, sz, by', z⟩) (xt : TypeId) (w : World) :
    ∃ u, (Instr.typeAssert .nilIface xt t true).run E.P w = .ok (.tuple #[u, .bool false]) w := by
  obtain ⟨u, hu, _⟩ := Li hE ht w
  refine ⟨u, ?_⟩
  unfold Instr.typeAssert
  simp only [Sem.run_bind, A7 hE ht, Result.andThen_ok, if_true, Sem.run_pure, hu]
theorem Abe {w : World} {pr : Addr → Prop} {g : Gh} {n : Nat} {l : Fr} {tmps : Array Value} (h : ∀ p ∈ l, Rep w pr g (tmps.getD p.1 undef) p.2) : ∀ (t : Nat) (x : AV), (Am n l)[t]? = some x → Rep w pr g (tmps.getD t undef) x := by
  intro t x hx
  rw [Er] at hx
  split at hx
  case isFalse => cases hx
  cases hx
  induction l with
  | nil => exact .junk _ _
  | cons p l ih =>
    show Rep w pr g _ (if t = p.1 then p.2 else Gk l t)
    by_cases e : t = p.1
    · rw [if_pos e, e]; exact h p List.mem_cons_self
    · rw [if_neg e]; exact ih (fun q hq => h q (List.mem_cons_of_mem _ hq))
def App (B : Base) (f : FuncId) (caps : List AV) (σ : Ab) (u u' : FrameMode) (σ' : Ab) : Prop :=
  ∀ (F : Addr → Prop) (w : World) (g : Gh) (vs : Array Value), Mem (B.env F) w g σ → Cm w (A2 (B.env F) g) g vs.toList caps →
    CallsD B.P f vs u w (fun e u2 w' => ∃ v g', e = .returned v ∧ u2 = u' ∧ Mem (B.env F) w' g' σ' ∧ Evo (B.env F) σ.length w g w' g')
theorem X5 {B : Base} {F : Addr → Prop} {fn : Func} {rest : Code} {c₀ : Frame} {u' : FrameMode} {cs : List Frame} {w : World} {g : Gh} {n N : Nat} {l : Fr} {σ σ' : Ab} {a : Act} (hres : fn.results = #[]) (hn : σ.length = n)
    (hsz : a.tmps.size = N) (hd : a.defers = []) (hm : Mem (B.env F) w g σ) (hl : ∀ p ∈ l, Rep w (A2 (B.env F) g) g (a.tmps.getD p.1 undef) p.2)
    (hrun : Run (B.env F) n rest ⟨Am N l, σ⟩ (fun ex st => ex = .normal ∧ st.σ = σ')) :
    rest.wpS B.P (bodyPostS B.P fn c₀ cs (fun e u2 w' => ∃ v g', e = .returned v ∧ u2 = u' ∧ Mem (B.env F) w' g' σ' ∧ Evo (B.env F) σ.length w g w' g')) a ({ c₀ with mode := u' } :: cs) w := by
  refine wpS_of_wp ?_
  refine hrun a w g ⟨by simpa [Am] using hsz, Abe hl, hm, hd⟩ _ ?_
  rintro ex st a' w' g' ⟨rfl, h2⟩ hr he
  subst hn
  refine ⟨hr.defers, u', rfl, .tuple #[], ?_, _, g', rfl, rfl, h2 ▸ hr.mem, he⟩
  show (results fn a'.tmps).run B.P w' = _
  have e : results fn a'.tmps = (do let vs ← fn.results.mapM (O5 a'.tmps); pure (if h : vs.size = 1 then vs[0] else .tuple vs)) := rfl
  rw [e, hres, Sem.run_bind, Array.mapM_eq_mapM_toList, Sem.run_map]
  rfl
def Vn (f : Operand → AV) : Fr → Prop
  | [] => True
  | p :: l => f (.tmp p.1) = p.2 ∧ Vn f l
theorem T4 {f : Operand → AV} : ∀ {l : Fr}, Vn f l → ∀ p ∈ l, f (.tmp p.1) = p.2
  | q :: l, h, p, hp => by
    rcases List.mem_cons.1 hp with rfl | hp
    · exact h.1
    · exact T4 h.2 p hp
def retD (B : Base) (F : Addr → Prop) (cf : FuncId) (caps : List AV) (rs : List ResultVar) (N : Nat) (rfr : Fr) (r0 : AV) : Dx := fun ex st =>
  ∃ u σ0 u' σ' xs, st.fr.length = N ∧ (((ex = .normal ∨ ex = .ret) ∧ u = .returning) ∨ ∃ ch, ex = .panic ch ∧ u = .panicking ch) ∧ Kb (List.range caps.length) st.σ (List.range caps.length) σ0 ∧ App B cf caps σ0 u u' σ' ∧ settle u' = .returning ∧
    Vn (ev st.fr) rfr ∧ Eh (B.env F) σ' (Am N rfr) rs = some xs ∧ fzR σ' (Hq xs) = some r0
def G3 : Nat → List AV
  | 0 => []
  | n + 1 => G3 n ++ [.ref n 0]
theorem Y2 : ∀ n ys, G3 n ≠ [.tup ys]
  | 0, ys, h => by cases h
  | 1, ys, h => by cases h
  | n + 2, ys, h => by
    have := congrArg List.length h
    simp [G3] at this
theorem Tv : ∀ n, (G3 n).length = n
  | 0 => rfl
  | n + 1 => by simp [G3, Tv n]
theorem Rj {w : World} {pr pr' : Addr → Prop} {g : Gh} {sel : List Nat} {v : Value} {i id o : Nat} (hs : ∀ i ∈ sel, i < g.length) (h : Rep w pr g v (.ref i o)) (hi : sel[id]? = some i) : Rep w pr' (Dl sel g) v (.ref id o) := by
  cases h with
  | ref _ _ _ β b hb hx hβ => exact .ref _ _ _ β b ((A5 hs).2 ⟨i, hi, hb⟩) hx hβ
theorem Alr {B : Base} {F : Addr → Prop} {D D' : List Deferred} {w : World} {g : Gh} {σ : Ab} (h : Mem { B.env F with D := D } w g σ) : Mem { B.env F with D := D' } w g σ := ⟨h.len, h.blk, h.inj, h.foreign, h.glob, h.maps, h.whole⟩
theorem Al0 {B : Base} {F : Addr → Prop} {D D' : List Deferred} {n : Nat} {w w' : World} {g g' : Gh} (h : Evo { B.env F with D := D } n w g w' g') : Evo { B.env F with D := D' } n w g w' g' := ⟨h.os, h.tape, h.output, h.size, h.cells, h.blocks, h.ids⟩
theorem Nj {E : Env} {n : Nat} {w w' : World} {g g' : Gh} (h : Evo E n w g w' g') : Evo E 0 w g w' g' := ⟨h.os, h.tape, h.output, h.size, h.cells, h.blocks, fun _ hh => absurd hh (Nat.not_lt_zero _)⟩
theorem O3 {w w' : World} {pr pr' : Addr → Prop} {g g' : Gh} {v : Value} {i o n : Nat} (h : Rep w pr g v (.ref i o)) (hi : i < n) (hs : ∀ id, id < n → ∀ b, g[id]? = some b → ∃ b', g'[id]? = some b' ∧ b.step b') : Rep w' pr' g' v (.ref i o) := by
  cases h with
  | ref _ _ _ β b hb hx hβ =>
    obtain ⟨b', hb', hst⟩ := hs i hi b hb
    rcases hst with hst | ⟨s1, _⟩
    · exact .ref _ _ _ β b' hb' (hst.2.2.2.2.2.trans hx) (hst.1.trans hβ)
    · rw [hx] at s1; cases s1
def refB (n : Nat) (p : Nat × AV) : Bool := match p.2 with
  | .ref i 0 => decide (i < n)
  | _ => false
theorem Xr {w w' : World} {pr pr' : Addr → Prop} {g g' : Gh} : ∀ {vs : List Value} {xs : List AV}, Cm w pr g vs xs → (∀ v x, x ∈ xs → Rep w pr g v x → Rep w' pr' g' v x) → Cm w' pr' g' vs xs
  | [], [], _, _ => trivial
  | [], _ :: _, h, _ => h.elim
  | _ :: _, [], h, _ => h.elim
  | _ :: _, _ :: _, h, k => ⟨k _ _ List.mem_cons_self h.1, Xr h.2 (fun v x hx => k v x (List.mem_cons_of_mem _ hx))⟩
theorem T5 : ∀ {n : Nat} {x : AV}, x ∈ G3 n → ∃ i, i < n ∧ x = .ref i 0
  | 0, x, h => by cases h
  | n + 1, x, h => by
    rcases List.mem_append.1 h with h | h
    · obtain ⟨i, hi, e⟩ := T5 h
      exact ⟨i, by omega, e⟩
    · exact ⟨n, by omega, by simpa using h⟩
theorem Adz {B : Base} {f cf : FuncId} {fn : Func} {args : List AV} {r0 : AV} {rs : List ResultVar} {N i1 i2 t7 m : Nat} {l1 : List Oper} {o1 o2 : Oper} {rest : Code} {capops : Array Operand} {rfr : Fr} {fr1 : Fr} {σ1 : Ab}
    (hB : B.Ok) (hf : B.P.funcs[f]? = some fn) (hb : fn.body = some (.seq (.region i1 l1.toArray false) (.seq (.region i2 [o1, o2].toArray false) rest))) (hname : (fn.name == "runtime.NumGoroutine") = false) (hN : fn.ntmps = N) (hrs : fn.results.toList = rs) (hlen : args.length ≤ N)
    (ho1 : o1.op = .makeFunc (.func cf) #[] capops) (hd1 : o1.dst = some t7) (hg1 : o1.guard = none) (ho2 : o2.op = .defer ⟨.value (.tmp t7), #[], #[]⟩) (hd2 : o2.dst = none) (hg2 : o2.guard = none) (ht7 : t7 < N)
    (h1 : ∀ F, E2 (B.env F) (Acm [] []) false N l1.toArray l1 (S2 0 args, []) = some (fr1, σ1)) (hm : σ1.length = m) (hcaps : capops.toList.map (evL N fr1) = G3 m) (hrfr : rfr.all (refB m) = true) {fnc : Func} {cc : Code} (hfc : B.P.funcs[cf]? = some fnc) (hbc : fnc.body = some cc) (hnc : (fnc.name == "runtime.NumGoroutine") = false)
    (hrest : ∀ F D, Run { B.env F with D := D } m rest ⟨Am N (put (some t7) (.fn cf (G3 m)) fr1), σ1⟩ (retD B F cf (G3 m) rs N rfr r0)) : Con B f args [] (fun r' σ' => r' = r0 ∧ σ' = []) := by
  refine T7 (R := fun r σ' => fzR σ' r = some r0) ⟨fun F w g vs hmem ha => .inl ⟨⟨fn, _, hf, hb, hname⟩, ?_⟩⟩ (fun r σ' h => h)
  have hE := hB.env F
  refine calls_of_wp_defers hf hb ?_
  have hr0 := W6 (fn := fn) hmem ha
  subst hN hrs
  rw [Hd fn.ntmps args hlen (S2 0 args) (fun t _ => Hz args 0 t (Nat.zero_le _))] at hr0
  refine wp_seq ?_
  refine Lh (E := B.env F) (n := 0) (Oj (K := fun ex st => ex = .normal ∧ st = ⟨Am fn.ntmps fr1, σ1⟩) hE (Aa (B := B)) _ _ _ _ _ (h1 F) ⟨rfl, rfl⟩) _ w g hr0 _ ?_
  rintro ex st a1 w1 g1 ⟨rfl, rfl⟩ hr1 he1
  refine wp_seq ?_
  refine wp_region_lit ?_
  simp only [wpList, Region.wanted, hg1, if_true]
  left
  have hop1 : opL (B.env F) (Acm [] [] none) false (evL fn.ntmps fr1) σ1 o1.op = some (.fn cf (G3 m), σ1) := by
    rw [ho1]
    show Sj (B.env F) (evL fn.ntmps fr1) σ1 (.makeFunc (.func cf) #[] capops) = _
    simp only [Sj, hcaps]
    have hne : ∀ ys, G3 m ≠ [.tup ys] := Y2 m
    split
    · split
      · rename_i h2; exact absurd h2 (hne _)
      · rfl
    · rename_i h2; exact (h2 trivial).elim
  refine AdW hE (Aa (B := B) none) hop1 hr1 ?_
  intro a2 w2 g2 hr2 he2 hle2
  simp only [wpList, Region.wanted, hg2, if_true]
  left
  simp only [hd1] at hr2
  have hfv := hr2.slot t7 (.fn cf (G3 m)) (by rw [Er, if_pos ht7]; show some (if t7 = t7 then _ else _) = _; rw [if_pos rfl])
  obtain ⟨capv, hcv, hcr⟩ := E3 hfv (Y2 m)
  have hd : (execOp a2.eval o2).run B.P w2 = .ok (.defer { target := .fn (.func cf) capv, args := #[] }) w2 := by
    have hev : a2.eval (.tmp t7) = .func (.func cf) #[] capv := hcv
    simp only [execOp, ho2, resolve, hev, Deferred.ofValue, Sem.run_bind, Sem.run_pure, Result.andThen_ok]
    simp
  unfold Oper.wp
  rw [hd, Oper.upon_defer, hd2]
  show rest.wp B.P (bodyPostD B.P fn _) { a2 with defers := { target := .fn (.func cf) capv, args := #[] } :: a2.defers } w2
  have hd0 : a2.defers = [] := hr2.defers
  rw [hd0]
  generalize hDd : ({ target := .fn (.func cf) capv, args := #[] } : Deferred) = dd
  have hr3 : Rel { B.env F with D := [dd] } w2 g2 ⟨Am fn.ntmps (put (some t7) (.fn cf (G3 m)) fr1), σ1⟩ { a2 with defers := [dd] } :=
    ⟨hr2.size, hr2.slot, Alr (D := []) hr2.mem, rfl⟩
  refine hrest F [dd] _ w2 g2 hr3 _ ?_
  rintro ex st a' w' g' ⟨u, σ0, u', σ', xs, hlenN, hu, hσ, hD, hset, hsl, hres, hfz⟩ hr' he'
  have hdef : a'.defers = [dd] := hr'.defers
  have hrl : (G3 m).length = m := Tv m
  rw [hrl] at hσ
  obtain ⟨s1, s2, s3, s4⟩ := Qs (n := m) hr'.mem (List.range m) List.nodup_range (List.take_of_length_le (by simp)) hσ
  have hur : u ≠ .run := by rcases hu with ⟨_, rfl⟩ | ⟨_, _, rfl⟩ <;> simp
  have hgetr : ∀ i, i < m → (List.range m)[i]? = some i := fun i hi => List.getElem?_range hi
  have href : ∀ (v : Value) (i : Nat), i < m → Rep w2 (A2 (B.env F) g2) g2 v (.ref i 0) → Rep w' (A2 (B.env F) (Dl (List.range m) g')) (Dl (List.range m) g') v (.ref i 0) := fun v i hi h =>
    Rj s1 (O3 (w' := w') (pr' := fun _ => True) h hi he'.ids) (hgetr i hi)
  have hcl : Leaves B.P fn a'.tmps (fun e w' => ∃ v r σ' g', e = .returned v ∧ (fzR σ' r = some r0) ∧ Mem (B.env F) w' g' σ' ∧ Evo (B.env F) ([] : Ab).length w g w' g' ∧ Rep w' (A2 (B.env F) g') g' v r) a'.defers u w' := by
    rw [hdef, ← hDd]
    refine leaves_cons (f := cf) (args := #[] ++ capv) hur ?_ ?_
    · exact Na hfc hbc hnc _ _
    · refine (hD F w' (Dl (List.range m) g') (#[] ++ capv) (Alr (D' := []) s2) ?_).mono ?_
      · simp only [Array.empty_append]
        refine Xr hcr fun v x hx h => ?_
        obtain ⟨i, hi, rfl⟩ := T5 hx
        exact href v i hi h
      · rintro e u2 w3 ⟨v, g3, rfl, rfl, hm3, he3⟩
        show Leaves B.P fn a'.tmps _ [] (settle u2) w3
        rw [hset]
        have hl0 : σ0.length = m := by
          have := (Ns hσ).1
          simpa using this.symm
        have hrel : Rel (B.env F) w3 g3 ⟨Am fn.ntmps rfr, σ'⟩ { a' with defers := [] } := by
          refine ⟨?_, Abe fun p hp => ?_, hm3, rfl⟩
          · rw [Jp]; exact hr'.size.trans hlenN
          · have h2 := Fy hr' (.tmp p.1)
            rw [T4 hsl p hp] at h2
            have h3 := List.all_eq_true.1 hrfr p hp
            unfold refB at h3
            split at h3
            · rename_i i hpi
              rw [hpi] at h2 ⊢
              have hi : i < m := by simpa using h3
              exact O3 (Rj (pr' := fun _ => True) s1 h2 (hgetr i hi)) (by rw [hl0]; exact hi) he3.ids
            · cases h3
        obtain ⟨us, hus, hrep⟩ := G4 hE hrel fn.results.toList xs hres
        have hres2 : (results fn a'.tmps).run B.P w3 = .ok (if h : us.toArray.size = 1 then us.toArray[0] else .tuple us.toArray) w3 := by
          have e : results fn a'.tmps = (do let vs ← fn.results.mapM (O5 a'.tmps); pure (if h : vs.size = 1 then vs[0] else .tuple vs)) := rfl
          have hus' : (fn.results.toList.mapM (O5 a'.tmps)).run B.P w3 = .ok us w3 := hus
          rw [e, Sem.run_bind, Array.mapM_eq_mapM_toList, Sem.run_map, hus']
          rfl
        exact ⟨_, hres2, _, _, σ', g3, rfl, hfz, hm3, (Nj he1).trans ((Nj he2).trans ((Al0 (Nj he')).trans ((Al0 (Nj s3)).trans (Nj he3)))), Me hrep⟩
  rcases hu with ⟨rfl | rfl, rfl⟩ | ⟨ch, rfl, rfl⟩
  · exact hcl
  · exact hcl
  · exact hcl
theorem AfA {E : Env} (hE : E.Ok) {m n id : Nat} {l : List Oper} {fr fr' : Fr} {σ σ' : Ab} {K : Dx} (ts : List Nat) (h : ∃ orc, Nu E.toBase orc ∧ Oy E orc false n l ts (fr, σ) = some (fr', σ'))
    (hk : ∀ fr, K .normal ⟨fr, σ'⟩) : Run E m (.region id l.toArray false) ⟨Am n fr, σ⟩ K := by
  obtain ⟨orc, hO, h⟩ := h
  simp only [Oy, Option.bind_eq_some_iff, Option.some.injEq, Prod.mk.injEq] at h
  obtain ⟨⟨fr1, σ1⟩, h1, rfl, rfl⟩ := h
  exact Yv hE hO h1 (hk _)
theorem Aj8 {E : Env} {σ : Ab} {n : Nat} {l : Fr} {rs : List ResultVar} {xs : List AV} (h : Abf E n l σ rs = some xs) : Eh E σ (Am n l) rs = some xs := by rw [Mv]; exact h
attribute [go_sem] Vn Hg
end Go.Rv
