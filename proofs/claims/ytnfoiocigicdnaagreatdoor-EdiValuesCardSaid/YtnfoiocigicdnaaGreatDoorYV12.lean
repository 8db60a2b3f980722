/-
  Part 12.
-/
import Derived.Test.YtnfoiocigicdnaaGreatDoorYV11
import Derived.LoopN
namespace Go.Rv
set_option linter.unusedVariables false
set_option linter.unusedSimpArgs false
variable {E : Env}
abbrev Dx := Exit → St → Prop
def Yk (E : Env) (n : Nat) (ops : Array Oper) (l : List Oper) (st : St) (K : Dx) : Prop :=
  ∀ a w g, Rel E w g st a → ∀ Q : Exit → Act → World → Prop, (∀ ex st' a' w' g', K ex st' → Rel E w' g' st' a' → Evo E n w g w' g' → Q ex a' w') → wpList E.P ops Q l a w
def Run (E : Env) (n : Nat) (c : Code) (st : St) (K : Dx) : Prop :=
  ∀ a w g, Rel E w g st a → ∀ Q : Exit → Act → World → Prop, (∀ ex st' a' w' g', K ex st' → Rel E w' g' st' a' → Evo E n w g w' g' → Q ex a' w') → c.wp E.P Q a w
theorem G9 {n : Nat} {c : Code} {st : St} {K K' : Dx} (h : Run E n c st K) (hk : ∀ ex st', K ex st' → K' ex st') : Run E n c st K' :=
  fun a w g hr Q hq => h a w g hr Q (fun ex st' a' w' g' k r e => hq ex st' a' w' g' (hk ex st' k) r e)
def Uf (E : Env) (n : Nat) (y : Code) (K : Dx) : Dx := fun ex st' => match ex with
  | .normal => Run E n y st' K
  | ex => K ex st'
theorem L9 {n : Nat} {x y : Code} {st : St} {K : Dx} (h : Run E n x st (Uf E n y K)) : Run E n (.seq x y) st K := by
  intro a w g hr Q hq
  refine wp_seq (h a w g hr _ ?_)
  intro ex st' a' w' g' hk hr' he
  cases ex <;> first
    | exact hk a' w' g' hr' Q (fun ex2 st2 a2 w2 g2 k r e => hq ex2 st2 a2 w2 g2 k r (he.trans e))
    | exact hq _ st' a' w' g' hk hr' he
theorem Wg {n : Nat} {st : St} {K : Dx} (h : K .normal st) : Run E n .skip st K := fun a w g hr Q hq => wp_skip (hq _ _ _ _ _ h hr (Evo.refl _ _ _ _))
theorem Vo {n : Nat} {st : St} {K : Dx} (h : K .ret st) : Run E n .ret st K := fun a w g hr Q hq => wp_ret (hq _ _ _ _ _ h hr (Evo.refl _ _ _ _))
theorem AgE {n id : Nat} {st : St} {K : Dx} (h : K (.exit id) st) : Run E n (.exit id) st K := fun a w g hr Q hq => wp_exit (hq _ _ _ _ _ h hr (Evo.refl _ _ _ _))
theorem Ahb {n : Nat} {c : Operand} {x y : Code} {st : St} {K : Dx} {t : Bool} (hc : ev st.fr c = .bool t) (ht : t = true → Run E n x st K) (hf : t = false → Run E n y st K) : Run E n (.cond c x y) st K := by
  intro a w g hr Q hq
  have := Fy hr c
  rw [hc] at this
  cases t with
  | true => exact wp_cond_true (Fq this) (ht rfl a w g hr Q hq)
  | false => exact wp_cond_false (Fq this) (hf rfl a w g hr Q hq)
def I3 (id : Nat) (K : Dx) : Dx := fun ex st' => match ex with
  | .exit id' => if id' = id then K .normal st' else K (.exit id') st'
  | ex => K ex st'
theorem Afd {n id : Nat} {c : Code} {st : St} {K : Dx} (h : Run E n c st (I3 id K)) : Run E n (.block id c) st K := by
  intro a w g hr Q hq
  refine wp_block (h a w g hr _ ?_)
  intro ex st' a' w' g' hk hr' he
  cases ex with
  | exit id' =>
    simp only [I3] at hk
    simp only [Exit.inBlock]
    split
    · rename_i e; rw [if_pos e] at hk; exact hq _ _ _ _ _ hk hr' he
    · rename_i e; rw [if_neg e] at hk; exact hq _ _ _ _ _ hk hr' he
  | _ => exact hq _ _ _ _ _ hk hr' he
def LoopN (E : Env) (n : Nat) (c : Code) (K : Dx) : Nat → St → Prop
  | 0, _ => False
  | m + 1, st => Run E n c st (fun ex st' => match ex with
    | .normal => LoopN E n c K m st'
    | ex => K ex st')
theorem Abk {n : Nat} {c : Code} {K : Dx} (m : Nat) {st : St} (h : LoopN E n c K m st) : Run E n (.loop c) st K := by
  intro a w g hr Q hq
  refine wp_loop_rounds m ?_
  have key : ∀ m st a w1 g1, LoopN E n c K m st → Rel E w1 g1 st a → Evo E n w g w1 g1 → Code.rounds E.P c Q m a w1 := by
    intro m
    induction m with
    | zero => intro st a w1 g1 h _ _; exact h.elim
    | succ m ih =>
      intro st a w1 g1 h hr1 he1
      rw [rounds_succ]
      refine h a w1 g1 hr1 _ ?_
      intro ex st' a' w' g' hk hr' he'
      cases ex <;> first
        | exact ih st' a' w' g' hk hr' (he1.trans he')
        | exact hq _ _ _ _ _ hk hr' (he1.trans he')
  exact key m st a w g h hr (Evo.refl _ _ _ _)
theorem Lh {n id : Nat} {l : List Oper} {st : St} {K : Dx} (h : Yk E n l.toArray l st K) : Run E n (.region id l.toArray false) st K :=
  fun a w g hr Q hq => wp_region_lit (h a w g hr Q hq)
theorem AjE {n : Nat} {ops : Array Oper} {st : St} {K : Dx} (h : K .normal st) : Yk E n ops [] st K :=
  fun a w g hr Q hq => wpList_nil (hq _ _ _ _ _ h hr (Evo.refl _ _ _ _))
theorem Aas {P : Program} {o : Oper} {a : Act} {v : Value} {w' : World} {next : Act → World → Prop} {Q : Exit → Act → World → Prop} {r : Result Next} (h : r = .ok (.value v) w' ∨ (r = .ok .skip w' ∧ v = undef))
    (hn : next (a.put o.dst v) w') : o.upon P a next Q r := by
  rcases h with rfl | ⟨rfl, rfl⟩
  · exact hn
  · exact hn
def Pa (ops : Array Oper) (fr : List AV) (j : Nat) : Option (Option Bool) :=
  match (ops[j]?).bind (·.dst) with
  | some d => match fr[d]? with
    | some (.bool b) => some (some b)
    | some (.tup _) => some none
    | _ => none
  | none => none
theorem X0 (w : World) (pr : Addr → Prop) (g : Gh) : Rep w pr g undef (.tup []) := .tup _ #[] [] rfl (by simp)
theorem O2 {ops : Array Oper} {w : World} {g : Gh} {st : St} {a : Act} (hr : Rel E w g st a) {j : Nat} {y : Option Bool} (h : Pa ops st.fr j = some y) : yielded ops a.tmps j = y := by
  unfold Pa at h
  unfold yielded
  split at h
  case h_2 => cases h
  rename_i d hd
  split at h
  case h_3 => cases h
  · rename_i b' hb
    cases h
    have := Fq (hr.slot d _ hb)
    have hl : d < a.tmps.size := by rw [hr.size]; exact (List.getElem?_eq_some_iff.1 hb).1
    rw [hd]
    simp only [Option.bind_some, A0 hl, this]
  · rename_i xs hb
    cases h
    have hl : d < a.tmps.size := by rw [hr.size]; exact (List.getElem?_eq_some_iff.1 hb).1
    have hs := hr.slot d _ hb
    rw [hd]
    simp only [Option.bind_some, A0 hl]
    generalize a.tmps.getD d undef = v at hs
    cases hs with
    | tup _ vs _ _ _ => rfl
def Base.Ok (B : Base) : Prop := (B.env fun _ => False).Ok
theorem Base.Ok.env {B : Base} (h : B.Ok) (F : Addr → Prop) : (B.env F).Ok := ⟨h.desc, h.info⟩
def DoCall (P : Program) (f : FuncId) (vs : Array Value) (w : World) (R : Ending → World → Prop) : Prop :=
  ((∃ fn c, P.funcs[f]? = some fn ∧ fn.body = some c ∧ (fn.name == "runtime.NumGoroutine") = false) ∧ Calls P f vs w R) ∨
  ∃ v, (callFunc f vs).run P w = .ok (.value v) w ∧ R (.returned v) w
theorem DoCall.mono {P : Program} {f : FuncId} {vs : Array Value} {w : World} {R R' : Ending → World → Prop} (h : DoCall P f vs w R) (hr : ∀ e w', R e w' → R' e w') : DoCall P f vs w R' := by
  rcases h with ⟨h1, h2⟩ | ⟨v, h1, h2⟩
  · exact .inl ⟨h1, h2.mono hr⟩
  · exact .inr ⟨v, h1, hr _ _ h2⟩
theorem Na {P : Program} {f : FuncId} {fn : Func} {c : Code} (hf : P.funcs[f]? = some fn) (hb : fn.body = some c) (hn : (fn.name == "runtime.NumGoroutine") = false) (vs : Array Value) (w : World) :
    (callFunc f vs).run P w = .ok (.enter f vs) w := by
  simp only [Sem.run_bind, Sem.run_pure, Result.andThen_ok, callFunc, run_program, hf, hn, hb]
  simp [hn, hb]
theorem DoCall.calls {P : Program} {f : FuncId} {vs : Array Value} {w : World} {R : Ending → World → Prop} (h : DoCall P f vs w R) {fn : Func} {c : Code} (hf : P.funcs[f]? = some fn) (hb : fn.body = some c) (hn : (fn.name == "runtime.NumGoroutine") = false) : Calls P f vs w R := by
  rcases h with ⟨h1, h2⟩ | ⟨v, h1, h2⟩
  · exact h2
  · rw [Na hf hb hn] at h1; cases h1
structure Con (B : Base) (f : FuncId) (args : List AV) (σ : Ab) (R : AV → Ab → Prop) : Prop where
  call : ∀ (F : Addr → Prop) (w : World) (g : Gh) (vs : Array Value), Mem (B.env F) w g σ → Cm w (A2 (B.env F) g) g vs.toList args →
    DoCall B.P f vs w (fun e w' => ∃ v r σ' g', e = .returned v ∧ R r σ' ∧ Mem (B.env F) w' g' σ' ∧ Evo (B.env F) σ.length w g w' g' ∧ Rep w' (A2 (B.env F) g') g' v r)
theorem Con.mono {B : Base} {f : FuncId} {args : List AV} {σ : Ab} {R R' : AV → Ab → Prop} (h : Con B f args σ R) (hr : ∀ r σ', R r σ' → R' r σ') : Con B f args σ R' :=
  ⟨fun F w g vs hm ha => (h.call F w g vs hm ha).mono fun e w' ⟨v, r, σ', g', h1, h2, h3⟩ => ⟨v, r, σ', g', h1, hr _ _ h2, h3⟩⟩
def V8 (n : Nat) (args : List AV) : List AV := args ++ List.replicate (n - args.length) .junk
theorem Df {w : World} {pr : Addr → Prop} {g : Gh} : ∀ {vs : List Value} {xs : List AV}, Cm w pr g vs xs → vs.length = xs.length
  | [], [], _ => rfl
  | v :: vs, x :: xs, h => by simp [Df h.2]
theorem Lq {w : World} {pr : Addr → Prop} {g : Gh} : ∀ {vs : List Value} {xs : List AV}, Cm w pr g vs xs → ∀ (i : Nat) (x : AV), xs[i]? = some x → Rep w pr g (vs.getD i undef) x
  | [], [], _, i, x, h => by simp at h
  | v :: vs, y :: ys, h, 0, x, hx => by simp at hx; subst hx; exact h.1
  | v :: vs, y :: ys, h, i + 1, x, hx => by simpa using Lq h.2 i x (by simpa using hx)
def Eh (E : Env) (σ : Ab) (fr : List AV) : List ResultVar → Option (List AV)
  | [] => some []
  | .tmp t :: r => (Eh E σ fr r).map (fr.getD t .junk :: ·)
  | .cell p t :: r => match E.tab t with
    | some d => match loadA E σ d (fr.getD p .junk), Eh E σ fr r with
      | some x, some xs => some (x :: xs)
      | _, _ => none
    | none => none
def Hq : List AV → AV
  | [x] => x
  | xs => .tup xs
def O5 (tmps : Array Value) : ResultVar → Sem Value
  | .tmp t => pure (tmps.getD t undef)
  | .cell p t => do loadVar t (← asAddr (tmps.getD p undef))
theorem G4 (hE : E.Ok) {w : World} {g : Gh} {st : St} {a : Act} (hr : Rel E w g st a) : ∀ (rs : List ResultVar) (xs : List AV), Eh E st.σ st.fr rs = some xs →
    ∃ vs, (rs.mapM (O5 a.tmps)).run E.P w = .ok vs w ∧ Cm w (A2 E g) g vs xs
  | [], xs, h => by simp [Eh] at h; subst h; exact ⟨[], rfl, trivial⟩
  | .tmp t :: r, xs, h => by
    simp only [Eh, Option.map_eq_some_iff] at h
    obtain ⟨ys, hy, rfl⟩ := h
    obtain ⟨vs, h1, h2⟩ := G4 hE hr r ys hy
    refine ⟨a.tmps.getD t undef :: vs, ?_, ?_, h2⟩
    · rw [List.mapM_cons, Sem.run_bind]
      simp only [O5, Sem.run_pure, Result.andThen_ok, Sem.run_bind, h1]
    · have := Fy hr (.tmp t)
      exact this
  | .cell p t :: r, xs, h => by
    simp only [Eh] at h
    split at h
    case h_2 => cases h
    rename_i d ht
    split at h
    case h_2 => cases h
    rename_i x ys hx hy
    cases h
    obtain ⟨vs, h1, h2⟩ := G4 hE hr r ys hy
    have hrep := Fy hr (.tmp p)
    obtain ⟨u, hu, hru⟩ := Tc hE hr.mem ht hrep hx
    have hptr : ∃ ad, a.tmps.getD p undef = .pointer (some ad) := by
      have h3 : (Instr.loadAt t (a.tmps.getD p undef)).run E.P w = .ok u w := hu
      generalize a.tmps.getD p undef = v at h3
      cases v <;> first
        | (simp [Instr.loadAt, Instr.sureAddr] at h3; done)
        | (rename_i o; cases o <;> first | (simp [Instr.loadAt, Instr.sureAddr] at h3; done) | exact ⟨_, rfl⟩)
    obtain ⟨ad, had⟩ := hptr
    refine ⟨u :: vs, ?_, hru, h2⟩
    have h3 : (Instr.loadAt t (a.tmps.getD p undef)).run E.P w = .ok u w := hu
    rw [had] at h3
    simp only [Instr.loadAt, Instr.sureAddr, Sem.run_bind, Sem.run_pure, Result.andThen_ok] at h3
    rw [List.mapM_cons, Sem.run_bind]
    simp only [O5, had, asAddr, Sem.run_bind, Sem.run_pure, Result.andThen_ok, h3, h1]
theorem Me {w : World} {pr : Addr → Prop} {g : Gh} {vs : List Value} {xs : List AV} (h : Cm w pr g vs xs) : Rep w pr g (if h : vs.toArray.size = 1 then vs.toArray[0] else .tuple vs.toArray) (Hq xs) := by
  match vs, xs, h with
  | [], [], _ => exact .tup _ #[] [] rfl (by simp)
  | [v], [x], h => exact h.1
  | v :: v2 :: vs, x :: x2 :: xs, h =>
    have hl := Df h
    rw [dif_neg (by simp)]
    refine .tup _ _ _ (by simpa using hl) ?_
    intro i y hy
    have := Lq h i y hy
    simpa [List.getD_eq_getElem?_getD, Array.getD_eq_getD_getElem?] using this
theorem Ab0 {B : Base} {f : FuncId} {fn : Func} {c : Code} {args : List AV} {σ : Ab} {R : AV → Ab → Prop} (hB : B.Ok) (hf : B.P.funcs[f]? = some fn) (hb : fn.body = some c) (hn : (fn.name == "runtime.NumGoroutine") = false)
    (h : ∀ F, Run (B.env F) σ.length c ⟨V8 fn.ntmps args, σ⟩ (fun ex st => (ex = .normal ∨ ex = .ret) ∧ ∃ xs, Eh (B.env F) st.σ st.fr fn.results.toList = some xs ∧ R (Hq xs) st.σ)) : Con B f args σ R := by
  refine ⟨fun F w g vs hm ha => .inl ⟨⟨fn, c, hf, hb, hn⟩, ?_⟩⟩
  have hE := hB.env F
  refine calls_of_wp hf hb ?_
  have hlen := Df ha
  simp only [Array.length_toList] at hlen
  refine h F _ w g ⟨?_, ?_, hm, rfl⟩ _ ?_
  · simp [V8, hlen]
  · intro t x hx
    simp only [V8] at hx
    rcases Nat.lt_or_ge t args.length with hl | hl
    · rw [List.getElem?_append_left hl] at hx
      have := Lq ha t x hx
      have e : (vs ++ Array.replicate (fn.ntmps - vs.size) undef).getD t undef = vs.toList.getD t undef := by
        refine Au ?_
        rw [Array.getElem?_append_left (by omega), A0 (by omega)]
        simp [List.getD_eq_getElem?_getD, Array.getD_eq_getD_getElem?]
      rw [e]
      exact this
    · rw [List.getElem?_append_right hl, List.getElem?_replicate] at hx
      split at hx
      · cases hx; exact .junk _ _
      · cases hx
  · intro ex st a' w' g' hk hr he
    obtain ⟨hex, xs, hxs, hR⟩ := hk
    obtain ⟨us, hus, hrep⟩ := G4 hE hr fn.results.toList xs hxs
    have hres : (results fn a'.tmps).run B.P w' = .ok (if h : us.toArray.size = 1 then us.toArray[0] else .tuple us.toArray) w' := by
      have e : results fn a'.tmps = (do let vs ← fn.results.mapM (O5 a'.tmps); pure (if h : vs.size = 1 then vs[0] else .tuple vs)) := rfl
      have hus' : (fn.results.toList.mapM (O5 a'.tmps)).run B.P w' = .ok us w' := hus
      rw [e, Sem.run_bind, Array.mapM_eq_mapM_toList, Sem.run_map, hus']
      rfl
    rcases hex with rfl | rfl
    · exact ⟨hr.defers, _, hres, _, _, _, g', rfl, hR, hr.mem, he, Me hrep⟩
    · exact ⟨hr.defers, _, hres, _, _, _, g', rfl, hR, hr.mem, he, Me hrep⟩
end Go.Rv
