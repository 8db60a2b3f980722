/-
  Part 11.
-/
import Derived.Test.YtnfoiocigicdnaaGreatDoorYV10
namespace Go.Rv
set_option linter.unusedVariables false
set_option linter.unusedSimpArgs false
variable {E : Env} {w : World} {g : Gh} {σ : Ab}
theorem Q3 {pr : Addr → Prop} {k : AV} (h : Gq k = true) {v : Value} (hr : Rep w pr g v k) : v = avV k := by
  cases hr <;> simp only [Gq] at h <;> try (cases h; done)
  case bool => rfl
  case int => rfl
  case str s l hs => subst hs; rfl
theorem M2 {pr : Addr → Prop} {k : AV} (h : Gq k = true) : Rep w pr g (avV k) k := by
  cases k <;> simp only [Gq] at h <;> try (cases h; done)
  case bool b => exact .bool _ _
  case int k n => exact .int _ _ _
  case str s => exact .str _ _ _ (by simp)
theorem AjP {a b : AV} (ha : Gq a = true) (hb : Gq b = true) (h : avV a = avV b) : a = b := by
  cases a <;> simp only [Gq] at ha <;> try (cases ha; done)
  all_goals cases b <;> simp only [Gq] at hb <;> try (cases hb; done)
  all_goals simp [avV] at h
  all_goals simp [h]
theorem AfL {d : TypeDesc} {k : AV} (h : Aj5 d k = true) : MapKept.IsKey d (avV k) ∧ Gq k = true := by
  cases d <;> cases k <;> simp [Aj5] at h <;> simp [MapKept.IsKey, avV, Gq]
  exact h.symm
theorem W0 (hm : Mem E w g σ) {t : TypeId} {x k y : AV} {v kv : Value} {ok : Bool} (hx : Uj E t x k ok = some y) (hv : Rep w (A2 E g) g v x) (hk : Rep w (A2 E g) g kv k) :
    ∃ u, (Instr.lookup t v kv ok).run E.P w = .ok u w ∧ Rep w (A2 E g) g u y := by
  unfold Uj at hx
  split at hx
  case h_2 => cases hx
  rename_i m hM
  split at hx
  case h_2 => cases hx
  rename_i r
  split at hx
  case isFalse => cases hx
  rename_i hc
  obtain ⟨rfl, hkey⟩ := hc
  simp only [Option.some.injEq] at hx
  subst hx
  obtain ⟨hik, hpl⟩ := AfL hkey
  obtain ⟨h1, h2, h3, h4, es, cl, h5, h6, h7⟩ := hm.maps t m hM
  have hkv := Q3 hpl hk
  subst hkv
  have hvv : v = .map (some m.r) := by cases hv; rfl
  subst hvv
  rcases MapKept.findNow_spec hik es.toList 0 (fun x hx => (h6 x hx).1) with ⟨f1, f2⟩ | ⟨j, e, f1, f2, f3⟩
  · have hn : m.ans k = none := by
      refine Classical.byContradiction fun hne => ?_
      obtain ⟨e, he, hek⟩ := h7 k hpl hne
      exact f2 e he hek
    refine ⟨if ok then .tuple #[avV m.zv, .bool false] else avV m.zv, ?_, ?_⟩
    · cases ok <;> simp [Instr.lookup, run_underlying h1, MapKept.run_getObj_map h5, MapKept.run_checkKey h2 hik, MapKept.run_findKey h2 f1, h3, Result.andThen]
    · rw [hn]
      cases ok
      · exact M2 h4
      · refine .tup _ _ _ rfl ?_
        intro i x hi
        match i, hi with
        | 0, hi => cases hi; exact M2 h4
        | 1, hi => cases hi; exact .bool _ _
  · obtain ⟨_, ka, va, q1, q2, q3, q4, q5⟩ := h6 e (List.mem_of_getElem? f2)
    have : ka = k := AjP q3 hpl (q1.symm.trans f3)
    subst this
    refine ⟨if ok then .tuple #[avV va, .bool true] else avV va, ?_, ?_⟩
    · cases ok <;> simp [Instr.lookup, run_underlying h1, MapKept.run_getObj_map h5, MapKept.run_checkKey h2 hik, MapKept.run_findKey h2 f1, Result.andThen, q2]
    · rw [q5]
      cases ok
      · exact M2 q4
      · refine .tup _ _ _ rfl ?_
        intro i x hi
        match i, hi with
        | 0, hi => cases hi; exact M2 q4
        | 1, hi => cases hi; exact .bool _ _
theorem AeF (hE : E.Ok) (hm : Mem E w g σ) {t ty : TypeId} {ts : Array TypeId} (hts : ts[0]? = some t) {v : Value} {x : AV} {n : Nat} (hv : Rep w (A2 E g) g v x) (hx : AeV E σ t x = some n) :
    (Builtin.len_ ts ty #[v]).run E.P w = .ok (.int .i64 n) w := by
  unfold AeV at hx
  cases ht : E.tab t with
  | none => simp [ht] at hx
  | some d =>
    simp only [ht] at hx
    split at hx
    · rename_i s hd
      simp only [Option.some.injEq] at hx
      subst hx
      obtain ⟨ba, rfl, rfl⟩ := Iq hv
      simp [Builtin.len_, hts, A7 hE ht, hd, goInt]
    · rename_i m e hd
      simp only [Option.some.injEq] at hx
      subst hx
      have e : (#[v] : Array Value)[0]? = some v := rfl
      simp only [Builtin.len_, hts, e, A7 hE ht, hd, goInt, Sem.run_bind, Result.andThen_ok, Sem.run_pure]
    · rename_i e full els hd
      simp only [Option.some.injEq] at hx
      subst hx
      cases hv with
      | sl _ a len cap _ _ k c hlen hcap hfull hnone hk hc hr => simp [Builtin.len_, hts, A7 hE ht, hd, goInt, hlen]
    · rename_i e full id tot off len hd
      split at hx
      case h_2 => cases hx
      rename_i k els ro hσ
      split at hx
      case isFalse => cases hx
      simp only [Option.some.injEq] at hx
      subst hx
      cases hv with
      | bs _ _ _ _ _ _ _ b hgb hbx htot hat ho =>
        have hk := hm.blk id b _ hgb hσ
        have hbl : b.len = tot := by have := hk.2.2.2.1; omega
        obtain ⟨a, cap, rfl, _⟩ := hat hbl
        simp [Builtin.len_, hts, A7 hE ht, hd, goInt]
    · cases hx
def Cm (w : World) (pr : Addr → Prop) (g : Gh) : List Value → List AV → Prop
  | [], [] => True
  | v :: r, x :: s => Rep w pr g v x ∧ Cm w pr g r s
  | _, _ => False
theorem Il {pr : Addr → Prop} {P : Program} {f : Int → Int → Int} {m : Value → Value → Sem Value} {k : IntKind} (hm : ∀ a b, (m (.int k a) (.int k b)).run P w = .ok (.int k (f a b)) w) :
    ∀ (r : List AV) (vs : List Value) (a n : Int), Cm w pr g vs r → Lp f k a r = some n → (vs.foldlM m (.int k a)).run P w = .ok (.int k n) w
  | [], [], a, n, _, h => by simp [Lp] at h; subst h; rfl
  | [], _ :: _, _, _, h, _ => by simp [Cm] at h
  | _ :: _, [], _, _, h, _ => by simp [Cm] at h
  | x :: r, v :: vs, a, n, hr, h => by
    unfold Lp at h
    split at h
    · rename_i h1; cases h1
    · rename_i k' b r' h1
      cases h1
      split at h
      case isFalse => cases h
      rename_i hk
      subst hk
      obtain rfl := Cl hr.1
      rw [List.foldlM_cons, Sem.run_bind, hm, Result.andThen_ok]
      exact Il hm r vs _ n hr.2 h
    · cases h
theorem E1 {pr : Addr → Prop} {α : Type} (f : α → Value) (h : α → AV) (hf : ∀ a, Rep w pr g (f a) (h a)) : ∀ l : List α, Cm w pr g (l.map f) (l.map h)
  | [] => trivial
  | a :: l => ⟨hf a, E1 f h hf l⟩
theorem Lb {pr : Addr → Prop} (f : Operand → Value) (h : Operand → AV) (hf : ∀ a, Rep w pr g (f a) (h a)) : ∀ l : List (Nat × Operand), Gm w pr g (l.map fun (i, x) => (i, f x)) (l.map fun (i, x) => (i, h x))
  | [] => trivial
  | (i, a) :: l => ⟨rfl, hf a, Lb f h hf l⟩
theorem Ou {pr : Addr → Prop} (f : Operand → Value) (h : Operand → AV) (hf : ∀ a, Rep w pr g (f a) (h a)) (o : Option Operand) : Id w pr g (o.map f) (o.map h) := by
  cases o with
  | none => trivial
  | some x => exact hf x
def OpSound (E : Env) (w : World) (g : Gh) (r : Result Next) (x : AV) (σ' : Ab) : Prop :=
  ∃ v w' g', (r = .ok (.value v) w' ∨ (r = .ok .skip w' ∧ v = undef)) ∧ Mem E w' g' σ' ∧ GLe g g' ∧ Evo E 0 w g w' g' ∧ Rep w' (A2 E g') g' v x
theorem OpSound.of {r : Result Value} {x : AV} {σ' : Ab} (h : Sound E w g r x σ') : OpSound E w g (r.andThen fun v w' => .ok (.value v) w') x σ' := by
  obtain ⟨v, w', g', rfl, h1, h2, h3, h4⟩ := h
  exact ⟨v, w', g', .inl rfl, h1, h2, h3, h4⟩
theorem OpSound.pure {r : Result Value} {v : Value} {x : AV} (hm : Mem E w g σ) (h : r = .ok v w) (hr : Rep w (A2 E g) g v x) : OpSound E w g (r.andThen fun v w' => .ok (.value v) w') x σ := OpSound.of (Sound.pure hm h hr)
theorem Uy (hE : E.Ok) (hm : Mem E w g σ) {b : Builtin} {ts : Array TypeId} {ty : TypeId} {consts : Array Bool} {vs : Array Value} {xs : List AV} {y : AV} {σ' : Ab} (hv : Cm w (A2 E g) g vs.toList xs)
    (hy : Cs E σ b ts.toList xs = some (y, σ')) : OpSound E w g ((builtin b ts ty consts vs).run E.P w) y σ' := by
  unfold Cs at hy
  split at hy
  · rename_i t _ x hts
    obtain ⟨v, rfl, hx⟩ : ∃ v, vs = #[v] ∧ Rep w (A2 E g) g v x := by
      match hvs : vs.toList, hv with
      | [v], h => exact ⟨v, by apply Array.ext'; simp [hvs], h.1⟩
    rw [Option.map_eq_some_iff] at hy
    obtain ⟨n, hn, hy⟩ := hy
    simp only [Prod.mk.injEq] at hy
    obtain ⟨rfl, rfl⟩ := hy
    have h0 : ts[0]? = some t := by rw [← Array.getElem?_toList, hts]; rfl
    have := AeF (ty := ty) hE hm h0 hx hn
    refine ⟨.int .i64 n, w, g, .inl ?_, hm, GLe.refl _, Evo.refl _ _ _ _, .int _ _ _⟩
    simp [builtin, this]
  · rename_i t u _ s x hts
    obtain ⟨v1, v2, rfl, h1, h2⟩ : ∃ v1 v2, vs = #[v1, v2] ∧ Rep w (A2 E g) g v1 s ∧ Rep w (A2 E g) g v2 x := by
      match hvs : vs.toList, hv with
      | [v1, v2], h => exact ⟨v1, v2, by apply Array.ext'; simp [hvs], h.1, h.2.1⟩
    cases hu : E.tab u with
    | none => simp [hu] at hy
    | some du =>
      simp only [hu] at hy
      split at hy
      · cases hy
      rename_i hnu
      have ht : (Builtin.append_ ts ty #[v1, v2]) = Builtin.append_ #[t, u] ty #[v1, v2] := by
        have h0 : ts[0]? = some t := by rw [← Array.getElem?_toList, hts]; rfl
        have h1 : ts[1]? = some u := by rw [← Array.getElem?_toList, hts]; rfl
        unfold Builtin.append_
        simp only [h0, h1]
        rfl
      have := Xj (ty := ty) hE hm h1 h2 hu (fun k h => hnu k h) hy
      rw [← ht] at this
      have := OpSound.of this
      simpa [builtin] using this
  · rename_i t _ d s hts
    obtain ⟨v1, v2, rfl, h1, h2⟩ : ∃ v1 v2, vs = #[v1, v2] ∧ Rep w (A2 E g) g v1 d ∧ Rep w (A2 E g) g v2 s := by
      match hvs : vs.toList, hv with
      | [v1, v2], h => exact ⟨v1, v2, by apply Array.ext'; simp [hvs], h.1, h.2.1⟩
    have ht : (Builtin.copy_ ts ty #[v1, v2]) = Builtin.copy_ #[t, 0] ty #[v1, v2] := by
      have h0 : ts[0]? = some t := by rw [← Array.getElem?_toList, hts]; rfl
      unfold Builtin.copy_
      simp only [h0]
      rfl
    have := AcX (ty := ty) (u := 0) hE hm h1 h2 hy
    rw [← ht] at this
    have := OpSound.of this
    simpa [builtin] using this
  · rename_i k a r
    rw [Option.map_eq_some_iff] at hy
    obtain ⟨n, hn, hy⟩ := hy
    simp only [Prod.mk.injEq] at hy
    obtain ⟨rfl, rfl⟩ := hy
    match hvs : vs.toList, hv with
    | v :: vr, h =>
      obtain rfl := Cl h.1
      have := Il (P := E.P) (m := Builtin.min2) (f := fun a b => if b < a then b else a) (k := k) (by intro a b; simp [Builtin.min2]) r vr a n h.2 hn
      refine ⟨.int k n, w, g, .inl ?_, hm, GLe.refl _, Evo.refl _ _ _ _, .int _ _ _⟩
      simp [builtin, Builtin.min_, hvs, this]
  · rename_i k a r
    rw [Option.map_eq_some_iff] at hy
    obtain ⟨n, hn, hy⟩ := hy
    simp only [Prod.mk.injEq] at hy
    obtain ⟨rfl, rfl⟩ := hy
    match hvs : vs.toList, hv with
    | v :: vr, h =>
      obtain rfl := Cl h.1
      have := Il (P := E.P) (m := Builtin.max2) (f := fun a b => if b > a then b else a) (k := k) (by intro a b; simp [Builtin.max2]) r vr a n h.2 hn
      refine ⟨.int k n, w, g, .inl ?_, hm, GLe.refl _, Evo.refl _ _ _ _, .int _ _ _⟩
      simp [builtin, Builtin.max_, hvs, this]
  · cases hy
theorem AgR {w : World} {β : Nat} {o : Obj} (h : w.heap[β]? = some o) (hn : Aaq o = true) {a : Addr} (ha : a.block = β) : w.cell? a = none := by
  unfold World.cell?
  rw [ha, h]
  cases o <;> first | rfl | cases hn
theorem AdI {w' : World} (hm : Mem E w g σ) {id β : Nat} {b : GB} {o o' : Obj} (hb : g[id]? = some b) (hσ : σ[id]? = some (.obj o)) (hβ : b.blk = some β) (hn : Aaq o' = true) (hmap : (∀ es cl, o ≠ .map es cl) ∨ ∀ t, E.maps t = none)
    (h1 : w'.heap[β]? = some o') (h2 : ∀ k, k ≠ β → w'.heap[k]? = w.heap[k]?) (hsz : w'.heap.size = w.heap.size) (hos : w'.os = w.os) (ht : w'.tape = w.tape) (hout : w'.output = w.output) :
    Mem E w' g (σ.set id (.obj o')) ∧ Evo E 0 w g w' g := by
  obtain ⟨k1, k2, β', k3, k4⟩ := hm.blk id b _ hb hσ
  rw [hβ] at k3; cases k3
  have hcells : ∀ a u, w.cell? a = some u → A2 E g a → w'.cell? a = some u ∧ A2 E g a := by
    intro a u hc hp
    refine ⟨?_, hp⟩
    by_cases e : a.block = β
    · rw [AgR k4 k2 e] at hc; cases hc
    · rw [← hc]
      unfold World.cell?
      rw [h2 _ e]
  have hmine : Gu g β := ⟨id, b, hb, hβ⟩
  have hne : ∀ k, ¬ Gu g k → k ≠ β := fun k hk e => hk (e ▸ hmine)
  refine ⟨⟨by simp [hm.len], ?_, hm.inj, Dg hm (by omega) (fun _ _ h => h), Fh hm (by omega) hcells (fun _ _ h => h), ?_, Dt hm (fun k _ hk => ⟨h2 k (hne k hk), hk⟩)⟩,
    ⟨hos, ht, hout, by omega, hcells, fun k _ hk => ⟨h2 k (hne k hk), hk⟩, fun _ h => absurd h (Nat.not_lt_zero _)⟩⟩
  · intro id' c ab e1 e2
    by_cases e : id' = id
    · subst e
      rw [hb] at e1; cases e1
      rw [Bi hσ] at e2; cases e2
      exact ⟨k1, hn, β, hβ, h1⟩
    · rw [Dm e] at e2
      refine (hm.blk id' c ab e1 e2).mono hcells (GLe.refl _) (fun β2 hβ2 => h2 β2 fun e3 => e (hm.inj id' id c b β e1 hb (e3 ▸ hβ2) hβ))
  · rcases hmap with hmap | hmap
    · refine Gn hm (fun r es cl hr => ?_)
      by_cases e : r = β
      · subst e
        rw [k4] at hr
        cases hr
        exact (hmap es cl rfl).elim
      · rw [h2 r e]; exact hr
    · intro t m h
      rw [hmap t] at h
      cases h
theorem Yw (hE : E.Ok) {t : TypeId} {kd : TypeDesc} (h : Wm E t = some kd) : ∃ kt et, E.P.underlying t = some (.map kt et) ∧ E.P.underlying kt = some kd := by
  unfold Wm at h
  split at h
  case h_2 => cases h
  rename_i d hd
  split at h
  case h_2 => cases h
  rename_i kt et hs
  split at h
  case h_2 => cases h
  rename_i dk hk
  cases h
  have h1 := hE.desc t d hd
  rw [hs] at h1
  exact ⟨kt, et, h1, hE.desc kt dk hk⟩
theorem Uw (hE : E.Ok) (hm : Mem E w g σ) {t : TypeId} {x k y : AV} {v kv : Value} {ok : Bool} (hx : Gc E σ t x k ok = some y) (hv : Rep w (A2 E g) g v x) (hk : Rep w (A2 E g) g kv k) :
    ∃ u, (Instr.lookup t v kv ok).run E.P w = .ok u w ∧ Rep w (A2 E g) g u y := by
  unfold Gc at hx
  split at hx
  case h_2 => exact W0 hm hx hv hk
  rename_i id
  split at hx
  case h_2 => cases hx
  rename_i b es cl hT hσ
  split at hx
  case h_2 => cases hx
  rename_i s1 s0 h1 h0
  cases hx
  obtain ⟨kt, et, e1, e2⟩ := Yw hE hT
  cases hv with
  | mref _ _ β b' hb hbx hβ =>
  obtain ⟨k1, k2, β', k3, k4⟩ := hm.blk id b' _ hb hσ
  rw [hβ] at k3; cases k3
  obtain rfl := Fq hk
  have key : ∀ {c : Bool} {s : List UInt8}, Ir .bool c es = some s → ∃ u, (Instr.lookup t (.map (some β)) (.bool c) false).run E.P w = .ok u w ∧ Rep w (A2 E g) g u (.str s) := by
    intro c s hf
    unfold Ir at hf
    split at hf
    case h_2 => cases hf
    rename_i i sb hfn
    cases hf
    exact ⟨.string sb, by simp [Instr.lookup, run_underlying e1, MapKept.run_getObj_map k4, MapKept.run_checkKey e2 (k := .bool c) trivial, MapKept.run_findKey e2 hfn, Result.andThen], .str _ _ _ rfl⟩
  cases b
  · exact key h0
  · exact key h1
theorem AcG (hE : E.Ok) {t : TypeId} (h : Ry E t = true) : E.P.underlying t = some .string := by
  unfold Ry at h
  split at h
  case h_2 => cases h
  rename_i d hd
  split at h
  case h_2 => cases h
  rename_i hs
  have := hE.desc t d hd
  rw [hs] at this
  exact this
theorem On (hE : E.Ok) {st : St} {a : Act} (h : Rel E w g st a) {o : Oper} {x : AV} {σ' : Ab} (hx : Fx E st.fr st.σ o.op = some (x, σ')) :
    OpSound E w g ((execOp a.eval o).run E.P w) x σ' := by
  have hr := Fy h
  have hm := h.mem
  unfold execOp
  unfold Fx at hx
  cases hop : o.op <;> simp only [hop] at hx <;> try (cases hx; done)
  case move y =>
    simp only [Option.some.injEq, Prod.mk.injEq] at hx
    obtain ⟨rfl, rfl⟩ := hx
    exact ⟨_, w, g, .inl rfl, hm, GLe.refl _, Evo.refl _ _ _ _, hr y⟩
  case assign y =>
    simp only [Option.some.injEq, Prod.mk.injEq] at hx
    obtain ⟨rfl, rfl⟩ := hx
    exact ⟨_, w, g, .inl rfl, hm, GLe.refl _, Evo.refl _ _ _ _, hr y⟩
  case pick c y z =>
    cases hc : ev st.fr c <;> simp only [hc] at hx <;> try (cases hx; done)
    rename_i t
    simp only [Option.some.injEq, Prod.mk.injEq] at hx
    obtain ⟨rfl, rfl⟩ := hx
    have hcv := hr c
    rw [hc] at hcv
    have := Fq hcv
    refine ⟨if t then a.eval y else a.eval z, w, g, .inl ?_, hm, GLe.refl _, Evo.refl _ _ _ _, ?_⟩
    · cases t <;> simp [this, asBool]
    · cases t
      · exact hr z
      · exact hr y
  case alloc t =>
    cases ht : E.tab t with
    | none => simp [ht] at hx
    | some d =>
      simp only [ht] at hx
      split at hx
      · cases hx
      obtain ⟨z, hz, hz1, hz2, hz3⟩ := Li hE ht w
      by_cases hty : E.bty = some t
      · rw [if_pos hty] at hx
        simp only [Option.some.injEq, Prod.mk.injEq] at hx
        obtain ⟨rfl, rfl⟩ := hx
        obtain ⟨w', g', n1, n2, n3, n4, n5⟩ := Vm hm t (z := z) (cs := d.zero) (by omega) (fun j x hj => hz3 _ _ _ j x hj)
        refine ⟨_, w', g', .inl ?_, n2, n3, n4, n5⟩
        simp [Instr.alloc, hz, n1]
      rw [if_neg hty] at hx
      simp only [Option.some.injEq, Prod.mk.injEq] at hx
      obtain ⟨rfl, rfl⟩ := hx
      obtain ⟨w', g', n1, n2, n3, n4, n5⟩ := O9 hm t (z := z) (cs := d.zero) (by omega) (fun j x hj => hz3 _ _ _ j x hj)
      refine ⟨_, w', g', .inl ?_, n2, n3, n4, n5⟩
      simp [Instr.alloc, hz, n1]
  case box t y =>
    cases hc : (ev st.fr y).cells? with
    | none => simp [hc] at hx
    | some xs =>
      simp only [hc] at hx
      split at hx
      · cases hx
      simp only [Option.some.injEq, Prod.mk.injEq] at hx
      obtain ⟨rfl, rfl⟩ := hx
      obtain ⟨c1, c2⟩ := Kg (hr y) hc
      obtain ⟨w', g', n1, n2, n3, n4, n5⟩ := O9 hm t c1 c2
      refine ⟨_, w', g', .inl ?_, n2, n3, n4, n5⟩
      simp [Instr.box, n1]
  case build t parts =>
    rw [Option.map_eq_some_iff] at hx
    obtain ⟨y, hy, hx⟩ := hx
    simp only [Prod.mk.injEq] at hx
    obtain ⟨rfl, rfl⟩ := hx
    obtain ⟨u, hu, hru⟩ := Y7 (w := w) (g := g) (pr := A2 E g) (parts := parts.map fun (i, x) => (i, a.eval x)) hE (by rw [Array.toList_map]; exact Lb _ _ hr _) hy
    exact ⟨u, w, g, .inl (by simp [hu]), hm, GLe.refl _, Evo.refl _ _ _ _, hru⟩
  case buildSlice t n parts =>
    have := Po (parts := parts.map fun (i, x) => (i, a.eval x)) hE hm (by rw [Array.toList_map]; exact Lb _ _ hr _) hx
    simpa using OpSound.of this
  case load t y =>
    cases ht : E.tab t with
    | none => simp [ht] at hx
    | some d =>
      simp only [ht, Option.map_eq_some_iff] at hx
      obtain ⟨z, hz, hx⟩ := hx
      simp only [Prod.mk.injEq] at hx
      obtain ⟨rfl, rfl⟩ := hx
      obtain ⟨u, hu, hru⟩ := Tc hE hm ht (hr y) hz
      exact ⟨u, w, g, .inl (by simp [hu]), hm, GLe.refl _, Evo.refl _ _ _ _, hru⟩
  case store t y z =>
    cases ht : E.tab t with
    | none => simp [ht] at hx
    | some d =>
      simp only [ht, Option.map_eq_some_iff] at hx
      obtain ⟨σ1, hz, hx⟩ := hx
      simp only [Prod.mk.injEq] at hx
      obtain ⟨rfl, rfl⟩ := hx
      obtain ⟨w', g', h1, h2, h3, h4⟩ := R6 hE hm ht (hr y) (hr z) hz
      exact ⟨undef, w', g', .inr ⟨by simp [h1], rfl⟩, h2, h3, h4, .junk _ _⟩
  case nilCheck y =>
    have hy := hr y
    cases hc : ev st.fr y <;> simp only [hc] at hx <;> first
      | (cases hx; done)
      | (simp only [Option.some.injEq, Prod.mk.injEq] at hx
         obtain ⟨rfl, rfl⟩ := hx
         rw [hc] at hy
         refine ⟨a.eval y, w, g, .inl ?_, hm, GLe.refl _, Evo.refl _ _ _ _, hy⟩
         generalize hv : a.eval y = v at hy
         cases hy <;> simp [hv])
  case makeMap t r =>
    cases r with
    | some _ => cases hx
    | none =>
    cases hx
    have ha := Kl hm (Db w (.map #[] 0)) { blk := some w.heap.size, o := 0, k := 0, len := 1, ce := 1, isBox := true, ro := false } (.obj (.map #[] 0)) (.inl rfl)
      (fun _ _ => ⟨rfl, rfl, w.heap.size, rfl, (Db w _).new⟩)
    refine ⟨.map (some w.heap.size), _, _, .inl ?_, ha.1, ha.2.1, ha.2.2, ?_⟩
    · have hu : (Instr.makeMap t none).run E.P w = .ok (.map (some w.heap.size)) (w.alloc (.map #[] 0)) := by simp [Instr.makeMap]
      show (do pure (.value (← Instr.makeMap t (Option.map a.eval none))) : Sem Next).run E.P w = _
      rw [Option.map_none, Sem.run_bind, hu]; rfl
    · rw [← hm.len]
      exact .mref _ _ _ _ (by rw [List.getElem?_append_right (Nat.le_refl _)]; simp; rfl) rfl rfl
  case insert t m k x1 =>
    rw [Option.map_eq_some_iff] at hx
    obtain ⟨σ1, h1, hx⟩ := hx
    cases hx
    unfold Vw at h1
    split at h1
    case h_2 => cases h1
    rename_i kd id hlm hT hmv
    split at h1
    case h_2 => cases h1
    rename_i es cl hσ
    split at h1
    case isFalse => cases h1
    rename_i hc
    obtain ⟨c1, c2, c3⟩ := hc
    cases h1
    obtain ⟨kt, et, e1, e2⟩ := Yw hE hT
    have hv := hr m
    rw [hmv] at hv
    cases hvv : a.eval m with
    | map p =>
      rw [hvv] at hv
      cases hv with
      | mref _ _ β b hb hbx hβ =>
      obtain ⟨k1, k2, β', k3, k4⟩ := hm.blk id b _ hb hσ
      rw [hβ] at k3; cases k3
      obtain ⟨hik, hpl⟩ := AfL c1
      have hkv := Q3 hpl (hr k)
      have hxv := Q3 c2 (hr x1)
      have hfk : Instr.findNow kd (avV (ev st.fr k)) es.toList 0 = some none := by
        unfold Jt at c3
        split at c3
        · assumption
        · cases c3
      have hu : (Instr.mapUpdate t (.map (some β)) (avV (ev st.fr k)) (avV (ev st.fr x1))).run E.P w = .ok () { w with heap := w.heap.setIfInBounds β (.map (es.push { key := avV (ev st.fr k), val := avV (ev st.fr x1), born := cl }) (cl + 1)) } := by
        simp [Instr.mapUpdate, run_underlying e1, MapKept.run_getObj_map k4, MapKept.run_checkKey e2 hik, MapKept.run_findKey e2 hfk, MapKept.run_setObj_map _ k4, Result.andThen]
      have hs := MapKept.heap_set (o' := .map (es.push { key := avV (ev st.fr k), val := avV (ev st.fr x1), born := cl }) (cl + 1)) k4
      have hmo := AdI (w' := { w with heap := w.heap.setIfInBounds β (.map (es.push { key := avV (ev st.fr k), val := avV (ev st.fr x1), born := cl }) (cl + 1)) }) hm hb hσ hβ (o' := .map (es.push { key := avV (ev st.fr k), val := avV (ev st.fr x1), born := cl }) (cl + 1)) rfl (.inr (E.lmOk hlm))
        hs.1 hs.2 (by simp) rfl rfl rfl
      refine ⟨undef, _, g, .inr ⟨?_, rfl⟩, hmo.1, GLe.refl _, hmo.2, .junk _ _⟩
      rw [Sem.run_bind, hvv, hkv, hxv, hu]; rfl
    | _ => rw [hvv] at hv; cases hv
  case range t y =>
    split at hx
    case h_2 => cases hx
    rename_i s hst hy
    cases hx
    have hv := hr y
    rw [hy] at hv
    obtain ⟨sa, hsa, hl⟩ := Iq hv
    have hbs : (⟨s.toArray⟩ : ByteArray) = sa := by subst hl; simp
    rw [hbs]
    have ha := Kl hm (Db w (.stringIter sa 0)) { blk := some w.heap.size, o := 0, k := 0, len := 1, ce := 1, isBox := true, ro := false } (.obj (.stringIter sa 0)) (.inl rfl)
      (fun _ _ => ⟨rfl, rfl, w.heap.size, rfl, (Db w _).new⟩)
    refine ⟨.pointer (some ⟨w.heap.size, 0, none⟩), _, _, .inl ?_, ha.1, ha.2.1, ha.2.2, ?_⟩
    · have hu : (Instr.range t (a.eval y)).run E.P w = .ok (.pointer (some ⟨w.heap.size, 0, none⟩)) (w.alloc (.stringIter sa 0)) := by
        rw [hsa]
        simp [Instr.range, run_underlying (AcG hE hst)]
      rw [Sem.run_bind, hu]; rfl
    · rw [← hm.len]
      exact .ref _ _ _ _ _ (by rw [List.getElem?_append_right (Nat.le_refl _)]; simp; rfl) rfl rfl
  case next y isS =>
    cases isS with
    | false => cases hx
    | true =>
    simp only at hx
    split at hx
    case h_2 => cases hx
    rename_i id hy
    split at hx
    case h_2 => cases hx
    rename_i s pos hσ
    have hv := hr y
    rw [hy] at hv
    cases hvv : a.eval y with
    | pointer p =>
      rw [hvv] at hv
      cases hv with
      | ref _ _ _ β b hb hbx hβ =>
      obtain ⟨k1, k2, β', k3, k4⟩ := hm.blk id b _ hb hσ
      rw [hβ] at k3; cases k3
      have hg : (getObj β).run E.P w = .ok (.stringIter s pos) w := by simp [getObj, Sem.run, k4]
      split at hx
      · rename_i hlt
        cases hx
        have hset : (setObj β (.stringIter s (pos + (Utf8.decode s pos).2))).run E.P w = .ok () { w with heap := w.heap.setIfInBounds β (.stringIter s (pos + (Utf8.decode s pos).2)) } := by simp [setObj, Sem.run, k4]
        have hlt2 : β < w.heap.size := (Array.getElem?_eq_some_iff.1 k4).1
        have hmo := AdI (w' := { w with heap := w.heap.setIfInBounds β (.stringIter s (pos + (Utf8.decode s pos).2)) }) hm hb hσ hβ (o' := .stringIter s (pos + (Utf8.decode s pos).2)) rfl (.inl fun _ _ => by simp)
          (by simp [Array.getElem?_setIfInBounds, hlt2]) (fun k hk => by simp [Array.getElem?_setIfInBounds, Ne.symm hk]) (by simp) rfl rfl rfl
        refine ⟨.tuple #[.bool true, .int .i64 pos, .int .i32 (Utf8.decode s pos).1], _, g, .inl ?_, hmo.1, GLe.refl _, hmo.2, ?_⟩
        · have hu : (Instr.next (.pointer (some ⟨β, 0, none⟩)) true o.type).run E.P w = .ok (.tuple #[.bool true, .int .i64 pos, .int .i32 (Utf8.decode s pos).1]) { w with heap := w.heap.setIfInBounds β (.stringIter s (pos + (Utf8.decode s pos).2)) } := by
            simp [Instr.next, hg, hlt, hset, goInt]
          rw [Sem.run_bind, hvv, hu]; rfl
        · refine .tup _ _ _ (by simp) (fun i x hi => ?_)
          rcases i with _ | _ | _ | i
          · simp at hi; subst hi; exact .bool _ _
          · simp at hi; subst hi; exact .int _ _ _
          · simp at hi; subst hi; exact .int _ _ _
          · simp at hi
      · rename_i hlt
        cases hx
        refine ⟨.tuple #[.bool false], w, g, .inl ?_, hm, GLe.refl _, Evo.refl _ _ _ _, ?_⟩
        · have hu : (Instr.next (.pointer (some ⟨β, 0, none⟩)) true o.type).run E.P w = .ok (.tuple #[.bool false]) w := by
            simp [Instr.next, hg, hlt]
          rw [Sem.run_bind, hvv, hu]; rfl
        · refine .tup _ _ _ (by simp) (fun i x hi => ?_)
          rcases i with _ | i
          · simp at hi; subst hi; exact .bool _ _
          · simp at hi
    | _ => rw [hvv] at hv; cases hv
  case binOp op t y z yt =>
    rw [Option.map_eq_some_iff] at hx
    obtain ⟨v, hv, hx⟩ := hx
    simp only [Prod.mk.injEq] at hx
    obtain ⟨rfl, rfl⟩ := hx
    cases hn : Rb z with
    | true =>
      rw [hn] at hv
      obtain ⟨u, hu, hru⟩ := X9 hE (hr y) hv y z hn
      have hz : a.eval z = .nilIface := by
        unfold Rb at hn
        split at hn
        · rfl
        · cases hn
      exact ⟨u, w, g, .inl (by rw [Sem.run_bind, hz, hu]; rfl), hm, GLe.refl _, Evo.refl _ _ _ _, hru⟩
    | false =>
    rw [hn] at hv
    obtain ⟨u, hu, hru⟩ := Zv hE (hr y) (hr z) hv y z
    exact ⟨u, w, g, .inl (by rw [Sem.run_bind, hu]; rfl), hm, GLe.refl _, Evo.refl _ _ _ _, hru⟩
  case unOp op t y =>
    rw [Option.map_eq_some_iff] at hx
    obtain ⟨v, hv, hx⟩ := hx
    simp only [Prod.mk.injEq] at hx
    obtain ⟨rfl, rfl⟩ := hx
    obtain ⟨u, hu, hru⟩ := Acz (P := E.P) (hr y) hv
    exact ⟨u, w, g, .inl (by simp [hu]), hm, GLe.refl _, Evo.refl _ _ _ _, hru⟩
  case convert s d y =>
    have := V2 hE hm (hr y) hx
    simpa using OpSound.of this
  case makeFunc fn first caps =>
    cases fn <;> simp only at hx <;> try (cases hx; done)
    rename_i f
    split at hx
    · rename_i h1
      obtain rfl : first = #[] := by apply Array.ext'; simpa using h1
      have hne : ∀ ys, caps.toList.map (ev st.fr) ≠ [.tup ys] := fun ys e => by
        rw [e] at hx; cases hx
      have hx' : some (AV.fn f (caps.toList.map (ev st.fr)), st.σ) = some (x, σ') := by
        split at hx
        · rename_i h2; exact absurd h2 (hne _)
        · exact hx
      simp only [Option.some.injEq, Prod.mk.injEq] at hx'
      obtain ⟨rfl, rfl⟩ := hx'
      refine ⟨.func (.func f) #[] (caps.map a.eval), w, g, .inl (by simp [Instr.makeFunc]), hm, GLe.refl _, Evo.refl _ _ _ _, .fn _ _ _ _ (by simp) ?_ hne⟩
      intro i x hi
      rw [List.getElem?_map, Option.map_eq_some_iff] at hi
      obtain ⟨y, hy, rfl⟩ := hi
      have : (caps.map a.eval).getD i undef = a.eval y := by
        refine Au ?_
        have : caps[i]? = some y := by simpa using hy
        simp [this]
      rw [this]
      exact hr y
    · split at hx
      · rename_i h1 h2
        obtain rfl : caps = #[] := by apply Array.ext'; simpa using h2
        simp only [Option.some.injEq, Prod.mk.injEq] at hx
        obtain ⟨rfl, rfl⟩ := hx
        refine ⟨.func (.func f) (first.map a.eval) #[], w, g, .inl (by simp [Instr.makeFunc]), hm, GLe.refl _, Evo.refl _ _ _ _, .fnb _ _ _ _ (by simp) ?_⟩
        intro i x hi
        rw [List.getElem?_map, Option.map_eq_some_iff] at hi
        obtain ⟨y, hy, rfl⟩ := hi
        have : (first.map a.eval).getD i undef = a.eval y := by
          refine Au ?_
          have : first[i]? = some y := by simpa using hy
          simp [this]
        rw [this]
        exact hr y
      · cases hx
  case makeInterface t y =>
    cases ht : E.tab t with
    | none => simp [ht] at hx
    | some d =>
      simp only [ht] at hx
      split at hx
      · cases hx
      rename_i hni
      simp only [Option.some.injEq, Prod.mk.injEq] at hx
      obtain ⟨rfl, rfl⟩ := hx
      refine ⟨.iface t (a.eval y), w, g, .inl ?_, hm, GLe.refl _, Evo.refl _ _ _ _, .iface _ _ _ _ (hr y)⟩
      cases hd : d.desc <;> first | (exact (hni _ hd).elim) | simp [Instr.makeInterface, A7 hE ht, hd]
  case makeSlice t l c =>
    have := Q9 hE hm (hr l) (hr c) hx
    simpa using OpSound.of this
  case slice t y lo hi mx =>
    have := Zw hE hm (hr y) (Ou a.eval _ hr lo) (Ou a.eval _ hr hi) (Ou a.eval _ hr mx) hx
    simpa using OpSound.of this
  case fieldAddr s y f =>
    rw [Option.map_eq_some_iff] at hx
    obtain ⟨v, hv, hx⟩ := hx
    simp only [Prod.mk.injEq] at hx
    obtain ⟨rfl, rfl⟩ := hx
    obtain ⟨u, hu, hru⟩ := Re hE hm (hr y) hv
    exact ⟨u, w, g, .inl (by simp [hu]), hm, GLe.refl _, Evo.refl _ _ _ _, hru⟩
  case field s y f =>
    rw [Option.map_eq_some_iff] at hx
    obtain ⟨v, hv, hx⟩ := hx
    simp only [Prod.mk.injEq] at hx
    obtain ⟨rfl, rfl⟩ := hx
    obtain ⟨u, hu, hru⟩ := Aad (w := w) hE (hr y) hv
    exact ⟨u, w, g, .inl (by simp [hu]), hm, GLe.refl _, Evo.refl _ _ _ _, hru⟩
  case indexAddr t y i =>
    rw [Option.map_eq_some_iff] at hx
    obtain ⟨v, hv, hx⟩ := hx
    simp only [Prod.mk.injEq] at hx
    obtain ⟨rfl, rfl⟩ := hx
    obtain ⟨u, hu, hru⟩ := Q1 hE hm (hr y) (hr i) hv
    exact ⟨u, w, g, .inl (by simp [hu]), hm, GLe.refl _, Evo.refl _ _ _ _, hru⟩
  case index t y i =>
    rw [Option.map_eq_some_iff] at hx
    obtain ⟨v, hv, hx⟩ := hx
    simp only [Prod.mk.injEq] at hx
    obtain ⟨rfl, rfl⟩ := hx
    obtain ⟨u, hu, hru⟩ := Aab (w := w) hE (hr y) (hr i) hv
    exact ⟨u, w, g, .inl (by simp [hu]), hm, GLe.refl _, Evo.refl _ _ _ _, hru⟩
  case lookup t y z ok =>
    cases hc : Gc E st.σ t (ev st.fr y) (ev st.fr z) ok with
    | none => simp [hc] at hx
    | some u =>
      simp only [hc, Option.map_some, Option.some.injEq, Prod.mk.injEq] at hx
      obtain ⟨rfl, rfl⟩ := hx
      obtain ⟨v, hv1, hv2⟩ := Uw hE hm hc (hr y) (hr z)
      exact ⟨v, w, g, .inl (by simp [hv1]), hm, GLe.refl _, Evo.refl _ _ _ _, hv2⟩
  case extract y i =>
    have hy := hr y
    cases hc : ev st.fr y <;> simp only [hc] at hx <;> try (cases hx; done)
    rename_i vs
    cases hi : vs[i]? with
    | none => simp [hi] at hx
    | some z =>
      simp only [hi, Option.some.injEq, Prod.mk.injEq] at hx
      obtain ⟨rfl, rfl⟩ := hx
      rw [hc] at hy
      generalize hv : a.eval y = v at hy
      cases hy with
      | tup _ us _ hs hru =>
        have hl : i < us.size := by have := (List.getElem?_eq_some_iff.1 hi).1; omega
        exact ⟨us.getD i undef, w, g, .inl (by simp only [Instr.extract, hv, A0 hl, Sem.run_bind, Sem.run_pure, Result.andThen_ok]), hm, GLe.refl _, Evo.refl _ _ _ _, hru _ _ hi⟩
  case call c =>
    cases hc : c.callee <;> simp only [hc] at hx <;> try (cases hx; done)
    rename_i b
    have key : ∀ consts, OpSound E w g ((builtin b c.argTypes o.type consts (c.args.map a.eval)).run E.P w) x σ' := fun consts =>
      Uy (b := b) (ts := c.argTypes) (ty := o.type) (consts := consts) (vs := c.args.map a.eval) hE hm (by rw [Array.toList_map]; exact E1 _ _ hr _) hx
    simp only [resolve, hc, Sem.run_bind, Sem.run_pure, Result.andThen_ok, invoke]
    exact key _
theorem J5 {st : St} {a : Act} (h : Rel E w g st a) {w' : World} {g' : Gh} {σ' : Ab} (hm : Mem E w' g' σ') (hle : GLe g g') (he : Evo E 0 w g w' g') : Rel E w' g' ⟨st.fr, σ'⟩ a :=
  ⟨h.size, fun t x hx => (h.slot t x hx).mono he.cells hle, hm, h.defers⟩
def Bl (fr : List AV) (d : Option Tmp) (x : AV) : List AV :=
  match d with
  | some t => fr.set t x
  | none => fr
theorem It {st : St} {a : Act} (h : Rel E w g st a) (d : Option Tmp) {v : Value} {x : AV} (hv : Rep w (A2 E g) g v x) : Rel E w g ⟨Bl st.fr d x, st.σ⟩ (a.put d v) := by
  cases d with
  | none => exact h
  | some t =>
    refine ⟨by simp [Bl, Act.put, h.size], ?_, h.mem, h.defers⟩
    intro t' x' hx'
    simp only [Bl, Act.put] at hx' ⊢
    by_cases e : t' = t
    · subst e
      rw [List.getElem?_set] at hx'
      simp only [if_true] at hx'
      split at hx'
      · rename_i hl
        cases hx'
        have : (a.tmps.setIfInBounds t' v).getD t' undef = v := by
          have hl' : t' < a.tmps.size := by rw [h.size]; exact hl
          simp [Array.getD, hl']
        rw [this]
        exact hv
      · cases hx'
    · rw [Dm e] at hx'
      have : (a.tmps.setIfInBounds t v).getD t' undef = a.tmps.getD t' undef := by
        simp only [Array.getD_eq_getD_getElem?, Array.getElem?_setIfInBounds]
        rw [if_neg (fun h => e h.symm)]
      rw [this]
      exact h.slot t' x' hx'
theorem Evo.of_gle {n : Nat} {w w' : World} {g g' : Gh} (h : Evo E 0 w g w' g') (hle : GLe g g') : Evo E n w g w' g' :=
  ⟨h.os, h.tape, h.output, h.size, h.cells, h.blocks, fun id _ b hb => hle id b hb⟩
end Go.Rv
