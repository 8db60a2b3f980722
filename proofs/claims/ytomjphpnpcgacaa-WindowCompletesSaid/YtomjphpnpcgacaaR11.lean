/-
  R11: what 'evOp' says is what the model does, for every operation.
-/
import Derived.Test.YtomjphpnpcgacaaR10
namespace Go.Rv
set_option linter.unusedVariables false
set_option linter.unusedSimpArgs false

variable {E : Env} {w : World} {g : Gh} {σ : Store}

/-! ### Looks into maps -/
theorem plain_rep {pr : Addr → Prop} {k : AV} (h : plainA k = true) {v : Value} (hr : Rep w pr g v k) : v = avV k := by
  cases hr <;> simp only [plainA] at h <;> try (cases h; done)
  case bool => rfl
  case int => rfl
  case str s l hs => subst hs; rfl
theorem rep_plain {pr : Addr → Prop} {k : AV} (h : plainA k = true) : Rep w pr g (avV k) k := by
  cases k <;> simp only [plainA] at h <;> try (cases h; done)
  case bool b => exact .bool _ _
  case int k n => exact .int _ _ _
  case str s => exact .str _ _ _ (by simp)
theorem avV_inj {a b : AV} (ha : plainA a = true) (hb : plainA b = true) (h : avV a = avV b) : a = b := by
  cases a <;> simp only [plainA] at ha <;> try (cases ha; done)
  all_goals cases b <;> simp only [plainA] at hb <;> try (cases hb; done)
  all_goals simp [avV] at h
  all_goals simp [h]
theorem keyA_ok {d : TypeDesc} {k : AV} (h : keyA d k = true) : MapKept.IsKey d (avV k) ∧ plainA k = true := by
  cases d <;> cases k <;> simp [keyA] at h <;> simp [MapKept.IsKey, avV, plainA]
  exact h.symm

theorem lookup_sound (hm : Mem E w g σ) {t : TypeId} {x k y : AV} {v kv : Value} {ok : Bool} (hx : lookupA E t x k ok = some y) (hv : Rep w (prot E g) g v x) (hk : Rep w (prot E g) g kv k) :
    ∃ u, (Instr.lookup t v kv ok).run E.P w = .ok u w ∧ Rep w (prot E g) g u y := by
  unfold lookupA at hx
  split at hx
  case h_2 => cases hx
  rename_i m hM
  split at hx
  case h_2 => cases hx
  rename_i r
  split at hx
  case isFalse => cases hx
  rename_i hc
  obtain ⟨rfl, hkey⟩ := hc
  simp only [Option.some.injEq] at hx
  subst hx
  obtain ⟨hik, hpl⟩ := keyA_ok hkey
  obtain ⟨h1, h2, h3, h4, es, cl, h5, h6, h7⟩ := hm.maps t m hM
  have hkv := plain_rep hpl hk
  subst hkv
  have hvv : v = .map (some m.r) := by cases hv; rfl
  subst hvv
  rcases MapKept.findNow_spec hik es.toList 0 (fun x hx => (h6 x hx).1) with ⟨f1, f2⟩ | ⟨j, e, f1, f2, f3⟩
  · have hn : m.ans k = none := by
      refine Classical.byContradiction fun hne => ?_
      obtain ⟨e, he, hek⟩ := h7 k hpl hne
      exact f2 e he hek
    refine ⟨if ok then .tuple #[avV m.zv, .bool false] else avV m.zv, ?_, ?_⟩
    · cases ok <;> simp [Instr.lookup, run_underlying h1, MapKept.run_getObj_map h5, MapKept.run_checkKey h2 hik, MapKept.run_findKey h2 f1, h3, Result.andThen]
    · rw [hn]
      cases ok
      · exact rep_plain h4
      · refine .tup _ _ _ rfl ?_
        intro i x hi
        match i, hi with
        | 0, hi => cases hi; exact rep_plain h4
        | 1, hi => cases hi; exact .bool _ _
  · obtain ⟨_, ka, va, q1, q2, q3, q4, q5⟩ := h6 e (List.mem_of_getElem? f2)
    have : ka = k := avV_inj q3 hpl (q1.symm.trans f3)
    subst this
    refine ⟨if ok then .tuple #[avV va, .bool true] else avV va, ?_, ?_⟩
    · cases ok <;> simp [Instr.lookup, run_underlying h1, MapKept.run_getObj_map h5, MapKept.run_checkKey h2 hik, MapKept.run_findKey h2 f1, Result.andThen, q2]
    · rw [q5]
      cases ok
      · exact rep_plain q4
      · refine .tup _ _ _ rfl ?_
        intro i x hi
        match i, hi with
        | 0, hi => cases hi; exact rep_plain q4
        | 1, hi => cases hi; exact .bool _ _

theorem len_sound (hE : E.Ok) (hm : Mem E w g σ) {t ty : TypeId} {ts : Array TypeId} (hts : ts[0]? = some t) {v : Value} {x : AV} {n : Nat} (hv : Rep w (prot E g) g v x) (hx : lenA E σ t x = some n) :
    (Builtin.len_ ts ty #[v]).run E.P w = .ok (.int .i64 n) w := by
  unfold lenA at hx
  cases ht : E.tab t with
  | none => simp [ht] at hx
  | some d =>
    simp only [ht] at hx
    split at hx
    · rename_i s hd
      simp only [Option.some.injEq] at hx
      subst hx
      obtain ⟨ba, rfl, rfl⟩ := rep_str hv
      simp [Builtin.len_, hts, run_und hE ht, hd, goInt]
    · rename_i m e hd
      simp only [Option.some.injEq] at hx
      subst hx
      have e : (#[v] : Array Value)[0]? = some v := rfl
      simp only [Builtin.len_, hts, e, run_und hE ht, hd, goInt, Sem.run_bind, Result.andThen_ok, Sem.run_pure]
    · rename_i e full els hd
      simp only [Option.some.injEq] at hx
      subst hx
      cases hv with
      | sl _ a len cap _ _ k c hlen hcap hfull hnone hk hc hr => simp [Builtin.len_, hts, run_und hE ht, hd, goInt, hlen]
    · rename_i e full id tot off len hd
      split at hx
      case h_2 => cases hx
      rename_i k els ro hσ
      split at hx
      case isFalse => cases hx
      simp only [Option.some.injEq] at hx
      subst hx
      cases hv with
      | bs _ _ _ _ _ _ _ b hgb hbx htot hat ho =>
        have hk := hm.blk id b _ hgb hσ
        have hbl : b.len = tot := by have := hk.2.2.2.1; omega
        obtain ⟨a, cap, rfl, _⟩ := hat hbl
        simp [Builtin.len_, hts, run_und hE ht, hd, goInt]
    · cases hx

def AllRep (w : World) (pr : Addr → Prop) (g : Gh) : List Value → List AV → Prop
  | [], [] => True
  | v :: r, x :: s => Rep w pr g v x ∧ AllRep w pr g r s
  | _, _ => False

theorem foldInts_sound {pr : Addr → Prop} {P : Program} {f : Int → Int → Int} {m : Value → Value → Sem Value} {k : IntKind} (hm : ∀ a b, (m (.int k a) (.int k b)).run P w = .ok (.int k (f a b)) w) :
    ∀ (r : List AV) (vs : List Value) (a n : Int), AllRep w pr g vs r → foldInts f k a r = some n → (vs.foldlM m (.int k a)).run P w = .ok (.int k n) w
  | [], [], a, n, _, h => by simp [foldInts] at h; subst h; rfl
  | [], _ :: _, _, _, h, _ => by simp [AllRep] at h
  | _ :: _, [], _, _, h, _ => by simp [AllRep] at h
  | x :: r, v :: vs, a, n, hr, h => by
    unfold foldInts at h
    split at h
    · rename_i h1; cases h1
    · rename_i k' b r' h1
      cases h1
      split at h
      case isFalse => cases h
      rename_i hk
      subst hk
      obtain rfl := rep_int hr.1
      rw [List.foldlM_cons, Sem.run_bind, hm, Result.andThen_ok]
      exact foldInts_sound hm r vs _ n hr.2 h
    · cases h

theorem allRep_map {pr : Addr → Prop} {α : Type} (f : α → Value) (h : α → AV) (hf : ∀ a, Rep w pr g (f a) (h a)) : ∀ l : List α, AllRep w pr g (l.map f) (l.map h)
  | [] => trivial
  | a :: l => ⟨hf a, allRep_map f h hf l⟩

theorem partsRep_map {pr : Addr → Prop} (f : Operand → Value) (h : Operand → AV) (hf : ∀ a, Rep w pr g (f a) (h a)) : ∀ l : List (Nat × Operand), PartsRep w pr g (l.map fun (i, x) => (i, f x)) (l.map fun (i, x) => (i, h x))
  | [] => trivial
  | (i, a) :: l => ⟨rfl, hf a, partsRep_map f h hf l⟩

theorem optRep_map {pr : Addr → Prop} (f : Operand → Value) (h : Operand → AV) (hf : ∀ a, Rep w pr g (f a) (h a)) (o : Option Operand) : OptRep w pr g (o.map f) (o.map h) := by
  cases o with
  | none => trivial
  | some x => exact hf x

/-- What a run of an operation leaves. -/
def OpSound (E : Env) (w : World) (g : Gh) (r : Result Next) (x : AV) (σ' : Store) : Prop :=
  ∃ v w' g', (r = .ok (.value v) w' ∨ (r = .ok .skip w' ∧ v = undef)) ∧ Mem E w' g' σ' ∧ GLe g g' ∧ Evo E 0 w g w' g' ∧ Rep w' (prot E g') g' v x

theorem OpSound.of {r : Result Value} {x : AV} {σ' : Store} (h : Sound E w g r x σ') : OpSound E w g (r.andThen fun v w' => .ok (.value v) w') x σ' := by
  obtain ⟨v, w', g', rfl, h1, h2, h3, h4⟩ := h
  exact ⟨v, w', g', .inl rfl, h1, h2, h3, h4⟩

theorem OpSound.pure {r : Result Value} {v : Value} {x : AV} (hm : Mem E w g σ) (h : r = .ok v w) (hr : Rep w (prot E g) g v x) : OpSound E w g (r.andThen fun v w' => .ok (.value v) w') x σ := OpSound.of (Sound.pure hm h hr)

theorem builtin_sound (hE : E.Ok) (hm : Mem E w g σ) {b : Builtin} {ts : Array TypeId} {ty : TypeId} {consts : Array Bool} {vs : Array Value} {xs : List AV} {y : AV} {σ' : Store} (hv : AllRep w (prot E g) g vs.toList xs)
    (hy : builtinA E σ b ts.toList xs = some (y, σ')) : OpSound E w g ((builtin b ts ty consts vs).run E.P w) y σ' := by
  unfold builtinA at hy
  split at hy
  · rename_i t _ x hts
    obtain ⟨v, rfl, hx⟩ : ∃ v, vs = #[v] ∧ Rep w (prot E g) g v x := by
      match hvs : vs.toList, hv with
      | [v], h => exact ⟨v, by apply Array.ext'; simp [hvs], h.1⟩
    rw [Option.map_eq_some_iff] at hy
    obtain ⟨n, hn, hy⟩ := hy
    simp only [Prod.mk.injEq] at hy
    obtain ⟨rfl, rfl⟩ := hy
    have h0 : ts[0]? = some t := by rw [← Array.getElem?_toList, hts]; rfl
    have := len_sound (ty := ty) hE hm h0 hx hn
    refine ⟨.int .i64 n, w, g, .inl ?_, hm, GLe.refl _, Evo.refl _ _ _ _, .int _ _ _⟩
    simp [builtin, this]
  · rename_i t u _ s x hts
    obtain ⟨v1, v2, rfl, h1, h2⟩ : ∃ v1 v2, vs = #[v1, v2] ∧ Rep w (prot E g) g v1 s ∧ Rep w (prot E g) g v2 x := by
      match hvs : vs.toList, hv with
      | [v1, v2], h => exact ⟨v1, v2, by apply Array.ext'; simp [hvs], h.1, h.2.1⟩
    cases hu : E.tab u with
    | none => simp [hu] at hy
    | some du =>
      simp only [hu] at hy
      split at hy
      · cases hy
      rename_i hnu
      have ht : (Builtin.append_ ts ty #[v1, v2]) = Builtin.append_ #[t, u] ty #[v1, v2] := by
        have h0 : ts[0]? = some t := by rw [← Array.getElem?_toList, hts]; rfl
        have h1 : ts[1]? = some u := by rw [← Array.getElem?_toList, hts]; rfl
        unfold Builtin.append_
        simp only [h0, h1]
        rfl
      have := append_sound (ty := ty) hE hm h1 h2 hu (fun k h => hnu k h) hy
      rw [← ht] at this
      have := OpSound.of this
      simpa [builtin] using this
  · rename_i t _ d s hts
    obtain ⟨v1, v2, rfl, h1, h2⟩ : ∃ v1 v2, vs = #[v1, v2] ∧ Rep w (prot E g) g v1 d ∧ Rep w (prot E g) g v2 s := by
      match hvs : vs.toList, hv with
      | [v1, v2], h => exact ⟨v1, v2, by apply Array.ext'; simp [hvs], h.1, h.2.1⟩
    have ht : (Builtin.copy_ ts ty #[v1, v2]) = Builtin.copy_ #[t, 0] ty #[v1, v2] := by
      have h0 : ts[0]? = some t := by rw [← Array.getElem?_toList, hts]; rfl
      unfold Builtin.copy_
      simp only [h0]
      rfl
    have := copy_sound (ty := ty) (u := 0) hE hm h1 h2 hy
    rw [← ht] at this
    have := OpSound.of this
    simpa [builtin] using this
  · rename_i k a r
    rw [Option.map_eq_some_iff] at hy
    obtain ⟨n, hn, hy⟩ := hy
    simp only [Prod.mk.injEq] at hy
    obtain ⟨rfl, rfl⟩ := hy
    match hvs : vs.toList, hv with
    | v :: vr, h =>
      obtain rfl := rep_int h.1
      have := foldInts_sound (P := E.P) (m := Builtin.min2) (f := fun a b => if b < a then b else a) (k := k) (by intro a b; simp [Builtin.min2]) r vr a n h.2 hn
      refine ⟨.int k n, w, g, .inl ?_, hm, GLe.refl _, Evo.refl _ _ _ _, .int _ _ _⟩
      simp [builtin, Builtin.min_, hvs, this]
  · rename_i k a r
    rw [Option.map_eq_some_iff] at hy
    obtain ⟨n, hn, hy⟩ := hy
    simp only [Prod.mk.injEq] at hy
    obtain ⟨rfl, rfl⟩ := hy
    match hvs : vs.toList, hv with
    | v :: vr, h =>
      obtain rfl := rep_int h.1
      have := foldInts_sound (P := E.P) (m := Builtin.max2) (f := fun a b => if b > a then b else a) (k := k) (by intro a b; simp [Builtin.max2]) r vr a n h.2 hn
      refine ⟨.int k n, w, g, .inl ?_, hm, GLe.refl _, Evo.refl _ _ _ _, .int _ _ _⟩
      simp [builtin, Builtin.max_, hvs, this]
  · cases hy

theorem evOp_sound (hE : E.Ok) {st : St} {a : Act} (h : Rel E w g st a) {o : Oper} {x : AV} {σ' : Store} (hx : evOp E st.fr st.σ o.op = some (x, σ')) :
    OpSound E w g ((execOp a.eval o).run E.P w) x σ' := by
  have hr := rep_ev h
  have hm := h.mem
  unfold execOp
  unfold evOp at hx
  cases hop : o.op <;> simp only [hop] at hx <;> try (cases hx; done)
  case move y =>
    simp only [Option.some.injEq, Prod.mk.injEq] at hx
    obtain ⟨rfl, rfl⟩ := hx
    exact ⟨_, w, g, .inl rfl, hm, GLe.refl _, Evo.refl _ _ _ _, hr y⟩
  case assign y =>
    simp only [Option.some.injEq, Prod.mk.injEq] at hx
    obtain ⟨rfl, rfl⟩ := hx
    exact ⟨_, w, g, .inl rfl, hm, GLe.refl _, Evo.refl _ _ _ _, hr y⟩
  case pick c y z =>
    cases hc : ev st.fr c <;> simp only [hc] at hx <;> try (cases hx; done)
    rename_i t
    simp only [Option.some.injEq, Prod.mk.injEq] at hx
    obtain ⟨rfl, rfl⟩ := hx
    have hcv := hr c
    rw [hc] at hcv
    have := rep_bool hcv
    refine ⟨if t then a.eval y else a.eval z, w, g, .inl ?_, hm, GLe.refl _, Evo.refl _ _ _ _, ?_⟩
    · cases t <;> simp [this, asBool]
    · cases t
      · exact hr z
      · exact hr y
  case alloc t =>
    cases ht : E.tab t with
    | none => simp [ht] at hx
    | some d =>
      simp only [ht] at hx
      split at hx
      · cases hx
      simp only [Option.some.injEq, Prod.mk.injEq] at hx
      obtain ⟨rfl, rfl⟩ := hx
      obtain ⟨z, hz, hz1, hz2, hz3⟩ := run_zero hE ht w
      obtain ⟨w', g', n1, n2, n3, n4, n5⟩ := newVar_sound hm t (z := z) (cs := d.zero) (by omega) (fun j x hj => hz3 _ _ _ j x hj)
      refine ⟨_, w', g', .inl ?_, n2, n3, n4, n5⟩
      simp [Instr.alloc, hz, n1]
  case box t y =>
    cases hc : (ev st.fr y).cells? with
    | none => simp [hc] at hx
    | some xs =>
      simp only [hc] at hx
      split at hx
      · cases hx
      simp only [Option.some.injEq, Prod.mk.injEq] at hx
      obtain ⟨rfl, rfl⟩ := hx
      obtain ⟨c1, c2⟩ := rep_cells (hr y) hc
      obtain ⟨w', g', n1, n2, n3, n4, n5⟩ := newVar_sound hm t c1 c2
      refine ⟨_, w', g', .inl ?_, n2, n3, n4, n5⟩
      simp [Instr.box, n1]
  case build t parts =>
    rw [Option.map_eq_some_iff] at hx
    obtain ⟨y, hy, hx⟩ := hx
    simp only [Prod.mk.injEq] at hx
    obtain ⟨rfl, rfl⟩ := hx
    obtain ⟨u, hu, hru⟩ := build_sound (w := w) (g := g) (pr := prot E g) (parts := parts.map fun (i, x) => (i, a.eval x)) hE (by rw [Array.toList_map]; exact partsRep_map _ _ hr _) hy
    exact ⟨u, w, g, .inl (by simp [hu]), hm, GLe.refl _, Evo.refl _ _ _ _, hru⟩
  case buildSlice t n parts =>
    have := buildSlice_sound (parts := parts.map fun (i, x) => (i, a.eval x)) hE hm (by rw [Array.toList_map]; exact partsRep_map _ _ hr _) hx
    simpa using OpSound.of this
  case load t y =>
    cases ht : E.tab t with
    | none => simp [ht] at hx
    | some d =>
      simp only [ht, Option.map_eq_some_iff] at hx
      obtain ⟨z, hz, hx⟩ := hx
      simp only [Prod.mk.injEq] at hx
      obtain ⟨rfl, rfl⟩ := hx
      obtain ⟨u, hu, hru⟩ := load_sound hE hm ht (hr y) hz
      exact ⟨u, w, g, .inl (by simp [hu]), hm, GLe.refl _, Evo.refl _ _ _ _, hru⟩
  case store t y z =>
    cases ht : E.tab t with
    | none => simp [ht] at hx
    | some d =>
      simp only [ht, Option.map_eq_some_iff] at hx
      obtain ⟨σ1, hz, hx⟩ := hx
      simp only [Prod.mk.injEq] at hx
      obtain ⟨rfl, rfl⟩ := hx
      obtain ⟨w', g', h1, h2, h3, h4⟩ := store_sound hE hm ht (hr y) (hr z) hz
      exact ⟨undef, w', g', .inr ⟨by simp [h1], rfl⟩, h2, h3, h4, .junk _ _⟩
  case nilCheck y =>
    have hy := hr y
    cases hc : ev st.fr y <;> simp only [hc] at hx <;> first
      | (cases hx; done)
      | (simp only [Option.some.injEq, Prod.mk.injEq] at hx
         obtain ⟨rfl, rfl⟩ := hx
         rw [hc] at hy
         refine ⟨a.eval y, w, g, .inl ?_, hm, GLe.refl _, Evo.refl _ _ _ _, hy⟩
         generalize hv : a.eval y = v at hy
         cases hy <;> simp [hv])
  case binOp op t y z yt =>
    rw [Option.map_eq_some_iff] at hx
    obtain ⟨v, hv, hx⟩ := hx
    simp only [Prod.mk.injEq] at hx
    obtain ⟨rfl, rfl⟩ := hx
    obtain ⟨u, hu, hru⟩ := binOp_sound hE (hr y) (hr z) hv y z
    exact ⟨u, w, g, .inl (by rw [Sem.run_bind, hu]; rfl), hm, GLe.refl _, Evo.refl _ _ _ _, hru⟩
  case unOp op t y =>
    rw [Option.map_eq_some_iff] at hx
    obtain ⟨v, hv, hx⟩ := hx
    simp only [Prod.mk.injEq] at hx
    obtain ⟨rfl, rfl⟩ := hx
    obtain ⟨u, hu, hru⟩ := unOp_sound (P := E.P) (hr y) hv
    exact ⟨u, w, g, .inl (by simp [hu]), hm, GLe.refl _, Evo.refl _ _ _ _, hru⟩
  case convert s d y =>
    have := convert_sound hE hm (hr y) hx
    simpa using OpSound.of this
  case makeFunc fn first caps =>
    cases fn <;> simp only at hx <;> try (cases hx; done)
    rename_i f
    split at hx
    · rename_i h1
      obtain rfl : first = #[] := by apply Array.ext'; simpa using h1
      have hne : ∀ ys, caps.toList.map (ev st.fr) ≠ [.tup ys] := fun ys e => by
        rw [e] at hx; cases hx
      have hx' : some (AV.fn f (caps.toList.map (ev st.fr)), st.σ) = some (x, σ') := by
        split at hx
        · rename_i h2; exact absurd h2 (hne _)
        · exact hx
      simp only [Option.some.injEq, Prod.mk.injEq] at hx'
      obtain ⟨rfl, rfl⟩ := hx'
      refine ⟨.func (.func f) #[] (caps.map a.eval), w, g, .inl (by simp [Instr.makeFunc]), hm, GLe.refl _, Evo.refl _ _ _ _, .fn _ _ _ _ (by simp) ?_ hne⟩
      intro i x hi
      rw [List.getElem?_map, Option.map_eq_some_iff] at hi
      obtain ⟨y, hy, rfl⟩ := hi
      have : (caps.map a.eval).getD i undef = a.eval y := by
        refine getD_of_get ?_
        have : caps[i]? = some y := by simpa using hy
        simp [this]
      rw [this]
      exact hr y
    · split at hx
      · rename_i h1 h2
        obtain rfl : caps = #[] := by apply Array.ext'; simpa using h2
        simp only [Option.some.injEq, Prod.mk.injEq] at hx
        obtain ⟨rfl, rfl⟩ := hx
        refine ⟨.func (.func f) (first.map a.eval) #[], w, g, .inl (by simp [Instr.makeFunc]), hm, GLe.refl _, Evo.refl _ _ _ _, .fnb _ _ _ _ (by simp) ?_⟩
        intro i x hi
        rw [List.getElem?_map, Option.map_eq_some_iff] at hi
        obtain ⟨y, hy, rfl⟩ := hi
        have : (first.map a.eval).getD i undef = a.eval y := by
          refine getD_of_get ?_
          have : first[i]? = some y := by simpa using hy
          simp [this]
        rw [this]
        exact hr y
      · cases hx
  case makeInterface t y =>
    cases ht : E.tab t with
    | none => simp [ht] at hx
    | some d =>
      simp only [ht] at hx
      split at hx
      · cases hx
      rename_i hni
      simp only [Option.some.injEq, Prod.mk.injEq] at hx
      obtain ⟨rfl, rfl⟩ := hx
      refine ⟨.iface t (a.eval y), w, g, .inl ?_, hm, GLe.refl _, Evo.refl _ _ _ _, .iface _ _ _ _ (hr y)⟩
      cases hd : d.desc <;> first | (exact (hni _ hd).elim) | simp [Instr.makeInterface, run_und hE ht, hd]
  case makeSlice t l c =>
    have := makeSlice_sound hE hm (hr l) (hr c) hx
    simpa using OpSound.of this
  case slice t y lo hi mx =>
    have := slice_sound hE hm (hr y) (optRep_map a.eval _ hr lo) (optRep_map a.eval _ hr hi) (optRep_map a.eval _ hr mx) hx
    simpa using OpSound.of this
  case fieldAddr s y f =>
    rw [Option.map_eq_some_iff] at hx
    obtain ⟨v, hv, hx⟩ := hx
    simp only [Prod.mk.injEq] at hx
    obtain ⟨rfl, rfl⟩ := hx
    obtain ⟨u, hu, hru⟩ := fieldAddr_sound hE hm (hr y) hv
    exact ⟨u, w, g, .inl (by simp [hu]), hm, GLe.refl _, Evo.refl _ _ _ _, hru⟩
  case field s y f =>
    rw [Option.map_eq_some_iff] at hx
    obtain ⟨v, hv, hx⟩ := hx
    simp only [Prod.mk.injEq] at hx
    obtain ⟨rfl, rfl⟩ := hx
    obtain ⟨u, hu, hru⟩ := field_sound (w := w) hE (hr y) hv
    exact ⟨u, w, g, .inl (by simp [hu]), hm, GLe.refl _, Evo.refl _ _ _ _, hru⟩
  case indexAddr t y i =>
    rw [Option.map_eq_some_iff] at hx
    obtain ⟨v, hv, hx⟩ := hx
    simp only [Prod.mk.injEq] at hx
    obtain ⟨rfl, rfl⟩ := hx
    obtain ⟨u, hu, hru⟩ := indexAddr_sound hE hm (hr y) (hr i) hv
    exact ⟨u, w, g, .inl (by simp [hu]), hm, GLe.refl _, Evo.refl _ _ _ _, hru⟩
  case index t y i =>
    rw [Option.map_eq_some_iff] at hx
    obtain ⟨v, hv, hx⟩ := hx
    simp only [Prod.mk.injEq] at hx
    obtain ⟨rfl, rfl⟩ := hx
    obtain ⟨u, hu, hru⟩ := index_sound (w := w) hE (hr y) (hr i) hv
    exact ⟨u, w, g, .inl (by simp [hu]), hm, GLe.refl _, Evo.refl _ _ _ _, hru⟩
  case lookup t y z ok =>
    cases hc : lookupA E t (ev st.fr y) (ev st.fr z) ok with
    | none => simp [hc] at hx
    | some u =>
      simp only [hc, Option.map_some, Option.some.injEq, Prod.mk.injEq] at hx
      obtain ⟨rfl, rfl⟩ := hx
      obtain ⟨v, hv1, hv2⟩ := lookup_sound hm hc (hr y) (hr z)
      exact ⟨v, w, g, .inl (by simp [hv1]), hm, GLe.refl _, Evo.refl _ _ _ _, hv2⟩
  case extract y i =>
    have hy := hr y
    cases hc : ev st.fr y <;> simp only [hc] at hx <;> try (cases hx; done)
    rename_i vs
    cases hi : vs[i]? with
    | none => simp [hi] at hx
    | some z =>
      simp only [hi, Option.some.injEq, Prod.mk.injEq] at hx
      obtain ⟨rfl, rfl⟩ := hx
      rw [hc] at hy
      generalize hv : a.eval y = v at hy
      cases hy with
      | tup _ us _ hs hru =>
        have hl : i < us.size := by have := (List.getElem?_eq_some_iff.1 hi).1; omega
        exact ⟨us.getD i undef, w, g, .inl (by simp only [Instr.extract, hv, getD_of_lt hl, Sem.run_bind, Sem.run_pure, Result.andThen_ok]), hm, GLe.refl _, Evo.refl _ _ _ _, hru _ _ hi⟩
  case call c =>
    cases hc : c.callee <;> simp only [hc] at hx <;> try (cases hx; done)
    rename_i b
    have key : ∀ consts, OpSound E w g ((builtin b c.argTypes o.type consts (c.args.map a.eval)).run E.P w) x σ' := fun consts =>
      builtin_sound (b := b) (ts := c.argTypes) (ty := o.type) (consts := consts) (vs := c.args.map a.eval) hE hm (by rw [Array.toList_map]; exact allRep_map _ _ hr _) hx
    simp only [resolve, hc, Sem.run_bind, Sem.run_pure, Result.andThen_ok, invoke]
    exact key _

/-! ### The state behind an operation -/
theorem rel_mem {st : St} {a : Act} (h : Rel E w g st a) {w' : World} {g' : Gh} {σ' : Store} (hm : Mem E w' g' σ') (hle : GLe g g') (he : Evo E 0 w g w' g') : Rel E w' g' ⟨st.fr, σ'⟩ a :=
  ⟨h.size, fun t x hx => (h.slot t x hx).mono he.cells hle, hm, h.defers⟩

def setSlot (fr : List AV) (d : Option Tmp) (x : AV) : List AV :=
  match d with
  | some t => fr.set t x
  | none => fr

theorem rel_put {st : St} {a : Act} (h : Rel E w g st a) (d : Option Tmp) {v : Value} {x : AV} (hv : Rep w (prot E g) g v x) : Rel E w g ⟨setSlot st.fr d x, st.σ⟩ (a.put d v) := by
  cases d with
  | none => exact h
  | some t =>
    refine ⟨by simp [setSlot, Act.put, h.size], ?_, h.mem, h.defers⟩
    intro t' x' hx'
    simp only [setSlot, Act.put] at hx' ⊢
    by_cases e : t' = t
    · subst e
      rw [List.getElem?_set] at hx'
      simp only [if_true] at hx'
      split at hx'
      · rename_i hl
        cases hx'
        have : (a.tmps.setIfInBounds t' v).getD t' undef = v := by
          have hl' : t' < a.tmps.size := by rw [h.size]; exact hl
          simp [Array.getD, hl']
        rw [this]
        exact hv
      · cases hx'
    · rw [set_ne e] at hx'
      have : (a.tmps.setIfInBounds t v).getD t' undef = a.tmps.getD t' undef := by
        simp only [Array.getD_eq_getD_getElem?, Array.getElem?_setIfInBounds]
        rw [if_neg (fun h => e h.symm)]
      rw [this]
      exact h.slot t' x' hx'

theorem Evo.of_gle {n : Nat} {w w' : World} {g g' : Gh} (h : Evo E 0 w g w' g') (hle : GLe g g') : Evo E n w g w' g' :=
  ⟨h.os, h.tape, h.output, h.size, h.cells, h.blocks, fun id _ b hb => hle id b hb⟩

end Go.Rv
