/-
  Part 30.
-/
import Derived.Test.YtnfoiocigicdnaaGreatDoorYV29
namespace Go.Rv
set_option linter.unusedVariables false
set_option linter.unusedSimpArgs false
theorem Q4 {E : Env} {n : Nat} {K : Dx} {st : St} {y : Code} {c : List PanicEntry} (h : K (.panic c) st) : Uf E n y K (.panic c) st := h
theorem Cr {K : Dx} {st : St} {i : Nat} {c : List PanicEntry} (h : K (.panic c) st) : I3 i K (.panic c) st := h
theorem Aa2 {E : Env} {n : Nat} {K : Dx} {st : St} {V X : Type} {S : V → St} {o : V ⊕ X} {c : List PanicEntry} (h : K (.panic c) st) : lpK E n S o K (.panic c) st := h
theorem Ho {E : Env} {n : Nat} {K : Dx} {st : St} {V : Type} {S : V → St} {J : V → Prop} {c : List PanicEntry} (h : K (.panic c) st) : R2 E n S J K (.panic c) st := h
def Y3 (n : Nat) (σ : Ab) : Bool := (List.range n).all fun i => match σ[i]? with
  | some (.box ..) => true
  | _ => false
theorem AdN {n : Nat} {σ : Ab} (h : Y3 n σ = true) {i : Nat} (hi : i < n) : ∃ cs ro, σ[i]? = some (.box cs ro) := by
  have := List.all_eq_true.1 h i (List.mem_range.2 hi)
  split at this
  · rename_i cs ro e; exact ⟨cs, ro, e⟩
  · cases this
theorem Ajb {E : Env} {w : World} {g : Gh} {σ : Ab} (hm : Mem E w g σ) {pr : Addr → Prop} {v : Value} {x y : AV} (hv : Rep w (A2 E g) g v x) (hy : fzR σ x = some y)
    (hp : ∀ a, A2 E g a → pr a) (hb : ∀ (id : Nat) (b : GB), g[id]? = some b → (∃ k els ro, σ[id]? = some (.buf k els ro)) → ∀ β off, b.blk = some β → pr ⟨β, off, none⟩) : Rep w pr [] v y := by
  by_cases htu : ∃ xs, x = .tup xs
  · obtain ⟨xs, rfl⟩ := htu
    simp only [fzR, Option.map_eq_some_iff] at hy
    obtain ⟨ys, hys, rfl⟩ := hy
    obtain ⟨hl, hget⟩ := J0 _ _ _ hys
    cases hv with
    | tup _ vs _ hs hr =>
      refine .tup _ vs ys (by omega) ?_
      intro i y hi
      obtain ⟨x, hx, hxy⟩ := hget i y hi
      exact Tk hm (hr i x hx) hxy hp (fun id b hid hgb β off hβ _ => hb id b hgb (Ab3 hxy hid) β off hβ)
  · have e : fzR σ x = fz σ x := by cases x <;> first | rfl | (exact (htu ⟨_, rfl⟩).elim)
    rw [e] at hy
    exact Tk hm hv hy hp (fun id b hid hgb β off hβ _ => hb id b hgb (Ab3 hy hid) β off hβ)
def AoB (E : Env) (n : Nat) (rs : List ResultVar) (r0 : AV) (σ0 : Ab) : Dx := fun ex st => (ex = .normal ∨ ex = .ret) ∧ (∃ xs, Eh E st.σ st.fr rs = some xs ∧ fzR st.σ (Hq xs) = some r0) ∧ Y3 n st.σ = true ∧ Kb (List.range n) st.σ (List.range n) σ0
theorem R9 {E : Env} {n N : Nat} {l : Fr} {σ σ0 : Ab} {rs : List ResultVar} {r0 : AV} {ex : Exit} (hex : ex = .normal ∨ ex = .ret) (h : (Abf E N l σ rs).bind (fun xs => fzR σ (Hq xs)) = some r0) (hb : Y3 n σ = true) (hσ : Kb (List.range n) σ (List.range n) σ0) : AoB E n rs r0 σ0 ex ⟨Am N l, σ⟩ := by
  rw [Option.bind_eq_some_iff] at h
  obtain ⟨xs, h1, h2⟩ := h
  exact ⟨hex, ⟨xs, by rw [Mv]; exact h1, h2⟩, hb, hσ⟩
def An5 (E : Env) (n : Nat) (rs : List ResultVar) : Out → Dx
  | .ret r0 σ0 => fun ex st => AmC E n rs r0 σ0 ex st ∨ AoB E n rs r0 σ0 ex st
  | .pan v σ0 => fun ex st => ex = .panic (Abs v) ∧ ∃ sel : List Nat, sel.Nodup ∧ sel.take n = List.range n ∧ Kb sel st.σ sel σ0
theorem Mt {E : Env} {n : Nat} {rs : List ResultVar} {o : Out} {ex : Exit} {st : St} {r0 : AV} {σ0 : Ab} (ho : o = .ret r0 σ0) (h : AoB E n rs r0 σ0 ex st) : An5 E n rs o ex st := by subst ho; exact .inr h
theorem Ef {E : Env} {n : Nat} {rs : List ResultVar} {o : Out} {v : Value} {fr : List AV} {σ σ0 : Ab} (ho : o = .pan v σ0) (sel : List Nat) (hnd : sel.Nodup) (hn : sel.take n = List.range n) (hσ : Kb sel σ sel σ0) : An5 E n rs o (.panic (Abs v)) ⟨fr, σ⟩ := by
  subst ho; exact ⟨rfl, sel, hnd, hn, hσ⟩
theorem W6 {B : Base} {fn : Func} {args : List AV} {σ : Ab} {F : Addr → Prop} {w : World} {g : Gh} {vs : Array Value} (hm : Mem (B.env F) w g σ) (ha : Cm w (A2 (B.env F) g) g vs.toList args) :
    Rel (B.env F) w g ⟨V8 fn.ntmps args, σ⟩ { tmps := vs ++ Array.replicate (fn.ntmps - vs.size) undef, defers := [] } := by
  have hlen := Df ha
  simp only [Array.length_toList] at hlen
  refine ⟨?_, ?_, hm, rfl⟩
  · simp [V8, hlen]
  · intro t x hx
    simp only [V8] at hx
    rcases Nat.lt_or_ge t args.length with hl | hl
    · rw [List.getElem?_append_left hl] at hx
      have := Lq ha t x hx
      have e : (vs ++ Array.replicate (fn.ntmps - vs.size) undef).getD t undef = vs.toList.getD t undef := by
        refine Au ?_
        rw [Array.getElem?_append_left (by omega), A0 (by omega)]
        simp [List.getD_eq_getElem?_getD, Array.getD_eq_getD_getElem?]
      rw [e]
      exact this
    · rw [List.getElem?_append_right hl, List.getElem?_replicate] at hx
      split at hx
      · cases hx; exact .junk _ _
      · cases hx
theorem Ak0 {B : Base} {f : FuncId} {fn : Func} {c : Code} {args : List AV} {σ σ0 : Ab} {v : Value} (hB : B.Ok) (hf : B.P.funcs[f]? = some fn) (hb : fn.body = some c) (hn : (fn.name == "runtime.NumGoroutine") = false)
    (h : ∀ F, Run (B.env F) σ.length c ⟨V8 fn.ntmps args, σ⟩ (fun ex st => ex = .panic (Abs v) ∧ ∃ sel : List Nat, sel.Nodup ∧ sel.take σ.length = List.range σ.length ∧ Kb sel st.σ sel σ0)) : Pan B f args σ v σ0 := by
  refine ⟨fun F w g vs hm ha => .inl ⟨⟨fn, c, hf, hb, hn⟩, ?_⟩⟩
  refine calls_of_wp hf hb ?_
  refine h F _ w g (W6 hm ha) _ ?_
  rintro ex st a' w' g' ⟨rfl, sel, h1, h2, h3⟩ hr he
  obtain ⟨s1, s2, s3, s4⟩ := Qs hr.mem sel h1 h2 h3
  exact ⟨hr.defers, Dl sel g', rfl, s2, he.trans s3⟩
theorem H5 {B : Base} {f : FuncId} {fn : Func} {c : Code} {args : List AV} {σ : Ab} {o : Out} {rs : List ResultVar} {N : Nat} (n : Nat) (hn0 : σ.length = n) (hB : B.Ok) (hf : B.P.funcs[f]? = some fn) (hb : fn.body = some c) (hn : (fn.name == "runtime.NumGoroutine") = false) (hN : fn.ntmps = N) (hrs : fn.results.toList = rs)
    (hlen : args.length ≤ N) (h : ∀ F, Run (B.env F) n c ⟨Am N (S2 0 args), σ⟩ (An5 (B.env F) n rs o)) : PCon B f args σ o := by
  cases o with
  | ret r0 σ0 =>
    subst hn0
    have h0 : Con B f args σ (fun r σ' => (∃ sel : List Nat, wk2 sel r r0 ∧ sel.Nodup ∧ sel.take σ.length = List.range σ.length ∧ Kb sel σ' sel σ0) ∨
        (fzR σ' r = some r0 ∧ Y3 σ.length σ' = true ∧ Kb (List.range σ.length) σ' (List.range σ.length) σ0)) := by
      refine Ab0 hB hf hb hn (fun F => ?_)
      subst hN hrs
      rw [Hd fn.ntmps args hlen (S2 0 args) (fun t _ => Hz args 0 t (Nat.zero_le _))]
      refine G9 (h F) ?_
      rintro ex st (⟨h1, sel, h2, h3, h4, h5⟩ | ⟨h1, ⟨xs, h2, h3⟩, h4, h5⟩)
      · unfold Aj3 at h2
        split at h2
        · rename_i xs hxs; exact ⟨h1, xs, hxs, .inl ⟨sel, h2, h3, h4, h5⟩⟩
        · exact h2.elim
      · exact ⟨h1, xs, h2, .inr ⟨h3, h4, h5⟩⟩
    refine ⟨fun F w g vs hm ha => (h0.call F w g vs hm ha).mono ?_⟩
    rintro e w' ⟨v, r, σ', g', h1, ⟨sel, k1, k2, k3, k4⟩ | ⟨k1, k2, k3⟩, h3, h4, h5⟩
    · obtain ⟨s1, s2, s3, s4⟩ := Qs h3 sel k2 k3 k4
      exact ⟨v, r0, σ0, Dl sel g', h1, ⟨rfl, rfl⟩, s2, h4.trans s3, Aey s4 s1 h5 k1⟩
    · have hrl : (List.range σ.length).length = σ.length := List.length_range
      obtain ⟨s1, s2, s3, s4⟩ := Qs (n := σ.length) h3 (List.range σ.length) List.nodup_range (List.take_of_length_le (by simp)) k3
      refine ⟨v, r0, σ0, Dl (List.range σ.length) g', h1, ⟨rfl, rfl⟩, s2, h4.trans s3, (Ajb h3 h5 k1 s4 ?_).mono (fun a u hc hp => ⟨hc, hp⟩) (GLe.nil _)⟩
      rintro id b hgb ⟨k, els, ro, hbuf⟩ β off hβ
      have hid : ¬ id < σ.length := fun hlt => by
        obtain ⟨cs, ro', e⟩ := AdN k2 hlt
        rw [e] at hbuf; cases hbuf
      refine ⟨fun hF => (h3.foreign _ hF).2 ⟨id, b, hgb, hβ⟩, fun id' c hc he => ?_⟩
      exfalso
      obtain ⟨i, e1, e2⟩ := (A5 s1).1 hc
      have := h3.inj i id c b β e2 hgb he hβ
      subst this
      exact hid (by simpa using List.mem_of_getElem? e1)
  | pan v σ0 =>
    subst hn0
    refine Ak0 hB hf hb hn (fun F => ?_)
    subst hN hrs
    rw [Hd fn.ntmps args hlen (S2 0 args) (fun t _ => Hz args 0 t (Nat.zero_le _))]
    exact h F
theorem Adq {α : Type} (l : List α) : l.take 0 = [] := rfl
theorem Zl {σ : Ab} : Y3 0 σ = true := rfl
attribute [go_sem] Ac6 Option.map_some Zl AjK Aj6 List.take_succ_cons Adq List.take_zero
end Go.Rv
