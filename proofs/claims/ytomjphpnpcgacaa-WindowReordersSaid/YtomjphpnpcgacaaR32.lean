/-
  R32: contracts of functions that may panic, from walks through their bodies.
-/
import Derived.Test.YtomjphpnpcgacaaR31
namespace Go.Rv
set_option linter.unusedVariables false
set_option linter.unusedSimpArgs false

theorem thenK_p {E : Env} {n : Nat} {K : Post} {st : St} {y : Code} {c : List PanicEntry} (h : K (.panic c) st) : thenK E n y K (.panic c) st := h
theorem blockK_p {K : Post} {st : St} {i : Nat} {c : List PanicEntry} (h : K (.panic c) st) : blockK i K (.panic c) st := h
theorem scopeK_p {K : Post} {st : St} {c : List PanicEntry} (h : K (.panic c) st) : scopeK K (.panic c) st := h
theorem lpK_p {E : Env} {n : Nat} {K : Post} {st : St} {V X : Type} {S : V → St} {o : V ⊕ X} {c : List PanicEntry} (h : K (.panic c) st) : lpK E n S o K (.panic c) st := h
theorem joinK_p {E : Env} {n : Nat} {K : Post} {st : St} {V : Type} {S : V → St} {J : V → Prop} {c : List PanicEntry} (h : K (.panic c) st) : joinK E n S J K (.panic c) st := h

/-! ### Results that change no more, beside boxes that are handed back -/
def boxesB (n : Nat) (σ : Store) : Bool := (List.range n).all fun i => match σ[i]? with
  | some (.box ..) => true
  | _ => false

theorem boxesB_at {n : Nat} {σ : Store} (h : boxesB n σ = true) {i : Nat} (hi : i < n) : ∃ cs ro, σ[i]? = some (.box cs ro) := by
  have := List.all_eq_true.1 h i (List.mem_range.2 hi)
  split at this
  · rename_i cs ro e; exact ⟨cs, ro, e⟩
  · cases this

theorem fzR_buf {E : Env} {w : World} {g : Gh} {σ : Store} (hm : Mem E w g σ) {pr : Addr → Prop} {v : Value} {x y : AV} (hv : Rep w (prot E g) g v x) (hy : fzR σ x = some y)
    (hp : ∀ a, prot E g a → pr a) (hb : ∀ (id : Nat) (b : GB), g[id]? = some b → (∃ k els ro, σ[id]? = some (.buf k els ro)) → ∀ β off, b.blk = some β → pr ⟨β, off, none⟩) : Rep w pr [] v y := by
  by_cases htu : ∃ xs, x = .tup xs
  · obtain ⟨xs, rfl⟩ := htu
    simp only [fzR, Option.map_eq_some_iff] at hy
    obtain ⟨ys, hys, rfl⟩ := hy
    obtain ⟨hl, hget⟩ := mapM_get _ _ _ hys
    cases hv with
    | tup _ vs _ hs hr =>
      refine .tup _ vs ys (by omega) ?_
      intro i y hi
      obtain ⟨x, hx, hxy⟩ := hget i y hi
      exact fz_rep hm (hr i x hx) hxy hp (fun id b hid hgb β off hβ _ => hb id b hgb (fz_buf hxy hid) β off hβ)
  · have e : fzR σ x = fz σ x := by cases x <;> first | rfl | (exact (htu ⟨_, rfl⟩).elim)
    rw [e] at hy
    exact fz_rep hm hv hy hp (fun id b hid hgb β off hβ _ => hb id b hgb (fz_buf hy hid) β off hβ)

def retZ (E : Env) (n : Nat) (rs : List ResultVar) (r0 : AV) (σ0 : Store) : Post := fun ex st => (ex = .normal ∨ ex = .ret) ∧ (∃ xs, resultA E st.σ st.fr rs = some xs ∧ fzR st.σ (result1 xs) = some r0) ∧ boxesB n st.σ = true ∧ stUp (List.range n) st.σ (List.range n) σ0

theorem ret_fz {E : Env} {n N : Nat} {l : Fr} {σ σ0 : Store} {rs : List ResultVar} {r0 : AV} {ex : Exit} (hex : ex = .normal ∨ ex = .ret) (h : (resL E N l σ rs).bind (fun xs => fzR σ (result1 xs)) = some r0) (hb : boxesB n σ = true) (hσ : stUp (List.range n) σ (List.range n) σ0) : retZ E n rs r0 σ0 ex ⟨asFr N l, σ⟩ := by
  rw [Option.bind_eq_some_iff] at h
  obtain ⟨xs, h1, h2⟩ := h
  exact ⟨hex, ⟨xs, by rw [resL_eq]; exact h1, h2⟩, hb, hσ⟩

/-- How the body of a function must end that ends as 'o' says. -/
def retP (E : Env) (n : Nat) (rs : List ResultVar) : Out → Post
  | .ret r0 σ0 => fun ex st => retO E n rs r0 σ0 ex st ∨ retZ E n rs r0 σ0 ex st
  | .pan v σ0 => fun ex st => ex = .panic (one1 v) ∧ ∃ sel : List Nat, sel.Nodup ∧ sel.take n = List.range n ∧ stUp sel st.σ sel σ0

theorem retP_ret {E : Env} {n : Nat} {rs : List ResultVar} {o : Out} {ex : Exit} {st : St} {r0 : AV} {σ0 : Store} (ho : o = .ret r0 σ0) (h : retO E n rs r0 σ0 ex st) : retP E n rs o ex st := by subst ho; exact .inl h
theorem retP_fz {E : Env} {n : Nat} {rs : List ResultVar} {o : Out} {ex : Exit} {st : St} {r0 : AV} {σ0 : Store} (ho : o = .ret r0 σ0) (h : retZ E n rs r0 σ0 ex st) : retP E n rs o ex st := by subst ho; exact .inr h
theorem retP_pan {E : Env} {n : Nat} {rs : List ResultVar} {o : Out} {v : Value} {fr : List AV} {σ σ0 : Store} (ho : o = .pan v σ0) (sel : List Nat) (hnd : sel.Nodup) (hn : sel.take n = List.range n) (hσ : stUp sel σ sel σ0) : retP E n rs o (.panic (one1 v)) ⟨fr, σ⟩ := by
  subst ho; exact ⟨rfl, sel, hnd, hn, hσ⟩

theorem rel_entry {B : Base} {fn : Func} {args : List AV} {σ : Store} {F : Addr → Prop} {w : World} {g : Gh} {vs : Array Value} (hm : Mem (B.env F) w g σ) (ha : AllRep w (prot (B.env F) g) g vs.toList args) :
    Rel (B.env F) w g ⟨entry fn.ntmps args, σ⟩ { tmps := vs ++ Array.replicate (fn.ntmps - vs.size) undef, defers := [] } := by
  have hlen := allRep_length ha
  simp only [Array.length_toList] at hlen
  refine ⟨?_, ?_, hm, rfl⟩
  · simp [entry, hlen]
  · intro t x hx
    simp only [entry] at hx
    rcases Nat.lt_or_ge t args.length with hl | hl
    · rw [List.getElem?_append_left hl] at hx
      have := allRep_get ha t x hx
      have e : (vs ++ Array.replicate (fn.ntmps - vs.size) undef).getD t undef = vs.toList.getD t undef := by
        refine getD_of_get ?_
        rw [Array.getElem?_append_left (by omega), getD_of_lt (by omega)]
        simp [List.getD_eq_getElem?_getD, Array.getD_eq_getD_getElem?]
      rw [e]
      exact this
    · rw [List.getElem?_append_right hl, List.getElem?_replicate] at hx
      split at hx
      · cases hx; exact .junk _ _
      · cases hx

theorem pan_of {B : Base} {f : FuncId} {fn : Func} {c : Code} {args : List AV} {σ σ0 : Store} {v : Value} (hB : B.Ok) (hf : B.P.funcs[f]? = some fn) (hb : fn.body = some c) (hn : (fn.name == "runtime.NumGoroutine") = false)
    (h : ∀ F, Run (B.env F) σ.length c ⟨entry fn.ntmps args, σ⟩ (fun ex st => ex = .panic (one1 v) ∧ ∃ sel : List Nat, sel.Nodup ∧ sel.take σ.length = List.range σ.length ∧ stUp sel st.σ sel σ0)) : Pan B f args σ v σ0 := by
  refine ⟨fun F w g vs hm ha => .inl ⟨⟨fn, c, hf, hb, hn⟩, ?_⟩⟩
  refine calls_of_wp hf hb ?_
  refine h F _ w g (rel_entry hm ha) _ ?_
  rintro ex st a' w' g' ⟨rfl, sel, h1, h2, h3⟩ hr he
  obtain ⟨s1, s2, s3, s4⟩ := mem_sel hr.mem sel h1 h2 h3
  exact ⟨hr.defers, ghSel sel g', rfl, s2, he.trans s3⟩

/-- A contract of a function that may panic. -/
theorem con_walk_pan {B : Base} {f : FuncId} {fn : Func} {c : Code} {args : List AV} {σ : Store} {o : Out} {rs : List ResultVar} {N : Nat} (n : Nat) (hn0 : σ.length = n) (hB : B.Ok) (hf : B.P.funcs[f]? = some fn) (hb : fn.body = some c) (hn : (fn.name == "runtime.NumGoroutine") = false) (hN : fn.ntmps = N) (hrs : fn.results.toList = rs)
    (hlen : args.length ≤ N) (h : ∀ F, Run (B.env F) n c ⟨asFr N (numb 0 args), σ⟩ (retP (B.env F) n rs o)) : PCon B f args σ o := by
  cases o with
  | ret r0 σ0 =>
    subst hn0
    have h0 : Con B f args σ (fun r σ' => (∃ sel : List Nat, wk2 sel r r0 ∧ sel.Nodup ∧ sel.take σ.length = List.range σ.length ∧ stUp sel σ' sel σ0) ∨
        (fzR σ' r = some r0 ∧ boxesB σ.length σ' = true ∧ stUp (List.range σ.length) σ' (List.range σ.length) σ0)) := by
      refine con_of hB hf hb hn (fun F => ?_)
      subst hN hrs
      rw [entry_asFr fn.ntmps args hlen (numb 0 args) (fun t _ => look_numb args 0 t (Nat.zero_le _))]
      refine run_mono (h F) ?_
      rintro ex st (⟨h1, sel, h2, h3, h4, h5⟩ | ⟨h1, ⟨xs, h2, h3⟩, h4, h5⟩)
      · unfold chkR at h2
        split at h2
        · rename_i xs hxs; exact ⟨h1, xs, hxs, .inl ⟨sel, h2, h3, h4, h5⟩⟩
        · exact h2.elim
      · exact ⟨h1, xs, h2, .inr ⟨h3, h4, h5⟩⟩
    refine ⟨fun F w g vs hm ha => (h0.call F w g vs hm ha).mono ?_⟩
    rintro e w' ⟨v, r, σ', g', h1, ⟨sel, k1, k2, k3, k4⟩ | ⟨k1, k2, k3⟩, h3, h4, h5⟩
    · obtain ⟨s1, s2, s3, s4⟩ := mem_sel h3 sel k2 k3 k4
      exact ⟨v, r0, σ0, ghSel sel g', h1, ⟨rfl, rfl⟩, s2, h4.trans s3, rep_wk2 s4 s1 h5 k1⟩
    · have hrl : (List.range σ.length).length = σ.length := List.length_range
      obtain ⟨s1, s2, s3, s4⟩ := mem_sel (n := σ.length) h3 (List.range σ.length) List.nodup_range (List.take_of_length_le (by simp)) k3
      refine ⟨v, r0, σ0, ghSel (List.range σ.length) g', h1, ⟨rfl, rfl⟩, s2, h4.trans s3, (fzR_buf h3 h5 k1 s4 ?_).mono (fun a u hc hp => ⟨hc, hp⟩) (GLe.nil _)⟩
      rintro id b hgb ⟨k, els, ro, hbuf⟩ β off hβ
      have hid : ¬ id < σ.length := fun hlt => by
        obtain ⟨cs, ro', e⟩ := boxesB_at k2 hlt
        rw [e] at hbuf; cases hbuf
      refine ⟨fun hF => (h3.foreign _ hF).2 ⟨id, b, hgb, hβ⟩, fun id' c hc he => ?_⟩
      exfalso
      obtain ⟨i, e1, e2⟩ := (ghSel_get s1).1 hc
      have := h3.inj i id c b β e2 hgb he hβ
      subst this
      exact hid (by simpa using List.mem_of_getElem? e1)
  | pan v σ0 =>
    subst hn0
    refine pan_of hB hf hb hn (fun F => ?_)
    subst hN hrs
    rw [entry_asFr fn.ntmps args hlen (numb 0 args) (fun t _ => look_numb args 0 t (Nat.zero_le _))]
    exact h F

theorem take_zero' {α : Type} (l : List α) : l.take 0 = [] := rfl
theorem boxesB_zero {σ : Store} : boxesB 0 σ = true := rfl
attribute [go_sem] panVal_i64 Option.map_some boxesB_zero preL_eq panO List.take_succ_cons take_zero' List.take_zero

end Go.Rv
