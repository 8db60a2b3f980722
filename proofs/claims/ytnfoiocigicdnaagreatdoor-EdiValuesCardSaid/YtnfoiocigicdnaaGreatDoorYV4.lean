/-
  Part 4.
-/
import Derived.Test.YtnfoiocigicdnaaGreatDoorYV3
import Derived.ChangeKeysEq
namespace Go.Rv
set_option linter.unusedVariables false
set_option linter.unusedSimpArgs false
variable {E : Env} {w : World} {g : Gh} {σ : Ab}
def Sound (E : Env) (w : World) (g : Gh) (r : Result Value) (x : AV) (σ' : Ab) : Prop :=
  ∃ v w' g', r = .ok v w' ∧ Mem E w' g' σ' ∧ GLe g g' ∧ Evo E 0 w g w' g' ∧ Rep w' (A2 E g') g' v x
theorem Sound.pure {r : Result Value} {v : Value} {x : AV} (hm : Mem E w g σ) (h : r = .ok v w) (hr : Rep w (A2 E g) g v x) : Sound E w g r x σ :=
  ⟨v, w, g, h, hm, GLe.refl _, Evo.refl _ _ _ _, hr⟩
theorem A7 (hE : E.Ok) {t : TypeId} {d : TD} (h : E.tab t = some d) (w : World) : (underlying t).run E.P w = .ok d.desc w := run_underlying (hE.desc t d h) w
theorem Xs (hE : E.Ok) {t : TypeId} {d : TD} (h : E.tab t = some d) (w : World) : (isAgg t).run E.P w = .ok d.isAgg w := by
  unfold isAgg
  rw [Sem.run_bind, A7 hE h]
  unfold TD.isAgg
  cases d.desc <;> rfl
theorem AbF (hE : E.Ok) {t : TypeId} {d : TD} (h : E.tab t = some d) (w : World) : ∃ i, (typeInfo t).run E.P w = .ok i w ∧ i.size = d.size ∧ i.bytes = d.bytes := by
  obtain ⟨i, z, hi, hs, hb, _⟩ := hE.info t d h
  exact ⟨i, by simp [typeInfo, hi], hs, hb⟩
theorem B2 (hE : E.Ok) {t : TypeId} {d : TD} (h : E.tab t = some d) (w : World) : (sizeOf t).run E.P w = .ok d.size w := by
  obtain ⟨i, z, hi, hs, hb, _⟩ := hE.info t d h
  simp [sizeOf, typeInfo, hi, hs]
theorem Li (hE : E.Ok) {t : TypeId} {d : TD} (h : E.tab t = some d) (w : World) : ∃ z, (zeroValue t).run E.P w = .ok z w ∧ z.cells.size = d.size ∧ d.zero.length = d.size ∧
    ∀ w pr g (j : Nat) (x : AV), d.zero[j]? = some x → Rep w pr g (z.cells.getD j undef) x ∧ one (z.cells.getD j undef) = true := by
  obtain ⟨i, z, hi, hs, hb, hz, h1, h2, h3⟩ := hE.info t d h
  exact ⟨z, by simp [zeroValue, typeInfo, hi, hz], by omega, h2, h3⟩
theorem Nz {pr : Addr → Prop} (v : Value) : Rep w pr g v (Ub v) := by
  unfold Ub
  split
  · exact .bool _ _
  · exact .int _ _ _
  · exact .str _ _ _ rfl
  · exact .sl _ none 0 0 true [] 0 (fun _ _ => undef) rfl (Nat.le_refl _) (fun _ => rfl) (fun _ => rfl) (by simp) (by simp) (by simp)
  · exact .junk _ _
  · exact .junk _ _
  · rename_i h1 h2 h3 h4 h5 h6
    refine .val _ _ ?_
    cases v <;> first | rfl | (exact (h5 _ rfl).elim) | (exact (h6 _ rfl).elim)
theorem AaX {pr : Addr → Prop} (v : Value) : Rep w pr g v (Qi v) := by
  unfold Qi
  split
  · rename_i cs
    split
    · rename_i h
      refine .agg _ cs _ (by simp) ?_ ?_
      · intro i x hx
        simp only [List.getElem?_map, Option.map_eq_some_iff] at hx
        obtain ⟨u, hu, rfl⟩ := hx
        have hl : i < cs.size := by simpa using (List.getElem?_eq_some_iff.1 hu).1
        have := Array.all_eq_true.1 h i hl
        simpa [Array.getD, hl] using this
      · intro i x hx
        simp only [List.getElem?_map, Option.map_eq_some_iff] at hx
        obtain ⟨u, hu, rfl⟩ := hx
        have hl : i < cs.size := by simpa using (List.getElem?_eq_some_iff.1 hu).1
        have e : cs.getD i undef = u := by
          have := (List.getElem?_eq_some_iff.1 hu).2
          simp [Array.getD, hl]
          simpa using this
        rw [e]
        exact Nz u
    · exact .junk _ _
  · exact Nz _
theorem Fy {st : St} {a : Act} (h : Rel E w g st a) (x : Operand) : Rep w (A2 E g) g (a.eval x) (ev st.fr x) := by
  cases x with
  | tmp t =>
    show Rep w (A2 E g) g (a.tmps.getD t undef) (st.fr.getD t .junk)
    cases hq : st.fr[t]? with
    | none => rw [List.getD, hq]; exact .junk _ _
    | some x => rw [List.getD, hq]; exact h.slot t x hq
  | const v => exact AaX v
  | global i => exact .glob _ _
  | func f => exact .fn _ f #[] [] rfl (by simp) (by simp)
theorem AjH {pr : Addr → Prop} {v : Value} {x : AV} (h : Rep w pr g v x) (hx : x.cells? = some [x]) (hn : ∀ cs, x ≠ .agg cs) : one v = true := by
  cases h <;> first | rfl | assumption | (simp [AV.cells?] at hx; done) | (exact (hn _ rfl).elim) | (rename_i h; rcases h with rfl | ⟨_, _, rfl⟩ <;> rfl)
theorem Kg {pr : Addr → Prop} {v : Value} {x : AV} {xs : List AV} (h : Rep w pr g v x) (hx : x.cells? = some xs) :
    v.cells.size = xs.length ∧ ∀ (j : Nat) (y : AV), xs[j]? = some y → Rep w pr g (v.cells.getD j undef) y ∧ one (v.cells.getD j undef) = true := by
  by_cases hag : ∃ cs, x = .agg cs
  · obtain ⟨cs, rfl⟩ := hag
    simp [AV.cells?] at hx
    subst hx
    cases h with
    | agg _ vs _ hs ho hr => exact ⟨hs, fun j y hj => ⟨hr j y hj, ho j y hj⟩⟩
  · have hn : ∀ cs, x ≠ .agg cs := fun cs e => hag ⟨cs, e⟩
    have hxs : xs = [x] := by cases x <;> simp_all [AV.cells?]
    subst hxs
    have ho := AjH h hx hn
    have hc : v.cells = #[v] := by cases v <;> first | rfl | (simp [one, Value.oneCell'] at ho)
    rw [hc]
    refine ⟨rfl, fun j y hj => ?_⟩
    cases j with
    | zero => simp at hj; subst hj; exact ⟨h, ho⟩
    | succ n => simp at hj
theorem Pv {vs : Array Value} {v : Value} (h : v ∈ vs.toList) : ∃ j, j < vs.size ∧ vs.getD j undef = v := by
  obtain ⟨j, hj, e⟩ := List.getElem_of_mem h
  refine ⟨j, by simpa using hj, ?_⟩
  have : j < vs.size := by simpa using hj
  simp [Array.getD, this]
  simpa using e
theorem Ae5 {pr : Addr → Prop} {v : Value} {x : AV} {xs : List AV} (h : Rep w pr g v x) (hx : x.cells? = some xs) : ∀ u ∈ v.cells.toList, one u = true := by
  intro u hu
  obtain ⟨h1, h2⟩ := Kg h hx
  obtain ⟨j, hj, e⟩ := Pv hu
  have := (h2 j xs[j] (List.getElem?_eq_getElem (by omega))).2
  rwa [e] at this
def CellsAt (w : World) (pr : Addr → Prop) (g : Gh) (a : Addr) (cs : List AV) : Prop :=
  ∀ (j : Nat) (x : AV), cs[j]? = some x → ∃ u, w.cell? (a.add j) = some u ∧ Rep w pr g u x ∧ one u = true
theorem K2 (a : Addr) (m n : Nat) : (a.add m).add n = a.add (m + n) := by
  unfold Addr.add
  by_cases hm : m = 0
  · subst hm; simp
  · by_cases hn : n = 0
    · subst hn; simp
    · have : m + n ≠ 0 := by omega
      simp [hm, hn, this, Nat.add_assoc]
theorem add_zero (a : Addr) : a.add 0 = a := by simp [Addr.add]
theorem CellsAt.drop {pr : Addr → Prop} {a : Addr} {cs : List AV} (h : CellsAt w pr g a cs) (n : Nat) : CellsAt w pr g (a.add n) (cs.drop n) := by
  intro j x hx
  rw [List.getElem?_drop] at hx
  rw [K2]
  exact h _ _ hx
theorem H8 (hE : E.Ok) {t : TypeId} {d : TD} (ht : E.tab t = some d) {pr : Addr → Prop} {a : Addr} {cs : List AV} (h : CellsAt w pr g a cs) {off : Nat} {x : AV} (hx : partA d cs off = some x) :
    ∃ u, (loadVar t (a.add off)).run E.P w = .ok u w ∧ Rep w pr g u x := by
  unfold partA at hx
  unfold loadVar
  rw [Sem.run_bind, Xs hE ht]
  cases hag : d.isAgg with
  | true =>
    rw [hag] at hx
    simp only [if_true] at hx
    split at hx
    · rename_i hl
      simp only [Option.some.injEq] at hx
      subst hx
      have hcell : ∀ j, j < d.size → w.cell? ((a.add off).add j) = some ((w.cell? ((a.add off).add j)).getD undef) := by
        intro j hj
        obtain ⟨u, hu, _⟩ := h (off + j) cs[off + j] (List.getElem?_eq_getElem (by omega))
        rw [K2, hu]; rfl
      have hrun := run_loadCells (P := E.P) w (a.add off) d.size (fun j => (w.cell? ((a.add off).add j)).getD undef) hcell
      refine ⟨.agg ((List.range d.size).map fun j => (w.cell? ((a.add off).add j)).getD undef).toArray, ?_, ?_⟩
      · simp [Sem.run_bind, B2 hE ht, hrun]
      · refine .agg _ _ _ (by simp; omega) ?_ ?_
        all_goals
          intro i y hy
          have hil : i < d.size := by have := (List.getElem?_eq_some_iff.1 hy).1; simp at this; omega
          rw [List.getElem?_take, if_pos hil, List.getElem?_drop] at hy
          obtain ⟨u, hu, hr, ho⟩ := h _ _ hy
          simp [Array.getD, hil, K2, hu, hr, ho]
    · cases hx
  | false =>
    rw [hag] at hx
    simp only [Bool.false_eq_true, if_false] at hx
    obtain ⟨u, hu, hr, ho⟩ := h _ _ hx
    exact ⟨u, by simp [hu], hr⟩
theorem Afq (hm : Mem E w g σ) {id : Nat} {cs : List AV} {ro : Bool} (hσ : σ[id]? = some (.box cs ro)) {b : GB} (hb : g[id]? = some b) :
    ∃ β, b.blk = some β ∧ CellsAt w (A2 E g) g ⟨β, 0, none⟩ cs := by
  obtain ⟨h1, h2, h3, h4, h5, β, arr, t, fz, h6, h7, h8, h9, h10⟩ := hm.blk id b _ hb hσ
  refine ⟨β, h6, fun j x hx => ?_⟩
  have hl : j < arr.size := by have := (List.getElem?_eq_some_iff.1 hx).1; omega
  obtain ⟨r1, r2⟩ := h10 j x hx
  exact ⟨_, by rw [Bp, Nat.zero_add, cell?_eq h7, A0 hl], r1, r2⟩
theorem Qa (hm : Mem E w g σ) {id : Nat} {k : Nat} {els : List (List AV)} {ro : Bool} (hσ : σ[id]? = some (.buf k els ro)) {b : GB} (hb : g[id]? = some b)
    {β : Nat} (hβ : b.blk = some β) {i : Nat} {cs : List AV} (hi : els[i]? = some cs) : CellsAt w (A2 E g) g ⟨β, b.o + i * k, none⟩ cs := by
  obtain ⟨h1, h2, h3, h4, h5, h6, h7⟩ := hm.blk id b _ hb hσ
  obtain ⟨arr, t, fz, g1, g2, g3, g4, g5⟩ := h7 β hβ
  intro j x hx
  have hil : i < els.length := (List.getElem?_eq_some_iff.1 hi).1
  have hjl : j < cs.length := (List.getElem?_eq_some_iff.1 hx).1
  have hcs := h5 i cs hi
  have hl : b.o + i * k + j < arr.size := by
    have : (i + 1) * k ≤ b.ce * k := Nat.mul_le_mul_right k (by omega)
    rw [Nat.add_mul] at this
    omega
  obtain ⟨r1, r2⟩ := g5 i cs j x hi hx
  exact ⟨_, by rw [Bp, cell?_eq g1, A0 hl], r1, r2⟩
theorem Vl {v : Value} {cs : List AV} (h : Rep w (A2 E g) g v (.rp cs)) : ∃ a, v = .pointer (some a) ∧ CellsAt w (A2 E g) [] a cs ∧ (∀ (j : Nat) (x : AV), cs[j]? = some x → A2 E g (a.add j)) := by
  cases h with
  | rp _ a _ c hc hr => exact ⟨a, rfl, fun j x hx => ⟨c j, (hc j x hx).1, hr j x hx, (hc j x hx).2.2⟩, fun j x hx => (hc j x hx).2.1⟩
theorem Lv (hm : Mem E w g σ) {i : Nat} {cs : List AV} (h : E.G i = some cs) : CellsAt w (A2 E g) [] ⟨i, 0, none⟩ cs ∧ ∀ j, A2 E g ⟨i, j, none⟩ := by
  obtain ⟨h1, h2, hF, c, hc⟩ := hm.glob i cs h
  refine ⟨fun j x hx => ?_, fun j => B4 (hF j) h2⟩
  obtain ⟨q1, q2, q3⟩ := hc j x hx
  exact ⟨c j, by rw [Bp, Nat.zero_add]; exact q1, q2, q3⟩
theorem g_of (hm : Mem E w g σ) {id : Nat} {ab : ABlk} (h : σ[id]? = some ab) : ∃ b, g[id]? = some b :=
  ⟨g[id]'(by rw [hm.len]; exact (List.getElem?_eq_some_iff.1 h).1), List.getElem?_eq_getElem _⟩
theorem Tc (hE : E.Ok) (hm : Mem E w g σ) {t : TypeId} {d : TD} (ht : E.tab t = some d) {v : Value} {a x : AV} (hv : Rep w (A2 E g) g v a) (hx : loadA E σ d a = some x) :
    ∃ u, (Instr.loadAt t v).run E.P w = .ok u w ∧ Rep w (A2 E g) g u x := by
  cases a with
  | ref id off =>
    simp only [loadA] at hx
    cases hσ : σ[id]? with
    | none => simp [hσ] at hx
    | some ab =>
      cases ab with
      | buf k els ro => simp [hσ] at hx
      | obj o => simp [hσ] at hx
      | tb T l => simp [hσ] at hx
      | box cs ro =>
        simp only [hσ] at hx
        cases hv with
        | ref _ _ _ β b hb hbx hβ =>
          obtain ⟨β', hβ', hc⟩ := Afq hm hσ hb
          rw [hβ] at hβ'; cases hβ'
          obtain ⟨u, hu, hr⟩ := H8 hE ht hc hx
          rw [Bp, Nat.zero_add] at hu
          exact ⟨u, by simpa [Instr.loadAt, Instr.sureAddr] using hu, hr⟩
  | eref id tot i j =>
    simp only [loadA] at hx
    cases hσ : σ[id]? with
    | none => simp [hσ] at hx
    | some ab =>
      cases ab with
      | box cs ro => simp [hσ] at hx
      | obj o => simp [hσ] at hx
      | tb T l => simp [hσ] at hx
      | buf k els ro =>
        simp only [hσ] at hx
        split at hx
        · rename_i hlen
          cases hi : els[i]? with
          | none => simp [hi] at hx
          | some cs =>
            simp only [hi] at hx
            cases hv with
            | eref _ _ _ _ _ _ b hb hbx htot h ho =>
              have hk := hm.blk id b _ hb hσ
              have hbl : b.len = els.length := hk.2.2.2.1
              have hbk : b.k = k := hk.2.2.1
              obtain ⟨β, hβ, rfl⟩ := h (by omega)
              have hc := Qa hm hσ hb hβ hi
              obtain ⟨u, hu, hr⟩ := H8 hE ht hc hx
              rw [Bp] at hu
              rw [hbk]
              exact ⟨u, by simpa [Instr.loadAt, Instr.sureAddr] using hu, hr⟩
        · cases hx
  | rp cs =>
    simp only [loadA] at hx
    obtain ⟨a, rfl, hc, _⟩ := Vl hv
    obtain ⟨u, hu, hr⟩ := H8 hE ht hc hx
    rw [add_zero] at hu
    exact ⟨u, by simpa [Instr.loadAt, Instr.sureAddr] using hu, hr.mono (fun _ _ h p => ⟨h, p⟩) (GLe.nil _)⟩
  | glob i =>
    simp only [loadA] at hx
    cases hG : E.G i with
    | none => simp [hG] at hx
    | some cs =>
      simp only [hG] at hx
      cases hv with
      | glob =>
        obtain ⟨hc, _⟩ := Lv hm hG
        obtain ⟨u, hu, hr⟩ := H8 hE ht hc hx
        rw [add_zero] at hu
        exact ⟨u, by simpa [Instr.loadAt, Instr.sureAddr] using hu, hr.mono (fun _ _ h p => ⟨h, p⟩) (GLe.nil _)⟩
  | _ => simp [loadA] at hx
theorem E5 (cs xs : List AV) (off : Nat) : (splice cs off xs).length = cs.length := by
  induction xs generalizing cs off with
  | nil => rfl
  | cons x xs ih => simp [splice, ih]
theorem Ow (cs xs : List AV) (off : Nat) (h : off + xs.length ≤ cs.length) (k : Nat) :
    (splice cs off xs)[k]? = if off ≤ k ∧ k < off + xs.length then xs[k - off]? else cs[k]? := by
  induction xs generalizing cs off with
  | nil => simp [splice]; omega
  | cons x xs ih =>
    simp only [splice]
    rw [ih (cs.set off x) (off + 1) (by simp at h ⊢; omega)]
    simp only [List.length_cons] at h ⊢
    by_cases h1 : off + 1 ≤ k ∧ k < off + 1 + xs.length
    · rw [if_pos h1, if_pos ⟨by omega, by omega⟩]
      have : k - off = (k - (off + 1)) + 1 := by omega
      rw [this, List.getElem?_cons_succ]
    · rw [if_neg h1]
      by_cases h2 : k = off
      · subst h2
        rw [if_pos ⟨Nat.le_refl _, by omega⟩, List.getElem?_set]
        simp; omega
      · rw [if_neg (by omega), List.getElem?_set, if_neg (fun e => h2 e.symm)]
theorem noFreeze.sub {fz : Nat × Nat} {lo hi lo' hi' : Nat} (h : noFreeze fz lo hi) (h1 : lo ≤ lo') (h2 : hi' ≤ hi) : noFreeze fz lo' hi' := ⟨h.1, fun j a b => h.2 j (by omega) (by omega)⟩
theorem toList_getElem? (vs : Array Value) (j : Nat) (h : j < vs.size) : vs.toList[j]? = some (vs.getD j undef) := by
  simp [Array.getD, h]
theorem Au {arr : Array Value} {i : Nat} {v : Value} (h : arr[i]? = some v) : arr.getD i undef = v := by
  obtain ⟨hl, e⟩ := Array.getElem?_eq_some_iff.1 h
  simp [Array.getD, hl, e]
theorem R6 (hE : E.Ok) (hm : Mem E w g σ) {t : TypeId} {d : TD} (ht : E.tab t = some d) {va v : Value} {a x : AV} {σ' : Ab} (hva : Rep w (A2 E g) g va a) (hv : Rep w (A2 E g) g v x)
    (hx : storeA σ d a x = some σ') : ∃ w' g', (Instr.storeAt t va v).run E.P w = .ok () w' ∧ Mem E w' g' σ' ∧ GLe g g' ∧ Evo E 0 w g w' g' := by
  unfold storeA at hx
  cases hxs : x.cells? with
  | none => simp [hxs] at hx
  | some xs =>
    simp only [hxs] at hx
    split at hx
    · cases hx
    rename_i hsz
    have hsz : xs.length = d.size := by simpa using hsz
    obtain ⟨hvs, hvr⟩ := Kg hv hxs
    have hone := Ae5 hv hxs
    have hst : ∀ β off, (Instr.storeAt t (.pointer (some ⟨β, off, none⟩)) v).run E.P w = (storeCells ⟨β, off, none⟩ v.cells.toList).run E.P w := by
      intro β off
      have : ¬ v.cells.size ≠ d.size := by omega
      simp [Instr.storeAt, Instr.sureAddr, storeVar, B2 hE ht, this]
    cases a with
    | ref id off =>
      simp only at hx
      cases hσ : σ[id]? with
      | none => simp [hσ] at hx
      | some ab =>
        cases ab with
        | buf k els ro => simp [hσ] at hx
        | obj o => simp [hσ] at hx
        | tb T l => simp [hσ] at hx
        | box cs ro =>
          cases ro with
          | true => simp [hσ] at hx
          | false =>
            simp only [hσ] at hx
            split at hx
            case isFalse => cases hx
            rename_i hl
            simp only [Option.some.injEq] at hx
            subst hx
            cases hva with
            | ref _ _ _ β b hb hbx hβ =>
              obtain ⟨h1, h2, h3, h4, h5, β', arr, t', fz, h6, h7, h8, h9, h10⟩ := hm.blk id b _ hb hσ
              rw [hβ] at h6; cases h6
              obtain ⟨w', arr', hrun, hw, harr⟩ := I5 E.P h7 v.cells.toList (o := off) (h9.sub (by omega) (by simp; omega)) (by simp; omega) hone
              have hmw := Kh (ab' := .box (splice cs off xs) false) hm hw hb hβ hβ (GB.step.refl b) (by rw [h2]; intro e; cases e) (by
                intro hcells hle
                refine ⟨h1, h2, h3, by rw [E5]; exact h4, h5, β, arr', t', fz, hβ, hw.now, by rw [hw.asize, E5]; exact h8, by rw [hw.asize]; exact h9, ?_⟩
                intro j y hj
                rw [Ow _ _ _ hl] at hj
                have hjl : j < arr.size := by
                  split at hj
                  · omega
                  · have := (List.getElem?_eq_some_iff.1 hj).1; omega
                have ha := harr j
                simp only [Array.length_toList, hvs] at ha
                split at hj
                · rename_i hin
                  rw [if_pos hin, toList_getElem? _ _ (by omega)] at ha
                  rw [Au ha]
                  exact ⟨(hvr _ _ hj).1.mono hcells hle, (hvr _ _ hj).2⟩
                · rename_i hin
                  rw [if_neg hin, A0 hjl] at ha
                  rw [Au ha]
                  exact ⟨(h10 _ _ hj).1.mono hcells hle, (h10 _ _ hj).2⟩)
              exact ⟨w', _, by rw [hst]; exact hrun, hmw.1, hmw.2.1, hmw.2.2⟩
    | eref id tot i j =>
      simp only at hx
      cases hσ : σ[id]? with
      | none => simp [hσ] at hx
      | some ab =>
        cases ab with
        | box cs ro => simp [hσ] at hx
        | obj o => simp [hσ] at hx
        | tb T l => simp [hσ] at hx
        | buf k els ro =>
          cases ro with
          | true => simp [hσ] at hx
          | false =>
            simp only [hσ] at hx
            split at hx
            case isFalse => cases hx
            rename_i hlen
            cases hi : els[i]? with
            | none => simp [hi] at hx
            | some cs =>
              simp only [hi] at hx
              split at hx
              case isFalse => cases hx
              rename_i hl
              simp only [Option.some.injEq] at hx
              subst hx
              cases hva with
              | eref _ _ _ _ _ _ b hb hbx htot hat ho =>
                obtain ⟨h1, h2, h3, h4, h5, h6, h7⟩ := hm.blk id b _ hb hσ
                obtain ⟨β, hβ, rfl⟩ := hat (by omega)
                obtain ⟨arr, t', fz, g1, g2, g3, g4, g5⟩ := h7 β hβ
                have hil : i < els.length := (List.getElem?_eq_some_iff.1 hi).1
                have hcs := h5 i cs hi
                have hik : i * k + k ≤ b.ce * k := by
                  have : (i + 1) * k ≤ b.ce * k := Nat.mul_le_mul_right k (by omega)
                  rwa [Nat.add_mul, Nat.one_mul] at this
                obtain ⟨w', arr', hrun, hw, harr⟩ := I5 E.P g1 v.cells.toList (o := b.o + i * b.k + j) ((g4.sub (lo' := 0) (hi' := arr.size) (Nat.le_refl _) (P5 _ _)).sub (by omega) (by simp only [Array.length_toList]; rw [h3]; omega)) (by simp only [Array.length_toList]; rw [h3]; omega) hone
                have hmw := Kh (ab' := .buf k (els.set i (splice cs j xs)) false) hm hw hb hβ hβ (GB.step.refl b) (by rw [h2]; intro e; cases e) (by
                  intro hcells hle
                  refine ⟨h1, h2, h3, by rw [List.length_set]; exact h4, ?_, fun e => (by rw [hβ] at e; cases e), ?_⟩
                  · intro i' cs' hi'
                    by_cases e : i' = i
                    · subst e; rw [Bi hi] at hi'; cases hi'; rw [E5]; exact hcs
                    · rw [Dm e] at hi'; exact h5 _ _ hi'
                  · intro β' hβ'
                    rw [hβ] at hβ'; cases hβ'
                    refine ⟨arr', t', fz, hw.now, by rw [hw.asize]; exact g2, by rw [List.length_set]; exact g3, by rw [hw.asize]; exact g4, ?_⟩
                    intro i' cs' j' y hi' hj'
                    have hcs' : cs'.length = k ∧ i' < els.length := by
                      by_cases e : i' = i
                      · subst e; rw [Bi hi] at hi'; cases hi'; rw [E5]; exact ⟨hcs, hil⟩
                      · rw [Dm e] at hi'; exact ⟨h5 _ _ hi', (List.getElem?_eq_some_iff.1 hi').1⟩
                    have hjk : j' < k := by have := (List.getElem?_eq_some_iff.1 hj').1; omega
                    have hpos : b.o + i' * k + j' < arr.size := by
                      have : (i' + 1) * k ≤ b.ce * k := Nat.mul_le_mul_right k (by omega)
                      rw [Nat.add_mul, Nat.one_mul] at this
                      omega
                    have ha := harr (b.o + i' * k + j')
                    simp only [Array.length_toList, hvs, h3] at ha
                    by_cases e : i' = i
                    · subst e
                      rw [Bi hi] at hi'; cases hi'
                      rw [Ow _ _ _ hl] at hj'
                      split at hj'
                      · rename_i hin
                        rw [if_pos (by omega), toList_getElem? _ _ (by omega)] at ha
                        rw [Au ha]
                        have e2 : b.o + i' * k + j' - (b.o + i' * k + j) = j' - j := by omega
                        rw [e2]
                        exact ⟨(hvr _ _ hj').1.mono hcells hle, (hvr _ _ hj').2⟩
                      · rename_i hin
                        rw [if_neg (by omega), A0 hpos] at ha
                        rw [Au ha]
                        exact ⟨(g5 _ _ _ _ hi hj').1.mono hcells hle, (g5 _ _ _ _ hi hj').2⟩
                    · rw [Dm e] at hi'
                      have hout : ¬ (b.o + i * k + j ≤ b.o + i' * k + j' ∧ b.o + i' * k + j' < b.o + i * k + j + xs.length) := by
                        rcases Nat.lt_or_gt_of_ne e with h | h
                        · have : (i' + 1) * k ≤ i * k := Nat.mul_le_mul_right k (by omega)
                          rw [Nat.add_mul, Nat.one_mul] at this
                          omega
                        · have : (i + 1) * k ≤ i' * k := Nat.mul_le_mul_right k (by omega)
                          rw [Nat.add_mul, Nat.one_mul] at this
                          omega
                      rw [if_neg hout, A0 hpos] at ha
                      rw [Au ha]
                      exact ⟨(g5 _ _ _ _ hi' hj').1.mono hcells hle, (g5 _ _ _ _ hi' hj').2⟩)
                exact ⟨w', _, by rw [hst]; exact hrun, hmw.1, hmw.2.1, hmw.2.2⟩
    | _ => simp at hx
theorem Db (w : World) (o : Obj) : OneMore w (w.alloc o) o := ⟨rfl, rfl, rfl, rfl⟩
theorem Cu (lo hi : Nat) : noFreeze (0, 0) lo hi := ⟨Nat.le_refl _, fun j _ _ h => by simp at h⟩
theorem Zh {w : World} {pr : Addr → Prop} {g : Gh} {v : Value} {x : AV} {id : Nat} {b : GB} (hb : g[id]? = some b) (hx : b.isBox = true) (h : Rep w pr g v x) : Rep w pr g v (Gt id x) := by
  unfold Gt
  split
  · cases h with
    | val _ _ _ => exact .nref _ _ _ b hb hx (.inl rfl)
  · exact h
theorem Vm (hm : Mem E w g σ) (t : TypeId) {z : Value} {cs : List AV} (hs : z.cells.size = cs.length)
    (hr : ∀ (j : Nat) (x : AV), cs[j]? = some x → Rep w (A2 E g) g (z.cells.getD j undef) x ∧ one (z.cells.getD j undef) = true) :
    ∃ w' g', (newVar t z).run E.P w = .ok ⟨w.heap.size, 0, none⟩ w' ∧ Mem E w' g' (σ ++ [.box (cs.map (Gt σ.length)) false]) ∧ GLe g g' ∧ Evo E 0 w g w' g' ∧ Rep w' (A2 E g') g' (.pointer (some ⟨w.heap.size, 0, none⟩)) (.tref σ.length t) := by
  have hself : (g ++ [({ blk := some w.heap.size, o := 0, k := (cs.map (Gt σ.length)).length, len := 1, ce := t + 2, isBox := true, ro := false } : GB)])[σ.length]? = some { blk := some w.heap.size, o := 0, k := (cs.map (Gt σ.length)).length, len := 1, ce := t + 2, isBox := true, ro := false } := by
    rw [← hm.len, List.getElem?_append_right (Nat.le_refl _)]; simp
  have h := Kl hm (Db w (.cells z.cells t)) { blk := some w.heap.size, o := 0, k := (cs.map (Gt σ.length)).length, len := 1, ce := t + 2, isBox := true, ro := false } (.box (cs.map (Gt σ.length)) false) (.inl rfl)
    (by
      intro hcells hle
      refine ⟨rfl, rfl, rfl, rfl, rfl, w.heap.size, z.cells, t, (0, 0), rfl, ?_, by simpa using hs, Cu _ _, ?_⟩
      · have : tyB { blk := some w.heap.size, o := 0, k := (cs.map (Gt σ.length)).length, len := 1, ce := t + 2, isBox := true, ro := false } t = t := by
          show (if 2 ≤ t + 2 then t + 2 - 2 else t) = t
          rw [if_pos (by exact Nat.le_add_left 2 t)]; exact Nat.add_sub_cancel t 2
        rw [this]
        exact (Db w _).new
      intro j x hj
      rw [List.getElem?_map, Option.map_eq_some_iff] at hj
      obtain ⟨y, hy, rfl⟩ := hj
      exact ⟨Zh hself rfl ((hr j y hy).1.mono hcells hle), (hr j y hy).2⟩)
  refine ⟨_, _, by simp [newVar, newRow], h.1, h.2.1, h.2.2, ?_⟩
  exact .tref _ _ _ _ _ hself rfl rfl rfl
theorem O9 (hm : Mem E w g σ) (t : TypeId) {z : Value} {cs : List AV} (hs : z.cells.size = cs.length)
    (hr : ∀ (j : Nat) (x : AV), cs[j]? = some x → Rep w (A2 E g) g (z.cells.getD j undef) x ∧ one (z.cells.getD j undef) = true) :
    ∃ w' g', (newVar t z).run E.P w = .ok ⟨w.heap.size, 0, none⟩ w' ∧ Mem E w' g' (σ ++ [.box cs false]) ∧ GLe g g' ∧ Evo E 0 w g w' g' ∧ Rep w' (A2 E g') g' (.pointer (some ⟨w.heap.size, 0, none⟩)) (.ref σ.length 0) := by
  have h := Kl hm (Db w (.cells z.cells t)) { blk := some w.heap.size, o := 0, k := cs.length, len := 1, ce := 1, isBox := true, ro := false } (.box cs false) (.inl rfl)
    (by
      intro hcells hle
      refine ⟨rfl, rfl, rfl, rfl, rfl, w.heap.size, z.cells, t, (0, 0), rfl, (Db w _).new, hs, Cu _ _, ?_⟩
      intro j x hj
      exact ⟨(hr j x hj).1.mono hcells hle, (hr j x hj).2⟩)
  refine ⟨_, _, by simp [newVar, newRow], h.1, h.2.1, h.2.2, ?_⟩
  rw [← hm.len]
  exact .ref _ _ _ _ _ (by rw [List.getElem?_append_right (Nat.le_refl _)]; simp; rfl) rfl rfl
end Go.Rv
