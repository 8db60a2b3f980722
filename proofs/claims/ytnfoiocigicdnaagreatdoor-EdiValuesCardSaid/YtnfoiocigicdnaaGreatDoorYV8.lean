/-
  Part 8.
-/
import Derived.Test.YtnfoiocigicdnaaGreatDoorYV7
import Derived.Laws.MakeOwn
namespace Go.Rv
set_option linter.unusedVariables false
set_option linter.unusedSimpArgs false
variable {E : Env} {w : World} {g : Gh} {σ : Ab}
def ElsRep (w : World) (pr : Addr → Prop) (g : Gh) (size : Nat) (vs : Array Value) (els : List (List AV)) : Prop :=
  vs.size = els.length * size ∧ ∀ (i : Nat) (cs : List AV) (j : Nat) (x : AV), els[i]? = some cs → cs[j]? = some x → Rep w pr g (vs.getD (i * size + j) undef) x ∧ one (vs.getD (i * size + j) undef) = true
theorem Abm {P : Program} {pr : Addr → Prop} {a : Addr} {els : List (List AV)} {size : Nat} (hsz : ∀ cs ∈ els, cs.length = size)
    (h : ∀ (i : Nat) (cs : List AV) (j : Nat) (x : AV), els[i]? = some cs → cs[j]? = some x → ∃ u, w.cell? (a.add (i * size + j)) = some u ∧ Rep w pr g u x ∧ one u = true) :
    ∃ vs, (loadCells a (els.length * size)).run P w = .ok vs w ∧ ElsRep w pr g size vs els := by
  have hc : ∀ j, j < els.length * size → w.cell? (a.add j) = some ((w.cell? (a.add j)).getD undef) := by
    intro j hj
    have hs : 0 < size := by
      rcases Nat.eq_zero_or_pos size with h | h
      · subst h; simp at hj
      · exact h
    have hi : j / size < els.length := (Nat.div_lt_iff_lt_mul hs).2 hj
    have hcs := hsz els[j / size] (List.getElem_mem hi)
    have hj2 : j % size < els[j / size].length := by rw [hcs]; exact Nat.mod_lt _ hs
    obtain ⟨u, hu, _⟩ := h (j / size) _ (j % size) _ (List.getElem?_eq_getElem hi) (List.getElem?_eq_getElem hj2)
    rw [Nat.mul_comm, Nat.div_add_mod] at hu
    rw [hu]; rfl
  refine ⟨_, run_loadCells (P := P) w a _ (fun j => (w.cell? (a.add j)).getD undef) hc, by simp, ?_⟩
  intro i cs j x hi hj
  obtain ⟨u, hu, hr, ho⟩ := h i cs j x hi hj
  have hlt : i * size + j < els.length * size := by
    have hil : i < els.length := (List.getElem?_eq_some_iff.1 hi).1
    have hjl : j < cs.length := (List.getElem?_eq_some_iff.1 hj).1
    rw [hsz cs (List.mem_of_getElem? hi)] at hjl
    have : (i + 1) * size ≤ els.length * size := Nat.mul_le_mul_right size hil
    rw [Nat.add_mul, Nat.one_mul] at this
    omega
  have e : (((List.range (els.length * size)).map fun j => (w.cell? (a.add j)).getD undef).toArray).getD (i * size + j) undef = u := by
    refine Au ?_
    simp [hlt, hu]
  rw [e]
  exact ⟨hr, ho⟩
theorem Gl {P : Program} (hm : Mem E w g σ) {v : Value} {x : AV} {els : List (List AV)} {size : Nat} (hv : Rep w (A2 E g) g v x) (hx : G6 σ x = some els) (hsz : ∀ cs ∈ els, cs.length = size) (hstr : ∀ s, x = .str s → size = 1) :
    (∀ w', (Builtin.lenOf v).run P w' = .ok els.length w') ∧ ∃ vs, (Builtin.firstCells size els.length v).run P w = .ok vs w ∧ ElsRep w (A2 E g) g size vs els := by
  cases x with
  | sl full els' =>
    simp only [G6, Option.some.injEq] at hx
    subst hx
    cases hv with
    | sl _ a len cap _ _ k c hlen hcap hfull hnone hk hc hr =>
      refine ⟨fun w' => by simp [Builtin.lenOf, hlen], ?_⟩
      cases a with
      | none =>
        have := hnone rfl
        have he : els' = [] := List.length_eq_zero_iff.1 (by omega)
        subst he
        exact ⟨#[], by simp [Builtin.firstCells], by simp [ElsRep]⟩
      | some b =>
        obtain ⟨vs, h1, h2⟩ := Abm (P := P) (g := g) (pr := A2 E g) (a := b) hsz (by
          intro i cs j x hi hj
          obtain ⟨b', hb', q1, q2, q3⟩ := hc i cs j x hi hj
          cases hb'
          have : k = size := by rw [← hk i cs hi]; exact hsz cs (List.mem_of_getElem? hi)
          subst this
          exact ⟨_, q1, (hr i cs j x hi hj).mono (fun _ _ h p => ⟨h, p⟩) (GLe.nil _), q3⟩)
        exact ⟨vs, by simpa [Builtin.firstCells] using h1, h2⟩
  | bs full id tot off len =>
    simp only [G6] at hx
    split at hx
    case h_2 => cases hx
    rename_i k els0 ro hσ
    split at hx
    case isFalse => cases hx
    rename_i hcur
    simp only [Option.some.injEq] at hx
    subst hx
    cases hv with
    | bs _ _ _ _ _ _ _ b hgb hbx htot hat ho =>
      have hk := hm.blk id b _ hgb hσ
      have hbl : b.len = tot := by have := hk.2.2.2.1; omega
      have hbk : b.k = k := hk.2.2.1
      have hkl := hk.2.2.2.2.1
      obtain ⟨a, cap, rfl, q2, q3, q4, q5⟩ := hat hbl
      have hlen : ((els0.drop off).take len).length = len := by simp; omega
      refine ⟨fun w' => by simp only [Builtin.lenOf, hlen]; rfl, ?_⟩
      rcases q5 with q5 | ⟨β, hβ, rfl, q6⟩
      · have he : (els0.drop off).take len = [] := List.length_eq_zero_iff.1 (by omega)
        rw [he]
        refine ⟨#[], ?_, by simp [ElsRep]⟩
        cases a <;> simp [Builtin.firstCells, loadCells, loadCellsFrom]
      · obtain ⟨vs, h1, h2⟩ := Abm (P := P) (g := g) (pr := A2 E g) (a := ⟨β, b.o + off * b.k, none⟩) hsz (by
          intro i cs j x hi hj
          have hcs := hsz cs (List.mem_of_getElem? hi)
          rw [List.getElem?_take] at hi
          split at hi
          case isFalse => cases hi
          rw [List.getElem?_drop] at hi
          have hks : k = size := by rw [← hkl _ _ hi]; exact hcs
          obtain ⟨u, hu, hr, ho⟩ := Qa hm hσ hgb hβ hi j x hj
          rw [Bp] at hu
          refine ⟨u, ?_, hr, ho⟩
          rw [Bp, ← hu]
          congr 2
          rw [hbk, ← hks, Nat.add_mul]
          omega)
        refine ⟨vs, ?_, h2⟩
        simpa [Builtin.firstCells] using h1
  | str s =>
    simp only [G6, Option.some.injEq] at hx
    subst hx
    have hs1 := hstr s rfl
    subst hs1
    obtain ⟨ba, rfl, rfl⟩ := Iq hv
    refine ⟨fun w' => by simp [Builtin.lenOf], ?_⟩
    refine ⟨ba.data.map fun b => .int .u8 b.toNat, ?_, ?_⟩
    · have : ba.extract 0 ba.size = ba := by
        apply ByteArray.ext
        simp [ByteArray.data_extract]
      simp [Builtin.firstCells, this]
    · refine ⟨by simp, ?_⟩
      intro i cs j x hi hj
      rw [List.getElem?_map, Option.map_eq_some_iff] at hi
      obtain ⟨b, hb, rfl⟩ := hi
      have hj0 : j = 0 := by have := (List.getElem?_eq_some_iff.1 hj).1; simp at this; exact this
      subst hj0
      simp only [List.getElem?_cons_zero, Option.some.injEq] at hj
      subst hj
      have e : (ba.data.map fun b => Value.int .u8 b.toNat).getD (i * 1 + 0) undef = .int .u8 b.toNat := by
        refine Au ?_
        have : ba.data[i]? = some b := by simpa using hb
        simp [this]
      rw [e]
      exact ⟨.int _ _ _, rfl⟩
  | _ => simp [G6] at hx
theorem ElsRep.mono {w w' : World} {g g' : Gh} {size : Nat} {vs : Array Value} {els : List (List AV)} (h : ElsRep w (A2 E g) g size vs els)
    (hcells : ∀ a u, w.cell? a = some u → A2 E g a → w'.cell? a = some u ∧ A2 E g' a) (hle : GLe g g') : ElsRep w' (A2 E g') g' size vs els :=
  ⟨h.1, fun i cs j x hi hj => ⟨(h.2 i cs j x hi hj).1.mono hcells hle, (h.2 i cs j x hi hj).2⟩⟩
theorem Wr {pr : Addr → Prop} {size : Nat} {v1 v2 : Array Value} {e1 e2 : List (List AV)} (hsz : ∀ cs ∈ e1 ++ e2, cs.length = size) (h1 : ElsRep w pr g size v1 e1) (h2 : ElsRep w pr g size v2 e2) : ElsRep w pr g size (v1 ++ v2) (e1 ++ e2) := by
  refine ⟨by simp [h1.1, h2.1, Nat.add_mul], ?_⟩
  intro i cs j x hi hj
  have hjl : j < size := by
    have := (List.getElem?_eq_some_iff.1 hj).1
    rw [hsz cs (List.mem_of_getElem? hi)] at this
    exact this
  have key : ∀ (v : Array Value) (k : Nat), k < v.size → v.getD k undef = (v[k]?).getD undef := fun v k hk => by simp [Array.getD, hk]
  rcases Nat.lt_or_ge i e1.length with hl | hl
  · rw [List.getElem?_append_left hl] at hi
    have hlt : i * size + j < v1.size := by
      rw [h1.1]
      have : (i + 1) * size ≤ e1.length * size := Nat.mul_le_mul_right size hl
      rw [Nat.add_mul, Nat.one_mul] at this
      omega
    have e : (v1 ++ v2).getD (i * size + j) undef = v1.getD (i * size + j) undef := by
      refine Au ?_
      rw [Array.getElem?_append_left hlt, A0 hlt]
    rw [e]
    exact h1.2 i cs j x hi hj
  · rw [List.getElem?_append_right hl] at hi
    have hil : i - e1.length < e2.length := (List.getElem?_eq_some_iff.1 hi).1
    have e3 : i * size + j = v1.size + ((i - e1.length) * size + j) := by
      rw [h1.1, ← Nat.add_assoc, ← Nat.add_mul]
      congr 2
      omega
    have hlt : (i - e1.length) * size + j < v2.size := by
      rw [h2.1]
      have : (i - e1.length + 1) * size ≤ e2.length * size := Nat.mul_le_mul_right size hil
      rw [Nat.add_mul, Nat.one_mul] at this
      omega
    have e : (v1 ++ v2).getD (i * size + j) undef = v2.getD ((i - e1.length) * size + j) undef := by
      refine Au ?_
      rw [e3, Array.getElem?_append_right (by omega), Nat.add_sub_cancel_left, A0 hlt]
    rw [e]
    exact h2.2 _ cs j x hi hj
theorem Tq {w' : World} (hm : Mem E w g σ) {arr : Array Value} {e : TypeId} {fz : Nat × Nat} (hw : OneMore w w' (.cells arr e fz)) {k : Nat} {vs : Array Value} {els : List (List AV)} {cap : Nat} {full : Bool}
    (hels : ElsRep w (A2 E g) g k vs els) (hsz : ∀ cs ∈ els, cs.length = k) (harr : ∀ i, i < vs.size → arr[i]? = vs[i]?) (hcap : els.length ≤ cap) (hasz : cap * k ≤ arr.size) (hfz : noFreeze fz 0 (AeI k arr.size)) (hfull : full = true → cap = els.length) :
    ∃ g', Mem E w' g' (σ ++ [.buf k els false]) ∧ GLe g g' ∧ Evo E 0 w g w' g' ∧ Rep w' (A2 E g') g' (.slice (some ⟨w.heap.size, 0, none⟩) els.length cap) (.bs full σ.length els.length 0 els.length) := by
  have h := Kl hm hw { blk := some w.heap.size, o := 0, k := k, len := els.length, ce := cap, isBox := false, ro := false } (.buf k els false) (.inl rfl) (by
    intro hcells hle
    refine ⟨rfl, rfl, rfl, rfl, fun i cs hi => hsz cs (List.mem_of_getElem? hi), fun e => (by cases e), ?_⟩
    intro β hβ
    cases hβ
    refine ⟨arr, e, fz, hw.new, by simpa using hasz, hcap, hfz, ?_⟩
    intro i cs j x hi hj
    have hlt : i * k + j < vs.size := by
      rw [hels.1]
      have hil : i < els.length := (List.getElem?_eq_some_iff.1 hi).1
      have hjl : j < cs.length := (List.getElem?_eq_some_iff.1 hj).1
      rw [hsz cs (List.mem_of_getElem? hi)] at hjl
      have : (i + 1) * k ≤ els.length * k := Nat.mul_le_mul_right k hil
      rw [Nat.add_mul, Nat.one_mul] at this
      omega
    have e2 : arr.getD (0 + i * k + j) undef = vs.getD (i * k + j) undef := by
      refine Au ?_
      rw [Nat.zero_add, harr _ hlt, A0 hlt]
    simp only [e2]
    exact ⟨(hels.2 i cs j x hi hj).1.mono hcells hle, (hels.2 i cs j x hi hj).2⟩)
  refine ⟨_, h.1, h.2.1, h.2.2, ?_⟩
  rw [← hm.len]
  refine .bs _ _ _ _ _ _ _ _ (by rw [List.getElem?_append_right (Nat.le_refl _)]; simp; rfl) rfl (Nat.le_refl _) (fun _ => ?_) rfl
  exact ⟨_, _, rfl, hcap, hfull, by simp, .inr ⟨_, rfl, by simp, by simp⟩⟩
theorem Fc (hE : E.Ok) {t u e : TypeId} {d de du : TD} (ht : E.tab t = some d) (hd : d.desc = .slice e) (hte : E.tab e = some de) (hu : E.tab u = some du) (hnu : ∀ k, du.desc ≠ .int k)
    {w' : World} {ty : TypeId} {a : Option Addr} {sLen sCap n : Nat} {x : Value} {new : Array Value} (hlen : ∀ w, (Builtin.lenOf x).run E.P w = .ok n w) (hnew : (Builtin.firstCells de.size n x).run E.P w = .ok new w)
    (hfit : sLen + n ≤ sCap) (hst : match a with | some a => (storeCells (a.add (sLen * de.size)) new.toList).run E.P w = .ok () w' | none => w' = w) :
    (Builtin.append_ #[t, u] ty #[.slice a sLen sCap, x]).run E.P w = .ok (.slice a (sLen + n) sCap) w' := by
  have hz : (match du.desc with | .int _ => true | _ => false) = false := by
    cases hq : du.desc <;> first | rfl | (exact (hnu _ hq).elim)
  cases a with
  | none =>
    simp only at hst
    subst hst
    simp [Builtin.append_, A7 hE ht, hd, B2 hE hte, A7 hE hu, hz, hlen, hfit, hnew]
  | some a =>
    simp only at hst
    simp [Builtin.append_, A7 hE ht, hd, B2 hE hte, A7 hE hu, hz, hlen, hfit, hnew, hst]
theorem Pq (hE : E.Ok) {t u e : TypeId} {d de du : TD} (ht : E.tab t = some d) (hd : d.desc = .slice e) (hte : E.tab e = some de) (hu : E.tab u = some du) (hnu : ∀ k, du.desc ≠ .int k)
    {ty : TypeId} {s x : Value} {a : Option Addr} {sLen sCap n : Nat} (hs : s = .slice a sLen sCap) {old new : Array Value} (hlen : ∀ w, (Builtin.lenOf x).run E.P w = .ok n w)
    (hold : (Builtin.firstCells de.size sLen s).run E.P w.drew = .ok old w.drew) (hnew : (Builtin.firstCells de.size n x).run E.P w.drew = .ok new w.drew)
    (hgrow : sCap < sLen + n) (h63 : sLen + n ≤ maxLen) (hroom : (sLen + n) * de.bytes ≤ M9) :
    ∃ newCap rest w', sLen + n ≤ newCap ∧ rest.size = (newCap - (sLen + n)) * de.size ∧ (Builtin.append_ #[t, u] ty #[s, x]).run E.P w = .ok (.slice (some ⟨w.heap.size, 0, none⟩) (sLen + n) newCap) w' ∧
      OneMore w w' (.cells (old ++ new ++ rest) e) := by
  subst hs
  have hz : (match du.desc with | .int _ => true | _ => false) = false := by
    cases hq : du.desc <;> first | rfl | (exact (hnu _ hq).elim)
  obtain ⟨i, hi, hi1, hi2⟩ := AbF hE hte w
  obtain ⟨z, hzr, hz1, hz2, _⟩ := Li hE hte w.drew
  have hi' : ∀ w', (typeInfo e).run E.P w' = .ok i w' := by
    intro w'
    obtain ⟨i', z', h1, _⟩ := hE.info e de hte
    have : i = i' := by
      have : (typeInfo e).run E.P w = .ok i' w := by simp [typeInfo, h1]
      rw [hi] at this; cases this; rfl
    subst this
    simp [typeInfo, h1]
  have hn : ¬ (sLen + n ≤ sCap) := by omega
  have h63' : ¬ ((9223372036854775807 : Int) < ((sLen : Int) + (n : Int))) := by unfold maxLen at h63; omega
  have hfit := growslice_fits (old := sCap) (need := sLen + n) (bytes := de.bytes) hgrow hroom
  have h48' : ¬ (281474976710656 < Builtin.nextslicecap (sLen + n) sCap * de.bytes) := by omega
  refine ⟨grownCap w (sLen + n) sCap e, Builtin.zeroCells z.cells (grownCap w (sLen + n) sCap e - (sLen + n)), w.drew.alloc (.cells (old ++ new ++ Builtin.zeroCells z.cells (grownCap w (sLen + n) sCap e - (sLen + n))) e), grownCap_ge w _ _ _, by rw [size_zeroCells, hz1], ?_, ⟨rfl, rfl, rfl, rfl⟩⟩
  simp [Builtin.append_, A7 hE ht, hd, B2 hE hte, A7 hE hu, hz, hlen, hn, hi', hi2, h63', h48', Question.forced, hold, hnew, hzr, newRow, grownCap]
theorem U5 {w' : World} (h : SameMem w w') {v : Value} {x : AV} (hr : Rep w (A2 E g) g v x) : Rep w' (A2 E g) g v x := hr.mono (fun a u hc hp => ⟨(h.cell a).trans hc, hp⟩) (GLe.refl _)
theorem Kv (w : World) : SameMem w w.drew := ⟨rfl, rfl, rfl, rfl⟩
theorem Lm {els : List (List AV)} {k : Nat} (h : ∀ (i : Nat) (cs : List AV), els[i]? = some cs → cs.length = k) : ∀ cs ∈ els, cs.length = k := by
  intro cs hc
  obtain ⟨i, hi⟩ := List.getElem?_of_mem hc
  exact h i cs hi
theorem Tu {v r : Array Value} : ∀ i, i < v.size → (v ++ r)[i]? = v[i]? := fun i hi => Array.getElem?_append_left hi
theorem Qz (hE : E.Ok) (hm : Mem E w g σ) {t u e ty : TypeId} {d de du : TD} (ht : E.tab t = some d) (hd : d.desc = .slice e) (hte : E.tab e = some de) (hu : E.tab u = some du) (hnu : ∀ k, du.desc ≠ .int k)
    {vs vx : Value} {s x : AV} {old new : List (List AV)} {a : Option Addr} {sLen sCap : Nat} (hvs : vs = .slice a sLen sCap) (hlen : old.length = sLen) (hs : Rep w (A2 E g) g vs s) (hsv : G6 σ s = some old) (hss : ∀ l, s ≠ .str l)
    (hx : Rep w (A2 E g) g vx x) (hxv : G6 σ x = some new) (hso : ∀ cs ∈ old, cs.length = de.size) (hsn : ∀ cs ∈ new, cs.length = de.size) (hstr : ∀ l, x = .str l → de.size = 1) (hgrow : sCap < sLen + new.length) (h63 : sLen + new.length ≤ maxLen) (hroom : (sLen + new.length) * de.bytes ≤ M9) :
    ∃ newCap w' vs' arr, (Builtin.append_ #[t, u] ty #[vs, vx]).run E.P w = .ok (.slice (some ⟨w.heap.size, 0, none⟩) (old ++ new).length newCap) w' ∧ OneMore w w' (.cells arr e) ∧ ElsRep w (A2 E g) g de.size vs' (old ++ new) ∧
      (∀ i, i < vs'.size → arr[i]? = vs'[i]?) ∧ (old ++ new).length ≤ newCap ∧ newCap * de.size ≤ arr.size := by
  have hm' := hm.same (Kv w)
  obtain ⟨_, v1, f1, r1⟩ := Gl (P := E.P) hm' (U5 (Kv w) hs) hsv hso (fun l h => (hss l h).elim)
  obtain ⟨l2, v2, f2, r2⟩ := Gl (P := E.P) hm' (U5 (Kv w) hx) hxv hsn hstr
  have back : ∀ {vs : Array Value} {els : List (List AV)}, ElsRep w.drew (A2 E g) g de.size vs els → ElsRep w (A2 E g) g de.size vs els := fun h => h.mono (fun a u hc hp => ⟨hc, hp⟩) (GLe.refl _)
  subst hlen
  obtain ⟨newCap, rest, w', c1, c2, c3, c4⟩ := Pq hE ht hd hte hu hnu (ty := ty) hvs l2 f1 f2 hgrow h63 hroom
  refine ⟨newCap, w', v1 ++ v2, v1 ++ v2 ++ rest, by rw [List.length_append]; exact c3, c4, Wr (by intro cs h; rcases List.mem_append.1 h with h | h; exact hso cs h; exact hsn cs h) (back r1) (back r2), Tu, by simpa using c1, ?_⟩
  simp only [Array.size_append, c2, r1.1, r2.1, ← Nat.add_mul]
  refine Nat.mul_le_mul_right _ ?_
  omega
theorem Lu (hE : E.Ok) (hm : Mem E w g σ) {t u e ty : TypeId} {d de du : TD} (ht : E.tab t = some d) (hd : d.desc = .slice e) (hte : E.tab e = some de) (hu : E.tab u = some du) (hnu : ∀ k, du.desc ≠ .int k)
    {vs vx : Value} {s x : AV} {old new : List (List AV)} {a : Option Addr} {sLen sCap : Nat} (hvs : vs = .slice a sLen sCap) (hlen : old.length = sLen) (hs : Rep w (A2 E g) g vs s) (hsv : G6 σ s = some old) (hss : ∀ l, s ≠ .str l)
    (hx : Rep w (A2 E g) g vx x) (hxv : G6 σ x = some new) (hso : ∀ cs ∈ old, cs.length = de.size) (hsn : ∀ cs ∈ new, cs.length = de.size) (hstr : ∀ l, x = .str l → de.size = 1) (hgrow : sCap < sLen + new.length) (h63 : sLen + new.length ≤ maxLen) (hroom : (sLen + new.length) * de.bytes ≤ M9) :
    ∃ newCap w' vs' arr e', (Builtin.append_ #[t, u] ty #[vs, vx]).run E.P w = .ok (.slice (some ⟨w.heap.size, 0, none⟩) (old ++ new).length newCap) w' ∧ OneMore w w' (.cells arr e') ∧ ElsRep w (A2 E g) g de.size vs' (old ++ new) ∧
      (∀ i, i < vs'.size → arr[i]? = vs'[i]?) ∧ (old ++ new).length ≤ newCap ∧ newCap * de.size ≤ arr.size := by
  obtain ⟨newCap, w', vs', arr, h⟩ := Qz hE hm ht hd hte hu hnu (ty := ty) hvs hlen hs hsv hss hx hxv hso hsn hstr hgrow h63 hroom
  exact ⟨newCap, w', vs', arr, e, h⟩
theorem Xq (hE : E.Ok) (hm : Mem E w g σ) {t u e ty : TypeId} {d de du : TD} {vs vx : Value} {x : AV} {full : Bool} {id len k : Nat} {els new : List (List AV)} {ro : Bool} (ht : E.tab t = some d) (hd : d.desc = .slice e) (hte : E.tab e = some de)
    (hs : Rep w (A2 E g) g vs (.bs full id len 0 len)) (hx : Rep w (A2 E g) g vx x) (hu : E.tab u = some du) (hnu : ∀ k, du.desc ≠ .int k) (hxv : G6 σ x = some new) (hstr : ∀ l, x = .str l → de.size = 1) (hsn : ∀ cs ∈ new, cs.length = de.size)
    (hσ : σ[id]? = some (.buf k els ro)) (c1 : els.length = len) (c2 : k = de.size) (c3 : 0 < k) (c4 : len + new.length ≤ maxLen) (c5 : (len + new.length) * de.bytes ≤ M9) :
    ∃ v w' g' b', (Builtin.append_ #[t, u] ty #[vs, vx]).run E.P w = .ok v w' ∧ Mem E w' g' (σ.set id (.buf k (els ++ new) ro)) ∧ GLe g g' ∧ Evo E 0 w g w' g' ∧ Rep w' (A2 E g') g' v (.bs false id (len + new.length) 0 (len + new.length)) ∧ g'[id]? = some b' ∧
      ∀ T, e = T → (∀ b, g[id]? = some b → ∀ β, b.blk = some β → ∃ arr fz, w.heap[β]? = some (.cells arr T fz)) → ∀ β, b'.blk = some β → ∃ arr fz, w'.heap[β]? = some (.cells arr T fz) := by
  have hs2 := hs
  have keyNil : new = [] → ∀ a len cap, vs = .slice a len cap → len ≤ cap → (Builtin.append_ #[t, u] ty #[vs, vx]).run E.P w = .ok vs w := by
    intro hnil a len cap e hlc
    subst hnil
    obtain ⟨l2, v2, f2, r2⟩ := Gl (P := E.P) (size := de.size) hm hx hxv (by simp) hstr
    have he : v2.toList = [] := by
      have := r2.1
      simp only [List.length_nil, Nat.zero_mul] at this
      simpa using this
    subst e
    refine Fc hE ht hd hte hu hnu l2 f2 (by simpa using hlc) ?_
    cases a with
    | none => rfl
    | some a => simp only [he]; rfl
  cases hs with
  | bs _ _ _ _ _ _ _ b hgb hbx htot hat ho =>
    have hbk := hm.blk id b _ hgb hσ
    obtain ⟨k1, k2, k3, k4, k5, k6, k7⟩ := hbk
    have hbl : b.len = len := by omega
    obtain ⟨a, cap, rfl, q2, q3, q4, q5⟩ := hat hbl
    have hview : G6 σ (.bs full id len 0 len) = some ((els.drop 0).take len) := by simp [G6, hσ, c1]
    have hso : ∀ cs ∈ (els.drop 0).take len, cs.length = de.size := by
      intro cs hc
      rw [← c2]
      exact Lm k5 cs (List.mem_of_mem_drop (List.mem_of_mem_take hc))
    have hol : ((els.drop 0).take len).length = len := by simp; omega
    by_cases hnil : new = []
    · subst hnil
      have hself : σ.set id (.buf k (els ++ []) ro) = σ := by
        rw [List.append_nil]
        apply List.ext_getElem?
        intro i
        by_cases hi : i = id
        · subst hi; rw [Bi hσ, hσ]
        · rw [Dm hi]
      rw [hself]
      exact ⟨_, w, g, b, keyNil rfl a len cap rfl q2, hm, GLe.refl _, Evo.refl _ _ _ _, .bs _ _ _ _ _ _ _ b hgb hbx htot (fun _ => ⟨a, cap, rfl, q2, (by intro h; cases h), q4, q5⟩) rfl, hgb, fun T _ h => h b hgb⟩
    have hpos : 0 < new.length := List.length_pos_iff.2 hnil
    by_cases hfit : len + new.length ≤ cap
    · rcases q5 with q5 | ⟨β, hβ, rfl, q6⟩
      · omega
      obtain ⟨arr, t', fz, g1, g2, g3, g4, g5⟩ := k7 β hβ
      obtain ⟨l2, v2, f2, r2⟩ := Gl (P := E.P) (size := de.size) hm hx hxv hsn hstr
      have hone : ∀ u ∈ v2.toList, one u = true := by
        intro u hu2
        obtain ⟨j, hj, e2⟩ := Pv hu2
        rw [r2.1] at hj
        have hi : j / de.size < new.length := (Nat.div_lt_iff_lt_mul (by omega)).2 hj
        have hcs := hsn new[j / de.size] (List.getElem_mem hi)
        have hj2 : j % de.size < new[j / de.size].length := by rw [hcs]; exact Nat.mod_lt _ (by omega)
        have := (r2.2 (j / de.size) _ (j % de.size) _ (List.getElem?_eq_getElem hi) (List.getElem?_eq_getElem hj2)).2
        rw [Nat.mul_comm, Nat.div_add_mod, e2] at this
        exact this
      have hce : (len + new.length) * k ≤ b.ce * k := Nat.mul_le_mul_right k (by omega)
      rw [Nat.add_mul] at hce
      have hv2 : v2.toList.length = new.length * k := by simp [r2.1, c2]
      obtain ⟨w', arr', hrun, hw, harr⟩ := I5 E.P g1 v2.toList (o := b.o + len * k) ((g4.sub (lo' := 0) (hi' := arr.size) (Nat.le_refl _) (P5 _ _)).sub (by omega) (by rw [hv2]; omega)) (by rw [hv2]; omega) hone
      have hmw := Kh (b' := { b with len := len + new.length }) (ab' := .buf k (els ++ new) ro) hm hw hgb hβ hβ (.inr ⟨k1, k1, by simp; omega⟩) (by
        intro hro
        refine ⟨hro, ?_, ?_⟩
        · simp only
          have : b.len * b.k ≤ (len + new.length) * b.k := Nat.mul_le_mul_right _ (by omega)
          omega
        · intro off hoff
          have ha := harr off
          rw [k3, hbl] at hoff
          rw [if_neg (by omega)] at ha
          exact ha) (by
        intro hcells hle
        refine ⟨k1, k2, k3, by simp; omega, ?_, fun e => (by rw [hβ] at e; cases e), ?_⟩
        · intro i cs hi
          have : cs ∈ els ++ new := List.mem_of_getElem? hi
          rcases List.mem_append.1 this with h | h
          · exact Lm k5 cs h
          · rw [c2]; exact hsn cs h
        · intro β' hβ'
          simp only at hβ'
          rw [hβ] at hβ'; cases hβ'
          refine ⟨arr', t', fz, hw.now, by rw [hw.asize]; exact g2, by simp; omega, by rw [hw.asize]; exact g4, ?_⟩
          intro i cs j y hi hj
          simp only
          rcases Nat.lt_or_ge i els.length with hl | hl
          · rw [List.getElem?_append_left hl] at hi
            have hjk : j < k := by have := (List.getElem?_eq_some_iff.1 hj).1; rw [k5 _ _ hi] at this; exact this
            have hik : (i + 1) * k ≤ len * k := Nat.mul_le_mul_right k (by omega)
            rw [Nat.add_mul, Nat.one_mul] at hik
            have hpos2 : b.o + i * k + j < arr.size := by omega
            have ha := harr (b.o + i * k + j)
            rw [if_neg (by omega), A0 hpos2] at ha
            rw [Au ha]
            exact ⟨(g5 _ _ _ _ hi hj).1.mono hcells hle, (g5 _ _ _ _ hi hj).2⟩
          · rw [List.getElem?_append_right hl] at hi
            have hil : i - els.length < new.length := (List.getElem?_eq_some_iff.1 hi).1
            have hjk : j < k := by have := (List.getElem?_eq_some_iff.1 hj).1; rw [hsn cs (List.mem_of_getElem? hi), ← c2] at this; exact this
            have hik : (i - els.length + 1) * k ≤ new.length * k := Nat.mul_le_mul_right k hil
            rw [Nat.add_mul, Nat.one_mul] at hik
            have e3 : i * k = len * k + (i - els.length) * k := by rw [← Nat.add_mul]; congr 1; omega
            have ha := harr (b.o + i * k + j)
            rw [if_pos (by rw [hv2]; omega), toList_getElem? _ _ (by rw [r2.1, ← c2]; omega)] at ha
            rw [Au ha]
            have e4 : b.o + i * k + j - (b.o + len * k) = (i - els.length) * de.size + j := by rw [← c2]; omega
            rw [e4]
            exact ⟨(r2.2 _ _ _ _ hi hj).1.mono hcells hle, (r2.2 _ _ _ _ hi hj).2⟩)
      refine ⟨_, w', _, _, Fc hE ht hd hte hu hnu l2 f2 hfit (w' := w') ?_, hmw.1, hmw.2.1, hmw.2.2, ?_, Bi hgb, fun T _ h β2 hβ2 => ?_⟩
      · simp only [Bp, Nat.zero_mul, Nat.add_zero, ← c2]
        exact hrun
      · refine .bs _ _ _ _ _ _ _ _ (Bi hgb) k1 (Nat.le_refl _) (fun _ => ?_) rfl
        exact ⟨_, _, rfl, hfit, (by intro h; cases h), by simp, .inr ⟨β, hβ, by simp, by simpa using q6⟩⟩
      · obtain ⟨arr2, fz2, h2⟩ := h b hgb β2 hβ2
        have hβ3 : b.blk = some β2 := hβ2
        rw [hβ] at hβ3; cases hβ3
        rw [g1] at h2
        obtain ⟨rfl, rfl, rfl⟩ := Obj.cells.inj (Option.some.inj h2)
        exact ⟨arr', _, hw.now⟩
    · have hold : (els.drop 0).take len = els := by rw [List.drop_zero, ← c1, List.take_length]
      rw [hold] at hview hso hol
      obtain ⟨newCap, w', vs', arr, r1, r2, r3, r4, r5, r6⟩ := Qz hE hm ht hd hte hu hnu (ty := ty) rfl hol hs2 hview (by intro l h; cases h) hx hxv hso hsn hstr (by omega) (by omega) c5
      have hall : ∀ cs ∈ els ++ new, cs.length = k := by
        intro cs h
        rcases List.mem_append.1 h with h | h
        · exact Lm k5 cs h
        · rw [c2]; exact hsn cs h
      have hmv := AbK (b' := { blk := some w.heap.size, o := 0, k := k, len := (els ++ new).length, ce := newCap, isBox := false, ro := ro }) (ab' := .buf k (els ++ new) ro) hm r2 hgb rfl (.inr ⟨k1, rfl, by simp; omega⟩) (by
        intro hcells hle
        refine ⟨rfl, rfl, rfl, rfl, fun i cs hi => hall cs (List.mem_of_getElem? hi), fun e => (by cases e), ?_⟩
        intro β hβ
        cases hβ
        refine ⟨arr, e, (0, 0), r2.new, by rw [c2]; simpa using r6, r5, Cu _ _, ?_⟩
        intro i cs j y hi hj
        have hlt : i * k + j < vs'.size := by
          rw [r3.1, ← c2]
          have hil : i < (els ++ new).length := (List.getElem?_eq_some_iff.1 hi).1
          have hjl : j < cs.length := (List.getElem?_eq_some_iff.1 hj).1
          rw [hall cs (List.mem_of_getElem? hi)] at hjl
          have : (i + 1) * k ≤ (els ++ new).length * k := Nat.mul_le_mul_right k hil
          rw [Nat.add_mul, Nat.one_mul] at this
          omega
        have e2 : arr.getD (0 + i * k + j) undef = vs'.getD (i * k + j) undef := by
          refine Au ?_
          rw [Nat.zero_add, r4 _ hlt, A0 hlt]
        simp only [e2]
        have := r3.2 i cs j y hi hj
        rw [← c2] at this
        exact ⟨this.1.mono hcells hle, this.2⟩)
      refine ⟨_, w', _, _, r1, hmv.1, hmv.2.1, hmv.2.2, ?_, Bi hgb, fun T hT _ β2 hβ2 => ?_⟩
      rotate_left
      · cases hβ2; subst hT; exact ⟨arr, (0, 0), r2.new⟩
      have e5 : len + new.length = (els ++ new).length := by simp; omega
      rw [e5]
      refine .bs _ _ _ _ _ _ _ _ (Bi hgb) rfl (Nat.le_refl _) (fun _ => ?_) rfl
      exact ⟨_, _, rfl, r5, (by intro h; cases h), by simp, .inr ⟨_, rfl, by simp, by simp⟩⟩
theorem N3 (hm : Mem E w g σ) {id : Nat} {ab ab' : ABlk} (hσ : σ[id]? = some ab) (h : ∀ b, g[id]? = some b → BlkOk E w g b ab') : Mem E w g (σ.set id ab') := by
  have hl : id < σ.length := (List.getElem?_eq_some_iff.1 hσ).1
  refine ⟨by rw [List.length_set]; exact hm.len, fun i b ab2 h1 h2 => ?_, hm.inj, hm.foreign, hm.glob, hm.maps, hm.whole⟩
  by_cases e : id = i
  · subst e
    rw [List.getElem?_set_self hl] at h2; cases h2
    exact h b h1
  · rw [List.getElem?_set_ne e] at h2
    exact hm.blk i b ab2 h1 h2
theorem ApA (hm : Mem E w g σ) {id : Nat} {ab : ABlk} (hσ : σ[id]? = some ab) : ∃ b, g[id]? = some b :=
  ⟨_, List.getElem?_eq_getElem (by rw [hm.len]; exact (List.getElem?_eq_some_iff.1 hσ).1)⟩
theorem Acr : ∀ {els : List (List AV)} {nl : List UInt8}, Gd els = some nl → els = G1 nl := by
  intro els
  induction els with
  | nil => intro nl h; simp only [Gd, Option.some.injEq] at h; subst h; rfl
  | cons c r ih =>
    intro nl h
    unfold Gd at h
    split at h
    case h_1 h0 => cases h0
    case h_3 => cases h
    rename_i n r' heq
    obtain ⟨rfl, rfl⟩ := List.cons.inj heq
    by_cases hn : n = ((UInt8.ofNat n.toNat).toNat : Int)
    · rw [if_pos hn, Option.map_eq_some_iff] at h
      obtain ⟨m, hm, rfl⟩ := h
      rw [ih hm]
      show _ = [AV.int .u8 ((UInt8.ofNat n.toNat).toNat : Int)] :: G1 m
      rw [← hn]
    · rw [if_neg hn] at h; cases h
theorem Xj (hE : E.Ok) (hm : Mem E w g σ) {t u ty : TypeId} {du : TD} {vs vx : Value} {s x y : AV} {σ' : Ab} (hs : Rep w (A2 E g) g vs s) (hx : Rep w (A2 E g) g vx x) (hu : E.tab u = some du) (hnu : ∀ k, du.desc ≠ .int k)
    (hy : Qo E σ t s x = some (y, σ')) : Sound E w g ((Builtin.append_ #[t, u] ty #[vs, vx]).run E.P w) y σ' := by
  unfold Qo at hy
  cases ht : E.tab t with
  | none => simp [ht] at hy
  | some d =>
    simp only [ht] at hy
    split at hy
    case h_2 => cases hy
    rename_i e hd
    split at hy
    case h_2 => cases hy
    rename_i de new hte hxv
    split at hy
    · cases hy
    rename_i hsb
    have hstr : ∀ l, x = .str l → de.size = 1 := by
      intro l hl
      subst hl
      simpa [H4] using hsb
    split at hy
    case isFalse => cases hy
    rename_i hsn
    have keyNil : new = [] → ∀ a len cap, vs = .slice a len cap → len ≤ cap → (Builtin.append_ #[t, u] ty #[vs, vx]).run E.P w = .ok vs w := by
      intro hnil a len cap e hlc
      subst hnil
      obtain ⟨l2, v2, f2, r2⟩ := Gl (P := E.P) (size := de.size) hm hx hxv (by simp) hstr
      have he : v2.toList = [] := by
        have := r2.1
        simp only [List.length_nil, Nat.zero_mul] at this
        simpa using this
      subst e
      refine Fc hE ht hd hte hu hnu l2 f2 (by simpa using hlc) ?_
      cases a with
      | none => rfl
      | some a => simp only [he]; rfl
    · split at hy
      · rename_i full els
        split at hy
        · rename_i hemp
          obtain ⟨e1, e2⟩ := hemp
          subst e1
          subst e2
          split at hy
          case isFalse => cases hy
          rename_i hcond
          obtain ⟨c2, c3, c4⟩ := hcond
          simp only [Option.some.injEq, Prod.mk.injEq] at hy
          obtain ⟨rfl, rfl⟩ := hy
          have hs2 := hs
          cases hs with
          | sl _ a len cap _ _ k c hlen hcap hfull hnone hk hc hr =>
            have hcl := hfull rfl
            have hl0 : len = 0 := by simpa using hlen.symm
            by_cases hnil : new = []
            · subst hnil
              obtain ⟨n1, n2, n3⟩ := AgP hm de.size
              refine ⟨_, w, _, keyNil rfl a len cap rfl hcap, n1, n2, n3, ?_⟩
              rw [← hm.len]
              refine .bs _ _ _ _ _ _ _ _ (by rw [List.getElem?_append_right (Nat.le_refl _)]; simp; rfl) rfl (Nat.le_refl _) (fun _ => ?_) rfl
              exact ⟨a, cap, by rw [hl0]; rfl, by simp, (by intro h; cases h), by simp, .inl (by omega)⟩
            · have hpos : 0 < new.length := List.length_pos_iff.2 hnil
              obtain ⟨newCap, w', vs', arr, e', r1, r2, r3, r4, r5, r6⟩ := Lu hE hm ht hd hte hu hnu (ty := ty) (old := []) rfl hlen hs2 rfl (by intro l h; cases h) hx hxv (by simp) hsn hstr (by omega) (by omega) (by rw [hl0, Nat.zero_add]; exact c4)
              obtain ⟨g', n1, n2, n3, n4⟩ := Tq (full := false) hm r2 r3 (by simpa using hsn) r4 r5 r6 (Cu _ _) (by intro h; cases h)
              refine ⟨_, w', g', r1, by simpa using n1, n2, n3, ?_⟩
              simpa using n4
        · split at hy
          · rename_i hnil
            simp only [Option.some.injEq, Prod.mk.injEq] at hy
            obtain ⟨rfl, rfl⟩ := hy
            have hs2 := hs
            cases hs with
            | sl _ a len cap _ _ k c hlen hcap hfull hnone hk hc hr => exact Sound.pure hm (keyNil hnil a len cap rfl hcap) hs2
          · rename_i hne
            have hpos : 0 < new.length := List.length_pos_iff.2 hne
            split at hy
            case isFalse => cases hy
            rename_i hcond
            obtain ⟨c0, c1, c2, c3, c4⟩ := hcond
            subst c0
            simp only [Option.some.injEq, Prod.mk.injEq] at hy
            obtain ⟨rfl, rfl⟩ := hy
            have hs2 := hs
            cases hs with
            | sl _ a len cap _ _ k c hlen hcap hfull hnone hk hc hr =>
              have hcl := hfull rfl
              obtain ⟨newCap, w', vs', arr, e', r1, r2, r3, r4, r5, r6⟩ := Lu hE hm ht hd hte hu hnu (ty := ty) rfl hlen hs2 rfl (by intro l h; cases h) hx hxv c1 hsn hstr (by omega) (by omega) (by rw [← hlen]; exact c4)
              obtain ⟨g', n1, n2, n3, n4⟩ := Tq (full := false) hm r2 r3 (by intro cs h; rcases List.mem_append.1 h with h | h; exact c1 cs h; exact hsn cs h) r4 r5 r6 (Cu _ _) (by intro h; cases h)
              refine ⟨_, w', g', r1, n1, n2, n3, ?_⟩
              simpa using n4
      · rename_i full id tot off len
        split at hy
        case h_3 => cases hy
        case h_2 =>
          rename_i T l hσ
          split at hy
          case h_2 => cases hy
          rename_i nl hnl
          split at hy
          case isFalse => cases hy
          rename_i hcond
          obtain ⟨c1, c2, c3, c4, c5, c6, c7⟩ := hcond
          simp only [Option.some.injEq, Prod.mk.injEq] at hy
          obtain ⟨rfl, rfl⟩ := hy
          subst c1 c2 c6
          obtain ⟨b, hgb⟩ := ApA hm hσ
          have hk := hm.blk id b _ hgb hσ
          have hl : id < σ.length := (List.getElem?_eq_some_iff.1 hσ).1
          obtain hnew := Acr hnl
          have htl : ∀ m : List UInt8, (G1 m).length = m.length := fun m => by simp [G1]
          have hm2 : Mem E w g (σ.set id (.buf 1 (G1 l) b.ro)) := N3 hm hσ (fun b' hb' => by rw [hgb] at hb'; cases hb'; exact Akf (hm.blk id b _ hgb hσ))
          have hxv2 : G6 (σ.set id (.buf 1 (G1 l) b.ro)) x = some new := by
            cases x with
            | bs f2 id2 t2 o2 l2 =>
              simp only [G6] at hxv ⊢
              by_cases e2 : id2 = id
              · subst e2; rw [hσ] at hxv; cases hxv
              · rw [List.getElem?_set_ne (fun e3 => e2 e3.symm)]; exact hxv
            | _ => exact hxv
          obtain ⟨v, w', g', b', r1, r2, r3, r4, r5, r6, r7⟩ := Xq hE hm2 (ty := ty) ht hd hte hs hx hu hnu hxv2 hstr hsn (List.getElem?_set_self hl) (by rw [htl]; exact c7) c3.symm (by omega) (by omega) c5
          have hset : ∀ ab ab2 : ABlk, (σ.set id ab).set id ab2 = σ.set id ab2 := fun ab ab2 => by
            refine List.ext_getElem? fun i => ?_
            by_cases e : id = i
            · subst e; rw [List.getElem?_set_self (by simpa using hl), List.getElem?_set_self hl]
            · rw [List.getElem?_set_ne e, List.getElem?_set_ne e, List.getElem?_set_ne e]
          rw [hset] at r2
          have hels : G1 l ++ new = G1 (l ++ nl) := by rw [hnew]; simp [G1]
          rw [hels] at r2
          refine ⟨v, w', g', r1, ?_, r3, r4, r5⟩
          have h3 := N3 (ab' := .tb e (l ++ nl)) r2 (List.getElem?_set_self hl) (fun b2 hb2 => by
            rw [r6] at hb2; cases hb2
            refine ⟨?_, r7 e rfl (fun b3 hb3 => by rw [hgb] at hb3; cases hb3; exact hk.2)⟩
            obtain ⟨q1, q2, q3⟩ := r2.blk id b' _ r6 (List.getElem?_set_self hl)
            exact ⟨q1, rfl, q3⟩)
          rw [hset] at h3
          exact h3
        rename_i k els ro hσ
        split at hy
        case isFalse => cases hy
        rename_i hcond
        obtain ⟨c1, c2, c3, c4, c5⟩ := hcond
        have hs2 := hs
        cases hs with
        | bs _ _ _ _ _ _ _ b hgb hbx htot hat ho =>
          have hbk := hm.blk id b _ hgb hσ
          obtain ⟨k1, k2, k3, k4, k5, k6, k7⟩ := hbk
          have hbl : b.len = tot := by omega
          obtain ⟨a, cap, rfl, q2, q3, q4, q5⟩ := hat hbl
          have hview : G6 σ (.bs full id tot off len) = some ((els.drop off).take len) := by simp [G6, hσ, c1]
          have hso : ∀ cs ∈ (els.drop off).take len, cs.length = de.size := by
            intro cs hc
            rw [← c2]
            exact Lm k5 cs (List.mem_of_mem_drop (List.mem_of_mem_take hc))
          have hol : ((els.drop off).take len).length = len := by simp; omega
          split at hy
          · rename_i hfr
            obtain ⟨h0, hlt⟩ := hfr
            subst h0
            subst hlt
            simp only [Option.some.injEq, Prod.mk.injEq] at hy
            obtain ⟨rfl, rfl⟩ := hy
            by_cases hnil : new = []
            · subst hnil
              have hself : σ.set id (.buf k (els ++ []) ro) = σ := by
                rw [List.append_nil]
                apply List.ext_getElem?
                intro i
                by_cases hi : i = id
                · subst hi; rw [Bi hσ, hσ]
                · rw [Dm hi]
              rw [hself]
              exact Sound.pure hm (keyNil rfl a len cap rfl q2) (.bs _ _ _ _ _ _ _ b hgb hbx htot (fun _ => ⟨a, cap, rfl, q2, (by intro h; cases h), q4, q5⟩) rfl)
            have hpos : 0 < new.length := List.length_pos_iff.2 hnil
            by_cases hfit : len + new.length ≤ cap
            · rcases q5 with q5 | ⟨β, hβ, rfl, q6⟩
              · omega
              obtain ⟨arr, t', fz, g1, g2, g3, g4, g5⟩ := k7 β hβ
              obtain ⟨l2, v2, f2, r2⟩ := Gl (P := E.P) (size := de.size) hm hx hxv hsn hstr
              have hone : ∀ u ∈ v2.toList, one u = true := by
                intro u hu2
                obtain ⟨j, hj, e2⟩ := Pv hu2
                rw [r2.1] at hj
                have hi : j / de.size < new.length := (Nat.div_lt_iff_lt_mul (by omega)).2 hj
                have hcs := hsn new[j / de.size] (List.getElem_mem hi)
                have hj2 : j % de.size < new[j / de.size].length := by rw [hcs]; exact Nat.mod_lt _ (by omega)
                have := (r2.2 (j / de.size) _ (j % de.size) _ (List.getElem?_eq_getElem hi) (List.getElem?_eq_getElem hj2)).2
                rw [Nat.mul_comm, Nat.div_add_mod, e2] at this
                exact this
              have hce : (len + new.length) * k ≤ b.ce * k := Nat.mul_le_mul_right k (by omega)
              rw [Nat.add_mul] at hce
              have hv2 : v2.toList.length = new.length * k := by simp [r2.1, c2]
              obtain ⟨w', arr', hrun, hw, harr⟩ := I5 E.P g1 v2.toList (o := b.o + len * k) ((g4.sub (lo' := 0) (hi' := arr.size) (Nat.le_refl _) (P5 _ _)).sub (by omega) (by rw [hv2]; omega)) (by rw [hv2]; omega) hone
              have hmw := Kh (b' := { b with len := len + new.length }) (ab' := .buf k (els ++ new) ro) hm hw hgb hβ hβ (.inr ⟨k1, k1, by simp; omega⟩) (by
                intro hro
                refine ⟨hro, ?_, ?_⟩
                · simp only
                  have : b.len * b.k ≤ (len + new.length) * b.k := Nat.mul_le_mul_right _ (by omega)
                  omega
                · intro off hoff
                  have ha := harr off
                  rw [k3, hbl] at hoff
                  rw [if_neg (by omega)] at ha
                  exact ha) (by
                intro hcells hle
                refine ⟨k1, k2, k3, by simp; omega, ?_, fun e => (by rw [hβ] at e; cases e), ?_⟩
                · intro i cs hi
                  have : cs ∈ els ++ new := List.mem_of_getElem? hi
                  rcases List.mem_append.1 this with h | h
                  · exact Lm k5 cs h
                  · rw [c2]; exact hsn cs h
                · intro β' hβ'
                  simp only at hβ'
                  rw [hβ] at hβ'; cases hβ'
                  refine ⟨arr', t', fz, hw.now, by rw [hw.asize]; exact g2, by simp; omega, by rw [hw.asize]; exact g4, ?_⟩
                  intro i cs j y hi hj
                  simp only
                  rcases Nat.lt_or_ge i els.length with hl | hl
                  · rw [List.getElem?_append_left hl] at hi
                    have hjk : j < k := by have := (List.getElem?_eq_some_iff.1 hj).1; rw [k5 _ _ hi] at this; exact this
                    have hik : (i + 1) * k ≤ len * k := Nat.mul_le_mul_right k (by omega)
                    rw [Nat.add_mul, Nat.one_mul] at hik
                    have hpos2 : b.o + i * k + j < arr.size := by omega
                    have ha := harr (b.o + i * k + j)
                    rw [if_neg (by omega), A0 hpos2] at ha
                    rw [Au ha]
                    exact ⟨(g5 _ _ _ _ hi hj).1.mono hcells hle, (g5 _ _ _ _ hi hj).2⟩
                  · rw [List.getElem?_append_right hl] at hi
                    have hil : i - els.length < new.length := (List.getElem?_eq_some_iff.1 hi).1
                    have hjk : j < k := by have := (List.getElem?_eq_some_iff.1 hj).1; rw [hsn cs (List.mem_of_getElem? hi), ← c2] at this; exact this
                    have hik : (i - els.length + 1) * k ≤ new.length * k := Nat.mul_le_mul_right k hil
                    rw [Nat.add_mul, Nat.one_mul] at hik
                    have e3 : i * k = len * k + (i - els.length) * k := by rw [← Nat.add_mul]; congr 1; omega
                    have ha := harr (b.o + i * k + j)
                    rw [if_pos (by rw [hv2]; omega), toList_getElem? _ _ (by rw [r2.1, ← c2]; omega)] at ha
                    rw [Au ha]
                    have e4 : b.o + i * k + j - (b.o + len * k) = (i - els.length) * de.size + j := by rw [← c2]; omega
                    rw [e4]
                    exact ⟨(r2.2 _ _ _ _ hi hj).1.mono hcells hle, (r2.2 _ _ _ _ hi hj).2⟩)
              refine ⟨_, w', _, Fc hE ht hd hte hu hnu l2 f2 hfit (w' := w') ?_, hmw.1, hmw.2.1, hmw.2.2, ?_⟩
              · simp only [Bp, Nat.zero_mul, Nat.add_zero, ← c2]
                exact hrun
              · refine .bs _ _ _ _ _ _ _ _ (Bi hgb) k1 (Nat.le_refl _) (fun _ => ?_) rfl
                exact ⟨_, _, rfl, hfit, (by intro h; cases h), by simp, .inr ⟨β, hβ, by simp, by simpa using q6⟩⟩
            · have hold : (els.drop 0).take len = els := by rw [List.drop_zero, ← c1, List.take_length]
              rw [hold] at hview hso hol
              obtain ⟨newCap, w', vs', arr, e', r1, r2, r3, r4, r5, r6⟩ := Lu hE hm ht hd hte hu hnu (ty := ty) rfl hol hs2 hview (by intro l h; cases h) hx hxv hso hsn hstr (by omega) (by omega) c5
              have hall : ∀ cs ∈ els ++ new, cs.length = k := by
                intro cs h
                rcases List.mem_append.1 h with h | h
                · exact Lm k5 cs h
                · rw [c2]; exact hsn cs h
              have hmv := AbK (b' := { blk := some w.heap.size, o := 0, k := k, len := (els ++ new).length, ce := newCap, isBox := false, ro := ro }) (ab' := .buf k (els ++ new) ro) hm r2 hgb rfl (.inr ⟨k1, rfl, by simp; omega⟩) (by
                intro hcells hle
                refine ⟨rfl, rfl, rfl, rfl, fun i cs hi => hall cs (List.mem_of_getElem? hi), fun e => (by cases e), ?_⟩
                intro β hβ
                cases hβ
                refine ⟨arr, e', (0, 0), r2.new, by rw [c2]; simpa using r6, r5, Cu _ _, ?_⟩
                intro i cs j y hi hj
                have hlt : i * k + j < vs'.size := by
                  rw [r3.1, ← c2]
                  have hil : i < (els ++ new).length := (List.getElem?_eq_some_iff.1 hi).1
                  have hjl : j < cs.length := (List.getElem?_eq_some_iff.1 hj).1
                  rw [hall cs (List.mem_of_getElem? hi)] at hjl
                  have : (i + 1) * k ≤ (els ++ new).length * k := Nat.mul_le_mul_right k hil
                  rw [Nat.add_mul, Nat.one_mul] at this
                  omega
                have e2 : arr.getD (0 + i * k + j) undef = vs'.getD (i * k + j) undef := by
                  refine Au ?_
                  rw [Nat.zero_add, r4 _ hlt, A0 hlt]
                simp only [e2]
                have := r3.2 i cs j y hi hj
                rw [← c2] at this
                exact ⟨this.1.mono hcells hle, this.2⟩)
              refine ⟨_, w', _, r1, hmv.1, hmv.2.1, hmv.2.2, ?_⟩
              have e5 : len + new.length = (els ++ new).length := by simp; omega
              rw [e5]
              refine .bs _ _ _ _ _ _ _ _ (Bi hgb) rfl (Nat.le_refl _) (fun _ => ?_) rfl
              exact ⟨_, _, rfl, r5, (by intro h; cases h), by simp, .inr ⟨_, rfl, by simp, by simp⟩⟩
          · split at hy
            · rename_i hnil
              simp only [Option.some.injEq, Prod.mk.injEq] at hy
              obtain ⟨rfl, rfl⟩ := hy
              exact Sound.pure hm (keyNil hnil a len cap rfl q2) hs2
            rename_i hne
            have hpos : 0 < new.length := List.length_pos_iff.2 hne
            split at hy
            case isFalse => cases hy
            rename_i hful
            simp only [Option.some.injEq, Prod.mk.injEq] at hy
            obtain ⟨rfl, rfl⟩ := hy
            have hcl := q3 hful
            obtain ⟨newCap, w', vs', arr, e', r1, r2, r3, r4, r5, r6⟩ := Lu hE hm ht hd hte hu hnu (ty := ty) rfl hol hs2 hview (by intro l h; cases h) hx hxv hso hsn hstr (by omega) (by omega) c5
            obtain ⟨g', n1, n2, n3, n4⟩ := Tq (full := false) hm r2 r3 (by intro cs h; rcases List.mem_append.1 h with h | h; exact hso cs h; exact hsn cs h) r4 r5 r6 (Cu _ _) (by intro h; cases h)
            refine ⟨_, w', g', r1, by rw [c2]; exact n1, n2, n3, ?_⟩
            have e5 : len + new.length = ((els.drop off).take len ++ new).length := by rw [List.length_append, hol]
            rw [e5]
            exact n4
      · cases hy
end Go.Rv
