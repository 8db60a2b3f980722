/-
  Part 3.
-/
import Derived.Test.YtnfoiocigicdnaaGreatDoorYV2
import Derived.Laws.Cells
import Derived.Laws.CopyRow
import Derived.Laws.Append
import Derived.Laws.AppendOwn
namespace Go.Rv
set_option linter.unusedVariables false
set_option linter.unusedSimpArgs false
variable {E : Env}
theorem cell?_eq {w : World} {β : Nat} {arr : Array Value} {t : TypeId} {fz : Nat × Nat} (h : w.heap[β]? = some (.cells arr t fz)) (o : Nat) : w.cell? ⟨β, o, none⟩ = arr[o]? := by
  simp [World.cell?, h]
theorem Bp (β o j : Nat) : (⟨β, o, none⟩ : Addr).add j = ⟨β, o + j, none⟩ := by unfold Addr.add; split <;> simp_all
theorem A0 {arr : Array Value} {i : Nat} (h : i < arr.size) : arr[i]? = some (arr.getD i undef) := by
  simp [Array.getD, h]
theorem cell?_lt {w : World} {a : Addr} {u : Value} (h : w.cell? a = some u) : a.block < w.heap.size := block_lt_of_cell h
structure SameMem (w w' : World) : Prop where
  heap : w'.heap = w.heap
  os : w'.os = w.os
  tape : w'.tape = w.tape
  output : w'.output = w.output
theorem SameMem.refl (w : World) : SameMem w w := ⟨rfl, rfl, rfl, rfl⟩
theorem SameMem.cell {w w' : World} (h : SameMem w w') (a : Addr) : w'.cell? a = w.cell? a := by simp [World.cell?, h.heap]
theorem SameMem.trans {a b c : World} (h : SameMem a b) (k : SameMem b c) : SameMem a c := ⟨k.heap.trans h.heap, k.os.trans h.os, k.tape.trans h.tape, k.output.trans h.output⟩
theorem BlkOk.mono {w w' : World} {g g' : Gh} {b : GB} {ab : ABlk} (h : BlkOk E w g b ab)
    (hcells : ∀ a u, w.cell? a = some u → A2 E g a → w'.cell? a = some u ∧ A2 E g' a) (hle : GLe g g')
    (hb : ∀ β, b.blk = some β → w'.heap[β]? = w.heap[β]?) : BlkOk E w' g' b ab := by
  cases ab with
  | box cs ro =>
    obtain ⟨h1, h2, h3, h4, h5, β, arr, t, fz, h6, h7, h8, h9, h10⟩ := h
    exact ⟨h1, h2, h3, h4, h5, β, arr, t, fz, h6, by rw [hb β h6]; exact h7, h8, h9, fun j x hj => ⟨(h10 j x hj).1.mono hcells hle, (h10 j x hj).2⟩⟩
  | buf k els ro =>
    obtain ⟨h1, h2, h3, h4, h5, h6, h7⟩ := h
    refine ⟨h1, h2, h3, h4, h5, h6, fun β hβ => ?_⟩
    obtain ⟨arr, t, fz, g1, g2, g3, g4, g5⟩ := h7 β hβ
    exact ⟨arr, t, fz, by rw [hb β hβ]; exact g1, g2, g3, g4, fun i cs j x hi hj => ⟨(g5 i cs j x hi hj).1.mono hcells hle, (g5 i cs j x hi hj).2⟩⟩
  | obj o =>
    obtain ⟨h1, h2, β, h3, h4⟩ := h
    exact ⟨h1, h2, β, h3, by rw [hb β h3]; exact h4⟩
  | tb T l =>
    obtain ⟨⟨h1, h2, h3, h4, h5, h6, h7⟩, h8⟩ := h
    refine ⟨⟨h1, h2, h3, h4, h5, h6, fun β hβ => ?_⟩, fun β hβ => by rw [hb β hβ]; exact h8 β hβ⟩
    obtain ⟨arr, t, fz, g1, g2, g3, g4, g5⟩ := h7 β hβ
    exact ⟨arr, t, fz, by rw [hb β hβ]; exact g1, g2, g3, g4, fun i cs j x hi hj => ⟨(g5 i cs j x hi hj).1.mono hcells hle, (g5 i cs j x hi hj).2⟩⟩
theorem Abn {E E' : Env} {w : World} {g g' : Gh} {b : GB} {T : TypeId} {l : List UInt8} (h : BlkOk E w g b (.tb T l)) : BlkOk E' w g' b (.tb T l) := by
  obtain ⟨⟨k1, k2, k3, k4, k5, k6, k7⟩, k8⟩ := h
  refine ⟨⟨k1, k2, k3, k4, k5, k6, fun β hβ => ?_⟩, k8⟩
  obtain ⟨arr, t, fz, g1, g2, g3, g4, g5⟩ := k7 β hβ
  refine ⟨arr, t, fz, g1, g2, g3, g4, fun i cs j x hi hj => ⟨?_, (g5 i cs j x hi hj).2⟩⟩
  have hr := (g5 i cs j x hi hj).1
  have hm1 := List.mem_of_getElem? hi
  simp only [G1, List.mem_map] at hm1
  obtain ⟨y, _, rfl⟩ := hm1
  have := List.mem_of_getElem? hj
  simp only [List.mem_singleton] at this
  subst this
  generalize arr.getD (b.o + i * 1 + j) undef = v at hr
  cases hr
  exact .int _ _ _
theorem Akf {E : Env} {w : World} {g : Gh} {b : GB} {T : TypeId} {l : List UInt8} (h : BlkOk E w g b (.tb T l)) : BlkOk E w g b (.buf 1 (G1 l) b.ro) := h.1
theorem Fh {E : Env} {w w' : World} {g g' : Gh} {σ : Ab} (hm : Mem E w g σ) (hsize : w.heap.size ≤ w'.heap.size)
    (hcells : ∀ a u, w.cell? a = some u → A2 E g a → w'.cell? a = some u ∧ A2 E g' a)
    (hblocks : ∀ β, β < w.heap.size → ¬ Gu g β → ¬ Gu g' β) :
    ∀ i cs, E.G i = some cs → i < w'.heap.size ∧ ¬ Gu g' i ∧ (∀ j, ¬ E.F ⟨i, j, none⟩) ∧ ∃ c : Nat → Value, ∀ (j : Nat) (x : AV), cs[j]? = some x → w'.cell? ⟨i, j, none⟩ = some (c j) ∧ Rep w' (A2 E g') [] (c j) x ∧ one (c j) = true := by
  intro i cs h
  obtain ⟨h1, h2, hF, c, hc⟩ := hm.glob i cs h
  refine ⟨Nat.lt_of_lt_of_le h1 hsize, hblocks i h1 h2, hF, c, fun j x hj => ?_⟩
  obtain ⟨q1, q2, q3⟩ := hc j x hj
  exact ⟨(hcells _ _ q1 (B4 (hF j) h2)).1, q2.mono hcells (GLe.nil _), q3⟩
theorem Gn {E : Env} {w w' : World} {g : Gh} {σ : Ab} (hm : Mem E w g σ) (h : ∀ (r : Nat) es cl, w.heap[r]? = some (Obj.map es cl) → w'.heap[r]? = some (Obj.map es cl)) :
    ∀ t m, E.maps t = some m → Ak3 E.P t m w' := fun t m hr =>
  let ⟨h1, h2, h3, h4, es, cl, h5, h6⟩ := hm.maps t m hr
  ⟨h1, h2, h3, h4, es, cl, h _ es cl h5, h6⟩
theorem Dt {E : Env} {w w' : World} {g g' : Gh} {σ : Ab} (hm : Mem E w g σ) (hb : ∀ β, β < w.heap.size → ¬ Gu g β → w'.heap[β]? = w.heap[β]? ∧ ¬ Gu g' β) :
    ∀ i vs, E.whole i = some vs → ¬ Gu g' i ∧ ∃ t o, w'.heap[i]? = some (.cells vs t o) := fun i vs h =>
  let ⟨h1, t, o, h2⟩ := hm.whole i vs h
  let ⟨q1, q2⟩ := hb i (Array.getElem?_eq_some_iff.1 h2).1 h1
  ⟨q2, t, o, q1.trans h2⟩
theorem Dg {E : Env} {w w' : World} {g g' : Gh} {σ : Ab} (hm : Mem E w g σ) (hsize : w.heap.size ≤ w'.heap.size)
    (hblocks : ∀ β, β < w.heap.size → ¬ Gu g β → ¬ Gu g' β) : ∀ a, E.F a → a.block < w'.heap.size ∧ ¬ Gu g' a.block := fun a ha =>
  ⟨Nat.lt_of_lt_of_le (hm.foreign a ha).1 hsize, hblocks _ (hm.foreign a ha).1 (hm.foreign a ha).2⟩
theorem Mem.same {E : Env} {w w' : World} {g : Gh} {σ : Ab} (hm : Mem E w g σ) (h : SameMem w w') : Mem E w' g σ := by
  have hcells : ∀ a u, w.cell? a = some u → A2 E g a → w'.cell? a = some u ∧ A2 E g a := fun a u hc hp => ⟨(h.cell a).trans hc, hp⟩
  exact ⟨hm.len, fun id b ab hb hab => (hm.blk id b ab hb hab).mono hcells (GLe.refl _) (fun β _ => by rw [h.heap]), hm.inj,
    Dg hm (by rw [h.heap]; exact Nat.le_refl _) (fun _ _ h => h), Fh hm (by rw [h.heap]; exact Nat.le_refl _) hcells (fun _ _ h => h), Gn hm (fun r es cl hr => by rw [h.heap]; exact hr), Dt hm (fun β _ hn => ⟨by rw [h.heap], hn⟩)⟩
theorem Evo.same {n : Nat} {w w' : World} {g : Gh} (h : SameMem w w') : Evo E n w g w' g :=
  ⟨h.os, h.tape, h.output, by rw [h.heap]; exact Nat.le_refl _, fun a u hc hp => ⟨(h.cell a).trans hc, hp⟩, fun β _ hm => ⟨by rw [h.heap], hm⟩, fun _ _ b h => ⟨b, h, GB.step.refl b⟩⟩
structure OneMore (w w' : World) (o : Obj) : Prop where
  heap : w'.heap = w.heap.push o
  os : w'.os = w.os
  tape : w'.tape = w.tape
  output : w'.output = w.output
theorem OneMore.old {w w' : World} {o : Obj} (h : OneMore w w' o) {β : Nat} (hβ : β < w.heap.size) : w'.heap[β]? = w.heap[β]? := by
  rw [h.heap, Array.getElem?_push, if_neg (by omega)]
theorem OneMore.new {w w' : World} {o : Obj} (h : OneMore w w' o) : w'.heap[w.heap.size]? = some o := by
  rw [h.heap]; simp
theorem OneMore.size {w w' : World} {o : Obj} (h : OneMore w w' o) : w'.heap.size = w.heap.size + 1 := by rw [h.heap]; simp
theorem OneMore.cell {w w' : World} {o : Obj} (h : OneMore w w' o) {a : Addr} {u : Value} (hc : w.cell? a = some u) : w'.cell? a = some u := by
  have := cell?_lt hc
  rw [← hc]; simp [World.cell?, h.old this]
theorem Dr {E : Env} {w : World} {g : Gh} {σ : Ab} (hm : Mem E w g σ) {id : Nat} {b : GB} {β : Nat} (hb : g[id]? = some b) (hβ : b.blk = some β) : β < w.heap.size := by
  have hid : id < g.length := (List.getElem?_eq_some_iff.1 hb).1
  have hid' : id < σ.length := by rw [← hm.len]; exact hid
  have hk := hm.blk id b σ[id] hb (List.getElem?_eq_getElem hid')
  generalize σ[id] = ab at hk
  cases ab with
  | box cs ro =>
    obtain ⟨h1, h2, h3, h4, h5, β', arr, t, fz, h6, h7, _⟩ := hk
    rw [hβ] at h6; cases h6
    exact (Array.getElem?_eq_some_iff.1 h7).1
  | buf k els ro =>
    obtain ⟨h1, h2, h3, h4, h5, h6, h7⟩ := hk
    obtain ⟨arr, t, fz, g1, _⟩ := h7 β hβ
    exact (Array.getElem?_eq_some_iff.1 g1).1
  | obj o =>
    obtain ⟨h1, h2, β', h3, h4⟩ := hk
    rw [hβ] at h3; cases h3
    exact (Array.getElem?_eq_some_iff.1 h4).1
  | tb T l =>
    obtain ⟨arr, fz, h⟩ := hk.2 β hβ
    exact (Array.getElem?_eq_some_iff.1 h).1
theorem Se {g : Gh} {b : GB} {a : Addr} (h : A2 E g a) (hb : b.blk ≠ some a.block) : A2 E (g ++ [b]) a := by
  refine ⟨h.1, ?_⟩
  intro id b' hb' hβ
  rcases Nat.lt_or_ge id g.length with hl | hl
  · rw [List.getElem?_append_left hl] at hb'; exact h.2 id b' hb' hβ
  · rw [List.getElem?_append_right hl] at hb'
    have : b' = b := by
      cases hq : id - g.length with
      | zero => rw [hq] at hb'; simpa using hb'.symm
      | succ n => rw [hq] at hb'; simp at hb'
    subst this
    exact (hb hβ).elim
theorem Ri {g : Gh} {b : GB} {β : Nat} : Gu (g ++ [b]) β → Gu g β ∨ b.blk = some β := by
  rintro ⟨id, b', hb', hβ⟩
  rcases Nat.lt_or_ge id g.length with hl | hl
  · rw [List.getElem?_append_left hl] at hb'; exact .inl ⟨id, b', hb', hβ⟩
  · rw [List.getElem?_append_right hl] at hb'
    cases hq : id - g.length with
    | zero => rw [hq] at hb'; simp at hb'; subst hb'; exact .inr hβ
    | succ n => rw [hq] at hb'; simp at hb'
theorem Kl {E : Env} {w w' : World} {g : Gh} {σ : Ab} (hm : Mem E w g σ) {o : Obj} (hw : OneMore w w' o) (b : GB) (ab : ABlk)
    (hb : b.blk = some w.heap.size ∨ b.blk = none)
    (hok : (∀ a u, w.cell? a = some u → A2 E g a → w'.cell? a = some u ∧ A2 E (g ++ [b]) a) → GLe g (g ++ [b]) → BlkOk E w' (g ++ [b]) b ab) :
    Mem E w' (g ++ [b]) (σ ++ [ab]) ∧ GLe g (g ++ [b]) ∧ Evo E 0 w g w' (g ++ [b]) := by
  have hbne : ∀ β, β < w.heap.size → b.blk ≠ some β := by
    intro β hβ e
    rcases hb with h | h
    · rw [h] at e; cases e; omega
    · rw [h] at e; cases e
  have hcells : ∀ a u, w.cell? a = some u → A2 E g a → w'.cell? a = some u ∧ A2 E (g ++ [b]) a := fun a u hc hp =>
    ⟨hw.cell hc, Se hp (hbne _ (cell?_lt hc))⟩
  have hnm : ∀ β, β < w.heap.size → ¬ Gu g β → ¬ Gu (g ++ [b]) β := fun β hβ hn hm' => by
    rcases Ri hm' with h | h
    · exact hn h
    · exact hbne β hβ h
  have hsz := hw.size
  refine ⟨⟨by simp [hm.len], ?_, ?_, Dg hm (by omega) hnm, Fh hm (by omega) hcells hnm, Gn hm (fun r es cl hr => (hw.old (Array.getElem?_eq_some_iff.1 hr).1).trans hr), Dt hm (fun β hβ hn => ⟨hw.old hβ, hnm β hβ hn⟩)⟩, GLe.append _ _, ?_⟩
  · intro id b' ab' h1 h2
    rcases Nat.lt_or_ge id g.length with hl | hl
    · rw [List.getElem?_append_left hl] at h1
      rw [List.getElem?_append_left (by rw [← hm.len]; exact hl)] at h2
      exact (hm.blk id b' ab' h1 h2).mono hcells (GLe.append _ _) (fun β hβ => hw.old (Dr hm h1 hβ))
    · have e : id = g.length := by
        rcases Nat.lt_or_ge g.length id with h | h
        · rw [List.getElem?_eq_none (by simp; omega)] at h1; cases h1
        · omega
      subst e
      rw [List.getElem?_append_right (Nat.le_refl _)] at h1
      rw [hm.len, List.getElem?_append_right (Nat.le_refl _)] at h2
      simp at h1 h2
      subst h1; subst h2
      exact hok hcells (GLe.append _ _)
  · intro id id' b1 b2 β h1 h2 e1 e2
    rcases Nat.lt_or_ge id g.length with hl | hl <;> rcases Nat.lt_or_ge id' g.length with hl' | hl'
    · rw [List.getElem?_append_left hl] at h1
      rw [List.getElem?_append_left hl'] at h2
      exact hm.inj id id' b1 b2 β h1 h2 e1 e2
    · rw [List.getElem?_append_left hl] at h1
      rw [List.getElem?_append_right hl'] at h2
      have : b2 = b := by
        cases hq : id' - g.length with
        | zero => rw [hq] at h2; simpa using h2.symm
        | succ n => rw [hq] at h2; simp at h2
      subst this
      exact (hbne β (Dr hm h1 e1) e2).elim
    · rw [List.getElem?_append_right hl] at h1
      rw [List.getElem?_append_left hl'] at h2
      have : b1 = b := by
        cases hq : id - g.length with
        | zero => rw [hq] at h1; simpa using h1.symm
        | succ n => rw [hq] at h1; simp at h1
      subst this
      exact (hbne β (Dr hm h2 e2) e1).elim
    · have e : id = g.length := by
        rcases Nat.lt_or_ge g.length id with h | h
        · rw [List.getElem?_eq_none (by simp; omega)] at h1; cases h1
        · omega
      have e' : id' = g.length := by
        rcases Nat.lt_or_ge g.length id' with h | h
        · rw [List.getElem?_eq_none (by simp; omega)] at h2; cases h2
        · omega
      omega
  · exact ⟨hw.os, hw.tape, hw.output, by omega, hcells, fun β hβ hn => ⟨hw.old hβ, hnm β hβ hn⟩, fun _ h => absurd h (Nat.not_lt_zero _)⟩
theorem AgP {E : Env} {w : World} {g : Gh} {σ : Ab} (hm : Mem E w g σ) (k : Nat) :
    Mem E w (g ++ [{ blk := none, o := 0, k := k, len := 0, ce := 0, isBox := false, ro := false }]) (σ ++ [.buf k [] false]) ∧ GLe g (g ++ [{ blk := none, o := 0, k := k, len := 0, ce := 0, isBox := false, ro := false }]) ∧
      Evo E 0 w g w (g ++ [{ blk := none, o := 0, k := k, len := 0, ce := 0, isBox := false, ro := false }]) := by
  generalize hb0 : ({ blk := none, o := 0, k := k, len := 0, ce := 0, isBox := false, ro := false } : GB) = b
  have hbn : ∀ β, b.blk ≠ some β := by intro β e; rw [← hb0] at e; cases e
  have hcells : ∀ a u, w.cell? a = some u → A2 E g a → w.cell? a = some u ∧ A2 E (g ++ [b]) a := fun a u hc hp => ⟨hc, Se hp (hbn _)⟩
  have hnm : ∀ β, β < w.heap.size → ¬ Gu g β → ¬ Gu (g ++ [b]) β := fun β hβ hn hm' => by
    rcases Ri hm' with h | h
    · exact hn h
    · exact hbn β h
  refine ⟨⟨by simp [hm.len], ?_, ?_, Dg hm (Nat.le_refl _) hnm, Fh hm (Nat.le_refl _) hcells hnm, hm.maps, Dt hm (fun β hβ hn => ⟨rfl, hnm β hβ hn⟩)⟩, GLe.append _ _, ?_⟩
  · intro id b' ab' h1 h2
    rcases Nat.lt_or_ge id g.length with hl | hl
    · rw [List.getElem?_append_left hl] at h1
      rw [List.getElem?_append_left (by rw [← hm.len]; exact hl)] at h2
      exact (hm.blk id b' ab' h1 h2).mono hcells (GLe.append _ _) (fun _ _ => rfl)
    · have e : id = g.length := by
        rcases Nat.lt_or_ge g.length id with h | h
        · rw [List.getElem?_eq_none (by simp; omega)] at h1; cases h1
        · omega
      subst e
      rw [List.getElem?_append_right (Nat.le_refl _)] at h1
      rw [hm.len, List.getElem?_append_right (Nat.le_refl _)] at h2
      simp at h1 h2
      subst h1; subst h2
      rw [← hb0]
      exact ⟨rfl, rfl, rfl, rfl, fun i cs hi => by simp at hi, fun _ => ⟨.inl rfl, rfl⟩, fun β hβ => by cases hβ⟩
  · intro id id' b1 b2 β h1 h2 e1 e2
    have key : ∀ (i : Nat) (c : GB), (g ++ [b])[i]? = some c → c.blk = some β → i < g.length ∧ g[i]? = some c := by
      intro i c hc he
      rcases Nat.lt_or_ge i g.length with hl | hl
      · rw [List.getElem?_append_left hl] at hc; exact ⟨hl, hc⟩
      · rw [List.getElem?_append_right hl] at hc
        have : c = b := by
          cases hq : i - g.length with
          | zero => rw [hq] at hc; simpa using hc.symm
          | succ n => rw [hq] at hc; simp at hc
        subst this
        exact (hbn _ he).elim
    exact hm.inj id id' b1 b2 β (key _ _ h1 e1).2 (key _ _ h2 e2).2 e1 e2
  · exact ⟨rfl, rfl, rfl, Nat.le_refl _, hcells, fun β hβ hn => ⟨rfl, hnm β hβ hn⟩, fun _ h => absurd h (Nat.not_lt_zero _)⟩
structure Wrote (w w' : World) (β : Nat) (arr arr' : Array Value) (t : TypeId) (fz : Nat × Nat) : Prop where
  was : w.heap[β]? = some (.cells arr t fz)
  now : w'.heap[β]? = some (.cells arr' t fz)
  asize : arr'.size = arr.size
  other : ∀ k, k ≠ β → w'.heap[k]? = w.heap[k]?
  size : w'.heap.size = w.heap.size
  os : w'.os = w.os
  tape : w'.tape = w.tape
  output : w'.output = w.output
theorem Wq {g : Gh} {id : Nat} {b b' : GB} (hb : g[id]? = some b) (hs : b.step b') : GLe g (g.set id b') := by
  intro id' c hc
  by_cases e : id' = id
  · subst e
    rw [hb] at hc; cases hc
    exact ⟨b', by rw [List.getElem?_set]; simp [(List.getElem?_eq_some_iff.1 hb).1], hs⟩
  · exact ⟨c, by rw [List.getElem?_set, if_neg (fun h => e h.symm)]; exact hc, GB.step.refl c⟩
theorem Bi {α : Type} {l : List α} {i : Nat} {x y : α} (h : l[i]? = some x) : (l.set i y)[i]? = some y := by
  rw [List.getElem?_set]; simp [(List.getElem?_eq_some_iff.1 h).1]
theorem Dm {α : Type} {l : List α} {i j : Nat} {y : α} (h : j ≠ i) : (l.set i y)[j]? = l[j]? := by
  rw [List.getElem?_set, if_neg (fun e => h e.symm)]
theorem Kh {E : Env} {w w' : World} {g : Gh} {σ : Ab} (hm : Mem E w g σ) {β : Nat} {arr arr' : Array Value} {t : TypeId} {fz : Nat × Nat} (hw : Wrote w w' β arr arr' t fz)
    {id : Nat} {b b' : GB} {ab' : ABlk} (hb : g[id]? = some b) (hβ : b.blk = some β) (hβ' : b'.blk = some β) (hs : b.step b')
    (hro : b.ro = true → b'.ro = true ∧ b.o + b.len * b.k ≤ b'.o + b'.len * b'.k ∧ ∀ off, off < b.o + b.len * b.k → arr'[off]? = arr[off]?)
    (hok : (∀ a u, w.cell? a = some u → A2 E g a → w'.cell? a = some u ∧ A2 E (g.set id b') a) → GLe g (g.set id b') → BlkOk E w' (g.set id b') b' ab') :
    Mem E w' (g.set id b') (σ.set id ab') ∧ GLe g (g.set id b') ∧ Evo E 0 w g w' (g.set id b') := by
  have hprot : ∀ a, A2 E g a → A2 E (g.set id b') a := by
    intro a hp
    refine ⟨hp.1, ?_⟩
    intro id' c hc he
    by_cases e : id' = id
    · subst e
      rw [Bi hb] at hc; cases hc
      obtain ⟨p1, p2⟩ := hp.2 id' b hb (hβ.trans (hβ'.symm.trans he))
      obtain ⟨q1, q2, _⟩ := hro p1
      exact ⟨q1, by omega⟩
    · rw [Dm e] at hc
      exact hp.2 id' c hc he
  have hcells : ∀ a u, w.cell? a = some u → A2 E g a → w'.cell? a = some u ∧ A2 E (g.set id b') a := by
    intro a u hc hp
    refine ⟨?_, hprot a hp⟩
    by_cases e : a.block = β
    · obtain ⟨p1, p2⟩ := hp.2 id b hb (by rw [hβ, e])
      obtain ⟨_, _, q⟩ := hro p1
      rw [← hc]
      have := q a.off p2
      simp only [World.cell?, e, hw.was, hw.now, this]
    · rw [← hc]
      simp only [World.cell?, hw.other _ e]
  have hle := Wq hb hs
  have hmine : ∀ β', Gu (g.set id b') β' → Gu g β' := by
    rintro β2 ⟨id', c, hc, he⟩
    by_cases e : id' = id
    · subst e
      rw [Bi hb] at hc; cases hc
      exact ⟨id', b, hb, by rw [hβ, ← hβ', he]⟩
    · rw [Dm e] at hc
      exact ⟨id', c, hc, he⟩
  refine ⟨⟨by simp [hm.len], ?_, ?_, Dg hm (by rw [hw.size]; exact Nat.le_refl _) (fun β2 _ hn h => hn (hmine β2 h)), Fh hm (by rw [hw.size]; exact Nat.le_refl _) hcells (fun β2 _ hn h => hn (hmine β2 h)), Gn hm (fun r es cl hr => by rw [hw.other r (fun e => by subst e; have := hw.was; rw [hr] at this; cases this)]; exact hr), Dt hm (fun β2 _ hn => ⟨hw.other β2 (fun e => hn (by subst e; exact ⟨id, b, hb, hβ⟩)), fun h => hn (hmine β2 h)⟩)⟩, hle, ?_⟩
  · intro id' c ab h1 h2
    by_cases e : id' = id
    · subst e
      rw [Bi hb] at h1; cases h1
      have hl : id' < σ.length := by rw [← hm.len]; exact (List.getElem?_eq_some_iff.1 hb).1
      rw [List.getElem?_set] at h2
      simp [hl] at h2
      subst h2
      exact hok hcells hle
    · rw [Dm e] at h1 h2
      refine (hm.blk id' c ab h1 h2).mono hcells hle (fun β2 h3 => hw.other _ ?_)
      intro e2
      subst e2
      exact e (hm.inj id' id c b _ h1 hb h3 hβ)
  · intro i1 i2 b1 b2 β2 h1 h2 e1 e2
    have key : ∀ (i : Nat) (c : GB), (g.set id b')[i]? = some c → c.blk = some β2 → ∃ c0 : GB, g[i]? = some c0 ∧ c0.blk = some β2 := by
      intro i c hc he
      by_cases e : i = id
      · subst e
        rw [Bi hb] at hc; cases hc
        exact ⟨b, hb, by rw [hβ, ← hβ', he]⟩
      · rw [Dm e] at hc
        exact ⟨c, hc, he⟩
    obtain ⟨c1, q1, q2⟩ := key i1 b1 h1 e1
    obtain ⟨c2, q3, q4⟩ := key i2 b2 h2 e2
    exact hm.inj i1 i2 c1 c2 β2 q1 q3 q2 q4
  · refine ⟨hw.os, hw.tape, hw.output, by rw [hw.size]; exact Nat.le_refl _, hcells, fun β2 hβ2 hn => ⟨hw.other _ ?_, fun h => hn (hmine β2 h)⟩, fun _ h => absurd h (Nat.not_lt_zero _)⟩
    intro e
    subst e
    exact hn ⟨id, b, hb, hβ⟩
theorem AbK {E : Env} {w w' : World} {g : Gh} {σ : Ab} (hm : Mem E w g σ) {o : Obj} (hw : OneMore w w' o)
    {id : Nat} {b b' : GB} {ab' : ABlk} (hb : g[id]? = some b) (hβ' : b'.blk = some w.heap.size) (hs : b.step b')
    (hok : (∀ a u, w.cell? a = some u → A2 E g a → w'.cell? a = some u ∧ A2 E (g.set id b') a) → GLe g (g.set id b') → BlkOk E w' (g.set id b') b' ab') :
    Mem E w' (g.set id b') (σ.set id ab') ∧ GLe g (g.set id b') ∧ Evo E 0 w g w' (g.set id b') := by
  have hne : ∀ β, β < w.heap.size → b'.blk ≠ some β := by
    intro β hβ e
    rw [hβ'] at e; cases e; omega
  have hcells : ∀ a u, w.cell? a = some u → A2 E g a → w'.cell? a = some u ∧ A2 E (g.set id b') a := by
    intro a u hc hp
    refine ⟨hw.cell hc, hp.1, ?_⟩
    intro id' c h1 he
    by_cases e : id' = id
    · subst e
      rw [Bi hb] at h1; cases h1
      exact (hne _ (cell?_lt hc) he).elim
    · rw [Dm e] at h1
      exact hp.2 id' c h1 he
  have hle := Wq hb hs
  have hmine : ∀ β, β < w.heap.size → Gu (g.set id b') β → Gu g β := by
    rintro β2 hlt ⟨id', c, hc, he⟩
    by_cases e : id' = id
    · subst e
      rw [Bi hb] at hc; cases hc
      exact (hne _ hlt he).elim
    · rw [Dm e] at hc
      exact ⟨id', c, hc, he⟩
  have hsz := hw.size
  refine ⟨⟨by simp [hm.len], ?_, ?_, Dg hm (by omega) (fun β2 hlt hn h => hn (hmine β2 hlt h)), Fh hm (by omega) hcells (fun β2 hlt hn h => hn (hmine β2 hlt h)), Gn hm (fun r es cl hr => (hw.old (Array.getElem?_eq_some_iff.1 hr).1).trans hr), Dt hm (fun β2 hlt hn => ⟨hw.old hlt, fun h => hn (hmine β2 hlt h)⟩)⟩, hle, ?_⟩
  · intro id' c ab h1 h2
    by_cases e : id' = id
    · subst e
      rw [Bi hb] at h1; cases h1
      have hl : id' < σ.length := by rw [← hm.len]; exact (List.getElem?_eq_some_iff.1 hb).1
      rw [List.getElem?_set] at h2
      simp [hl] at h2
      subst h2
      exact hok hcells hle
    · rw [Dm e] at h1 h2
      exact (hm.blk id' c ab h1 h2).mono hcells hle (fun β2 h3 => hw.old (Dr hm h1 h3))
  · intro i1 i2 b1 b2 β2 h1 h2 e1 e2
    by_cases q1 : i1 = id <;> by_cases q2 : i2 = id
    · omega
    · subst q1
      rw [Bi hb] at h1; cases h1
      rw [Dm q2] at h2
      exact (hne _ (Dr hm h2 e2) e1).elim
    · subst q2
      rw [Bi hb] at h2; cases h2
      rw [Dm q1] at h1
      exact (hne _ (Dr hm h1 e1) e2).elim
    · rw [Dm q1] at h1
      rw [Dm q2] at h2
      exact hm.inj i1 i2 b1 b2 β2 h1 h2 e1 e2
  · exact ⟨hw.os, hw.tape, hw.output, by omega, hcells, fun β2 hβ2 hn => ⟨hw.old hβ2, fun h => hn (hmine β2 hβ2 h)⟩, fun _ h => absurd h (Nat.not_lt_zero _)⟩
theorem AhA {E : Env} {w : World} {g : Gh} {σ : Ab} (hm : Mem E w g σ) {id : Nat} {b : GB} {ab : ABlk} (hb : g[id]? = some b) (hab : σ[id]? = some ab) :
    Mem E w (g.set id { b with ro := true }) (σ.set id (match ab with | .box cs _ => .box cs true | .buf k els _ => .buf k els true | .obj o => .obj o | .tb T l => .tb T l)) ∧ GLe g (g.set id { b with ro := true }) ∧ Evo E 0 w g w (g.set id { b with ro := true }) := by
  have hprot : ∀ a, A2 E g a → A2 E (g.set id { b with ro := true }) a := by
    intro a hp
    refine ⟨hp.1, ?_⟩
    intro id' c hc he
    by_cases e : id' = id
    · subst e
      rw [Bi hb] at hc; cases hc
      obtain ⟨p1, p2⟩ := hp.2 id' b hb he
      exact ⟨rfl, p2⟩
    · rw [Dm e] at hc
      exact hp.2 id' c hc he
  have hcells : ∀ a u, w.cell? a = some u → A2 E g a → w.cell? a = some u ∧ A2 E (g.set id { b with ro := true }) a := fun a u hc hp => ⟨hc, hprot a hp⟩
  have hle : GLe g (g.set id { b with ro := true }) := Wq hb (.inl ⟨rfl, rfl, rfl, rfl, rfl, rfl⟩)
  have key : ∀ (i : Nat) (c : GB) (β : Nat), (g.set id { b with ro := true })[i]? = some c → c.blk = some β → ∃ c0, g[i]? = some c0 ∧ c0.blk = some β := by
    intro i c β hc he
    by_cases e : i = id
    · subst e
      rw [Bi hb] at hc; cases hc
      exact ⟨b, hb, he⟩
    · rw [Dm e] at hc
      exact ⟨c, hc, he⟩
  have hmine : ∀ β, Gu (g.set id { b with ro := true }) β → Gu g β := fun β ⟨i, c, h1, h2⟩ => let ⟨c0, q1, q2⟩ := key i c β h1 h2; ⟨i, c0, q1, q2⟩
  refine ⟨⟨by simp [hm.len], ?_, ?_, Dg hm (Nat.le_refl _) (fun β2 _ hn h => hn (hmine β2 h)), Fh hm (Nat.le_refl _) hcells (fun β2 _ hn h => hn (hmine β2 h)), hm.maps, Dt hm (fun β2 _ hn => ⟨rfl, fun h => hn (hmine β2 h)⟩)⟩, hle, ?_⟩
  · intro id' c ab2 h1 h2
    by_cases e : id' = id
    · subst e
      rw [Bi hb] at h1; cases h1
      rw [Bi hab] at h2; cases h2
      have hk := (hm.blk id' b ab hb hab).mono hcells hle (fun _ _ => rfl)
      cases ab with
      | box cs ro =>
        obtain ⟨k1, k2, k3⟩ := hk
        exact ⟨k1, rfl, k3⟩
      | buf k els ro =>
        obtain ⟨k1, k2, k3⟩ := hk
        exact ⟨k1, rfl, k3⟩
      | obj o => exact hk
      | tb T l =>
        obtain ⟨⟨k1, k2, k3⟩, k4⟩ := hk
        exact ⟨⟨k1, rfl, k3⟩, k4⟩
    · rw [Dm e] at h1 h2
      exact (hm.blk id' c ab2 h1 h2).mono hcells hle (fun _ _ => rfl)
  · intro i1 i2 b1 b2 β2 h1 h2 e1 e2
    obtain ⟨c1, q1, q2⟩ := key i1 b1 β2 h1 e1
    obtain ⟨c2, q3, q4⟩ := key i2 b2 β2 h2 e2
    exact hm.inj i1 i2 c1 c2 β2 q1 q3 q2 q4
  · exact ⟨rfl, rfl, rfl, Nat.le_refl _, hcells, fun β2 _ hn => ⟨rfl, fun h => hn (hmine β2 h)⟩, fun _ h => absurd h (Nat.not_lt_zero _)⟩
theorem I1 (P : Program) (g o : Nat) (t : TypeId) (fz : Nat × Nat) : ∀ (vs : List Value) (i : Nat) (cur : Array Value) (w : World), w.heap[g]? = some (.cells cur t fz) →
    noFreeze fz (o + i) (o + i + vs.length) → o + i + vs.length ≤ cur.size → (∀ v ∈ vs, one v = true) →
    (storeCells ⟨g, o, none⟩ vs i).run P w = .ok () (w.setRow g (cur.toList.take (o + i) ++ vs ++ cur.toList.drop (o + i + vs.length)).toArray)
  | [], i, cur, w, hg, _, _, _ => by
    simp only [storeCells, List.append_nil, List.length_nil, Nat.add_zero, List.take_append_drop, Array.toArray_toList]
    rw [setRow_self w g cur t fz hg]
    rfl
  | v :: rest, i, cur, w, hg, hfz, hl, h1 => by
    have hi : o + i < cur.size := by simp at hl; omega
    have hcell : w.cell? ⟨g, o + i, none⟩ = some cur[o + i] := by simp [World.cell?, hg, hi]
    have hfro : w.frozen? ⟨g, o + i, none⟩ = false := by
      have := hfz.2 (o + i) (Nat.le_refl _) (by simp)
      obtain ⟨lo, hi'⟩ := fz
      simp only [World.frozen?, hg, Bool.and_eq_false_iff, decide_eq_false_iff_not]
      simp only at this
      omega
    have hst : (store ((⟨g, o, none⟩ : Addr).add i) v).run P w = .ok () (w.setRow g (cur.setIfInBounds (o + i) v)) := by
      rw [Bp, run_store P w _ v _ (h1 v (by simp)), hcell]
      simp [hfro, setCell_eq_setRow w g (o + i) cur t fz v hg]
    have ih := I1 P g o t fz rest (i + 1) (cur.setIfInBounds (o + i) v) (w.setRow g (cur.setIfInBounds (o + i) v)) (setRow_heap w g cur _ t _ hg)
      ⟨hfz.1, fun j h1 h2 => hfz.2 j (by omega) (by simp at h2 ⊢; omega)⟩ (by simp at hl ⊢; omega) (fun x hx => h1 x (by simp [hx]))
    simp only [storeCells, Sem.run_bind, hst, Result.andThen_ok, ih, setRow_setRow]
    congr 3
    simp only [Array.toList_setIfInBounds, List.length_cons]
    have := list_seg_step cur.toList (o + i) v rest (by simp at hl ⊢; omega)
    rw [← Nat.add_assoc]
    exact this
theorem Wx {w : World} {g : Nat} {cur : Array Value} {t : TypeId} {fz : Nat × Nat} (hg : w.heap[g]? = some (.cells cur t fz)) {arr' : Array Value} (hs : arr'.size = cur.size) :
    Wrote w (w.setRow g arr') g cur arr' t fz := by
  refine ⟨hg, setRow_heap w g cur arr' t fz hg, hs, ?_, by simp [World.setRow], rfl, rfl, rfl⟩
  intro k hk
  simp only [World.setRow, Array.getElem?_modify]
  rw [if_neg (fun e => hk e.symm)]
theorem AjF (cur vs : List Value) (o : Nat) (h : o + vs.length ≤ cur.length) (k : Nat) :
    (cur.take o ++ vs ++ cur.drop (o + vs.length))[k]? = if o ≤ k ∧ k < o + vs.length then vs[k - o]? else cur[k]? := by
  rw [List.append_assoc]
  by_cases h1 : k < o
  · rw [List.getElem?_append_left (by simp; omega), List.getElem?_take, if_pos h1, if_neg (by omega)]
  · rw [List.getElem?_append_right (by simp; omega)]
    have e : k - (List.take o cur).length = k - o := by simp; omega
    rw [e]
    by_cases h2 : k < o + vs.length
    · rw [List.getElem?_append_left (by omega), if_pos ⟨by omega, h2⟩]
    · rw [List.getElem?_append_right (by omega), List.getElem?_drop, if_neg (by omega)]
      congr 1
      omega
theorem I5 (P : Program) {w : World} {β o : Nat} {cur : Array Value} {t : TypeId} {fz : Nat × Nat} (hg : w.heap[β]? = some (.cells cur t fz)) (vs : List Value)
    (hfz : noFreeze fz o (o + vs.length)) (hl : o + vs.length ≤ cur.size) (h1 : ∀ v ∈ vs, one v = true) :
    ∃ w' arr', (storeCells ⟨β, o, none⟩ vs).run P w = .ok () w' ∧ Wrote w w' β cur arr' t fz ∧
      ∀ k, arr'[k]? = if o ≤ k ∧ k < o + vs.length then vs[k - o]? else cur[k]? := by
  have h := I1 P β o t fz vs 0 cur w hg (by simpa using hfz) (by simpa using hl) h1
  simp only [Nat.add_zero] at h
  refine ⟨_, _, h, Wx hg (by simp; omega), fun k => ?_⟩
  have := AjF cur.toList vs o (by simpa using hl) k
  simpa using this
end Go.Rv
