/-
  Part 13.
-/
import Derived.Test.YtnfoiocigicdnaaGreatDoorYV12
namespace Go.Rv
set_option linter.unusedVariables false
set_option linter.unusedSimpArgs false
variable {E : Env} {w : World} {g : Gh} {σ : Ab}
def Cp (els : List (List AV)) : Bool := els.all fun cs => cs.all AV.closed
def B5 (σ : Ab) : AV → Option AV
  | .bs full id tot off len => match σ[id]? with
    | some (.buf k els ro) => if els.length = tot ∧ Cp els = true then some (.sl false ((els.drop off).take len)) else none
    | _ => none
  | .ref .. | .tref .. | .mref .. | .nref .. | .eref .. | .agg _ | .tup _ => none
  | .iface t x => if x.closed = true then some (.iface t x) else none
  | .fn f cs => if cs.all AV.closed then some (.fn f cs) else none
  | .sl _ els => some (.sl false els)
  | x => some x
def fz (σ : Ab) : AV → Option AV
  | .agg cs => (cs.mapM (B5 σ)).map .agg
  | x => B5 σ x
def Ch : AV → List Nat
  | .bs _ id .. => [id]
  | .agg cs => cs.filterMap fun | .bs _ id .. => some id | _ => none
  | _ => []
def Dh (σ : Ab) (id : Nat) : Ab :=
  match σ[id]? with
  | some (.box cs _) => σ.set id (.box cs true)
  | some (.buf k els _) => σ.set id (.buf k els true)
  | some (.obj o) => σ.set id (.obj o)
  | some (.tb T l) => σ.set id (.tb T l)
  | none => σ
def J9 (σ : Ab) : List Nat → Ab
  | [] => σ
  | id :: ids => J9 (Dh σ id) ids
def isRo (σ : Ab) (id : Nat) : Prop := ∀ k els ro, σ[id]? = some (.buf k els ro) → ro = true
theorem Es (σ : Ab) (id i : Nat) : (Dh σ id)[i]? = (if i = id then (σ[i]?).map (fun ab => match ab with | .box cs _ => .box cs true | .buf k els _ => .buf k els true | .obj o => .obj o | .tb T l => .tb T l) else σ[i]?) := by
  unfold Dh
  cases h : σ[id]? with
  | none =>
    simp only
    by_cases e : i = id
    · subst e; simp [h]
    · rw [if_neg e]
  | some ab =>
    by_cases e : i = id
    · subst e
      rw [if_pos rfl, h]
      cases ab <;> simp [Bi h]
    · rw [if_neg e]
      cases ab <;> simp [Dm e]
theorem Rq : ∀ (ids : List Nat) (σ : Ab) (id : Nat), id ∈ ids ∨ isRo σ id → isRo (J9 σ ids) id
  | [], σ, id, h => by simpa [J9] using h
  | j :: ids, σ, id, h => by
    refine Rq ids _ id ?_
    by_cases hmem : id ∈ ids
    · exact .inl hmem
    right
    by_cases e : id = j
    · subst e
      intro k els ro hk
      rw [Es, if_pos rfl] at hk
      cases hs : σ[id]? with
      | none => simp [hs] at hk
      | some ab => cases ab <;> simp [hs] at hk; exact hk.2.2
    · intro k els ro hk
      rw [Es, if_neg e] at hk
      rcases h with h | h
      · rcases List.mem_cons.1 h with h | h
        · exact (e h).elim
        · exact (hmem h).elim
      · exact h k els ro hk
theorem N5 : ∀ (ids : List Nat) (σ : Ab) (id : Nat) {k : Nat} {els : List (List AV)} {ro : Bool}, σ[id]? = some (.buf k els ro) → ∃ ro', (J9 σ ids)[id]? = some (.buf k els ro')
  | [], σ, id, k, els, ro, h => ⟨ro, h⟩
  | j :: ids, σ, id, k, els, ro, h => by
    have : ∃ ro1, (Dh σ j)[id]? = some (.buf k els ro1) := by
      rw [Es]
      split
      · rw [h]; exact ⟨true, rfl⟩
      · exact ⟨ro, h⟩
    obtain ⟨ro1, h1⟩ := this
    exact N5 ids _ id h1
theorem Lj (hm : Mem E w g σ) {pr : Addr → Prop} {v : Value} {x y : AV} (hv : Rep w (A2 E g) g v x) (hy : B5 σ x = some y)
    (hp : ∀ a, A2 E g a → pr a) (hb : ∀ id b, (∃ full tot off len, x = .bs full id tot off len) → g[id]? = some b → ∀ β off, b.blk = some β → off < b.o + b.len * b.k → pr ⟨β, off, none⟩) : Rep w pr [] v y := by
  have hmono : ∀ {v : Value} {x : AV}, Rep w (A2 E g) [] v x → Rep w pr [] v x := fun h => h.mono (fun a u hc hpr => ⟨hc, hp a hpr⟩) (GLe.nil _)
  cases x with
  | bs full id tot off len =>
    simp only [B5] at hy
    split at hy
    case h_2 => cases hy
    rename_i k els ro hσ
    split at hy
    case isFalse => cases hy
    rename_i hcond
    obtain ⟨c1, c2⟩ := hcond
    simp only [Option.some.injEq] at hy
    subst hy
    cases hv with
    | bs _ _ _ _ _ _ _ b hgb hbx htot hat ho =>
      obtain ⟨k1, k2, k3, k4, k5, k6, k7⟩ := hm.blk id b _ hgb hσ
      have hbl : b.len = tot := by omega
      obtain ⟨a, cap, rfl, q2, q3, q4, q5⟩ := hat hbl
      have hlen : ((els.drop off).take len).length = len := by simp; omega
      rcases q5 with q5 | ⟨β, hβ, rfl, q6⟩
      · have hnil : (els.drop off).take len = [] := List.length_eq_zero_iff.1 (by omega)
        rw [hnil]
        refine .sl _ a len cap false [] 0 (fun _ _ => undef) (by simp; omega) q2 (by intro e; cases e) (fun _ => q5) (by simp) (by simp) (by simp)
      · obtain ⟨arr, t', fz', g1, g2, g3, g4, g5⟩ := k7 β hβ
        have hgets : ∀ (i : Nat) (cs : List AV), ((els.drop off).take len)[i]? = some cs → i < len ∧ els[off + i]? = some cs := by
          intro i cs hi
          rw [List.getElem?_take] at hi
          split at hi
          case isFalse => cases hi
          rw [List.getElem?_drop] at hi
          exact ⟨by assumption, hi⟩
        refine .sl _ _ len cap false _ k (fun i j => arr.getD (b.o + (off + i) * k + j) undef) hlen q2 (by intro e; cases e) (by intro e; cases e) ?_ ?_ ?_
        · intro i cs hi
          exact k5 _ _ (hgets i cs hi).2
        · intro i cs j x hi hj
          obtain ⟨hil, hi2⟩ := hgets i cs hi
          obtain ⟨r1, r2⟩ := g5 _ _ _ _ hi2 hj
          have hjk : j < k := by have := (List.getElem?_eq_some_iff.1 hj).1; rw [k5 _ _ hi2] at this; exact this
          have hoi : off + i < els.length := (List.getElem?_eq_some_iff.1 hi2).1
          have hb1 : (off + i + 1) * k ≤ els.length * k := Nat.mul_le_mul_right k hoi
          have hb2 : els.length * k ≤ b.ce * k := Nat.mul_le_mul_right k g3
          rw [Nat.add_mul, Nat.one_mul] at hb1
          have e1 : b.o + off * b.k + (i * k + j) = b.o + (off + i) * k + j := by rw [k3, Nat.add_mul]; omega
          refine ⟨_, rfl, ?_, ?_, r2⟩
          · rw [Bp, e1, cell?_eq g1, A0 (by omega)]
          · rw [Bp, e1]
            refine hb id b ⟨_, _, _, _, rfl⟩ hgb β _ hβ ?_
            rw [k3, k4]
            omega
        · intro i cs j x hi hj
          obtain ⟨hil, hi2⟩ := hgets i cs hi
          obtain ⟨r1, r2⟩ := g5 _ _ _ _ hi2 hj
          have hcl : x.closed = true := List.all_eq_true.1 (List.all_eq_true.1 c2 cs (List.mem_of_getElem? hi2)) x (List.mem_of_getElem? hj)
          exact hmono (Cq r1 hcl)
  | fn f cs =>
    simp only [B5] at hy
    split at hy
    case isFalse => cases hy
    rename_i hc
    cases hy
    refine hmono (Cq hv ?_)
    simp only [AV.closed, List.all_eq_true]
    rintro ⟨x, hx⟩ _
    exact List.all_eq_true.1 hc x hx
  | sl full els =>
    simp only [B5, Option.some.injEq] at hy
    subst hy
    cases hv with
    | sl _ a len cap _ _ k c hlen hcap hfull hnone hk hc hr =>
      refine hmono ?_
      exact .sl _ a len cap false els k c hlen hcap (by intro e; cases e) hnone hk hc hr
  | ref id off => simp [B5] at hy
  | tref id t => simp [B5] at hy
  | mref id => simp [B5] at hy
  | nref id => simp [B5] at hy
  | eref id tot i j => simp [B5] at hy
  | agg cs => simp [B5] at hy
  | tup cs => simp [B5] at hy
  | iface t x =>
    simp only [B5] at hy
    split at hy
    case isFalse => cases hy
    rename_i hc
    simp only [Option.some.injEq] at hy
    subst hy
    exact hmono (Cq hv (by simpa [AV.closed] using hc))
  | _ => simp only [B5, Option.some.injEq] at hy; subst hy; exact hmono (Cq hv (by simp [AV.closed]))
theorem J0 {α β : Type} (f : α → Option β) : ∀ (l : List α) (r : List β), l.mapM f = some r → l.length = r.length ∧ ∀ (i : Nat) (y : β), r[i]? = some y → ∃ x, l[i]? = some x ∧ f x = some y
  | [], r, h => by simp at h; subst h; simp
  | a :: l, r, h => by
    simp only [List.mapM_cons, Option.bind_eq_bind, Option.bind_eq_some_iff, Option.pure_def, Option.some.injEq] at h
    obtain ⟨b, hb, r', hr', rfl⟩ := h
    obtain ⟨h1, h2⟩ := J0 f l r' hr'
    refine ⟨by simp [h1], ?_⟩
    intro i y hy
    cases i with
    | zero => simp at hy; subst hy; exact ⟨a, rfl, hb⟩
    | succ i => simpa using h2 i y (by simpa using hy)
theorem Tk (hm : Mem E w g σ) {pr : Addr → Prop} {v : Value} {x y : AV} (hv : Rep w (A2 E g) g v x) (hy : fz σ x = some y)
    (hp : ∀ a, A2 E g a → pr a) (hb : ∀ id b, id ∈ Ch x → g[id]? = some b → ∀ β off, b.blk = some β → off < b.o + b.len * b.k → pr ⟨β, off, none⟩) : Rep w pr [] v y := by
  by_cases hag : ∃ cs, x = .agg cs
  · obtain ⟨cs, rfl⟩ := hag
    simp only [fz, Option.map_eq_some_iff] at hy
    obtain ⟨ys, hys, rfl⟩ := hy
    obtain ⟨hl, hget⟩ := J0 _ _ _ hys
    cases hv with
    | agg _ vs _ hs ho hr =>
      refine .agg _ vs ys (by omega) ?_ ?_
      · intro i y hi
        obtain ⟨x, hx, _⟩ := hget i y hi
        exact ho i x hx
      · intro i y hi
        obtain ⟨x, hx, hxy⟩ := hget i y hi
        refine Lj hm (hr i x hx) hxy hp ?_
        rintro id b ⟨full, tot, off, len, rfl⟩ hgb
        refine hb id b ?_ hgb
        simp only [Ch, List.mem_filterMap]
        exact ⟨_, List.mem_of_getElem? hx, rfl⟩
  · have e : fz σ x = B5 σ x := by cases x <;> first | rfl | (exact (hag ⟨_, rfl⟩).elim)
    rw [e] at hy
    refine Lj hm hv hy hp ?_
    rintro id b ⟨full, tot, off, len, rfl⟩ hgb
    exact hb id b (by simp [Ch]) hgb
theorem Qc (hm : Mem E w g σ) {pr : Addr → Prop} (hp : ∀ a, A2 E g a → pr a) : ∀ {vs : List Value} {xs ys : List AV}, Cm w (A2 E g) g vs xs → xs.mapM (fz σ) = some ys →
    (∀ id b, (∃ x ∈ xs, id ∈ Ch x) → g[id]? = some b → ∀ β off, b.blk = some β → off < b.o + b.len * b.k → pr ⟨β, off, none⟩) → Cm w pr [] vs ys
  | [], [], ys, _, h, _ => by simp at h; subst h; trivial
  | v :: vs, x :: xs, ys, hr, h, hb => by
    simp only [List.mapM_cons, Option.bind_eq_bind, Option.bind_eq_some_iff, Option.pure_def, Option.some.injEq] at h
    obtain ⟨y, hy, ys', hys, rfl⟩ := h
    exact ⟨Tk hm hr.1 hy hp (fun id b hi => hb id b ⟨x, by simp, hi⟩), Qc hm hp hr.2 hys (fun id b ⟨x, hx, hi⟩ => hb id b ⟨x, by simp [hx], hi⟩)⟩
theorem Afn (hm : Mem E w g σ) (F : Addr → Prop) (hF : ∀ a, F a → a.block < w.heap.size) (hG : ∀ i cs, E.G i = some cs → ∀ j, ¬ F ⟨i, j, none⟩) (hp : ∀ a, A2 E g a → ¬ F a) : Mem (E.toBase.env F) w [] [] := by
  have hnm : ∀ β, ¬ Gu [] β := by rintro β ⟨id, b, h, _⟩; simp at h
  refine ⟨rfl, fun id b ab h => by simp at h, fun id id' b b' β h => by simp at h, fun a ha => ⟨hF a ha, hnm _⟩, fun i cs h => ?_, hm.maps, fun i vs h => ⟨hnm _, (hm.whole i vs h).2⟩⟩
  obtain ⟨h1, h2, h3, c, hc⟩ := hm.glob i cs h
  refine ⟨h1, hnm _, hG i cs h, c, fun j x hj => ?_⟩
  obtain ⟨q1, q2, q3⟩ := hc j x hj
  exact ⟨q1, q2.mono (fun a u hcc hpr => ⟨hcc, B4 (hp a hpr) (hnm _)⟩) (GLe.nil _), q3⟩
theorem Vu (hm : Mem E w g σ) {F : Addr → Prop} {w' : World} {g' : Gh} (he : Evo (E.toBase.env F) 0 w [] w' g') : Mem E w' g σ ∧ Evo E 0 w g w' g := by
  have hnm : ∀ β, ¬ Gu [] β := by rintro β ⟨id, b, h, _⟩; simp at h
  have hb : ∀ β, β < w.heap.size → w'.heap[β]? = w.heap[β]? := fun β hβ => (he.blocks β hβ (hnm _)).1
  have hcells : ∀ a u, w.cell? a = some u → A2 E g a → w'.cell? a = some u ∧ A2 E g a := fun a u hc hp => by
    refine ⟨?_, hp⟩
    rw [← hc]
    simp only [World.cell?, hb _ (cell?_lt hc)]
  refine ⟨⟨hm.len, fun id b ab h1 h2 => (hm.blk id b ab h1 h2).mono hcells (GLe.refl _) (fun β hβ => hb _ (Dr hm h1 hβ)), hm.inj, Dg hm he.size (fun _ _ h => h), Fh hm he.size hcells (fun _ _ h => h), Gn hm (fun r es cl hr => (hb r (Array.getElem?_eq_some_iff.1 hr).1).trans hr), Dt hm (fun β hβ hn => ⟨hb β hβ, hn⟩)⟩, ?_⟩
  exact ⟨he.os, he.tape, he.output, he.size, hcells, fun β hβ hn => ⟨hb β hβ, hn⟩, fun _ h => absurd h (Nat.not_lt_zero _)⟩
def AV.flat : AV → Bool
  | .bool _ | .int .. | .str _ => true
  | _ => false
def AV.flatAgg : AV → Bool
  | .agg cs => cs.all AV.flat
  | x => x.flat
def AV.scalar : AV → Bool
  | .tup xs => xs.all AV.flatAgg
  | x => x.flatAgg
theorem AbX {pr pr' : Addr → Prop} {g' : Gh} {v : Value} {x : AV} (h : Rep w pr g v x) (hx : x.flat = true) : Rep w pr' g' v x := by
  cases x <;> first
    | (simp [AV.flat] at hx; done)
    | (cases h; exact .bool _ _)
    | (cases h; exact .int _ _ _)
    | (cases h; exact .str _ _ _ (by assumption))
theorem Qg {pr pr' : Addr → Prop} {g' : Gh} {v : Value} {x : AV} (h : Rep w pr g v x) (hx : x.flatAgg = true) : Rep w pr' g' v x := by
  by_cases hag : ∃ cs, x = .agg cs
  · obtain ⟨cs, rfl⟩ := hag
    cases h with
    | agg _ vs _ hs ho hr => exact .agg _ vs cs hs ho (fun i x hi => AbX (hr i x hi) (List.all_eq_true.1 hx x (List.mem_of_getElem? hi)))
  · have e : x.flatAgg = x.flat := by cases x <;> first | rfl | (exact (hag ⟨_, rfl⟩).elim)
    exact AbX h (e ▸ hx)
theorem AcR {pr pr' : Addr → Prop} {g' : Gh} {v : Value} {x : AV} (h : Rep w pr g v x) (hx : x.scalar = true) : Rep w pr' g' v x := by
  by_cases htu : ∃ xs, x = .tup xs
  · obtain ⟨xs, rfl⟩ := htu
    cases h with
    | tup _ vs _ hs hr => exact .tup _ vs xs hs (fun i x hi => Qg (hr i x hi) (List.all_eq_true.1 hx x (List.mem_of_getElem? hi)))
  · have e : x.scalar = x.flatAgg := by cases x <;> first | rfl | (exact (htu ⟨_, rfl⟩).elim)
    exact Qg h (e ▸ hx)
theorem Um {id : Nat} {b : GB} (hb : g[id]? = some b) {a : Addr} (hp : A2 E g a) : A2 E (g.set id { b with ro := true }) a := by
  refine ⟨hp.1, fun id' c hc he => ?_⟩
  by_cases e : id' = id
  · subst e
    rw [Bi hb] at hc; cases hc
    exact ⟨rfl, (hp.2 id' b hb he).2⟩
  · rw [Dm e] at hc
    exact hp.2 id' c hc he
def Abd (g g' : Gh) : Prop := ∀ (id : Nat) (b : GB), g[id]? = some b → ∃ b', g'[id]? = some b' ∧ b.same b'
theorem Zg (hm : Mem E w g σ) (id : Nat) : ∃ g', Mem E w g' (Dh σ id) ∧ GLe g g' ∧ Evo E 0 w g w g' ∧ Abd g g' ∧ ∀ a, A2 E g a → A2 E g' a := by
  unfold Dh
  cases h : σ[id]? with
  | none => exact ⟨g, hm, GLe.refl _, Evo.refl _ _ _ _, fun id b hb => ⟨b, hb, GB.same.refl b⟩, fun a h => h⟩
  | some ab =>
    obtain ⟨b, hb⟩ := g_of hm h
    have := AhA hm hb h
    have hs : Abd g (g.set id { b with ro := true }) := by
      intro id' c hc
      by_cases e : id' = id
      · subst e
        rw [hb] at hc; cases hc
        exact ⟨_, Bi hb, rfl, rfl, rfl, rfl, rfl, rfl⟩
      · exact ⟨c, by rw [Dm e]; exact hc, GB.same.refl c⟩
    cases ab with
    | box cs ro => exact ⟨_, this.1, this.2.1, this.2.2, hs, fun a => Um hb⟩
    | buf k els ro => exact ⟨_, this.1, this.2.1, this.2.2, hs, fun a => Um hb⟩
    | obj o => exact ⟨_, this.1, this.2.1, this.2.2, hs, fun a => Um hb⟩
    | tb T l => exact ⟨_, this.1, this.2.1, this.2.2, hs, fun a => Um hb⟩
theorem GB.same.trans {a b c : GB} (h : a.same b) (k : b.same c) : a.same c := by
  obtain ⟨h1, h2, h3, h4, h5, h6⟩ := h
  obtain ⟨k1, k2, k3, k4, k5, k6⟩ := k
  exact ⟨k1.trans h1, k2.trans h2, k3.trans h3, k4.trans h4, k5.trans h5, k6.trans h6⟩
theorem Lg : ∀ (ids : List Nat) {g : Gh} {σ : Ab}, Mem E w g σ → ∃ g', Mem E w g' (J9 σ ids) ∧ GLe g g' ∧ Evo E 0 w g w g' ∧ Abd g g' ∧ ∀ a, A2 E g a → A2 E g' a
  | [], g, σ, hm => ⟨g, hm, GLe.refl _, Evo.refl _ _ _ _, fun id b hb => ⟨b, hb, GB.same.refl b⟩, fun a h => h⟩
  | id :: ids, g, σ, hm => by
    obtain ⟨g1, h1, h2, h3, h4, h5⟩ := Zg hm id
    obtain ⟨g2, k1, k2, k3, k4, k5⟩ := Lg ids h1
    refine ⟨g2, k1, h2.trans k2, h3.trans k3, fun i b hb => ?_, fun a h => k5 a (h5 a h)⟩
    obtain ⟨b1, hb1, s1⟩ := h4 i b hb
    obtain ⟨b2, hb2, s2⟩ := k4 i b1 hb1
    exact ⟨b2, hb2, s1.trans s2⟩
theorem Ab3 {x y : AV} (h : fz σ x = some y) {id : Nat} (hi : id ∈ Ch x) : ∃ k els ro, σ[id]? = some (.buf k els ro) := by
  have key : ∀ {x y : AV} {id : Nat} {full : Bool} {tot off len : Nat}, x = .bs full id tot off len → B5 σ x = some y → ∃ k els ro, σ[id]? = some (.buf k els ro) := by
    intro x y id full tot off len hx h
    subst hx
    simp only [B5] at h
    split at h
    · exact ⟨_, _, _, by assumption⟩
    · cases h
  cases x with
  | bs full j tot off len =>
    simp only [Ch, List.mem_singleton] at hi
    subst hi
    exact key (full := full) rfl h
  | agg cs =>
    simp only [fz, Option.map_eq_some_iff] at h
    obtain ⟨ys, hys, rfl⟩ := h
    obtain ⟨hl, hget⟩ := J0 _ _ _ hys
    simp only [Ch, List.mem_filterMap] at hi
    obtain ⟨c, hc, hcid⟩ := hi
    obtain ⟨i, hil, rfl⟩ := List.getElem_of_mem hc
    obtain ⟨x, hx, hxy⟩ := hget i ys[i] (List.getElem?_eq_getElem (by omega))
    rw [List.getElem?_eq_getElem hil] at hx
    cases hx
    split at hcid
    · rename_i full id' tot off len he
      cases hcid
      exact key he hxy
    · cases hcid
  | _ => simp [Ch] at hi
theorem AfE {B : Base} {o : Oper} {c : Call} {f : Operand} (hop : o.op = .call c) (hc : c.callee = .value f) {ρ : Operand → Value} {fid : FuncId} {caps : Array Value} (hf : ρ f = .func (.func fid) #[] caps)
    {fn : Func} {code : Code} (hfn : B.P.funcs[fid]? = some fn) (hb : fn.body = some code) (hn : (fn.name == "runtime.NumGoroutine") = false) (w : World) :
    (execOp ρ o).run B.P w = .ok (.enter fid (c.args.map ρ ++ caps)) w := by
  simp only [execOp, hop, resolve, hc, hf, Deferred.ofValue, Sem.run_bind, Sem.run_pure, Result.andThen_ok, invoke, callFunc, run_program, hfn, hn, hb]
  simp [hn, hb]
theorem K3 {B : Base} {o : Oper} {c : Call} {f : Operand} (hop : o.op = .call c) (hc : c.callee = .value f) {a : Act} {fid : FuncId} {caps : Array Value} (hf : a.eval f = .func (.func fid) #[] caps) {w : World} {R : Ending → World → Prop}
    (h : DoCall B.P fid (c.args.map a.eval ++ caps) w R) {next : Act → World → Prop} {Q : Exit → Act → World → Prop}
    (hk : ∀ e w', R e w' → match e with | .returned v => next (a.put o.dst v) w' | .panicked ch => Q (.panic ch) a w' | .outgrown => LetsOut Q) : o.wp B.P a w next Q := by
  unfold Oper.wp
  rcases h with ⟨⟨fn, code, h1, h2, h3⟩, h⟩ | ⟨v, h1, h2⟩
  · rw [AfE (B := B) hop hc hf h1 h2 h3, Oper.upon_enter]
    refine h.mono fun e w' hr => ?_
    have := hk e w' hr
    cases e <;> exact this
  · have : (execOp a.eval o).run B.P w = .ok (.value v) w := by
      simp only [execOp, hop, resolve, hc, hf, Deferred.ofValue, Sem.run_bind, Sem.run_pure, Result.andThen_ok, invoke, Array.empty_append]
      exact h1
    rw [this, Oper.upon_value]
    exact hk _ _ h2
theorem E3 {w : World} {pr : Addr → Prop} {v : Value} {f : FuncId} {cs : List AV} (h : Rep w pr g v (.fn f cs)) (hb : ∀ ys, cs ≠ [.tup ys] := by simp) : ∃ caps, v = .func (.func f) #[] caps ∧ Cm w pr g caps.toList cs := by
  cases h with
  | fnb _ _ fs xs hs hr => exact absurd rfl (hb xs)
  | fn _ _ caps _ hs hr hn =>
    refine ⟨caps, rfl, ?_⟩
    have key : ∀ (vs : List Value) (xs : List AV), vs.length = xs.length → (∀ (i : Nat) (x : AV), xs[i]? = some x → Rep w pr g (vs.getD i undef) x) → Cm w pr g vs xs := by
      intro vs
      induction vs with
      | nil => intro xs hl _; cases xs <;> first | trivial | simp at hl
      | cons v vs ih =>
        intro xs hl h
        cases xs with
        | nil => simp at hl
        | cons x xs => exact ⟨by simpa using h 0 x rfl, ih xs (by simpa using hl) (fun i y hy => by simpa using h (i + 1) y (by simpa using hy))⟩
    refine key _ _ (by simpa using hs) (fun i x hi => ?_)
    have := hr i x hi
    simpa [List.getD_eq_getElem?_getD, Array.getD_eq_getD_getElem?] using this
theorem J6 {pr : Addr → Prop} : ∀ {vs us : List Value} {xs ys : List AV}, Cm w pr g vs xs → Cm w pr g us ys → Cm w pr g (vs ++ us) (xs ++ ys)
  | [], _, [], _, _, h => h
  | _ :: _, _, _ :: _, _, h, k => ⟨h.1, J6 h.2 k⟩
theorem AhB (h : Mem E w g σ) : Mem (E.toBase.env E.F) w g σ := ⟨h.len, h.blk, h.inj, h.foreign, h.glob, h.maps, h.whole⟩
theorem AhE (h : Mem (E.toBase.env E.F) w g σ) : Mem E w g σ := ⟨h.len, h.blk, h.inj, h.foreign, h.glob, h.maps, h.whole⟩
theorem AhS {n : Nat} {w' : World} {g' : Gh} (h : Evo (E.toBase.env E.F) n w g w' g') : Evo E n w g w' g' := ⟨h.os, h.tape, h.output, h.size, h.cells, h.blocks, h.ids⟩
theorem L1 {o : Oper} {st : St} {c : Call} {f : Operand} (hop : o.op = .call c) (hc : c.callee = .value f)
    {fid : FuncId} (hf : ev st.fr f = .fn fid []) {args : List AV} (ha : (c.args.toList.map (ev st.fr)).mapM (fz st.σ) = some args) {r : AV} (hr0 : r.scalar = true) (hcon : Con E.toBase fid args [] (fun r' _ => r' = r))
    {a : Act} (hr : Rel E w g st a) {next : Act → World → Prop} {Q : Exit → Act → World → Prop} (hnext : ∀ a' w' g', Rel E w' g' ⟨Bl st.fr o.dst r, st.σ⟩ a' → Evo E 0 w g w' g' → GLe g g' → next a' w') : o.wp E.P a w next Q := by
  have hfv := Fy hr f
  rw [hf] at hfv
  obtain ⟨capv, hcv, hcr⟩ := E3 hfv
  have hcapv : capv = #[] := by
    have := Df hcr
    apply Array.ext'
    simpa using this
  subst hcapv
  have hmn : Mem (E.toBase.env fun _ => False) w [] [] := Afn hr.mem _ (fun _ h => h.elim) (fun _ _ _ _ h => h) (fun _ _ h => h)
  have hpt : ∀ a, A2 (E.toBase.env fun _ => False) [] a := fun a => B4 (fun h => h) (by rintro ⟨id, b, h, _⟩; simp at h)
  refine K3 (B := E.toBase) hop hc hcv (hcon.call (fun _ => False) w [] (c.args.map a.eval ++ #[]) hmn ?_) ?_
  · rw [Array.append_empty, Array.toList_map]
    exact Qc hr.mem (fun a _ => hpt a) (E1 _ _ (Fy hr) _) ha (fun _ _ _ _ _ _ _ _ => hpt _)
  · rintro e w' ⟨v, r', σ', g', rfl, rfl, hm', he, hrep⟩
    obtain ⟨m1, m2⟩ := Vu hr.mem he
    exact hnext _ w' g (It (J5 hr m1 (GLe.refl _) m2) o.dst (AcR hrep hr0)) m2 (GLe.refl _)
theorem Iv {o : Oper} {st : St} {c : Call} {f : Operand} (hop : o.op = .call c) (hc : c.callee = .value f)
    {fid : FuncId} (hf : ev st.fr f = .fn fid []) {args : List AV} (ha : (c.args.toList.map (ev st.fr)).mapM (fz st.σ) = some args) {r : AV} (hcon : Con E.toBase fid args [] (fun r' σ' => r' = r ∧ σ' = []))
    {a : Act} (hr : Rel E w g st a) {next : Act → World → Prop} {Q : Exit → Act → World → Prop}
    (hnext : ∀ a' w' g', Rel E w' g' ⟨Bl st.fr o.dst r, J9 st.σ ((c.args.toList.map (ev st.fr)).flatMap Ch)⟩ a' → Evo E 0 w g w' g' → GLe g g' → next a' w') : o.wp E.P a w next Q := by
  have hfv := Fy hr f
  rw [hf] at hfv
  obtain ⟨capv, hcv, hcr⟩ := E3 hfv
  have hcapv : capv = #[] := by
    have := Df hcr
    apply Array.ext'
    simpa using this
  subst hcapv
  obtain ⟨g1, m1, hle1, e1, hs1, hp1⟩ := Lg ((c.args.toList.map (ev st.fr)).flatMap Ch) hr.mem
  have hnm : ∀ β, ¬ Gu [] β := by rintro β ⟨id, b, h, _⟩; simp at h
  have hmn : Mem (E.toBase.env fun a => ¬ A2 E g1 a) w [] [] := by
    refine Afn m1 _ (fun a ha => ?_) (fun i cs hi j hn => hn ?_) (fun a hp hn => hn hp)
    · refine Decidable.byContradiction fun hlt => ha ⟨fun hF => hlt (m1.foreign a hF).1, fun id b hb hβ => ?_⟩
      exact (hlt (Dr m1 hb hβ)).elim
    · exact B4 ((m1.glob i cs hi).2.2.1 j) (m1.glob i cs hi).2.1
  have hpi : ∀ a, A2 E g1 a → A2 (E.toBase.env fun a => ¬ A2 E g1 a) [] a := fun a ha => B4 (fun hn => hn ha) (hnm _)
  have hpo : ∀ a, A2 (E.toBase.env fun a => ¬ A2 E g1 a) [] a → A2 E g1 a := fun a ha => Classical.not_not.1 ha.1
  refine K3 (B := E.toBase) hop hc hcv (hcon.call (fun a => ¬ A2 E g1 a) w [] (c.args.map a.eval ++ #[]) hmn ?_) ?_
  · rw [Array.append_empty, Array.toList_map]
    refine Qc hr.mem (fun a ha => hpi a (hp1 a ha)) (E1 _ _ (Fy hr) _) ha ?_
    rintro id b ⟨x, hx, hix⟩ hb β off hβ hoff
    refine hpi _ ?_
    obtain ⟨hl, hget⟩ := J0 _ _ _ ha
    obtain ⟨i, hil, rfl⟩ := List.getElem_of_mem hx
    obtain ⟨x', hx', hxy⟩ := hget i (args[i]'(by omega)) (List.getElem?_eq_getElem (by omega))
    rw [List.getElem?_eq_getElem hil] at hx'
    cases hx'
    obtain ⟨k, els, ro, hσ⟩ := Ab3 hxy hix
    obtain ⟨ro', hσ'⟩ := N5 ((c.args.toList.map (ev st.fr)).flatMap Ch) st.σ id hσ
    obtain ⟨b1, hb1, t1, t2, t3, t4, t5, t6⟩ := hs1 id b hb
    have hro := Rq ((c.args.toList.map (ev st.fr)).flatMap Ch) st.σ id (.inl (List.mem_flatMap.2 ⟨_, hx, hix⟩)) _ _ _ hσ'
    have hbro : b1.ro = true := by rw [(m1.blk id b1 _ hb1 hσ').2.1, hro]
    refine ⟨fun hF => (m1.foreign _ hF).2 ⟨id, b1, hb1, t1.trans hβ⟩, fun id' c hc he => ?_⟩
    have : id' = id := m1.inj id' id c b1 β hc hb1 he (t1.trans hβ)
    subst this
    rw [hb1] at hc; cases hc
    exact ⟨hbro, by rw [t2, t3, t4]; exact hoff⟩
  · rintro e w' ⟨v, r', σ', g', rfl, ⟨rfl, rfl⟩, hm', he, hrep⟩
    obtain ⟨n1, n2⟩ := Vu m1 he
    have hg' : g' = [] := List.length_eq_zero_iff.1 hm'.len
    subst hg'
    have hE1 : Evo E 0 w g w' g1 := e1.trans n2
    exact hnext _ w' g1 (It (J5 hr n1 hle1 hE1) o.dst (hrep.mono (fun a u hcell hp => ⟨hcell, hpo a hp⟩) (GLe.nil _))) hE1 hle1
def Wv (E : Env) (f : FuncId) (args : List AV) (σ : Ab) (r : AV) (σ' : Ab) : Prop :=
  ∀ (w : World) (g : Gh) (vs : Array Value), Mem E w g σ → Cm w (A2 E g) g vs.toList args →
    DoCall E.P f vs w (fun e w' => ∃ v g', e = .returned v ∧ Mem E w' g' σ' ∧ GLe g g' ∧ Evo E 0 w g w' g' ∧ Rep w' (A2 E g') g' v r)
theorem Aak {f : FuncId} {args : List AV} {r : AV} {σ' : Ab} (h : Wv (E.toBase.env E.F) f args σ r σ') : Wv E f args σ r σ' := by
  refine fun w g vs hm ha => (h w g vs (AhB hm) ha).mono ?_
  rintro e w' ⟨v, g', h1, h2, h3, h4, h5⟩
  exact ⟨v, g', h1, AhE h2, h3, AhS h4, h5⟩
theorem AaT {o : Oper} {st : St} {c : Call} {f : Operand} (hop : o.op = .call c) (hc : c.callee = .value f)
    {fid : FuncId} (hf : ev st.fr f = .fn fid []) {r : AV} {σ' : Ab} (hcon : Wv E fid (c.args.toList.map (ev st.fr)) st.σ r σ')
    {a : Act} (hr : Rel E w g st a) {next : Act → World → Prop} {Q : Exit → Act → World → Prop}
    (hnext : ∀ a' w' g', Rel E w' g' ⟨Bl st.fr o.dst r, σ'⟩ a' → Evo E 0 w g w' g' → GLe g g' → next a' w') : o.wp E.P a w next Q := by
  have hfv := Fy hr f
  rw [hf] at hfv
  obtain ⟨capv, hcv, hcr⟩ := E3 hfv
  have hcapv : capv = #[] := by
    have := Df hcr
    apply Array.ext'
    simpa using this
  subst hcapv
  refine K3 (B := E.toBase) hop hc hcv (hcon w g (c.args.map a.eval ++ #[]) hr.mem ?_) ?_
  · rw [Array.append_empty, Array.toList_map]
    exact E1 _ _ (Fy hr) _
  · rintro e w' ⟨v, g', rfl, hm', hle, he, hrep⟩
    exact hnext _ w' g' (It (J5 hr hm' hle he) o.dst hrep) he hle
theorem Zt {B : Base} {o : Oper} {c : Call} {f : Operand} (hop : o.op = .call c) (hc : c.callee = .value f) {ρ : Operand → Value} {fid : FuncId} {fs : Array Value} (hf : ρ f = .func (.func fid) fs #[])
    {fn : Func} {code : Code} (hfn : B.P.funcs[fid]? = some fn) (hb : fn.body = some code) (hn : (fn.name == "runtime.NumGoroutine") = false) (w : World) :
    (execOp ρ o).run B.P w = .ok (.enter fid (fs ++ c.args.map ρ)) w := by
  simp only [execOp, hop, resolve, hc, hf, Deferred.ofValue, Sem.run_bind, Sem.run_pure, Result.andThen_ok, invoke, callFunc, run_program, hfn, hn, hb]
  simp [hn, hb]
theorem Y9 {B : Base} {o : Oper} {c : Call} {f : Operand} (hop : o.op = .call c) (hc : c.callee = .value f) {a : Act} {fid : FuncId} {fs : Array Value} (hf : a.eval f = .func (.func fid) fs #[]) {w : World} {R : Ending → World → Prop}
    (h : DoCall B.P fid (fs ++ c.args.map a.eval) w R) {next : Act → World → Prop} {Q : Exit → Act → World → Prop}
    (hk : ∀ e w', R e w' → match e with | .returned v => next (a.put o.dst v) w' | .panicked ch => Q (.panic ch) a w' | .outgrown => LetsOut Q) : o.wp B.P a w next Q := by
  unfold Oper.wp
  rcases h with ⟨⟨fn, code, h1, h2, h3⟩, h⟩ | ⟨v, h1, h2⟩
  · rw [Zt (B := B) hop hc hf h1 h2 h3, Oper.upon_enter]
    refine h.mono fun e w' hr => ?_
    have := hk e w' hr
    cases e <;> exact this
  · have : (execOp a.eval o).run B.P w = .ok (.value v) w := by
      simp only [execOp, hop, resolve, hc, hf, Deferred.ofValue, Sem.run_bind, Sem.run_pure, Result.andThen_ok, invoke, Array.append_empty]
      exact h1
    rw [this, Oper.upon_value]
    exact hk _ _ h2
theorem Yy {w : World} {pr : Addr → Prop} {v : Value} {f : FuncId} {xs : List AV} (h : Rep w pr g v (.fn f [.tup xs])) : ∃ fs, v = .func (.func f) fs #[] ∧ Cm w pr g fs.toList xs := by
  cases h with
  | fn _ _ caps _ hs hr hn => exact absurd rfl (hn xs)
  | fnb _ _ fs _ hs hr =>
    refine ⟨fs, rfl, ?_⟩
    have key : ∀ (vs : List Value) (xs : List AV), vs.length = xs.length → (∀ (i : Nat) (x : AV), xs[i]? = some x → Rep w pr g (vs.getD i undef) x) → Cm w pr g vs xs := by
      intro vs
      induction vs with
      | nil => intro xs hl _; cases xs <;> first | trivial | simp at hl
      | cons v vs ih =>
        intro xs hl h
        cases xs with
        | nil => simp at hl
        | cons x xs => exact ⟨by simpa using h 0 x rfl, ih xs (by simpa using hl) (fun i y hy => by simpa using h (i + 1) y (by simpa using hy))⟩
    refine key _ _ (by simpa using hs) (fun i x hi => ?_)
    have := hr i x hi
    simpa [List.getD_eq_getElem?_getD, Array.getD_eq_getD_getElem?] using this
theorem Uu {o : Oper} {st : St} {c : Call} {f : Operand} (hop : o.op = .call c) (hc : c.callee = .value f)
    {fid : FuncId} {xs : List AV} (hf : ev st.fr f = .fn fid [.tup xs]) {r : AV} {σ' : Ab} (hcon : Wv E fid (xs ++ c.args.toList.map (ev st.fr)) st.σ r σ')
    {a : Act} (hr : Rel E w g st a) {next : Act → World → Prop} {Q : Exit → Act → World → Prop}
    (hnext : ∀ a' w' g', Rel E w' g' ⟨Bl st.fr o.dst r, σ'⟩ a' → Evo E 0 w g w' g' → GLe g g' → next a' w') : o.wp E.P a w next Q := by
  have hfv := Fy hr f
  rw [hf] at hfv
  obtain ⟨fs, hcv, hcr⟩ := Yy hfv
  refine Y9 (B := E.toBase) hop hc hcv (hcon w g (fs ++ c.args.map a.eval) hr.mem ?_) ?_
  · rw [Array.toList_append, Array.toList_map]
    exact J6 hcr (E1 _ _ (Fy hr) _)
  · rintro e w' ⟨v, g', rfl, hm', hle, he, hrep⟩
    exact hnext _ w' g' (It (J5 hr hm' hle he) o.dst hrep) he hle
theorem Z2 {o : Oper} {st : St} {c : Call} {f : Operand} (hop : o.op = .call c) (hc : c.callee = .value f)
    {fid : FuncId} {caps : List AV} (hb : ∀ ys, caps ≠ [.tup ys]) (hf : ev st.fr f = .fn fid caps) {r : AV} {σ' : Ab} (hcon : Wv E fid (c.args.toList.map (ev st.fr) ++ caps) st.σ r σ')
    {a : Act} (hr : Rel E w g st a) {next : Act → World → Prop} {Q : Exit → Act → World → Prop}
    (hnext : ∀ a' w' g', Rel E w' g' ⟨Bl st.fr o.dst r, σ'⟩ a' → Evo E 0 w g w' g' → GLe g g' → next a' w') : o.wp E.P a w next Q := by
  have hfv := Fy hr f
  rw [hf] at hfv
  obtain ⟨capv, hcv, hcr⟩ := E3 hfv hb
  refine K3 (B := E.toBase) hop hc hcv (hcon w g (c.args.map a.eval ++ capv) hr.mem ?_) ?_
  · rw [Array.toList_append, Array.toList_map]
    exact J6 (E1 _ _ (Fy hr) _) hcr
  · rintro e w' ⟨v, g', rfl, hm', hle, he, hrep⟩
    exact hnext _ w' g' (It (J5 hr hm' hle he) o.dst hrep) he hle
end Go.Rv
