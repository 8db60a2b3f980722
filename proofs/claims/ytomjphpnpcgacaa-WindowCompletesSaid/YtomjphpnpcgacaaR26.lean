/-
  R26: a function that is handed some blocks of its caller's state: what it does there, the rest as it was.
-/
import Derived.Test.YtomjphpnpcgacaaR25
namespace Go.Rv
set_option linter.unusedVariables false
set_option linter.unusedSimpArgs false

/-! ### Lists with some places replaced and more behind -/
def setL {α : Type} : List α → List Nat → List α → List α
  | l, i :: sel, b :: bs => setL (l.set i b) sel bs
  | l, [], bs => l ++ bs
  | l, _ :: _, [] => l

/-- Where the callee's block number i lies with the caller. -/
def renI (sel : List Nat) (N i : Nat) : Nat := if i < sel.length then sel.getD i 0 else N + (i - sel.length)

theorem setL_len {α : Type} : ∀ (sel : List Nat) (l bs : List α), sel.length ≤ bs.length → (setL l sel bs).length = l.length + (bs.length - sel.length)
  | [], l, bs, _ => by simp [setL]
  | i :: sel, l, [], h => by simp at h
  | i :: sel, l, b :: bs, h => by
    rw [setL, setL_len sel _ bs (by simpa using h)]
    simp

theorem setL_other {α : Type} : ∀ (sel : List Nat) (l bs : List α) (j : Nat), j < l.length → j ∉ sel → (setL l sel bs)[j]? = l[j]?
  | [], l, bs, j, hj, _ => by rw [setL, List.getElem?_append_left hj]
    
  | i :: sel, l, [], j, hj, _ => rfl
  | i :: sel, l, b :: bs, j, hj, hn => by
    rw [setL, setL_other sel _ bs j (by simpa using hj) (fun h => hn (List.mem_cons_of_mem _ h)), List.getElem?_set_ne]
    intro e; exact hn (by rw [e]; exact List.mem_cons_self)

theorem setL_ren {α : Type} : ∀ (sel : List Nat) (l bs : List α), sel.Nodup → (∀ i ∈ sel, i < l.length) → sel.length ≤ bs.length → ∀ i, (setL l sel bs)[renI sel l.length i]? = bs[i]?
  | [], l, bs, _, _, _, i => by
    have e : renI [] l.length i = l.length + i := by simp [renI]
    rw [e, setL, List.getElem?_append_right (by omega)]
    congr 1; omega
  | i0 :: sel, l, [], _, _, h, i => by simp at h
  | i0 :: sel, l, b :: bs, hnd, hs, h, i => by
    have h' : sel.length ≤ bs.length := by simpa using h
    have hnd' := List.nodup_cons.1 hnd
    have hs' : ∀ i ∈ sel, i < (l.set i0 b).length := fun i hi => by simpa using hs i (List.mem_cons_of_mem _ hi)
    rw [setL]
    cases i with
    | zero =>
      have e : renI (i0 :: sel) l.length 0 = i0 := by simp [renI]
      have hi0 := hs i0 List.mem_cons_self
      rw [e, setL_other sel _ bs i0 (by simpa using hi0) hnd'.1, List.getElem?_set_self hi0]
      rfl
    | succ i =>
      have e : renI (i0 :: sel) l.length (i + 1) = renI sel (l.set i0 b).length i := by
        unfold renI
        simp only [List.length_cons, List.length_set]
        by_cases hi : i < sel.length
        · rw [if_pos (by omega), if_pos hi]; rfl
        · rw [if_neg (by omega), if_neg hi]; congr 1; omega
      rw [e, setL_ren sel _ bs hnd'.2 hs' h' i]
      rfl

theorem ren_cover {sel : List Nat} {N : Nat} (j : Nat) : (j < N ∧ j ∉ sel) ∨ ∃ i, j = renI sel N i := by
  by_cases hj : j ∈ sel
  · right
    obtain ⟨i, hi, rfl⟩ := List.getElem_of_mem hj
    exact ⟨i, by rw [renI, if_pos hi]; simp [List.getD_eq_getElem?_getD, hi]⟩
  · by_cases hN : j < N
    · exact .inl ⟨hN, hj⟩
    · right
      exact ⟨sel.length + (j - N), by rw [renI, if_neg (by omega)]; omega⟩

/-! ### Values renamed -/
def ren0 (sel : List Nat) (N : Nat) : AV → AV
  | .bs f id t o l => .bs f (renI sel N id) t o l
  | .ref id o => .ref (renI sel N id) o
  | .eref id t i j => .eref (renI sel N id) t i j
  | x => match x.closed with
    | true => x
    | false => .junk
def ren1 (sel : List Nat) (N : Nat) : AV → AV
  | .agg xs => .agg (xs.map (ren0 sel N))
  | x => ren0 sel N x
def ren2 (sel : List Nat) (N : Nat) : AV → AV
  | .tup xs => .tup (xs.map (ren1 sel N))
  | x => ren1 sel N x
def renB (sel : List Nat) (N : Nat) : ABlk → ABlk
  | .box cs ro => .box (cs.map (ren0 sel N)) ro
  | .buf k els ro => .buf k els ro
def bufsClosed : Store → Bool
  | [] => true
  | .box _ _ :: σ => bufsClosed σ
  | .buf _ els _ :: σ => elsClosed els && bufsClosed σ

theorem bufsClosed_get : ∀ {σ : Store} {i k : Nat} {els : List (List AV)} {ro : Bool}, bufsClosed σ = true → σ[i]? = some (.buf k els ro) → elsClosed els = true
  | [], i, k, els, ro, _, h => by simp at h
  | .box _ _ :: σ, 0, k, els, ro, _, h => by simp at h
  | .buf _ els' _ :: σ, 0, k, els, ro, hc, h => by
    simp at h
    obtain ⟨_, rfl, _⟩ := h
    exact (Bool.and_eq_true_iff.1 hc).1
  | .box _ _ :: σ, i + 1, k, els, ro, hc, h => bufsClosed_get (σ := σ) hc (by simpa using h)
  | .buf _ _ _ :: σ, i + 1, k, els, ro, hc, h => bufsClosed_get (σ := σ) (Bool.and_eq_true_iff.1 hc).2 (by simpa using h)

section
variable {w : World} {pr pr' : Addr → Prop} {g1 g : Gh} {sel : List Nat} {N : Nat}

theorem ren0_rep (hg : ∀ (i : Nat) (b : GB), g1[i]? = some b → g[renI sel N i]? = some b) (hp : ∀ a u, w.cell? a = some u → pr a → pr' a) {v : Value} {x : AV} (h : Rep w pr g1 v x) : Rep w pr' g v (ren0 sel N x) := by
  have hcl : x.closed = true → Rep w pr' g v x := fun hc => (closed_rep h hc).mono (fun a u hcc hpr => ⟨hcc, hp a u hcc hpr⟩) (GLe.nil _)
  have hgen : Rep w pr' g v (match x.closed with
    | true => x
    | false => .junk) := by
    cases hc : x.closed with
    | true => exact hcl hc
    | false => exact .junk _ _
  cases x with
  | bs f id t o l =>
    cases h with
    | bs _ _ _ _ _ _ _ b hb hx ht h ho => exact .bs _ _ _ _ _ _ _ b (hg _ _ hb) hx ht h ho
  | ref id o =>
    cases h with
    | ref _ _ _ β b hb hx hβ => exact .ref _ _ _ β b (hg _ _ hb) hx hβ
  | eref id t i j =>
    cases h with
    | eref _ _ _ _ _ _ b hb hx ht h ho => exact .eref _ _ _ _ _ _ b (hg _ _ hb) hx ht h ho
  | _ => exact hgen

theorem ren1_rep (hg : ∀ (i : Nat) (b : GB), g1[i]? = some b → g[renI sel N i]? = some b) (hp : ∀ a u, w.cell? a = some u → pr a → pr' a) {v : Value} {x : AV} (h : Rep w pr g1 v x) : Rep w pr' g v (ren1 sel N x) := by
  cases x with
  | agg xs =>
    cases h with
    | agg _ vs _ hs ho hr =>
      refine .agg _ vs _ (by simpa using hs) (fun i y hy => ?_) (fun i y hy => ?_)
      · rw [List.getElem?_map, Option.map_eq_some_iff] at hy
        obtain ⟨x, hx, _⟩ := hy
        exact ho i x hx
      · rw [List.getElem?_map, Option.map_eq_some_iff] at hy
        obtain ⟨x, hx, rfl⟩ := hy
        exact ren0_rep hg hp (hr i x hx)
  | _ => exact ren0_rep hg hp h

theorem ren2_rep (hg : ∀ (i : Nat) (b : GB), g1[i]? = some b → g[renI sel N i]? = some b) (hp : ∀ a u, w.cell? a = some u → pr a → pr' a) {v : Value} {x : AV} (h : Rep w pr g1 v x) : Rep w pr' g v (ren2 sel N x) := by
  cases x with
  | tup xs =>
    cases h with
    | tup _ vs _ hs hr =>
      refine .tup _ vs _ (by simpa using hs) (fun i y hy => ?_)
      rw [List.getElem?_map, Option.map_eq_some_iff] at hy
      obtain ⟨x, hx, rfl⟩ := hy
      exact ren1_rep hg hp (hr i x hx)
  | _ => exact ren1_rep hg hp h
end

/-! ### Values handed over -/
section
variable {w : World} {g : Gh} {sel : List Nat} {pr pr' : Addr → Prop}

theorem rep_wk0' (hp : ∀ a, pr a → pr' a) (hs : ∀ i ∈ sel, i < g.length) {v : Value} {x y : AV} (h : Rep w pr g v x) (hw : wk0 sel x y) : Rep w pr' (ghSel sel g) v y := by
  have hcl : ∀ {z : AV}, Rep w pr g v z → z.closed = true → Rep w pr' (ghSel sel g) v z := fun h1 h2 =>
    (closed_rep h1 h2).mono (fun a u hc hpr => ⟨hc, hp a hpr⟩) (GLe.nil _)
  by_cases hj : y = .junk
  · subst hj; exact .junk _ _
  cases x <;> cases y <;> first
    | exact (hj rfl).elim
    | (simp only [wk0] at hw; exfalso; have h1 := hw.1; cases h1; done)
    | (simp only [wk0] at hw; obtain ⟨e, hc⟩ := hw; rw [← e] at hc ⊢; exact hcl h hc)
    | skip
  case bs.bs f i t o l f' id t' o' l' =>
    simp only [wk0] at hw
    obtain ⟨h1, h2, rfl, rfl, rfl⟩ := hw
    cases h with
    | bs _ _ _ _ _ _ _ b hb hx ht h ho =>
      refine .bs _ _ _ _ _ _ _ b ((ghSel_get hs).2 ⟨i, h1, hb⟩) hx ht (fun e => ?_) ho
      obtain ⟨a, cap, q1, q2, q3, q4, q5⟩ := h e
      exact ⟨a, cap, q1, q2, fun e => q3 (h2 e), q4, q5⟩
  case ref.ref i o id o' =>
    simp only [wk0] at hw
    obtain ⟨h1, rfl⟩ := hw
    cases h with
    | ref _ _ _ β b hb hx hβ => exact .ref _ _ _ β b ((ghSel_get hs).2 ⟨i, h1, hb⟩) hx hβ
  case eref.eref i t a b id t' a' b2 =>
    simp only [wk0] at hw
    obtain ⟨h1, rfl, rfl, rfl⟩ := hw
    cases h with
    | eref _ _ _ _ _ _ b hb hx ht h ho => exact .eref _ _ _ _ _ _ b ((ghSel_get hs).2 ⟨i, h1, hb⟩) hx ht h ho
  case sl.sl f els f' els' =>
    simp only [wk0] at hw
    obtain ⟨h1, rfl⟩ := hw
    have : Rep w pr g v (.sl f' els) := by
      cases h with
      | sl _ a len cap _ _ k c hlen hcap hfull hnone hk hc hr => exact .sl _ a len cap f' els k c hlen hcap (fun e => hfull (h1 e)) hnone hk hc hr
    exact hcl this (by simp [AV.closed])

theorem rep_wk1' (hp : ∀ a, pr a → pr' a) (hs : ∀ i ∈ sel, i < g.length) {v : Value} {x y : AV} (h : Rep w pr g v x) (hw : wk1 sel x y) : Rep w pr' (ghSel sel g) v y := by
  by_cases ha : ∃ xs ys, x = .agg xs ∧ y = .agg ys
  · obtain ⟨xs, ys, rfl, rfl⟩ := ha
    simp only [wk1] at hw
    obtain ⟨h1, h2⟩ := wkL_get hw
    cases h with
    | agg _ vs _ hs' ho hr =>
      refine .agg _ vs ys (by omega) (fun i y hy => ?_) (fun i y hy => ?_)
      · obtain ⟨x, hx, _⟩ := h2 i y hy; exact ho i x hx
      · obtain ⟨x, hx, hxy⟩ := h2 i y hy; exact rep_wk0' hp hs (hr i x hx) hxy
  by_cases hb : ∃ xs ys, x = .tup xs ∧ y = .tup ys
  · obtain ⟨xs, ys, rfl, rfl⟩ := hb
    simp only [wk1] at hw
    obtain ⟨h1, h2⟩ := wkL_get hw
    cases h with
    | tup _ vs _ hs' hr =>
      refine .tup _ vs ys (by omega) (fun i y hy => ?_)
      obtain ⟨x, hx, hxy⟩ := h2 i y hy; exact rep_wk0' hp hs (hr i x hx) hxy
  have : wk1 sel x y = wk0 sel x y := by
    cases x <;> cases y <;> first
      | rfl
      | exact (ha ⟨_, _, rfl, rfl⟩).elim
      | exact (hb ⟨_, _, rfl, rfl⟩).elim
  exact rep_wk0' hp hs h (this ▸ hw)
end

def wkA (sel : List Nat) : List AV → List AV → Prop
  | [], [] => True
  | x :: xs, y :: ys => wk1 sel x y ∧ wkA sel xs ys
  | _, _ => False

theorem allRep_wk {w : World} {g : Gh} {sel : List Nat} {pr pr' : Addr → Prop} (hp : ∀ a, pr a → pr' a) (hs : ∀ i ∈ sel, i < g.length) : ∀ {vs : List Value} {xs ys : List AV}, AllRep w pr g vs xs → wkA sel xs ys → AllRep w pr' (ghSel sel g) vs ys
  | [], [], [], _, _ => trivial
  | [], [], _ :: _, _, h => h.elim
  | _ :: _, _ :: _, [], _, h => h.elim
  | _ :: _, _ :: _, _ :: _, h, k => ⟨rep_wk1' hp hs h.1 k.1, allRep_wk hp hs h.2 k.2⟩

/-! ### The rule -/
theorem frame_core {B : Base} {f : FuncId} {args1 : List AV} {σ1 : Store} {σ2 : Store} {Fin : Ending → World → (Addr → Prop) → Gh → Prop}
    (hcall : ∀ (F : Addr → Prop) (w : World) (g : Gh) (vs : Array Value), Mem (B.env F) w g σ1 → AllRep w (prot (B.env F) g) g vs.toList args1 →
      DoCall B.P f vs w (fun e w' => ∃ g', Fin e w' (prot (B.env F) g') g' ∧ Mem (B.env F) w' g' σ2 ∧ Evo (B.env F) σ1.length w g w' g'))
    {σ : Store} {args : List AV} (sel : List Nat) (hnd : sel.Nodup) (hσ : stUp sel σ sel σ1)
    (ha : wkA sel args args1) (hb : bufsClosed σ2 = true) (F : Addr → Prop) {w : World} {g : Gh} {vs : Array Value} (hm : Mem (B.env F) w g σ) (har : AllRep w (prot (B.env F) g) g vs.toList args) :
    DoCall B.P f vs w (fun e w' => ∃ g' pr1 g1, Fin e w' pr1 g1 ∧ (∀ v r, Rep w' pr1 g1 v r → Rep w' (prot (B.env F) g') g' v (ren2 sel σ.length r)) ∧
      Mem (B.env F) w' g' (setL σ sel (σ2.map (renB sel σ.length))) ∧ GLe g g' ∧ Evo (B.env F) 0 w g w' g') := by
  obtain ⟨hl, hget⟩ := stUp_get hσ
  have hlen : g.length = σ.length := hm.len
  have hs : ∀ i ∈ sel, i < g.length := by
    intro i hi
    obtain ⟨id, hid, rfl⟩ := List.getElem_of_mem hi
    obtain ⟨i', b, h1, h2, _⟩ := hget id (σ1[id]'(by omega)) (List.getElem?_eq_getElem _)
    rw [List.getElem?_eq_getElem hid] at h1
    cases h1
    rw [hlen]
    exact (List.getElem?_eq_some_iff.1 h2).1
  let F1 : Addr → Prop := fun a => ¬ prot (B.env F) g a ∧ ¬ mine (ghSel sel g) a.block ∧ a.block < w.heap.size
  have p1 : ∀ a, prot (B.env F) g a → prot (B.env F1) (ghSel sel g) a := fun a hp => ⟨fun h => h.1 hp, fun id b hb hβ => by
    obtain ⟨i, _, hi⟩ := (ghSel_get hs).1 hb; exact hp.2 i b hi hβ⟩
  have hm1 : Mem (B.env F1) w (ghSel sel g) σ1 := by
    refine ⟨by simp [ghSel, hl], ?_, ?_, fun a ha => ⟨ha.2.2, ha.2.1⟩, ?_, hm.maps, fun i vs h => ⟨fun hh => (hm.whole i vs h).1 (mine_sel hs hh), (hm.whole i vs h).2⟩⟩
    · intro id b ab' h1 h2
      obtain ⟨i, ab, e1, e2, e3⟩ := hget id ab' h2
      obtain ⟨i', f1, f2⟩ := (ghSel_get hs).1 h1
      rw [e1] at f1
      cases f1
      have hk := hm.blk i b ab f2 e2
      cases ab with
      | box cs ro =>
        cases ab' with
        | buf => exact e3.elim
        | box cs' ro' =>
          obtain ⟨rfl, e4⟩ := e3
          obtain ⟨e5, e6⟩ := wkL_get e4
          obtain ⟨k1, k2, k3, k4, k5, β, arr, t, fz, k6, k7, k8, k9, k10⟩ := hk
          refine ⟨k1, k2, k3, by omega, k5, β, arr, t, fz, k6, k7, by omega, k9, fun j y hj => ?_⟩
          obtain ⟨x, hx, hxy⟩ := e6 j y hj
          exact ⟨rep_wk0' p1 hs (k10 j x hx).1 hxy, (k10 j x hx).2⟩
      | buf k els ro =>
        cases ab' with
        | box => exact e3.elim
        | buf k' els' ro' =>
          obtain ⟨rfl, rfl, rfl, e4⟩ := e3
          obtain ⟨k1, k2, k3, k4, k5, k6, k7⟩ := hk
          refine ⟨k1, k2, k3, k4, k5, k6, fun β hβ => ?_⟩
          obtain ⟨arr, t, fz, g1, g2, g3, g4, g5⟩ := k7 β hβ
          refine ⟨arr, t, fz, g1, g2, g3, g4, fun i cs j x hi hj => ⟨?_, (g5 i cs j x hi hj).2⟩⟩
          have hcl : x.closed = true := List.all_eq_true.1 (List.all_eq_true.1 e4 cs (List.mem_of_getElem? hi)) x (List.mem_of_getElem? hj)
          exact (closed_rep (g5 i cs j x hi hj).1 hcl).mono (fun a u hc hp => ⟨hc, p1 a hp⟩) (GLe.nil _)
    · intro id id' b b' β h1 h2 e1 e2
      obtain ⟨i, f1, f2⟩ := (ghSel_get hs).1 h1
      obtain ⟨i', f1', f2'⟩ := (ghSel_get hs).1 h2
      have := hm.inj i i' b b' β f2 f2' e1 e2
      subst this
      obtain ⟨l1, q1⟩ := List.getElem?_eq_some_iff.1 f1
      obtain ⟨l2, q2⟩ := List.getElem?_eq_some_iff.1 f1'
      exact nodup_inj hnd l1 l2 (q1.trans q2.symm)
    · intro i cs hG
      obtain ⟨q1, q2, q3, c, q4⟩ := hm.glob i cs hG
      exact ⟨q1, fun hh => q2 (mine_sel hs hh), fun j hj => hj.1 (prot_of_not_mine (q3 j) q2), c, fun j x hj => ⟨(q4 j x hj).1, (q4 j x hj).2.1.mono (fun a u hc hp => ⟨hc, p1 a hp⟩) (GLe.nil _), (q4 j x hj).2.2⟩⟩
  refine (hcall F1 w (ghSel sel g) vs hm1 (allRep_wk p1 hs har ha)).mono ?_
  rintro e w' ⟨g1, hfin, hm2, he⟩
  have hl1 : g1.length = σ2.length := hm2.len
  have hsl : sel.length ≤ g1.length := by
    refine Nat.le_of_not_lt fun hlt => ?_
    have hgl : g1.length < (ghSel sel g).length := by simpa [ghSel] using hlt
    obtain ⟨b', hb', _⟩ := he.ids g1.length (by rw [← hl]; exact hlt) _ (List.getElem?_eq_getElem hgl)
    have := (List.getElem?_eq_some_iff.1 hb').1
    omega
  have hren : ∀ i, (setL g sel g1)[renI sel g.length i]? = g1[i]? := setL_ren sel g g1 hnd hs hsl
  have hsσ : ∀ i ∈ sel, i < σ.length := fun i hi => by rw [← hlen]; exact hs i hi
  have hren2 : ∀ i, (setL σ sel (σ2.map (renB sel σ.length)))[renI sel g.length i]? = (σ2.map (renB sel σ.length))[i]? := fun i => by
    rw [hlen]; exact setL_ren sel σ _ hnd hsσ (by simpa [← hl1] using hsl) i
  have hcls : ∀ j b, (setL g sel g1)[j]? = some b → (j < g.length ∧ j ∉ sel ∧ g[j]? = some b) ∨ ∃ i, j = renI sel g.length i ∧ g1[i]? = some b := by
    intro j b hb
    rcases ren_cover (sel := sel) (N := g.length) j with ⟨h1, h2⟩ | ⟨i, rfl⟩
    · rw [setL_other sel g g1 j h1 h2] at hb; exact .inl ⟨h1, h2, hb⟩
    · rw [hren i] at hb; exact .inr ⟨i, rfl, hb⟩
  have hmine : ∀ β, mine (setL g sel g1) β → mine g β ∨ mine g1 β := by
    rintro β ⟨j, b, hb, hβ⟩
    rcases hcls j b hb with ⟨_, _, h3⟩ | ⟨i, _, h3⟩
    · exact .inl ⟨j, b, h3, hβ⟩
    · exact .inr ⟨i, b, h3, hβ⟩
  have hout : ∀ j b β, j ∉ sel → g[j]? = some b → b.blk = some β → ¬ mine (ghSel sel g) β := by
    rintro j b β hj hb hβ ⟨i, b', hb', hβ'⟩
    obtain ⟨i', h1, h2⟩ := (ghSel_get hs).1 hb'
    have := hm.inj j i' b b' β hb h2 hβ hβ'
    subst this
    exact hj (List.mem_of_getElem? h1)
  have hP : ∀ a u, w'.cell? a = some u → prot (B.env F1) g1 a → prot (B.env F) (setL g sel g1) a := by
    intro a u hc hp
    refine ⟨fun hF => hp.1 ⟨fun h => h.1 hF, fun h => (hm.foreign a hF).2 (mine_sel hs h), (hm.foreign a hF).1⟩, fun id b hb hβ => ?_⟩
    rcases hcls id b hb with ⟨h1, h2, h3⟩ | ⟨i, _, h3⟩
    · have hlt := lt_of_blk hm h3 hβ
      have hnm := hout id b a.block h2 h3 hβ
      have : prot (B.env F) g a := Classical.byContradiction fun hn => hp.1 ⟨hn, hnm, hlt⟩
      exact this.2 id b h3 hβ
    · exact hp.2 i b h3 hβ
  have hQ : ∀ a u, w.cell? a = some u → prot (B.env F) g a → w'.cell? a = some u ∧ prot (B.env F) (setL g sel g1) a := by
    intro a u hc hp
    obtain ⟨h1, h2⟩ := he.cells a u hc (p1 a hp)
    exact ⟨h1, hP a u h1 h2⟩
  have hle : GLe g (setL g sel g1) := by
    intro id b hb
    by_cases hi : id ∈ sel
    · obtain ⟨i, hil, rfl⟩ := List.getElem_of_mem hi
      obtain ⟨b', hb', hst⟩ := he.ids i (by omega) b ((ghSel_get hs).2 ⟨sel[i], List.getElem?_eq_getElem hil, hb⟩)
      refine ⟨b', ?_, hst⟩
      have := hren i
      rw [renI, if_pos hil] at this
      rw [← hb', ← this]
      simp [List.getD_eq_getElem?_getD, hil]
    · exact ⟨b, by rw [setL_other sel g g1 id (List.getElem?_eq_some_iff.1 hb).1 hi]; exact hb, GB.step.refl b⟩
  have hgren : ∀ (i : Nat) (b : GB), g1[i]? = some b → (setL g sel g1)[renI sel σ.length i]? = some b := fun i b hb => by rw [← hlen, hren i]; exact hb
  refine ⟨setL g sel g1, _, g1, hfin, fun v r hrep => ren2_rep hgren hP hrep, ⟨?_, ?_, ?_, ?_, ?_, hm2.maps, fun i vs h => ⟨fun hh => (hmine _ hh).elim (hm.whole i vs h).1 (hm2.whole i vs h).1, (hm2.whole i vs h).2⟩⟩, hle, ⟨he.os, he.tape, he.output, he.size, hQ, ?_, fun _ h => absurd h (Nat.not_lt_zero _)⟩⟩
  · rw [setL_len sel g g1 hsl, setL_len sel σ _ (by simpa [← hl1] using hsl), hlen, hl1]; simp
  · intro id b ab hb1 hab
    rcases ren_cover (sel := sel) (N := g.length) id with ⟨h1, h2⟩ | ⟨i, rfl⟩
    · rw [setL_other sel g g1 id h1 h2] at hb1
      rw [setL_other sel σ _ id (by omega) h2] at hab
      refine (hm.blk id b ab hb1 hab).mono hQ hle (fun β hβ => ?_)
      exact (he.blocks β (lt_of_blk hm hb1 hβ) (hout id b β h2 hb1 hβ)).1
    · rw [hren i] at hb1
      rw [hren2 i, List.getElem?_map, Option.map_eq_some_iff] at hab
      obtain ⟨ab1, hab1, rfl⟩ := hab
      have hk := hm2.blk i b ab1 hb1 hab1
      cases ab1 with
      | box cs ro =>
        obtain ⟨k1, k2, k3, k4, k5, β, arr, t, fz, k6, k7, k8, k9, k10⟩ := hk
        refine ⟨k1, k2, k3, by simpa using k4, k5, β, arr, t, fz, k6, k7, by simpa using k8, k9, fun j y hj => ?_⟩
        rw [List.getElem?_map, Option.map_eq_some_iff] at hj
        obtain ⟨x, hx, rfl⟩ := hj
        exact ⟨ren0_rep hgren hP (k10 j x hx).1, (k10 j x hx).2⟩
      | buf k els ro =>
        obtain ⟨k1, k2, k3, k4, k5, k6, k7⟩ := hk
        refine ⟨k1, k2, k3, k4, k5, k6, fun β hβ => ?_⟩
        obtain ⟨arr, t, fz, g1', g2', g3', g4', g5'⟩ := k7 β hβ
        refine ⟨arr, t, fz, g1', g2', g3', g4', fun i' cs j x hi hj => ⟨?_, (g5' i' cs j x hi hj).2⟩⟩
        have hec := bufsClosed_get hb hab1
        have hcl : x.closed = true := List.all_eq_true.1 (List.all_eq_true.1 hec cs (List.mem_of_getElem? hi)) x (List.mem_of_getElem? hj)
        exact (closed_rep (g5' i' cs j x hi hj).1 hcl).mono (fun a u hc hp => ⟨hc, hP a u hc hp⟩) (GLe.nil _)
  · intro id id' b b' β h1 h2 e1 e2
    have cross : ∀ (j i : Nat) (c c' : GB), j ∉ sel → g[j]? = some c → g1[i]? = some c' → c.blk = some β → c'.blk = some β → False := by
      intro j i c c' hj hc hc' x1 x2
      exact (he.blocks β (lt_of_blk hm hc x1) (hout j c β hj hc x1)).2 ⟨i, c', hc', x2⟩
    rcases hcls id b h1 with ⟨_, n1, f1⟩ | ⟨i, rfl, f1⟩
    · rcases hcls id' b' h2 with ⟨_, n2, f2⟩ | ⟨i', rfl, f2⟩
      · exact hm.inj id id' b b' β f1 f2 e1 e2
      · exact (cross id i' b b' n1 f1 f2 e1 e2).elim
    · rcases hcls id' b' h2 with ⟨_, n2, f2⟩ | ⟨i', rfl, f2⟩
      · exact (cross id' i b' b n2 f2 f1 e2 e1).elim
      · rw [hm2.inj i i' b b' β f1 f2 e1 e2]
  · intro a ha'
    refine ⟨Nat.lt_of_lt_of_le (hm.foreign a ha').1 he.size, fun hh => ?_⟩
    rcases hmine _ hh with h | h
    · exact (hm.foreign a ha').2 h
    · exact (hm2.foreign a ⟨fun h => h.1 ha', fun h => (hm.foreign a ha').2 (mine_sel hs h), (hm.foreign a ha').1⟩).2 h
  · intro i cs hG
    obtain ⟨q1, q2, q3, _⟩ := hm.glob i cs hG
    obtain ⟨_, r2, _, c, r4⟩ := hm2.glob i cs hG
    refine ⟨Nat.lt_of_lt_of_le q1 he.size, fun hh => ?_, q3, c, fun j x hj => ⟨(r4 j x hj).1, (r4 j x hj).2.1.mono (fun a u hc hp => ⟨hc, hP a u hc hp⟩) (GLe.nil _), (r4 j x hj).2.2⟩⟩
    rcases hmine _ hh with h | h
    · exact q2 h
    · exact r2 h
  · intro β hβ hn
    obtain ⟨h1, h2⟩ := he.blocks β hβ (fun h => hn (mine_sel hs h))
    refine ⟨h1, fun hh => ?_⟩
    rcases hmine _ hh with h | h
    · exact hn h
    · exact h2 h

theorem wcon_frame {B : Base} {f : FuncId} {args1 : List AV} {σ1 : Store} {r1 : AV} {σ2 : Store} (hcon : Con B f args1 σ1 (fun r σ' => r = r1 ∧ σ' = σ2)) {σ : Store} {args : List AV} (sel : List Nat) (hnd : sel.Nodup) (hσ : stUp sel σ sel σ1)
    (ha : wkA sel args args1) (hb : bufsClosed σ2 = true) (F : Addr → Prop) : WCon (B.env F) f args σ (ren2 sel σ.length r1) (setL σ sel (σ2.map (renB sel σ.length))) := by
  refine fun w g vs hm har => ?_
  refine (frame_core (Fin := fun e w' pr g => ∃ v, e = .returned v ∧ Rep w' pr g v r1) (fun F w g vs hm har => (hcon.call F w g vs hm har).mono ?_) sel hnd hσ ha hb F hm har).mono ?_
  · rintro e w' ⟨v, r, σ', g', h1, ⟨rfl, rfl⟩, h3, h4, h5⟩
    exact ⟨g', ⟨v, h1, h5⟩, h3, h4⟩
  · rintro e w' ⟨g', pr1, g1, ⟨v, h1, h5⟩, hrr, h3, h4, h6⟩
    exact ⟨v, g', h1, h3, h4, h6, hrr v _ h5⟩

/-- The same, with what comes out written in the caller's way. -/
theorem wcon_call {B : Base} {f : FuncId} {args1 : List AV} {σ1 : Store} {r1 : AV} {σ2 : Store} (hcon : Con B f args1 σ1 (fun r σ' => r = r1 ∧ σ' = σ2)) {σ : Store} {args : List AV} (sel : List Nat) (hnd : sel.Nodup) (hσ : stUp sel σ sel σ1)
    (ha : wkA sel args args1) (hb : bufsClosed σ2 = true) {r : AV} {σ' : Store} (hr : ren2 sel σ.length r1 = r) (hs : setL σ sel (σ2.map (renB sel σ.length)) = σ') : ∀ F, WCon (B.env F) f args σ r σ' := by
  subst hr hs
  exact wcon_frame hcon sel hnd hσ ha hb

/-- A nil slice handed over as an empty buffer. -/
def nil0 (N : Nat) : AV → AV → Prop
  | .sl true [], .bs true id 0 0 0 => id = N
  | x, y => x = y
def nil0L (N : Nat) : List AV → List AV → Prop
  | [], [] => True
  | x :: xs, y :: ys => nil0 N x y ∧ nil0L N xs ys
  | _, _ => False
def nil1 (N : Nat) : AV → AV → Prop
  | .agg xs, .agg ys => nil0L N xs ys
  | x, y => nil0 N x y
def nilA (N : Nat) : List AV → List AV → Prop
  | [], [] => True
  | x :: xs, y :: ys => nil1 N x y ∧ nilA N xs ys
  | _, _ => False

/-! ### What a function gives back, with blocks -/
def wk2 (sel : List Nat) : AV → AV → Prop
  | .tup xs, .tup ys => wkA sel xs ys
  | x, y => wk1 sel x y

def chkR (sel : List Nat) (r0 : AV) : Option (List AV) → Prop
  | some xs => wk2 sel (result1 xs) r0
  | none => False

def retO (E : Env) (n : Nat) (rs : List ResultVar) (r0 : AV) (σ0 : Store) : Post := fun ex st => (ex = .normal ∨ ex = .ret) ∧ ∃ sel, chkR sel r0 (resultA E st.σ st.fr rs) ∧ sel.Nodup ∧ sel.take n = List.range n ∧ stUp sel st.σ sel σ0

theorem ret_own {E : Env} {n N : Nat} {l : Fr} {σ σ0 : Store} {rs : List ResultVar} {r0 : AV} {ex : Exit} (hex : ex = .normal ∨ ex = .ret) (sel : List Nat) (hnd : sel.Nodup) (hn : sel.take n = List.range n) (h : chkR sel r0 (resL E N l σ rs)) (hσ : stUp sel σ sel σ0) : retO E n rs r0 σ0 ex ⟨asFr N l, σ⟩ :=
  ⟨hex, sel, by rw [resL_eq]; exact h, hnd, hn, hσ⟩

theorem wkA_get {sel : List Nat} : ∀ {xs ys : List AV}, wkA sel xs ys → xs.length = ys.length ∧ ∀ (i : Nat) (y : AV), ys[i]? = some y → ∃ x, xs[i]? = some x ∧ wk1 sel x y
  | [], [], _ => ⟨rfl, fun i y h => by simp at h⟩
  | x :: xs, y :: ys, h => by
    obtain ⟨h1, h2⟩ := wkA_get h.2
    refine ⟨by simp [h1], fun i z hz => ?_⟩
    cases i with
    | zero => simp at hz; subst hz; exact ⟨x, rfl, h.1⟩
    | succ i => simpa using h2 i z (by simpa using hz)

theorem rep_wk2 {w : World} {g : Gh} {sel : List Nat} {pr pr' : Addr → Prop} (hp : ∀ a, pr a → pr' a) (hs : ∀ i ∈ sel, i < g.length) {v : Value} {x y : AV} (h : Rep w pr g v x) (hw : wk2 sel x y) : Rep w pr' (ghSel sel g) v y := by
  unfold wk2 at hw
  split at hw
  · obtain ⟨h1, h2⟩ := wkA_get hw
    cases h with
    | tup _ vs _ hs' hr =>
      refine .tup _ vs _ (by omega) (fun i y hy => ?_)
      obtain ⟨x, hx, hxy⟩ := h2 i y hy; exact rep_wk1' hp hs (hr i x hx) hxy
  · exact rep_wk1' hp hs h hw

theorem mem_sel {E : Env} {w : World} {g : Gh} {σ σ' : Store} {n : Nat} (hm : Mem E w g σ) (sel : List Nat) (hnd : sel.Nodup) (hn : sel.take n = List.range n) (hσ : stUp sel σ sel σ') :
    (∀ i ∈ sel, i < g.length) ∧ Mem E w (ghSel sel g) σ' ∧ Evo E n w g w (ghSel sel g) ∧ ∀ a, prot E g a → prot E (ghSel sel g) a := by
  have hw := weak_sel (E := E) (n := n) (N := 0) (l := []) (l' := []) sel hnd hn hσ trivial
  obtain ⟨hl, hget⟩ := stUp_get hσ
  have hlen : g.length = σ.length := hm.len
  have hs : ∀ i ∈ sel, i < g.length := by
    intro i hi
    obtain ⟨id, hid, rfl⟩ := List.getElem_of_mem hi
    obtain ⟨i', b, h1, h2, _⟩ := hget id (σ'[id]'(by omega)) (List.getElem?_eq_getElem _)
    rw [List.getElem?_eq_getElem hid] at h1
    cases h1
    rw [hlen]
    exact (List.getElem?_eq_some_iff.1 h2).1
  refine ⟨hs, ⟨by simp [ghSel, hl], ?_, ?_, fun a ha => ⟨(hm.foreign a ha).1, fun hh => (hm.foreign a ha).2 (mine_sel hs hh)⟩, ?_, hm.maps, fun i vs h => ⟨fun hh => (hm.whole i vs h).1 (mine_sel hs hh), (hm.whole i vs h).2⟩⟩, ?_, fun a => prot_sel hs⟩
  · intro id b ab' h1 h2
    obtain ⟨i, ab, e1, e2, e3⟩ := hget id ab' h2
    obtain ⟨i', f1, f2⟩ := (ghSel_get hs).1 h1
    rw [e1] at f1
    cases f1
    have hk := hm.blk i b ab f2 e2
    cases ab with
    | box cs ro =>
      cases ab' with
      | buf => exact e3.elim
      | box cs' ro' =>
        obtain ⟨rfl, e4⟩ := e3
        obtain ⟨e5, e6⟩ := wkL_get e4
        obtain ⟨k1, k2, k3, k4, k5, β, arr, t, fz, k6, k7, k8, k9, k10⟩ := hk
        refine ⟨k1, k2, k3, by omega, k5, β, arr, t, fz, k6, k7, by omega, k9, fun j y hj => ?_⟩
        obtain ⟨x, hx, hxy⟩ := e6 j y hj
        exact ⟨rep_wk0 hs (k10 j x hx).1 hxy, (k10 j x hx).2⟩
    | buf k els ro =>
      cases ab' with
      | box => exact e3.elim
      | buf k' els' ro' =>
        obtain ⟨rfl, rfl, rfl, e4⟩ := e3
        obtain ⟨k1, k2, k3, k4, k5, k6, k7⟩ := hk
        refine ⟨k1, k2, k3, k4, k5, k6, fun β hβ => ?_⟩
        obtain ⟨arr, t, fz, g1, g2, g3, g4, g5⟩ := k7 β hβ
        refine ⟨arr, t, fz, g1, g2, g3, g4, fun i cs j x hi hj => ⟨?_, (g5 i cs j x hi hj).2⟩⟩
        have hcl : x.closed = true := List.all_eq_true.1 (List.all_eq_true.1 e4 cs (List.mem_of_getElem? hi)) x (List.mem_of_getElem? hj)
        exact (closed_rep (g5 i cs j x hi hj).1 hcl).mono (fun a u hc hp => ⟨hc, prot_sel hs hp⟩) (GLe.nil _)
  · intro id id' b b' β h1 h2 e1 e2
    obtain ⟨i, f1, f2⟩ := (ghSel_get hs).1 h1
    obtain ⟨i', f1', f2'⟩ := (ghSel_get hs).1 h2
    have := hm.inj i i' b b' β f2 f2' e1 e2
    subst this
    obtain ⟨l1, q1⟩ := List.getElem?_eq_some_iff.1 f1
    obtain ⟨l2, q2⟩ := List.getElem?_eq_some_iff.1 f1'
    exact nodup_inj hnd l1 l2 (q1.trans q2.symm)
  · intro i cs hG
    obtain ⟨q1, q2, q3, c, q4⟩ := hm.glob i cs hG
    exact ⟨q1, fun hh => q2 (mine_sel hs hh), q3, c, fun j x hj => ⟨(q4 j x hj).1, (q4 j x hj).2.1.mono (fun a u hc hp => ⟨hc, prot_sel hs hp⟩) (GLe.nil _), (q4 j x hj).2.2⟩⟩
  · refine ⟨rfl, rfl, rfl, Nat.le_refl _, fun a u hc hp => ⟨hc, prot_sel hs hp⟩, fun β _ hn' => ⟨rfl, fun hh => hn' (mine_sel hs hh)⟩, fun id hid b hb => ⟨b, (ghSel_get hs).2 ⟨id, ?_, hb⟩, GB.step.refl b⟩⟩
    have : (sel.take n)[id]? = some id := by rw [hn, List.getElem?_range hid]
    rw [List.getElem?_take, if_pos hid] at this
    exact this

/-- A contract with blocks, from a walk through the body. -/
theorem con_walk_own {B : Base} {f : FuncId} {fn : Func} {c : Code} {args : List AV} {σ σ0 : Store} {r0 : AV} {rs : List ResultVar} {N : Nat} (n : Nat) (hn0 : σ.length = n) (hB : B.Ok) (hf : B.P.funcs[f]? = some fn) (hb : fn.body = some c) (hn : (fn.name == "runtime.NumGoroutine") = false) (hN : fn.ntmps = N) (hrs : fn.results.toList = rs)
    (hlen : args.length ≤ N) (h : ∀ F, Run (B.env F) n c ⟨asFr N (numb 0 args), σ⟩ (retO (B.env F) n rs r0 σ0)) : Con B f args σ (fun r' σ' => r' = r0 ∧ σ' = σ0) := by
  subst hn0
  have h0 : Con B f args σ (fun r σ' => ∃ sel : List Nat, wk2 sel r r0 ∧ sel.Nodup ∧ sel.take σ.length = List.range σ.length ∧ stUp sel σ' sel σ0) := by
    refine con_of hB hf hb hn (fun F => ?_)
    subst hN hrs
    rw [entry_asFr fn.ntmps args hlen (numb 0 args) (fun t _ => look_numb args 0 t (Nat.zero_le _))]
    refine run_mono (h F) ?_
    rintro ex st ⟨h1, sel, h2, h3, h4, h5⟩
    unfold chkR at h2
    split at h2
    · rename_i xs hxs; exact ⟨h1, xs, hxs, sel, h2, h3, h4, h5⟩
    · exact h2.elim
  refine ⟨fun F w g vs hm ha => (h0.call F w g vs hm ha).mono ?_⟩
  rintro e w' ⟨v, r, σ', g', h1, ⟨sel, k1, k2, k3, k4⟩, h3, h4, h5⟩
  obtain ⟨s1, s2, s3, s4⟩ := mem_sel h3 sel k2 k3 k4
  exact ⟨v, r0, σ0, ghSel sel g', h1, ⟨rfl, rfl⟩, s2, h4.trans s3, rep_wk2 s4 s1 h5 k1⟩

theorem nil0_same {N : Nat} {x : AV} : nil0 N x x = True := by
  unfold nil0
  split <;> first | (exfalso; simp_all; done) | simp
theorem nil0_nil {N : Nat} : nil0 N (.sl true []) (.bs true N 0 0 0) = True := by simp [nil0]
theorem nil1_nil {N : Nat} : nil1 N (.sl true []) (.bs true N 0 0 0) = True := nil0_nil
theorem nil0L_same {N : Nat} : ∀ {l : List AV}, nil0L N l l = True
  | [] => by simp [nil0L]
  | x :: l => by simp [nil0L, nil0_same, nil0L_same (l := l)]
theorem nil1_same {N : Nat} {x : AV} : nil1 N x x = True := by
  cases x <;> unfold nil1 <;> first | exact nil0_same | exact nil0L_same
theorem nil1_agg {N : Nat} {xs ys : List AV} : nil1 N (.agg xs) (.agg ys) = nil0L N xs ys := rfl

section
variable {sel : List Nat} {N : Nat}
theorem ren0_i64 (x : Int) : ren0 sel N (i64 x : AV) = (i64 x : AV) := by
  show (match (i64 x : AV).closed with | true => (i64 x : AV) | false => .junk) = _
  rw [closed_i64]
theorem ren1_i64 (x : Int) : ren1 sel N (i64 x : AV) = (i64 x : AV) := ren0_i64 (sel := sel) (N := N) x
theorem ren2_i64 (x : Int) : ren2 sel N (i64 x : AV) = (i64 x : AV) := ren0_i64 (sel := sel) (N := N) x
theorem ren0_u8 (x : UInt8) : ren0 sel N (u8 x : AV) = (u8 x : AV) := by
  show (match (u8 x : AV).closed with | true => (u8 x : AV) | false => .junk) = _
  rw [closed_u8]
theorem ren1_u8 (x : UInt8) : ren1 sel N (u8 x : AV) = (u8 x : AV) := ren0_u8 (sel := sel) (N := N) x
theorem ren2_u8 (x : UInt8) : ren2 sel N (u8 x : AV) = (u8 x : AV) := ren0_u8 (sel := sel) (N := N) x
theorem ren0_u32 (x : UInt32) : ren0 sel N (u32 x : AV) = (u32 x : AV) := by
  show (match (u32 x : AV).closed with | true => (u32 x : AV) | false => .junk) = _
  rw [closed_u32]
theorem ren1_u32 (x : UInt32) : ren1 sel N (u32 x : AV) = (u32 x : AV) := ren0_u32 (sel := sel) (N := N) x
theorem ren2_u32 (x : UInt32) : ren2 sel N (u32 x : AV) = (u32 x : AV) := ren0_u32 (sel := sel) (N := N) x
theorem ren0_u64 (x : UInt64) : ren0 sel N (u64 x : AV) = (u64 x : AV) := by
  show (match (u64 x : AV).closed with | true => (u64 x : AV) | false => .junk) = _
  rw [closed_u64]
theorem ren1_u64 (x : UInt64) : ren1 sel N (u64 x : AV) = (u64 x : AV) := ren0_u64 (sel := sel) (N := N) x
theorem ren2_u64 (x : UInt64) : ren2 sel N (u64 x : AV) = (u64 x : AV) := ren0_u64 (sel := sel) (N := N) x
theorem ren0_bool (b : Bool) : ren0 sel N (.bool b : AV) = (.bool b : AV) := by
  show (match (.bool b : AV).closed with | true => (.bool b : AV) | false => .junk) = _
  rw [closed_bool]
theorem ren1_bool (b : Bool) : ren1 sel N (.bool b : AV) = (.bool b : AV) := ren0_bool (sel := sel) (N := N) b
theorem ren2_bool (b : Bool) : ren2 sel N (.bool b : AV) = (.bool b : AV) := ren0_bool (sel := sel) (N := N) b
theorem ren0_str (s : List UInt8) : ren0 sel N (.str s : AV) = (.str s : AV) := by
  show (match (.str s : AV).closed with | true => (.str s : AV) | false => .junk) = _
  rw [closed_str]
theorem ren1_str (s : List UInt8) : ren1 sel N (.str s : AV) = (.str s : AV) := ren0_str (sel := sel) (N := N) s
theorem ren2_str (s : List UInt8) : ren2 sel N (.str s : AV) = (.str s : AV) := ren0_str (sel := sel) (N := N) s
theorem ren0_sl (f : Bool) (els : List (List AV)) : ren0 sel N (.sl f els : AV) = (.sl f els : AV) := by
  show (match (.sl f els : AV).closed with | true => (.sl f els : AV) | false => .junk) = _
  rw [closed_sl]
theorem ren1_sl (f : Bool) (els : List (List AV)) : ren1 sel N (.sl f els : AV) = (.sl f els : AV) := ren0_sl (sel := sel) (N := N) f els
theorem ren2_sl (f : Bool) (els : List (List AV)) : ren2 sel N (.sl f els : AV) = (.sl f els : AV) := ren0_sl (sel := sel) (N := N) f els
theorem ren0_bs (f : Bool) (id t o l : Nat) : ren0 sel N (.bs f id t o l) = .bs f (renI sel N id) t o l := rfl
theorem ren0_ref (id o : Nat) : ren0 sel N (.ref id o) = .ref (renI sel N id) o := rfl
theorem ren0_eref (id t i j : Nat) : ren0 sel N (.eref id t i j) = .eref (renI sel N id) t i j := rfl
theorem ren1_bs (f : Bool) (id t o l : Nat) : ren1 sel N (.bs f id t o l) = .bs f (renI sel N id) t o l := rfl
theorem ren1_ref (id o : Nat) : ren1 sel N (.ref id o) = .ref (renI sel N id) o := rfl
theorem ren1_eref (id t i j : Nat) : ren1 sel N (.eref id t i j) = .eref (renI sel N id) t i j := rfl
theorem ren2_bs (f : Bool) (id t o l : Nat) : ren2 sel N (.bs f id t o l) = .bs f (renI sel N id) t o l := rfl
theorem ren2_ref (id o : Nat) : ren2 sel N (.ref id o) = .ref (renI sel N id) o := rfl
theorem ren2_eref (id t i j : Nat) : ren2 sel N (.eref id t i j) = .eref (renI sel N id) t i j := rfl
theorem ren1_agg (xs : List AV) : ren1 sel N (.agg xs) = .agg (xs.map (ren0 sel N)) := rfl
theorem ren2_agg (xs : List AV) : ren2 sel N (.agg xs) = .agg (xs.map (ren0 sel N)) := rfl
theorem ren2_tup (xs : List AV) : ren2 sel N (.tup xs) = .tup (xs.map (ren1 sel N)) := rfl
end

attribute [go_sem] chkR wk2 wkA nilA nil0_same nil0_nil nil1_nil nil1_same nil1_agg nil0L ren0_i64 ren1_i64 ren2_i64 ren0_u8 ren1_u8 ren2_u8 ren0_u32 ren1_u32 ren2_u32 ren0_u64 ren1_u64 ren2_u64 ren0_bool ren1_bool ren2_bool ren0_str ren1_str ren2_str ren0_sl ren1_sl ren2_sl ren0_bs ren0_ref ren0_eref ren1_bs ren1_ref ren1_eref ren2_bs ren2_ref ren2_eref ren1_agg ren2_agg ren2_tup renB renI setL bufsClosed List.getD_cons_zero List.getD_cons_succ

end Go.Rv
