/-
  Part 25.
-/
import Derived.Test.YtnfoiocigicdnaaGreatDoorYV24
namespace Go.Rv
set_option linter.unusedVariables false
set_option linter.unusedSimpArgs false
def O1 {α : Type} : List α → List Nat → List α → List α
  | l, i :: sel, b :: bs => O1 (l.set i b) sel bs
  | l, [], bs => l ++ bs
  | l, _ :: _, [] => l
def Iz (sel : List Nat) (N i : Nat) : Nat := if i < sel.length then sel.getD i 0 else N + (i - sel.length)
theorem Ut {α : Type} : ∀ (sel : List Nat) (l bs : List α), sel.length ≤ bs.length → (O1 l sel bs).length = l.length + (bs.length - sel.length)
  | [], l, bs, _ => by simp [O1]
  | i :: sel, l, [], h => by simp at h
  | i :: sel, l, b :: bs, h => by
    rw [O1, Ut sel _ bs (by simpa using h)]
    simp
theorem Hc {α : Type} : ∀ (sel : List Nat) (l bs : List α) (j : Nat), j < l.length → j ∉ sel → (O1 l sel bs)[j]? = l[j]?
  | [], l, bs, j, hj, _ => by rw [O1, List.getElem?_append_left hj]
  | i :: sel, l, [], j, hj, _ => rfl
  | i :: sel, l, b :: bs, j, hj, hn => by
    rw [O1, Hc sel _ bs j (by simpa using hj) (fun h => hn (List.mem_cons_of_mem _ h)), List.getElem?_set_ne]
    intro e; exact hn (by rw [e]; exact List.mem_cons_self)
theorem Wp {α : Type} : ∀ (sel : List Nat) (l bs : List α), sel.Nodup → (∀ i ∈ sel, i < l.length) → sel.length ≤ bs.length → ∀ i, (O1 l sel bs)[Iz sel l.length i]? = bs[i]?
  | [], l, bs, _, _, _, i => by
    have e : Iz [] l.length i = l.length + i := by simp [Iz]
    rw [e, O1, List.getElem?_append_right (by omega)]
    congr 1; omega
  | i0 :: sel, l, [], _, _, h, i => by simp at h
  | i0 :: sel, l, b :: bs, hnd, hs, h, i => by
    have h' : sel.length ≤ bs.length := by simpa using h
    have hnd' := List.nodup_cons.1 hnd
    have hs' : ∀ i ∈ sel, i < (l.set i0 b).length := fun i hi => by simpa using hs i (List.mem_cons_of_mem _ hi)
    rw [O1]
    cases i with
    | zero =>
      have e : Iz (i0 :: sel) l.length 0 = i0 := by simp [Iz]
      have hi0 := hs i0 List.mem_cons_self
      rw [e, Hc sel _ bs i0 (by simpa using hi0) hnd'.1, List.getElem?_set_self hi0]
      rfl
    | succ i =>
      have e : Iz (i0 :: sel) l.length (i + 1) = Iz sel (l.set i0 b).length i := by
        unfold Iz
        simp only [List.length_cons, List.length_set]
        by_cases hi : i < sel.length
        · rw [if_pos (by omega), if_pos hi]; rfl
        · rw [if_neg (by omega), if_neg hi]; congr 1; omega
      rw [e, Wp sel _ bs hnd'.2 hs' h' i]
      rfl
theorem Xf {sel : List Nat} {N : Nat} (j : Nat) : (j < N ∧ j ∉ sel) ∨ ∃ i, j = Iz sel N i := by
  by_cases hj : j ∈ sel
  · right
    obtain ⟨i, hi, rfl⟩ := List.getElem_of_mem hj
    exact ⟨i, by rw [Iz, if_pos hi]; simp [List.getD_eq_getElem?_getD, hi]⟩
  · by_cases hN : j < N
    · exact .inl ⟨hN, hj⟩
    · right
      exact ⟨sel.length + (j - N), by rw [Iz, if_neg (by omega)]; omega⟩
def Tf (sel : List Nat) (N : Nat) : AV → AV
  | .bs f id t o l => .bs f (Iz sel N id) t o l
  | .ref id o => .ref (Iz sel N id) o
  | .tref id t => .tref (Iz sel N id) t
  | .mref id => .mref (Iz sel N id)
  | .nref id => .nref (Iz sel N id)
  | .eref id t i j => .eref (Iz sel N id) t i j
  | x => match x.closed with
    | true => x
    | false => .junk
def AcV (sel : List Nat) (N : Nat) : AV → AV
  | .agg xs => .agg (xs.map (Tf sel N))
  | x => Tf sel N x
def AbE (sel : List Nat) (N : Nat) : AV → AV
  | .tup xs => .tup (xs.map (AcV sel N))
  | x => AcV sel N x
def Ahd (sel : List Nat) (N : Nat) : ABlk → ABlk
  | .box cs ro => .box (cs.map (Tf sel N)) ro
  | .buf k els ro => .buf k els ro
  | .obj o => .obj o
  | .tb T l => .tb T l
def C8 : Ab → Bool
  | [] => true
  | .box _ _ :: σ => C8 σ
  | .buf _ els _ :: σ => Cp els && C8 σ
  | .obj _ :: σ => C8 σ
  | .tb _ _ :: σ => C8 σ
theorem El : ∀ {σ : Ab} {i k : Nat} {els : List (List AV)} {ro : Bool}, C8 σ = true → σ[i]? = some (.buf k els ro) → Cp els = true
  | [], i, k, els, ro, _, h => by simp at h
  | .box _ _ :: σ, 0, k, els, ro, _, h => by simp at h
  | .obj _ :: σ, 0, k, els, ro, _, h => by simp at h
  | .tb _ _ :: σ, 0, k, els, ro, _, h => by simp at h
  | .buf _ els' _ :: σ, 0, k, els, ro, hc, h => by
    simp at h
    obtain ⟨_, rfl, _⟩ := h
    exact (Bool.and_eq_true_iff.1 hc).1
  | .box _ _ :: σ, i + 1, k, els, ro, hc, h => El (σ := σ) hc (by simpa using h)
  | .obj _ :: σ, i + 1, k, els, ro, hc, h => El (σ := σ) hc (by simpa using h)
  | .tb _ _ :: σ, i + 1, k, els, ro, hc, h => El (σ := σ) hc (by simpa using h)
  | .buf _ _ _ :: σ, i + 1, k, els, ro, hc, h => El (σ := σ) (Bool.and_eq_true_iff.1 hc).2 (by simpa using h)
section
variable {w : World} {pr pr' : Addr → Prop} {g1 g : Gh} {sel : List Nat} {N : Nat}
theorem Wn (hg : ∀ (i : Nat) (b : GB), g1[i]? = some b → g[Iz sel N i]? = some b) (hp : ∀ a u, w.cell? a = some u → pr a → pr' a) {v : Value} {x : AV} (h : Rep w pr g1 v x) : Rep w pr' g v (Tf sel N x) := by
  have hcl : x.closed = true → Rep w pr' g v x := fun hc => (Cq h hc).mono (fun a u hcc hpr => ⟨hcc, hp a u hcc hpr⟩) (GLe.nil _)
  have hgen : Rep w pr' g v (match x.closed with
    | true => x
    | false => .junk) := by
    cases hc : x.closed with
    | true => exact hcl hc
    | false => exact .junk _ _
  cases x with
  | bs f id t o l =>
    cases h with
    | bs _ _ _ _ _ _ _ b hb hx ht h ho => exact .bs _ _ _ _ _ _ _ b (hg _ _ hb) hx ht h ho
  | ref id o =>
    cases h with
    | ref _ _ _ β b hb hx hβ => exact .ref _ _ _ β b (hg _ _ hb) hx hβ
  | tref id t =>
    cases h with
    | tref _ _ _ β b hb hx hβ ht => exact .tref _ _ _ β b (hg _ _ hb) hx hβ ht
  | mref id =>
    cases h with
    | mref _ _ β b hb hx hβ => exact .mref _ _ β b (hg _ _ hb) hx hβ
  | nref id =>
    cases h with
    | nref _ _ _ b hb hx h => exact .nref _ _ _ b (hg _ _ hb) hx h
  | eref id t i j =>
    cases h with
    | eref _ _ _ _ _ _ b hb hx ht h ho => exact .eref _ _ _ _ _ _ b (hg _ _ hb) hx ht h ho
  | _ => exact hgen
theorem Ab2 (hg : ∀ (i : Nat) (b : GB), g1[i]? = some b → g[Iz sel N i]? = some b) (hp : ∀ a u, w.cell? a = some u → pr a → pr' a) {v : Value} {x : AV} (h : Rep w pr g1 v x) : Rep w pr' g v (AcV sel N x) := by
  cases x with
  | agg xs =>
    cases h with
    | agg _ vs _ hs ho hr =>
      refine .agg _ vs _ (by simpa using hs) (fun i y hy => ?_) (fun i y hy => ?_)
      · rw [List.getElem?_map, Option.map_eq_some_iff] at hy
        obtain ⟨x, hx, _⟩ := hy
        exact ho i x hx
      · rw [List.getElem?_map, Option.map_eq_some_iff] at hy
        obtain ⟨x, hx, rfl⟩ := hy
        exact Wn hg hp (hr i x hx)
  | _ => exact Wn hg hp h
theorem Agw (hg : ∀ (i : Nat) (b : GB), g1[i]? = some b → g[Iz sel N i]? = some b) (hp : ∀ a u, w.cell? a = some u → pr a → pr' a) {v : Value} {x : AV} (h : Rep w pr g1 v x) : Rep w pr' g v (AbE sel N x) := by
  cases x with
  | tup xs =>
    cases h with
    | tup _ vs _ hs hr =>
      refine .tup _ vs _ (by simpa using hs) (fun i y hy => ?_)
      rw [List.getElem?_map, Option.map_eq_some_iff] at hy
      obtain ⟨x, hx, rfl⟩ := hy
      exact Ab2 hg hp (hr i x hx)
  | _ => exact Ab2 hg hp h
end
section
variable {w : World} {g : Gh} {sel : List Nat} {pr pr' : Addr → Prop}
theorem P3 (hp : ∀ a, pr a → pr' a) (hs : ∀ i ∈ sel, i < g.length) {v : Value} {x y : AV} (h : Rep w pr g v x) (hw : wk0 sel x y) : Rep w pr' (Dl sel g) v y := by
  have hcl : ∀ {z : AV}, Rep w pr g v z → z.closed = true → Rep w pr' (Dl sel g) v z := fun h1 h2 =>
    (Cq h1 h2).mono (fun a u hc hpr => ⟨hc, hp a hpr⟩) (GLe.nil _)
  by_cases hj : y = .junk
  · subst hj; exact .junk _ _
  cases x <;> cases y <;> first
    | exact (hj rfl).elim
    | (simp only [wk0] at hw; exfalso; have h1 := hw.1; cases h1; done)
    | (simp only [wk0] at hw; obtain ⟨e, hc⟩ := hw; rw [← e] at hc ⊢; exact hcl h hc; done)
    | skip
  case bs.bs f i t o l f' id t' o' l' =>
    simp only [wk0] at hw
    obtain ⟨h1, h2, rfl, rfl, rfl⟩ := hw
    cases h with
    | bs _ _ _ _ _ _ _ b hb hx ht h ho =>
      refine .bs _ _ _ _ _ _ _ b ((A5 hs).2 ⟨i, h1, hb⟩) hx ht (fun e => ?_) ho
      obtain ⟨a, cap, q1, q2, q3, q4, q5⟩ := h e
      exact ⟨a, cap, q1, q2, fun e => q3 (h2 e), q4, q5⟩
  case ref.ref i o id o' =>
    simp only [wk0] at hw
    obtain ⟨h1, rfl⟩ := hw
    cases h with
    | ref _ _ _ β b hb hx hβ => exact .ref _ _ _ β b ((A5 hs).2 ⟨i, h1, hb⟩) hx hβ
  case tref.tref i t id t' =>
    simp only [wk0] at hw
    obtain ⟨h1, rfl⟩ := hw
    cases h with
    | tref _ _ _ β b hb hx hβ ht => exact .tref _ _ _ β b ((A5 hs).2 ⟨i, h1, hb⟩) hx hβ ht
  case mref.mref i id =>
    simp only [wk0] at hw
    cases h with
    | mref _ _ β b hb hx hβ => exact .mref _ _ β b ((A5 hs).2 ⟨i, hw, hb⟩) hx hβ
  case nref.nref i id =>
    simp only [wk0] at hw
    cases h with
    | nref _ _ _ b hb hx h => exact .nref _ _ _ b ((A5 hs).2 ⟨i, hw, hb⟩) hx h
  case eref.eref i t a b id t' a' b2 =>
    simp only [wk0] at hw
    obtain ⟨h1, rfl, rfl, rfl⟩ := hw
    cases h with
    | eref _ _ _ _ _ _ b hb hx ht h ho => exact .eref _ _ _ _ _ _ b ((A5 hs).2 ⟨i, h1, hb⟩) hx ht h ho
  case sl.sl f els f' els' =>
    simp only [wk0] at hw
    obtain ⟨h1, rfl⟩ := hw
    have : Rep w pr g v (.sl f' els) := by
      cases h with
      | sl _ a len cap _ _ k c hlen hcap hfull hnone hk hc hr => exact .sl _ a len cap f' els k c hlen hcap (fun e => hfull (h1 e)) hnone hk hc hr
    exact hcl this (by simp [AV.closed])
  case fn.fn f cs f' cs' =>
    simp only [wk0] at hw
    rcases hw with ⟨e, hc⟩ | ⟨rfl, hw⟩
    · rw [← e] at hc ⊢; exact hcl h hc
    obtain ⟨l1, l2⟩ := Vp hw
    have hnt : ∀ ys, cs' ≠ [.tup ys] := by
      rintro ys rfl
      obtain ⟨x, _, hx⟩ := l2 0 _ rfl
      exact Nd hx ys rfl
    have conv : ∀ {u : Value} {x y : AV}, Rep w (pr) g u x → wkc sel x y → Rep w (pr') (Dl sel g) u y := by
      intro u x y hr hxy
      rcases Nr hxy with ⟨i, o, id, rfl, rfl, h1⟩ | ⟨i, o, id, rfl, rfl, h1⟩ | ⟨rfl, hc⟩
      · cases hr with
        | ref _ _ _ β b hb hx hβ => exact .ref _ _ _ β b ((A5 hs).2 ⟨i, h1, hb⟩) hx hβ
      · cases hr with
        | tref _ _ _ β b hb hx hβ ht => exact .tref _ _ _ β b ((A5 hs).2 ⟨i, h1, hb⟩) hx hβ ht
      · exact (Cq hr hc).mono (fun a u hc hpr => ⟨hc, hp a hpr⟩) (GLe.nil _)
    cases h with
    | fn _ _ caps _ hsz hr hn =>
      refine .fn _ _ caps cs' (by omega) (fun i y hy => ?_) hnt
      obtain ⟨x, hx, hxy⟩ := l2 i y hy
      exact conv (hr i x hx) hxy
    | fnb _ _ fs xs hsz hr =>
      exfalso
      match cs', hw with
      | [y], hw =>
        obtain ⟨hy, _⟩ := hw
        rcases Nr hy with ⟨i, o, id, h1, _⟩ | ⟨i, o, id, h1, _⟩ | ⟨h1, _⟩
        · cases h1
        · cases h1
        · exact Nd hy _ h1.symm
theorem Vx (hp : ∀ a, pr a → pr' a) (hs : ∀ i ∈ sel, i < g.length) {v : Value} {x y : AV} (h : Rep w pr g v x) (hw : wk1 sel x y) : Rep w pr' (Dl sel g) v y := by
  by_cases ha : ∃ xs ys, x = .agg xs ∧ y = .agg ys
  · obtain ⟨xs, ys, rfl, rfl⟩ := ha
    simp only [wk1] at hw
    obtain ⟨h1, h2⟩ := Kp hw
    cases h with
    | agg _ vs _ hs' ho hr =>
      refine .agg _ vs ys (by omega) (fun i y hy => ?_) (fun i y hy => ?_)
      · obtain ⟨x, hx, _⟩ := h2 i y hy; exact ho i x hx
      · obtain ⟨x, hx, hxy⟩ := h2 i y hy; exact P3 hp hs (hr i x hx) hxy
  by_cases hb : ∃ xs ys, x = .tup xs ∧ y = .tup ys
  · obtain ⟨xs, ys, rfl, rfl⟩ := hb
    simp only [wk1] at hw
    obtain ⟨h1, h2⟩ := Kp hw
    cases h with
    | tup _ vs _ hs' hr =>
      refine .tup _ vs ys (by omega) (fun i y hy => ?_)
      obtain ⟨x, hx, hxy⟩ := h2 i y hy; exact P3 hp hs (hr i x hx) hxy
  have : wk1 sel x y = wk0 sel x y := by
    cases x <;> cases y <;> first
      | rfl
      | exact (ha ⟨_, _, rfl, rfl⟩).elim
      | exact (hb ⟨_, _, rfl, rfl⟩).elim
  exact P3 hp hs h (this ▸ hw)
end
def wkA (sel : List Nat) : List AV → List AV → Prop
  | [], [] => True
  | x :: xs, y :: ys => wk1 sel x y ∧ wkA sel xs ys
  | _, _ => False
theorem Y4 {w : World} {g : Gh} {sel : List Nat} {pr pr' : Addr → Prop} (hp : ∀ a, pr a → pr' a) (hs : ∀ i ∈ sel, i < g.length) : ∀ {vs : List Value} {xs ys : List AV}, Cm w pr g vs xs → wkA sel xs ys → Cm w pr' (Dl sel g) vs ys
  | [], [], [], _, _ => trivial
  | [], [], _ :: _, _, h => h.elim
  | _ :: _, _ :: _, [], _, h => h.elim
  | _ :: _, _ :: _, _ :: _, h, k => ⟨Vx hp hs h.1 k.1, Y4 hp hs h.2 k.2⟩
theorem Tg {B : Base} {f : FuncId} {args1 : List AV} {σ1 : Ab} {σ2 : Ab} {Fin : Ending → World → (Addr → Prop) → Gh → Prop}
    (hcall : ∀ (F : Addr → Prop) (w : World) (g : Gh) (vs : Array Value), Mem (B.env F) w g σ1 → Cm w (A2 (B.env F) g) g vs.toList args1 →
      DoCall B.P f vs w (fun e w' => ∃ g', Fin e w' (A2 (B.env F) g') g' ∧ Mem (B.env F) w' g' σ2 ∧ Evo (B.env F) σ1.length w g w' g'))
    {σ : Ab} {args : List AV} (sel : List Nat) (hnd : sel.Nodup) (hσ : Kb sel σ sel σ1)
    (ha : wkA sel args args1) (hb : C8 σ2 = true) (F : Addr → Prop) {w : World} {g : Gh} {vs : Array Value} (hm : Mem (B.env F) w g σ) (har : Cm w (A2 (B.env F) g) g vs.toList args) :
    DoCall B.P f vs w (fun e w' => ∃ g' pr1 g1, Fin e w' pr1 g1 ∧ (∀ v r, Rep w' pr1 g1 v r → Rep w' (A2 (B.env F) g') g' v (AbE sel σ.length r)) ∧
      Mem (B.env F) w' g' (O1 σ sel (σ2.map (Ahd sel σ.length))) ∧ GLe g g' ∧ Evo (B.env F) 0 w g w' g') := by
  obtain ⟨hl, hget⟩ := Ns hσ
  have hlen : g.length = σ.length := hm.len
  have hs : ∀ i ∈ sel, i < g.length := by
    intro i hi
    obtain ⟨id, hid, rfl⟩ := List.getElem_of_mem hi
    obtain ⟨i', b, h1, h2, _⟩ := hget id (σ1[id]'(by omega)) (List.getElem?_eq_getElem _)
    rw [List.getElem?_eq_getElem hid] at h1
    cases h1
    rw [hlen]
    exact (List.getElem?_eq_some_iff.1 h2).1
  let F1 : Addr → Prop := fun a => ¬ A2 (B.env F) g a ∧ ¬ Gu (Dl sel g) a.block ∧ a.block < w.heap.size
  have p1 : ∀ a, A2 (B.env F) g a → A2 (B.env F1) (Dl sel g) a := fun a hp => ⟨fun h => h.1 hp, fun id b hb hβ => by
    obtain ⟨i, _, hi⟩ := (A5 hs).1 hb; exact hp.2 i b hi hβ⟩
  have hm1 : Mem (B.env F1) w (Dl sel g) σ1 := by
    refine ⟨by simp [Dl, hl], ?_, ?_, fun a ha => ⟨ha.2.2, ha.2.1⟩, ?_, hm.maps, fun i vs h => ⟨fun hh => (hm.whole i vs h).1 (D9 hs hh), (hm.whole i vs h).2⟩⟩
    · intro id b ab' h1 h2
      obtain ⟨i, ab, e1, e2, e3⟩ := hget id ab' h2
      obtain ⟨i', f1, f2⟩ := (A5 hs).1 h1
      rw [e1] at f1
      cases f1
      have hk := hm.blk i b ab f2 e2
      cases ab with
      | box cs ro =>
        cases ab' with
        | buf => exact e3.elim
        | obj => exact e3.elim
        | tb => exact e3.elim
        | box cs' ro' =>
          obtain ⟨rfl, e4⟩ := e3
          obtain ⟨e5, e6⟩ := Kp e4
          obtain ⟨k1, k2, k3, k4, k5, β, arr, t, fz, k6, k7, k8, k9, k10⟩ := hk
          refine ⟨k1, k2, k3, by omega, k5, β, arr, t, fz, k6, k7, by omega, k9, fun j y hj => ?_⟩
          obtain ⟨x, hx, hxy⟩ := e6 j y hj
          exact ⟨P3 p1 hs (k10 j x hx).1 hxy, (k10 j x hx).2⟩
      | buf k els ro =>
        cases ab' with
        | box => exact e3.elim
        | obj => exact e3.elim
        | tb => exact e3.elim
        | buf k' els' ro' =>
          obtain ⟨rfl, rfl, rfl, e4⟩ := e3
          obtain ⟨k1, k2, k3, k4, k5, k6, k7⟩ := hk
          refine ⟨k1, k2, k3, k4, k5, k6, fun β hβ => ?_⟩
          obtain ⟨arr, t, fz, g1, g2, g3, g4, g5⟩ := k7 β hβ
          refine ⟨arr, t, fz, g1, g2, g3, g4, fun i cs j x hi hj => ⟨?_, (g5 i cs j x hi hj).2⟩⟩
          have hcl : x.closed = true := List.all_eq_true.1 (List.all_eq_true.1 e4 cs (List.mem_of_getElem? hi)) x (List.mem_of_getElem? hj)
          exact (Cq (g5 i cs j x hi hj).1 hcl).mono (fun a u hc hp => ⟨hc, p1 a hp⟩) (GLe.nil _)
      | obj o =>
        cases ab' with
        | box => exact e3.elim
        | buf => exact e3.elim
        | tb => exact e3.elim
        | obj o' =>
          obtain rfl : o = o' := e3
          exact hk
      | tb T l =>
        cases ab' with
        | box => exact e3.elim
        | buf => exact e3.elim
        | obj => exact e3.elim
        | tb T' l' =>
          obtain ⟨rfl, rfl⟩ := e3
          exact Abn hk
    · intro id id' b b' β h1 h2 e1 e2
      obtain ⟨i, f1, f2⟩ := (A5 hs).1 h1
      obtain ⟨i', f1', f2'⟩ := (A5 hs).1 h2
      have := hm.inj i i' b b' β f2 f2' e1 e2
      subst this
      obtain ⟨l1, q1⟩ := List.getElem?_eq_some_iff.1 f1
      obtain ⟨l2, q2⟩ := List.getElem?_eq_some_iff.1 f1'
      exact Nn hnd l1 l2 (q1.trans q2.symm)
    · intro i cs hG
      obtain ⟨q1, q2, q3, c, q4⟩ := hm.glob i cs hG
      exact ⟨q1, fun hh => q2 (D9 hs hh), fun j hj => hj.1 (B4 (q3 j) q2), c, fun j x hj => ⟨(q4 j x hj).1, (q4 j x hj).2.1.mono (fun a u hc hp => ⟨hc, p1 a hp⟩) (GLe.nil _), (q4 j x hj).2.2⟩⟩
  refine (hcall F1 w (Dl sel g) vs hm1 (Y4 p1 hs har ha)).mono ?_
  rintro e w' ⟨g1, hfin, hm2, he⟩
  have hl1 : g1.length = σ2.length := hm2.len
  have hsl : sel.length ≤ g1.length := by
    refine Nat.le_of_not_lt fun hlt => ?_
    have hgl : g1.length < (Dl sel g).length := by simpa [Dl] using hlt
    obtain ⟨b', hb', _⟩ := he.ids g1.length (by rw [← hl]; exact hlt) _ (List.getElem?_eq_getElem hgl)
    have := (List.getElem?_eq_some_iff.1 hb').1
    omega
  have hren : ∀ i, (O1 g sel g1)[Iz sel g.length i]? = g1[i]? := Wp sel g g1 hnd hs hsl
  have hsσ : ∀ i ∈ sel, i < σ.length := fun i hi => by rw [← hlen]; exact hs i hi
  have hren2 : ∀ i, (O1 σ sel (σ2.map (Ahd sel σ.length)))[Iz sel g.length i]? = (σ2.map (Ahd sel σ.length))[i]? := fun i => by
    rw [hlen]; exact Wp sel σ _ hnd hsσ (by simpa [← hl1] using hsl) i
  have hcls : ∀ j b, (O1 g sel g1)[j]? = some b → (j < g.length ∧ j ∉ sel ∧ g[j]? = some b) ∨ ∃ i, j = Iz sel g.length i ∧ g1[i]? = some b := by
    intro j b hb
    rcases Xf (sel := sel) (N := g.length) j with ⟨h1, h2⟩ | ⟨i, rfl⟩
    · rw [Hc sel g g1 j h1 h2] at hb; exact .inl ⟨h1, h2, hb⟩
    · rw [hren i] at hb; exact .inr ⟨i, rfl, hb⟩
  have hmine : ∀ β, Gu (O1 g sel g1) β → Gu g β ∨ Gu g1 β := by
    rintro β ⟨j, b, hb, hβ⟩
    rcases hcls j b hb with ⟨_, _, h3⟩ | ⟨i, _, h3⟩
    · exact .inl ⟨j, b, h3, hβ⟩
    · exact .inr ⟨i, b, h3, hβ⟩
  have hout : ∀ j b β, j ∉ sel → g[j]? = some b → b.blk = some β → ¬ Gu (Dl sel g) β := by
    rintro j b β hj hb hβ ⟨i, b', hb', hβ'⟩
    obtain ⟨i', h1, h2⟩ := (A5 hs).1 hb'
    have := hm.inj j i' b b' β hb h2 hβ hβ'
    subst this
    exact hj (List.mem_of_getElem? h1)
  have hP : ∀ a u, w'.cell? a = some u → A2 (B.env F1) g1 a → A2 (B.env F) (O1 g sel g1) a := by
    intro a u hc hp
    refine ⟨fun hF => hp.1 ⟨fun h => h.1 hF, fun h => (hm.foreign a hF).2 (D9 hs h), (hm.foreign a hF).1⟩, fun id b hb hβ => ?_⟩
    rcases hcls id b hb with ⟨h1, h2, h3⟩ | ⟨i, _, h3⟩
    · have hlt := Dr hm h3 hβ
      have hnm := hout id b a.block h2 h3 hβ
      have : A2 (B.env F) g a := Classical.byContradiction fun hn => hp.1 ⟨hn, hnm, hlt⟩
      exact this.2 id b h3 hβ
    · exact hp.2 i b h3 hβ
  have hQ : ∀ a u, w.cell? a = some u → A2 (B.env F) g a → w'.cell? a = some u ∧ A2 (B.env F) (O1 g sel g1) a := by
    intro a u hc hp
    obtain ⟨h1, h2⟩ := he.cells a u hc (p1 a hp)
    exact ⟨h1, hP a u h1 h2⟩
  have hle : GLe g (O1 g sel g1) := by
    intro id b hb
    by_cases hi : id ∈ sel
    · obtain ⟨i, hil, rfl⟩ := List.getElem_of_mem hi
      obtain ⟨b', hb', hst⟩ := he.ids i (by omega) b ((A5 hs).2 ⟨sel[i], List.getElem?_eq_getElem hil, hb⟩)
      refine ⟨b', ?_, hst⟩
      have := hren i
      rw [Iz, if_pos hil] at this
      rw [← hb', ← this]
      simp [List.getD_eq_getElem?_getD, hil]
    · exact ⟨b, by rw [Hc sel g g1 id (List.getElem?_eq_some_iff.1 hb).1 hi]; exact hb, GB.step.refl b⟩
  have hgren : ∀ (i : Nat) (b : GB), g1[i]? = some b → (O1 g sel g1)[Iz sel σ.length i]? = some b := fun i b hb => by rw [← hlen, hren i]; exact hb
  refine ⟨O1 g sel g1, _, g1, hfin, fun v r hrep => Agw hgren hP hrep, ⟨?_, ?_, ?_, ?_, ?_, hm2.maps, fun i vs h => ⟨fun hh => (hmine _ hh).elim (hm.whole i vs h).1 (hm2.whole i vs h).1, (hm2.whole i vs h).2⟩⟩, hle, ⟨he.os, he.tape, he.output, he.size, hQ, ?_, fun _ h => absurd h (Nat.not_lt_zero _)⟩⟩
  · rw [Ut sel g g1 hsl, Ut sel σ _ (by simpa [← hl1] using hsl), hlen, hl1]; simp
  · intro id b ab hb1 hab
    rcases Xf (sel := sel) (N := g.length) id with ⟨h1, h2⟩ | ⟨i, rfl⟩
    · rw [Hc sel g g1 id h1 h2] at hb1
      rw [Hc sel σ _ id (by omega) h2] at hab
      refine (hm.blk id b ab hb1 hab).mono hQ hle (fun β hβ => ?_)
      exact (he.blocks β (Dr hm hb1 hβ) (hout id b β h2 hb1 hβ)).1
    · rw [hren i] at hb1
      rw [hren2 i, List.getElem?_map, Option.map_eq_some_iff] at hab
      obtain ⟨ab1, hab1, rfl⟩ := hab
      have hk := hm2.blk i b ab1 hb1 hab1
      cases ab1 with
      | box cs ro =>
        obtain ⟨k1, k2, k3, k4, k5, β, arr, t, fz, k6, k7, k8, k9, k10⟩ := hk
        refine ⟨k1, k2, k3, by simpa using k4, k5, β, arr, t, fz, k6, k7, by simpa using k8, k9, fun j y hj => ?_⟩
        rw [List.getElem?_map, Option.map_eq_some_iff] at hj
        obtain ⟨x, hx, rfl⟩ := hj
        exact ⟨Wn hgren hP (k10 j x hx).1, (k10 j x hx).2⟩
      | buf k els ro =>
        obtain ⟨k1, k2, k3, k4, k5, k6, k7⟩ := hk
        refine ⟨k1, k2, k3, k4, k5, k6, fun β hβ => ?_⟩
        obtain ⟨arr, t, fz, g1', g2', g3', g4', g5'⟩ := k7 β hβ
        refine ⟨arr, t, fz, g1', g2', g3', g4', fun i' cs j x hi hj => ⟨?_, (g5' i' cs j x hi hj).2⟩⟩
        have hec := El hb hab1
        have hcl : x.closed = true := List.all_eq_true.1 (List.all_eq_true.1 hec cs (List.mem_of_getElem? hi)) x (List.mem_of_getElem? hj)
        exact (Cq (g5' i' cs j x hi hj).1 hcl).mono (fun a u hc hp => ⟨hc, hP a u hc hp⟩) (GLe.nil _)
      | obj o => exact hk
      | tb T l => exact Abn hk
  · intro id id' b b' β h1 h2 e1 e2
    have cross : ∀ (j i : Nat) (c c' : GB), j ∉ sel → g[j]? = some c → g1[i]? = some c' → c.blk = some β → c'.blk = some β → False := by
      intro j i c c' hj hc hc' x1 x2
      exact (he.blocks β (Dr hm hc x1) (hout j c β hj hc x1)).2 ⟨i, c', hc', x2⟩
    rcases hcls id b h1 with ⟨_, n1, f1⟩ | ⟨i, rfl, f1⟩
    · rcases hcls id' b' h2 with ⟨_, n2, f2⟩ | ⟨i', rfl, f2⟩
      · exact hm.inj id id' b b' β f1 f2 e1 e2
      · exact (cross id i' b b' n1 f1 f2 e1 e2).elim
    · rcases hcls id' b' h2 with ⟨_, n2, f2⟩ | ⟨i', rfl, f2⟩
      · exact (cross id' i b' b n2 f2 f1 e2 e1).elim
      · rw [hm2.inj i i' b b' β f1 f2 e1 e2]
  · intro a ha'
    refine ⟨Nat.lt_of_lt_of_le (hm.foreign a ha').1 he.size, fun hh => ?_⟩
    rcases hmine _ hh with h | h
    · exact (hm.foreign a ha').2 h
    · exact (hm2.foreign a ⟨fun h => h.1 ha', fun h => (hm.foreign a ha').2 (D9 hs h), (hm.foreign a ha').1⟩).2 h
  · intro i cs hG
    obtain ⟨q1, q2, q3, _⟩ := hm.glob i cs hG
    obtain ⟨_, r2, _, c, r4⟩ := hm2.glob i cs hG
    refine ⟨Nat.lt_of_lt_of_le q1 he.size, fun hh => ?_, q3, c, fun j x hj => ⟨(r4 j x hj).1, (r4 j x hj).2.1.mono (fun a u hc hp => ⟨hc, hP a u hc hp⟩) (GLe.nil _), (r4 j x hj).2.2⟩⟩
    rcases hmine _ hh with h | h
    · exact q2 h
    · exact r2 h
  · intro β hβ hn
    obtain ⟨h1, h2⟩ := he.blocks β hβ (fun h => hn (D9 hs h))
    refine ⟨h1, fun hh => ?_⟩
    rcases hmine _ hh with h | h
    · exact hn h
    · exact h2 h
theorem AcO {B : Base} {f : FuncId} {args1 : List AV} {σ1 : Ab} {r1 : AV} {σ2 : Ab} (hcon : Con B f args1 σ1 (fun r σ' => r = r1 ∧ σ' = σ2)) {σ : Ab} {args : List AV} (sel : List Nat) (hnd : sel.Nodup) (hσ : Kb sel σ sel σ1)
    (ha : wkA sel args args1) (hb : C8 σ2 = true) (F : Addr → Prop) : Wv (B.env F) f args σ (AbE sel σ.length r1) (O1 σ sel (σ2.map (Ahd sel σ.length))) := by
  refine fun w g vs hm har => ?_
  refine (Tg (Fin := fun e w' pr g => ∃ v, e = .returned v ∧ Rep w' pr g v r1) (fun F w g vs hm har => (hcon.call F w g vs hm har).mono ?_) sel hnd hσ ha hb F hm har).mono ?_
  · rintro e w' ⟨v, r, σ', g', h1, ⟨rfl, rfl⟩, h3, h4, h5⟩
    exact ⟨g', ⟨v, h1, h5⟩, h3, h4⟩
  · rintro e w' ⟨g', pr1, g1, ⟨v, h1, h5⟩, hrr, h3, h4, h6⟩
    exact ⟨v, g', h1, h3, h4, h6, hrr v _ h5⟩
theorem AeL {B : Base} {f : FuncId} {args1 : List AV} {σ1 : Ab} {r1 : AV} {σ2 : Ab} (hcon : Con B f args1 σ1 (fun r σ' => r = r1 ∧ σ' = σ2)) {σ : Ab} {args : List AV} (sel : List Nat) (hnd : sel.Nodup) (hσ : Kb sel σ sel σ1)
    (ha : wkA sel args args1) (hb : C8 σ2 = true) {r : AV} {σ' : Ab} (hr : AbE sel σ.length r1 = r) (hs : O1 σ sel (σ2.map (Ahd sel σ.length)) = σ') : ∀ F, Wv (B.env F) f args σ r σ' := by
  subst hr hs
  exact AcO hcon sel hnd hσ ha hb
def Af0 (N : Nat) : AV → AV → Prop
  | .sl true [], .bs true id 0 0 0 => id = N
  | x, y => x = y
def Ym (N : Nat) : List AV → List AV → Prop
  | [], [] => True
  | x :: xs, y :: ys => Af0 N x y ∧ Ym N xs ys
  | _, _ => False
def Aiz (N : Nat) : AV → AV → Prop
  | .agg xs, .agg ys => Ym N xs ys
  | x, y => Af0 N x y
def AnA (N : Nat) : List AV → List AV → Prop
  | [], [] => True
  | x :: xs, y :: ys => Aiz N x y ∧ AnA N xs ys
  | _, _ => False
theorem Xp {N : Nat} : ∀ {xs ys : List AV}, Ym N xs ys → xs.length = ys.length ∧ ∀ (i : Nat) (y : AV), ys[i]? = some y → ∃ x, xs[i]? = some x ∧ Af0 N x y
  | [], [], _ => ⟨rfl, fun i y h => by simp at h⟩
  | x :: xs, y :: ys, h => by
    obtain ⟨h1, h2⟩ := Xp h.2
    refine ⟨by simp [h1], fun i z hz => ?_⟩
    cases i with
    | zero => simp at hz; subst hz; exact ⟨x, rfl, h.1⟩
    | succ i => simpa using h2 i z (by simpa using hz)
theorem Abv {w : World} {g : Gh} {pr pr' : Addr → Prop} (hp : ∀ a, pr a → pr' a) (k : Nat) {v : Value} {x y : AV} (h : Rep w pr g v x) (hn : Af0 g.length x y) : Rep w pr' (g ++ [⟨none, 0, k, 0, 0, false, false⟩]) v y := by
  have same : x = y → Rep w pr' (g ++ [⟨none, 0, k, 0, 0, false, false⟩]) v y := fun e => by
    subst e; exact h.mono (fun a u hc hpr => ⟨hc, hp a hpr⟩) (GLe.append _ _)
  unfold Af0 at hn
  split at hn
  · subst hn; exact K9 h k
  · exact same hn
theorem Agf {w : World} {g : Gh} {pr pr' : Addr → Prop} (hp : ∀ a, pr a → pr' a) (k : Nat) {v : Value} {x y : AV} (h : Rep w pr g v x) (hn : Aiz g.length x y) : Rep w pr' (g ++ [⟨none, 0, k, 0, 0, false, false⟩]) v y := by
  unfold Aiz at hn
  split at hn
  · obtain ⟨h1, h2⟩ := Xp hn
    cases h with
    | agg _ vs _ hs' ho hr =>
      refine .agg _ vs _ (by omega) (fun i y hy => ?_) (fun i y hy => ?_)
      · obtain ⟨x, hx, _⟩ := h2 i y hy; exact ho i x hx
      · obtain ⟨x, hx, hxy⟩ := h2 i y hy; exact Abv hp k (hr i x hx) hxy
  · exact Abv hp k h hn
theorem Uc {w : World} {g : Gh} {pr pr' : Addr → Prop} (hp : ∀ a, pr a → pr' a) (k : Nat) : ∀ {vs : List Value} {xs ys : List AV}, Cm w pr g vs xs → AnA g.length xs ys → Cm w pr' (g ++ [⟨none, 0, k, 0, 0, false, false⟩]) vs ys
  | [], [], [], _, _ => trivial
  | [], [], _ :: _, _, h => h.elim
  | _ :: _, _ :: _, [], _, h => h.elim
  | _ :: _, _ :: _, _ :: _, h, k' => ⟨Agf hp k h.1 k'.1, Uc hp k h.2 k'.2⟩
theorem Ahv {B : Base} {f : FuncId} {args args' : List AV} {σ : Ab} {r : AV} {σ' : Ab} (k : Nat) (hn : AnA σ.length args args') (h : ∀ F, Wv (B.env F) f args' (σ ++ [.buf k [] false]) r σ') : ∀ F, Wv (B.env F) f args σ r σ' := by
  intro F
  have h2 := h F
  refine fun w g vs hm har => ?_
  obtain ⟨m1, m2, m3⟩ := Ey hm k
  refine (h2 w _ vs m1 (Uc m2 k har (by rw [hm.len]; exact hn))).mono ?_
  rintro e w' ⟨v, g', e1, e2, e3, e4, e5⟩
  exact ⟨v, g', e1, e2, (GLe.append _ _).trans e3, (Ku hm 0 k).trans e4, e5⟩
def wk2 (sel : List Nat) : AV → AV → Prop
  | .tup xs, .tup ys => wkA sel xs ys
  | x, y => wk1 sel x y
def Aj3 (sel : List Nat) (r0 : AV) : Option (List AV) → Prop
  | some xs => wk2 sel (Hq xs) r0
  | none => False
def AmC (E : Env) (n : Nat) (rs : List ResultVar) (r0 : AV) (σ0 : Ab) : Dx := fun ex st => (ex = .normal ∨ ex = .ret) ∧ ∃ sel, Aj3 sel r0 (Eh E st.σ st.fr rs) ∧ sel.Nodup ∧ sel.take n = List.range n ∧ Kb sel st.σ sel σ0
theorem Aia {E : Env} {n N : Nat} {l : Fr} {σ σ0 : Ab} {rs : List ResultVar} {r0 : AV} {ex : Exit} (hex : ex = .normal ∨ ex = .ret) (sel : List Nat) (hnd : sel.Nodup) (hn : sel.take n = List.range n) (h : Aj3 sel r0 (Abf E N l σ rs)) (hσ : Kb sel σ sel σ0) : AmC E n rs r0 σ0 ex ⟨Am N l, σ⟩ :=
  ⟨hex, sel, by rw [Mv]; exact h, hnd, hn, hσ⟩
theorem AdA {sel : List Nat} : ∀ {xs ys : List AV}, wkA sel xs ys → xs.length = ys.length ∧ ∀ (i : Nat) (y : AV), ys[i]? = some y → ∃ x, xs[i]? = some x ∧ wk1 sel x y
  | [], [], _ => ⟨rfl, fun i y h => by simp at h⟩
  | x :: xs, y :: ys, h => by
    obtain ⟨h1, h2⟩ := AdA h.2
    refine ⟨by simp [h1], fun i z hz => ?_⟩
    cases i with
    | zero => simp at hz; subst hz; exact ⟨x, rfl, h.1⟩
    | succ i => simpa using h2 i z (by simpa using hz)
theorem Aey {w : World} {g : Gh} {sel : List Nat} {pr pr' : Addr → Prop} (hp : ∀ a, pr a → pr' a) (hs : ∀ i ∈ sel, i < g.length) {v : Value} {x y : AV} (h : Rep w pr g v x) (hw : wk2 sel x y) : Rep w pr' (Dl sel g) v y := by
  unfold wk2 at hw
  split at hw
  · obtain ⟨h1, h2⟩ := AdA hw
    cases h with
    | tup _ vs _ hs' hr =>
      refine .tup _ vs _ (by omega) (fun i y hy => ?_)
      obtain ⟨x, hx, hxy⟩ := h2 i y hy; exact Vx hp hs (hr i x hx) hxy
  · exact Vx hp hs h hw
theorem Qs {E : Env} {w : World} {g : Gh} {σ σ' : Ab} {n : Nat} (hm : Mem E w g σ) (sel : List Nat) (hnd : sel.Nodup) (hn : sel.take n = List.range n) (hσ : Kb sel σ sel σ') :
    (∀ i ∈ sel, i < g.length) ∧ Mem E w (Dl sel g) σ' ∧ Evo E n w g w (Dl sel g) ∧ ∀ a, A2 E g a → A2 E (Dl sel g) a := by
  have hw := Abu (E := E) (n := n) (N := 0) (l := []) (l' := []) sel hnd hn hσ trivial
  obtain ⟨hl, hget⟩ := Ns hσ
  have hlen : g.length = σ.length := hm.len
  have hs : ∀ i ∈ sel, i < g.length := by
    intro i hi
    obtain ⟨id, hid, rfl⟩ := List.getElem_of_mem hi
    obtain ⟨i', b, h1, h2, _⟩ := hget id (σ'[id]'(by omega)) (List.getElem?_eq_getElem _)
    rw [List.getElem?_eq_getElem hid] at h1
    cases h1
    rw [hlen]
    exact (List.getElem?_eq_some_iff.1 h2).1
  refine ⟨hs, ⟨by simp [Dl, hl], ?_, ?_, fun a ha => ⟨(hm.foreign a ha).1, fun hh => (hm.foreign a ha).2 (D9 hs hh)⟩, ?_, hm.maps, fun i vs h => ⟨fun hh => (hm.whole i vs h).1 (D9 hs hh), (hm.whole i vs h).2⟩⟩, ?_, fun a => G5 hs⟩
  · intro id b ab' h1 h2
    obtain ⟨i, ab, e1, e2, e3⟩ := hget id ab' h2
    obtain ⟨i', f1, f2⟩ := (A5 hs).1 h1
    rw [e1] at f1
    cases f1
    have hk := hm.blk i b ab f2 e2
    cases ab with
    | box cs ro =>
      cases ab' with
      | buf => exact e3.elim
      | obj => exact e3.elim
      | tb => exact e3.elim
      | box cs' ro' =>
        obtain ⟨rfl, e4⟩ := e3
        obtain ⟨e5, e6⟩ := Kp e4
        obtain ⟨k1, k2, k3, k4, k5, β, arr, t, fz, k6, k7, k8, k9, k10⟩ := hk
        refine ⟨k1, k2, k3, by omega, k5, β, arr, t, fz, k6, k7, by omega, k9, fun j y hj => ?_⟩
        obtain ⟨x, hx, hxy⟩ := e6 j y hj
        exact ⟨Rt hs (k10 j x hx).1 hxy, (k10 j x hx).2⟩
    | buf k els ro =>
      cases ab' with
      | box => exact e3.elim
      | obj => exact e3.elim
      | tb => exact e3.elim
      | buf k' els' ro' =>
        obtain ⟨rfl, rfl, rfl, e4⟩ := e3
        obtain ⟨k1, k2, k3, k4, k5, k6, k7⟩ := hk
        refine ⟨k1, k2, k3, k4, k5, k6, fun β hβ => ?_⟩
        obtain ⟨arr, t, fz, g1, g2, g3, g4, g5⟩ := k7 β hβ
        refine ⟨arr, t, fz, g1, g2, g3, g4, fun i cs j x hi hj => ⟨?_, (g5 i cs j x hi hj).2⟩⟩
        have hcl : x.closed = true := List.all_eq_true.1 (List.all_eq_true.1 e4 cs (List.mem_of_getElem? hi)) x (List.mem_of_getElem? hj)
        exact (Cq (g5 i cs j x hi hj).1 hcl).mono (fun a u hc hp => ⟨hc, G5 hs hp⟩) (GLe.nil _)
    | obj o =>
      cases ab' with
      | box => exact e3.elim
      | buf => exact e3.elim
      | tb => exact e3.elim
      | obj o' =>
        obtain rfl : o = o' := e3
        exact hk
    | tb T l =>
      cases ab' with
      | box => exact e3.elim
      | buf => exact e3.elim
      | obj => exact e3.elim
      | tb T' l' =>
        obtain ⟨rfl, rfl⟩ := e3
        exact Abn hk
  · intro id id' b b' β h1 h2 e1 e2
    obtain ⟨i, f1, f2⟩ := (A5 hs).1 h1
    obtain ⟨i', f1', f2'⟩ := (A5 hs).1 h2
    have := hm.inj i i' b b' β f2 f2' e1 e2
    subst this
    obtain ⟨l1, q1⟩ := List.getElem?_eq_some_iff.1 f1
    obtain ⟨l2, q2⟩ := List.getElem?_eq_some_iff.1 f1'
    exact Nn hnd l1 l2 (q1.trans q2.symm)
  · intro i cs hG
    obtain ⟨q1, q2, q3, c, q4⟩ := hm.glob i cs hG
    exact ⟨q1, fun hh => q2 (D9 hs hh), q3, c, fun j x hj => ⟨(q4 j x hj).1, (q4 j x hj).2.1.mono (fun a u hc hp => ⟨hc, G5 hs hp⟩) (GLe.nil _), (q4 j x hj).2.2⟩⟩
  · refine ⟨rfl, rfl, rfl, Nat.le_refl _, fun a u hc hp => ⟨hc, G5 hs hp⟩, fun β _ hn' => ⟨rfl, fun hh => hn' (D9 hs hh)⟩, fun id hid b hb => ⟨b, (A5 hs).2 ⟨id, ?_, hb⟩, GB.step.refl b⟩⟩
    have : (sel.take n)[id]? = some id := by rw [hn, List.getElem?_range hid]
    rw [List.getElem?_take, if_pos hid] at this
    exact this
theorem O4 {B : Base} {f : FuncId} {fn : Func} {c : Code} {args : List AV} {σ σ0 : Ab} {r0 : AV} {rs : List ResultVar} {N : Nat} (n : Nat) (hn0 : σ.length = n) (hB : B.Ok) (hf : B.P.funcs[f]? = some fn) (hb : fn.body = some c) (hn : (fn.name == "runtime.NumGoroutine") = false) (hN : fn.ntmps = N) (hrs : fn.results.toList = rs)
    (hlen : args.length ≤ N) (h : ∀ F, Run (B.env F) n c ⟨Am N (S2 0 args), σ⟩ (AmC (B.env F) n rs r0 σ0)) : Con B f args σ (fun r' σ' => r' = r0 ∧ σ' = σ0) := by
  subst hn0
  have h0 : Con B f args σ (fun r σ' => ∃ sel : List Nat, wk2 sel r r0 ∧ sel.Nodup ∧ sel.take σ.length = List.range σ.length ∧ Kb sel σ' sel σ0) := by
    refine Ab0 hB hf hb hn (fun F => ?_)
    subst hN hrs
    rw [Hd fn.ntmps args hlen (S2 0 args) (fun t _ => Hz args 0 t (Nat.zero_le _))]
    refine G9 (h F) ?_
    rintro ex st ⟨h1, sel, h2, h3, h4, h5⟩
    unfold Aj3 at h2
    split at h2
    · rename_i xs hxs; exact ⟨h1, xs, hxs, sel, h2, h3, h4, h5⟩
    · exact h2.elim
  refine ⟨fun F w g vs hm ha => (h0.call F w g vs hm ha).mono ?_⟩
  rintro e w' ⟨v, r, σ', g', h1, ⟨sel, k1, k2, k3, k4⟩, h3, h4, h5⟩
  obtain ⟨s1, s2, s3, s4⟩ := Qs h3 sel k2 k3 k4
  exact ⟨v, r0, σ0, Dl sel g', h1, ⟨rfl, rfl⟩, s2, h4.trans s3, Aey s4 s1 h5 k1⟩
theorem Qd {N : Nat} {x : AV} : Af0 N x x = True := by
  unfold Af0
  split <;> first | (exfalso; simp_all; done) | simp
theorem AbJ {N : Nat} : Af0 N (.sl true []) (.bs true N 0 0 0) = True := by simp [Af0]
theorem AgQ {N : Nat} : Aiz N (.sl true []) (.bs true N 0 0 0) = True := AbJ
theorem T6 {N : Nat} : ∀ {l : List AV}, Ym N l l = True
  | [] => by simp [Ym]
  | x :: l => by simp [Ym, Qd, T6 (l := l)]
theorem AeX {N : Nat} {x : AV} : Aiz N x x = True := by
  cases x <;> unfold Aiz <;> first | exact Qd | exact T6
theorem AfT {N : Nat} {xs ys : List AV} : Aiz N (.agg xs) (.agg ys) = Ym N xs ys := rfl
section
variable {sel : List Nat} {N : Nat}
theorem AbO (x : Int) : Tf sel N (i64 x : AV) = (i64 x : AV) := by
  show (match (i64 x : AV).closed with | true => (i64 x : AV) | false => .junk) = _
  rw [closed_i64]
theorem Ahq (x : Int) : AcV sel N (i64 x : AV) = (i64 x : AV) := AbO (sel := sel) (N := N) x
theorem AeH (x : UInt8) : Tf sel N (u8 x : AV) = (u8 x : AV) := by
  show (match (u8 x : AV).closed with | true => (u8 x : AV) | false => .junk) = _
  rw [closed_u8]
theorem Ajh (x : UInt8) : AbE sel N (u8 x : AV) = (u8 x : AV) := AeH (sel := sel) (N := N) x
theorem Yi (b : Bool) : Tf sel N (.bool b : AV) = (.bool b : AV) := by
  show (match (.bool b : AV).closed with | true => (.bool b : AV) | false => .junk) = _
  rw [closed_bool]
theorem Aeb (b : Bool) : AbE sel N (.bool b : AV) = (.bool b : AV) := Yi (sel := sel) (N := N) b
theorem AgW (s : List UInt8) : Tf sel N (.str s : AV) = (.str s : AV) := by
  show (match (.str s : AV).closed with | true => (.str s : AV) | false => .junk) = _
  rw [closed_str]
theorem Ah8 (f : Bool) (els : List (List AV)) : Tf sel N (.sl f els : AV) = (.sl f els : AV) := by
  show (match (.sl f els : AV).closed with | true => (.sl f els : AV) | false => .junk) = _
  rw [closed_sl]
theorem AjS (f : Bool) (id t o l : Nat) : Tf sel N (.bs f id t o l) = .bs f (Iz sel N id) t o l := rfl
theorem Ahu (id o : Nat) : Tf sel N (.ref id o) = .ref (Iz sel N id) o := rfl
theorem Aem (id : Nat) : Tf sel N (.mref id) = .mref (Iz sel N id) := rfl
theorem AdU (id : Nat) : Tf sel N (.nref id) = .nref (Iz sel N id) := rfl
theorem AdP (id : Nat) : AcV sel N (.mref id) = .mref (Iz sel N id) := rfl
theorem AdB (id : Nat) : AcV sel N (.nref id) = .nref (Iz sel N id) := rfl
theorem AfK (id t : Nat) : Tf sel N (.tref id t) = .tref (Iz sel N id) t := rfl
theorem Ad5 (id t : Nat) : AcV sel N (.tref id t) = .tref (Iz sel N id) t := rfl
theorem AeB (id t : Nat) : AbE sel N (.tref id t) = .tref (Iz sel N id) t := rfl
theorem AdX (id t i j : Nat) : Tf sel N (.eref id t i j) = .eref (Iz sel N id) t i j := rfl
theorem Ai3 (f : Bool) (id t o l : Nat) : AcV sel N (.bs f id t o l) = .bs f (Iz sel N id) t o l := rfl
theorem AfS (id o : Nat) : AcV sel N (.ref id o) = .ref (Iz sel N id) o := rfl
theorem AfD (id t i j : Nat) : AcV sel N (.eref id t i j) = .eref (Iz sel N id) t i j := rfl
theorem Aiw (f : Bool) (id t o l : Nat) : AbE sel N (.bs f id t o l) = .bs f (Iz sel N id) t o l := rfl
theorem AfP (id o : Nat) : AbE sel N (.ref id o) = .ref (Iz sel N id) o := rfl
theorem AeZ (id t i j : Nat) : AbE sel N (.eref id t i j) = .eref (Iz sel N id) t i j := rfl
theorem Agg (xs : List AV) : AcV sel N (.agg xs) = .agg (xs.map (Tf sel N)) := rfl
theorem Agj (xs : List AV) : AbE sel N (.agg xs) = .agg (xs.map (Tf sel N)) := rfl
theorem AgM (xs : List AV) : AbE sel N (.tup xs) = .tup (xs.map (AcV sel N)) := rfl
end
attribute [go_sem] Aj3 wk2 wkA AnA Qd AbJ AgQ AeX AfT Ym Aem AdP AdU AdB AfK Ad5 AeB AbO Ahq AeH Ajh Yi Aeb AgW Ah8 AjS Ahu AdX Ai3 AfS AfD Aiw AfP AeZ Agg Agj AgM Ahd Iz O1 C8 List.getD_cons_zero List.getD_cons_succ
end Go.Rv
