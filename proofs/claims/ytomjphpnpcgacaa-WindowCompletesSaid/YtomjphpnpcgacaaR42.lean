/-
  R42: a buffer that goes on under another number; the elder number is dead.
-/
import Derived.Test.YtomjphpnpcgacaaR41
namespace Go.Rv
open Go.RowKit
set_option linter.unusedVariables false
set_option linter.unusedSimpArgs false
variable {E : Env}

/-- A block that says nothing any more. -/
def deadB (n : Nat) : ABlk := .buf 0 (List.replicate (n + 1) []) false
def deadG (n : Nat) : GB := ⟨none, 0, 0, n + 1, 0, false, false⟩
/-- What is known of the place of a buffer that has lost its first elements. -/
def restG (b : GB) (n off : Nat) : GB := ⟨b.blk, b.o + off * b.k, b.k, n - off, b.ce - off, false, false⟩
def movG (g : Gh) (id : Nat) (b : GB) (n off : Nat) : Gh := g.set id (deadG n) ++ [restG b n off]

theorem movG_get {g : Gh} {id : Nat} {b : GB} {n off : Nat} (hb : g[id]? = some b) {i : Nat} {c : GB} (h : (movG g id b n off)[i]? = some c) :
    (i = id ∧ c = deadG n) ∨ (i = g.length ∧ c = restG b n off) ∨ (i ≠ id ∧ g[i]? = some c) := by
  have hl : id < g.length := (List.getElem?_eq_some_iff.1 hb).1
  unfold movG at h
  rcases Nat.lt_or_ge i g.length with hi | hi
  · rw [List.getElem?_append_left (by simpa using hi)] at h
    by_cases e : i = id
    · subst e
      rw [List.getElem?_set_self hl] at h
      cases h
      exact .inl ⟨rfl, rfl⟩
    · rw [List.getElem?_set_ne (fun e2 => e e2.symm)] at h
      exact .inr (.inr ⟨e, h⟩)
  · rw [List.getElem?_append_right (by simpa using hi)] at h
    have h0 : i - (g.set id (deadG n)).length = 0 := by
      have := (List.getElem?_eq_some_iff.1 h).1
      simpa using this
    rw [h0] at h
    simp at h h0
    exact .inr (.inl ⟨by omega, h.symm⟩)

theorem mov_gle {g : Gh} {id : Nat} {b : GB} {n off : Nat} (hb : g[id]? = some b) (hx : b.isBox = false) (hn : b.len = n) : GLe g (movG g id b n off) := by
  intro i c hc
  have hl : id < g.length := (List.getElem?_eq_some_iff.1 hb).1
  have hi : i < g.length := (List.getElem?_eq_some_iff.1 hc).1
  unfold movG
  rw [List.getElem?_append_left (by simpa using hi)]
  by_cases e : i = id
  · subst e
    rw [hb] at hc; cases hc
    exact ⟨_, List.getElem?_set_self hl, .inr ⟨hx, rfl, by show b.len < n + 1; omega⟩⟩
  · exact ⟨c, by rw [List.getElem?_set_ne (fun e2 => e e2.symm)]; exact hc, GB.step.refl c⟩

theorem mem_mov {w : World} {g : Gh} {σ : Store} (hm : Mem E w g σ) {id k : Nat} {els : List (List AV)} (hσ : σ[id]? = some (.buf k els false)) {b : GB} (hb : g[id]? = some b) (off : Nat) (ho : off ≤ els.length) :
    Mem E w (movG g id b els.length off) (σ.set id (deadB els.length) ++ [.buf k (els.drop off) false]) ∧ (∀ a, prot E g a → prot E (movG g id b els.length off) a) ∧ (∀ β, mine (movG g id b els.length off) β → mine g β) ∧
      GLe g (movG g id b els.length off) ∧ b.isBox = false ∧ b.len = els.length ∧ b.k = k := by
  obtain ⟨k1, k2, k3, k4, k5, k6, k7⟩ := hm.blk id b _ hb hσ
  have hids : id < σ.length := (List.getElem?_eq_some_iff.1 hσ).1
  have hgle := mov_gle (off := off) hb k1 k4
  have hp : ∀ a, prot E g a → prot E (movG g id b els.length off) a := fun a h => ⟨h.1, fun i c hc hβ => by
    rcases movG_get hb hc with ⟨_, rfl⟩ | ⟨_, rfl⟩ | ⟨_, h2⟩
    · cases hβ
    · have := (h.2 id b hb hβ).1
      rw [k2] at this; cases this
    · exact h.2 i c h2 hβ⟩
  have hmine : ∀ β, mine (movG g id b els.length off) β → mine g β := by
    rintro β ⟨i, c, hc, hβ⟩
    rcases movG_get hb hc with ⟨_, rfl⟩ | ⟨_, rfl⟩ | ⟨_, h2⟩
    · cases hβ
    · exact ⟨id, b, hb, hβ⟩
    · exact ⟨i, c, h2, hβ⟩
  have hcells : ∀ a u, w.cell? a = some u → prot E g a → w.cell? a = some u ∧ prot E (movG g id b els.length off) a := fun a u hc hpr => ⟨hc, hp a hpr⟩
  refine ⟨⟨by simp [movG, hm.len], ?_, ?_, fun a ha => ⟨(hm.foreign a ha).1, fun hh => (hm.foreign a ha).2 (hmine _ hh)⟩, ?_, hm.maps, fun i vs h => ⟨fun hh => (hm.whole i vs h).1 (hmine _ hh), (hm.whole i vs h).2⟩⟩, hp, hmine, hgle, k1, k4, k3⟩
  · intro i c ab h1 h2
    rcases movG_get hb h1 with ⟨rfl, rfl⟩ | ⟨rfl, rfl⟩ | ⟨hne, h3⟩
    · rw [List.getElem?_append_left (by simpa using hids), List.getElem?_set_self hids] at h2
      cases h2
      exact ⟨rfl, rfl, rfl, by simp [deadG], fun j cs hj => by rw [(List.mem_replicate.1 (List.mem_of_getElem? hj)).2]; rfl, fun _ => ⟨.inr rfl, rfl⟩, fun β hβ => by cases hβ⟩
    · rw [List.getElem?_append_right (by simp [hm.len])] at h2
      simp [hm.len] at h2
      subst h2
      refine ⟨rfl, rfl, k3, by simp [restG], fun j cs hj => k5 (off + j) cs (by rwa [List.getElem?_drop] at hj), fun h => ?_, fun β hβ => ?_⟩
      · obtain ⟨q1, q2⟩ := k6 h
        refine ⟨?_, by show b.ce - off = 0; omega⟩
        rcases q1 with q1 | q1
        · left; rw [q1]; simp
        · exact .inr q1
      · obtain ⟨arr, t, fz, g1, g2, g3, g4, g5⟩ := k7 β hβ
        refine ⟨arr, t, fz, g1, ?_, by show (els.drop off).length ≤ b.ce - off; simp; omega, g4, fun j cs m x hj hx => ?_⟩
        · show b.o + off * b.k + (b.ce - off) * k ≤ arr.size
          rw [k3]
          have : off * k + (b.ce - off) * k = b.ce * k := by rw [← Nat.add_mul]; congr 1; omega
          omega
        · rw [List.getElem?_drop] at hj
          have := g5 (off + j) cs m x hj hx
          have e : (restG b els.length off).o + j * k + m = b.o + (off + j) * k + m := by
            show b.o + off * b.k + j * k + m = _
            rw [k3, Nat.add_mul]; omega
          rw [e]
          exact ⟨this.1.mono hcells hgle, this.2⟩
    · have hl : i < σ.length := by rw [← hm.len]; exact (List.getElem?_eq_some_iff.1 h3).1
      rw [List.getElem?_append_left (by simpa using hl), List.getElem?_set_ne (fun e => hne e.symm)] at h2
      exact (hm.blk i c ab h3 h2).mono hcells hgle (fun _ _ => rfl)
  · intro i i' c c' β h1 h2 e1 e2
    rcases movG_get hb h1 with ⟨rfl, rfl⟩ | ⟨rfl, rfl⟩ | ⟨hne, h3⟩
    · cases e1
    · rcases movG_get hb h2 with ⟨rfl, rfl⟩ | ⟨rfl, rfl⟩ | ⟨hne', h4⟩
      · cases e2
      · rfl
      · exact (hne' (hm.inj i' id c' b β h4 hb e2 e1)).elim
    · rcases movG_get hb h2 with ⟨rfl, rfl⟩ | ⟨rfl, rfl⟩ | ⟨hne', h4⟩
      · cases e2
      · exact (hne (hm.inj i id c b β h3 hb e1 e2)).elim
      · exact hm.inj i i' c c' β h3 h4 e1 e2
  · intro i cs hG
    obtain ⟨q1, q2, q3, c, q4⟩ := hm.glob i cs hG
    exact ⟨q1, fun hh => q2 (hmine _ hh), q3, c, fun j x hj => ⟨(q4 j x hj).1, (q4 j x hj).2.1.mono (fun a u hc hpr => ⟨hc, hp a hpr⟩) (GLe.nil _), (q4 j x hj).2.2⟩⟩

/-- A buffer of which nothing is wanted any more, under its number. -/
theorem weak_kill {n N : Nat} {l : Fr} {σ : Store} (id : Nat) {k : Nat} {els : List (List AV)} (hσ : σ[id]? = some (.buf k els false)) :
    Weak E n ⟨asFr N l, σ⟩ ⟨asFr N l, σ.set id (deadB els.length) ++ [.buf k (els.drop 0) false]⟩ := by
  refine weak_of_rel fun a w g hr => ?_
  have hl : id < g.length := by rw [hr.mem.len]; exact (List.getElem?_eq_some_iff.1 hσ).1
  have hb : g[id]? = some g[id] := List.getElem?_eq_getElem hl
  obtain ⟨m1, hp, hmine, hgle, hx, hn, hk⟩ := mem_mov hr.mem hσ hb 0 (Nat.zero_le _)
  refine ⟨_, ⟨hr.size, fun s x hx => (hr.slot s x hx).mono (fun a u hc hpr => ⟨hc, hp a hpr⟩) hgle, m1, hr.defers⟩, ?_⟩
  exact ⟨rfl, rfl, rfl, Nat.le_refl _, fun a u hc hpr => ⟨hc, hp a hpr⟩, fun β _ hnm => ⟨rfl, fun hh => hnm (hmine β hh)⟩, fun i _ c hc => hgle i c hc⟩

/-- A buffer in a box goes on under a new number, from some element on. -/
theorem weak_move_box {n N : Nat} {l : Fr} {σ : Store} (bid j id off : Nat) {k : Nat} {cs : List AV} {bro : Bool} {full : Bool} {len tot : Nat} {els : List (List AV)} (hB : σ[bid]? = some (.box cs bro)) (h : cs[j]? = some (.bs full id tot off len))
    (hσ : σ[id]? = some (.buf k els false)) (ht : els.length = tot) (ho : off + len = tot) :
    Weak E n ⟨asFr N l, σ⟩ ⟨asFr N l, (σ.set id (deadB els.length)).set bid (.box (cs.set j (.bs full σ.length (els.drop off).length 0 (els.drop off).length)) bro) ++ [.buf k (els.drop off) false]⟩ := by
  rw [show (els.drop off).length = len by simp; omega]
  refine weak_of_rel fun a w g hr => ?_
  subst ht
  have hl : id < g.length := by rw [hr.mem.len]; exact (List.getElem?_eq_some_iff.1 hσ).1
  have hb : g[id]? = some g[id] := List.getElem?_eq_getElem hl
  generalize g[id] = b at hb
  obtain ⟨m1, hp, hmine, hgle, hx, hn, hk⟩ := mem_mov hr.mem hσ hb off (by omega)
  have hne : bid ≠ id := fun e => by subst e; rw [hB] at hσ; cases hσ
  have hbl : bid < σ.length := (List.getElem?_eq_some_iff.1 hB).1
  have hBm : (σ.set id (deadB els.length) ++ [.buf k (els.drop off) false])[bid]? = some (.box cs bro) := by
    rw [List.getElem?_append_left (by simpa using hbl), List.getElem?_set_ne (fun e => hne e.symm)]; exact hB
  have hset : ∀ (s1 : Store) (x y : ABlk), bid < s1.length → s1.set bid x ++ [y] = (s1 ++ [y]).set bid x := fun s1 x y h => (List.set_append_left _ _ h).symm
  rw [hset _ _ _ (by simpa using hbl)]
  refine ⟨_, ⟨hr.size, fun s x hx => (hr.slot s x hx).mono (fun a u hc hpr => ⟨hc, hp a hpr⟩) hgle, ?_, hr.defers⟩, ⟨rfl, rfl, rfl, Nat.le_refl _, fun a u hc hpr => ⟨hc, hp a hpr⟩, fun β _ hnm => ⟨rfl, fun hh => hnm (hmine β hh)⟩, fun i _ c hc => hgle i c hc⟩⟩
  refine ⟨by rw [List.length_set]; exact m1.len, ?_, m1.inj, m1.foreign, m1.glob, m1.maps, m1.whole⟩
  intro i c ab h1 h2
  by_cases e : i = bid
  · subst e
    rw [set_self hBm] at h2
    cases h2
    obtain ⟨k1, k2, k3, k4, k5, β, arr, t, fz, k6, k7, k8, k9, k10⟩ := m1.blk i c (.box cs bro) h1 hBm
    refine ⟨k1, k2, k3, by simpa using k4, k5, β, arr, t, fz, k6, k7, by simpa using k8, k9, fun j' x hj => ?_⟩
    rw [List.getElem?_set] at hj
    by_cases e2 : j = j'
    · subst e2
      rw [if_pos rfl] at hj
      split at hj
      case isFalse => cases hj
      cases hj
      refine ⟨?_, (k10 j _ h).2⟩
      have hc0 : g[i]? = some c := by
        rcases movG_get hb h1 with ⟨e3, _⟩ | ⟨e3, _⟩ | ⟨_, h3⟩
        · exact (hne e3).elim
        · have h9 : g.length = σ.length := hr.mem.len
          omega
        · exact h3
      obtain ⟨_, _, _, _, _, β0, arr0, t0, fz0, k60, k70, _, _, k100⟩ := hr.mem.blk i c (.box cs bro) hc0 hB
      rw [k6] at k60; cases k60
      rw [k7] at k70; cases k70
      have hv := (k100 j _ h).1
      generalize arr.getD j undef = v at hv
      cases hv with
      | bs _ _ _ _ _ _ _ b2 hb2 hbx htot hat ho1 =>
        rw [hb] at hb2; cases hb2
        obtain ⟨a2, cap, rfl, q2, q3, q4, q5⟩ := hat hn
        refine .bs _ _ _ _ _ _ _ (restG b els.length off) ?_ rfl (by show len ≤ els.length - off; omega) (fun _ => ?_) ho1
        · unfold movG
          rw [← hr.mem.len, List.getElem?_append_right (by simp)]
          simp
        · refine ⟨a2, cap, rfl, q2, q3, by show 0 + len ≤ els.length - off; omega, ?_⟩
          rcases q5 with q5 | ⟨β2, r1, r2, r3⟩
          · exact .inl q5
          · exact .inr ⟨β2, r1, by rw [r2]; simp [restG], by show 0 + cap ≤ b.ce - off; omega⟩
    · rw [if_neg e2] at hj
      exact k10 j' x hj
  · rw [List.getElem?_set_ne (fun e2 => e e2.symm)] at h2
    exact m1.blk i c ab h1 h2

theorem elsClosed_rep (n : Nat) : elsClosed (List.replicate n []) = true := by
  unfold elsClosed
  rw [List.all_eq_true]
  intro x hx
  rw [(List.mem_replicate.1 hx).2]
  rfl
attribute [go_sem] deadB elsClosed_rep

theorem tail_len {x : Int} {n : Nat} (h : InB x n) : x.toNat + (n - x.toNat) = n := by
  unfold InB at h
  omega

theorem and64_one (x : Int) : and64 x 1 = 0 ∨ and64 x 1 = 1 := by
  unfold and64
  have h1 : (BitVec.ofInt 64 1) = 1#64 := by decide
  rw [h1]
  have h2 : (BitVec.ofInt 64 x &&& 1#64).toNat = (BitVec.ofInt 64 x).toNat % 2 := by
    rw [BitVec.toNat_and]
    exact Nat.and_one_is_mod _
  rw [h2]
  have h3 := Nat.mod_two_eq_zero_or_one (BitVec.ofInt 64 x).toNat
  rcases h3 with h3 | h3
  · rw [h3]; left; decide
  · rw [h3]; right; decide
end Go.Rv
