/-
  Part 36.
-/
import Derived.Test.YtnfoiocigicdnaaGreatDoorYV35
import Derived.Lib.SliceRun
namespace Go.Rv
open Go.RowKit
set_option linter.unusedVariables false
set_option linter.unusedSimpArgs false
variable {E : Env}
def unK (E : Env) (n : Nat) (c : Code) (m : Nat) (K : Dx) : Dx := fun ex st' => match ex with
  | .normal => LoopN E n c K m st'
  | ex => K ex st'
theorem Ahy {n : Nat} {c : Code} {K : Dx} {m : Nat} {st : St} (h : Run E n c st (unK E n c m K)) : LoopN E n c K (m + 1) st :=
  G9 h fun ex st' hk => by cases ex <;> exact hk
theorem Ts {n : Nat} {c : Code} {K : Dx} {m : Nat} {st st' : St} (hw : Weak E n st st') (h : LoopN E n c K m st') : LoopN E n c K m st := by
  cases m with
  | zero => exact h
  | succ m => exact Fp hw h
theorem AfV {n : Nat} {c : Code} {K : Dx} {m : Nat} : Xi E n (unK E n c m K) := fun st st' h k => Ts h k
def wkP (E : Env) (n : Nat) (K : Dx) : Dx := fun ex st => ∃ st', Weak E n st st' ∧ K ex st'
theorem Abx {n : Nat} {K : Dx} {ex : Exit} {st st' : St} (h : Weak E n st st') (k : K ex st') : wkP E n K ex st := ⟨st', h, k⟩
theorem Js {n : Nat} {c : Code} {st : St} {K : Dx} (h : Run E n c st (wkP E n K)) : Run E n c st K := by
  intro a w g hr Q hq
  refine h a w g hr Q ?_
  rintro ex st' a' w' g' ⟨st2, hw, hk⟩ hr' he
  obtain ⟨g2, hr2, he2⟩ := hw a' w' g' hr'
  exact hq ex st2 a' w' g2 hk hr2 (he.trans he2)
theorem AbI {n : Nat} {K : Dx} : Xi E n (wkP E n K) := fun st st' h ⟨st2, h2, k⟩ => ⟨st2, h.trans h2, k⟩
theorem K4 {n N : Nat} {l : Fr} {σ : Ab} (bid j : Nat) {cs : List AV} {bro : Bool} {full : Bool} {id tot off len k : Nat} {els : List (List AV)} {ro : Bool} (hB : σ[bid]? = some (.box cs bro)) (h : cs[j]? = some (.bs full id tot off len))
    (hσ : σ[id]? = some (.buf k els ro)) (ht : els.length = tot) (hc : Cp els = true) : Weak E n ⟨Am N l, σ⟩ ⟨Am N l, (Dh σ id).set bid (.box (cs.set j (.sl false ((els.drop off).take len))) bro)⟩ := by
  refine Hi fun a w g hr => ?_
  obtain ⟨g', hr', he, hs, hp⟩ := Ac0 hr n [id]
  have hne : bid ≠ id := fun e => by subst e; rw [hB] at hσ; cases hσ
  have hbm : (J9 σ [id])[bid]? = some (.box cs bro) := by
    show (Dh σ id)[bid]? = _
    rw [Es, if_neg (fun e => hne e)]
    exact hB
  have hbl : bid < (Dh σ id).length := (List.getElem?_eq_some_iff.1 hbm).1
  refine ⟨g', ⟨hr'.size, hr'.slot, ?_, hr'.defers⟩, he⟩
  have hm := hr'.mem
  refine ⟨by rw [List.length_set]; exact hm.len, ?_, hm.inj, hm.foreign, hm.glob, hm.maps, hm.whole⟩
  intro id' b ab h1 h2
  by_cases e : id' = bid
  · subst e
    rw [List.getElem?_set_self hbl] at h2
    cases h2
    obtain ⟨k1, k2, k3, k4, k5, β, arr, t, fz, k6, k7, k8, k9, k10⟩ := hm.blk id' b (.box cs bro) h1 hbm
    refine ⟨k1, k2, k3, by simpa using k4, k5, β, arr, t, fz, k6, k7, by simpa using k8, k9, fun j' x hj => ?_⟩
    rw [List.getElem?_set] at hj
    by_cases e2 : j = j'
    · subst e2
      rw [if_pos rfl] at hj
      split at hj
      case isFalse => cases hj
      cases hj
      refine ⟨?_, (k10 j _ h).2⟩
      obtain ⟨b0, hb0⟩ : ∃ b0, g[id']? = some b0 := by
        have : id' < g.length := by rw [hr.mem.len]; exact (List.getElem?_eq_some_iff.1 hB).1
        exact ⟨_, List.getElem?_eq_getElem this⟩
      obtain ⟨_, _, _, _, _, β0, arr0, t0, fz0, k60, k70, _, _, k100⟩ := hr.mem.blk id' b0 (.box cs bro) hb0 hB
      obtain ⟨b1, hb1, t1, t2, t3, t4, t5, t6⟩ := hs id' b0 hb0
      rw [h1] at hb1; cases hb1
      rw [t1] at k6
      rw [k60] at k6; cases k6
      rw [k7] at k70; obtain ⟨rfl, _, _⟩ := Obj.cells.inj (Option.some.inj k70)
      have hslot := (k100 j _ h).1
      have hfz : B5 σ (.bs full id tot off len) = some (.sl false ((els.drop off).take len)) := by simp [B5, hσ, ht, hc]
      refine (Lj hr.mem hslot hfz hp ?_).mono (fun a u hcc hpr => ⟨hcc, hpr⟩) (GLe.nil _)
      rintro id2 b2 ⟨full', tot', off', len', e'⟩ hb2 β2 off2 hβ2 hoff
      cases e'
      obtain ⟨b3, hb3, s1, s2, s3, s4, s5, s6⟩ := hs id b2 hb2
      have hmk : (J9 σ [id])[id]? = some (.buf k els true) := by
        show (Dh σ id)[id]? = _
        rw [Es, if_pos rfl, hσ]; rfl
      have hbro : b3.ro = true := (hr'.mem.blk id b3 _ hb3 hmk).2.1
      refine ⟨fun hF => (hr'.mem.foreign _ hF).2 ⟨id, b3, hb3, s1.trans hβ2⟩, fun id3 c hc3 he3 => ?_⟩
      have : id3 = id := hr'.mem.inj id3 id c b3 β2 hc3 hb3 he3 (s1.trans hβ2)
      subst this
      rw [hb3] at hc3; cases hc3
      exact ⟨hbro, by rw [s2, s3, s4]; exact hoff⟩
    · rw [if_neg e2] at hj
      exact k10 j' x hj
  · rw [List.getElem?_set_ne (fun e2 => e e2.symm)] at h2
    exact hm.blk id' b ab h1 h2
end Go.Rv
