/-
  Part 38.
-/
import Derived.Test.YtnfoiocigicdnaaGreatDoorYV37
namespace Go.Rv
open Go.RowKit
set_option linter.unusedVariables false
set_option linter.unusedSimpArgs false
variable {E : Env}
def Aok (E : Env) (orc : Option Tmp → Orc) (ops : Array Oper) (y : Oper) (fr : List AV) (a : Nat) : Prop :=
  ∀ (σ σ' : Ab) (v : AV), Ib E orc ops y fr σ = some (v, σ') → σ' = σ ∧ ∀ σ2 : Ab, σ2[a]? = σ[a]? → Ib E orc ops y fr σ2 = some (v, σ2)
def Free (E : Env) (orc : Option Tmp → Orc) (ops : Array Oper) (y : Oper) (fr : List AV) : Prop :=
  ∀ (σ σ' : Ab) (v : AV), Ib E orc ops y fr σ = some (v, σ') → σ' = σ ∧ ∀ σ2 : Ab, Ib E orc ops y fr σ2 = some (v, σ2)
theorem Ada {orc : Option Tmp → Orc} {ops : Array Oper} {o : Oper} {fr : List AV} (hf : Ky E ops o = false) (σ : Ab) : Ib E orc ops o fr σ = match Qe ops fr o with
    | some true => D3 E (orc o.dst) o.op fr σ
    | some false => some (.tup [], σ)
    | none => none := by
  have e : Jq false σ = some := by funext r; simp [Jq]
  unfold Ib
  rw [hf]
  split <;> simp_all [C7]
theorem AfX {ops : Array Oper} {o : Oper} (h1 : ∀ t n l, o.op ≠ .buildSlice t n l) (h2 : ∀ s d x, o.op ≠ .convert s d x) : Ky E ops o = false := by
  cases hf : Ky E ops o
  · rfl
  · rcases Gx hf with ⟨t, n, l, h⟩ | ⟨s, d, x, h, _⟩
    · exact (h1 _ _ _ h).elim
    · exact (h2 _ _ _ h).elim
inductive SepT (E : Env) (orc : Option Tmp → Orc) (ops : Array Oper) (x y : Oper) (st : St) : Prop
  | free (h : Free E orc ops y st.fr)
  | Gk (a : Nat) (h : Aok E orc ops y st.fr a) (hx : ∀ σ1 v, Ib E orc ops x st.fr st.σ = some (v, σ1) → σ1[a]? = st.σ[a]?)
theorem Aan {orc : Option Tmp → Orc} {ops : Array Oper} {x y : Oper} {st st1 st2 : St} (hap : x.apart ops y = true) (hc : SepT E orc ops x y st)
    (h1 : Em E orc ops x st = some st1) (h2 : Em E orc ops y st1 = some st2) : ∃ st3, Em E orc ops y st = some st3 ∧ Em E orc ops x st3 = some st2 := by
  obtain ⟨a1, a2, a3⟩ := Oper.apart_spec hap
  unfold Em at h1 h2 ⊢
  rw [Option.map_eq_some_iff] at h1 h2
  obtain ⟨⟨v, σ1⟩, hv, rfl⟩ := h1
  obtain ⟨⟨u, σ2⟩, hu, rfl⟩ := h2
  simp only at hu ⊢
  rw [Ez a1] at hu
  have fin : ∀ σ3, Ib E orc ops y st.fr st.σ = some (u, σ3) → Ib E orc ops x st.fr σ3 = some (v, σ2) →
      ∃ st3, (Ib E orc ops y st.fr st.σ).map (fun r => (⟨Bl st.fr y.dst r.1, r.2⟩ : St)) = some st3 ∧ (Ib E orc ops x st3.fr st3.σ).map (fun r => (⟨Bl st3.fr x.dst r.1, r.2⟩ : St)) = some ⟨Bl (Bl st.fr x.dst v) y.dst u, σ2⟩ := by
    intro σ3 hy hx
    refine ⟨⟨Bl st.fr y.dst u, σ3⟩, by rw [hy]; rfl, ?_⟩
    simp only
    rw [Ez a3, hx]
    simp only [Option.map_some, Kw st.fr v u a2]
  cases hc with
  | free h =>
    obtain ⟨rfl, h3⟩ := h _ _ _ hu
    exact fin _ (h3 _) hv
  | Gk a h hx =>
    obtain ⟨rfl, h3⟩ := h _ _ _ hu
    exact fin _ (h3 _ (hx _ _ hv).symm) hv
theorem M5 {orc : Option Tmp → Orc} {ops : Array Oper} {i : Nat} {y : Oper} (hi : ops[i]? = some y) {l2 : List Nat} {st' : St} : ∀ (l1 : List Nat) (st : St),
    (∀ m1 j m2, l1 = m1 ++ j :: m2 → ∀ x, ops[j]? = some x → Qk E ops x y = true ∨ x.apart ops y = true ∧ ∀ st, B9 E orc ops ((j :: m2) ++ i :: l2) st = some st' → SepT E orc ops x y st) → B9 E orc ops (l1 ++ i :: l2) st = some st' →
    ∃ st1, Em E orc ops y st = some st1 ∧ B9 E orc ops (l1 ++ l2) st1 = some st'
  | [], st, _, h => by
    simp only [List.nil_append, B9, hi] at h
    rw [Option.bind_eq_some_iff] at h
    exact h
  | j :: l1, st, hc, h0 => by
    have h := h0
    simp only [List.cons_append, B9] at h
    cases hj : ops[j]? with
    | none => simp [hj] at h
    | some x =>
      simp only [hj] at h
      rw [Option.bind_eq_some_iff] at h
      obtain ⟨s1, h1, h⟩ := h
      obtain ⟨s2, h2, h⟩ := M5 hi l1 s1 (fun m1 k m2 e => hc (j :: m1) k m2 (by rw [e]; rfl)) h
      have : ∃ st3, Em E orc ops y st = some st3 ∧ Em E orc ops x st3 = some s2 := by
        rcases hc [] j l1 rfl x hj with hcb | ⟨hap, hcy⟩
        · exact Oh hcb h1 h2
        · exact Aan hap (hcy st h0) h1 h2
      obtain ⟨s3, h3, h4⟩ := this
      refine ⟨s3, h3, ?_⟩
      simp only [List.cons_append, B9, hj, h4, Option.bind_some]
      exact h
end Go.Rv
