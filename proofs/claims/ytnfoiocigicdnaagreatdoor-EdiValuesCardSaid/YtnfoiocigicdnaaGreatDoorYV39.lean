/-
  Part 39.
-/
import Derived.Test.YtnfoiocigicdnaaGreatDoorYV38
namespace Go.Rv
set_option linter.unusedVariables false
set_option linter.unusedSimpArgs false
variable {E : Env} {σ : Ab}
theorem Aa7 {t : TypeId} {v : Value} {k : AV} {ok : Bool} : Gc E σ t (.val v) k ok = Uj E t (.val v) k ok := rfl
def Anz (l0 l1 : List UInt8) : Array MapEntry := (#[].push { key := avV (.bool false), val := avV (.str l0), born := 0 }).push { key := avV (.bool true), val := avV (.str l1), born := 1 }
theorem Ajv : Jt .bool (avV (.bool false)) #[] = true := rfl
theorem Air (l : List UInt8) : Jt .bool (avV (.bool true)) (#[].push { key := avV (.bool false), val := avV (.str l), born := 0 }) = true := by
  simp [Jt, Instr.findNow, Instr.sameNow, avV]
theorem Al4 (l0 l1 : List UInt8) : Ir .bool false (Anz l0 l1) = some l0 := by
  simp [Ir, Anz, Instr.findNow, Instr.sameNow, avV]
theorem Anp (l0 l1 : List UInt8) : Ir .bool true (Anz l0 l1) = some l1 := by
  simp [Ir, Anz, Instr.findNow, Instr.sameNow, avV]
theorem W9 : bytesOf [] = some [] := rfl
attribute [go_sem] W9 Option.map_some
attribute [go_sem] Aa7
variable {E : Env} {σ : Ab}
theorem Acs {V : Type} {n : Nat} {A : Code} {st : St} {K : Dx} {m : Nat} (S : V → St) (J : V → Prop) (hA : Run E n A st (R2 E n S J K)) (hB : ∀ v, J v → LoopN E n A K m (S v)) : Run E n A st (unK E n A m K) := by
  refine G9 hA ?_
  intro ex st' h
  cases ex <;> first
    | (obtain ⟨v, hv, hw⟩ := h; exact Ts hw (hB v hv))
    | exact h
def Adv (t : TypeId) : Bool → AV
  | true => .iface t .junk
  | false => .val .nilIface
theorem Ack {op : BinOp} {T t : TypeId} {b : Bool} : L3 E op T (Adv t b) = goB (Nl E T) (eqB op (!b)) none := by
  cases b <;> simp only [Adv, L3] <;> cases Nl E T <;> rfl
theorem Ajj {b : Bool} : eqB .neq b = some (.bool !b) := rfl
theorem Aji {b : Bool} : eqB .eql b = some (.bool b) := rfl
theorem Ams {t : TypeId} {b : Bool} : (Adv t b).flatAgg = false := by cases b <;> rfl
def erA (t : TypeId) (c : Int) : AV := if c = 0 then .val .nilIface else .iface t (i64 c)
theorem AnI {t : TypeId} : erA t 0 = .val .nilIface := rfl
theorem Ame {t : TypeId} : erA t 1 = .iface t (i64 1) := rfl
theorem Ald {t : TypeId} : erA t 2 = .iface t (i64 2) := rfl
theorem Apu {t : TypeId} : erA t 3 = .iface t (i64 3) := rfl
theorem Aoc {t : TypeId} : erA t 4 = .iface t (i64 4) := rfl
theorem AnW {l : List UInt8} : (Aj5 .bool (.bool false) = true ∧ Gq (.str l) = true ∧ Jt .bool (avV (.bool false)) #[] = true) = True := eq_true ⟨rfl, rfl, Ajv⟩
theorem Aob {l l0 : List UInt8} : (Aj5 .bool (.bool true) = true ∧ Gq (.str l) = true ∧ Jt .bool (avV (.bool true)) (#[].push { key := avV (.bool false), val := avV (.str l0), born := 0 }) = true) = True := eq_true ⟨rfl, rfl, Air l0⟩
theorem Apc {l0 l1 : List UInt8} : Ir .bool false ((#[].push { key := avV (.bool false), val := avV (.str l0), born := 0 }).push { key := avV (.bool true), val := avV (.str l1), born := 1 }) = some l0 := Al4 l0 l1
theorem Apq {l0 l1 : List UInt8} : Ir .bool true ((#[].push { key := avV (.bool false), val := avV (.str l0), born := 0 }).push { key := avV (.bool true), val := avV (.str l1), born := 1 }) = some l1 := Anp l0 l1
theorem AfU {t kt et a b a2 b2 : Nat} {z z2 : List AV} {d : TypeDesc} (h : E.tab t = some ⟨.map kt et, a, b, z⟩) (h2 : E.tab kt = some ⟨d, a2, b2, z2⟩) : Wm E t = some d := by
  simp only [Wm, h, h2]
theorem AgG {t a b : Nat} {z : List AV} {ms : Array (String × TypeId)} (h : E.tab t = some ⟨.interface ms, a, b, z⟩) : Nl E t = true := by
  simp only [Nl, h]
theorem Afh {t a b : Nat} {z : List AV} (h : E.tab t = some ⟨.string, a, b, z⟩) : Ry E t = true := by
  simp only [Ry, h]
attribute [go_sem] Ack Ajj Aji Ams AnI Ame Ald Apu Aoc AnW Aob Apc Apq Vw Gc
end Go.Rv
