/-
  Part 35.
-/
import Derived.Test.YtnfoiocigicdnaaGreatDoorYF34
namespace Go.Rv
set_option linter.unusedVariables false
set_option linter.unusedSimpArgs false
variable {E : Env} {σ : Ad}
theorem Wn {t : TypeId} {v : Value} {k : AV} {ok : Bool} : Fg E σ t (.val v) k ok = Rk E t (.val v) k ok := rfl
def AlK (l0 l1 : List UInt8) : Array MapEntry := (#[].push { key := avV (.bool false), val := avV (.str l0), born := 0 }).push { key := avV (.bool true), val := avV (.str l1), born := 1 }
theorem AhZ : Ie .bool (avV (.bool false)) #[] = true := rfl
theorem Ag4 (l : List UInt8) : Ie .bool (avV (.bool true)) (#[].push { key := avV (.bool false), val := avV (.str l), born := 0 }) = true := by
  simp [Ie, Instr.findNow, Instr.sameNow, avV]
theorem Ali (l0 l1 : List UInt8) : Hq .bool false (AlK l0 l1) = some l0 := by
  simp [Hq, AlK, Instr.findNow, Instr.sameNow, avV]
theorem Ajx (l0 l1 : List UInt8) : Hq .bool true (AlK l0 l1) = some l1 := by
  simp [Hq, AlK, Instr.findNow, Instr.sameNow, avV]
theorem T6 : bytesOf [] = some [] := rfl
attribute [go_sem] T6 Option.map_some
attribute [go_sem] Wn
variable {E : Env} {σ : Ad}
theorem Aaf {V : Type} {n : Nat} {A : Code} {st : St} {K : Ed} {m : Nat} (S : V → St) (J : V → Prop) (hA : Run E n A st (Qf E n S J K)) (hB : ∀ v, J v → LoopN E n A K m (S v)) : Run E n A st (unK E n A m K) := by
  refine Hf hA ?_
  intro ex st' h
  cases ex <;> first
    | (obtain ⟨v, hv, hw⟩ := h; exact Qo hw (hB v hv))
    | exact h
def AbD (t : TypeId) : Bool → AV
  | true => .iface t .junk
  | false => .val .nilIface
theorem Abo {op : BinOp} {T t : TypeId} {b : Bool} : Ke E op T (AbD t b) = goB (Lc E T) (eqB op (!b)) none := by
  cases b <;> simp only [AbD, Ke] <;> cases Lc E T <;> rfl
theorem AgU {b : Bool} : eqB .neq b = some (.bool !b) := rfl
theorem AgM {b : Bool} : eqB .eql b = some (.bool b) := rfl
theorem Ai3 {t : TypeId} {b : Bool} : (AbD t b).flatAgg = false := by cases b <;> rfl
def erA (t : TypeId) (c : Int) : AV := if c = 0 then .val .nilIface else .iface t (i64 c)
theorem Amn {t : TypeId} : erA t 0 = .val .nilIface := rfl
theorem Aj9 {t : TypeId} : erA t 1 = .iface t (i64 1) := rfl
theorem Aly {t : TypeId} : erA t 2 = .iface t (i64 2) := rfl
theorem Al6 {t : TypeId} : erA t 3 = .iface t (i64 3) := rfl
theorem An4 {t : TypeId} : erA t 4 = .iface t (i64 4) := rfl
theorem Ano {l : List UInt8} : (Aip .bool (.bool false) = true ∧ Fs (.str l) = true ∧ Ie .bool (avV (.bool false)) #[] = true) = True := eq_true ⟨rfl, rfl, AhZ⟩
theorem AmZ {l l0 : List UInt8} : (Aip .bool (.bool true) = true ∧ Fs (.str l) = true ∧ Ie .bool (avV (.bool true)) (#[].push { key := avV (.bool false), val := avV (.str l0), born := 0 }) = true) = True := eq_true ⟨rfl, rfl, Ag4 l0⟩
theorem AnO {l0 l1 : List UInt8} : Hq .bool false ((#[].push { key := avV (.bool false), val := avV (.str l0), born := 0 }).push { key := avV (.bool true), val := avV (.str l1), born := 1 }) = some l0 := Ali l0 l1
theorem AlV {l0 l1 : List UInt8} : Hq .bool true ((#[].push { key := avV (.bool false), val := avV (.str l0), born := 0 }).push { key := avV (.bool true), val := avV (.str l1), born := 1 }) = some l1 := Ajx l0 l1
theorem AeN {t kt et a b a2 b2 : Nat} {z z2 : List AV} {d : TypeDesc} (h : E.tab t = some ⟨.map kt et, a, b, z⟩) (h2 : E.tab kt = some ⟨d, a2, b2, z2⟩) : Sm E t = some d := by
  simp only [Sm, h, h2]
theorem Afn {t a b : Nat} {z : List AV} {ms : Array (String × TypeId)} (h : E.tab t = some ⟨.interface ms, a, b, z⟩) : Lc E t = true := by
  simp only [Lc, h]
theorem Acf {t a b : Nat} {z : List AV} (h : E.tab t = some ⟨.string, a, b, z⟩) : Og E t = true := by
  simp only [Og, h]
attribute [go_sem] Abo AgU AgM Ai3 Amn Aj9 Aly Al6 An4 Ano AmZ AnO AlV Rj Fg
end Go.Rv
