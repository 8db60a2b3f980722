/-
  Part 35.
-/
import Derived.Test.YtnfoiocigicdnaaGreatDoorYF34
namespace Go.Rv
set_option linter.unusedVariables false
set_option linter.unusedSimpArgs false
variable {E : Env} {σ : Ad}
theorem Xo {t : TypeId} {v : Value} {k : AV} {ok : Bool} : Fi E σ t (.val v) k ok = S8 E t (.val v) k ok := rfl
def AlN (l0 l1 : List UInt8) : Array MapEntry := (#[].push { key := avV (.bool false), val := avV (.str l0), born := 0 }).push { key := avV (.bool true), val := avV (.str l1), born := 1 }
theorem Ahw : Ii .bool (avV (.bool false)) #[] = true := rfl
theorem Ag9 (l : List UInt8) : Ii .bool (avV (.bool true)) (#[].push { key := avV (.bool false), val := avV (.str l), born := 0 }) = true := by
  simp [Ii, Instr.findNow, Instr.sameNow, avV]
theorem Akv (l0 l1 : List UInt8) : Hq .bool false (AlN l0 l1) = some l0 := by
  simp [Hq, AlN, Instr.findNow, Instr.sameNow, avV]
theorem Akx (l0 l1 : List UInt8) : Hq .bool true (AlN l0 l1) = some l1 := by
  simp [Hq, AlN, Instr.findNow, Instr.sameNow, avV]
theorem Vz : bytesOf [] = some [] := rfl
attribute [go_sem] Vz Option.map_some
attribute [go_sem] Xo
variable {E : Env} {σ : Ad}
theorem Aab {V : Type} {n : Nat} {A : Code} {st : St} {K : Eb} {m : Nat} (S : V → St) (J : V → Prop) (hA : Run E n A st (P7 E n S J K)) (hB : ∀ v, J v → LoopN E n A K m (S v)) : Run E n A st (unK E n A m K) := by
  refine Hm hA ?_
  intro ex st' h
  cases ex <;> first
    | (obtain ⟨v, hv, hw⟩ := h; exact Q7 hw (hB v hv))
    | exact h
def AbC (t : TypeId) : Bool → AV
  | true => .iface t .junk
  | false => .val .nilIface
theorem Aai {op : BinOp} {T t : TypeId} {b : Bool} : Kh E op T (AbC t b) = goB (L5 E T) (eqB op (!b)) none := by
  cases b <;> simp only [AbC, Kh] <;> cases L5 E T <;> rfl
theorem AgL {b : Bool} : eqB .neq b = some (.bool !b) := rfl
theorem AgK {b : Bool} : eqB .eql b = some (.bool b) := rfl
theorem Aka {t : TypeId} {b : Bool} : (AbC t b).flatAgg = false := by cases b <;> rfl
def erA (t : TypeId) (c : Int) : AV := if c = 0 then .val .nilIface else .iface t (i64 c)
theorem Amj {t : TypeId} : erA t 0 = .val .nilIface := rfl
theorem Ak1 {t : TypeId} : erA t 1 = .iface t (i64 1) := rfl
theorem AlB {t : TypeId} : erA t 2 = .iface t (i64 2) := rfl
theorem Amr {t : TypeId} : erA t 3 = .iface t (i64 3) := rfl
theorem Ank {t : TypeId} : erA t 4 = .iface t (i64 4) := rfl
theorem Al0 {l : List UInt8} : (Ait .bool (.bool false) = true ∧ Fu (.str l) = true ∧ Ii .bool (avV (.bool false)) #[] = true) = True := eq_true ⟨rfl, rfl, Ahw⟩
theorem AnG {l l0 : List UInt8} : (Ait .bool (.bool true) = true ∧ Fu (.str l) = true ∧ Ii .bool (avV (.bool true)) (#[].push { key := avV (.bool false), val := avV (.str l0), born := 0 }) = true) = True := eq_true ⟨rfl, rfl, Ag9 l0⟩
theorem Ang {l0 l1 : List UInt8} : Hq .bool false ((#[].push { key := avV (.bool false), val := avV (.str l0), born := 0 }).push { key := avV (.bool true), val := avV (.str l1), born := 1 }) = some l0 := Akv l0 l1
theorem AnQ {l0 l1 : List UInt8} : Hq .bool true ((#[].push { key := avV (.bool false), val := avV (.str l0), born := 0 }).push { key := avV (.bool true), val := avV (.str l1), born := 1 }) = some l1 := Akx l0 l1
theorem AfF {t kt et a b a2 b2 : Nat} {z z2 : List AV} {d : TypeDesc} (h : E.tab t = some ⟨.map kt et, a, b, z⟩) (h2 : E.tab kt = some ⟨d, a2, b2, z2⟩) : Tj E t = some d := by
  simp only [Tj, h, h2]
theorem AfG {t a b : Nat} {z : List AV} {ms : Array (String × TypeId)} (h : E.tab t = some ⟨.interface ms, a, b, z⟩) : L5 E t = true := by
  simp only [L5, h]
theorem Ado {t a b : Nat} {z : List AV} (h : E.tab t = some ⟨.string, a, b, z⟩) : O1 E t = true := by
  simp only [O1, h]
attribute [go_sem] Aai AgL AgK Aka Amj Ak1 AlB Amr Ank Al0 AnG Ang AnQ Sa Fi
end Go.Rv
