/-
  Part 35.
-/
import Derived.Test.YtnfoiocigicdnaaGreatDoorYA34
namespace Go.Rv
set_option linter.unusedVariables false
set_option linter.unusedSimpArgs false
variable {E : Env} {σ : Ad}
theorem Vn {t : TypeId} {v : Value} {k : AV} {ok : Bool} : Es E σ t (.val v) k ok = S1 E t (.val v) k ok := rfl
def AjQ (l0 l1 : List UInt8) : Array MapEntry := (#[].push { key := avV (.bool false), val := avV (.str l0), born := 0 }).push { key := avV (.bool true), val := avV (.str l1), born := 1 }
theorem Af8 : H7 .bool (avV (.bool false)) #[] = true := rfl
theorem Aft (l : List UInt8) : H7 .bool (avV (.bool true)) (#[].push { key := avV (.bool false), val := avV (.str l), born := 0 }) = true := by
  simp [H7, Instr.findNow, Instr.sameNow, avV]
theorem Aih (l0 l1 : List UInt8) : Hc .bool false (AjQ l0 l1) = some l0 := by
  simp [Hc, AjQ, Instr.findNow, Instr.sameNow, avV]
theorem Ahz (l0 l1 : List UInt8) : Hc .bool true (AjQ l0 l1) = some l1 := by
  simp [Hc, AjQ, Instr.findNow, Instr.sameNow, avV]
theorem S9 : bytesOf [] = some [] := rfl
theorem Z0 (x : UInt8) (l : List (List AV)) : bytesOf ([u8 x] :: l) = (bytesOf l).map (x :: ·) := by
  show (bytesOf l).map (UInt8.ofNat ((x.toNat : Int)).toNat :: ·) = _
  rw [Int.toNat_natCast, UInt8.ofNat_toNat]
attribute [go_sem] S9 Z0 Option.map_some
attribute [go_sem] Vn
variable {E : Env} {σ : Ad}
theorem AaC {V : Type} {n : Nat} {A : Code} {st : St} {K : D4} {m : Nat} (S : V → St) (J : V → Prop) (hA : Run E n A st (Qe E n S J K)) (hB : ∀ v, J v → LoopN E n A K m (S v)) : Run E n A st (unK E n A m K) := by
  refine G4 hA ?_
  intro ex st' h
  cases ex <;> first
    | (obtain ⟨v, hv, hw⟩ := h; exact Qn hw (hB v hv))
    | exact h
def Aa0 (t : TypeId) : Bool → AV
  | true => .iface t .junk
  | false => .val .nilIface
theorem AaN {op : BinOp} {T t : TypeId} {b : Bool} : Kb E op T (Aa0 t b) = goB (K5 E T) (eqB op (!b)) none := by
  cases b <;> simp only [Aa0, Kb] <;> cases K5 E T <;> rfl
theorem Ae8 {b : Bool} : eqB .neq b = some (.bool !b) := rfl
theorem AfK {b : Bool} : eqB .eql b = some (.bool b) := rfl
theorem Ait {t : TypeId} {b : Bool} : (Aa0 t b).flatAgg = false := by cases b <;> rfl
def erA (t : TypeId) (c : Int) : AV := if c = 0 then .val .nilIface else .iface t (i64 c)
theorem Akl {t : TypeId} : erA t 0 = .val .nilIface := rfl
theorem AiV {t : TypeId} : erA t 1 = .iface t (i64 1) := rfl
theorem AiO {t : TypeId} : erA t 2 = .iface t (i64 2) := rfl
theorem Alm {t : TypeId} : erA t 3 = .iface t (i64 3) := rfl
theorem All {t : TypeId} : erA t 4 = .iface t (i64 4) := rfl
theorem AkL {l : List UInt8} : (Agz .bool (.bool false) = true ∧ Fd (.str l) = true ∧ H7 .bool (avV (.bool false)) #[] = true) = True := eq_true ⟨rfl, rfl, Af8⟩
theorem AjS {l l0 : List UInt8} : (Agz .bool (.bool true) = true ∧ Fd (.str l) = true ∧ H7 .bool (avV (.bool true)) (#[].push { key := avV (.bool false), val := avV (.str l0), born := 0 }) = true) = True := eq_true ⟨rfl, rfl, Aft l0⟩
theorem Alu {l0 l1 : List UInt8} : Hc .bool false ((#[].push { key := avV (.bool false), val := avV (.str l0), born := 0 }).push { key := avV (.bool true), val := avV (.str l1), born := 1 }) = some l0 := Aih l0 l1
theorem Aj0 {l0 l1 : List UInt8} : Hc .bool true ((#[].push { key := avV (.bool false), val := avV (.str l0), born := 0 }).push { key := avV (.bool true), val := avV (.str l1), born := 1 }) = some l1 := Ahz l0 l1
theorem AcY {t kt et a b a2 b2 : Nat} {z z2 : List AV} {d : TypeDesc} (h : E.tab t = some ⟨.map kt et, a, b, z⟩) (h2 : E.tab kt = some ⟨d, a2, b2, z2⟩) : Sl E t = some d := by
  simp only [Sl, h, h2]
theorem Ad2 {t a b : Nat} {z : List AV} {ms : Array (String × TypeId)} (h : E.tab t = some ⟨.interface ms, a, b, z⟩) : K5 E t = true := by
  simp only [K5, h]
theorem AbD {t a b : Nat} {z : List AV} (h : E.tab t = some ⟨.string, a, b, z⟩) : N5 E t = true := by
  simp only [N5, h]
attribute [go_sem] AaN Ae8 AfK Ait Akl AiV AiO Alm All AkL AjS Alu Aj0 Q2 Es
end Go.Rv
