/-
  Part 35.
-/
import Derived.Test.YtnfoiocigicdnaaGreatDoorYB34
namespace Go.Rv
set_option linter.unusedVariables false
set_option linter.unusedSimpArgs false
variable {E : Env} {σ : Ad}
theorem Aap {t : TypeId} {v : Value} {k : AV} {ok : Bool} : Gq E σ t (.val v) k ok = Tv E t (.val v) k ok := rfl
def Am1 (l0 l1 : List UInt8) : Array MapEntry := (#[].push { key := avV (.bool false), val := avV (.str l0), born := 0 }).push { key := avV (.bool true), val := avV (.str l1), born := 1 }
theorem Aib : Jh .bool (avV (.bool false)) #[] = true := rfl
theorem Ajl (l : List UInt8) : Jh .bool (avV (.bool true)) (#[].push { key := avV (.bool false), val := avV (.str l), born := 0 }) = true := by
  simp [Jh, Instr.findNow, Instr.sameNow, avV]
theorem AlK (l0 l1 : List UInt8) : Iq .bool false (Am1 l0 l1) = some l0 := by
  simp [Iq, Am1, Instr.findNow, Instr.sameNow, avV]
theorem Akh (l0 l1 : List UInt8) : Iq .bool true (Am1 l0 l1) = some l1 := by
  simp [Iq, Am1, Instr.findNow, Instr.sameNow, avV]
theorem Wt : bytesOf [] = some [] := rfl
theorem Aby (x : UInt8) (l : List (List AV)) : bytesOf ([u8 x] :: l) = (bytesOf l).map (x :: ·) := by
  show (bytesOf l).map (UInt8.ofNat ((x.toNat : Int)).toNat :: ·) = _
  rw [Int.toNat_natCast, UInt8.ofNat_toNat]
attribute [go_sem] Wt Aby Option.map_some
attribute [go_sem] Aap
variable {E : Env} {σ : Ad}
theorem Acz {V : Type} {n : Nat} {A : Code} {st : St} {K : E6} {m : Nat} (S : V → St) (J : V → Prop) (hA : Run E n A st (R7 E n S J K)) (hB : ∀ v, J v → LoopN E n A K m (S v)) : Run E n A st (unK E n A m K) := by
  refine H2 hA ?_
  intro ex st' h
  cases ex <;> first
    | (obtain ⟨v, hv, hw⟩ := h; exact S5 hw (hB v hv))
    | exact h
def Ac6 (t : TypeId) : Bool → AV
  | true => .iface t .junk
  | false => .val .nilIface
theorem Ab9 {op : BinOp} {T t : TypeId} {b : Bool} : Lm E op T (Ac6 t b) = goB (Mo E T) (eqB op (!b)) none := by
  cases b <;> simp only [Ac6, Lm] <;> cases Mo E T <;> rfl
theorem Ajh {b : Bool} : eqB .neq b = some (.bool !b) := rfl
theorem Aih {b : Bool} : eqB .eql b = some (.bool b) := rfl
theorem Akz {t : TypeId} {b : Bool} : (Ac6 t b).flatAgg = false := by cases b <;> rfl
def erA (t : TypeId) (c : Int) : AV := if c = 0 then .val .nilIface else .iface t (i64 c)
theorem AnV {t : TypeId} : erA t 0 = .val .nilIface := rfl
theorem AmP {t : TypeId} : erA t 1 = .iface t (i64 1) := rfl
theorem AlM {t : TypeId} : erA t 2 = .iface t (i64 2) := rfl
theorem AnE {t : TypeId} : erA t 3 = .iface t (i64 3) := rfl
theorem Am6 {t : TypeId} : erA t 4 = .iface t (i64 4) := rfl
theorem AoD {l : List UInt8} : (Ajq .bool (.bool false) = true ∧ G3 (.str l) = true ∧ Jh .bool (avV (.bool false)) #[] = true) = True := eq_true ⟨rfl, rfl, Aib⟩
theorem Anl {l l0 : List UInt8} : (Ajq .bool (.bool true) = true ∧ G3 (.str l) = true ∧ Jh .bool (avV (.bool true)) (#[].push { key := avV (.bool false), val := avV (.str l0), born := 0 }) = true) = True := eq_true ⟨rfl, rfl, Ajl l0⟩
theorem Aox {l0 l1 : List UInt8} : Iq .bool false ((#[].push { key := avV (.bool false), val := avV (.str l0), born := 0 }).push { key := avV (.bool true), val := avV (.str l1), born := 1 }) = some l0 := AlK l0 l1
theorem Aow {l0 l1 : List UInt8} : Iq .bool true ((#[].push { key := avV (.bool false), val := avV (.str l0), born := 0 }).push { key := avV (.bool true), val := avV (.str l1), born := 1 }) = some l1 := Akh l0 l1
theorem Agq {t kt et a b a2 b2 : Nat} {z z2 : List AV} {d : TypeDesc} (h : E.tab t = some ⟨.map kt et, a, b, z⟩) (h2 : E.tab kt = some ⟨d, a2, b2, z2⟩) : T8 E t = some d := by
  simp only [T8, h, h2]
theorem Agf {t a b : Nat} {z : List AV} {ms : Array (String × TypeId)} (h : E.tab t = some ⟨.interface ms, a, b, z⟩) : Mo E t = true := by
  simp only [Mo, h]
theorem Afe {t a b : Nat} {z : List AV} (h : E.tab t = some ⟨.string, a, b, z⟩) : Ru E t = true := by
  simp only [Ru, h]
attribute [go_sem] Ab9 Ajh Aih Akz AnV AmP AlM AnE Am6 AoD Anl Aox Aow Tl Gq
end Go.Rv
