/-
  Part 35.
-/
import Derived.Test.YtnfoiocigicdnaaGreatDoorYA34
namespace Go.Rv
set_option linter.unusedVariables false
set_option linter.unusedSimpArgs false
variable {E : Env} {σ : Ad}
theorem Vo {t : TypeId} {v : Value} {k : AV} {ok : Bool} : E5 E σ t (.val v) k ok = S2 E t (.val v) k ok := rfl
def AjJ (l0 l1 : List UInt8) : Array MapEntry := (#[].push { key := avV (.bool false), val := avV (.str l0), born := 0 }).push { key := avV (.bool true), val := avV (.str l1), born := 1 }
theorem Afn : Im .bool (avV (.bool false)) #[] = true := rfl
theorem Aft (l : List UInt8) : Im .bool (avV (.bool true)) (#[].push { key := avV (.bool false), val := avV (.str l), born := 0 }) = true := by
  simp [Im, Instr.findNow, Instr.sameNow, avV]
theorem AjG (l0 l1 : List UInt8) : Hg .bool false (AjJ l0 l1) = some l0 := by
  simp [Hg, AjJ, Instr.findNow, Instr.sameNow, avV]
theorem Ahx (l0 l1 : List UInt8) : Hg .bool true (AjJ l0 l1) = some l1 := by
  simp [Hg, AjJ, Instr.findNow, Instr.sameNow, avV]
theorem Ts : bytesOf [] = some [] := rfl
theorem Aas (x : UInt8) (l : List (List AV)) : bytesOf ([u8 x] :: l) = (bytesOf l).map (x :: ·) := by
  show (bytesOf l).map (UInt8.ofNat ((x.toNat : Int)).toNat :: ·) = _
  rw [Int.toNat_natCast, UInt8.ofNat_toNat]
attribute [go_sem] Ts Aas Option.map_some
attribute [go_sem] Vo
variable {E : Env} {σ : Ad}
theorem Zl {V : Type} {n : Nat} {A : Code} {st : St} {K : D4} {m : Nat} (S : V → St) (J : V → Prop) (hA : Run E n A st (P5 E n S J K)) (hB : ∀ v, J v → LoopN E n A K m (S v)) : Run E n A st (unK E n A m K) := by
  refine G0 hA ?_
  intro ex st' h
  cases ex <;> first
    | (obtain ⟨v, hv, hw⟩ := h; exact Qr hw (hB v hv))
    | exact h
def Aa1 (t : TypeId) : Bool → AV
  | true => .iface t .junk
  | false => .val .nilIface
theorem Aab {op : BinOp} {T t : TypeId} {b : Bool} : Ke E op T (Aa1 t b) = goB (Ls E T) (eqB op (!b)) none := by
  cases b <;> simp only [Aa1, Ke] <;> cases Ls E T <;> rfl
theorem Af8 {b : Bool} : eqB .neq b = some (.bool !b) := rfl
theorem Agg {b : Bool} : eqB .eql b = some (.bool b) := rfl
theorem Ahv {t : TypeId} {b : Bool} : (Aa1 t b).flatAgg = false := by cases b <;> rfl
def erA (t : TypeId) (c : Int) : AV := if c = 0 then .val .nilIface else .iface t (i64 c)
theorem AkL {t : TypeId} : erA t 0 = .val .nilIface := rfl
theorem AhO {t : TypeId} : erA t 1 = .iface t (i64 1) := rfl
theorem Aid {t : TypeId} : erA t 2 = .iface t (i64 2) := rfl
theorem Alo {t : TypeId} : erA t 3 = .iface t (i64 3) := rfl
theorem Akc {t : TypeId} : erA t 4 = .iface t (i64 4) := rfl
theorem Akt {l : List UInt8} : (AgB .bool (.bool false) = true ∧ Fc (.str l) = true ∧ Im .bool (avV (.bool false)) #[] = true) = True := eq_true ⟨rfl, rfl, Afn⟩
theorem Aj9 {l l0 : List UInt8} : (AgB .bool (.bool true) = true ∧ Fc (.str l) = true ∧ Im .bool (avV (.bool true)) (#[].push { key := avV (.bool false), val := avV (.str l0), born := 0 }) = true) = True := eq_true ⟨rfl, rfl, Aft l0⟩
theorem Ak3 {l0 l1 : List UInt8} : Hg .bool false ((#[].push { key := avV (.bool false), val := avV (.str l0), born := 0 }).push { key := avV (.bool true), val := avV (.str l1), born := 1 }) = some l0 := AjG l0 l1
theorem Alj {l0 l1 : List UInt8} : Hg .bool true ((#[].push { key := avV (.bool false), val := avV (.str l0), born := 0 }).push { key := avV (.bool true), val := avV (.str l1), born := 1 }) = some l1 := Ahx l0 l1
theorem Ad6 {t kt et a b a2 b2 : Nat} {z z2 : List AV} {d : TypeDesc} (h : E.tab t = some ⟨.map kt et, a, b, z⟩) (h2 : E.tab kt = some ⟨d, a2, b2, z2⟩) : S5 E t = some d := by
  simp only [S5, h, h2]
theorem AdS {t a b : Nat} {z : List AV} {ms : Array (String × TypeId)} (h : E.tab t = some ⟨.interface ms, a, b, z⟩) : Ls E t = true := by
  simp only [Ls, h]
theorem Abs {t a b : Nat} {z : List AV} (h : E.tab t = some ⟨.string, a, b, z⟩) : Po E t = true := by
  simp only [Po, h]
attribute [go_sem] Aab Af8 Agg Ahv AkL AhO Aid Alo Akc Akt Aj9 Ak3 Alj R6 E5
end Go.Rv
