/-
  Part 34.
-/
import Derived.Test.YtnfoiocigicdnaaGreatDoorYH33
namespace Go.Rv
set_option linter.unusedVariables false
set_option linter.unusedSimpArgs false
variable {E : Env} {σ : Am}
theorem Abi {t : TypeId} {v : Value} {k : AV} {ok : Bool} : Gy E σ t (.val v) k ok = W1 E t (.val v) k ok:=rfl
def Apf (l0 l1 : List UInt8) : Array MapEntry:=(#[].push { key:=avV (.bool false),val:=avV (.str l0),born:=0 }).push { key:=avV (.bool true),val:=avV (.str l1),born:=1 }
theorem AjJ : Kw .bool (avV (.bool false)) #[] = true:=rfl
theorem Aja (l : List UInt8) : Kw .bool (avV (.bool true)) (#[].push { key:=avV (.bool false),val:=avV (.str l),born:=0 }) = true:=by
 simp [Kw,Instr.findNow,Instr.sameNow,avV]
theorem Amt (l0 l1 : List UInt8) : Ju .bool false (Apf l0 l1) = some l0:=by
 simp [Ju,Apf,Instr.findNow,Instr.sameNow,avV]
theorem Aox (l0 l1 : List UInt8) : Ju .bool true (Apf l0 l1) = some l1:=by
 simp [Ju,Apf,Instr.findNow,Instr.sameNow,avV]
theorem Yk : bytesOf [] = some []:=rfl
attribute [go_sem] Yk Option.map_some
attribute [go_sem] Abi
variable {E : Env} {σ : Am}
theorem AcZ {V : Type} {n : Nat} {A : Code} {st : St} {K : Fo} {m : Nat} (S : V→St) (J : V→Prop) (hA : Run E n A st (Ue E n S J K)) (hB : ∀ v,J v→LoopN E n A K m (S v)) : Run E n A st (unK E n A m K):=by
 refine I2 hA ?_
 intro ex st' h
 cases ex <;> first
  | (obtain ⟨v,hv,hw⟩:=h;exact U8 hw (hB v hv))
  | exact h
def Aed (t : TypeId) : Bool→AV
 | true => .iface t .junk
 | false => .val .nilIface
theorem Adg {op : BinOp} {T t : TypeId} {b : Bool} : M7 E op T (Aed t b) = goB (Oq E T) (eqB op (!b)) none:=by
 cases b <;> simp only [Aed,M7] <;> cases Oq E T <;> rfl
theorem Akb {b : Bool} : eqB .neq b = some (.bool !b):=rfl
theorem AkW {b : Bool} : eqB .eql b = some (.bool b):=rfl
theorem Anm {t : TypeId} {b : Bool} : (Aed t b).flatAgg = false:=by cases b <;> rfl
def erA (t : TypeId) (c : Int) : AV:=if c = 0 then .val .nilIface else .iface t (i64 c)
theorem ArT {t : TypeId} : erA t 0 = .val .nilIface:=rfl
theorem Aol {t : TypeId} : erA t 1 = .iface t (i64 1):=rfl
theorem Amk {t : TypeId} : erA t 2 = .iface t (i64 2):=rfl
theorem Apq {t : TypeId} : erA t 3 = .iface t (i64 3):=rfl
theorem Asf {t : TypeId} : erA t 4 = .iface t (i64 4):=rfl
theorem Asg {l : List UInt8} : (Ak5 .bool (.bool false) = true∧Hb (.str l) = true∧Kw .bool (avV (.bool false)) #[] = true) = True:=eq_true ⟨rfl,rfl,AjJ⟩
theorem Aq3 {l l0 : List UInt8} : (Ak5 .bool (.bool true) = true∧Hb (.str l) = true∧Kw .bool (avV (.bool true)) (#[].push { key:=avV (.bool false),val:=avV (.str l0),born:=0 }) = true) = True:=eq_true ⟨rfl,rfl,Aja l0⟩
theorem Arw {l0 l1 : List UInt8} : Ju .bool false ((#[].push { key:=avV (.bool false),val:=avV (.str l0),born:=0 }).push { key:=avV (.bool true),val:=avV (.str l1),born:=1 }) = some l0:=Amt l0 l1
theorem ApL {l0 l1 : List UInt8} : Ju .bool true ((#[].push { key:=avV (.bool false),val:=avV (.str l0),born:=0 }).push { key:=avV (.bool true),val:=avV (.str l1),born:=1 }) = some l1:=Aox l0 l1
theorem Agr {t kt et a b a2 b2 : Nat} {z z2 : List AV} {d : TypeDesc} (h : E.tab t = some ⟨.map kt et,a,b,z⟩) (h2 : E.tab kt = some ⟨d,a2,b2,z2⟩) : Xf E t = some d:=by
 simp only [Xf,h,h2]
theorem AhN {t a b : Nat} {z : List AV} {ms : Array (String×TypeId)} (h : E.tab t = some ⟨.interface ms,a,b,z⟩) : Oq E t = true:=by
 simp only [Oq,h]
theorem Afg {t a b : Nat} {z : List AV} (h : E.tab t = some ⟨.string,a,b,z⟩) : S7 E t = true:=by
 simp only [S7,h]
attribute [go_sem] Adg Akb AkW Anm ArT Aol Amk Apq Asf Asg Aq3 Arw ApL Wj Gy
end Go.Rv
