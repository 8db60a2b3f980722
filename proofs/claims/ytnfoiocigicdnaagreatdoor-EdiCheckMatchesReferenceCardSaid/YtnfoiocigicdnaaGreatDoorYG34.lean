/-
  Part 34.
-/
import Derived.Test.YtnfoiocigicdnaaGreatDoorYG33
namespace Go.Rv
set_option linter.unusedVariables false
set_option linter.unusedSimpArgs false
variable {E : Env} {σ : Am}
theorem Acm {t : TypeId} {v : Value} {k : AV} {ok : Bool} : Hi E σ t (.val v) k ok = Xc E t (.val v) k ok:=rfl
def ApG (l0 l1 : List UInt8) : Array MapEntry:=(#[].push { key:=avV (.bool false),val:=avV (.str l0),born:=0 }).push { key:=avV (.bool true),val:=avV (.str l1),born:=1 }
theorem AkE : Lg .bool (avV (.bool false)) #[] = true:=rfl
theorem AjS (l : List UInt8) : Lg .bool (avV (.bool true)) (#[].push { key:=avV (.bool false),val:=avV (.str l),born:=0 }) = true:=by
 simp [Lg,Instr.findNow,Instr.sameNow,avV]
theorem Amn (l0 l1 : List UInt8) : J4 .bool false (ApG l0 l1) = some l0:=by
 simp [J4,ApG,Instr.findNow,Instr.sameNow,avV]
theorem Aoh (l0 l1 : List UInt8) : J4 .bool true (ApG l0 l1) = some l1:=by
 simp [J4,ApG,Instr.findNow,Instr.sameNow,avV]
theorem Aae : bytesOf [] = some []:=rfl
attribute [go_sem] Aae Option.map_some
attribute [go_sem] Acm
variable {E : Env} {σ : Am}
theorem AdP {V : Type} {n : Nat} {A : Code} {st : St} {K : Fz} {m : Nat} (S : V→St) (J : V→Prop) (hA : Run E n A st (Ve E n S J K)) (hB : ∀ v,J v→LoopN E n A K m (S v)) : Run E n A st (unK E n A m K):=by
 refine I8 hA ?_
 intro ex st' h
 cases ex <;> first
  | (obtain ⟨v,hv,hw⟩:=h;exact Vt hw (hB v hv))
  | exact h
def Aez (t : TypeId) : Bool→AV
 | true => .iface t .junk
 | false => .val .nilIface
theorem Adt {op : BinOp} {T t : TypeId} {b : Bool} : Nu E op T (Aez t b) = goB (O8 E T) (eqB op (!b)) none:=by
 cases b <;> simp only [Aez,Nu] <;> cases O8 E T <;> rfl
theorem Akc {b : Bool} : eqB .neq b = some (.bool !b):=rfl
theorem AjX {b : Bool} : eqB .eql b = some (.bool b):=rfl
theorem Apm {t : TypeId} {b : Bool} : (Aez t b).flatAgg = false:=by cases b <;> rfl
def erA (t : TypeId) (c : Int) : AV:=if c = 0 then .val .nilIface else .iface t (i64 c)
theorem AsN {t : TypeId} : erA t 0 = .val .nilIface:=rfl
theorem AnS {t : TypeId} : erA t 1 = .iface t (i64 1):=rfl
theorem Aoa {t : TypeId} : erA t 2 = .iface t (i64 2):=rfl
theorem Ar4 {t : TypeId} : erA t 3 = .iface t (i64 3):=rfl
theorem AqU {t : TypeId} : erA t 4 = .iface t (i64 4):=rfl
theorem Ap8 {l : List UInt8} : (Alm .bool (.bool false) = true∧Hv (.str l) = true∧Lg .bool (avV (.bool false)) #[] = true) = True:=eq_true ⟨rfl,rfl,AkE⟩
theorem ArF {l l0 : List UInt8} : (Alm .bool (.bool true) = true∧Hv (.str l) = true∧Lg .bool (avV (.bool true)) (#[].push { key:=avV (.bool false),val:=avV (.str l0),born:=0 }) = true) = True:=eq_true ⟨rfl,rfl,AjS l0⟩
theorem Asm {l0 l1 : List UInt8} : J4 .bool false ((#[].push { key:=avV (.bool false),val:=avV (.str l0),born:=0 }).push { key:=avV (.bool true),val:=avV (.str l1),born:=1 }) = some l0:=Amn l0 l1
theorem Arl {l0 l1 : List UInt8} : J4 .bool true ((#[].push { key:=avV (.bool false),val:=avV (.str l0),born:=0 }).push { key:=avV (.bool true),val:=avV (.str l1),born:=1 }) = some l1:=Aoh l0 l1
theorem AhN {t kt et a b a2 b2 : Nat} {z z2 : List AV} {d : TypeDesc} (h : E.tab t = some ⟨.map kt et,a,b,z⟩) (h2 : E.tab kt = some ⟨d,a2,b2,z2⟩) : Xb E t = some d:=by
 simp only [Xb,h,h2]
theorem AhD {t a b : Nat} {z : List AV} {ms : Array (String×TypeId)} (h : E.tab t = some ⟨.interface ms,a,b,z⟩) : O8 E t = true:=by
 simp only [O8,h]
theorem AeN {t a b : Nat} {z : List AV} (h : E.tab t = some ⟨.string,a,b,z⟩) : R4 E t = true:=by
 simp only [R4,h]
attribute [go_sem] Adt Akc AjX Apm AsN AnS Aoa Ar4 AqU Ap8 ArF Asm Arl Xx Hi
end Go.Rv
