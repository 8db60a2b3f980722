/-
  Part 38.
-/
import Derived.Test.YtldngkmkhfddpaaDoorYT37
namespace Go.Rv
set_option linter.unusedVariables false
set_option linter.unusedSimpArgs false
variable {E:Env}{σ:Ad}
theorem Q5{t:TypeId}{v:Value}{k:AV}{ok:Bool}:Eb E σ t (.val v) k ok=BD E t (.val v) k ok:=rfl
theorem Pf:J9 []=some []:=rfl
attribute [go_sem] Pf Option.map_some
attribute [go_sem] Q5
variable {E:Env}{σ:Ad}
theorem Zh{b:Bool}:eqB .neq b=some (.bool !b):=rfl
theorem Yn{b:Bool}:eqB .eql b=some (.bool b):=rfl
def erA(t:TypeId)(c:Int):AV:=if c=0 then .val .nilIface else .iface t (i64 c)
theorem Acv{t:TypeId}:erA t 0=.val .nilIface:=rfl
theorem Aew{t:TypeId}:erA t 1=.iface t (i64 1):=rfl
theorem Adx{t:TypeId}:erA t 2=.iface t (i64 2):=rfl
theorem Ac3{t:TypeId}:erA t 3=.iface t (i64 3):=rfl
theorem Ac5{t:TypeId}:erA t 4=.iface t (i64 4):=rfl
theorem VQ{t a b:Nat}{z:List AV}{ms:Array (String×TypeId)}(h:E.tab t=some ⟨.interface ms,a,b,z⟩):JZ E t=true:=by
 simp only[JZ,h]
attribute [go_sem] Zh Yn Acv Aew Adx Ac3 Ac5 Nh Eb
end Go.Rv
