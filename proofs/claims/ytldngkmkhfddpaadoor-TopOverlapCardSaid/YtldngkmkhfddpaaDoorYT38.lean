/-
  Part 38.
-/
import Derived.Test.YtldngkmkhfddpaaDoorYT37
namespace Go.Rv
set_option linter.unusedVariables false
set_option linter.unusedSimpArgs false
variable {E:Env}{σ:Ad}
theorem PP{t:TypeId}{v:Value}{k:AV}{ok:Bool}:Ea E σ t (.val v) k ok=BD E t (.val v) k ok:=rfl
theorem OE:J1 []=some []:=rfl
attribute [go_sem] OE Option.map_some
attribute [go_sem] PP
variable {E:Env}{σ:Ad}
theorem Yv{b:Bool}:eqB .neq b=some (.bool !b):=rfl
theorem Zh{b:Bool}:eqB .eql b=some (.bool b):=rfl
def erA(t:TypeId)(c:Int):AV:=if c=0 then .val .nilIface else .iface t (i64 c)
theorem Adq{t:TypeId}:erA t 0=.val .nilIface:=rfl
theorem AdM{t:TypeId}:erA t 1=.iface t (i64 1):=rfl
theorem Ac0{t:TypeId}:erA t 2=.iface t (i64 2):=rfl
theorem AdI{t:TypeId}:erA t 3=.iface t (i64 3):=rfl
theorem Adx{t:TypeId}:erA t 4=.iface t (i64 4):=rfl
theorem VS{t a b:Nat}{z:List AV}{ms:Array (String×TypeId)}(h:E.tab t=some ⟨.interface ms,a,b,z⟩):Kg E t=true:=by
 simp only[Kg,h]
attribute [go_sem] Yv Zh Adq AdM Ac0 AdI Adx ML Ea
end Go.Rv
