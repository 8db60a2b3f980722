/-
  Part 28.
-/
import Derived.Test.YtldngkmkhfddpaaGreatDoorYX27
import Derived.Laws.Externs
namespace Go.Rv
set_option linter.unusedVariables false
set_option linter.unusedSimpArgs false
theorem Aho{B:Base}{f:FuncId}{fn:Func}{e:Array Value->Sem Value}{args:List AV}{r:AV}(hf:B.P.funcs[f]?=some fn)(hname:(fn.name == "runtime.NumGoroutine")=false) (hb:fn.body.isNone=true) (hn:Extern.findNext fn=none) (he:Extern.find fn=some e) (h:∀(pr:Addr->Prop) (w:World) (vs:Array Value),C4 w pr [] vs.toList args->∃v,(e vs).run B.P w=.ok v w/\Rep w pr [] v r):Con B f args [] (fun r' O'=>r'=r/\O'=[]):=by
 refine⟨fun F w g vs hm ha=>.inr ?_⟩;have hg:g=[]:=ApM.1 hm.len;subst hg;obtain⟨v,h1,h2⟩:=h _ w vs ha;refine⟨v,?_,v,r,[],[],rfl,⟨rfl,rfl⟩,hm,Evo.refl _ _ _ _,h2⟩;rw[run_callFunc_extern hf hname hb hn he,h1];rfl
end Go.Rv
