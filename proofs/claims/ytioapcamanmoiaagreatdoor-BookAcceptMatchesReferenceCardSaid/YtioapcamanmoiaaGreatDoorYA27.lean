/-
  Part 27.
-/
import Derived.Test.YtioapcamanmoiaaGreatDoorYA26
import Derived.Laws.Externs
namespace Go.Rv
variable {E:Env}
abbrev one1(v:Value):List PanicEntry:=[{ v:=v,recovered:=false }]
structure Pan(B:Base)(f:FuncId)(args:List AV)(σ:Ad)(v:Value)(σ2:Ad):Prop where
  call:∀(F:Addr→Prop) (w:World) (g:Gh) (vs:Array Value),Mem (B.env F) w g σ→C8 w (AA (B.env F) g) g vs.toList args →
    DoCall B.P f vs w (fun e w'=>∃g',e=.panicked (one1 v)∧Mem (B.env F) w' g' σ2∧Evo (B.env F) σ.length w g w' g')
inductive Outc
  |ret (r:AV) (σ:Ad)
  |pan (v:Value) (σ:Ad)
def PCon(B:Base)(f:FuncId)(args:List AV)(σ:Ad):Outc→Prop
 |.ret r σ'=>Con B f args σ (fun r1 σ1=>r1=r∧σ1=σ')
 |.pan v σ'=>Pan B f args σ v σ'
theorem PCon.to{B:Base}{f:FuncId}{args:List AV}{σ:Ad}{o:Outc}(h:PCon B f args σ o){r:AV}{σ':Ad}(ho:o=.ret r σ'):Con B f args σ (fun r1 σ1=>r1=r∧σ1=σ'):=by
 subst ho;exact h
theorem PCon.pan{B:Base}{f:FuncId}{args:List AV}{σ:Ad}{o:Outc}(h:PCon B f args σ o){v:Value}{σ':Ad}(ho:o=.pan v σ'):Pan B f args σ v σ':=by
 subst ho;exact h
def Ag7:AV→Option AV
 |.iface t (.int k z)=>some (.val (.iface t (.int k z)))
 |_=>none
theorem Aaz{t:TypeId}{x:Int}:Ag7 (.iface t (i64 x))=some (.val (.iface t (.int .i64 x))):=rfl
noncomputable def panO(m:List (Nat×FuncId×List AV×Ad×AV×Ad))(n:Nat)(ks:List Nat)(o:Oper):Option (Fr×Ad)→Option ((AV×Ad)×List AV)
 | some (fr,σ)=>match o.op with
  |.panic x=>(Ag7 (evL n fr x)).map fun u=>((u,σ),ks.map fun t=>evL n fr (.tmp t))
  | .call c=>match c.callee with
   |.value f=>match evL n fr f with
    |.fn fid []=>(VQ m o.dst fid (c.args.toList.map (evL n fr)) σ).map fun r=>(r,ks.map fun t=>evL n fr (.tmp t))
    |_=>none
   |_=>none
  |_=>none
 |none=>none
theorem Vl{fr:List AV}{d:Option Tmp}{v:AV}{t:Nat}(h:d≠some t):ev (AY fr d v) (.tmp t)=ev fr (.tmp t) :=
 So fun e he h2=>by cases h2;exact h he
theorem Af7{orc:Option Tmp→Orc}{ops:Array Oper}{x:Oper}{st st1:St}(h:CW E orc ops x st=some st1):∃v,st1.fr=AY st.fr x.dst v:=by
 unfold CW at h;rw[AsV]at h;obtain⟨⟨v,σ'⟩,hv,rfl⟩:=h;exact⟨v,rfl⟩
def Al0(n:Nat)(σ:Ad):Bool:=(List.range n).all fun i=>match σ[i]? with
 |some (.box ..)=>true
 |_=>false
theorem Vj{B:Base}{fn:Func}{args:List AV}{σ:Ad}{F:Addr→Prop}{w:World}{g:Gh}{vs:Array Value}(hm:Mem (B.env F) w g σ)(ha:C8 w (AA (B.env F) g) g vs.toList args) :Rel (B.env F) w g ⟨MU fn.ntmps args,σ⟩ { tmps:=vs++Array.replicate (fn.ntmps-vs.size) undef,defers:=[] }:=by
 have hlen:=DF ha;simp only[AtY]at hlen;refine⟨?_,?_,hm,.plain rfl⟩
 ·simp[MU,hlen]
 ·intro t x hx;simp only[MU]at hx;rcases AtV t args.length with hl|hl
  ·rw[As3 hl]at hx;have:=Kz ha t x hx
   have e:(vs++Array.replicate (fn.ntmps-vs.size) undef).getD t undef=vs.toList.getD t undef:=by
    refine A7 ?_;rw[AuI (by omega),AH (by omega)];simp[As8,AtK]
   rw[e];exact this
  ·rw[As0 hl,AuB]at hx;split at hx
   ·cases hx;exact .junk _ _
   ·cases hx
theorem Abt{α:Type}(l:List α):l.take 0=[]:=rfl
theorem VU{σ:Ad}:Al0 0 σ=true:=rfl
attribute [go_sem] Aaz Option.map_some VU panO List.take_succ_cons Abt List.take_zero
theorem Aim{B:Base}{f:FuncId}{fn:Func}{e:Array Value→Sem Value}{args:List AV}{r:AV}(hf:B.P.funcs[f]?=some fn)(hname:(fn.name == "runtime.NumGoroutine")=false) (hb:fn.body.isNone=true) (hn:Extern.findNext fn=none) (he:Extern.find fn=some e) (h:∀(pr:Addr→Prop) (w:World) (vs:Array Value),C8 w pr [] vs.toList args→∃v,(e vs).run B.P w=.ok v w∧Rep w pr [] v r):Con B f args [] (fun r' σ'=>r'=r∧σ'=[]):=by
 refine⟨fun F w g vs hm ha=>.inr ?_⟩;have hg:g=[]:=Atl.1 hm.len;subst hg;obtain⟨v,h1,h2⟩:=h _ w vs ha;refine⟨v,?_,v,r,[],[],rfl,⟨rfl,rfl⟩,hm,Evo.refl _ _ _ _,h2⟩;rw[run_callFunc_extern hf hname hb hn he,h1];rfl
theorem Me{P:Program}{w:World}:∀(l:List UInt8) (a:Addr) (acc:ByteArray),(∀(i:Nat) (b:UInt8),l[i]?=some b→w.cell? (a.add i)=some (.int .u8 (b.toNat:Int))) →(Extern.Bytes.loadBytes a l.length acc).run P w=.ok ⟨acc.data++l.toArray⟩ w
  |[],a,acc,_=>by simp[Extern.Bytes.loadBytes]
  | b :: l,a,acc,h=>by
    have h0:=h 0 b rfl;rw[add_zero]at h0
    have ih:=Me (P:=P) (w:=w) l (a.add 1) (acc.push b) (fun i c hi=>by
      rw[JF,Nat.add_comm];exact h (i+1) c (by simpa using hi))
    have hb:(Int.toNat (b.toNat:Int)).toUInt8=b:=by
      rw[As1];exact UInt8.ofNat_toNat
    simp only[Ati,Extern.Bytes.loadBytes,Sem.run_bind,run_load,h0,Result.andThen_ok,hb,ih];refine Auy (fun x=>Result.ok x w) ?_;refine ByteArray.ext ?_;show(acc.data.push b)++l.toArray=_;apply AuN;simp
theorem QE{P:Program}{w:World}{pr:Addr→Prop}{g:Gh}{v:Value}{full:Bool}{l:List UInt8}(h:Rep w pr g v (.sl full (L cU8 l))):(Extern.Bytes.bytesOf v).run P w=.ok ⟨l.toArray⟩ w:=by
  cases h with
  | sl _ a len cap _ _ k c hlen hcap hfull hnone hk hc hr=>
    have hl:l.length=len:=by rw[←hlen];simp[L]
    cases a with
    | none=>
      have:=hnone rfl;have he:l=[]:=Atl.1 (by omega);subst he;rfl
    | some a=>
      subst hl
      have:=Me (P:=P) (w:=w) l a .empty (fun i b hi=>by
        have h1:(L cU8 l)[i]?=some [u8 b]:=by simp[L,hi,cU8]
        have hk1:=hk i _ h1;have:k=1:=by simpa using hk1.symm
        subst this;obtain⟨a',e1,e2,_,_⟩:=hc i _ 0 _ h1 rfl;cases e1;have h3:=hr i _ 0 _ h1 rfl;have h4:c i 0=.int .u8 (b.toNat:Int):=D0 h3;rw[h4]at e2;simpa using e2)
      simp only[Extern.Bytes.bytesOf,this];refine Auy (fun x=>Result.ok x w) ?_;refine ByteArray.ext ?_;show(#[]++l.toArray:Array UInt8)=_;simp
def NS(a b:List UInt8):Int:=Extern.BytealgCompare.cmp ⟨a.toArray⟩ ⟨b.toArray⟩
def OG(a b:List UInt8):Option Int:=some (NS a b)
theorem XM{B:Base}{f:FuncId}{fn:Func}{a b:List UInt8}{x y:Bool}{r:Int}(hf:B.P.funcs[f]?=some fn)(hname:(fn.name == "runtime.NumGoroutine")=false) (hb:fn.body.isNone=true) (hn:Extern.findNext fn=none) (he:Extern.find fn=some Extern.BytealgCompare.compare) (h:OG a b=some r):Con B f [.sl x (L cU8 a),.sl y (L cU8 b)] [] (fun r' σ'=>r'=i64 r∧σ'=[]):=by
  refine Aim hf hname hb hn he fun pr w vs ha=>?_
  obtain⟨vs⟩:=vs
  match vs,ha with
  | [u,v],⟨h1,h2,_⟩=>
    cases h;refine⟨.int .i64 (NS a b),?_,.int _ _ _⟩;show(do pure (goInt (Extern.BytealgCompare.cmp (←Extern.Bytes.bytesOf u) (←Extern.Bytes.bytesOf v))):Sem Value).run B.P w=_;simp only[Sem.run_bind,QE h1,QE h2,Result.andThen_ok,Sem.run_pure];rfl
end Go.Rv
