/-
  Part 27.
-/
import Derived.Test.YtldngkmkhfddpaaDoorYT26
namespace Go.Rv
set_option linter.unusedVariables false
set_option linter.unusedSimpArgs false
variable {E:Env}
abbrev NH(v:Value):List PanicEntry:=[{ v:=v,recovered:=false }]
structure Pan(B:Base)(f:FuncId)(args:List AV)(σ:Ad)(v:Value)(σ2:Ad):Prop where
  call:∀(F:Addr→Prop) (w:World) (g:Gh) (vs:Array Value),Mem (B.env F) w g σ→Bt w (Aw (B.env F) g) g vs.toList args →
    DoCall B.P f vs w (fun e w'=>∃g',e=.panicked (NH v)∧Mem (B.env F) w' g' σ2∧Evo (B.env F) σ.length w g w' g')
inductive Outc
  |ret (r:AV) (σ:Ad)
  |pan (v:Value) (σ:Ad)
def PCon(B:Base)(f:FuncId)(args:List AV)(σ:Ad):Outc→Prop
 |.ret r σ'=>Con B f args σ (fun r1 σ1=>r1=r∧σ1=σ')
 |.pan v σ'=>Pan B f args σ v σ'
theorem PCon.to{B:Base}{f:FuncId}{args:List AV}{σ:Ad}{o:Outc}(h:PCon B f args σ o){r:AV}{σ':Ad}(ho:o=.ret r σ'):Con B f args σ (fun r1 σ1=>r1=r∧σ1=σ'):=by
 subst ho;exact h
theorem PCon.pan{B:Base}{f:FuncId}{args:List AV}{σ:Ad}{o:Outc}(h:PCon B f args σ o){v:Value}{σ':Ad}(ho:o=.pan v σ'):Pan B f args σ v σ':=by
 subst ho;exact h
def Z3(E:Env)(f:FuncId)(args:List AV)(σ:Ad)(v:Value)(σ':Ad):Prop :=
 ∀(w:World) (g:Gh) (vs:Array Value),Mem E w g σ→Bt w (Aw E g) g vs.toList args →
  DoCall E.P f vs w (fun e w'=>∃g',e=.panicked (NH v)∧Mem E w' g' σ'∧GLe g g'∧Evo E 0 w g w' g')
theorem MF{f:FuncId}{args:List AV}{σ:Ad}{v:Value}{σ':Ad}(h:Z3 (E.toBase.env E.F) f args σ v σ'):Z3 E f args σ v σ':=by
 refine fun w g vs hm ha=>(h w g vs (XT hm) ha).mono ?_
 rintro e w' ⟨g',h1,h2,h3,h4⟩
 exact⟨g',h1,XB h2,h3,XQ h4⟩
theorem Tg{B:Base}{f:FuncId}{args1:List AV}{σ1:Ad}{v:Value}{σ2:Ad}(hcon:Pan B f args1 σ1 v σ2){σ:Ad}{args:List AV}(sel:List Nat)(hnd:sel.Nodup)(hσ:D3 sel σ sel σ1)
 (ha:wkA sel args args1) (hb:B8 σ2=true) (F:Addr→Prop):Z3 (B.env F) f args σ v (JM σ sel (σ2.map (Wg sel σ.length))):=by
 refine fun w g vs hm har=>?_
 refine(M0 (Fin:=fun e w' pr g=>e=.panicked (NH v)) (fun F w g vs hm har=>(hcon.call F w g vs hm har).mono ?_) sel hnd hσ ha hb F hm har).mono ?_
 ·rintro e w' ⟨g',h1,h3,h4⟩
  exact⟨g',h1,h3,h4⟩
 ·rintro e w' ⟨g',pr1,g1,h1,_,h3,h4,h6⟩
  exact⟨g',h1,h3,h4,h6⟩
theorem Ai{B:Base}{f:FuncId}{args1:List AV}{σ1:Ad}{v:Value}{σ2:Ad}(hcon:Pan B f args1 σ1 v σ2){σ:Ad}{args:List AV}(sel:List Nat)(hnd:sel.Nodup)(hσ:D3 sel σ sel σ1)
 (ha:wkA sel args args1) (hb:B8 σ2=true) {σ':Ad} (hs:JM σ sel (σ2.map (Wg sel σ.length))=σ'):∀F:Addr→Prop,Z3 (B.env F) f args σ v σ':=by
 subst hs
 exact Tg hcon sel hnd hσ ha hb
def Acy:AV→Option Value
 |.int k z=>some (.int k z)
 |_=>none
def AaA:List AV→Option (List Value)
 |[]=>some []
 |x::xs=>match Acy x,AaA xs with
  |some u,some us=>some (u::us)
  |_,_=>none
def QZ:AV→Option Value
 |.int k z=>some (.int k z)
 |.agg cs=>(AaA cs).map fun l=>.agg l.toArray
 |_=>none
theorem X5{w:World}{pr:Addr→Prop}{g:Gh}{v u:Value}{x:AV}(h:Rep w pr g v x)(hx:Acy x=some u):v=u:=by
 unfold Acy at hx
 split at hx
 ·cases hx;cases h;rfl
 ·cases hx
theorem Rx{w:World}{pr:Addr→Prop}{g:Gh}:∀{cs:List AV} {vs l:List Value},vs.length=cs.length→(∀(i:Nat) (x:AV),cs[i]?=some x→Rep w pr g (vs.getD i undef) x)→AaA cs=some l→vs=l
  | [],vs,l,hl,_,h=>by
    simp only[AaA,Option.some.injEq]at h
    subst h
    exact List.length_eq_zero_iff.1 hl
  |x::cs,[],l,hl,_,h=>by simp at hl
  | x :: cs,v::vs,l,hl,hr,h=>by
    unfold AaA at h
    split at h
    · rename_i u us h1 h2
      cases h
      have e1:=X5 (by simpa using hr 0 x rfl) h1
      have e2:=Rx (cs:=cs) (vs:=vs) (by simpa using hl) (fun i y hy=>by simpa using hr (i+1) y (by simpa using hy)) h2
      rw[e1,e2]
    · cases h
theorem XZ{w:World}{pr:Addr→Prop}{g:Gh}{v u:Value}{x:AV}(h:Rep w pr g v x)(hx:QZ x=some u):v=u:=by
  unfold QZ at hx
  split at hx
  · cases hx;cases h;rfl
  · rw[Option.map_eq_some_iff]at hx
    obtain⟨l,h1,rfl⟩:=hx
    cases h with
    | agg _ vs cs hs ho hr=>
      have:=Rx (vs:=vs.toList) (by simpa using hs) (fun i y hy=>by
        have:=hr i y hy
        simpa [List.getD_eq_getElem?_getD,Array.getD_eq_getD_getElem?]using this) h1
      rw[←this]
  · cases hx
def UB(f:AV)(args:List AV):Option (FuncId×List AV):=match f with
 |.fn fid []=>some (fid,args)
 |.fn fid [.tup xs]=>some (fid,xs++args)
 |.fn fid cs=>some (fid,args++cs)
 |_=>none
theorem RQ{fid:FuncId}{cs args:List AV}(h1:cs≠[])(h2:∀xs,cs≠[.tup xs]):UB (.fn fid cs) args=some (fid,args++cs):=by
 match cs,h1,h2 with
 |[],h,_=>exact absurd rfl h
 |[x],_,h=>cases x<;>first|rfl|exact absurd rfl (h _)
 |x::y::l,_,_=>cases x<;>rfl
def MI(E:Env)(ρ:Operand→AV)(σ:Ad)(op:Op)(v:Value)(σ':Ad):Prop :=
 (∃x t p u,op=.panic x∧ρ x=.iface t p∧QZ p=some u∧v=.iface t u∧σ'=σ) ∨
 (∃c f fid xs,op=.call c∧c.callee=.value f∧UB (ρ f) (c.args.toList.map ρ)=some (fid,xs)∧Z3 E fid xs σ v σ')
theorem U0{o:Oper}{st:St}{v:Value}{σ':Ad}(h:MI E (ev st.fr) st.σ o.op v σ'){a:Act}{w:World}{g:Gh}(hr:Rel E w g st a){next:Act→World→Prop}{Q:Exit→Act→World→Prop}
    (hk:∀w' g',Rel E w' g' ⟨st.fr,σ'⟩ a→Evo E 0 w g w' g'→GLe g g'→Q (.panic (NH v)) a w'):o.wp E.P a w next Q:=by
  rcases h with⟨x,t,p,u,hop,hx,hp,rfl,rfl⟩|⟨c,f,fid,xs,hop,hc,hf,hp⟩
  · have hv:=CR hr x
    rw[hx]at hv
    have e:a.eval x=.iface t u:=by
      generalize a.eval x=y at hv
      cases hv with
      |iface _ _ v _ h2=>rw[XZ h2 hp]
    unfold Oper.wp
    have:(execOp a.eval o).run E.P w=.halt (.panic (.iface t u)) w:=by
      unfold execOp
      rw[hop]
      simp only[e]
      rfl
    rw[this,Oper.upon_panic]
    exact hk w g hr (Evo.refl _ _ _ _) (GLe.refl _)
  · have hfv:=CR hr f
    have fin:∀e w',(∃g',e=Ending.panicked (NH v)∧Mem E w' g' σ'∧GLe g g'∧Evo E 0 w g w' g')→match e with|.returned v=>next (a.put o.dst v) w'|.panicked ch=>Q (.panic ch) a w'|.outgrown=>LetsOut Q:=by
      rintro e w' ⟨g',rfl,hm',hle,he⟩
      exact hk w' g' (FL hr hm' hle he) he hle
    unfold UB at hf
    split at hf
    · rename_i fid' hfe
      simp only[Option.some.injEq,Prod.mk.injEq]at hf
      obtain⟨rfl,rfl⟩:=hf
      rw[hfe]at hfv
      obtain⟨capv,hcv,hcr⟩:=Dr hfv
      have hcapv:capv=#[]:=by
        have:=BQ hcr
        apply Array.ext'
        simpa using this
      subst hcapv
      refine Fw (B:=E.toBase) hop hc hcv (hp w g (c.args.map a.eval++#[]) hr.mem ?_) fin
      rw[Array.append_empty,Array.toList_map]
      exact CA _ _ (CR hr) _
    · rename_i fid' ys hfe
      simp only[Option.some.injEq,Prod.mk.injEq]at hf
      obtain⟨rfl,rfl⟩:=hf
      rw[hfe]at hfv
      obtain⟨fs,hcv,hcr⟩:=JR hfv
      refine KE (B:=E.toBase) hop hc hcv (hp w g (fs++c.args.map a.eval) hr.mem ?_) fin
      rw[Array.toList_append,Array.toList_map]
      exact Dt hcr (CA _ _ (CR hr) _)
    · rename_i fid' cs hn1 hn2 hfe
      simp only[Option.some.injEq,Prod.mk.injEq]at hf
      obtain⟨rfl,rfl⟩:=hf
      rw[hfe]at hfv
      obtain⟨capv,hcv,hcr⟩:=Dr hfv (fun ys e=>hn2 ys e)
      refine Fw (B:=E.toBase) hop hc hcv (hp w g (c.args.map a.eval++capv) hr.mem ?_) fin
      rw[Array.toList_append,Array.toList_map]
      exact Dt (CA _ _ (CR hr) _) hcr
    · cases hf
theorem QR(fr:List AV)(d:Option Tmp)(v:AV):(A7 fr d v).length=fr.length:=by cases d<;>simp[A7]
theorem FI(n:Nat)(l:Fr):(Am n l).length=n:=by simp[Am]
theorem RV{E:Env}(hE:E.Ok){orc:Option Tmp→Orc}(hO:GV E.toBase orc){m n id k:Nat}{l:List Oper}{o:Oper}(hk0:l[k]?=some o)(hg:o.guard=none){fr fr1:Fr}{σ σ1:Ad}{v:Value}{σ2:Ad}{K:C0}
 (h:BJ E orc false n l.toArray (l.take k) (fr,σ)=some (fr1,σ1)) (hp:MI E (ev (Am n fr1)) σ1 o.op v σ2) (hk:K (.panic (NH v)) ⟨Am n fr1,σ2⟩):Run E m (.region id l.toArray false) ⟨Am n fr,σ⟩ K:=by
 refine Jg ?_
 have hkl:=(List.getElem?_eq_some_iff.1 hk0).1
 have hl:l=l.take k++(o::l.drop (k+1)):=by
  conv=>lhs;rw[←List.take_append_drop k l,List.drop_eq_getElem_cons hkl]
  rw[(List.getElem?_eq_some_iff.1 hk0).2]
 have:=GD (E:=E) (m:=m) (K:=K) (ops:=l.toArray) (rest:=o::l.drop (k+1)) hE hO (l.take k) fr σ fr1 σ1 h (by
  intro hcm a w g hr Q hq
  obtain⟨cm1,cm2⟩:=NN hcm
  simp only[wpListIn,Region.wanted,hg,if_true]
  refine Su ?_ cm1
  refine U0 (st:=⟨Am n fr1,σ1⟩) hp hr (fun w' g' hr' he hle=>?_)
  exact hq _ _ _ _ _ hk hr' (he.of_gle hle))
 rw[←hl]at this
 exact this
def Oc:AV→Option AV
 |.iface t p=>(QZ p).map fun u=>.val (.iface t u)
 |_=>none
theorem Ql{t:TypeId}{x:Int}:Oc (.iface t (.agg [i64 x]))=some (.val (.iface t (.agg #[.int .i64 x]))):=rfl
theorem QI{t:TypeId}{x y:Int}:Oc (.iface t (.agg [i64 x,i64 y]))=some (.val (.iface t (.agg #[.int .i64 x,.int .i64 y]))):=rfl
theorem Sm{t:TypeId}{x:Int}:Oc (.iface t (i64 x))=some (.val (.iface t (.int .i64 x))):=rfl
noncomputable def ZJ(m:List (Nat×FuncId×List AV×Ad×AV×Ad))(n:Nat)(ks:List Nat)(o:Oper):Option (Fr×Ad)→Option ((AV×Ad)×List AV)
 | some (fr,σ)=>match o.op with
  |.panic x=>(Oc (evL n fr x)).map fun u=>((u,σ),ks.map fun t=>evL n fr (.tmp t))
  | .call c=>match c.callee with
   |.value f=>match evL n fr f with
    |.fn fid []=>(Mv m o.dst fid (c.args.toList.map (evL n fr)) σ).map fun r=>(r,ks.map fun t=>evL n fr (.tmp t))
    |.fn fid [.tup xs]=>(Mv m o.dst fid (xs++c.args.toList.map (evL n fr)) σ).map fun r=>(r,ks.map fun t=>evL n fr (.tmp t))
    |.fn fid cs=>(Mv m o.dst fid (c.args.toList.map (evL n fr)++cs) σ).map fun r=>(r,ks.map fun t=>evL n fr (.tmp t))
    |_=>none
   |_=>none
  |_=>none
 |none=>none
def QQ(B:Base):List (Nat×FuncId×List AV×Ad×AV×Ad)→Prop
 |[]=>True
 |e::l=>(∀v,e.2.2.2.2.1=.val v→∀F:Addr→Prop,Z3 (B.env F) e.2.1 e.2.2.1 e.2.2.2.1 v e.2.2.2.2.2)∧QQ B l
theorem Nr{B:Base}:∀{l:List (Nat×FuncId×List AV×Ad×AV×Ad)},QQ B l→∀d f a σ v σ',Mv l d f a σ=some (.val v,σ')→∀F:Addr→Prop,Z3 (B.env F) f a σ v σ'
  |[],_,d,f,a,σ,v,σ',h=>by cases h
  | e :: l,hl,d,f,a,σ,v,σ',h=>by
    unfold Mv at h
    split at h
    · split at h
      · rename_i hfa
        obtain⟨rfl,rfl,rfl⟩:=hfa
        obtain⟨t,f,a,σ,r2,σ2⟩:=e
        cases h
        exact hl.1 v rfl
      · cases h
    · exact Nr hl.2 d f a σ v σ' h
theorem ND{m:List (Nat×FuncId×List AV×Ad×AV×Ad)}(hm:QQ E.toBase m){n:Nat}{ks:List Nat}{vals:List AV}{o:Oper}{fr:Fr}{σ:Ad}{v:Value}{σ':Ad}(h:ZJ m n ks o (some (fr,σ))=some ((.val v,σ'),vals)) :
  MI E (ev (Am n fr)) σ o.op v σ'∧vals=ks.map fun t=>ev (Am n fr) (.tmp t):=by
 simp only[ZJ]at h
 rw[CO]
 split at h
 ·rename_i x hop
  rw[Option.map_eq_some_iff]at h
  obtain⟨u,h1,h2⟩:=h
  unfold Oc at h1
  split at h1
  ·rename_i t p hx
   rw[Option.map_eq_some_iff]at h1
   obtain⟨u',h1,h3⟩:=h1
   subst h3
   simp only[Prod.mk.injEq,AV.val.injEq]at h2
   obtain⟨⟨rfl,rfl⟩,rfl⟩:=h2
   exact⟨.inl ⟨x,t,p,u',hop,hx,h1,rfl,rfl⟩,rfl⟩
  ·cases h1
 ·rename_i c hop
  split at h
  ·rename_i f hc
   split at h
   ·rename_i fid hf
    rw[Option.map_eq_some_iff]at h
    obtain⟨r,h,e⟩:=h
    simp only[Prod.mk.injEq]at e
    obtain⟨rfl,rfl⟩:=e
    exact⟨.inr ⟨c,f,fid,_,hop,hc,by rw[hf];rfl,MF (Nr hm _ _ _ _ _ _ h E.F)⟩,rfl⟩
   ·rename_i fid xs hf
    rw[Option.map_eq_some_iff]at h
    obtain⟨r,h,e⟩:=h
    simp only[Prod.mk.injEq]at e
    obtain⟨rfl,rfl⟩:=e
    exact⟨.inr ⟨c,f,fid,_,hop,hc,by rw[hf];rfl,MF (Nr hm _ _ _ _ _ _ h E.F)⟩,rfl⟩
   ·rename_i fid cs hn1 hn2 hf
    rw[Option.map_eq_some_iff]at h
    obtain⟨r,h,e⟩:=h
    simp only[Prod.mk.injEq]at e
    obtain⟨rfl,rfl⟩:=e
    exact⟨.inr ⟨c,f,fid,_,hop,hc,by rw[hf];exact RQ (fun e=>hn1 e) (fun ys e=>hn2 ys e),MF (Nr hm _ _ _ _ _ _ h E.F)⟩,rfl⟩
   ·cases h
  ·cases h
 ·cases h
def Yy(E:Env)(orc:Option Tmp→Orc)(dr:Bool)(n:Nat)(l:List Oper)(k:Nat)(s:Fr×Ad):Option (Fr×Ad):=BJ E orc dr n l.toArray (l.take k) s
theorem ZI{orc:Option Tmp→Orc}{dr:Bool}{n:Nat}{l:List Oper}{k:Nat}{s:Fr×Ad}:Yy E orc dr n l k s=HS E orc dr n l.toArray (l.take k) (some s):=by
 rw[Gu];rfl
theorem B5(hE:E.Ok)(ks:List Nat){vals:List AV}{m n id:Nat}{l:List Oper}(k:Nat)(o:Oper){fr:Fr}{σ:Ad}{v:Value}{σ2:Ad}{K:C0}(hk0:l[k]?=some o)(hg:o.guard=none)
    (h:∃orc pl,GV E.toBase orc∧QQ E.toBase pl∧ZJ pl n ks o (Yy E orc false n l k (fr,σ))=some ((.val v,σ2),vals)) (hk:∀fr',fr'.length=n→(ks.map fun t=>ev fr' (.tmp t))=vals→K (.panic (NH v)) ⟨fr',σ2⟩):Run E m (.region id l.toArray false) ⟨Am n fr,σ⟩ K:=by
  obtain⟨orc,pl,hO,hP,h⟩:=h
  cases hpre:Yy E orc false n l k (fr,σ)with
  |none=>rw[hpre]at h;cases h
  | some s=>
    rw[hpre]at h
    exact RV hE hO hk0 hg hpre (ND hP h).1 (hk _ (FI _ _) (ND hP h).2.symm)
theorem Az(hE:E.Ok)(ks:List Nat){vals:List AV}{m n id:Nat}{l:List Oper}(k:Nat)(o:Oper){fr:Fr}{σ:Ad}{v:Value}{σ2:Ad}{K:C0}(hk0:l[k]?=some o)(hg:o.guard=none)
 (h:∃orc pl,GV E.toBase orc∧QQ E.toBase pl∧ZJ pl n ks o (Yy E orc false n l k (fr,σ))=some ((.val v,σ2),vals)) {y:Code} (hk:∀fr',fr'.length=n→(ks.map fun t=>ev fr' (.tmp t))=vals→K (.panic (NH v)) ⟨fr',σ2⟩):Run E m (.seq (.region id l.toArray false) y) ⟨Am n fr,σ⟩ K :=
 Fp (B5 hE ks k o hk0 hg h hk)
def Uv(ops:Array Oper)(o x:Oper):Bool:=match x.dst with
 |some d=>(o.looksAt ops).contains d
 |none=>false
def NA(E:Env)(ops:Array Oper)(T:List (List Nat))(k:Nat):Bool :=
 (List.range k).all fun i=>(List.range i).all fun j=>(T.getD i []).contains j||(match ops[j]?,ops[i]? with
  |some x,some y=>Im E ops x y
  |_,_=>false)
def Vw(E:Env)(ops:Array Oper)(T:List (List Nat))(k:Nat):Bool:=match ops[k]? with
 |some o=>(List.range ops.size).all fun j=>j==k||(if j<k then(T.getD k []).contains j||(match ops[j]? with
  |some x=>!LV E ops x&&!Uv ops o x
  |none=>false)else(T.getD j []).contains k)
 |none=>false
theorem Td{ρ ρ':Operand→AV}{σ:Ad}{op:Op}{v:Value}{σ':Ad}(hρ:∀x∈op.operands,ρ x=ρ' x)(h:MI E ρ σ op v σ'):MI E ρ' σ op v σ':=by
 rcases h with⟨x,t,k,n,rfl,hx,hn,rfl,rfl⟩|⟨c,f,fid,xs,rfl,hc,hf,hp⟩
 ·exact .inl ⟨x,t,k,n,rfl,by rw[←hρ x (by simp[Op.operands])];exact hx,hn,rfl,rfl⟩
 ·have hfo:f∈(Op.call c).operands:=by simp[Op.operands,Call.operands,hc]
  have hargs:c.args.toList.map ρ=c.args.toList.map ρ':=List.map_congr_left fun x hx=>hρ x (by
   simp only[Op.operands,Call.operands]
   simp only[Array.mem_append,Array.mem_toList_iff]at hx ⊢
   simp[hx])
  exact .inr ⟨c,f,fid,xs,rfl,hc,by rw[←hρ f hfo,←hargs];exact hf,hp⟩
theorem Sy{orc:Option Tmp→Orc}{ops:Array Oper}{x:Oper}{st st1:St}(he:LV E ops x=false)(h:C6 E orc ops x st=some st1):st1.σ=st.σ∧∃v,st1.fr=A7 st.fr x.dst v:=by
 unfold C6 at h
 rw[Option.map_eq_some_iff]at h
 obtain⟨⟨v,σ'⟩,hv,rfl⟩:=h
 exact⟨CY he hv,v,rfl⟩
theorem Lg{orc:Option Tmp→Orc}{ops:Array Oper}{o:Oper}{v:Value}{σ':Ad}:∀(l:List Nat) (st st1:St),(∀j∈l,∀x,ops[j]?=some x→LV E ops x=false∧Uv ops o x=false) →
    AF E orc ops l st=some st1→MI E (ev st1.fr) st1.σ o.op v σ'→MI E (ev st.fr) st.σ o.op v σ'
  | [],st,st1,_,h,hp=>by
    simp only[AF,Option.some.injEq]at h
    subst h;exact hp
  | i :: l,st,st1,hl,h,hp=>by
    unfold AF at h
    cases hi:ops[i]? with
    |none=>simp[hi]at h
    | some x=>
      simp only[hi,Option.bind_eq_some_iff]at h
      obtain⟨st2,h2,h3⟩:=h
      have hp2:=Lg l st2 st1 (fun j hj=>hl j (List.mem_cons_of_mem _ hj)) h3 hp
      obtain⟨e1,e2⟩:=hl i List.mem_cons_self x hi
      obtain⟨s1,u,s2⟩:=Sy e1 h2
      rw[s1]at hp2
      refine Td (fun y hy=>?_) hp2
      rw[s2]
      refine J2 fun d hd hyd=>?_
      subst hyd
      have:=KU (ops:=ops) hy
      unfold Uv at e2
      rw[hd]at e2
      simp[this]at e2
def SE(ks:List Nat)(l:List Oper):Bool:=ks.all fun t=>l.all fun o=>o.dst != some t
theorem Hc{fr:List AV}{d:Option Tmp}{v:AV}{t:Nat}(h:d≠some t):ev (A7 fr d v) (.tmp t)=ev fr (.tmp t) :=
 J2 fun e he h2=>by cases h2;exact h he
theorem Nu{orc:Option Tmp→Orc}{ops:Array Oper}{x:Oper}{st st1:St}(h:C6 E orc ops x st=some st1):∃v,st1.fr=A7 st.fr x.dst v:=by
 unfold C6 at h
 rw[Option.map_eq_some_iff]at h
 obtain⟨⟨v,σ'⟩,hv,rfl⟩:=h
 exact⟨v,rfl⟩
theorem RK{ks:List Nat}{l:List Oper}(hks:SE ks l=true){i:Nat}{x:Oper}(hx:l.toArray[i]?=some x){t:Nat}(ht:t∈ks):x.dst≠some t:=by
 have h1:=List.all_eq_true.1 hks t ht
 have h2:=List.all_eq_true.1 h1 x (List.mem_of_getElem? (by simpa using hx))
 simpa using h2
theorem KS{orc:Option Tmp→Orc}{ks:List Nat}{l:List Oper}(hks:SE ks l=true){t:Nat}(ht:t∈ks):∀(js:List Nat) (st st1:St),AF E orc l.toArray js st=some st1→ev st1.fr (.tmp t)=ev st.fr (.tmp t)
  | [],st,st1,h=>by
    simp only[AF,Option.some.injEq]at h
    subst h;rfl
  | i :: js,st,st1,h=>by
    unfold AF at h
    cases hi:l.toArray[i]? with
    |none=>simp[hi]at h
    | some x=>
      simp only[hi,Option.bind_eq_some_iff]at h
      obtain⟨st2,h2,h3⟩:=h
      rw[KS hks ht js st2 st1 h3]
      obtain⟨v,e⟩:=Nu h2
      rw[e,Hc (RK hks hi ht)]
theorem UJ(hE:E.Ok){orc:Option Tmp→Orc}(hO:∀d,K5 E.toBase (orc d)){ops:Array Oper}{T:List (List Nat)}(hc:Er ops T=true){k:Nat}(hm:NA E ops T k=true)(hkp:Vw E ops T k=true){o:Oper}(hok:ops[k]?=some o)(hgo:o.guard=none)
    {v:Value} {σ':Ad} {Q:Exit→Act→World→Prop} {l:List Oper} (hlo:l.toArray=ops) (ks:List Nat) (hks:SE ks l=true) (fr0:List AV) :
    ∀ (fuel:Nat) (l1 l2:List Nat) (listed:Array Bool) (st stk:St) (a:Act) (w:World) (g:Gh),(l1++k::l2).length=fuel→(l1++k::l2).Pairwise (·<·)→listed.size=ops.size →
      (∀j,listed.getD j true=false↔j∈l1++k::l2)→(∀i,i<ops.size→i ∉ l1++k::l2→∀d∈Dy ops i,d ∉ l1++k::l2) →
      AF E orc ops l1 st=some stk→MI E (ev stk.fr) stk.σ o.op v σ'→Rel E w g st a→((∀t∈ks,ev st.fr (.tmp t)=ev fr0 (.tmp t))∧st.fr.length=fr0.length)→(∀a' fr' w' g',((∀t∈ks,ev fr' (.tmp t)=ev fr0 (.tmp t))∧fr'.length=fr0.length)→Rel E w' g' ⟨fr',σ'⟩ a'→Evo E 0 w g w' g'→GLe g g'→Q (.panic (NH v)) a' w') →
      wpAny E.P .any ops Q fuel listed a w:=by
  have hksz:k<ops.size:=(Array.getElem?_eq_some_iff.1 hok).1
  have hin:∀(rem:List Nat) (listed:Array Bool),listed.size=ops.size→(∀j,listed.getD j true=false↔j∈rem)→∀j∈rem,j<ops.size:=by
    intro rem listed hs hl j hj
    have:=(hl j).2 hj
    by_cases e:j<listed.size
    · omega
    · simp[Array.getD,e]at this
  have hgd:∀(rem:List Nat) (listed:Array Bool),listed.size=ops.size→(∀j,listed.getD j true=false↔j∈rem)→∀d,d<ops.size→(listed.getD d false=true↔d ∉ rem):=by
    intro rem listed hs hl d hd
    have h1:listed.getD d false=listed.getD d true:=by
      have:d<listed.size:=by omega
      simp[Array.getD,this]
    rw[h1,←hl d]
    cases listed.getD d true<;>simp
  have hrd:∀(rem:List Nat) (listed:Array Bool),listed.size=ops.size→(∀j,listed.getD j true=false↔j∈rem)→∀i,
      (i∈Region.ready .any ops listed↔i∈rem∧∀d∈Dy ops i,d ∉ rem):=by
    intro rem listed hs hl i
    rw[mem_ready,hl i]
    constructor
    · rintro⟨h1,o,ho,h2⟩
      refine⟨h1,fun d hd=>?_⟩
      have hlt:=CQ hc (hin rem listed hs hl i h1) hd
      have hds:=Nat.lt_trans hlt (hin rem listed hs hl i h1)
      obtain⟨e,he,hb,rfl⟩:=(DP ho).1 hd
      exact(hgd rem listed hs hl _ hds).1 (h2 e he hb)
    · rintro⟨h1,h2⟩
      have hi:=hin rem listed hs hl i h1
      refine⟨h1,ops[i],Array.getElem?_eq_getElem hi,fun e he hb=>?_⟩
      have hd:e.on∈Dy ops i:=(DP (Array.getElem?_eq_getElem hi)).2 ⟨e,he,hb,rfl⟩
      exact(hgd rem listed hs hl _ (Nat.lt_trans (CQ hc hi hd) hi)).2 (h2 _ hd)
  have hpan:∀j,j<ops.size→j≠k→(j<k→j∈T.getD k []∨∀x,ops[j]?=some x→LV E ops x=false∧Uv ops o x=false)∧(k<j→k∈T.getD j []):=by
    intro j hj hne
    unfold Vw at hkp
    rw[hok]at hkp
    have:=Ax hkp hj
    simp only[Bool.or_eq_true,beq_iff_eq,hne,false_or]at this
    constructor
    · intro hlt
      rw[if_pos hlt]at this
      simp only[Bool.or_eq_true,List.contains_iff_mem]at this
      rcases this with h|h
      · exact .inl h
      · refine .inr fun x hx=>?_
        rw[hx]at h
        simpa using h
    · intro hlt
      rw[if_neg (by omega)]at this
      simpa using this
  intro fuel
  induction fuel with
  | zero=>
    intro l1 l2 listed st stk a w g hf
    simp at hf
  | succ fuel ih=>
    intro l1 l2 listed st stk a w g hf hp hs hl hd hst hpa hr hag hq
    have hkmem:k∈l1++k::l2:=by simp
    have hnosub:∀i∈l1++k::l2,(∀d∈Dy ops i,d ∉ l1++k::l2)→∀j∈T.getD i [],j ∉ l1++k::l2:=fun i hi hid j hj=>E9 hc hd i (hin _ listed hs hl i hi) hid j hj
    refine⟨fun h=>?_,fun i hi=>?_⟩
    · exfalso
      have:∃i,i∈Region.ready .any ops listed:=by
        cases l1 with
        | nil=>
          refine⟨k,(hrd _ listed hs hl k).2 ⟨by simp,fun d hdk hm=>?_⟩⟩
          have hlt:=CQ hc hksz hdk
          rcases List.mem_cons.1 hm with e|hm
          · omega
          · have:=List.rel_of_pairwise_cons (by simpa using hp) hm
            omega
        | cons i0 l1'=>
          have hi0:i0<ops.size:=hin _ listed hs hl i0 (by simp)
          refine⟨i0,(hrd _ listed hs hl i0).2 ⟨by simp,fun d hdk hm=>?_⟩⟩
          have hlt:=CQ hc hi0 hdk
          rw[List.cons_append]at hm hp
          rcases List.mem_cons.1 hm with e|hm
          · omega
          · have:=List.rel_of_pairwise_cons hp hm
            omega
      obtain⟨i,hi⟩:=this
      rw[h]at hi
      cases hi
    · obtain ⟨hir,hid⟩:=(hrd _ listed hs hl i).1 hi
      have his:=hin _ listed hs hl i hir
      have hp':=hp
      rw[List.pairwise_append]at hp'
      obtain⟨p1,p2,p3⟩:=hp'
      rcases List.mem_append.1 hir with h1|h1
      ·
        obtain⟨l11,l12,rfl⟩:=List.append_of_mem h1
        have hik:i<k:=p3 i h1 k (by simp)
        have hcm:∀j∈l11,∀x,ops[j]?=some x→Im E ops x ops[i]=true:=by
          intro j hj x hx
          have hji:j<i:=by
            rw[List.pairwise_append]at p1
            exact p1.2.2 j hj i List.mem_cons_self
          have h1:=Ax (Ax hm hik) hji
          simp only[Bool.or_eq_true,List.contains_iff_mem]at h1
          rcases h1 with h1|h1
          · exact(hnosub i hir hid j h1 (by simp[hj])).elim
          · simp only[hx,Array.getElem?_eq_getElem his]at h1
            exact h1
        obtain⟨st1,q1,q2⟩:=FB (Array.getElem?_eq_getElem his) l11 st hcm hst
        have hmem:∀j,j∈(l11++l12)++k::l2↔j∈(l11++i::l12)++k::l2∧j≠i:=by
          have hnd:∀j∈(l11++l12)++k::l2,j≠i:=by
            intro j hj e
            subst e
            rw[List.pairwise_append]at p1
            obtain⟨a1,a2,a3⟩:=p1
            rcases List.mem_append.1 hj with hj|hj
            · rcases List.mem_append.1 hj with hj|hj
              · have:=a3 j hj j List.mem_cons_self;omega
              · have:=List.rel_of_pairwise_cons a2 hj;omega
            · rcases List.mem_cons.1 hj with e|hj
              · omega
              · have:=p3 j h1 j (List.mem_cons_of_mem _ hj);omega
          intro j
          constructor
          · intro hj
            refine⟨?_,hnd j hj⟩
            simp only[List.mem_append,List.mem_cons]at hj ⊢
            rcases hj with(hj|hj)|hj
            · exact .inl (.inl hj)
            · exact .inl (.inr (.inr hj))
            · exact .inr hj
          · rintro⟨hj,hne⟩
            simp only[List.mem_append,List.mem_cons]at hj ⊢
            rcases hj with(hj|hj|hj)|hj
            · exact .inl (.inl hj)
            · exact(hne hj).elim
            · exact .inl (.inr hj)
            · exact .inr hj
        refine Kr hE hO (Array.getElem?_eq_getElem his) q1 hr fun a1 w1 g1 hr1 he1 hg1=>?_
        refine ih (l11++l12) l2 (listed.setIfInBounds i true) st1 stk a1 w1 g1 ?_ ?_ ?_ ?_ ?_ q2 hpa hr1 ?_ ?_
        · simp at hf ⊢;omega
        · refine hp.sublist ?_
          exact List.Sublist.append_right (List.Sublist.append_left (List.sublist_cons_self i l12) l11) _
        · simp[hs]
        · intro j
          rw[hmem j,←hl j]
          by_cases e:j=i
          · subst e
            have:j<listed.size:=by omega
            simp[Array.getD,this]
          · rw[getD_set_ne true (fun h=>e h.symm)]
            simp[e]
        · intro j hj hjn d hdk hdm
          have hd2:=((hmem d).1 hdm).1
          by_cases e:j=i
          · subst e
            exact hid d hdk hd2
          · exact hd j hj (fun h=>hjn ((hmem j).2 ⟨h,e⟩)) d hdk hd2
        · obtain⟨v1,e1⟩:=Nu q1
          refine⟨fun t ht=>?_,by rw[e1,QR];exact hag.2⟩
          have hx:l.toArray[i]?=some ops[i]:=by rw[hlo];exact Array.getElem?_eq_getElem his
          rw[e1,Hc (RK hks hx ht)]
          exact hag.1 t ht
        · intro a' fr' w' g' ha' hr' he' hg'
          exact hq a' fr' w' g' ha' hr' (he1.trans he') (hg1.trans hg')
      · rcases List.mem_cons.1 h1 with rfl|h2
        ·
          have hlk:∀j∈l1,∀x,ops[j]?=some x→LV E ops x=false∧Uv ops o x=false:=by
            intro j hj
            have hjk:j<i:=p3 j hj i (by simp)
            rcases(hpan j (by omega) (by omega)).1 hjk with h|h
            · exact(hnosub i hir hid j h (by simp[hj])).elim
            · exact h
          have hp0:=Lg l1 st stk hlk hst hpa
          unfold wpOp
          simp only[hok,Region.wanted,hgo,if_true]
          left
          exact U0 hp0 hr (fun w' g' hr' he hle=>hq _ _ _ _ hag hr' he hle)
        · exfalso
          have hki:k<i:=List.rel_of_pairwise_cons p2 h2
          exact hnosub i hir hid k ((hpan i his (by omega)).2 hki) hkmem
theorem KO(hE:E.Ok){orc:Option Tmp→Orc}(hO:GV E.toBase orc)(hP:E.P.follows .mixedOrders=true)(ks:List Nat){m n id k:Nat}{l:List Oper}(hks:SE ks l=true){o:Oper}(hk0:l[k]?=some o)(hg:o.guard=none)(T:List (List Nat))(hok1:Er l.toArray T=true)(hok2:NA E l.toArray T k=true)(hok3:Vw E l.toArray T k=true)
    {fr fr1:Fr} {σ σ1:Ad} {v:Value} {σ2:Ad} {K:C0}
    (h:BJ E orc true n l.toArray (l.take k) (fr,σ)=some (fr1,σ1)) (hp:MI E (ev (Am n fr1)) σ1 o.op v σ2) (hk:∀fr',fr'.length=n→(ks.map fun t=>ev fr' (.tmp t))=(ks.map fun t=>ev (Am n fr1) (.tmp t))→K (.panic (NH v)) ⟨fr',σ2⟩):Run E m (.region id l.toArray true) ⟨Am n fr,σ⟩ K:=by
  intro hcm a w g hr Q hq
  refine FE (GE hcm) (wp_region_any hP ?_)
  have hsm:SameMem w { w with drawn:=w.drawn+1 }:=⟨rfl,rfl,rfl,rfl⟩
  have hkl:=(List.getElem?_eq_some_iff.1 hk0).1
  have hsp:List.range l.length=List.range k++k::List.range' (k+1) (l.length-(k+1)):=by
    rw[List.range_eq_range',List.range_eq_range']
    have h1:List.range' 0 l.length=List.range' 0 k++List.range' (0+1*k) (l.length-k):=by
      rw[List.range'_append];congr 1;omega
    rw[h1]
    congr 1
    have:l.length-k=(l.length-(k+1))+1:=by omega
    rw[this,List.range'_succ]
    simp
  have hst:AF E orc l.toArray (List.range k) ⟨Am n fr,σ⟩=some ⟨Am n fr1,σ1⟩:=by
    have key:∀(q j:Nat) (fr fr':Fr) (σ σ':Ad),j+q≤l.length→BJ E orc true n l.toArray ((l.drop j).take q) (fr,σ)=some (fr',σ') →
        AF E orc l.toArray (List.range' j q) ⟨Am n fr,σ⟩=some ⟨Am n fr',σ'⟩:=by
      intro q
      induction q with
      | zero=>
        intro j fr fr' σ σ' _ h
        simp only[List.take_zero,BJ,Option.some.injEq,Prod.mk.injEq]at h
        obtain⟨rfl,rfl⟩:=h
        rfl
      | succ q ih=>
        intro j fr fr' σ σ' hle h
        have hj:j<l.length:=by omega
        rw[List.drop_eq_getElem_cons hj,List.take_succ_cons]at h
        simp only[BJ,Option.bind_eq_some_iff]at h
        obtain⟨⟨fr2,σ2⟩,h1,h2⟩:=h
        rw[List.range'_succ]
        unfold AF
        have:l.toArray[j]?=some l[j]:=by simp[hj]
        simp only[this,J0 h1,Option.bind_some]
        exact ih (j+1) _ _ _ _ (by omega) h2
    have:=key k 0 fr fr1 σ σ1 (by omega) (by simpa using h)
    rw[List.range_eq_range']
    exact this
  refine UJ hE hO hok1 hok2 hok3 (by simpa using hk0) hg rfl ks hks (Am n fr) l.toArray.size (List.range k) (List.range' (k+1) (l.length-(k+1))) _ _ _ a _ g ?_ ?_ (by simp) ?_ ?_ hst hp (G9 hr hsm) ⟨fun _ _=>rfl,rfl⟩ ?_
  · rw[←hsp];simp
  · rw[←hsp];exact List.pairwise_lt_range
  · intro j
    rw[←hsp,List.mem_range]
    by_cases h:j<l.length<;>simp[Array.getD,h]
  · intro i hi hin
    rw[←hsp]at hin
    exact(hin (List.mem_range.2 (by simpa using hi))).elim
  · intro a' fr' w' g' ha' hr' he hg
    exact hq _ _ _ _ _ (hk fr' (ha'.2.trans (FI _ _)) (List.map_congr_left fun t ht=>(ha'.1 t ht).trans (KS hks ht _ _ _ hst).symm)) hr' ((Evo.same hsm).trans (he.of_gle hg))
theorem Hr(hE:E.Ok)(hP:E.P.follows .mixedOrders=true)(ks:List Nat){vals:List AV}{m n id:Nat}{l:List Oper}(hks:SE ks l=true)(T:List (List Nat))(hok1:Er l.toArray T=true)(k:Nat)(hok2:NA E l.toArray T k=true)(hok3:Vw E l.toArray T k=true)(o:Oper){fr:Fr}{σ:Ad}{v:Value}{σ2:Ad}{K:C0}(hk0:l[k]?=some o)(hg:o.guard=none)
    (h:∃orc pl,GV E.toBase orc∧QQ E.toBase pl∧ZJ pl n ks o (Yy E orc true n l k (fr,σ))=some ((.val v,σ2),vals)) (hk:∀fr',fr'.length=n→(ks.map fun t=>ev fr' (.tmp t))=vals→K (.panic (NH v)) ⟨fr',σ2⟩):Run E m (.region id l.toArray true) ⟨Am n fr,σ⟩ K:=by
  obtain⟨orc,pl,hO,hPl,h⟩:=h
  cases hpre:Yy E orc true n l k (fr,σ)with
  |none=>rw[hpre]at h;cases h
  | some s=>
    rw[hpre]at h
    exact KO hE hO hP ks hks hk0 hg T hok1 hok2 hok3 hpre (ND hPl h).1 (fun fr' hl' h'=>hk fr' hl' (h'.trans (ND hPl h).2.symm))
theorem EI(hE:E.Ok)(hP:E.P.follows .mixedOrders=true)(ks:List Nat){vals:List AV}{m n id:Nat}{l:List Oper}(hks:SE ks l=true)(T:List (List Nat))(hok1:Er l.toArray T=true)(k:Nat)(hok2:NA E l.toArray T k=true)(hok3:Vw E l.toArray T k=true)(o:Oper){fr:Fr}{σ:Ad}{v:Value}{σ2:Ad}{K:C0}(hk0:l[k]?=some o)(hg:o.guard=none)
 (h:∃orc pl,GV E.toBase orc∧QQ E.toBase pl∧ZJ pl n ks o (Yy E orc true n l k (fr,σ))=some ((.val v,σ2),vals)) {y:Code} (hk:∀fr',fr'.length=n→(ks.map fun t=>ev fr' (.tmp t))=vals→K (.panic (NH v)) ⟨fr',σ2⟩):Run E m (.seq (.region id l.toArray true) y) ⟨Am n fr,σ⟩ K :=
 Fp (Hr hE hP ks hks T hok1 k hok2 hok3 o hk0 hg h hk)
end Go.Rv
