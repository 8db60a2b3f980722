/-
  Part 26.
-/
import Derived.Test.YtldngkmkhfddpaaGreatDoorYV25
namespace Go.Rv
set_option linter.unusedVariables false
set_option linter.unusedSimpArgs false
variable{f:FuncId}{args vals:List AV}{O O' σ1 σ2:Ad}{v:Value}{w:World}{g:Gh}{x:Int}{o:Oper}{st:St}{orc:Option Tmp->Orc}{m n id k:Nat}{l:List Oper}{fr:Fr}{K:CX}{t:TypeId}{ops:Array Oper}
variable {E:Env}
abbrev U5(v:Value):List PanicEntry:=[{ v:=v,recovered:=false }]
structure Pan(B:Base)(f:FuncId)(args:List AV)(O:Ad)(v:Value)(σ2:Ad):Prop where
  call:∀(F:Addr->Prop) (w:World) (g:Gh) (vs:Array Value),Mem (B.env F) w g O->C8 w (A2 (B.env F) g) g vs.toList args ->
    DoCall B.P f vs w (fun e w'=>∃g',e=.panicked (U5 v)/\Mem (B.env F) w' g' σ2/\Evo (B.env F) O.length w g w' g')
inductive Outc
  |ret (r:AV) (O:Ad)
  |pan (v:Value) (O:Ad)
def PCon(B:Base)(f:FuncId)(args:List AV)(O:Ad):Outc->Prop
 |.ret r O'=>Con B f args O (fun r1 σ1=>r1=r/\σ1=O')
 |.pan v O'=>Pan B f args O v O'
theorem PCon.to{B:Base}{f:FuncId}{args:List AV}{O:Ad}{o:Outc}(h:PCon B f args O o){r:AV}{O':Ad}(ho:o=.ret r O'):Con B f args O (fun r1 σ1=>r1=r/\σ1=O'):=by
 subst ho;exact h
theorem PCon.pan{B:Base}{f:FuncId}{args:List AV}{O:Ad}{o:Outc}(h:PCon B f args O o){v:Value}{O':Ad}(ho:o=.pan v O'):Pan B f args O v O':=by
 subst ho;exact h
def AfC(E:Env)(f:FuncId)(args:List AV)(O:Ad)(v:Value)(O':Ad):Prop :=
 ∀(w:World) (g:Gh) (vs:Array Value),Mem E w g O->C8 w (A2 E g) g vs.toList args ->
  DoCall E.P f vs w (fun e w'=>∃g',e=.panicked (U5 v)/\Mem E w' g' O'/\GLe g g'/\Evo E 0 w g w' g')
theorem VL(h:AfC (E.toBase.env E.F) f args O v O'):AfC E f args O v O':=by
 refine fun w g vs hm ha=>(h w g vs (Afe hm) ha).mono ?_
 rintro e w' ⟨g',h1,h2,h3,h4⟩;exact⟨g',h1,Afl h2,h3,Afy h4⟩
theorem XK{B:Base}{args1:List AV}(hcon:Pan B f args1 σ1 v σ2)(sel:List Nat)(hnd:sel.Nodup)(hO:Im sel O sel σ1) (ha:wkA sel args args1) (hb:C7 σ2=true) (F:Addr->Prop):AfC (B.env F) f args O v (N6 O sel (σ2.map (AdP sel O.length))):=by
 refine fun w g vs hm har=>?_
 refine(Q5 (Fin:=fun e w' pr g=>e=.panicked (U5 v)) (fun F w g vs hm har=>(hcon.call F w g vs hm har).mono ?_) sel hnd hO ha hb F hm har).mono ?_
 ·rintro e w' ⟨g',h1,h3,h4⟩;exact⟨g',h1,h3,h4⟩
 rintro e w' ⟨g',pr1,g1,h1,_,h3,h4,h6⟩;exact⟨g',h1,h3,h4,h6⟩
theorem A5{B:Base}{args1:List AV}(hcon:Pan B f args1 σ1 v σ2)(sel:List Nat)(hnd:sel.Nodup)(hO:Im sel O sel σ1) (ha:wkA sel args args1) (hb:C7 σ2=true) {O':Ad} (hs:N6 O sel (σ2.map (AdP sel O.length))=O'):∀F:Addr->Prop,AfC (B.env F) f args O v O':=by
 subst hs;exact XK hcon sel hnd hO ha hb
def AmS:AV->Option Value
 |.int k z=>some (.int k z)
 |_=>none
def AjQ:List AV->Option (List Value)
 |[]=>some []
 |x::xs=>match AmS x,AjQ xs with
  |some u,some us=>some (u::us)
  |_,_=>none
def WU:AV->Option Value
 |.int k z=>some (.int k z)
 |.agg cs=>(AjQ cs).map fun l=>.agg l.toArray
 |_=>none
theorem Aev{pr:Addr->Prop}{u:Value}{x:AV}(h:Rep w pr g v x)(hx:AmS x=some u):v=u:=by
 unfold AmS at hx;split at hx
 ·cases hx;cases h;rfl
 cases hx
theorem W6{w:World}{pr:Addr->Prop}{g:Gh}:∀{cs:List AV} {vs l:List Value},vs.length=cs.length->(∀(i:Nat) (x:AV),cs[i]?=some x->Rep w pr g (vs.getD i undef) x)->AjQ cs=some l->vs=l
 |[],vs,l,hl,_,h=>by
  simp only[AjQ,Ao0]at h;subst h;exact ApF.1 hl
 |x::cs,[],l,hl,_,h=>by simp at hl
 | x::cs,v::vs,l,hl,hr,h=>by
  unfold AjQ at h;split at h
  ·rename_i u us h1 h2;cases h;have e1:=Aev (by simpa using hr 0 x rfl) h1;have e2:=W6 (cs:=cs) (vs:=vs) (by simpa using hl) (fun i y hy=>by simpa using hr (i+1) y (by simpa using hy)) h2;rw[e1,e2]
  cases h
theorem Agf{pr:Addr->Prop}{u:Value}{x:AV}(h:Rep w pr g v x)(hx:WU x=some u):v=u:=by
 unfold WU at hx;split at hx
 ·cases hx;cases h;rfl
 ·rw[AoY]at hx;obtain⟨l,h1,rfl⟩:=hx;cases h with
  | agg _ vs cs hs ho hr=>
   have:=W6 (vs:=vs.toList) (by simpa using hs) (fun i y hy=>by
    have:=hr i y hy;simpa [Apm,ApM]using this) h1
   rw[<-this]
 cases hx
def AbO(f:AV)(args:List AV):Option (FuncId×List AV):=match f with
 |.fn fid []=>some (fid,args)
 |.fn fid [.tup xs]=>some (fid,xs++args)
 |.fn fid cs=>some (fid,args++cs)
 |_=>none
theorem YG{fid:FuncId}{cs:List AV}(h1:cs≠[])(h2:∀xs,cs≠[.tup xs]):AbO (.fn fid cs) args=some (fid,args++cs):=by
 match cs,h1,h2 with
 |[],h,_=>exact absurd rfl h
 |[x],_,h=>cases x<;>first|rfl|exact absurd rfl (h _)
 |x::y::l,_,_=>cases x<;>rfl
def Sz(E:Env)(ρ:Operand->AV)(O:Ad)(op:Op)(v:Value)(O':Ad):Prop :=
 (∃x t p u,op=.panic x/\ρ x=.iface t p/\WU p=some u/\v=.iface t u/\O'=O) \/
 (∃c f fid xs,op=.call c/\c.callee=.value f/\AbO (ρ f) (c.args.toList.map ρ)=some (fid,xs)/\AfC E fid xs O v O')
theorem Afc(h:Sz E (ev st.fr) st.O o.op v O'){a:Act}(hr:Rel E w g st a){next:Act->World->Prop}{Q:Exit->Act->World->Prop} (hk:∀w' g',Rel E w' g' ⟨st.fr,O'⟩ a->Evo E 0 w g w' g'->GLe g g'->Q (.panic (U5 v)) a w'):o.wp E.P a w next Q:=by
 rcases h with⟨x,t,p,u,hop,hx,hp,rfl,rfl⟩|⟨c,f,fid,xs,hop,hc,hf,hp⟩
 ·have hv:=Ex hr x;rw[hx]at hv
  have e:a.eval x=.iface t u:=by
   generalize a.eval x=y at hv;cases hv with
   |iface _ _ v _ h2=>rw[Agf h2 hp]
  unfold Oper.wp
  have:(execOp a.eval o).run E.P w=.halt (.panic (.iface t u)) w:=by
   unfold execOp;rw[hop];simp only[e];rfl
  rw[this,Oper.upon_panic];exact hk w g hr (Evo.refl _ _ _ _) (GLe.refl _)
 have hfv:=Ex hr f
 have fin:∀e w',(∃g',e=Ending.panicked (U5 v)/\Mem E w' g' O'/\GLe g g'/\Evo E 0 w g w' g')->match e with|.returned v=>next (a.put o.dst v) w'|.panicked ch=>Q (.panic ch) a w'|.outgrown=>LetsOut Q:=by
  rintro e w' ⟨g',rfl,hm',hle,he⟩;exact hk w' g' (IA hr hm' hle he) he hle
 unfold AbO at hf;split at hf
 ·rename_i fid' hfe;simp only[Ao0,Apa]at hf;obtain⟨rfl,rfl⟩:=hf;rw[hfe]at hfv;obtain⟨capv,hcv,hcr⟩:=Ed hfv
  have hcapv:capv=#[]:=by
   have:=Dd hcr;apply AqF;simpa using this
  subst hcapv;refine Jh (B:=E.toBase) hop hc hcv (hp w g (c.args.map a.eval++#[]) hr.mem ?_) fin;rw[AqZ,Ap8];exact Ea _ _ (Ex hr) _
 ·rename_i fid' ys hfe;simp only[Ao0,Apa]at hf;obtain⟨rfl,rfl⟩:=hf;rw[hfe]at hfv;obtain⟨fs,hcv,hcr⟩:=NA hfv;refine P0 (B:=E.toBase) hop hc hcv (hp w g (fs++c.args.map a.eval) hr.mem ?_) fin;rw[AqS,Ap8];exact Fp hcr (Ea _ _ (Ex hr) _)
 ·rename_i fid' cs hn1 hn2 hfe;simp only[Ao0,Apa]at hf;obtain⟨rfl,rfl⟩:=hf;rw[hfe]at hfv;obtain⟨capv,hcv,hcr⟩:=Ed hfv (fun ys e=>hn2 ys e);refine Jh (B:=E.toBase) hop hc hcv (hp w g (c.args.map a.eval++capv) hr.mem ?_) fin;rw[AqS,Ap8];exact Fp (Ea _ _ (Ex hr) _) hcr
 cases hf
theorem Wj(fr:List AV)(d:Option Tmp)(v:AV):(Ay fr d v).length=fr.length:=by cases d<;>simp[Ay]
theorem Oe(n:Nat)(l:Fr):(Al n l).length=n:=by simp[Al]
theorem Yo{E:Env}(hE:E.Ok)(hO:Hh E.toBase orc)(hk0:l[k]?=some o)(hg:o.guard=none){fr1:Fr} (h:Ci E orc false n l.toArray (l.take k) (fr,O)=some (fr1,σ1)) (hp:Sz E (ev (Al n fr1)) σ1 o.op v σ2) (hk:K (.panic (U5 v)) ⟨Al n fr1,σ2⟩):Run E m (.region id l.toArray false) ⟨Al n fr,O⟩ K:=by
 refine GH ?_;have hkl:=(AoZ.1 hk0).1
 have hl:l=l.take k++(o::l.drop (k+1)):=by
  conv=>lhs;rw[<-Aqf k l,Ap6 hkl]
  rw[(AoZ.1 hk0).2]
 have:=JA (E:=E) (m:=m) (K:=K) (ops:=l.toArray) (rest:=o::l.drop (k+1)) hE hO (l.take k) fr O fr1 σ1 h (by
  intro hcm a w g hr Q hq;obtain⟨cm1,cm2⟩:=Md hcm;simp only[wpListIn,Region.wanted,hg,ApL];refine R9 ?_ cm1;refine Afc (st:=⟨Al n fr1,σ1⟩) hp hr (fun w' g' hr' he hle=>?_);exact hq _ _ _ _ _ hk hr' (he.of_gle hle))
 rw[<-hl]at this;exact this
def T4:AV->Option AV
 |.iface t p=>(WU p).map fun u=>.val (.iface t u)
 |_=>none
theorem Va:T4 (.iface t (.agg [i64 x]))=some (.val (.iface t (.agg #[.int .i64 x]))):=rfl
theorem UX{y:Int}:T4 (.iface t (.agg [i64 x,i64 y]))=some (.val (.iface t (.agg #[.int .i64 x,.int .i64 y]))):=rfl
theorem Ym:T4 (.iface t (i64 x))=some (.val (.iface t (.int .i64 x))):=rfl
noncomputable def Agw(m:List (Nat×FuncId×List AV×Ad×AV×Ad))(n:Nat)(ks:List Nat)(o:Oper):Option (Fr×Ad)->Option ((AV×Ad)×List AV)
 | some (fr,O)=>match o.op with
  |.panic x=>(T4 (evL n fr x)).map fun u=>((u,O),ks.map fun t=>evL n fr (.tmp t))
  | .call c=>match c.callee with
   |.value f=>match evL n fr f with
    |.fn fid []=>(Q9 m o.dst fid (c.args.toList.map (evL n fr)) O).map fun r=>(r,ks.map fun t=>evL n fr (.tmp t))
    |.fn fid [.tup xs]=>(Q9 m o.dst fid (xs++c.args.toList.map (evL n fr)) O).map fun r=>(r,ks.map fun t=>evL n fr (.tmp t))
    |.fn fid cs=>(Q9 m o.dst fid (c.args.toList.map (evL n fr)++cs) O).map fun r=>(r,ks.map fun t=>evL n fr (.tmp t))
    |_=>none
   |_=>none
  |_=>none
 |none=>none
def Wn(B:Base):List (Nat×FuncId×List AV×Ad×AV×Ad)->Prop
 |[]=>True
 |e::l=>(∀v,e.2.2.2.2.1=.val v->∀F:Addr->Prop,AfC (B.env F) e.2.1 e.2.2.1 e.2.2.2.1 v e.2.2.2.2.2)/\Wn B l
theorem R6{B:Base}:∀{l:List (Nat×FuncId×List AV×Ad×AV×Ad)},Wn B l->∀d f a O v O',Q9 l d f a O=some (.val v,O')->∀F:Addr->Prop,AfC (B.env F) f a O v O'
 |[],_,d,f,a,O,v,O',h=>by cases h
 | e::l,hl,d,f,a,O,v,O',h=>by
  unfold Q9 at h;split at h
  ·split at h
   ·rename_i hfa;obtain⟨rfl,rfl,rfl⟩:=hfa;obtain⟨t,f,a,O,r2,σ2⟩:=e;cases h;exact hl.1 v rfl
   cases h
  exact R6 hl.2 d f a O v O' h
theorem RK{m:List (Nat×FuncId×List AV×Ad×AV×Ad)}(hm:Wn E.toBase m){ks:List Nat}(h:Agw m n ks o (some (fr,O))=some ((.val v,O'),vals)) :Sz E (ev (Al n fr)) O o.op v O'/\vals=ks.map fun t=>ev (Al n fr) (.tmp t):=by
 simp only[Agw]at h;rw[CS];split at h
 ·rename_i x hop;rw[AoY]at h;obtain⟨u,h1,h2⟩:=h;unfold T4 at h1;split at h1
  ·rename_i t p hx;rw[AoY]at h1;obtain⟨u',h1,h3⟩:=h1;subst h3;simp only[Apa,AV.val.injEq]at h2;obtain⟨⟨rfl,rfl⟩,rfl⟩:=h2;exact⟨.inl ⟨x,t,p,u',hop,hx,h1,rfl,rfl⟩,rfl⟩
  cases h1
 ·rename_i c hop;split at h
  ·rename_i f hc;split at h
   ·rename_i fid hf;rw[AoY]at h;obtain⟨r,h,e⟩:=h;simp only[Apa]at e;obtain⟨rfl,rfl⟩:=e;exact⟨.inr ⟨c,f,fid,_,hop,hc,by rw[hf];rfl,VL (R6 hm _ _ _ _ _ _ h E.F)⟩,rfl⟩
   ·rename_i fid xs hf;rw[AoY]at h;obtain⟨r,h,e⟩:=h;simp only[Apa]at e;obtain⟨rfl,rfl⟩:=e;exact⟨.inr ⟨c,f,fid,_,hop,hc,by rw[hf];rfl,VL (R6 hm _ _ _ _ _ _ h E.F)⟩,rfl⟩
   ·rename_i fid cs hn1 hn2 hf;rw[AoY]at h;obtain⟨r,h,e⟩:=h;simp only[Apa]at e;obtain⟨rfl,rfl⟩:=e;exact⟨.inr ⟨c,f,fid,_,hop,hc,by rw[hf];exact YG (fun e=>hn1 e) (fun ys e=>hn2 ys e),VL (R6 hm _ _ _ _ _ _ h E.F)⟩,rfl⟩
   cases h
  cases h
 cases h
def Ag6(E:Env)(orc:Option Tmp->Orc)(dr:Bool)(n:Nat)(l:List Oper)(k:Nat)(s:Fr×Ad):Option (Fr×Ad):=Ci E orc dr n l.toArray (l.take k) s
theorem AfB{dr:Bool}{s:Fr×Ad}:Ag6 E orc dr n l k s=Mg E orc dr n l.toArray (l.take k) (some s):=by
 rw[Ku];rfl
theorem DI(hE:E.Ok)(ks:List Nat)(k:Nat)(o:Oper)(hk0:l[k]?=some o)(hg:o.guard=none) (h:∃orc pl,Hh E.toBase orc/\Wn E.toBase pl/\Agw pl n ks o (Ag6 E orc false n l k (fr,O))=some ((.val v,σ2),vals)) (hk:∀fr',fr'.length=n->(ks.map fun t=>ev fr' (.tmp t))=vals->K (.panic (U5 v)) ⟨fr',σ2⟩):Run E m (.region id l.toArray false) ⟨Al n fr,O⟩ K:=by
 obtain⟨orc,pl,hO,hP,h⟩:=h;cases hpre:Ag6 E orc false n l k (fr,O)with
 |none=>rw[hpre]at h;cases h
 |some s=>
  rw[hpre]at h;exact Yo hE hO hk0 hg hpre (RK hP h).1 (hk _ (Oe _ _) (RK hP h).2.symm)
theorem B9(hE:E.Ok)(ks:List Nat)(k:Nat)(o:Oper)(hk0:l[k]?=some o)(hg:o.guard=none) (h:∃orc pl,Hh E.toBase orc/\Wn E.toBase pl/\Agw pl n ks o (Ag6 E orc false n l k (fr,O))=some ((.val v,σ2),vals)) {y:Code} (hk:∀fr',fr'.length=n->(ks.map fun t=>ev fr' (.tmp t))=vals->K (.panic (U5 v)) ⟨fr',σ2⟩):Run E m (.seq (.region id l.toArray false) y) ⟨Al n fr,O⟩ K :=
 Hl (DI hE ks k o hk0 hg h hk)
def Acy(ops:Array Oper)(o x:Oper):Bool:=match x.dst with
 |some d=>(o.looksAt ops).contains d
 |none=>false
def RD(E:Env)(ops:Array Oper)(T:List (List Nat))(k:Nat):Bool :=
 (List.range k).all fun i=>(List.range i).all fun j=>(T.getD i []).contains j||(match ops[j]?,ops[i]? with
  |some x,some y=>Jq E ops x y
  |_,_=>false)
def Acg(E:Env)(ops:Array Oper)(T:List (List Nat))(k:Nat):Bool:=match ops[k]? with
 |some o=>(List.range ops.size).all fun j=>j==k||(if j<k then(T.getD k []).contains j||(match ops[j]? with
  |some x=>!MK E ops x&&!Acy ops o x
  |none=>false)else(T.getD j []).contains k)
 |none=>false
theorem Zv{ρ ρ':Operand->AV}{op:Op}(hρ:∀x∈op.operands,ρ x=ρ' x)(h:Sz E ρ O op v O'):Sz E ρ' O op v O':=by
 rcases h with⟨x,t,k,n,rfl,hx,hn,rfl,rfl⟩|⟨c,f,fid,xs,rfl,hc,hf,hp⟩
 ·exact .inl ⟨x,t,k,n,rfl,by rw[<-hρ x (by simp[Op.operands])];exact hx,hn,rfl,rfl⟩
 have hfo:f∈(Op.call c).operands:=by simp[Op.operands,Call.operands,hc]
 have hargs:c.args.toList.map ρ=c.args.toList.map ρ':=Aqn fun x hx=>hρ x (by
  simp only[Op.operands,Call.operands];simp only[Array.mem_append,Array.mem_toList_iff]at hx ⊢;simp[hx])
 exact .inr ⟨c,f,fid,xs,rfl,hc,by rw[<-hρ f hfo,<-hargs];exact hf,hp⟩
theorem Y4{x:Oper}{st1:St}(he:MK E ops x=false)(h:B6 E orc ops x st=some st1):st1.O=st.O/\∃v,st1.fr=Ay st.fr x.dst v:=by
 unfold B6 at h;rw[AoY]at h;obtain⟨⟨v,O'⟩,hv,rfl⟩:=h;exact⟨CO he hv,v,rfl⟩
theorem OL{orc:Option Tmp->Orc}{ops:Array Oper}{o:Oper}{v:Value}{O':Ad}:∀(l:List Nat) (st st1:St),(∀j∈l,∀x,ops[j]?=some x->MK E ops x=false/\Acy ops o x=false) ->AO E orc ops l st=some st1->Sz E (ev st1.fr) st1.O o.op v O'->Sz E (ev st.fr) st.O o.op v O'
 |[],st,st1,_,h,hp=>by
  simp only[AO,Ao0]at h;subst h;exact hp
 | i::l,st,st1,hl,h,hp=>by
  unfold AO at h;cases hi:ops[i]? with
  |none=>simp[hi]at h
  |some x=>
   simp only[hi,Ao3]at h;obtain⟨st2,h2,h3⟩:=h;have hp2:=OL l st2 st1 (fun j hj=>hl j (ApI _ hj)) h3 hp;obtain⟨e1,e2⟩:=hl i Apn x hi;obtain⟨s1,u,s2⟩:=Y4 e1 h2;rw[s1]at hp2;refine Zv (fun y hy=>?_) hp2;rw[s2];refine Nb fun d hd hyd=>?_
   subst hyd;have:=P9 (ops:=ops) hy;unfold Acy at e2;rw[hd]at e2;simp[this]at e2
def XM(ks:List Nat)(l:List Oper):Bool:=ks.all fun t=>l.all fun o=>o.dst != some t
theorem Km{fr:List AV}{d:Option Tmp}{v:AV}{t:Nat}(h:d≠some t):ev (Ay fr d v) (.tmp t)=ev fr (.tmp t) :=
 Nb fun e he h2=>by cases h2;exact h he
theorem Re{x:Oper}{st1:St}(h:B6 E orc ops x st=some st1):∃v,st1.fr=Ay st.fr x.dst v:=by
 unfold B6 at h;rw[AoY]at h;obtain⟨⟨v,O'⟩,hv,rfl⟩:=h;exact⟨v,rfl⟩
theorem WB{ks:List Nat}(hks:XM ks l=true){i:Nat}{x:Oper}(hx:l.toArray[i]?=some x){t:Nat}(ht:t∈ks):x.dst≠some t:=by
 have h1:=Api.1 hks t ht;have h2:=Api.1 h1 x (Ao8 (by simpa using hx));simpa using h2
theorem OH{orc:Option Tmp->Orc}{ks:List Nat}{l:List Oper}(hks:XM ks l=true){t:Nat}(ht:t∈ks):∀(js:List Nat) (st st1:St),AO E orc l.toArray js st=some st1->ev st1.fr (.tmp t)=ev st.fr (.tmp t)
 |[],st,st1,h=>by
  simp only[AO,Ao0]at h;subst h;rfl
 | i::js,st,st1,h=>by
  unfold AO at h;cases hi:l.toArray[i]? with
  |none=>simp[hi]at h
  |some x=>
   simp only[hi,Ao3]at h;obtain⟨st2,h2,h3⟩:=h;rw[OH hks ht js st2 st1 h3];obtain⟨v,e⟩:=Re h2;rw[e,Km (WB hks hi ht)]
theorem ZS(hE:E.Ok)(hO:∀d,Pb E.toBase (orc d)){T:List (List Nat)}(hc:FO ops T=true)(hm:RD E ops T k=true)(hkp:Acg E ops T k=true)(hok:ops[k]?=some o)(hgo:o.guard=none) {v:Value} {O':Ad} {Q:Exit->Act->World->Prop} {l:List Oper} (hlo:l.toArray=ops) (ks:List Nat) (hks:XM ks l=true) (fr0:List AV) :∀ (fuel:Nat) (l1 l2:List Nat) (listed:Array Bool) (st stk:St) (a:Act) (w:World) (g:Gh),(l1++k::l2).length=fuel->(l1++k::l2).Pairwise (·<·)->listed.size=ops.size ->(∀j,listed.getD j true=false↔j∈l1++k::l2)->(∀i,i<ops.size->i ∉ l1++k::l2->∀d∈F4 ops i,d ∉ l1++k::l2) ->AO E orc ops l1 st=some stk->Sz E (ev stk.fr) stk.O o.op v O'->Rel E w g st a->((∀t∈ks,ev st.fr (.tmp t)=ev fr0 (.tmp t))/\st.fr.length=fr0.length)->(∀a' fr' w' g',((∀t∈ks,ev fr' (.tmp t)=ev fr0 (.tmp t))/\fr'.length=fr0.length)->Rel E w' g' ⟨fr',O'⟩ a'->Evo E 0 w g w' g'->GLe g g'->Q (.panic (U5 v)) a' w') ->wpAny E.P .any ops Q fuel listed a w:=by
  have hksz:k<ops.size:=(Apd.1 hok).1
  have hin:∀(rem:List Nat) (listed:Array Bool),listed.size=ops.size->(∀j,listed.getD j true=false↔j∈rem)->∀j∈rem,j<ops.size:=by
    intro rem listed hs hl j hj;have:=(hl j).2 hj;by_cases e:j<listed.size
    · omega
    simp[Array.getD,e]at this
  have hgd:∀(rem:List Nat) (listed:Array Bool),listed.size=ops.size->(∀j,listed.getD j true=false↔j∈rem)->∀d,d<ops.size->(listed.getD d false=true↔d ∉ rem):=by
    intro rem listed hs hl d hd
    have h1:listed.getD d false=listed.getD d true:=by
      have:d<listed.size:=by omega
      simp[Array.getD,this]
    rw[h1,<-hl d];cases listed.getD d true<;>simp
  have hrd:∀(rem:List Nat) (listed:Array Bool),listed.size=ops.size->(∀j,listed.getD j true=false↔j∈rem)->∀i,
      (i∈Region.ready .any ops listed↔i∈rem/\∀d∈F4 ops i,d ∉ rem):=by
    intro rem listed hs hl i;rw[mem_ready,hl i];constructor
    · rintro⟨h1,o,ho,h2⟩
      refine⟨h1,fun d hd=>?_⟩;have hlt:=EY hc (hin rem listed hs hl i h1) hd;have hds:=AqO hlt (hin rem listed hs hl i h1);obtain⟨e,he,hb,rfl⟩:=(FT ho).1 hd;exact(hgd rem listed hs hl _ hds).1 (h2 e he hb)
    rintro⟨h1,h2⟩;have hi:=hin rem listed hs hl i h1;refine⟨h1,ops[i],Apk hi,fun e he hb=>?_⟩;have hd:e.on∈F4 ops i:=(FT (Apk hi)).2 ⟨e,he,hb,rfl⟩;exact(hgd rem listed hs hl _ (AqO (EY hc hi hd) hi)).2 (h2 _ hd)
  have hpan:∀j,j<ops.size->j≠k->(j<k->j∈T.getD k []\/∀x,ops[j]?=some x->MK E ops x=false/\Acy ops o x=false)/\(k<j->k∈T.getD j []):=by
    intro j hj hne;unfold Acg at hkp;rw[hok]at hkp;have:=As hkp hj;simp only[ApG,Ap9,hne,false_or]at this;constructor
    · intro hlt
      rw[Ao4 hlt]at this;simp only[ApG,Apg]at this;rcases this with h|h
      · exact .inl h
      refine .inr fun x hx=>?_
      rw[hx]at h;simpa using h
    intro hlt;rw[Ao6 (by omega)]at this;simpa using this
  intro fuel
  induction fuel with
  | zero=>
    intro l1 l2 listed st stk a w g hf;simp at hf
  | succ fuel ih=>
    intro l1 l2 listed st stk a w g hf hp hs hl hd hst hpa hr hag hq;have hkmem:k∈l1++k::l2:=by simp
    have hnosub:∀i∈l1++k::l2,(∀d∈F4 ops i,d ∉ l1++k::l2)->∀j∈T.getD i [],j ∉ l1++k::l2:=fun i hi hid j hj=>HH hc hd i (hin _ listed hs hl i hi) hid j hj
    refine⟨fun h=>?_,fun i hi=>?_⟩
    · exfalso
      have:∃i,i∈Region.ready .any ops listed:=by
        cases l1 with
        | nil=>
          refine⟨k,(hrd _ listed hs hl k).2 ⟨by simp,fun d hdk hm=>?_⟩⟩;have hlt:=EY hc hksz hdk;rcases Apq.1 hm with e|hm
          · omega
          have:=Apt (by simpa using hp) hm;omega
        | cons i0 l1'=>
          have hi0:i0<ops.size:=hin _ listed hs hl i0 (by simp);refine⟨i0,(hrd _ listed hs hl i0).2 ⟨by simp,fun d hdk hm=>?_⟩⟩;have hlt:=EY hc hi0 hdk;rw[Apo]at hm hp;rcases Apq.1 hm with e|hm
          · omega
          have:=Apt hp hm;omega
      obtain⟨i,hi⟩:=this;rw[h]at hi;cases hi
    obtain ⟨hir,hid⟩:=(hrd _ listed hs hl i).1 hi;have his:=hin _ listed hs hl i hir;have hp':=hp;rw[ApB]at hp';obtain⟨p1,p2,p3⟩:=hp';rcases Apl.1 hir with h1|h1
    ·
      obtain⟨l11,l12,rfl⟩:=Arf h1;have hik:i<k:=p3 i h1 k (by simp)
      have hcm:∀j∈l11,∀x,ops[j]?=some x->Jq E ops x ops[i]=true:=by
        intro j hj x hx
        have hji:j<i:=by
          rw[ApB]at p1;exact p1.2.2 j hj i Apn
        have h1:=As (As hm hik) hji;simp only[ApG,Apg]at h1;rcases h1 with h1|h1
        · exact(hnosub i hir hid j h1 (by simp[hj])).elim
        simp only[hx,Apk his]at h1;exact h1
      obtain⟨st1,q1,q2⟩:=Iq (Apk his) l11 st hcm hst
      have hmem:∀j,j∈(l11++l12)++k::l2↔j∈(l11++i::l12)++k::l2/\j≠i:=by
        have hnd:∀j∈(l11++l12)++k::l2,j≠i:=by
          intro j hj e;subst e;rw[ApB]at p1;obtain⟨a1,a2,a3⟩:=p1;rcases Apl.1 hj with hj|hj
          · rcases Apl.1 hj with hj|hj
            · have:=a3 j hj j Apn;omega
            have:=Apt a2 hj;omega
          rcases Apq.1 hj with e|hj
          · omega
          have:=p3 j h1 j (ApI _ hj);omega
        intro j;constructor
        · intro hj
          refine⟨?_,hnd j hj⟩;simp only[Apl,Apq]at hj ⊢;rcases hj with(hj|hj)|hj
          · exact .inl (.inl hj)
          · exact .inl (.inr (.inr hj))
          exact .inr hj
        rintro⟨hj,hne⟩;simp only[Apl,Apq]at hj ⊢;rcases hj with(hj|hj|hj)|hj
        · exact .inl (.inl hj)
        · exact(hne hj).elim
        · exact .inl (.inr hj)
        exact .inr hj
      refine On hE hO (Apk his) q1 hr fun a1 w1 g1 hr1 he1 hg1=>?_
      refine ih (l11++l12) l2 (listed.setIfInBounds i true) st1 stk a1 w1 g1 ?_ ?_ ?_ ?_ ?_ q2 hpa hr1 ?_ ?_
      · simp at hf ⊢;omega
      · refine hp.sublist ?_
        exact ArK (AqM (AqY i l12) l11) _
      · simp[hs]
      · intro j
        rw[hmem j,<-hl j];by_cases e:j=i
        · subst e
          have:j<listed.size:=by omega
          simp[Array.getD,this]
        rw[getD_set_ne true (fun h=>e h.symm)];simp[e]
      · intro j hj hjn d hdk hdm
        have hd2:=((hmem d).1 hdm).1;by_cases e:j=i
        · subst e
          exact hid d hdk hd2
        exact hd j hj (fun h=>hjn ((hmem j).2 ⟨h,e⟩)) d hdk hd2
      · obtain⟨v1,e1⟩:=Re q1
        refine⟨fun t ht=>?_,by rw[e1,Wj];exact hag.2⟩;have hx:l.toArray[i]?=some ops[i]:=by rw[hlo];exact Apk his
        rw[e1,Km (WB hks hx ht)];exact hag.1 t ht
      intro a' fr' w' g' ha' hr' he' hg';exact hq a' fr' w' g' ha' hr' (he1.trans he') (hg1.trans hg')
    rcases Apq.1 h1 with rfl|h2
    ·
      have hlk:∀j∈l1,∀x,ops[j]?=some x->MK E ops x=false/\Acy ops o x=false:=by
        intro j hj;have hjk:j<i:=p3 j hj i (by simp);rcases(hpan j (by omega) (by omega)).1 hjk with h|h
        · exact(hnosub i hir hid j h (by simp[hj])).elim
        exact h
      have hp0:=OL l1 st stk hlk hst hpa;unfold wpOp;simp only[hok,Region.wanted,hgo,ApL];left;exact Afc hp0 hr (fun w' g' hr' he hle=>hq _ _ _ _ hag hr' he hle)
    exfalso;have hki:k<i:=Apt p2 h2;exact hnosub i hir hid k ((hpan i his (by omega)).2 hki) hkmem
theorem O1(hE:E.Ok)(hO:Hh E.toBase orc)(hP:E.P.follows .mixedOrders=true)(ks:List Nat)(hks:XM ks l=true)(hk0:l[k]?=some o)(hg:o.guard=none)(T:List (List Nat))(hok1:FO l.toArray T=true)(hok2:RD E l.toArray T k=true)(hok3:Acg E l.toArray T k=true) {fr fr1:Fr} {O σ1:Ad} {v:Value} {σ2:Ad} {K:CX} (h:Ci E orc true n l.toArray (l.take k) (fr,O)=some (fr1,σ1)) (hp:Sz E (ev (Al n fr1)) σ1 o.op v σ2) (hk:∀fr',fr'.length=n->(ks.map fun t=>ev fr' (.tmp t))=(ks.map fun t=>ev (Al n fr1) (.tmp t))->K (.panic (U5 v)) ⟨fr',σ2⟩):Run E m (.region id l.toArray true) ⟨Al n fr,O⟩ K:=by
 intro hcm a w g hr Q hq;refine Hv (ID hcm) (wp_region_any hP ?_);have hsm:SameMem w { w with drawn:=w.drawn+1 }:=⟨rfl,rfl,rfl,rfl⟩;have hkl:=(AoZ.1 hk0).1
 have hsp:List.range l.length=List.range k++k::List.range' (k+1) (l.length-(k+1)):=by
  rw[Ap1,Ap1]
  have h1:List.range' 0 l.length=List.range' 0 k++List.range' (0+1*k) (l.length-k):=by
   rw[List.range'_append];congr 1;omega
  rw[h1];congr 1;have:l.length-k=(l.length-(k+1))+1:=by omega
  rw[this,List.range'_succ];simp
 have hst:AO E orc l.toArray (List.range k) ⟨Al n fr,O⟩=some ⟨Al n fr1,σ1⟩:=by
  have key:∀(q j:Nat) (fr fr':Fr) (O O':Ad),j+q<=l.length->Ci E orc true n l.toArray ((l.drop j).take q) (fr,O)=some (fr',O') ->
    AO E orc l.toArray (List.range' j q) ⟨Al n fr,O⟩=some ⟨Al n fr',O'⟩:=by
   intro q
   induction q with
   |zero=>
    intro j fr fr' O O' _ h;simp only[Asa,Ci,Ao0,Apa]at h;obtain⟨rfl,rfl⟩:=h;rfl
   |succ q ih=>
    intro j fr fr' O O' hle h;have hj:j<l.length:=by omega
    rw[Ap6 hj,Arx]at h;simp only[Ci,Ao3]at h;obtain⟨⟨fr2,σ2⟩,h1,h2⟩:=h;rw[List.range'_succ];unfold AO;have:l.toArray[j]?=some l[j]:=by simp[hj]
    simp only[this,IJ h1,ApX];exact ih (j+1) _ _ _ _ (by omega) h2
  have:=key k 0 fr fr1 O σ1 (by omega) (by simpa using h);rw[Ap1];exact this
 refine ZS hE hO hok1 hok2 hok3 (by simpa using hk0) hg rfl ks hks (Al n fr) l.toArray.size (List.range k) (List.range' (k+1) (l.length-(k+1))) _ _ _ a _ g ?_ ?_ (by simp) ?_ ?_ hst hp (Io hr hsm) ⟨fun _ _=>rfl,rfl⟩ ?_
 ·rw[<-hsp];simp
 ·rw[<-hsp];exact Aqc
 ·intro j;rw[<-hsp,ApK];by_cases h:j<l.length<;>simp[Array.getD,h]
 ·intro i hi hin;rw[<-hsp]at hin;exact(hin (ApK.2 (by simpa using hi))).elim
 intro a' fr' w' g' ha' hr' he hg;exact hq _ _ _ _ _ (hk fr' (ha'.2.trans (Oe _ _)) (Aqn fun t ht=>(ha'.1 t ht).trans (OH hks ht _ _ _ hst).symm)) hr' ((Evo.same hsm).trans (he.of_gle hg))
theorem Kp(hE:E.Ok)(hP:E.P.follows .mixedOrders=true)(ks:List Nat)(hks:XM ks l=true)(T:List (List Nat))(hok1:FO l.toArray T=true)(k:Nat)(hok2:RD E l.toArray T k=true)(hok3:Acg E l.toArray T k=true)(o:Oper)(hk0:l[k]?=some o)(hg:o.guard=none) (h:∃orc pl,Hh E.toBase orc/\Wn E.toBase pl/\Agw pl n ks o (Ag6 E orc true n l k (fr,O))=some ((.val v,σ2),vals)) (hk:∀fr',fr'.length=n->(ks.map fun t=>ev fr' (.tmp t))=vals->K (.panic (U5 v)) ⟨fr',σ2⟩):Run E m (.region id l.toArray true) ⟨Al n fr,O⟩ K:=by
 obtain⟨orc,pl,hO,hPl,h⟩:=h;cases hpre:Ag6 E orc true n l k (fr,O)with
 |none=>rw[hpre]at h;cases h
 |some s=>
  rw[hpre]at h;exact O1 hE hO hP ks hks hk0 hg T hok1 hok2 hok3 hpre (RK hPl h).1 (fun fr' hl' h'=>hk fr' hl' (h'.trans (RK hPl h).2.symm))
theorem AeF(hE:E.Ok)(hP:E.P.follows .mixedOrders=true)(ks:List Nat)(hks:XM ks l=true)(T:List (List Nat))(hok1:FO l.toArray T=true)(k:Nat)(hok2:RD E l.toArray T k=true)(hok3:Acg E l.toArray T k=true)(o:Oper)(hk0:l[k]?=some o)(hg:o.guard=none) (h:∃orc pl,Hh E.toBase orc/\Wn E.toBase pl/\Agw pl n ks o (Ag6 E orc true n l k (fr,O))=some ((.val v,σ2),vals)) {y:Code} (hk:∀fr',fr'.length=n->(ks.map fun t=>ev fr' (.tmp t))=vals->K (.panic (U5 v)) ⟨fr',σ2⟩):Run E m (.seq (.region id l.toArray true) y) ⟨Al n fr,O⟩ K :=
 Hl (Kp hE hP ks hks T hok1 k hok2 hok3 o hk0 hg h hk)
end Go.Rv
