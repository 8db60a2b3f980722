/-
  Part 26.
-/
import Derived.Test.YtldngkmkhfddpaaGreatDoorYW25
namespace Go.Rv
set_option linter.unusedVariables false
set_option linter.unusedSimpArgs false
variable{f:FuncId}{args vals:List AV}{O O' σ1 σ2:Ac}{v:Value}{w:World}{g:Gh}{x:Int}{o:Oper}{st:St}{orc:Option Tmp->Orc}{m n id k:Nat}{l:List Oper}{fr:Fr}{K:CX}{t:TypeId}{ops:Array Oper}
variable {E:Env}
abbrev Oi(v:Value):List PanicEntry:=[{ v:=v,recovered:=false }]
structure Pan(B:Base)(f:FuncId)(args:List AV)(O:Ac)(v:Value)(σ2:Ac):Prop where
  call:∀(F:Addr->Prop) (w:World) (g:Gh) (vs:Array Value),Mem (B.env F) w g O->Cj w (Ay (B.env F) g) g vs.toList args ->
    DoCall B.P f vs w (fun e w'=>∃g',e=.panicked (Oi v)/\Mem (B.env F) w' g' σ2/\Evo (B.env F) O.length w g w' g')
inductive Outc
  |ret (r:AV) (O:Ac)
  |pan (v:Value) (O:Ac)
def PCon(B:Base)(f:FuncId)(args:List AV)(O:Ac):Outc->Prop
 |.ret r O'=>Con B f args O (fun r1 σ1=>r1=r/\σ1=O')
 |.pan v O'=>Pan B f args O v O'
theorem PCon.to{B:Base}{f:FuncId}{args:List AV}{O:Ac}{o:Outc}(h:PCon B f args O o){r:AV}{O':Ac}(ho:o=.ret r O'):Con B f args O (fun r1 σ1=>r1=r/\σ1=O'):=by
 subst ho;exact h
theorem PCon.pan{B:Base}{f:FuncId}{args:List AV}{O:Ac}{o:Outc}(h:PCon B f args O o){v:Value}{O':Ac}(ho:o=.pan v O'):Pan B f args O v O':=by
 subst ho;exact h
def Vz(E:Env)(f:FuncId)(args:List AV)(O:Ac)(v:Value)(O':Ac):Prop :=
 ∀(w:World) (g:Gh) (vs:Array Value),Mem E w g O->Cj w (Ay E g) g vs.toList args ->
  DoCall E.P f vs w (fun e w'=>∃g',e=.panicked (Oi v)/\Mem E w' g' O'/\GLe g g'/\Evo E 0 w g w' g')
theorem VP(h:Vz (E.toBase.env E.F) f args O v O'):Vz E f args O v O':=by
 refine fun w g vs hm ha=>(h w g vs (Agx hm) ha).mono ?_
 rintro e w' ⟨g',h1,h2,h3,h4⟩;exact⟨g',h1,AgB h2,h3,AgF h4⟩
theorem Zq{B:Base}{args1:List AV}(hcon:Pan B f args1 σ1 v σ2)(sel:List Nat)(hnd:sel.Nodup)(hO:Kh sel O sel σ1) (ha:wkA sel args args1) (hb:Cn σ2=true) (F:Addr->Prop):Vz (B.env F) f args O v (Ni O sel (σ2.map (AcH sel O.length))):=by
 refine fun w g vs hm har=>?_
 refine(Rs (Fin:=fun e w' pr g=>e=.panicked (Oi v)) (fun F w g vs hm har=>(hcon.call F w g vs hm har).mono ?_) sel hnd hO ha hb F hm har).mono ?_
 ·rintro e w' ⟨g',h1,h3,h4⟩;exact⟨g',h1,h3,h4⟩
 rintro e w' ⟨g',pr1,g1,h1,_,h3,h4,h6⟩;exact⟨g',h1,h3,h4,h6⟩
theorem Pu{B:Base}{args1:List AV}(hcon:Pan B f args1 σ1 v σ2)(sel:List Nat)(hnd:sel.Nodup)(hO:Kh sel O sel σ1) (ha:wkA sel args args1) (hb:Cn σ2=true) {O':Ac} (hs:Ni O sel (σ2.map (AcH sel O.length))=O'):∀F:Addr->Prop,Vz (B.env F) f args O v O':=by
 subst hs;exact Zq hcon sel hnd hO ha hb
def AnL:AV->Option Value
 |.int k z=>some (.int k z)
 |_=>none
def Ang:List AV->Option (List Value)
 |[]=>some []
 |x::xs=>match AnL x,Ang xs with
  |some u,some us=>some (u::us)
  |_,_=>none
def Ya:AV->Option Value
 |.int k z=>some (.int k z)
 |.agg cs=>(Ang cs).map fun l=>.agg l.toArray
 |_=>none
theorem Aev{pr:Addr->Prop}{u:Value}{x:AV}(h:Rep w pr g v x)(hx:AnL x=some u):v=u:=by
 unfold AnL at hx;split at hx
 ·cases hx;cases h;rfl
 cases hx
theorem Y4{w:World}{pr:Addr->Prop}{g:Gh}:∀{cs:List AV} {vs l:List Value},vs.length=cs.length->(∀(i:Nat) (x:AV),cs[i]?=some x->Rep w pr g (vs.getD i undef) x)->Ang cs=some l->vs=l
 |[],vs,l,hl,_,h=>by
  simp only[Ang,AqG]at h;subst h;exact Ari.1 hl
 |x::cs,[],l,hl,_,h=>by simp at hl
 | x::cs,v::vs,l,hl,hr,h=>by
  unfold Ang at h;split at h
  ·rename_i u us h1 h2;cases h;have e1:=Aev (by simpa using hr 0 x rfl) h1;have e2:=Y4 (cs:=cs) (vs:=vs) (by simpa using hl) (fun i y hy=>by simpa using hr (i+1) y (by simpa using hy)) h2;rw[e1,e2]
  cases h
theorem AhA{pr:Addr->Prop}{u:Value}{x:AV}(h:Rep w pr g v x)(hx:Ya x=some u):v=u:=by
 unfold Ya at hx;split at hx
 ·cases hx;cases h;rfl
 ·rw[AqE]at hx;obtain⟨l,h1,rfl⟩:=hx;cases h with
  | agg _ vs cs hs ho hr=>
   have:=Y4 (vs:=vs.toList) (by simpa using hs) (fun i y hy=>by
    have:=hr i y hy;simpa [AqY,Arv]using this) h1
   rw[<-this]
 cases hx
def AbX(f:AV)(args:List AV):Option (FuncId×List AV):=match f with
 |.fn fid []=>some (fid,args)
 |.fn fid [.tup xs]=>some (fid,xs++args)
 |.fn fid cs=>some (fid,args++cs)
 |_=>none
theorem ZU{fid:FuncId}{cs:List AV}(h1:cs≠[])(h2:∀xs,cs≠[.tup xs]):AbX (.fn fid cs) args=some (fid,args++cs):=by
 match cs,h1,h2 with
 |[],h,_=>exact absurd rfl h
 |[x],_,h=>cases x<;>first|rfl|exact absurd rfl (h _)
 |x::y::l,_,_=>cases x<;>rfl
def Ss(E:Env)(ρ:Operand->AV)(O:Ac)(op:Op)(v:Value)(O':Ac):Prop :=
 (∃x t p u,op=.panic x/\ρ x=.iface t p/\Ya p=some u/\v=.iface t u/\O'=O) \/
 (∃c f fid xs,op=.call c/\c.callee=.value f/\AbX (ρ f) (c.args.toList.map ρ)=some (fid,xs)/\Vz E fid xs O v O')
theorem Agm(h:Ss E (ev st.fr) st.O o.op v O'){a:Act}(hr:Rel E w g st a){next:Act->World->Prop}{Q:Exit->Act->World->Prop} (hk:∀w' g',Rel E w' g' ⟨st.fr,O'⟩ a->Evo E 0 w g w' g'->GLe g g'->Q (.panic (Oi v)) a w'):o.wp E.P a w next Q:=by
 rcases h with⟨x,t,p,u,hop,hx,hp,rfl,rfl⟩|⟨c,f,fid,xs,hop,hc,hf,hp⟩
 ·have hv:=DQ hr x;rw[hx]at hv
  have e:a.eval x=.iface t u:=by
   generalize a.eval x=y at hv;cases hv with
   |iface _ _ v _ h2=>rw[AhA h2 hp]
  unfold Oper.wp
  have:(execOp a.eval o).run E.P w=.halt (.panic (.iface t u)) w:=by
   unfold execOp;rw[hop];simp only[e];rfl
  rw[this,Oper.upon_panic];exact hk w g hr (Evo.refl _ _ _ _) (GLe.refl _)
 have hfv:=DQ hr f
 have fin:∀e w',(∃g',e=Ending.panicked (Oi v)/\Mem E w' g' O'/\GLe g g'/\Evo E 0 w g w' g')->match e with|.returned v=>next (a.put o.dst v) w'|.panicked ch=>Q (.panic ch) a w'|.outgrown=>LetsOut Q:=by
  rintro e w' ⟨g',rfl,hm',hle,he⟩;exact hk w' g' (IE hr hm' hle he) he hle
 unfold AbX at hf;split at hf
 ·rename_i fid' hfe;simp only[AqG,AqQ]at hf;obtain⟨rfl,rfl⟩:=hf;rw[hfe]at hfv;obtain⟨capv,hcv,hcr⟩:=Ei hfv
  have hcapv:capv=#[]:=by
   have:=Da hcr;apply Aso;simpa using this
  subst hcapv;refine HP (B:=E.toBase) hop hc hcv (hp w g (c.args.map a.eval++#[]) hr.mem ?_) fin;rw[Asq,ArK];exact Ea _ _ (DQ hr) _
 ·rename_i fid' ys hfe;simp only[AqG,AqQ]at hf;obtain⟨rfl,rfl⟩:=hf;rw[hfe]at hfv;obtain⟨fs,hcv,hcr⟩:=Od hfv;refine Pp (B:=E.toBase) hop hc hcv (hp w g (fs++c.args.map a.eval) hr.mem ?_) fin;rw[AsB,ArK];exact Fa hcr (Ea _ _ (DQ hr) _)
 ·rename_i fid' cs hn1 hn2 hfe;simp only[AqG,AqQ]at hf;obtain⟨rfl,rfl⟩:=hf;rw[hfe]at hfv;obtain⟨capv,hcv,hcr⟩:=Ei hfv (fun ys e=>hn2 ys e);refine HP (B:=E.toBase) hop hc hcv (hp w g (c.args.map a.eval++capv) hr.mem ?_) fin;rw[AsB,ArK];exact Fa (Ea _ _ (DQ hr) _) hcr
 cases hf
theorem Xg(fr:List AV)(d:Option Tmp)(v:AV):(AC fr d v).length=fr.length:=by cases d<;>simp[AC]
theorem Lh(n:Nat)(l:Fr):(Ah n l).length=n:=by simp[Ah]
theorem Z6{E:Env}(hE:E.Ok)(hO:H3 E.toBase orc)(hk0:l[k]?=some o)(hg:o.guard=none){fr1:Fr} (h:Cy E orc false n l.toArray (l.take k) (fr,O)=some (fr1,σ1)) (hp:Ss E (ev (Ah n fr1)) σ1 o.op v σ2) (hk:K (.panic (Oi v)) ⟨Ah n fr1,σ2⟩):Run E m (.region id l.toArray false) ⟨Ah n fr,O⟩ K:=by
 refine GR ?_;have hkl:=(AqD.1 hk0).1
 have hl:l=l.take k++(o::l.drop (k+1)):=by
  conv=>lhs;rw[<-ArV k l,Arq hkl]
  rw[(AqD.1 hk0).2]
 have:=JM (E:=E) (m:=m) (K:=K) (ops:=l.toArray) (rest:=o::l.drop (k+1)) hE hO (l.take k) fr O fr1 σ1 h (by
  intro hcm a w g hr Q hq;obtain⟨cm1,cm2⟩:=MN hcm;simp only[wpListIn,Region.wanted,hg,Aro];refine O6 ?_ cm1;refine Agm (st:=⟨Ah n fr1,σ1⟩) hp hr (fun w' g' hr' he hle=>?_);exact hq _ _ _ _ _ hk hr' (he.of_gle hle))
 rw[<-hl]at this;exact this
def TJ:AV->Option AV
 |.iface t p=>(Ya p).map fun u=>.val (.iface t u)
 |_=>none
theorem WR:TJ (.iface t (.agg [i64 x]))=some (.val (.iface t (.agg #[.int .i64 x]))):=rfl
theorem WA{y:Int}:TJ (.iface t (.agg [i64 x,i64 y]))=some (.val (.iface t (.agg #[.int .i64 x,.int .i64 y]))):=rfl
theorem YZ:TJ (.iface t (i64 x))=some (.val (.iface t (.int .i64 x))):=rfl
noncomputable def Wz(m:List (Nat×FuncId×List AV×Ac×AV×Ac))(n:Nat)(ks:List Nat)(o:Oper):Option (Fr×Ac)->Option ((AV×Ac)×List AV)
 | some (fr,O)=>match o.op with
  |.panic x=>(TJ (evL n fr x)).map fun u=>((u,O),ks.map fun t=>evL n fr (.tmp t))
  | .call c=>match c.callee with
   |.value f=>match evL n fr f with
    |.fn fid []=>(R6 m o.dst fid (c.args.toList.map (evL n fr)) O).map fun r=>(r,ks.map fun t=>evL n fr (.tmp t))
    |.fn fid [.tup xs]=>(R6 m o.dst fid (xs++c.args.toList.map (evL n fr)) O).map fun r=>(r,ks.map fun t=>evL n fr (.tmp t))
    |.fn fid cs=>(R6 m o.dst fid (c.args.toList.map (evL n fr)++cs) O).map fun r=>(r,ks.map fun t=>evL n fr (.tmp t))
    |_=>none
   |_=>none
  |_=>none
 |none=>none
def V5(B:Base):List (Nat×FuncId×List AV×Ac×AV×Ac)->Prop
 |[]=>True
 |e::l=>(∀v,e.2.2.2.2.1=.val v->∀F:Addr->Prop,Vz (B.env F) e.2.1 e.2.2.1 e.2.2.2.1 v e.2.2.2.2.2)/\V5 B l
theorem T4{B:Base}:∀{l:List (Nat×FuncId×List AV×Ac×AV×Ac)},V5 B l->∀d f a O v O',R6 l d f a O=some (.val v,O')->∀F:Addr->Prop,Vz (B.env F) f a O v O'
 |[],_,d,f,a,O,v,O',h=>by cases h
 | e::l,hl,d,f,a,O,v,O',h=>by
  unfold R6 at h;split at h
  ·split at h
   ·rename_i hfa;obtain⟨rfl,rfl,rfl⟩:=hfa;obtain⟨t,f,a,O,r2,σ2⟩:=e;cases h;exact hl.1 v rfl
   cases h
  exact T4 hl.2 d f a O v O' h
theorem RT{m:List (Nat×FuncId×List AV×Ac×AV×Ac)}(hm:V5 E.toBase m){ks:List Nat}(h:Wz m n ks o (some (fr,O))=some ((.val v,O'),vals)) :Ss E (ev (Ah n fr)) O o.op v O'/\vals=ks.map fun t=>ev (Ah n fr) (.tmp t):=by
 simp only[Wz]at h;rw[CG];split at h
 ·rename_i x hop;rw[AqE]at h;obtain⟨u,h1,h2⟩:=h;unfold TJ at h1;split at h1
  ·rename_i t p hx;rw[AqE]at h1;obtain⟨u',h1,h3⟩:=h1;subst h3;simp only[AqQ,AV.val.injEq]at h2;obtain⟨⟨rfl,rfl⟩,rfl⟩:=h2;exact⟨.inl ⟨x,t,p,u',hop,hx,h1,rfl,rfl⟩,rfl⟩
  cases h1
 ·rename_i c hop;split at h
  ·rename_i f hc;split at h
   ·rename_i fid hf;rw[AqE]at h;obtain⟨r,h,e⟩:=h;simp only[AqQ]at e;obtain⟨rfl,rfl⟩:=e;exact⟨.inr ⟨c,f,fid,_,hop,hc,by rw[hf];rfl,VP (T4 hm _ _ _ _ _ _ h E.F)⟩,rfl⟩
   ·rename_i fid xs hf;rw[AqE]at h;obtain⟨r,h,e⟩:=h;simp only[AqQ]at e;obtain⟨rfl,rfl⟩:=e;exact⟨.inr ⟨c,f,fid,_,hop,hc,by rw[hf];rfl,VP (T4 hm _ _ _ _ _ _ h E.F)⟩,rfl⟩
   ·rename_i fid cs hn1 hn2 hf;rw[AqE]at h;obtain⟨r,h,e⟩:=h;simp only[AqQ]at e;obtain⟨rfl,rfl⟩:=e;exact⟨.inr ⟨c,f,fid,_,hop,hc,by rw[hf];exact ZU (fun e=>hn1 e) (fun ys e=>hn2 ys e),VP (T4 hm _ _ _ _ _ _ h E.F)⟩,rfl⟩
   cases h
  cases h
 cases h
def VQ(E:Env)(orc:Option Tmp->Orc)(dr:Bool)(n:Nat)(l:List Oper)(k:Nat)(s:Fr×Ac):Option (Fr×Ac):=Cy E orc dr n l.toArray (l.take k) s
theorem AgZ{dr:Bool}{s:Fr×Ac}:VQ E orc dr n l k s=MQ E orc dr n l.toArray (l.take k) (some s):=by
 rw[KC];rfl
theorem E8(hE:E.Ok)(ks:List Nat)(k:Nat)(o:Oper)(hk0:l[k]?=some o)(hg:o.guard=none) (h:∃orc pl,H3 E.toBase orc/\V5 E.toBase pl/\Wz pl n ks o (VQ E orc false n l k (fr,O))=some ((.val v,σ2),vals)) (hk:∀fr',fr'.length=n->(ks.map fun t=>ev fr' (.tmp t))=vals->K (.panic (Oi v)) ⟨fr',σ2⟩):Run E m (.region id l.toArray false) ⟨Ah n fr,O⟩ K:=by
 obtain⟨orc,pl,hO,hP,h⟩:=h;cases hpre:VQ E orc false n l k (fr,O)with
 |none=>rw[hpre]at h;cases h
 |some s=>
  rw[hpre]at h;exact Z6 hE hO hk0 hg hpre (RT hP h).1 (hk _ (Lh _ _) (RT hP h).2.symm)
theorem OA(hE:E.Ok)(ks:List Nat)(k:Nat)(o:Oper)(hk0:l[k]?=some o)(hg:o.guard=none) (h:∃orc pl,H3 E.toBase orc/\V5 E.toBase pl/\Wz pl n ks o (VQ E orc false n l k (fr,O))=some ((.val v,σ2),vals)) {y:Code} (hk:∀fr',fr'.length=n->(ks.map fun t=>ev fr' (.tmp t))=vals->K (.panic (Oi v)) ⟨fr',σ2⟩):Run E m (.seq (.region id l.toArray false) y) ⟨Ah n fr,O⟩ K :=
 HM (E8 hE ks k o hk0 hg h hk)
def AbV(ops:Array Oper)(o x:Oper):Bool:=match x.dst with
 |some d=>(o.looksAt ops).contains d
 |none=>false
def Mf(E:Env)(ops:Array Oper)(T:List (List Nat))(k:Nat):Bool :=
 (List.range k).all fun i=>(List.range i).all fun j=>(T.getD i []).contains j||(match ops[j]?,ops[i]? with
  |some x,some y=>Ks E ops x y
  |_,_=>false)
def Vt(E:Env)(ops:Array Oper)(T:List (List Nat))(k:Nat):Bool:=match ops[k]? with
 |some o=>(List.range ops.size).all fun j=>j==k||(if j<k then(T.getD k []).contains j||(match ops[j]? with
  |some x=>!Nt E ops x&&!AbV ops o x
  |none=>false)else(T.getD j []).contains k)
 |none=>false
theorem Z8{ρ ρ':Operand->AV}{op:Op}(hρ:∀x∈op.operands,ρ x=ρ' x)(h:Ss E ρ O op v O'):Ss E ρ' O op v O':=by
 rcases h with⟨x,t,k,n,rfl,hx,hn,rfl,rfl⟩|⟨c,f,fid,xs,rfl,hc,hf,hp⟩
 ·exact .inl ⟨x,t,k,n,rfl,by rw[<-hρ x (by simp[Op.operands])];exact hx,hn,rfl,rfl⟩
 have hfo:f∈(Op.call c).operands:=by simp[Op.operands,Call.operands,hc]
 have hargs:c.args.toList.map ρ=c.args.toList.map ρ':=Ar5 fun x hx=>hρ x (by
  simp only[Op.operands,Call.operands];simp only[Array.mem_append,Array.mem_toList_iff]at hx ⊢;simp[hx])
 exact .inr ⟨c,f,fid,xs,rfl,hc,by rw[<-hρ f hfo,<-hargs];exact hf,hp⟩
theorem AaB{x:Oper}{st1:St}(he:Nt E ops x=false)(h:Cc E orc ops x st=some st1):st1.O=st.O/\∃v,st1.fr=AC st.fr x.dst v:=by
 unfold Cc at h;rw[AqE]at h;obtain⟨⟨v,O'⟩,hv,rfl⟩:=h;exact⟨CV he hv,v,rfl⟩
theorem Pi{orc:Option Tmp->Orc}{ops:Array Oper}{o:Oper}{v:Value}{O':Ac}:∀(l:List Nat) (st st1:St),(∀j∈l,∀x,ops[j]?=some x->Nt E ops x=false/\AbV ops o x=false) ->Bh E orc ops l st=some st1->Ss E (ev st1.fr) st1.O o.op v O'->Ss E (ev st.fr) st.O o.op v O'
 |[],st,st1,_,h,hp=>by
  simp only[Bh,AqG]at h;subst h;exact hp
 | i::l,st,st1,hl,h,hp=>by
  unfold Bh at h;cases hi:ops[i]? with
  |none=>simp[hi]at h
  |some x=>
   simp only[hi,AqK]at h;obtain⟨st2,h2,h3⟩:=h;have hp2:=Pi l st2 st1 (fun j hj=>hl j (Arn _ hj)) h3 hp;obtain⟨e1,e2⟩:=hl i Aq4 x hi;obtain⟨s1,u,s2⟩:=AaB e1 h2;rw[s1]at hp2;refine Z8 (fun y hy=>?_) hp2;rw[s2];refine N8 fun d hd hyd=>?_
   subst hyd;have:=PB (ops:=ops) hy;unfold AbV at e2;rw[hd]at e2;simp[this]at e2
def S6(ks:List Nat)(l:List Oper):Bool:=ks.all fun t=>l.all fun o=>o.dst != some t
theorem KI{fr:List AV}{d:Option Tmp}{v:AV}{t:Nat}(h:d≠some t):ev (AC fr d v) (.tmp t)=ev fr (.tmp t) :=
 N8 fun e he h2=>by cases h2;exact h he
theorem RD{x:Oper}{st1:St}(h:Cc E orc ops x st=some st1):∃v,st1.fr=AC st.fr x.dst v:=by
 unfold Cc at h;rw[AqE]at h;obtain⟨⟨v,O'⟩,hv,rfl⟩:=h;exact⟨v,rfl⟩
theorem X9{ks:List Nat}(hks:S6 ks l=true){i:Nat}{x:Oper}(hx:l.toArray[i]?=some x){t:Nat}(ht:t∈ks):x.dst≠some t:=by
 have h1:=AqW.1 hks t ht;have h2:=AqW.1 h1 x (AqO (by simpa using hx));simpa using h2
theorem PJ{orc:Option Tmp->Orc}{ks:List Nat}{l:List Oper}(hks:S6 ks l=true){t:Nat}(ht:t∈ks):∀(js:List Nat) (st st1:St),Bh E orc l.toArray js st=some st1->ev st1.fr (.tmp t)=ev st.fr (.tmp t)
 |[],st,st1,h=>by
  simp only[Bh,AqG]at h;subst h;rfl
 | i::js,st,st1,h=>by
  unfold Bh at h;cases hi:l.toArray[i]? with
  |none=>simp[hi]at h
  |some x=>
   simp only[hi,AqK]at h;obtain⟨st2,h2,h3⟩:=h;rw[PJ hks ht js st2 st1 h3];obtain⟨v,e⟩:=RD h2;rw[e,KI (X9 hks hi ht)]
theorem Ab4(hE:E.Ok)(hO:∀d,Qm E.toBase (orc d)){T:List (List Nat)}(hc:F3 ops T=true)(hm:Mf E ops T k=true)(hkp:Vt E ops T k=true)(hok:ops[k]?=some o)(hgo:o.guard=none) {v:Value} {O':Ac} {Q:Exit->Act->World->Prop} {l:List Oper} (hlo:l.toArray=ops) (ks:List Nat) (hks:S6 ks l=true) (fr0:List AV) :∀ (fuel:Nat) (l1 l2:List Nat) (listed:Array Bool) (st stk:St) (a:Act) (w:World) (g:Gh),(l1++k::l2).length=fuel->(l1++k::l2).Pairwise (·<·)->listed.size=ops.size ->(∀j,listed.getD j true=false↔j∈l1++k::l2)->(∀i,i<ops.size->i ∉ l1++k::l2->∀d∈FA ops i,d ∉ l1++k::l2) ->Bh E orc ops l1 st=some stk->Ss E (ev stk.fr) stk.O o.op v O'->Rel E w g st a->((∀t∈ks,ev st.fr (.tmp t)=ev fr0 (.tmp t))/\st.fr.length=fr0.length)->(∀a' fr' w' g',((∀t∈ks,ev fr' (.tmp t)=ev fr0 (.tmp t))/\fr'.length=fr0.length)->Rel E w' g' ⟨fr',O'⟩ a'->Evo E 0 w g w' g'->GLe g g'->Q (.panic (Oi v)) a' w') ->wpAny E.P .any ops Q fuel listed a w:=by
  have hksz:k<ops.size:=(AqS.1 hok).1
  have hin:∀(rem:List Nat) (listed:Array Bool),listed.size=ops.size->(∀j,listed.getD j true=false↔j∈rem)->∀j∈rem,j<ops.size:=by
    intro rem listed hs hl j hj;have:=(hl j).2 hj;by_cases e:j<listed.size
    · omega
    simp[Array.getD,e]at this
  have hgd:∀(rem:List Nat) (listed:Array Bool),listed.size=ops.size->(∀j,listed.getD j true=false↔j∈rem)->∀d,d<ops.size->(listed.getD d false=true↔d ∉ rem):=by
    intro rem listed hs hl d hd
    have h1:listed.getD d false=listed.getD d true:=by
      have:d<listed.size:=by omega
      simp[Array.getD,this]
    rw[h1,<-hl d];cases listed.getD d true<;>simp
  have hrd:∀(rem:List Nat) (listed:Array Bool),listed.size=ops.size->(∀j,listed.getD j true=false↔j∈rem)->∀i,
      (i∈Region.ready .any ops listed↔i∈rem/\∀d∈FA ops i,d ∉ rem):=by
    intro rem listed hs hl i;rw[mem_ready,hl i];constructor
    · rintro⟨h1,o,ho,h2⟩
      refine⟨h1,fun d hd=>?_⟩;have hlt:=Fg hc (hin rem listed hs hl i h1) hd;have hds:=Asy hlt (hin rem listed hs hl i h1);obtain⟨e,he,hb,rfl⟩:=(Gg ho).1 hd;exact(hgd rem listed hs hl _ hds).1 (h2 e he hb)
    rintro⟨h1,h2⟩;have hi:=hin rem listed hs hl i h1;refine⟨h1,ops[i],Aq2 hi,fun e he hb=>?_⟩;have hd:e.on∈FA ops i:=(Gg (Aq2 hi)).2 ⟨e,he,hb,rfl⟩;exact(hgd rem listed hs hl _ (Asy (Fg hc hi hd) hi)).2 (h2 _ hd)
  have hpan:∀j,j<ops.size->j≠k->(j<k->j∈T.getD k []\/∀x,ops[j]?=some x->Nt E ops x=false/\AbV ops o x=false)/\(k<j->k∈T.getD j []):=by
    intro j hj hne;unfold Vt at hkp;rw[hok]at hkp;have:=A6 hkp hj;simp only[Art,ArO,hne,false_or]at this;constructor
    · intro hlt
      rw[AqJ hlt]at this;simp only[Art,AqX]at this;rcases this with h|h
      · exact .inl h
      refine .inr fun x hx=>?_
      rw[hx]at h;simpa using h
    intro hlt;rw[AqI (by omega)]at this;simpa using this
  intro fuel
  induction fuel with
  | zero=>
    intro l1 l2 listed st stk a w g hf;simp at hf
  | succ fuel ih=>
    intro l1 l2 listed st stk a w g hf hp hs hl hd hst hpa hr hag hq;have hkmem:k∈l1++k::l2:=by simp
    have hnosub:∀i∈l1++k::l2,(∀d∈FA ops i,d ∉ l1++k::l2)->∀j∈T.getD i [],j ∉ l1++k::l2:=fun i hi hid j hj=>HL hc hd i (hin _ listed hs hl i hi) hid j hj
    refine⟨fun h=>?_,fun i hi=>?_⟩
    · exfalso
      have:∃i,i∈Region.ready .any ops listed:=by
        cases l1 with
        | nil=>
          refine⟨k,(hrd _ listed hs hl k).2 ⟨by simp,fun d hdk hm=>?_⟩⟩;have hlt:=Fg hc hksz hdk;rcases Aq9.1 hm with e|hm
          · omega
          have:=Arf (by simpa using hp) hm;omega
        | cons i0 l1'=>
          have hi0:i0<ops.size:=hin _ listed hs hl i0 (by simp);refine⟨i0,(hrd _ listed hs hl i0).2 ⟨by simp,fun d hdk hm=>?_⟩⟩;have hlt:=Fg hc hi0 hdk;rw[Aq7]at hm hp;rcases Aq9.1 hm with e|hm
          · omega
          have:=Arf hp hm;omega
      obtain⟨i,hi⟩:=this;rw[h]at hi;cases hi
    obtain ⟨hir,hid⟩:=(hrd _ listed hs hl i).1 hi;have his:=hin _ listed hs hl i hir;have hp':=hp;rw[Ark]at hp';obtain⟨p1,p2,p3⟩:=hp';rcases Aq3.1 hir with h1|h1
    ·
      obtain⟨l11,l12,rfl⟩:=AsY h1;have hik:i<k:=p3 i h1 k (by simp)
      have hcm:∀j∈l11,∀x,ops[j]?=some x->Ks E ops x ops[i]=true:=by
        intro j hj x hx
        have hji:j<i:=by
          rw[Ark]at p1;exact p1.2.2 j hj i Aq4
        have h1:=A6 (A6 hm hik) hji;simp only[Art,AqX]at h1;rcases h1 with h1|h1
        · exact(hnosub i hir hid j h1 (by simp[hj])).elim
        simp only[hx,Aq2 his]at h1;exact h1
      obtain⟨st1,q1,q2⟩:=It (Aq2 his) l11 st hcm hst
      have hmem:∀j,j∈(l11++l12)++k::l2↔j∈(l11++i::l12)++k::l2/\j≠i:=by
        have hnd:∀j∈(l11++l12)++k::l2,j≠i:=by
          intro j hj e;subst e;rw[Ark]at p1;obtain⟨a1,a2,a3⟩:=p1;rcases Aq3.1 hj with hj|hj
          · rcases Aq3.1 hj with hj|hj
            · have:=a3 j hj j Aq4;omega
            have:=Arf a2 hj;omega
          rcases Aq9.1 hj with e|hj
          · omega
          have:=p3 j h1 j (Arn _ hj);omega
        intro j;constructor
        · intro hj
          refine⟨?_,hnd j hj⟩;simp only[Aq3,Aq9]at hj ⊢;rcases hj with(hj|hj)|hj
          · exact .inl (.inl hj)
          · exact .inl (.inr (.inr hj))
          exact .inr hj
        rintro⟨hj,hne⟩;simp only[Aq3,Aq9]at hj ⊢;rcases hj with(hj|hj|hj)|hj
        · exact .inl (.inl hj)
        · exact(hne hj).elim
        · exact .inl (.inr hj)
        exact .inr hj
      refine OH hE hO (Aq2 his) q1 hr fun a1 w1 g1 hr1 he1 hg1=>?_
      refine ih (l11++l12) l2 (listed.setIfInBounds i true) st1 stk a1 w1 g1 ?_ ?_ ?_ ?_ ?_ q2 hpa hr1 ?_ ?_
      · simp at hf ⊢;omega
      · refine hp.sublist ?_
        exact Atn (Asx (AsE i l12) l11) _
      · simp[hs]
      · intro j
        rw[hmem j,<-hl j];by_cases e:j=i
        · subst e
          have:j<listed.size:=by omega
          simp[Array.getD,this]
        rw[getD_set_ne true (fun h=>e h.symm)];simp[e]
      · intro j hj hjn d hdk hdm
        have hd2:=((hmem d).1 hdm).1;by_cases e:j=i
        · subst e
          exact hid d hdk hd2
        exact hd j hj (fun h=>hjn ((hmem j).2 ⟨h,e⟩)) d hdk hd2
      · obtain⟨v1,e1⟩:=RD q1
        refine⟨fun t ht=>?_,by rw[e1,Xg];exact hag.2⟩;have hx:l.toArray[i]?=some ops[i]:=by rw[hlo];exact Aq2 his
        rw[e1,KI (X9 hks hx ht)];exact hag.1 t ht
      intro a' fr' w' g' ha' hr' he' hg';exact hq a' fr' w' g' ha' hr' (he1.trans he') (hg1.trans hg')
    rcases Aq9.1 h1 with rfl|h2
    ·
      have hlk:∀j∈l1,∀x,ops[j]?=some x->Nt E ops x=false/\AbV ops o x=false:=by
        intro j hj;have hjk:j<i:=p3 j hj i (by simp);rcases(hpan j (by omega) (by omega)).1 hjk with h|h
        · exact(hnosub i hir hid j h (by simp[hj])).elim
        exact h
      have hp0:=Pi l1 st stk hlk hst hpa;unfold wpOp;simp only[hok,Region.wanted,hgo,Aro];left;exact Agm hp0 hr (fun w' g' hr' he hle=>hq _ _ _ _ hag hr' he hle)
    exfalso;have hki:k<i:=Arf p2 h2;exact hnosub i hir hid k ((hpan i his (by omega)).2 hki) hkmem
theorem OY(hE:E.Ok)(hO:H3 E.toBase orc)(hP:E.P.follows .mixedOrders=true)(ks:List Nat)(hks:S6 ks l=true)(hk0:l[k]?=some o)(hg:o.guard=none)(T:List (List Nat))(hok1:F3 l.toArray T=true)(hok2:Mf E l.toArray T k=true)(hok3:Vt E l.toArray T k=true) {fr fr1:Fr} {O σ1:Ac} {v:Value} {σ2:Ac} {K:CX} (h:Cy E orc true n l.toArray (l.take k) (fr,O)=some (fr1,σ1)) (hp:Ss E (ev (Ah n fr1)) σ1 o.op v σ2) (hk:∀fr',fr'.length=n->(ks.map fun t=>ev fr' (.tmp t))=(ks.map fun t=>ev (Ah n fr1) (.tmp t))->K (.panic (Oi v)) ⟨fr',σ2⟩):Run E m (.region id l.toArray true) ⟨Ah n fr,O⟩ K:=by
 intro hcm a w g hr Q hq;refine Ik (JN hcm) (wp_region_any hP ?_);have hsm:SameMem w { w with drawn:=w.drawn+1 }:=⟨rfl,rfl,rfl,rfl⟩;have hkl:=(AqD.1 hk0).1
 have hsp:List.range l.length=List.range k++k::List.range' (k+1) (l.length-(k+1)):=by
  rw[ArQ,ArQ]
  have h1:List.range' 0 l.length=List.range' 0 k++List.range' (0+1*k) (l.length-k):=by
   rw[List.range'_append];congr 1;omega
  rw[h1];congr 1;have:l.length-k=(l.length-(k+1))+1:=by omega
  rw[this,List.range'_succ];simp
 have hst:Bh E orc l.toArray (List.range k) ⟨Ah n fr,O⟩=some ⟨Ah n fr1,σ1⟩:=by
  have key:∀(q j:Nat) (fr fr':Fr) (O O':Ac),j+q<=l.length->Cy E orc true n l.toArray ((l.drop j).take q) (fr,O)=some (fr',O') ->
    Bh E orc l.toArray (List.range' j q) ⟨Ah n fr,O⟩=some ⟨Ah n fr',O'⟩:=by
   intro q
   induction q with
   |zero=>
    intro j fr fr' O O' _ h;simp only[AtP,Cy,AqG,AqQ]at h;obtain⟨rfl,rfl⟩:=h;rfl
   |succ q ih=>
    intro j fr fr' O O' hle h;have hj:j<l.length:=by omega
    rw[Arq hj,Atc]at h;simp only[Cy,AqK]at h;obtain⟨⟨fr2,σ2⟩,h1,h2⟩:=h;rw[List.range'_succ];unfold Bh;have:l.toArray[j]?=some l[j]:=by simp[hj]
    simp only[this,Jg h1,ArL];exact ih (j+1) _ _ _ _ (by omega) h2
  have:=key k 0 fr fr1 O σ1 (by omega) (by simpa using h);rw[ArQ];exact this
 refine Ab4 hE hO hok1 hok2 hok3 (by simpa using hk0) hg rfl ks hks (Ah n fr) l.toArray.size (List.range k) (List.range' (k+1) (l.length-(k+1))) _ _ _ a _ g ?_ ?_ (by simp) ?_ ?_ hst hp (JU hr hsm) ⟨fun _ _=>rfl,rfl⟩ ?_
 ·rw[<-hsp];simp
 ·rw[<-hsp];exact Ar1
 ·intro j;rw[<-hsp,ArD];by_cases h:j<l.length<;>simp[Array.getD,h]
 ·intro i hi hin;rw[<-hsp]at hin;exact(hin (ArD.2 (by simpa using hi))).elim
 intro a' fr' w' g' ha' hr' he hg;exact hq _ _ _ _ _ (hk fr' (ha'.2.trans (Lh _ _)) (Ar5 fun t ht=>(ha'.1 t ht).trans (PJ hks ht _ _ _ hst).symm)) hr' ((Evo.same hsm).trans (he.of_gle hg))
theorem Qx(hE:E.Ok)(hP:E.P.follows .mixedOrders=true)(ks:List Nat)(hks:S6 ks l=true)(T:List (List Nat))(hok1:F3 l.toArray T=true)(k:Nat)(hok2:Mf E l.toArray T k=true)(hok3:Vt E l.toArray T k=true)(o:Oper)(hk0:l[k]?=some o)(hg:o.guard=none) (h:∃orc pl,H3 E.toBase orc/\V5 E.toBase pl/\Wz pl n ks o (VQ E orc true n l k (fr,O))=some ((.val v,σ2),vals)) (hk:∀fr',fr'.length=n->(ks.map fun t=>ev fr' (.tmp t))=vals->K (.panic (Oi v)) ⟨fr',σ2⟩):Run E m (.region id l.toArray true) ⟨Ah n fr,O⟩ K:=by
 obtain⟨orc,pl,hO,hPl,h⟩:=h;cases hpre:VQ E orc true n l k (fr,O)with
 |none=>rw[hpre]at h;cases h
 |some s=>
  rw[hpre]at h;exact OY hE hO hP ks hks hk0 hg T hok1 hok2 hok3 hpre (RT hPl h).1 (fun fr' hl' h'=>hk fr' hl' (h'.trans (RT hPl h).2.symm))
theorem X5(hE:E.Ok)(hP:E.P.follows .mixedOrders=true)(ks:List Nat)(hks:S6 ks l=true)(T:List (List Nat))(hok1:F3 l.toArray T=true)(k:Nat)(hok2:Mf E l.toArray T k=true)(hok3:Vt E l.toArray T k=true)(o:Oper)(hk0:l[k]?=some o)(hg:o.guard=none) (h:∃orc pl,H3 E.toBase orc/\V5 E.toBase pl/\Wz pl n ks o (VQ E orc true n l k (fr,O))=some ((.val v,σ2),vals)) {y:Code} (hk:∀fr',fr'.length=n->(ks.map fun t=>ev fr' (.tmp t))=vals->K (.panic (Oi v)) ⟨fr',σ2⟩):Run E m (.seq (.region id l.toArray true) y) ⟨Ah n fr,O⟩ K :=
 HM (Qx hE hP ks hks T hok1 k hok2 hok3 o hk0 hg h hk)
end Go.Rv
