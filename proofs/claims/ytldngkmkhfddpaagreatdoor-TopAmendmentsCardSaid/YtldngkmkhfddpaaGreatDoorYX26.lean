/-
  Part 26.
-/
import Derived.Test.YtldngkmkhfddpaaGreatDoorYX25
namespace Go.Rv
set_option linter.unusedVariables false
set_option linter.unusedSimpArgs false
variable{f:FuncId}{args vals:List AV}{O O' σ1 σ2:Ac}{v:Value}{w:World}{g:Gh}{x:Int}{o:Oper}{st:St}{orc:Option Tmp->Orc}{m n id k:Nat}{l:List Oper}{fr:Fr}{K:CO}{t:TypeId}{ops:Array Oper}
variable {E:Env}
abbrev NL(v:Value):List PanicEntry:=[{ v:=v,recovered:=false }]
structure Pan(B:Base)(f:FuncId)(args:List AV)(O:Ac)(v:Value)(σ2:Ac):Prop where
  call:∀(F:Addr->Prop) (w:World) (g:Gh) (vs:Array Value),Mem (B.env F) w g O->C4 w (A3 (B.env F) g) g vs.toList args ->
    DoCall B.P f vs w (fun e w'=>∃g',e=.panicked (NL v)/\Mem (B.env F) w' g' σ2/\Evo (B.env F) O.length w g w' g')
inductive Outc
  |ret (r:AV) (O:Ac)
  |pan (v:Value) (O:Ac)
def PCon(B:Base)(f:FuncId)(args:List AV)(O:Ac):Outc->Prop
 |.ret r O'=>Con B f args O (fun r1 σ1=>r1=r/\σ1=O')
 |.pan v O'=>Pan B f args O v O'
theorem PCon.to{B:Base}{f:FuncId}{args:List AV}{O:Ac}{o:Outc}(h:PCon B f args O o){r:AV}{O':Ac}(ho:o=.ret r O'):Con B f args O (fun r1 σ1=>r1=r/\σ1=O'):=by
 subst ho;exact h
theorem PCon.pan{B:Base}{f:FuncId}{args:List AV}{O:Ac}{o:Outc}(h:PCon B f args O o){v:Value}{O':Ac}(ho:o=.pan v O'):Pan B f args O v O':=by
 subst ho;exact h
def UB(E:Env)(f:FuncId)(args:List AV)(O:Ac)(v:Value)(O':Ac):Prop :=
 ∀(w:World) (g:Gh) (vs:Array Value),Mem E w g O->C4 w (A3 E g) g vs.toList args ->
  DoCall E.P f vs w (fun e w'=>∃g',e=.panicked (NL v)/\Mem E w' g' O'/\GLe g g'/\Evo E 0 w g w' g')
theorem UZ(h:UB (E.toBase.env E.F) f args O v O'):UB E f args O v O':=by
 refine fun w g vs hm ha=>(h w g vs (Afp hm) ha).mono ?_
 rintro e w' ⟨g',h1,h2,h3,h4⟩;exact⟨g',h1,Afm h2,h3,AfH h4⟩
theorem YN{B:Base}{args1:List AV}(hcon:Pan B f args1 σ1 v σ2)(sel:List Nat)(hnd:sel.Nodup)(hO:JI sel O sel σ1) (ha:wkA sel args args1) (hb:BU σ2=true) (F:Addr->Prop):UB (B.env F) f args O v (M6 O sel (σ2.map (AcC sel O.length))):=by
 refine fun w g vs hm har=>?_
 refine(QB (Fin:=fun e w' pr g=>e=.panicked (NL v)) (fun F w g vs hm har=>(hcon.call F w g vs hm har).mono ?_) sel hnd hO ha hb F hm har).mono ?_
 ·rintro e w' ⟨g',h1,h3,h4⟩;exact⟨g',h1,h3,h4⟩
 rintro e w' ⟨g',pr1,g1,h1,_,h3,h4,h6⟩;exact⟨g',h1,h3,h4,h6⟩
theorem Pl{B:Base}{args1:List AV}(hcon:Pan B f args1 σ1 v σ2)(sel:List Nat)(hnd:sel.Nodup)(hO:JI sel O sel σ1) (ha:wkA sel args args1) (hb:BU σ2=true) {O':Ac} (hs:M6 O sel (σ2.map (AcC sel O.length))=O'):∀F:Addr->Prop,UB (B.env F) f args O v O':=by
 subst hs;exact YN hcon sel hnd hO ha hb
def AmH:AV->Option Value
 |.int k z=>some (.int k z)
 |_=>none
def AjE:List AV->Option (List Value)
 |[]=>some []
 |x::xs=>match AmH x,AjE xs with
  |some u,some us=>some (u::us)
  |_,_=>none
def XD:AV->Option Value
 |.int k z=>some (.int k z)
 |.agg cs=>(AjE cs).map fun l=>.agg l.toArray
 |_=>none
theorem Ac8{pr:Addr->Prop}{u:Value}{x:AV}(h:Rep w pr g v x)(hx:AmH x=some u):v=u:=by
 unfold AmH at hx;split at hx
 ·cases hx;cases h;rfl
 cases hx
theorem WF{w:World}{pr:Addr->Prop}{g:Gh}:∀{cs:List AV} {vs l:List Value},vs.length=cs.length->(∀(i:Nat) (x:AV),cs[i]?=some x->Rep w pr g (vs.getD i undef) x)->AjE cs=some l->vs=l
 |[],vs,l,hl,_,h=>by
  simp only[AjE,Ao7]at h;subst h;exact ApM.1 hl
 |x::cs,[],l,hl,_,h=>by simp at hl
 | x::cs,v::vs,l,hl,hr,h=>by
  unfold AjE at h;split at h
  ·rename_i u us h1 h2;cases h;have e1:=Ac8 (by simpa using hr 0 x rfl) h1;have e2:=WF (cs:=cs) (vs:=vs) (by simpa using hl) (fun i y hy=>by simpa using hr (i+1) y (by simpa using hy)) h2;rw[e1,e2]
  cases h
theorem Ahq{pr:Addr->Prop}{u:Value}{x:AV}(h:Rep w pr g v x)(hx:XD x=some u):v=u:=by
 unfold XD at hx;split at hx
 ·cases hx;cases h;rfl
 ·rw[Ao5]at hx;obtain⟨l,h1,rfl⟩:=hx;cases h with
  | agg _ vs cs hs ho hr=>
   have:=WF (vs:=vs.toList) (by simpa using hs) (fun i y hy=>by
    have:=hr i y hy;simpa [Apt,ApU]using this) h1
   rw[<-this]
 cases hx
def Acw(f:AV)(args:List AV):Option (FuncId×List AV):=match f with
 |.fn fid []=>some (fid,args)
 |.fn fid [.tup xs]=>some (fid,xs++args)
 |.fn fid cs=>some (fid,args++cs)
 |_=>none
theorem YQ{fid:FuncId}{cs:List AV}(h1:cs≠[])(h2:∀xs,cs≠[.tup xs]):Acw (.fn fid cs) args=some (fid,args++cs):=by
 match cs,h1,h2 with
 |[],h,_=>exact absurd rfl h
 |[x],_,h=>cases x<;>first|rfl|exact absurd rfl (h _)
 |x::y::l,_,_=>cases x<;>rfl
def R3(E:Env)(ρ:Operand->AV)(O:Ac)(op:Op)(v:Value)(O':Ac):Prop :=
 (∃x t p u,op=.panic x/\ρ x=.iface t p/\XD p=some u/\v=.iface t u/\O'=O) \/
 (∃c f fid xs,op=.call c/\c.callee=.value f/\Acw (ρ f) (c.args.toList.map ρ)=some (fid,xs)/\UB E fid xs O v O')
theorem AfB(h:R3 E (ev st.fr) st.O o.op v O'){a:Act}(hr:Rel E w g st a){next:Act->World->Prop}{Q:Exit->Act->World->Prop} (hk:∀w' g',Rel E w' g' ⟨st.fr,O'⟩ a->Evo E 0 w g w' g'->GLe g g'->Q (.panic (NL v)) a w'):o.wp E.P a w next Q:=by
 rcases h with⟨x,t,p,u,hop,hx,hp,rfl,rfl⟩|⟨c,f,fid,xs,hop,hc,hf,hp⟩
 ·have hv:=En hr x;rw[hx]at hv
  have e:a.eval x=.iface t u:=by
   generalize a.eval x=y at hv;cases hv with
   |iface _ _ v _ h2=>rw[Ahq h2 hp]
  unfold Oper.wp
  have:(execOp a.eval o).run E.P w=.halt (.panic (.iface t u)) w:=by
   unfold execOp;rw[hop];simp only[e];rfl
  rw[this,Oper.upon_panic];exact hk w g hr (Evo.refl _ _ _ _) (GLe.refl _)
 have hfv:=En hr f
 have fin:∀e w',(∃g',e=Ending.panicked (NL v)/\Mem E w' g' O'/\GLe g g'/\Evo E 0 w g w' g')->match e with|.returned v=>next (a.put o.dst v) w'|.panicked ch=>Q (.panic ch) a w'|.outgrown=>LetsOut Q:=by
  rintro e w' ⟨g',rfl,hm',hle,he⟩;exact hk w' g' (Iy hr hm' hle he) he hle
 unfold Acw at hf;split at hf
 ·rename_i fid' hfe;simp only[Ao7,Apf]at hf;obtain⟨rfl,rfl⟩:=hf;rw[hfe]at hfv;obtain⟨capv,hcv,hcr⟩:=DZ hfv
  have hcapv:capv=#[]:=by
   have:=CY hcr;apply AqM;simpa using this
  subst hcapv;refine Jf (B:=E.toBase) hop hc hcv (hp w g (c.args.map a.eval++#[]) hr.mem ?_) fin;rw[Aq6,Aqe];exact DQ _ _ (En hr) _
 ·rename_i fid' ys hfe;simp only[Ao7,Apf]at hf;obtain⟨rfl,rfl⟩:=hf;rw[hfe]at hfv;obtain⟨fs,hcv,hcr⟩:=N8 hfv;refine OP (B:=E.toBase) hop hc hcv (hp w g (fs++c.args.map a.eval) hr.mem ?_) fin;rw[AqZ,Aqe];exact Fc hcr (DQ _ _ (En hr) _)
 ·rename_i fid' cs hn1 hn2 hfe;simp only[Ao7,Apf]at hf;obtain⟨rfl,rfl⟩:=hf;rw[hfe]at hfv;obtain⟨capv,hcv,hcr⟩:=DZ hfv (fun ys e=>hn2 ys e);refine Jf (B:=E.toBase) hop hc hcv (hp w g (c.args.map a.eval++capv) hr.mem ?_) fin;rw[AqZ,Aqe];exact Fc (DQ _ _ (En hr) _) hcr
 cases hf
theorem VL(fr:List AV)(d:Option Tmp)(v:AV):(Ay fr d v).length=fr.length:=by cases d<;>simp[Ay]
theorem Oc(n:Nat)(l:Fr):(Ai n l).length=n:=by simp[Ai]
theorem Yr{E:Env}(hE:E.Ok)(hO:He E.toBase orc)(hk0:l[k]?=some o)(hg:o.guard=none){fr1:Fr} (h:Cc E orc false n l.toArray (l.take k) (fr,O)=some (fr1,σ1)) (hp:R3 E (ev (Ai n fr1)) σ1 o.op v σ2) (hk:K (.panic (NL v)) ⟨Ai n fr1,σ2⟩):Run E m (.region id l.toArray false) ⟨Ai n fr,O⟩ K:=by
 refine G4 ?_;have hkl:=(Ao6.1 hk0).1
 have hl:l=l.take k++(o::l.drop (k+1)):=by
  conv=>lhs;rw[<-Aqm k l,Aqc hkl]
  rw[(Ao6.1 hk0).2]
 have:=J2 (E:=E) (m:=m) (K:=K) (ops:=l.toArray) (rest:=o::l.drop (k+1)) hE hO (l.take k) fr O fr1 σ1 h (by
  intro hcm a w g hr Q hq;obtain⟨cm1,cm2⟩:=Mp hcm;simp only[wpListIn,Region.wanted,hg,ApT];refine Sj ?_ cm1;refine AfB (st:=⟨Ai n fr1,σ1⟩) hp hr (fun w' g' hr' he hle=>?_);exact hq _ _ _ _ _ hk hr' (he.of_gle hle))
 rw[<-hl]at this;exact this
def TM:AV->Option AV
 |.iface t p=>(XD p).map fun u=>.val (.iface t u)
 |_=>none
theorem Vn:TM (.iface t (.agg [i64 x]))=some (.val (.iface t (.agg #[.int .i64 x]))):=rfl
theorem V8{y:Int}:TM (.iface t (.agg [i64 x,i64 y]))=some (.val (.iface t (.agg #[.int .i64 x,.int .i64 y]))):=rfl
theorem Yx:TM (.iface t (i64 x))=some (.val (.iface t (.int .i64 x))):=rfl
noncomputable def Wz(m:List (Nat×FuncId×List AV×Ac×AV×Ac))(n:Nat)(ks:List Nat)(o:Oper):Option (Fr×Ac)->Option ((AV×Ac)×List AV)
 | some (fr,O)=>match o.op with
  |.panic x=>(TM (evL n fr x)).map fun u=>((u,O),ks.map fun t=>evL n fr (.tmp t))
  | .call c=>match c.callee with
   |.value f=>match evL n fr f with
    |.fn fid []=>(Q5 m o.dst fid (c.args.toList.map (evL n fr)) O).map fun r=>(r,ks.map fun t=>evL n fr (.tmp t))
    |.fn fid [.tup xs]=>(Q5 m o.dst fid (xs++c.args.toList.map (evL n fr)) O).map fun r=>(r,ks.map fun t=>evL n fr (.tmp t))
    |.fn fid cs=>(Q5 m o.dst fid (c.args.toList.map (evL n fr)++cs) O).map fun r=>(r,ks.map fun t=>evL n fr (.tmp t))
    |_=>none
   |_=>none
  |_=>none
 |none=>none
def VJ(B:Base):List (Nat×FuncId×List AV×Ac×AV×Ac)->Prop
 |[]=>True
 |e::l=>(∀v,e.2.2.2.2.1=.val v->∀F:Addr->Prop,UB (B.env F) e.2.1 e.2.2.1 e.2.2.2.1 v e.2.2.2.2.2)/\VJ B l
theorem R0{B:Base}:∀{l:List (Nat×FuncId×List AV×Ac×AV×Ac)},VJ B l->∀d f a O v O',Q5 l d f a O=some (.val v,O')->∀F:Addr->Prop,UB (B.env F) f a O v O'
 |[],_,d,f,a,O,v,O',h=>by cases h
 | e::l,hl,d,f,a,O,v,O',h=>by
  unfold Q5 at h;split at h
  ·split at h
   ·rename_i hfa;obtain⟨rfl,rfl,rfl⟩:=hfa;obtain⟨t,f,a,O,r2,σ2⟩:=e;cases h;exact hl.1 v rfl
   cases h
  exact R0 hl.2 d f a O v O' h
theorem Sn{m:List (Nat×FuncId×List AV×Ac×AV×Ac)}(hm:VJ E.toBase m){ks:List Nat}(h:Wz m n ks o (some (fr,O))=some ((.val v,O'),vals)) :R3 E (ev (Ai n fr)) O o.op v O'/\vals=ks.map fun t=>ev (Ai n fr) (.tmp t):=by
 simp only[Wz]at h;rw[CN];split at h
 ·rename_i x hop;rw[Ao5]at h;obtain⟨u,h1,h2⟩:=h;unfold TM at h1;split at h1
  ·rename_i t p hx;rw[Ao5]at h1;obtain⟨u',h1,h3⟩:=h1;subst h3;simp only[Apf,AV.val.injEq]at h2;obtain⟨⟨rfl,rfl⟩,rfl⟩:=h2;exact⟨.inl ⟨x,t,p,u',hop,hx,h1,rfl,rfl⟩,rfl⟩
  cases h1
 ·rename_i c hop;split at h
  ·rename_i f hc;split at h
   ·rename_i fid hf;rw[Ao5]at h;obtain⟨r,h,e⟩:=h;simp only[Apf]at e;obtain⟨rfl,rfl⟩:=e;exact⟨.inr ⟨c,f,fid,_,hop,hc,by rw[hf];rfl,UZ (R0 hm _ _ _ _ _ _ h E.F)⟩,rfl⟩
   ·rename_i fid xs hf;rw[Ao5]at h;obtain⟨r,h,e⟩:=h;simp only[Apf]at e;obtain⟨rfl,rfl⟩:=e;exact⟨.inr ⟨c,f,fid,_,hop,hc,by rw[hf];rfl,UZ (R0 hm _ _ _ _ _ _ h E.F)⟩,rfl⟩
   ·rename_i fid cs hn1 hn2 hf;rw[Ao5]at h;obtain⟨r,h,e⟩:=h;simp only[Apf]at e;obtain⟨rfl,rfl⟩:=e;exact⟨.inr ⟨c,f,fid,_,hop,hc,by rw[hf];exact YQ (fun e=>hn1 e) (fun ys e=>hn2 ys e),UZ (R0 hm _ _ _ _ _ _ h E.F)⟩,rfl⟩
   cases h
  cases h
 cases h
def W1(E:Env)(orc:Option Tmp->Orc)(dr:Bool)(n:Nat)(l:List Oper)(k:Nat)(s:Fr×Ac):Option (Fr×Ac):=Cc E orc dr n l.toArray (l.take k) s
theorem AhM{dr:Bool}{s:Fr×Ac}:W1 E orc dr n l k s=Mt E orc dr n l.toArray (l.take k) (some s):=by
 rw[Kj];rfl
theorem Gj(hE:E.Ok)(ks:List Nat)(k:Nat)(o:Oper)(hk0:l[k]?=some o)(hg:o.guard=none) (h:∃orc pl,He E.toBase orc/\VJ E.toBase pl/\Wz pl n ks o (W1 E orc false n l k (fr,O))=some ((.val v,σ2),vals)) (hk:∀fr',fr'.length=n->(ks.map fun t=>ev fr' (.tmp t))=vals->K (.panic (NL v)) ⟨fr',σ2⟩):Run E m (.region id l.toArray false) ⟨Ai n fr,O⟩ K:=by
 obtain⟨orc,pl,hO,hP,h⟩:=h;cases hpre:W1 E orc false n l k (fr,O)with
 |none=>rw[hpre]at h;cases h
 |some s=>
  rw[hpre]at h;exact Yr hE hO hk0 hg hpre (Sn hP h).1 (hk _ (Oc _ _) (Sn hP h).2.symm)
theorem Od(hE:E.Ok)(ks:List Nat)(k:Nat)(o:Oper)(hk0:l[k]?=some o)(hg:o.guard=none) (h:∃orc pl,He E.toBase orc/\VJ E.toBase pl/\Wz pl n ks o (W1 E orc false n l k (fr,O))=some ((.val v,σ2),vals)) {y:Code} (hk:∀fr',fr'.length=n->(ks.map fun t=>ev fr' (.tmp t))=vals->K (.panic (NL v)) ⟨fr',σ2⟩):Run E m (.seq (.region id l.toArray false) y) ⟨Ai n fr,O⟩ K :=
 Hh (Gj hE ks k o hk0 hg h hk)
def Aaa(ops:Array Oper)(o x:Oper):Bool:=match x.dst with
 |some d=>(o.looksAt ops).contains d
 |none=>false
def Lu(E:Env)(ops:Array Oper)(T:List (List Nat))(k:Nat):Bool :=
 (List.range k).all fun i=>(List.range i).all fun j=>(T.getD i []).contains j||(match ops[j]?,ops[i]? with
  |some x,some y=>J9 E ops x y
  |_,_=>false)
def TF(E:Env)(ops:Array Oper)(T:List (List Nat))(k:Nat):Bool:=match ops[k]? with
 |some o=>(List.range ops.size).all fun j=>j==k||(if j<k then(T.getD k []).contains j||(match ops[j]? with
  |some x=>!Nl E ops x&&!Aaa ops o x
  |none=>false)else(T.getD j []).contains k)
 |none=>false
theorem XO{ρ ρ':Operand->AV}{op:Op}(hρ:∀x∈op.operands,ρ x=ρ' x)(h:R3 E ρ O op v O'):R3 E ρ' O op v O':=by
 rcases h with⟨x,t,k,n,rfl,hx,hn,rfl,rfl⟩|⟨c,f,fid,xs,rfl,hc,hf,hp⟩
 ·exact .inl ⟨x,t,k,n,rfl,by rw[<-hρ x (by simp[Op.operands])];exact hx,hn,rfl,rfl⟩
 have hfo:f∈(Op.call c).operands:=by simp[Op.operands,Call.operands,hc]
 have hargs:c.args.toList.map ρ=c.args.toList.map ρ':=Aqu fun x hx=>hρ x (by
  simp only[Op.operands,Call.operands];simp only[Array.mem_append,Array.mem_toList_iff]at hx ⊢;simp[hx])
 exact .inr ⟨c,f,fid,xs,rfl,hc,by rw[<-hρ f hfo,<-hargs];exact hf,hp⟩
theorem YR{x:Oper}{st1:St}(he:Nl E ops x=false)(h:Bw E orc ops x st=some st1):st1.O=st.O/\∃v,st1.fr=Ay st.fr x.dst v:=by
 unfold Bw at h;rw[Ao5]at h;obtain⟨⟨v,O'⟩,hv,rfl⟩:=h;exact⟨CH he hv,v,rfl⟩
theorem Oy{orc:Option Tmp->Orc}{ops:Array Oper}{o:Oper}{v:Value}{O':Ac}:∀(l:List Nat) (st st1:St),(∀j∈l,∀x,ops[j]?=some x->Nl E ops x=false/\Aaa ops o x=false) ->AK E orc ops l st=some st1->R3 E (ev st1.fr) st1.O o.op v O'->R3 E (ev st.fr) st.O o.op v O'
 |[],st,st1,_,h,hp=>by
  simp only[AK,Ao7]at h;subst h;exact hp
 | i::l,st,st1,hl,h,hp=>by
  unfold AK at h;cases hi:ops[i]? with
  |none=>simp[hi]at h
  |some x=>
   simp only[hi,Apa]at h;obtain⟨st2,h2,h3⟩:=h;have hp2:=Oy l st2 st1 (fun j hj=>hl j (ApP _ hj)) h3 hp;obtain⟨e1,e2⟩:=hl i Apu x hi;obtain⟨s1,u,s2⟩:=YR e1 h2;rw[s1]at hp2;refine XO (fun y hy=>?_) hp2;rw[s2];refine MK fun d hd hyd=>?_
   subst hyd;have:=Pr (ops:=ops) hy;unfold Aaa at e2;rw[hd]at e2;simp[this]at e2
def RX(ks:List Nat)(l:List Oper):Bool:=ks.all fun t=>l.all fun o=>o.dst != some t
theorem Ke{fr:List AV}{d:Option Tmp}{v:AV}{t:Nat}(h:d≠some t):ev (Ay fr d v) (.tmp t)=ev fr (.tmp t) :=
 MK fun e he h2=>by cases h2;exact h he
theorem So{x:Oper}{st1:St}(h:Bw E orc ops x st=some st1):∃v,st1.fr=Ay st.fr x.dst v:=by
 unfold Bw at h;rw[Ao5]at h;obtain⟨⟨v,O'⟩,hv,rfl⟩:=h;exact⟨v,rfl⟩
theorem WR{ks:List Nat}(hks:RX ks l=true){i:Nat}{x:Oper}(hx:l.toArray[i]?=some x){t:Nat}(ht:t∈ks):x.dst≠some t:=by
 have h1:=App.1 hks t ht;have h2:=App.1 h1 x (Apg (by simpa using hx));simpa using h2
theorem Oz{orc:Option Tmp->Orc}{ks:List Nat}{l:List Oper}(hks:RX ks l=true){t:Nat}(ht:t∈ks):∀(js:List Nat) (st st1:St),AK E orc l.toArray js st=some st1->ev st1.fr (.tmp t)=ev st.fr (.tmp t)
 |[],st,st1,h=>by
  simp only[AK,Ao7]at h;subst h;rfl
 | i::js,st,st1,h=>by
  unfold AK at h;cases hi:l.toArray[i]? with
  |none=>simp[hi]at h
  |some x=>
   simp only[hi,Apa]at h;obtain⟨st2,h2,h3⟩:=h;rw[Oz hks ht js st2 st1 h3];obtain⟨v,e⟩:=So h2;rw[e,Ke (WR hks hi ht)]
theorem ZP(hE:E.Ok)(hO:∀d,OW E.toBase (orc d)){T:List (List Nat)}(hc:EX ops T=true)(hm:Lu E ops T k=true)(hkp:TF E ops T k=true)(hok:ops[k]?=some o)(hgo:o.guard=none) {v:Value} {O':Ac} {Q:Exit->Act->World->Prop} {l:List Oper} (hlo:l.toArray=ops) (ks:List Nat) (hks:RX ks l=true) (fr0:List AV) :∀ (fuel:Nat) (l1 l2:List Nat) (listed:Array Bool) (st stk:St) (a:Act) (w:World) (g:Gh),(l1++k::l2).length=fuel->(l1++k::l2).Pairwise (·<·)->listed.size=ops.size ->(∀j,listed.getD j true=false↔j∈l1++k::l2)->(∀i,i<ops.size->i ∉ l1++k::l2->∀d∈F3 ops i,d ∉ l1++k::l2) ->AK E orc ops l1 st=some stk->R3 E (ev stk.fr) stk.O o.op v O'->Rel E w g st a->((∀t∈ks,ev st.fr (.tmp t)=ev fr0 (.tmp t))/\st.fr.length=fr0.length)->(∀a' fr' w' g',((∀t∈ks,ev fr' (.tmp t)=ev fr0 (.tmp t))/\fr'.length=fr0.length)->Rel E w' g' ⟨fr',O'⟩ a'->Evo E 0 w g w' g'->GLe g g'->Q (.panic (NL v)) a' w') ->wpAny E.P .any ops Q fuel listed a w:=by
  have hksz:k<ops.size:=(Apl.1 hok).1
  have hin:∀(rem:List Nat) (listed:Array Bool),listed.size=ops.size->(∀j,listed.getD j true=false↔j∈rem)->∀j∈rem,j<ops.size:=by
    intro rem listed hs hl j hj;have:=(hl j).2 hj;by_cases e:j<listed.size
    · omega
    simp[Array.getD,e]at this
  have hgd:∀(rem:List Nat) (listed:Array Bool),listed.size=ops.size->(∀j,listed.getD j true=false↔j∈rem)->∀d,d<ops.size->(listed.getD d false=true↔d ∉ rem):=by
    intro rem listed hs hl d hd
    have h1:listed.getD d false=listed.getD d true:=by
      have:d<listed.size:=by omega
      simp[Array.getD,this]
    rw[h1,<-hl d];cases listed.getD d true<;>simp
  have hrd:∀(rem:List Nat) (listed:Array Bool),listed.size=ops.size->(∀j,listed.getD j true=false↔j∈rem)->∀i,
      (i∈Region.ready .any ops listed↔i∈rem/\∀d∈F3 ops i,d ∉ rem):=by
    intro rem listed hs hl i;rw[mem_ready,hl i];constructor
    · rintro⟨h1,o,ho,h2⟩
      refine⟨h1,fun d hd=>?_⟩;have hlt:=Ff hc (hin rem listed hs hl i h1) hd;have hds:=AqV hlt (hin rem listed hs hl i h1);obtain⟨e,he,hb,rfl⟩:=(FQ ho).1 hd;exact(hgd rem listed hs hl _ hds).1 (h2 e he hb)
    rintro⟨h1,h2⟩;have hi:=hin rem listed hs hl i h1;refine⟨h1,ops[i],Apr hi,fun e he hb=>?_⟩;have hd:e.on∈F3 ops i:=(FQ (Apr hi)).2 ⟨e,he,hb,rfl⟩;exact(hgd rem listed hs hl _ (AqV (Ff hc hi hd) hi)).2 (h2 _ hd)
  have hpan:∀j,j<ops.size->j≠k->(j<k->j∈T.getD k []\/∀x,ops[j]?=some x->Nl E ops x=false/\Aaa ops o x=false)/\(k<j->k∈T.getD j []):=by
    intro j hj hne;unfold TF at hkp;rw[hok]at hkp;have:=As hkp hj;simp only[ApN,Aqg,hne,false_or]at this;constructor
    · intro hlt
      rw[Apb hlt]at this;simp only[ApN,Apo]at this;rcases this with h|h
      · exact .inl h
      refine .inr fun x hx=>?_
      rw[hx]at h;simpa using h
    intro hlt;rw[Apd (by omega)]at this;simpa using this
  intro fuel
  induction fuel with
  | zero=>
    intro l1 l2 listed st stk a w g hf;simp at hf
  | succ fuel ih=>
    intro l1 l2 listed st stk a w g hf hp hs hl hd hst hpa hr hag hq;have hkmem:k∈l1++k::l2:=by simp
    have hnosub:∀i∈l1++k::l2,(∀d∈F3 ops i,d ∉ l1++k::l2)->∀j∈T.getD i [],j ∉ l1++k::l2:=fun i hi hid j hj=>HM hc hd i (hin _ listed hs hl i hi) hid j hj
    refine⟨fun h=>?_,fun i hi=>?_⟩
    · exfalso
      have:∃i,i∈Region.ready .any ops listed:=by
        cases l1 with
        | nil=>
          refine⟨k,(hrd _ listed hs hl k).2 ⟨by simp,fun d hdk hm=>?_⟩⟩;have hlt:=Ff hc hksz hdk;rcases Apx.1 hm with e|hm
          · omega
          have:=ApB (by simpa using hp) hm;omega
        | cons i0 l1'=>
          have hi0:i0<ops.size:=hin _ listed hs hl i0 (by simp);refine⟨i0,(hrd _ listed hs hl i0).2 ⟨by simp,fun d hdk hm=>?_⟩⟩;have hlt:=Ff hc hi0 hdk;rw[Apv]at hm hp;rcases Apx.1 hm with e|hm
          · omega
          have:=ApB hp hm;omega
      obtain⟨i,hi⟩:=this;rw[h]at hi;cases hi
    obtain ⟨hir,hid⟩:=(hrd _ listed hs hl i).1 hi;have his:=hin _ listed hs hl i hir;have hp':=hp;rw[ApI]at hp';obtain⟨p1,p2,p3⟩:=hp';rcases Aps.1 hir with h1|h1
    ·
      obtain⟨l11,l12,rfl⟩:=Arn h1;have hik:i<k:=p3 i h1 k (by simp)
      have hcm:∀j∈l11,∀x,ops[j]?=some x->J9 E ops x ops[i]=true:=by
        intro j hj x hx
        have hji:j<i:=by
          rw[ApI]at p1;exact p1.2.2 j hj i Apu
        have h1:=As (As hm hik) hji;simp only[ApN,Apo]at h1;rcases h1 with h1|h1
        · exact(hnosub i hir hid j h1 (by simp[hj])).elim
        simp only[hx,Apr his]at h1;exact h1
      obtain⟨st1,q1,q2⟩:=HT (Apr his) l11 st hcm hst
      have hmem:∀j,j∈(l11++l12)++k::l2↔j∈(l11++i::l12)++k::l2/\j≠i:=by
        have hnd:∀j∈(l11++l12)++k::l2,j≠i:=by
          intro j hj e;subst e;rw[ApI]at p1;obtain⟨a1,a2,a3⟩:=p1;rcases Aps.1 hj with hj|hj
          · rcases Aps.1 hj with hj|hj
            · have:=a3 j hj j Apu;omega
            have:=ApB a2 hj;omega
          rcases Apx.1 hj with e|hj
          · omega
          have:=p3 j h1 j (ApP _ hj);omega
        intro j;constructor
        · intro hj
          refine⟨?_,hnd j hj⟩;simp only[Aps,Apx]at hj ⊢;rcases hj with(hj|hj)|hj
          · exact .inl (.inl hj)
          · exact .inl (.inr (.inr hj))
          exact .inr hj
        rintro⟨hj,hne⟩;simp only[Aps,Apx]at hj ⊢;rcases hj with(hj|hj|hj)|hj
        · exact .inl (.inl hj)
        · exact(hne hj).elim
        · exact .inl (.inr hj)
        exact .inr hj
      refine Oo hE hO (Apr his) q1 hr fun a1 w1 g1 hr1 he1 hg1=>?_
      refine ih (l11++l12) l2 (listed.setIfInBounds i true) st1 stk a1 w1 g1 ?_ ?_ ?_ ?_ ?_ q2 hpa hr1 ?_ ?_
      · simp at hf ⊢;omega
      · refine hp.sublist ?_
        exact ArR (AqT (Aq5 i l12) l11) _
      · simp[hs]
      · intro j
        rw[hmem j,<-hl j];by_cases e:j=i
        · subst e
          have:j<listed.size:=by omega
          simp[Array.getD,this]
        rw[getD_set_ne true (fun h=>e h.symm)];simp[e]
      · intro j hj hjn d hdk hdm
        have hd2:=((hmem d).1 hdm).1;by_cases e:j=i
        · subst e
          exact hid d hdk hd2
        exact hd j hj (fun h=>hjn ((hmem j).2 ⟨h,e⟩)) d hdk hd2
      · obtain⟨v1,e1⟩:=So q1
        refine⟨fun t ht=>?_,by rw[e1,VL];exact hag.2⟩;have hx:l.toArray[i]?=some ops[i]:=by rw[hlo];exact Apr his
        rw[e1,Ke (WR hks hx ht)];exact hag.1 t ht
      intro a' fr' w' g' ha' hr' he' hg';exact hq a' fr' w' g' ha' hr' (he1.trans he') (hg1.trans hg')
    rcases Apx.1 h1 with rfl|h2
    ·
      have hlk:∀j∈l1,∀x,ops[j]?=some x->Nl E ops x=false/\Aaa ops o x=false:=by
        intro j hj;have hjk:j<i:=p3 j hj i (by simp);rcases(hpan j (by omega) (by omega)).1 hjk with h|h
        · exact(hnosub i hir hid j h (by simp[hj])).elim
        exact h
      have hp0:=Oy l1 st stk hlk hst hpa;unfold wpOp;simp only[hok,Region.wanted,hgo,ApT];left;exact AfB hp0 hr (fun w' g' hr' he hle=>hq _ _ _ _ hag hr' he hle)
    exfalso;have hki:k<i:=ApB p2 h2;exact hnosub i hir hid k ((hpan i his (by omega)).2 hki) hkmem
theorem O1(hE:E.Ok)(hO:He E.toBase orc)(hP:E.P.follows .mixedOrders=true)(ks:List Nat)(hks:RX ks l=true)(hk0:l[k]?=some o)(hg:o.guard=none)(T:List (List Nat))(hok1:EX l.toArray T=true)(hok2:Lu E l.toArray T k=true)(hok3:TF E l.toArray T k=true) {fr fr1:Fr} {O σ1:Ac} {v:Value} {σ2:Ac} {K:CO} (h:Cc E orc true n l.toArray (l.take k) (fr,O)=some (fr1,σ1)) (hp:R3 E (ev (Ai n fr1)) σ1 o.op v σ2) (hk:∀fr',fr'.length=n->(ks.map fun t=>ev fr' (.tmp t))=(ks.map fun t=>ev (Ai n fr1) (.tmp t))->K (.panic (NL v)) ⟨fr',σ2⟩):Run E m (.region id l.toArray true) ⟨Ai n fr,O⟩ K:=by
 intro hcm a w g hr Q hq;refine Hr (Iu hcm) (wp_region_any hP ?_);have hsm:SameMem w { w with drawn:=w.drawn+1 }:=⟨rfl,rfl,rfl,rfl⟩;have hkl:=(Ao6.1 hk0).1
 have hsp:List.range l.length=List.range k++k::List.range' (k+1) (l.length-(k+1)):=by
  rw[Ap9,Ap9]
  have h1:List.range' 0 l.length=List.range' 0 k++List.range' (0+1*k) (l.length-k):=by
   rw[List.range'_append];congr 1;omega
  rw[h1];congr 1;have:l.length-k=(l.length-(k+1))+1:=by omega
  rw[this,List.range'_succ];simp
 have hst:AK E orc l.toArray (List.range k) ⟨Ai n fr,O⟩=some ⟨Ai n fr1,σ1⟩:=by
  have key:∀(q j:Nat) (fr fr':Fr) (O O':Ac),j+q<=l.length->Cc E orc true n l.toArray ((l.drop j).take q) (fr,O)=some (fr',O') ->
    AK E orc l.toArray (List.range' j q) ⟨Ai n fr,O⟩=some ⟨Ai n fr',O'⟩:=by
   intro q
   induction q with
   |zero=>
    intro j fr fr' O O' _ h;simp only[Ash,Cc,Ao7,Apf]at h;obtain⟨rfl,rfl⟩:=h;rfl
   |succ q ih=>
    intro j fr fr' O O' hle h;have hj:j<l.length:=by omega
    rw[Aqc hj,ArE]at h;simp only[Cc,Apa]at h;obtain⟨⟨fr2,σ2⟩,h1,h2⟩:=h;rw[List.range'_succ];unfold AK;have:l.toArray[j]?=some l[j]:=by simp[hj]
    simp only[this,IV h1,Ap4];exact ih (j+1) _ _ _ _ (by omega) h2
  have:=key k 0 fr fr1 O σ1 (by omega) (by simpa using h);rw[Ap9];exact this
 refine ZP hE hO hok1 hok2 hok3 (by simpa using hk0) hg rfl ks hks (Ai n fr) l.toArray.size (List.range k) (List.range' (k+1) (l.length-(k+1))) _ _ _ a _ g ?_ ?_ (by simp) ?_ ?_ hst hp (HS hr hsm) ⟨fun _ _=>rfl,rfl⟩ ?_
 ·rw[<-hsp];simp
 ·rw[<-hsp];exact Aqj
 ·intro j;rw[<-hsp,ApS];by_cases h:j<l.length<;>simp[Array.getD,h]
 ·intro i hi hin;rw[<-hsp]at hin;exact(hin (ApS.2 (by simpa using hi))).elim
 intro a' fr' w' g' ha' hr' he hg;exact hq _ _ _ _ _ (hk fr' (ha'.2.trans (Oc _ _)) (Aqu fun t ht=>(ha'.1 t ht).trans (Oz hks ht _ _ _ hst).symm)) hr' ((Evo.same hsm).trans (he.of_gle hg))
theorem PS(hE:E.Ok)(hP:E.P.follows .mixedOrders=true)(ks:List Nat)(hks:RX ks l=true)(T:List (List Nat))(hok1:EX l.toArray T=true)(k:Nat)(hok2:Lu E l.toArray T k=true)(hok3:TF E l.toArray T k=true)(o:Oper)(hk0:l[k]?=some o)(hg:o.guard=none) (h:∃orc pl,He E.toBase orc/\VJ E.toBase pl/\Wz pl n ks o (W1 E orc true n l k (fr,O))=some ((.val v,σ2),vals)) (hk:∀fr',fr'.length=n->(ks.map fun t=>ev fr' (.tmp t))=vals->K (.panic (NL v)) ⟨fr',σ2⟩):Run E m (.region id l.toArray true) ⟨Ai n fr,O⟩ K:=by
 obtain⟨orc,pl,hO,hPl,h⟩:=h;cases hpre:W1 E orc true n l k (fr,O)with
 |none=>rw[hpre]at h;cases h
 |some s=>
  rw[hpre]at h;exact O1 hE hO hP ks hks hk0 hg T hok1 hok2 hok3 hpre (Sn hPl h).1 (fun fr' hl' h'=>hk fr' hl' (h'.trans (Sn hPl h).2.symm))
theorem Xi(hE:E.Ok)(hP:E.P.follows .mixedOrders=true)(ks:List Nat)(hks:RX ks l=true)(T:List (List Nat))(hok1:EX l.toArray T=true)(k:Nat)(hok2:Lu E l.toArray T k=true)(hok3:TF E l.toArray T k=true)(o:Oper)(hk0:l[k]?=some o)(hg:o.guard=none) (h:∃orc pl,He E.toBase orc/\VJ E.toBase pl/\Wz pl n ks o (W1 E orc true n l k (fr,O))=some ((.val v,σ2),vals)) {y:Code} (hk:∀fr',fr'.length=n->(ks.map fun t=>ev fr' (.tmp t))=vals->K (.panic (NL v)) ⟨fr',σ2⟩):Run E m (.seq (.region id l.toArray true) y) ⟨Ai n fr,O⟩ K :=
 Hh (PS hE hP ks hks T hok1 k hok2 hok3 o hk0 hg h hk)
end Go.Rv
