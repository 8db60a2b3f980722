/-
  Part 42.
-/
import Derived.Test.YtldngkmkhfddpaaGreatDoorYW41
import Derived.Recover
namespace Go.Rv
set_option linter.unusedVariables false
set_option linter.unusedSimpArgs false
variable{E:Env}{B:Base}{cf:FuncId}{fn:Func}{r0:AV}{rs:List ResultVar}{N m n:Nat}{o2:Oper}{rest:Code}{sel:List Nat}{rfr rfr':Fr}{σ1 O':Ac}
def AlG:List Code->Code->Code
 |[],y=>y
 |x::l,y=>.seq x (AlG l y)
def Aoy(E:Env)(st':St):CX:=fun ex st=>ex=.normal/\Weak E 0 st st'
theorem TE{st':St}:MC E 0 (Aoy E st'):=fun st st2 h ⟨e,k⟩=>⟨e,h.trans k⟩
theorem R7{st:St}:Aoy E st .normal st:=⟨rfl,Weak.refl _ _⟩
inductive Pre(E:Env)(N:Nat):List Code->Fr×Ac->Fr×Ac->Prop
  |nil (s:Fr×Ac):Pre E N [] s s
  |step {c:Code} {cs:List Code} {fr fr':Fr} {O O':Ac} {s:Fr×Ac} (h:Run E 0 c ⟨Ah N fr,O⟩ (Aoy E ⟨Ah N fr',O'⟩)) (k:Pre E N cs (fr',O') s):Pre E N (c::cs) (fr,O) s
theorem Yq{E:Env}{N:Nat}(hE:E.rd=none){y:Code}{Q:Exit->Act->World->Prop}:∀{cs:List Code} {s s':Fr×Ac},Pre E N cs s s'->∀{a:Act} {w:World} {g:Gh},Rel E w g ⟨Ah N s.1,s.2⟩ a ->(∀a' w' g',Rel E w' g' ⟨Ah N s'.1,s'.2⟩ a'->Evo E 0 w g w' g'->y.wp E.P Q a' w')->(AlG cs y).wp E.P Q a w
 |_,_,_,.nil s,a,w,g,hr,hk=>hk a w g hr (Evo.refl _ _ _ _)
 |_,_,_,.step h k,a,w,g,hr,hk=>by
  refine wp_seq ?_;refine Ha h hE hr ?_;rintro ex st a1 w1 g1 ⟨rfl,hw⟩ hr1 he1;obtain⟨g2,hr2,he2⟩:=hw a1 w1 g1 hr1;exact Yq hE k hr2 fun a' w' g' q1 q2=>hk a' w' g' q1 ((he1.trans he2).trans q2)
def AkO(sel:List Nat)(p q:Nat×AV):Prop:=p.1=q.1/\((∃i id,p.2=.ref i 0/\q.2=.ref id 0/\sel[id]?=some i)\/(p.2=q.2/\Ga q.2=true))
def Adm(sel:List Nat):Fr->Fr->Prop
 |[],[]=>True
 |p::l,q::l'=>AkO sel p q/\Adm sel l l'
 |_,_=>False
theorem U0{sel:List Nat}:∀{l l':Fr},Adm sel l l'->∀q∈l',∃p∈l,AkO sel p q
 |[],[],_,q,h=>by cases h
 | p::l,q'::l',h,q,hq=>by
  rcases Aq9.1 hq with rfl|hq
  ·exact⟨p,Aq4,h.1⟩
  obtain⟨x,h1,h2⟩:=U0 h.2 q hq;exact⟨x,Arn _ h1,h2⟩
def Ah6(B:Base)(F:Addr->Prop)(cf:FuncId)(sel:List Nat)(rs:List ResultVar)(N:Nat)(rfr rfr':Fr)(r0:AV):CX:=fun ex st=>
 ∃u σ0 u' O' xs,st.fr.length=N/\(((ex=.normal\/ex=.ret)/\u=.returning)\/∃ch,ex=.panic ch/\u=.panicking ch)/\Kh sel st.O sel σ0/\Aj8 B cf (JZ sel.length) σ0 u u' O'/\settle u'=.returning /\
  RY (ev st.fr) rfr/\Adm sel rfr rfr'/\Fx (B.env F) O' (Ah N rfr') rs=some xs/\fzR O' (H1 xs)=some r0
theorem R2:∀{n i:Nat},i<n->(JZ n)[i]?=some (.ref i 0)
 | n+1,i,h=>by
  by_cases e:i<n
  ·rw[JZ,AqN (by rw[HE];exact e)];exact R2 e
  have:i=n:=by omega
  subst this;rw[JZ,AqL (by rw[HE];exact AqT _),HE,AsJ];rfl
theorem Ub{w:World}{pr:Addr->Prop}{g:Gh}:∀{vs:List Value} {xs:List AV},vs.length=xs.length->(∀(i:Nat) (v:Value) (x:AV),vs[i]?=some v->xs[i]?=some x->Rep w pr g v x)->Cj w pr g vs xs
 |[],[],_,_=>trivial
 |[],_::_,h,_=>by simp at h
 |_::_,[],h,_=>by simp at h
 |v::vs,x::xs,h,k=>⟨k 0 v x rfl rfl,Ub (by simpa using h) fun i u y h1 h2=>k (i+1) u y (by simpa using h1) (by simpa using h2)⟩
theorem Vf{w:World}{pr:Addr->Prop}{g:Gh}:∀{vs:List Value} {xs:List AV},Cj w pr g vs xs->∀(i:Nat) (v:Value) (x:AV),vs[i]?=some v->xs[i]?=some x->Rep w pr g v x
 |[],[],_,i,v,x,h,_=>by simp at h
 |[],_::_,h,_,_,_,_,_=>h.elim
 |_::_,[],h,_,_,_,_,_=>h.elim
 |u::vs,y::xs,h,0,v,x,h1,h2=>by simp at h1 h2;subst h1 h2;exact h.1
 |u::vs,y::xs,h,i+1,v,x,h1,h2=>Vf h.2 i v x (by simpa using h1) (by simpa using h2)
theorem Rm{dc:Call}{fo:Operand}{caps:List AV}{fr2:Fr}{F:Addr->Prop} (hB:B.Ok) (hN:fn.ntmps=N) (hrs:fn.results.toList=rs) (ho2:o2.op=.defer dc) (hdc:dc.callee=.value fo) (hd2:o2.dst=none) (hfo:ev (Ah N fr2) fo=.fn cf caps) (hcaps:∀ys,caps≠[.tup ys]) (hdargs:dc.args.toList.map (ev (Ah N fr2))++caps=sel.map fun i=>.ref i 0) (hsm:∀i∈sel,i<m) (hnd:sel.Nodup) (hm:σ1.length=m) {fnc:Func} {cc:Code} (hfc:B.P.funcs[cf]?=some fnc) (hbc:fnc.body=some cc) (hnc:(fnc.name == "runtime.NumGoroutine")=false) (hrest:∀D,Run (B.env { F:=F,D:=D }) m rest ⟨Ah N fr2,σ1⟩ (Ah6 B F cf sel rs N rfr rfr' r0)) {w w2:World} {g g2:Gh} {a2:Act} (he:Evo (B.env F) 0 w g w2 g2) (hr2:Rel (B.env F) w2 g2 ⟨Ah N fr2,σ1⟩ a2) {next:Act->World->Prop} {Q:Exit->Act->World->Prop} (hnext:∀a' w',rest.wp B.P (bodyPostD B.P fn (fun e w'=>∃v r O' g',e=.returned v/\(fzR O' r=some r0)/\Mem (B.env F) w' g' O'/\Evo (B.env F) ([]:Ac).length w g w' g'/\Rep w' (Ay (B.env F) g') g' v r)) a' w'->next a' w') :o2.wp B.P a2 w2 next Q:=by
 have hE:=hB.env F;subst hN hrs;have hfv:=DQ hr2 fo;rw[hfo]at hfv;obtain⟨capv,hcv,hcr⟩:=Ei hfv hcaps
 have hd:(execOp a2.eval o2).run B.P w2=.ok (.defer { target:=.fn (.func cf) capv,args:=dc.args.map a2.eval }) w2:=by
  simp only[execOp,ho2,resolve,hdc,hcv,Deferred.ofValue,Sem.run_bind,Sem.run_pure,Result.andThen_ok];simp
 unfold Oper.wp;rw[hd,Oper.upon_defer,hd2];refine hnext _ _ ?_;show rest.wp B.P (bodyPostD B.P fn _) { a2 with defers:={ target:=.fn (.func cf) capv,args:=dc.args.map a2.eval }::a2.defers } w2;have hd0:a2.defers=[]:=hr2.defers.eq rfl;rw[hd0];generalize hDd:({ target:=.fn (.func cf) capv,args:=dc.args.map a2.eval }:Deferred)=dd
 have hr3:Rel (B.env { F:=F,D:=[dd] }) w2 g2 ⟨Ah fn.ntmps fr2,σ1⟩ { a2 with defers:=[dd] } :=
  ⟨hr2.size,hr2.slot,VZ (D:=[]) hr2.mem,.plain rfl⟩
 refine Ha (hrest [dd]) rfl hr3 ?_;rintro ex st a' w' g' ⟨u,σ0,u',O',xs,hlenN,hu,hO,hD,hset,hsl,hra,hres,hfz⟩ hr' he';have hdef:a'.defers=[dd]:=hr'.defers.eq rfl;obtain⟨s1,s2,s3,s4⟩:=J8 (n:=0) hr'.mem sel hnd rfl hO;have hur:u≠.run:=by rcases hu with⟨_,rfl⟩|⟨_,_,rfl⟩<;>simp
 have hall:Cj w2 (Ay (B.env F) g2) g2 ((dc.args.map a2.eval).toList++capv.toList) (sel.map fun i=>.ref i 0):=by
  rw[<-hdargs,ArK];exact Fa (Ea _ _ (DQ hr2) _) hcr
 have hallr:Cj w' (Ay (B.env F) (CP sel g')) (CP sel g') ((dc.args.map a2.eval).toList++capv.toList) (JZ sel.length):=by
  refine Ub ?_ fun i v x h1 h2=>?_
  ·rw[Da hall,HE,ArM]
  have hi:i<sel.length:=by
   have:=(AqD.1 h2).1;rwa[HE]at this
  rw[R2 hi]at h2;cases h2;have hsi:sel[i]?=some sel[i]:=AqH hi;have h3:=Vf hall i v (.ref sel[i] 0) h1 (by rw[Aq8,hsi];rfl);exact Qb s1 (NT (w':=w') (pr':=fun _=>True) h3 (hsm _ (ArY hi)) he'.ids) hsi
 have hcl:Leaves B.P fn a'.tmps (fun e w'=>∃v r O' g',e=.returned v/\(fzR O' r=some r0)/\Mem (B.env F) w' g' O'/\Evo (B.env F) ([]:Ac).length w g w' g'/\Rep w' (Ay (B.env F) g') g' v r) a'.defers u w':=by
  rw[hdef,<-hDd];refine leaves_cons (f:=cf) (args:=dc.args.map a2.eval++capv) hur ?_ ?_
  ·exact JQ hfc hbc hnc _ _
  refine(hD F w' (CP sel g') (dc.args.map a2.eval++capv) (VZ (D':=[]) s2) ?_).mono ?_
  ·rw[AsB];exact hallr
  rintro e u2 w3 ⟨v,g3,rfl,rfl,hm3,he3⟩;show Leaves B.P fn a'.tmps _ [] (settle u2) w3;rw[hset]
  have hl0:σ0.length=sel.length:=by
   have:=(Mu hO).1;simpa using this.symm
  have hrel:Rel (B.env F) w3 g3 ⟨Ah fn.ntmps rfr',O'⟩ { a' with defers:=[] }:=by
   refine⟨?_,JG fun q hq=>?_,hm3,.plain rfl⟩
   ·rw[Lh];exact hr'.size.trans hlenN
   obtain⟨p,hp,hpq,hk⟩:=U0 hra q hq;have h2:=DQ hr' (.tmp p.1);rw[Ra hsl p hp,hpq]at h2;rcases hk with⟨i,id,h3,h4,h5⟩|⟨h3,h4⟩
   ·rw[h3]at h2;rw[h4];exact NT (Qb (pr':=fun _=>True) s1 h2 h5) (by rw[hl0];exact(AqD.1 h5).1) he3.ids
   rw[h3]at h2;have e:=Mo h4 h2;show Rep w3 _ g3 (a'.tmps.getD q.1 undef) q.2;have e2:a'.tmps.getD q.1 undef=avV q.2:=e;rw[e2];exact U6 h4
  obtain⟨us,hus,hrep⟩:=Fi hE hrel fn.results.toList xs hres
  have hres2:(results fn a'.tmps).run B.P w3=.ok (if h:us.toArray.size=1 then us.toArray[0]else .tuple us.toArray) w3:=by
   have e:results fn a'.tmps=(do let vs <-fn.results.mapM (Jc a'.tmps);pure (if h:vs.size=1 then vs[0]else .tuple vs)):=rfl;have hus':(fn.results.toList.mapM (Jc a'.tmps)).run B.P w3=.ok us w3:=hus;rw[e,Sem.run_bind,Ar2,Sem.run_map,hus'];rfl
  exact⟨_,hres2,_,_,O',g3,rfl,hfz,hm3,(Mq he).trans ((Mn (Mq he')).trans ((Mn (Mq s3)).trans (Mq he3))),GG hrep⟩
 rcases hu with⟨rfl|rfl,rfl⟩|⟨ch,rfl,rfl⟩
 ·exact hcl
 ·exact hcl
 exact hcl
theorem Aav{f:FuncId}{args:List AV}{i2:Nat}{pre:List Code}{dc:Call}{fo:Operand}{caps:List AV}{fr1:Fr} (hB:B.Ok) (hf:B.P.funcs[f]?=some fn) (hb:fn.body=some (AlG pre (.seq (.region i2 [o2].toArray false) rest))) (hname:(fn.name == "runtime.NumGoroutine")=false) (hN:fn.ntmps=N) (hrs:fn.results.toList=rs) (hlen:args.length<=N) (hp:∀F:Addr->Prop,Pre (B.env F) N pre (LG 0 args,[]) (fr1,σ1)) (ho2:o2.op=.defer dc) (hdc:dc.callee=.value fo) (hd2:o2.dst=none) (hg2:o2.guard=none) (hfo:ev (Ah N fr1) fo=.fn cf caps) (hcaps:∀ys,caps≠[.tup ys]) (hdargs:dc.args.toList.map (ev (Ah N fr1))++caps=sel.map fun i=>.ref i 0) (hsm:∀i∈sel,i<m) (hnd:sel.Nodup) (hm:σ1.length=m) {fnc:Func} {cc:Code} (hfc:B.P.funcs[cf]?=some fnc) (hbc:fnc.body=some cc) (hnc:(fnc.name == "runtime.NumGoroutine")=false) (hrest:∀F D,Run (B.env { F:=F,D:=D }) m rest ⟨Ah N fr1,σ1⟩ (Ah6 B F cf sel rs N rfr rfr' r0)):Con B f args [] (fun r' O'=>r'=r0/\O'=[]):=by
 refine Nq (R:=fun r O'=>fzR O' r=some r0) ⟨fun F w g vs hmem ha=>.inl ⟨⟨fn,_,hf,hb,hname⟩,?_⟩⟩ (fun r O' h=>h);refine calls_of_wp_defers hf hb ?_;have hr0:=Jq (fn:=fn) hmem ha;subst hN;rw[Fl fn.ntmps args hlen (LG 0 args) (fun t _=>FF args 0 t (Aq5 _))]at hr0;refine Yq (E:=B.env F) rfl (hp F) hr0 fun a1 w1 g1 hr1 he1=>?_
 refine wp_seq ?_;refine wp_region_lit ?_;simp only[wpList,Region.wanted,hg2,Aro];left;exact Rm hB rfl hrs ho2 hdc hd2 hfo hcaps hdargs hsm hnd hm hfc hbc hnc (hrest F) he1 hr1 fun a' w' h=>h
theorem Aax{f:FuncId}{args:List AV}{i2 t7:Nat}{pre:List Code}{o1:Oper}{capops:Array Operand}{fr1:Fr} (hB:B.Ok) (hf:B.P.funcs[f]?=some fn) (hb:fn.body=some (AlG pre (.seq (.region i2 [o1,o2].toArray false) rest))) (hname:(fn.name == "runtime.NumGoroutine")=false) (hN:fn.ntmps=N) (hrs:fn.results.toList=rs) (hlen:args.length<=N) (hp:∀F:Addr->Prop,Pre (B.env F) N pre (LG 0 args,[]) (fr1,σ1)) (ho1:o1.op=.makeFunc (.func cf) #[] capops) (hd1:o1.dst=some t7) (hg1:o1.guard=none) (ho2:o2.op=.defer ⟨.value (.tmp t7),#[],#[]⟩) (hd2:o2.dst=none) (hg2:o2.guard=none) (ht7:t7<N) (hcaps:capops.toList.map (evL N fr1)=sel.map fun i=>.ref i 0) (hsm:∀i∈sel,i<m) (hnd:sel.Nodup) (hm:σ1.length=m) {fnc:Func} {cc:Code} (hfc:B.P.funcs[cf]?=some fnc) (hbc:fnc.body=some cc) (hnc:(fnc.name == "runtime.NumGoroutine")=false) (hrest:∀F D,Run (B.env { F:=F,D:=D }) m rest ⟨Ah N (put (some t7) (.fn cf (sel.map fun i=>.ref i 0)) fr1),σ1⟩ (Ah6 B F cf sel rs N rfr rfr' r0)):Con B f args [] (fun r' O'=>r'=r0/\O'=[]):=by
 refine Nq (R:=fun r O'=>fzR O' r=some r0) ⟨fun F w g vs hmem ha=>.inl ⟨⟨fn,_,hf,hb,hname⟩,?_⟩⟩ (fun r O' h=>h);refine calls_of_wp_defers hf hb ?_;have hr0:=Jq (fn:=fn) hmem ha;subst hN;rw[Fl fn.ntmps args hlen (LG 0 args) (fun t _=>FF args 0 t (Aq5 _))]at hr0;refine Yq (E:=B.env F) rfl (hp F) hr0 fun a1 w1 g1 hr1 he1=>?_
 refine wp_seq ?_;refine wp_region_lit ?_;simp only[wpList,Region.wanted,hg1,Aro];left
 have hne:∀ys,(sel.map fun i=>AV.ref i 0)≠[.tup ys]:=by
  intro ys
  match sel with
  |[]=>intro h;cases h
  |[i]=>intro h;cases h
  |i::j::l=>intro h;cases h
 have hop1:opL (B.env F) (HX [] [] none) false (evL fn.ntmps fr1) σ1 o1.op=some (.fn cf (sel.map fun i=>.ref i 0),σ1):=by
  rw[ho1];show KB (B.env F) (evL fn.ntmps fr1) σ1 (.makeFunc (.func cf) #[] capops)=_;simp only[KB,hcaps];split
  ·rfl
  rename_i h2;exact(h2 trivial).elim
 refine Fv (hB.env F) (Aa (B:=B) none) hop1 hr1 ?_;intro a2 w2 g2 hr2 he2 hle2;simp only[wpList,Region.wanted,hg2,Aro];left;simp only[hd1]at hr2;refine Rm hB rfl hrs ho2 rfl hd2 ?_ hne (by rfl) hsm hnd hm hfc hbc hnc (hrest F) (he1.trans he2) hr2 fun a' w' h=>h
 rw[CG];show(if t7<fn.ntmps then look (put (some t7) (.fn cf (sel.map fun i=>.ref i 0)) fr1) t7 else .junk)=_;rw[AqJ ht7];show(if t7=t7 then _ else _)=_;rw[AqJ rfl]
theorem DI(hE:E.Ok){P:Program}(hP:E.P=P){l:List Oper}{Q:Exit->Act->List Frame->World->Prop}{i:Nat}{rest:List Nat}{a:Act}{cs:List Frame}{w:World}{g:Gh}{fr:Fr}{O:Ac}{x:AV}(o:Oper)(ho:l[i]?=some o)(hg:o.guard=none) (hr:Rel E w g ⟨Ah n fr,O⟩ a) (hx:KB E (evL n fr) O o.op=some (x,O')) (hk:∀a' w' g',Rel E w' g' ⟨Ah n (put o.dst x fr),O'⟩ a'->Evo E 0 w g w' g'->GLe g g'->wpOpsS P l.toArray Q rest a' cs w'):wpOpsS P l.toArray Q (i::rest) a cs w:=by
 subst hP;have ho:l.toArray[i]?=some o:=by simpa using ho
 rw[<-CG,<-SZ]at hx;obtain⟨v,w',g',h1,h2,h3,h4,h5⟩:=KR hE hr hx;have hr':=Fw (IE hr h2 h3 h4) o.dst h5
 have hr2:Rel E w' g' ⟨Ah n (put o.dst x fr),O'⟩ (a.put o.dst v):=by
  have e:=Eh n fr o.dst x;rw[<-e];exact hr'
 rcases h1 with h1|⟨h1,rfl⟩
 ·simp only[wpOpsS,ho,Region.wanted,hg,Aro,h1];exact hk _ _ _ hr2 h4 h3
 simp only[wpOpsS,ho,Region.wanted,hg,Aro,h1];exact hk _ _ _ hr2 h4 h3
def AeU(E:Env)(n:Nat)(fr':List AV)(O':Ac):CX:=fun ex st=>(ex=.normal\/ex=.ret)/\Weak E n st ⟨fr',O'⟩
theorem X0{fr':List AV}:MC E n (AeU E n fr' O'):=fun st st2 h ⟨e,k⟩=>⟨e,h.trans k⟩
theorem Tu{l:Fr}:AeU E n (Ah N []) O' .normal ⟨Ah N l,O'⟩:=⟨.inl rfl,D0 n N [] l O'⟩
theorem Le{F:Addr->Prop}{c₀:Frame}{u':FrameMode}{cs:List Frame}{w0 w:World}{g0 g:Gh}{fr:List AV}{O:Ac}{a:Act}(hres:fn.results=#[])(he0:Evo (B.env F) n w0 g0 w g) (hr:Rel (B.env F) w g ⟨fr,O⟩ a) {fr':List AV} (hrun:Run (B.env F) n rest ⟨fr,O⟩ (AeU (B.env F) n fr' O')) :rest.wpS B.P (bodyPostS B.P fn c₀ cs (fun e u2 w'=>∃v g',e=.returned v/\u2=u'/\Mem (B.env F) w' g' O'/\Evo (B.env F) n w0 g0 w' g')) a ({ c₀ with mode:=u' }::cs) w:=by
 refine wpS_of_wp ?_;refine Ha hrun rfl hr ?_;rintro ex st a' w' g1 ⟨hex,h2⟩ hr1 he1;obtain⟨g',hr',he2⟩:=h2 a' w' g1 hr1;have he:=he1.trans he2;have e:results fn a'.tmps=(do let vs <-fn.results.mapM (Jc a'.tmps);pure (if h:vs.size=1 then vs[0]else .tuple vs)):=rfl
 have hres2:(results fn a'.tmps).run B.P w'=.ok (.tuple #[]) w':=by
  rw[e,hres,Sem.run_bind,Ar2,Sem.run_map];rfl
 rcases hex with rfl|rfl
 ·exact⟨hr'.defers.eq rfl,u',rfl,.tuple #[],hres2,_,g',rfl,rfl,hr'.mem,he0.trans he⟩
 exact⟨hr'.defers.eq rfl,u',rfl,.tuple #[],hres2,_,g',rfl,rfl,hr'.mem,he0.trans he⟩
end Go.Rv
