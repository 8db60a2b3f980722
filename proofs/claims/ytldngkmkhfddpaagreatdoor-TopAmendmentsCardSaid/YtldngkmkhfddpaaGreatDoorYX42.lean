/-
  Part 42.
-/
import Derived.Test.YtldngkmkhfddpaaGreatDoorYX41
import Derived.Recover
namespace Go.Rv
set_option linter.unusedVariables false
set_option linter.unusedSimpArgs false
variable{E:Env}{B:Base}{fn:Func}{N n:Nat}{rest:Code}{O':Ac}
def AnZ:List Code->Code->Code
 |[],y=>y
 |x::l,y=>.seq x (AnZ l y)
def AoF(E:Env)(st':St):CO:=fun ex st=>ex=.normal/\Weak E 0 st st'
theorem Afs{st':St}:Lm E 0 (AoF E st'):=fun st st2 h ⟨e,k⟩=>⟨e,h.trans k⟩
theorem Acz{st:St}:AoF E st .normal st:=⟨rfl,Weak.refl _ _⟩
inductive Pre(E:Env)(N:Nat):List Code->Fr×Ac->Fr×Ac->Prop
  |nil (s:Fr×Ac):Pre E N [] s s
  |step {c:Code} {cs:List Code} {fr fr':Fr} {O O':Ac} {s:Fr×Ac} (h:Run E 0 c ⟨Ai N fr,O⟩ (AoF E ⟨Ai N fr',O'⟩)) (k:Pre E N cs (fr',O') s):Pre E N (c::cs) (fr,O) s
theorem Ae9{E:Env}{N:Nat}(hE:E.rd=none){y:Code}{Q:Exit->Act->World->Prop}:∀{cs:List Code} {s s':Fr×Ac},Pre E N cs s s'->∀{a:Act} {w:World} {g:Gh},Rel E w g ⟨Ai N s.1,s.2⟩ a ->(∀a' w' g',Rel E w' g' ⟨Ai N s'.1,s'.2⟩ a'->Evo E 0 w g w' g'->y.wp E.P Q a' w')->(AnZ cs y).wp E.P Q a w
 |_,_,_,.nil s,a,w,g,hr,hk=>hk a w g hr (Evo.refl _ _ _ _)
 |_,_,_,.step h k,a,w,g,hr,hk=>by
  refine wp_seq ?_;refine Hu h hE hr ?_;rintro ex st a1 w1 g1 ⟨rfl,hw⟩ hr1 he1;obtain⟨g2,hr2,he2⟩:=hw a1 w1 g1 hr1;exact Ae9 hE k hr2 fun a' w' g' q1 q2=>hk a' w' g' q1 ((he1.trans he2).trans q2)
def AiS(sel:List Nat)(p q:Nat×AV):Prop:=p.1=q.1/\((∃i id,p.2=.ref i 0/\q.2=.ref id 0/\sel[id]?=some i)\/(p.2=q.2/\FO q.2=true))
def Abh(sel:List Nat):Fr->Fr->Prop
 |[],[]=>True
 |p::l,q::l'=>AiS sel p q/\Abh sel l l'
 |_,_=>False
theorem SW{sel:List Nat}:∀{l l':Fr},Abh sel l l'->∀q∈l',∃p∈l,AiS sel p q
 |[],[],_,q,h=>by cases h
 | p::l,q'::l',h,q,hq=>by
  rcases Apx.1 hq with rfl|hq
  ·exact⟨p,Apu,h.1⟩
  obtain⟨x,h1,h2⟩:=SW h.2 q hq;exact⟨x,ApP _ h1,h2⟩
def Alc(B:Base)(F:Addr->Prop)(cf:FuncId)(sel:List Nat)(rs:List ResultVar)(N:Nat)(rfr rfr':Fr)(r0:AV):CO:=fun ex st=>
 ∃u σ0 u' O' xs,st.fr.length=N/\(((ex=.normal\/ex=.ret)/\u=.returning)\/∃ch,ex=.panic ch/\u=.panicking ch)/\JI sel st.O sel σ0/\AmZ B cf (KY sel.length) σ0 u u' O'/\settle u'=.returning /\
  RA (ev st.fr) rfr/\Abh sel rfr rfr'/\Fp (B.env F) O' (Ai N rfr') rs=some xs/\fzR O' (Hf xs)=some r0
theorem QO:∀{n i:Nat},i<n->(KY n)[i]?=some (.ref i 0)
 | n+1,i,h=>by
  by_cases e:i<n
  ·rw[KY,Aph (by rw[H3];exact e)];exact QO e
  have:i=n:=by omega
  subst this;rw[KY,Ape (by rw[H3];exact Apm _),H3,Arw];rfl
theorem U7{w:World}{pr:Addr->Prop}{g:Gh}:∀{vs:List Value} {xs:List AV},vs.length=xs.length->(∀(i:Nat) (v:Value) (x:AV),vs[i]?=some v->xs[i]?=some x->Rep w pr g v x)->C4 w pr g vs xs
 |[],[],_,_=>trivial
 |[],_::_,h,_=>by simp at h
 |_::_,[],h,_=>by simp at h
 |v::vs,x::xs,h,k=>⟨k 0 v x rfl rfl,U7 (by simpa using h) fun i u y h1 h2=>k (i+1) u y (by simpa using h1) (by simpa using h2)⟩
theorem U3{w:World}{pr:Addr->Prop}{g:Gh}:∀{vs:List Value} {xs:List AV},C4 w pr g vs xs->∀(i:Nat) (v:Value) (x:AV),vs[i]?=some v->xs[i]?=some x->Rep w pr g v x
 |[],[],_,i,v,x,h,_=>by simp at h
 |[],_::_,h,_,_,_,_,_=>h.elim
 |_::_,[],h,_,_,_,_,_=>h.elim
 |u::vs,y::xs,h,0,v,x,h1,h2=>by simp at h1 h2;subst h1 h2;exact h.1
 |u::vs,y::xs,h,i+1,v,x,h1,h2=>U3 h.2 i v x (by simpa using h1) (by simpa using h2)
theorem YW{cf:FuncId}{r0:AV}{rs:List ResultVar}{m:Nat}{o2:Oper}{dc:Call}{fo:Operand}{caps:List AV}{sel:List Nat}{rfr rfr':Fr}{fr2:Fr}{σ1:Ac}{F:Addr->Prop} (hB:B.Ok) (hN:fn.ntmps=N) (hrs:fn.results.toList=rs) (ho2:o2.op=.defer dc) (hdc:dc.callee=.value fo) (hd2:o2.dst=none) (hfo:ev (Ai N fr2) fo=.fn cf caps) (hcaps:∀ys,caps≠[.tup ys]) (hdargs:dc.args.toList.map (ev (Ai N fr2))++caps=sel.map fun i=>.ref i 0) (hsm:∀i∈sel,i<m) (hnd:sel.Nodup) (hm:σ1.length=m) {fnc:Func} {cc:Code} (hfc:B.P.funcs[cf]?=some fnc) (hbc:fnc.body=some cc) (hnc:(fnc.name == "runtime.NumGoroutine")=false) (hrest:∀D,Run (B.env { F:=F,D:=D }) m rest ⟨Ai N fr2,σ1⟩ (Alc B F cf sel rs N rfr rfr' r0)) {w w2:World} {g g2:Gh} {a2:Act} (he:Evo (B.env F) 0 w g w2 g2) (hr2:Rel (B.env F) w2 g2 ⟨Ai N fr2,σ1⟩ a2) {next:Act->World->Prop} {Q:Exit->Act->World->Prop} (hnext:∀a' w',rest.wp B.P (bodyPostD B.P fn (fun e w'=>∃v r O' g',e=.returned v/\(fzR O' r=some r0)/\Mem (B.env F) w' g' O'/\Evo (B.env F) ([]:Ac).length w g w' g'/\Rep w' (A3 (B.env F) g') g' v r)) a' w'->next a' w') :o2.wp B.P a2 w2 next Q:=by
 have hE:=hB.env F;subst hN hrs;have hfv:=En hr2 fo;rw[hfo]at hfv;obtain⟨capv,hcv,hcr⟩:=DZ hfv hcaps
 have hd:(execOp a2.eval o2).run B.P w2=.ok (.defer { target:=.fn (.func cf) capv,args:=dc.args.map a2.eval }) w2:=by
  simp only[execOp,ho2,resolve,hdc,hcv,Deferred.ofValue,Sem.run_bind,Sem.run_pure,Result.andThen_ok];simp
 unfold Oper.wp;rw[hd,Oper.upon_defer,hd2];refine hnext _ _ ?_;show rest.wp B.P (bodyPostD B.P fn _) { a2 with defers:={ target:=.fn (.func cf) capv,args:=dc.args.map a2.eval }::a2.defers } w2;have hd0:a2.defers=[]:=hr2.defers.eq rfl;rw[hd0];generalize hDd:({ target:=.fn (.func cf) capv,args:=dc.args.map a2.eval }:Deferred)=dd
 have hr3:Rel (B.env { F:=F,D:=[dd] }) w2 g2 ⟨Ai fn.ntmps fr2,σ1⟩ { a2 with defers:=[dd] } :=
  ⟨hr2.size,hr2.slot,AcU (D:=[]) hr2.mem,.plain rfl⟩
 refine Hu (hrest [dd]) rfl hr3 ?_;rintro ex st a' w' g' ⟨u,σ0,u',O',xs,hlenN,hu,hO,hD,hset,hsl,hra,hres,hfz⟩ hr' he';have hdef:a'.defers=[dd]:=hr'.defers.eq rfl;obtain⟨s1,s2,s3,s4⟩:=Jz (n:=0) hr'.mem sel hnd rfl hO;have hur:u≠.run:=by rcases hu with⟨_,rfl⟩|⟨_,_,rfl⟩<;>simp
 have hall:C4 w2 (A3 (B.env F) g2) g2 ((dc.args.map a2.eval).toList++capv.toList) (sel.map fun i=>.ref i 0):=by
  rw[<-hdargs,Aqe];exact Fc (DQ _ _ (En hr2) _) hcr
 have hallr:C4 w' (A3 (B.env F) (CG sel g')) (CG sel g') ((dc.args.map a2.eval).toList++capv.toList) (KY sel.length):=by
  refine U7 ?_ fun i v x h1 h2=>?_
  ·rw[CY hall,H3,Ap8]
  have hi:i<sel.length:=by
   have:=(Ao6.1 h2).1;rwa[H3]at this
  rw[QO hi]at h2;cases h2;have hsi:sel[i]?=some sel[i]:=Ao9 hi;have h3:=U3 hall i v (.ref sel[i] 0) h1 (by rw[ApE,hsi];rfl);exact OV s1 (NB (w':=w') (pr':=fun _=>True) h3 (hsm _ (Aqp hi)) he'.ids) hsi
 have hcl:Leaves B.P fn a'.tmps (fun e w'=>∃v r O' g',e=.returned v/\(fzR O' r=some r0)/\Mem (B.env F) w' g' O'/\Evo (B.env F) ([]:Ac).length w g w' g'/\Rep w' (A3 (B.env F) g') g' v r) a'.defers u w':=by
  rw[hdef,<-hDd];refine leaves_cons (f:=cf) (args:=dc.args.map a2.eval++capv) hur ?_ ?_
  ·exact Ji hfc hbc hnc _ _
  refine(hD F w' (CG sel g') (dc.args.map a2.eval++capv) (AcU (D':=[]) s2) ?_).mono ?_
  ·rw[AqZ];exact hallr
  rintro e u2 w3 ⟨v,g3,rfl,rfl,hm3,he3⟩;show Leaves B.P fn a'.tmps _ [] (settle u2) w3;rw[hset]
  have hl0:σ0.length=sel.length:=by
   have:=(Mi hO).1;simpa using this.symm
  have hrel:Rel (B.env F) w3 g3 ⟨Ai fn.ntmps rfr',O'⟩ { a' with defers:=[] }:=by
   refine⟨?_,RH fun q hq=>?_,hm3,.plain rfl⟩
   ·rw[Oc];exact hr'.size.trans hlenN
   obtain⟨p,hp,hpq,hk⟩:=SW hra q hq;have h2:=En hr' (.tmp p.1);rw[QS hsl p hp,hpq]at h2;rcases hk with⟨i,id,h3,h4,h5⟩|⟨h3,h4⟩
   ·rw[h3]at h2;rw[h4];exact NB (OV (pr':=fun _=>True) s1 h2 h5) (by rw[hl0];exact(Ao6.1 h5).1) he3.ids
   rw[h3]at h2;have e:=Ma h4 h2;show Rep w3 _ g3 (a'.tmps.getD q.1 undef) q.2;have e2:a'.tmps.getD q.1 undef=avV q.2:=e;rw[e2];exact SY h4
  obtain⟨us,hus,hrep⟩:=Gm hE hrel fn.results.toList xs hres
  have hres2:(results fn a'.tmps).run B.P w3=.ok (if h:us.toArray.size=1 then us.toArray[0]else .tuple us.toArray) w3:=by
   have e:results fn a'.tmps=(do let vs <-fn.results.mapM (JP a'.tmps);pure (if h:vs.size=1 then vs[0]else .tuple vs)):=rfl;have hus':(fn.results.toList.mapM (JP a'.tmps)).run B.P w3=.ok us w3:=hus;rw[e,Sem.run_bind,AqC,Sem.run_map,hus'];rfl
  exact⟨_,hres2,_,_,O',g3,rfl,hfz,hm3,(Om he).trans ((Mw (Om he')).trans ((Mw (Om s3)).trans (Om he3))),HD hrep⟩
 rcases hu with⟨rfl|rfl,rfl⟩|⟨ch,rfl,rfl⟩
 ·exact hcl
 ·exact hcl
 exact hcl
theorem YL{f cf:FuncId}{args:List AV}{r0:AV}{rs:List ResultVar}{i2 m t7:Nat}{pre:List Code}{o1 o2:Oper}{capops:Array Operand}{sel:List Nat}{rfr rfr':Fr}{fr1:Fr}{σ1:Ac} (hB:B.Ok) (hf:B.P.funcs[f]?=some fn) (hb:fn.body=some (AnZ pre (.seq (.region i2 [o1,o2].toArray false) rest))) (hname:(fn.name == "runtime.NumGoroutine")=false) (hN:fn.ntmps=N) (hrs:fn.results.toList=rs) (hlen:args.length<=N) (hp:∀F:Addr->Prop,Pre (B.env F) N pre (Nx 0 args,[]) (fr1,σ1)) (ho1:o1.op=.makeFunc (.func cf) #[] capops) (hd1:o1.dst=some t7) (hg1:o1.guard=none) (ho2:o2.op=.defer ⟨.value (.tmp t7),#[],#[]⟩) (hd2:o2.dst=none) (hg2:o2.guard=none) (ht7:t7<N) (hcaps:capops.toList.map (evL N fr1)=sel.map fun i=>.ref i 0) (hsm:∀i∈sel,i<m) (hnd:sel.Nodup) (hm:σ1.length=m) {fnc:Func} {cc:Code} (hfc:B.P.funcs[cf]?=some fnc) (hbc:fnc.body=some cc) (hnc:(fnc.name == "runtime.NumGoroutine")=false) (hrest:∀F D,Run (B.env { F:=F,D:=D }) m rest ⟨Ai N (put (some t7) (.fn cf (sel.map fun i=>.ref i 0)) fr1),σ1⟩ (Alc B F cf sel rs N rfr rfr' r0)):Con B f args [] (fun r' O'=>r'=r0/\O'=[]):=by
 refine Q2 (R:=fun r O'=>fzR O' r=some r0) ⟨fun F w g vs hmem ha=>.inl ⟨⟨fn,_,hf,hb,hname⟩,?_⟩⟩ (fun r O' h=>h);refine calls_of_wp_defers hf hb ?_;have hr0:=Mv (fn:=fn) hmem ha;subst hN;rw[GD fn.ntmps args hlen (Nx 0 args) (fun t _=>GW args 0 t (Apz _))]at hr0;refine Ae9 (E:=B.env F) rfl (hp F) hr0 fun a1 w1 g1 hr1 he1=>?_
 refine wp_seq ?_;refine wp_region_lit ?_;simp only[wpList,Region.wanted,hg1,ApT];left
 have hne:∀ys,(sel.map fun i=>AV.ref i 0)≠[.tup ys]:=by
  intro ys
  match sel with
  |[]=>intro h;cases h
  |[i]=>intro h;cases h
  |i::j::l=>intro h;cases h
 have hop1:opL (B.env F) (I6 [] [] none) false (evL fn.ntmps fr1) σ1 o1.op=some (.fn cf (sel.map fun i=>.ref i 0),σ1):=by
  rw[ho1];show MU (B.env F) (evL fn.ntmps fr1) σ1 (.makeFunc (.func cf) #[] capops)=_;simp only[MU,hcaps];split
  ·rfl
  rename_i h2;exact(h2 trivial).elim
 refine Nd (hB.env F) (Ab (B:=B) none) hop1 hr1 ?_;intro a2 w2 g2 hr2 he2 hle2;simp only[wpList,Region.wanted,hg2,ApT];left;simp only[hd1]at hr2;refine YW hB rfl hrs ho2 rfl hd2 ?_ hne (by rfl) hsm hnd hm hfc hbc hnc (hrest F) (he1.trans he2) hr2 fun a' w' h=>h
 rw[CN];show(if t7<fn.ntmps then look (put (some t7) (.fn cf (sel.map fun i=>.ref i 0)) fr1) t7 else .junk)=_;rw[Apb ht7];show(if t7=t7 then _ else _)=_;rw[Apb rfl]
theorem D9(hE:E.Ok){P:Program}(hP:E.P=P){l:List Oper}{Q:Exit->Act->List Frame->World->Prop}{i:Nat}{rest:List Nat}{a:Act}{cs:List Frame}{w:World}{g:Gh}{fr:Fr}{O:Ac}{x:AV}(o:Oper)(ho:l[i]?=some o)(hg:o.guard=none) (hr:Rel E w g ⟨Ai n fr,O⟩ a) (hx:MU E (evL n fr) O o.op=some (x,O')) (hk:∀a' w' g',Rel E w' g' ⟨Ai n (put o.dst x fr),O'⟩ a'->Evo E 0 w g w' g'->GLe g g'->wpOpsS P l.toArray Q rest a' cs w'):wpOpsS P l.toArray Q (i::rest) a cs w:=by
 subst hP;have ho:l.toArray[i]?=some o:=by simpa using ho
 rw[<-CN,<-RC]at hx;obtain⟨v,w',g',h1,h2,h3,h4,h5⟩:=Ks hE hr hx;have hr':=FI (Iy hr h2 h3 h4) o.dst h5
 have hr2:Rel E w' g' ⟨Ai n (put o.dst x fr),O'⟩ (a.put o.dst v):=by
  have e:=EO n fr o.dst x;rw[<-e];exact hr'
 rcases h1 with h1|⟨h1,rfl⟩
 ·simp only[wpOpsS,ho,Region.wanted,hg,ApT,h1];exact hk _ _ _ hr2 h4 h3
 simp only[wpOpsS,ho,Region.wanted,hg,ApT,h1];exact hk _ _ _ hr2 h4 h3
def Age(E:Env)(n:Nat)(fr':List AV)(O':Ac):CO:=fun ex st=>(ex=.normal\/ex=.ret)/\Weak E n st ⟨fr',O'⟩
theorem AhX{fr':List AV}:Lm E n (Age E n fr' O'):=fun st st2 h ⟨e,k⟩=>⟨e,h.trans k⟩
theorem ZX{l:Fr}:Age E n (Ai N []) O' .normal ⟨Ai N l,O'⟩:=⟨.inl rfl,Dh n N [] l O'⟩
theorem QX{F:Addr->Prop}{c₀:Frame}{u':FrameMode}{cs:List Frame}{w0 w:World}{g0 g:Gh}{fr:List AV}{O:Ac}{a:Act}(hres:fn.results=#[])(he0:Evo (B.env F) n w0 g0 w g) (hr:Rel (B.env F) w g ⟨fr,O⟩ a) {fr':List AV} (hrun:Run (B.env F) n rest ⟨fr,O⟩ (Age (B.env F) n fr' O')) :rest.wpS B.P (bodyPostS B.P fn c₀ cs (fun e u2 w'=>∃v g',e=.returned v/\u2=u'/\Mem (B.env F) w' g' O'/\Evo (B.env F) n w0 g0 w' g')) a ({ c₀ with mode:=u' }::cs) w:=by
 refine wpS_of_wp ?_;refine Hu hrun rfl hr ?_;rintro ex st a' w' g1 ⟨hex,h2⟩ hr1 he1;obtain⟨g',hr',he2⟩:=h2 a' w' g1 hr1;have he:=he1.trans he2;have e:results fn a'.tmps=(do let vs <-fn.results.mapM (JP a'.tmps);pure (if h:vs.size=1 then vs[0]else .tuple vs)):=rfl
 have hres2:(results fn a'.tmps).run B.P w'=.ok (.tuple #[]) w':=by
  rw[e,hres,Sem.run_bind,AqC,Sem.run_map];rfl
 rcases hex with rfl|rfl
 ·exact⟨hr'.defers.eq rfl,u',rfl,.tuple #[],hres2,_,g',rfl,rfl,hr'.mem,he0.trans he⟩
 exact⟨hr'.defers.eq rfl,u',rfl,.tuple #[],hres2,_,g',rfl,rfl,hr'.mem,he0.trans he⟩
end Go.Rv
