/-
  Part 36.
-/
import Derived.Test.YtldngkmkhfddpaaGreatDoorYX35
import Derived.KernelRfl
namespace Go.Rv
set_option linter.unusedVariables false
set_option linter.unusedSimpArgs false
variable{i j k:Nat}{G pa pb pc:Prop}{s:Ac}{o:Option (Fr×Ac)}{Y:Type}
variable {E:Env}{P:Prop}{n m:Nat}{K:CO}{st:St}
theorem Sq{x y:Code}(k:P->Run E n x st (VN E n y K)):P->Run E n (.seq x y) st K:=fun p=>Hh (k p)
theorem Sk(k:P->K .normal st):P->Run E n .skip st K:=fun p=>Sf (k p)
theorem Sr(k:P->K .ret st):P->Run E n .ret st K:=fun p=>AhD (k p)
theorem Sx(k:P->K (.exit i) st):P->Run E n (.exit i) st K:=fun p=>Ae3 (k p)
theorem Sl{l:Nat}(k:P->K .normal st):P->Run E n (.label l) st K:=fun p=>AaM (k p)
theorem Sb{c:Code}(k:P->Run E n c st (IG i K)):P->Run E n (.block i c) st K:=fun p=>AaS (k p)
theorem Sc{c:Code}(k:P->Run E n c st (Xc K)):P->Run E n (.scope c) st K:=fun p=>Abm (k p)
theorem Tn{y:Code}(k:P->Run E n y st K):P->VN E n y K .normal st:=k
theorem Tx{y:Code}(k:P->K (.exit i) st):P->VN E n y K (.exit i) st:=k
theorem Tr{y:Code}(k:P->K .ret st):P->VN E n y K .ret st:=k
theorem Bn(k:P->K .normal st):P->IG i K .normal st:=k
theorem Bx(k:P->K .normal st):P->IG i K (.exit i) st:=fun p=>Ae0 (k p)
theorem Bo(k:P->K (.exit j) st)(hne:(j==i)=false:=by rfl):P->IG i K (.exit j) st:=fun p=>AdW (k p) hne
theorem Br(k:P->K .ret st):P->IG i K .ret st:=k
theorem Cr(k:P->K .ret st):P->Xc K .ret st:=k
theorem Un{c:Code}(k:P->O9 E n c K m st):P->unK E n c m K .normal st:=k
theorem Ux{c:Code}(k:P->K (.exit i) st):P->unK E n c m K (.exit i) st:=k
theorem Ur{c:Code}(k:P->K .ret st):P->unK E n c m K .ret st:=k
theorem Ug{c:Code}(k:P->Run E n c st (unK E n c m K)):P->O9 E n c K (m+1) st:=fun p=>AdC (k p)
theorem Ul(i:Nat){c:Code}(k:P->O9 E n c K i st):P->Run E n (.loop c) st K:=fun p=>WE i (k p)
theorem Rw{c:Code}{st':St}(w:Weak E n st st')(k:P->Run E n c st' K):P->Run E n c st K:=fun p=>Fa w (k p)
theorem Wp{ex:Exit}{st':St}(w:Weak E n st st')(k:P->K ex st'):P->wkP E n K ex st:=fun p=>FU w (k p)
theorem Ck{α:Type}{c:Prop}[Decidable c]{x:Option α}{r:α}(k:c->x=some r->G):(if c then x else none)=some r->G:=fun h=>k (Jk h).1 (Jk h).2
theorem Bd{α β:Type}{x:Option α}{f:α->Option β}{r:β}(k:∀y,x=some y->f y=some r->G):x.bind f=some r->G:=fun h=>match An h with
 |⟨y,h1,h2⟩=>k y h1 h2
theorem Lt{α β:Type}{x:α}{f:α->Option β}{r:β}(k:∀y,y=x->f y=some r->G):lt1 x f=some r->G:=fun h=>k x rfl h
theorem Sp{α:Type}{c:Bool}{x y:Option α}{r:α}(kt:c=true->x=some r->G)(kf:c=false->y=some r->G):(if c then x else y)=some r->G:=fun h=>match hc:c,h with
 |true,h=>kt rfl (Ai8 h rfl)
 |false,h=>kf rfl (AlP h rfl)
theorem Cd{α:Type}{N t:Nat}{b:Bool}{p q:Option α}{r:α}{x y:Code}{l:Fr}{O:Ac}(kt:p=some r->Run E n x ⟨Ai N l,O⟩ K)(kf:q=some r->Run E n y ⟨Ai N l,O⟩ K)(hc:look l t=.bool b:=by rfl)(hN:t<N:=by decide) :(if b then p else q)=some r->Run E n (.cond (.tmp t) x y) ⟨Ai N l,O⟩ K:=fun h=>Jc hc hN (fun hb=>kt (Ai8 h hb)) (fun hb=>kf (AlP h hb))
theorem Ct{N t:Nat}{x y:Code}{l:Fr}{O:Ac}(k:P->Run E n x ⟨Ai N l,O⟩ K)(hc:look l t=.bool true:=by rfl)(hN:t<N:=by decide):P->Run E n (.cond (.tmp t) x y) ⟨Ai N l,O⟩ K:=fun p=>Jc hc hN (fun _=>k p) (fun hb=>by cases hb)
theorem Cf{N t:Nat}{x y:Code}{l:Fr}{O:Ac}(k:P->Run E n y ⟨Ai N l,O⟩ K)(hc:look l t=.bool false:=by rfl)(hN:t<N:=by decide):P->Run E n (.cond (.tmp t) x y) ⟨Ai N l,O⟩ K:=fun p=>Jc hc hN (fun hb=>by cases hb) (fun _=>k p)
def Is(o:Option (Fr×Ac))(f:Fr)(s:Ac):Prop:=o=some (f,s)
theorem C2{f:Fr}:Is (some (f,s)) f s:=rfl
theorem Ev{f:Fr}(h:Is o f s:=by simp only[go_sem];exact C2):Is o f s:=h
theorem Ew1{f:Fr}(a:pa)(h:pa->Is o f s:=by intro ca;simp only[go_sem,ca];exact C2):Is o f s:=h a
theorem Ew2{f:Fr}(a:pa)(b:pb)(h:pa->pb->Is o f s:=by intro ca cb;simp only[go_sem,ca,cb];exact C2):Is o f s:=h a b
theorem Ew3{f:Fr}(a:pa)(b:pb)(c:pc)(h:pa->pb->pc->Is o f s:=by intro ca cb cc;simp only[go_sem,ca,cb,cc];exact C2):Is o f s:=h a b c
theorem Ew4{f:Fr}{pd:Prop}(a:pa)(b:pb)(c:pc)(d:pd)(h:pa->pb->pc->pd->Is o f s:=by intro ca cb cc cd;simp only[go_sem,ca,cb,cc,cd];exact C2):Is o f s:=h a b c d
theorem Ew5{f:Fr}{pd pe:Prop}(a:pa)(b:pb)(c:pc)(d:pd)(e:pe)(h:pa->pb->pc->pd->pe->Is o f s:=by intro ca cb cc cd ce;simp only[go_sem,ca,cb,cc,cd,ce];exact C2):Is o f s:=h a b c d e
theorem gs{p:Prop}(h:p:=by simp only[go_sem]):p:=h
theorem qR{x:Int}(h:InR x k):InR x k/\x.toNat<k/\x.toNat+1<=k:=⟨h,h.2,h.2⟩
theorem qL(h:InR (OfNat.ofNat k) j):InR (OfNat.ofNat k) j/\k<j:=⟨h,h.2⟩
theorem qN(h:InR (k:Int) j):InR (k:Int) j/\k<j/\k+1<=j:=⟨h,AcH h,AcH h⟩
theorem ws{N:Nat}{l l':Fr}{O O':Ac}(sel:List Nat)(hO:JI sel O sel O':=by simp only[go_sem])(hf:Ah4 sel l l':=by simp only[go_sem])(hnd:sel.Nodup:=by decide)(hn:sel.take n=List.range n:=by rfl):Weak E n ⟨Ai N l,O⟩ ⟨Ai N l',O'⟩:=XB sel hnd hn hO hf
theorem o1{B:Base}(d:Nat){f:FuncId}{a:List AV}{r:AV}(h:Con B f a [] (fun r' O'=>r'=r/\O'=[])):He B (I6 [(d,f,a,r)] []):=OM ⟨h,trivial⟩
theorem o2{B:Base}(d:Nat){f:FuncId}{a:List AV}{r:AV}(h:Con B f a [] (fun r' O'=>r'=r/\O'=[]))(d2:Nat){f2:FuncId}{a2:List AV}{r2:AV}(h2:Con B f2 a2 [] (fun r' O'=>r'=r2/\O'=[])):He B (I6 [(d,f,a,r),(d2,f2,a2,r2)] []):=OM ⟨h,h2,trivial⟩
theorem wc{B:Base}{f:FuncId}{args1:List AV}{σ1:Ac}{r1:AV}{σ2:Ac}(hcon:Con B f args1 σ1 (fun r O'=>r=r1/\O'=σ2)){O:Ac}{args:List AV}(sel:List Nat){r:AV}{O':Ac}(hO:JI sel O sel σ1:=by simp only[go_sem]) (ha:wkA sel args args1:=by simp only[go_sem]) (hb:BU σ2=true:=by simp only[go_sem]) (hr:SI sel O.length r1=r:=by first|(simp only[go_sem];done)|(simp only[go_sem];exact rfl)|exact rfl) (hs:M6 O sel (σ2.map (AcC sel O.length))=O':=by first|(simp only[go_sem];done)|(simp only[go_sem];exact rfl)|exact rfl) (hnd:sel.Nodup:=by decide):∀F:Addr->Prop,UD (B.env F) f args O r O':=Tv hcon sel hnd hO ha hb hr hs
section
variable {N id:Nat}{l:List Oper}{fr fr':Fr}{O O':Ac}{y:Code}{orc:Option Tmp->Orc}
theorem Te(ts:List Nat)(o:He E.toBase orc)(e:Is (Hq E orc false N l ts (fr,O)) fr' O')(k:P->Run E m y ⟨Ai N fr',O'⟩ K)(hE:E.Ok:=by assumption):P->Run E m (.seq (.region id l.toArray false) y) ⟨Ai N fr,O⟩ K:=fun p=>IJ hE ts ⟨_,o,e⟩ (k p)
theorem T0(ts:List Nat)(k:P->Run E m y ⟨Ai N fr',O'⟩ K)(e:Is (Hq E (I6 [] []) false N l ts (fr,O)) fr' O':=by simp only[go_sem];exact C2)(hE:E.Ok:=by assumption):P->Run E m (.seq (.region id l.toArray false) y) ⟨Ai N fr,O⟩ K:=fun p=>IJ hE ts ⟨_,Ab,e⟩ (k p)
theorem Fe(ts:List Nat)(o:He E.toBase orc)(e:Is (Hq E orc false N l ts (fr,O)) fr' O')(k:P->K .normal ⟨Ai N fr',O'⟩)(hw:Lm E m K:=by repeat' first|exact Ea|exact FJ|exact Qm|exact Qw|exact Kr|refine E4 ?_|refine GJ ?_)(hE:E.Ok:=by assumption):P->Run E m (.region id l.toArray false) ⟨Ai N fr,O⟩ K:=fun p=>D2 hE hw ts ⟨_,o,e⟩ (k p)
theorem F0(ts:List Nat)(k:P->K .normal ⟨Ai N fr',O'⟩)(e:Is (Hq E (I6 [] []) false N l ts (fr,O)) fr' O':=by simp only[go_sem];exact C2)(hw:Lm E m K:=by repeat' first|exact Ea|exact FJ|exact Qm|exact Qw|exact Kr|refine E4 ?_|refine GJ ?_)(hE:E.Ok:=by assumption):P->Run E m (.region id l.toArray false) ⟨Ai N fr,O⟩ K:=fun p=>D2 hE hw ts ⟨_,Ab,e⟩ (k p)
theorem De(T:List (List Nat))(ts:List Nat)(o:He E.toBase orc)(e:Is (Hq E orc true N l ts (fr,O)) fr' O')(k:P->Run E m y ⟨Ai N fr',O'⟩ K)(hP:E.P.follows .mixedOrders=true:=by exact mixed)(h1:EX l.toArray T=true:=by kernel_rfl)(h2:Ia E l.toArray T=true:=by kernel_rfl)(hE:E.Ok:=by assumption):P->Run E m (.seq (.region id l.toArray true) y) ⟨Ai N fr,O⟩ K:=fun p=>ZF hE hP T h1 h2 ts ⟨_,o,e⟩ (k p)
theorem Ge(T:List (List Nat))(ts:List Nat)(o:He E.toBase orc)(e:Is (Hq E orc true N l ts (fr,O)) fr' O')(k:P->K .normal ⟨Ai N fr',O'⟩)(hw:Lm E m K:=by repeat' first|exact Ea|exact FJ|exact Qm|exact Qw|exact Kr|refine E4 ?_|refine GJ ?_)(hP:E.P.follows .mixedOrders=true:=by exact mixed)(h1:EX l.toArray T=true:=by kernel_rfl)(h2:Ia E l.toArray T=true:=by kernel_rfl)(hE:E.Ok:=by assumption):P->Run E m (.region id l.toArray true) ⟨Ai N fr,O⟩ K:=fun p=>QA hE hP T h1 h2 hw ts ⟨_,o,e⟩ (k p)
def Gw(E:Env)(d:Bool)(m N:Nat)(l:List Oper)(ts:List Nat)(s:Fr×Ac){V:Type}(S:V->St)(v:V):Prop:=∃orc fr1 σ1,He E.toBase orc/\Hq E orc d N l ts s=some (fr1,σ1)/\Weak E m ⟨Ai N fr1,σ1⟩ (S v)
variable {V β:Type}{X:Option V}{f:V->Option β}{r:β}
theorem Lf{d:Bool}{ts:List Nat}{S:V->St}{a v:V}{fr1:Fr}{σ1:Ac}(o:He E.toBase orc)(e:Is (Hq E orc d N l ts (fr,O)) fr1 σ1)(w:Weak E m ⟨Ai N fr1,σ1⟩ (S a)):some a=some v->Gw E d m N l ts (fr,O) S v:=fun h=>by
 obtain rfl:=Ao8 h;exact⟨_,_,_,o,e,w⟩
theorem AiR{ts:List Nat}{S:V->St}{v:V}(hE:E.Ok)(h:Gw E false m N l ts (fr,O) S v)(k:Run E m y (S v) K):Run E m (.seq (.region id l.toArray false) y) ⟨Ai N fr,O⟩ K:=by
 obtain⟨orc,fr1,σ1,hO,h,hw⟩:=h;exact Xm hE hO ts h (Fa hw k)
theorem Tw(ts:List Nat)(S:V->St)(kA:∀v,X=some v->Gw E false m N l ts (fr,O) S v)(kB:∀v,f v=some r->Run E m y (S v) K)(hE:E.Ok:=by assumption):X.bind f=some r->Run E m (.seq (.region id l.toArray false) y) ⟨Ai N fr,O⟩ K:=Bd fun v h1 h2=>AiR hE (kA v h1) (kB v h2)
theorem Fw(ts:List Nat)(S:V->St)(kA:∀v,X=some v->Gw E false m N l ts (fr,O) S v)(kB:∀v,f v=some r->K .normal (S v))(hw:Lm E m K:=by repeat' first|exact Ea|exact FJ|exact Qm|exact Qw|exact Kr|refine E4 ?_|refine GJ ?_)(hE:E.Ok:=by assumption):X.bind f=some r->Run E m (.region id l.toArray false) ⟨Ai N fr,O⟩ K:=Bd fun v h1 h2=>by
 obtain⟨orc,fr1,σ1,hO,h,w⟩:=kA v h1;exact D2 hE hw ts ⟨orc,hO,h⟩ (hw _ _ w (kB v h2))
theorem Dw(T:List (List Nat))(ts:List Nat)(S:V->St)(kA:∀v,X=some v->Gw E true m N l ts (fr,O) S v)(kB:∀v,f v=some r->Run E m y (S v) K)(hP:E.P.follows .mixedOrders=true:=by exact mixed)(h1:EX l.toArray T=true:=by kernel_rfl)(h2:Ia E l.toArray T=true:=by kernel_rfl)(hE:E.Ok:=by assumption):X.bind f=some r->Run E m (.seq (.region id l.toArray true) y) ⟨Ai N fr,O⟩ K:=Bd fun v k1 k2=>by
 obtain⟨orc,fr1,σ1,hO,h,w⟩:=kA v k1;exact WV hE hO hP T h1 h2 ts h (Fa w (kB v k2))
theorem Hw(T:List (List Nat))(ts:List Nat)(S:V->St)(kA:∀v,X=some v->Gw E true m N l ts (fr,O) S v)(kB:∀v,f v=some r->K .normal (S v))(hw:Lm E m K:=by repeat' first|exact Ea|exact FJ|exact Qm|exact Qw|exact Kr|refine E4 ?_|refine GJ ?_)(hP:E.P.follows .mixedOrders=true:=by exact mixed)(h1:EX l.toArray T=true:=by kernel_rfl)(h2:Ia E l.toArray T=true:=by kernel_rfl)(hE:E.Ok:=by assumption):X.bind f=some r->Run E m (.region id l.toArray true) ⟨Ai N fr,O⟩ K:=Bd fun v k1 k2=>by
 obtain⟨orc,fr1,σ1,hO,h,w⟩:=kA v k1;exact QA hE hP T h1 h2 hw ts ⟨orc,hO,h⟩ (hw _ _ w (kB v k2))
end
def Hj{α β:Type}(g:α->Option β)(x:α)(r:β):Prop:=g x=some r
section
variable {V R α β:Type}{X:Option (V⊕R)}{r:β}
theorem Jo{g:V⊕R->Option β}{A B:Code}(S:V->St)(kA:∀j,Hj g j r->X=some j->Run E n A st (Ri E n S (fun v=>.inl v=j) K))(kB:∀v,g (.inl v)=some r->Run E n B (S v) K):X.bind g=some r->Run E n (.seq A B) st K:=Bd fun j h1 h2=>Xq S _ (kA j h2 h1) (fun v e=>kB v (e ▸ h2))
theorem Ja{X:Option V}{g:V->Option β}{A B:Code}(S:V->St)(kA:∀j,X=some j->Run E n A st (Ri E n S (fun v=>v=j) K))(kB:∀v,g v=some r->Run E n B (S v) K):X.bind g=some r->Run E n (.seq A B) st K:=Bd fun j h1 h2=>Xq S _ (kA j h1) (fun v e=>kB v (e ▸ h2))
theorem Jn{S:V->St}{v:V}{j:V⊕R}(w:Weak E n st (S v)):some (.inl v)=some j->Ri E n S (fun v=>.inl v=j) K .normal st:=fun h=>⟨v,Ao8 h,w⟩
theorem Jm{S:V->St}{v j:V}(w:Weak E n st (S v)):some v=some j->Ri E n S (fun v=>v=j) K .normal st:=fun h=>⟨v,Ao8 h,w⟩
theorem jout{X:Option β}{g:V⊕β->Option β}{j:V⊕β}(hj:Hj g j r)(hg:∀z,g (.inr z)=some z)(h:(X.bind fun z=>some (.inr z))=some j):X=some r:=by
 obtain⟨z,h1,h2⟩:=An h;obtain rfl:=Ao8 h2;unfold Hj at hj;rw[hg]at hj;rw[h1,hj]
theorem Jr{S:V->St}{J:V->Prop}{X:Option β}{g:V⊕β->Option β}{j:V⊕β}(hj:Hj g j r)(k:X=some r->K .ret st)(hg:∀z,g (.inr z)=some z:=by exact fun _=>rfl):(X.bind fun z=>some (.inr z))=some j->Ri E n S J K .ret st:=fun h=>k (jout hj hg h)
theorem Jx{S:V->St}{J:V->Prop}{X:Option β}{g:V⊕β->Option β}{j:V⊕β}(hj:Hj g j r)(k:X=some r->K (.exit i) st)(hg:∀z,g (.inr z)=some z:=by exact fun _=>rfl):(X.bind fun z=>some (.inr z))=some j->Ri E n S J K (.exit i) st:=fun h=>k (jout hj hg h)
theorem Lo{X:Type}{f:V->Option (V⊕X)}{v0:V}{g:X->Option β}{c:Code}(S:V->St)(w:Weak E n st (S v0))(k:∀v x o,Hj g x r->(∀y,o=.inr y->y=x)->f v=some o->Run E n c (S v) (lpK E n S o K)):(AY f v0).bind g=some r->Run E n (.loop c) st K:=Bd fun x h1 h2=>AcD h1 S w fun v o h3 h4=>k v x o h2 h4 h3
theorem Ln{X:Type}{S:V->St}{v:V}{o:V⊕X}(w:Weak E n st (S v)):some (.inl v)=some o->lpK E n S o K .normal st:=fun h=>⟨v,(Ao8 h).symm,w⟩
theorem Lx{S:V->St}{Z:Type}{w:Y}{o:V⊕(Y⊕Z)}{x:Y⊕Z}{g:Y⊕Z->Option β}(hx:∀y,o=.inr y->y=x)(hj:Hj g x r)(k:g (.inl w)=some r->K (.exit i) st):some (.inr (.inl w))=some o->lpK E n S o K (.exit i) st:=fun h=>k (by rw[hx _ (Ao8 h).symm];exact hj)
theorem Ly{S:V->St}{w:Y}{o:V⊕Y}{x:Y}{g:Y->Option β}(hx:∀y,o=.inr y->y=x)(hj:Hj g x r)(k:g w=some r->K (.exit i) st):some (.inr w)=some o->lpK E n S o K (.exit i) st:=fun h=>k (by rw[hx _ (Ao8 h).symm];exact hj)
theorem lout{X:Option β}{g:Y⊕β->Option β}{o:V⊕(Y⊕β)}{x:Y⊕β}(hx:∀y,o=.inr y->y=x)(hj:Hj g x r)(hg:∀z,g (.inr z)=some z)(h:(X.bind fun z=>some (.inr (.inr z)))=some o):X=some r:=by
 obtain⟨z,h1,h2⟩:=An h;have:=hx _ (Ao8 h2).symm;unfold Hj at hj;rw[<-this,hg]at hj;rw[h1,hj]
theorem Lr{S:V->St}{X:Option β}{g:Y⊕β->Option β}{o:V⊕(Y⊕β)}{x:Y⊕β}(hx:∀y,o=.inr y->y=x)(hj:Hj g x r)(k:X=some r->K .ret st)(hg:∀z,g (.inr z)=some z:=by exact fun _=>rfl):(X.bind fun z=>some (.inr (.inr z)))=some o->lpK E n S o K .ret st:=fun h=>k (lout hx hj hg h)
end
section
variable {N:Nat}{l:Fr}{O σ0:Ac}{rs:List ResultVar}{r0:AV}{ex:Exit}
theorem Rr(h:P->(UC E n l O rs).bind (fun xs=>fzR O (Hf xs))=some r0:=by intro h;obtain rfl:=Ao8 h;simp only[go_sem])(hex:ex=.normal\/ex=.ret:=by first|exact .inr rfl|exact .inl rfl):P->wkP E m (AlY E rs r0) ex ⟨Ai n l,O⟩:=fun p=>FU (Weak.refl _ _) (Akf hex (h p))
theorem Rn(h:P->False:=by intro h;cases h){Q:Prop}:P->Q:=fun p=>(h p).elim
theorem Po(sel:List Nat)(h:P->Aft sel r0 (UC E N l O rs):=by intro h;obtain rfl:=Ao8 h;simp only[go_sem])(hO:P->JI sel O sel σ0:=by intro h;obtain rfl:=Ao8 h;simp only[go_sem])(hnd:sel.Nodup:=by decide)(hn:sel.take n=List.range n:=by rfl)(hex:ex=.normal\/ex=.ret:=by first|exact .inr rfl|exact .inl rfl):P->Adg E n rs r0 σ0 ex ⟨Ai N l,O⟩:=fun p=>RT hex sel hnd hn (h p) (hO p)
theorem Ro(sel:List Nat)(h:P->Aft sel r0 (UC E N l O rs):=by intro h;obtain rfl:=Ao8 h;simp only[go_sem])(hO:P->JI sel O sel σ0:=by intro h;obtain rfl:=Ao8 h;simp only[go_sem])(hnd:sel.Nodup:=by decide)(hn:sel.take n=List.range n:=by rfl)(hex:ex=.normal\/ex=.ret:=by first|exact .inr rfl|exact .inl rfl):P->wkP E m (Adg E n rs r0 σ0) ex ⟨Ai N l,O⟩:=fun p=>FU (Weak.refl _ _) (RT hex sel hnd hn (h p) (hO p))
end
section
variable {B:Base}{f:FuncId}{fn:Func}{c:Code}{args:List AV}{r0:AV}{l:Fr}{O σ0:Ac}
theorem Cw(N:Nat)(rs:List ResultVar)(hf:B.P.funcs[f]?=some fn)(h:∀F:Addr->Prop,(B.env F).Ok->P->Run (B.env F) 0 c ⟨Ai N l,[]⟩ (wkP (B.env F) 0 (AlY (B.env F) rs r0)))(p:P)(hl:Nx 0 args=l:=by first|(simp only[Nx,Nat.reduceAdd];exact rfl)|(simp only[Nx,Nat.reduceAdd];done))(hB:B.Ok:=by exact ok)(hb:fn.body=some c:=by exact rfl)(hn:(fn.name == "runtime.NumGoroutine")=false:=by decide +kernel) (hN:fn.ntmps=N:=by exact rfl) (hrs:fn.results.toList=rs:=by exact rfl) (hlen:args.length<=N:=by exact Apq rfl):Con B f args [] (fun r' O'=>r'=r0/\O'=[]):=FA hB hf hb hn hN hrs hlen fun F=>by rw[hl];exact BM (h F (hB.env F) p)
theorem Co(n N:Nat)(rs:List ResultVar)(hf:B.P.funcs[f]?=some fn)(h:∀F:Addr->Prop,(B.env F).Ok->P->Run (B.env F) n c ⟨Ai N l,O⟩ (wkP (B.env F) n (Adg (B.env F) n rs r0 σ0)))(p:P)(hl:Nx 0 args=l:=by first|(simp only[Nx,Nat.reduceAdd];exact rfl)|(simp only[Nx,Nat.reduceAdd];done))(hB:B.Ok:=by exact ok)(hb:fn.body=some c:=by exact rfl)(hn:(fn.name == "runtime.NumGoroutine")=false:=by decide +kernel) (hN:fn.ntmps=N:=by exact rfl) (hrs:fn.results.toList=rs:=by exact rfl) (hlen:args.length<=N:=by exact Apq rfl) (hO:O.length=n:=by exact rfl):Con B f args O (fun r' O'=>r'=r0/\O'=σ0):=HU n hO hB hf hb hn hN hrs hlen fun F=>by rw[hl];exact BM (h F (hB.env F) p)
end
end Go.Rv
