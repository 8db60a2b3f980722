/-
  Part 35.
-/
import Derived.Test.YtioapcamanmoiaaGreatDoorYA34
import Derived.KernelRfl
namespace Go.Rv
variable{i j k:Nat}{G pa pb pc:Prop}{s:Ad}{o:Option (Fr×Ad)}{Y:Type}
variable {E:Env}{P:Prop}{n m:Nat}{K:DB}{st:St}
theorem Sq{x y:Code}(k:P→Run E n x st (Aaa E n y K)):P→Run E n (.seq x y) st K:=fun p=>Kl (k p)
theorem Sk(k:P→K .normal st):P→Run E n .skip st K:=fun p=>AeI (k p)
theorem Sr(k:P→K .ret st):P→Run E n .ret st K:=fun p=>Xm (k p)
theorem Sx(k:P→K (.exit i) st):P→Run E n (.exit i) st K:=fun p=>AgK (k p)
theorem Sb{c:Code}(k:P→Run E n c st (J2 i K)):P→Run E n (.block i c) st K:=fun p=>AdL (k p)
theorem Tn{y:Code}(k:P→Run E n y st K):P→Aaa E n y K .normal st:=k
theorem Tx{y:Code}(k:P→K (.exit i) st):P→Aaa E n y K (.exit i) st:=k
theorem Tr{y:Code}(k:P→K .ret st):P→Aaa E n y K .ret st:=k
theorem Bn(k:P→K .normal st):P→J2 i K .normal st:=k
theorem Bx(k:P→K .normal st):P→J2 i K (.exit i) st:=fun p=>AfO (k p)
theorem Bo(k:P→K (.exit j) st)(hne:(j==i)=false:=by rfl):P→J2 i K (.exit j) st:=fun p=>AeT (k p) hne
theorem Br(k:P→K .ret st):P→J2 i K .ret st:=k
theorem Un{c:Code}(k:P→O1 E n c K m st):P→unK E n c m K .normal st:=k
theorem Ux{c:Code}(k:P→K (.exit i) st):P→unK E n c m K (.exit i) st:=k
theorem Ur{c:Code}(k:P→K .ret st):P→unK E n c m K .ret st:=k
theorem Ug{c:Code}(k:P→Run E n c st (unK E n c m K)):P→O1 E n c K (m+1) st:=fun p=>Agc (k p)
theorem Ul(i:Nat){c:Code}(k:P→O1 E n c K i st):P→Run E n (.loop c) st K:=fun p=>Y7 i (k p)
theorem Rw{c:Code}{st':St}(w:Weak E n st st')(k:P→Run E n c st' K):P→Run E n c st K:=fun p=>FC w (k p)
theorem Wp{ex:Exit}{st':St}(w:Weak E n st st')(k:P→K ex st'):P→wkP E n K ex st:=fun p=>AcH w (k p)
theorem Ck{α:Type}{c:Prop}[Decidable c]{x:Option α}{r:α}(k:c→x=some r→G):(if c then x else none)=some r→G:=fun h=>k (YB h).1 (YB h).2
theorem Bd{α β:Type}{x:Option α}{f:α→Option β}{r:β}(k:∀y,x=some y→f y=some r→G):x.bind f=some r→G:=fun h=>match MR h with
 |⟨y,h1,h2⟩=>k y h1 h2
theorem Lt{α β:Type}{x:α}{f:α→Option β}{r:β}(k:∀y,y=x→f y=some r→G):lt1 x f=some r→G:=fun h=>k x rfl h
theorem Sp{α:Type}{c:Bool}{x y:Option α}{r:α}(kt:c=true→x=some r→G)(kf:c=false→y=some r→G):(if c then x else y)=some r→G:=fun h=>match hc:c,h with
 |true,h=>kt rfl (Alw h rfl)
 |false,h=>kf rfl (Amz h rfl)
theorem Cd{α:Type}{N t:Nat}{b:Bool}{p q:Option α}{r:α}{x y:Code}{l:Fr}{σ:Ad}(kt:p=some r→Run E n x ⟨Ao N l,σ⟩ K)(kf:q=some r→Run E n y ⟨Ao N l,σ⟩ K)(hc:look l t=.bool b:=by rfl)(hN:t<N:=by decide) :(if b then p else q)=some r→Run E n (.cond (.tmp t) x y) ⟨Ao N l,σ⟩ K:=fun h=>P4 hc hN (fun hb=>kt (Alw h hb)) (fun hb=>kf (Amz h hb))
theorem Ct{N t:Nat}{x y:Code}{l:Fr}{σ:Ad}(k:P→Run E n x ⟨Ao N l,σ⟩ K)(hc:look l t=.bool true:=by rfl)(hN:t<N:=by decide):P→Run E n (.cond (.tmp t) x y) ⟨Ao N l,σ⟩ K:=fun p=>P4 hc hN (fun _=>k p) (fun hb=>by cases hb)
theorem Cf{N t:Nat}{x y:Code}{l:Fr}{σ:Ad}(k:P→Run E n y ⟨Ao N l,σ⟩ K)(hc:look l t=.bool false:=by rfl)(hN:t<N:=by decide):P→Run E n (.cond (.tmp t) x y) ⟨Ao N l,σ⟩ K:=fun p=>P4 hc hN (fun hb=>by cases hb) (fun _=>k p)
def Is(o:Option (Fr×Ad))(f:Fr)(s:Ad):Prop:=o=some (f,s)
theorem AL{f:Fr}:Is (some (f,s)) f s:=rfl
theorem Ev{f:Fr}(h:Is o f s:=by simp only[go_sem];exact AL):Is o f s:=h
theorem Ew1{f:Fr}(a:pa)(h:pa→Is o f s:=by intro ca;simp only[go_sem,ca];exact AL):Is o f s:=h a
theorem Ew2{f:Fr}(a:pa)(b:pb)(h:pa→pb→Is o f s:=by intro ca cb;simp only[go_sem,ca,cb];exact AL):Is o f s:=h a b
theorem Ew3{f:Fr}(a:pa)(b:pb)(c:pc)(h:pa→pb→pc→Is o f s:=by intro ca cb cc;simp only[go_sem,ca,cb,cc];exact AL):Is o f s:=h a b c
theorem Ew4{f:Fr}{pd:Prop}(a:pa)(b:pb)(c:pc)(d:pd)(h:pa→pb→pc→pd→Is o f s:=by intro ca cb cc cd;simp only[go_sem,ca,cb,cc,cd];exact AL):Is o f s:=h a b c d
theorem Ew5{f:Fr}{pd pe:Prop}(a:pa)(b:pb)(c:pc)(d:pd)(e:pe)(h:pa→pb→pc→pd→pe→Is o f s:=by intro ca cb cc cd ce;simp only[go_sem,ca,cb,cc,cd,ce];exact AL):Is o f s:=h a b c d e
theorem gs{p:Prop}(h:p:=by simp only[go_sem]):p:=h
theorem qR{x:Int}(h:InR x k):InR x k∧x.toNat<k∧x.toNat+1≤k:=⟨h,h.2,h.2⟩
theorem qL(h:InR (OfNat.ofNat k) j):InR (OfNat.ofNat k) j∧k<j:=⟨h,h.2⟩
theorem qN(h:InR (k:Int) j):InR (k:Int) j∧k<j∧k+1≤j:=⟨h,Tv h,Tv h⟩
theorem ws{N:Nat}{l l':Fr}{σ σ':Ad}(sel:List Nat)(hσ:Z0 sel σ sel σ':=by simp only[go_sem])(hf:Aly sel l l':=by simp only[go_sem])(hnd:sel.Nodup:=by decide)(hn:sel.take n=List.range n:=by rfl):Weak E n ⟨Ao N l,σ⟩ ⟨Ao N l',σ'⟩:=ZI sel hnd hn hσ hf
theorem o1{B:Base}(d:Nat){f:FuncId}{a:List AV}{r:AV}(h:Con B f a [] (fun r' σ'=>r'=r∧σ'=[])):KK B (J4 [(d,f,a,r)] []):=Bt ⟨h,trivial⟩
theorem o2{B:Base}(d:Nat){f:FuncId}{a:List AV}{r:AV}(h:Con B f a [] (fun r' σ'=>r'=r∧σ'=[]))(d2:Nat){f2:FuncId}{a2:List AV}{r2:AV}(h2:Con B f2 a2 [] (fun r' σ'=>r'=r2∧σ'=[])):KK B (J4 [(d,f,a,r),(d2,f2,a2,r2)] []):=Bt ⟨h,h2,trivial⟩
theorem wc{B:Base}{f:FuncId}{args1:List AV}{σ1:Ad}{r1:AV}{σ2:Ad}(hcon:Con B f args1 σ1 (fun r σ'=>r=r1∧σ'=σ2)){σ:Ad}{args:List AV}(sel:List Nat){r:AV}{σ':Ad}(hσ:Z0 sel σ sel σ1:=by simp only[go_sem]) (ha:wkA sel args args1:=by simp only[go_sem]) (hb:CU σ2=true:=by simp only[go_sem]) (hr:XA sel σ.length r1=r:=by first|(simp only[go_sem];done)|(simp only[go_sem];exact rfl)|exact rfl) (hs:Ob σ sel (σ2.map (AhP sel σ.length))=σ':=by first|(simp only[go_sem];done)|(simp only[go_sem];exact rfl)|exact rfl) (hnd:sel.Nodup:=by decide):∀F:Addr→Prop,VR (B.env F) f args σ r σ':=Acl hcon sel hnd hσ ha hb hr hs
section
variable {N id:Nat}{l:List Oper}{fr fr':Fr}{σ σ':Ad}{y:Code}{orc:Option Tmp→Orc}
theorem Te(ts:List Nat)(o:KK E.toBase orc)(e:Is (NJ E orc false N l ts (fr,σ)) fr' σ')(k:P→Run E m y ⟨Ao N fr',σ'⟩ K)(hE:E.Ok:=by assumption):P→Run E m (.seq (.region id l.toArray false) y) ⟨Ao N fr,σ⟩ K:=fun p=>L3 hE ts ⟨_,o,e⟩ (k p)
theorem T0(ts:List Nat)(k:P→Run E m y ⟨Ao N fr',σ'⟩ K)(e:Is (NJ E (J4 [] []) false N l ts (fr,σ)) fr' σ':=by simp only[go_sem];exact AL)(hE:E.Ok:=by assumption):P→Run E m (.seq (.region id l.toArray false) y) ⟨Ao N fr,σ⟩ K:=fun p=>L3 hE ts ⟨_,Aa,e⟩ (k p)
theorem Fe(ts:List Nat)(o:KK E.toBase orc)(e:Is (NJ E orc false N l ts (fr,σ)) fr' σ')(k:P→K .normal ⟨Ao N fr',σ'⟩)(hw:SM E m K:=by repeat' first|exact JD|exact P1|exact Aft|exact Afg|exact YF|refine Mi ?_|refine Oj ?_)(hE:E.Ok:=by assumption):P→Run E m (.region id l.toArray false) ⟨Ao N fr,σ⟩ K:=fun p=>M8 hE hw ts ⟨_,o,e⟩ (k p)
theorem F0(ts:List Nat)(k:P→K .normal ⟨Ao N fr',σ'⟩)(e:Is (NJ E (J4 [] []) false N l ts (fr,σ)) fr' σ':=by simp only[go_sem];exact AL)(hw:SM E m K:=by repeat' first|exact JD|exact P1|exact Aft|exact Afg|exact YF|refine Mi ?_|refine Oj ?_)(hE:E.Ok:=by assumption):P→Run E m (.region id l.toArray false) ⟨Ao N fr,σ⟩ K:=fun p=>M8 hE hw ts ⟨_,Aa,e⟩ (k p)
theorem De(T:List (List Nat))(ts:List Nat)(o:KK E.toBase orc)(e:Is (NJ E orc true N l ts (fr,σ)) fr' σ')(k:P→Run E m y ⟨Ao N fr',σ'⟩ K)(hP:E.P.follows .mixedOrders=true:=by exact MF)(h1:Gc l.toArray T=true:=by kernel_rfl)(h2:Ik E l.toArray T=true:=by kernel_rfl)(hE:E.Ok:=by assumption):P→Run E m (.seq (.region id l.toArray true) y) ⟨Ao N fr,σ⟩ K:=fun p=>Q3 hE hP T h1 h2 ts ⟨_,o,e⟩ (k p)
theorem Ge(T:List (List Nat))(ts:List Nat)(o:KK E.toBase orc)(e:Is (NJ E orc true N l ts (fr,σ)) fr' σ')(k:P→K .normal ⟨Ao N fr',σ'⟩)(hw:SM E m K:=by repeat' first|exact JD|exact P1|exact Aft|exact Afg|exact YF|refine Mi ?_|refine Oj ?_)(hP:E.P.follows .mixedOrders=true:=by exact MF)(h1:Gc l.toArray T=true:=by kernel_rfl)(h2:Ik E l.toArray T=true:=by kernel_rfl)(hE:E.Ok:=by assumption):P→Run E m (.region id l.toArray true) ⟨Ao N fr,σ⟩ K:=fun p=>AbC hE hP T h1 h2 hw ts ⟨_,o,e⟩ (k p)
def Gw(E:Env)(d:Bool)(m N:Nat)(l:List Oper)(ts:List Nat)(s:Fr×Ad){V:Type}(S:V→St)(v:V):Prop:=∃orc fr1 σ1,KK E.toBase orc∧NJ E orc d N l ts s=some (fr1,σ1)∧Weak E m ⟨Ao N fr1,σ1⟩ (S v)
variable {V β:Type}{X:Option V}{f:V→Option β}{r:β}
theorem Lf{d:Bool}{ts:List Nat}{S:V→St}{a v:V}{fr1:Fr}{σ1:Ad}(o:KK E.toBase orc)(e:Is (NJ E orc d N l ts (fr,σ)) fr1 σ1)(w:Weak E m ⟨Ao N fr1,σ1⟩ (S a)):some a=some v→Gw E d m N l ts (fr,σ) S v:=fun h=>by
 obtain rfl:=AtA h;exact⟨_,_,_,o,e,w⟩
theorem Amp{ts:List Nat}{S:V→St}{v:V}(hE:E.Ok)(h:Gw E false m N l ts (fr,σ) S v)(k:Run E m y (S v) K):Run E m (.seq (.region id l.toArray false) y) ⟨Ao N fr,σ⟩ K:=by
 obtain⟨orc,fr1,σ1,hO,h,hw⟩:=h;exact ZE hE hO ts h (FC hw k)
theorem Tw(ts:List Nat)(S:V→St)(kA:∀v,X=some v→Gw E false m N l ts (fr,σ) S v)(kB:∀v,f v=some r→Run E m y (S v) K)(hE:E.Ok:=by assumption):X.bind f=some r→Run E m (.seq (.region id l.toArray false) y) ⟨Ao N fr,σ⟩ K:=Bd fun v h1 h2=>Amp hE (kA v h1) (kB v h2)
theorem Fw(ts:List Nat)(S:V→St)(kA:∀v,X=some v→Gw E false m N l ts (fr,σ) S v)(kB:∀v,f v=some r→K .normal (S v))(hw:SM E m K:=by repeat' first|exact JD|exact P1|exact Aft|exact Afg|exact YF|refine Mi ?_|refine Oj ?_)(hE:E.Ok:=by assumption):X.bind f=some r→Run E m (.region id l.toArray false) ⟨Ao N fr,σ⟩ K:=Bd fun v h1 h2=>by
 obtain⟨orc,fr1,σ1,hO,h,w⟩:=kA v h1;exact M8 hE hw ts ⟨orc,hO,h⟩ (hw _ _ w (kB v h2))
theorem Dw(T:List (List Nat))(ts:List Nat)(S:V→St)(kA:∀v,X=some v→Gw E true m N l ts (fr,σ) S v)(kB:∀v,f v=some r→Run E m y (S v) K)(hP:E.P.follows .mixedOrders=true:=by exact MF)(h1:Gc l.toArray T=true:=by kernel_rfl)(h2:Ik E l.toArray T=true:=by kernel_rfl)(hE:E.Ok:=by assumption):X.bind f=some r→Run E m (.seq (.region id l.toArray true) y) ⟨Ao N fr,σ⟩ K:=Bd fun v k1 k2=>by
 obtain⟨orc,fr1,σ1,hO,h,w⟩:=kA v k1;exact ZJ hE hO hP T h1 h2 ts h (FC w (kB v k2))
end
def Hj{α β:Type}(g:α→Option β)(x:α)(r:β):Prop:=g x=some r
section
variable {V R α β:Type}{X:Option (V⊕R)}{r:β}
theorem Jo{g:V⊕R→Option β}{A B:Code}(S:V→St)(kA:∀j,Hj g j r→X=some j→Run E n A st (UI E n S (fun v=>.inl v=j) K))(kB:∀v,g (.inl v)=some r→Run E n B (S v) K):X.bind g=some r→Run E n (.seq A B) st K:=Bd fun j h1 h2=>Yt S _ (kA j h2 h1) (fun v e=>kB v (e ▸ h2))
theorem Ja{X:Option V}{g:V→Option β}{A B:Code}(S:V→St)(kA:∀j,X=some j→Run E n A st (UI E n S (fun v=>v=j) K))(kB:∀v,g v=some r→Run E n B (S v) K):X.bind g=some r→Run E n (.seq A B) st K:=Bd fun j h1 h2=>Yt S _ (kA j h1) (fun v e=>kB v (e ▸ h2))
theorem Jn{S:V→St}{v:V}{j:V⊕R}(w:Weak E n st (S v)):some (.inl v)=some j→UI E n S (fun v=>.inl v=j) K .normal st:=fun h=>⟨v,AtA h,w⟩
theorem Jm{S:V→St}{v j:V}(w:Weak E n st (S v)):some v=some j→UI E n S (fun v=>v=j) K .normal st:=fun h=>⟨v,AtA h,w⟩
theorem jout{X:Option β}{g:V⊕β→Option β}{j:V⊕β}(hj:Hj g j r)(hg:∀z,g (.inr z)=some z)(h:(X.bind fun z=>some (.inr z))=some j):X=some r:=by
 obtain⟨z,h1,h2⟩:=MR h;obtain rfl:=AtA h2;unfold Hj at hj;rw[hg]at hj;rw[h1,hj]
theorem Jr{S:V→St}{J:V→Prop}{X:Option β}{g:V⊕β→Option β}{j:V⊕β}(hj:Hj g j r)(k:X=some r→K .ret st)(hg:∀z,g (.inr z)=some z:=by exact fun _=>rfl):(X.bind fun z=>some (.inr z))=some j→UI E n S J K .ret st:=fun h=>k (jout hj hg h)
theorem Jx{S:V→St}{J:V→Prop}{X:Option β}{g:V⊕β→Option β}{j:V⊕β}(hj:Hj g j r)(k:X=some r→K (.exit i) st)(hg:∀z,g (.inr z)=some z:=by exact fun _=>rfl):(X.bind fun z=>some (.inr z))=some j→UI E n S J K (.exit i) st:=fun h=>k (jout hj hg h)
theorem Lo{X:Type}{f:V→Option (V⊕X)}{v0:V}{g:X→Option β}{c:Code}(S:V→St)(w:Weak E n st (S v0))(k:∀v x o,Hj g x r→(∀y,o=.inr y→y=x)→f v=some o→Run E n c (S v) (lpK E n S o K)):(Ax f v0).bind g=some r→Run E n (.loop c) st K:=Bd fun x h1 h2=>Aca h1 S w fun v o h3 h4=>k v x o h2 h4 h3
theorem Ln{X:Type}{S:V→St}{v:V}{o:V⊕X}(w:Weak E n st (S v)):some (.inl v)=some o→lpK E n S o K .normal st:=fun h=>⟨v,(AtA h).symm,w⟩
theorem Lx{S:V→St}{Z:Type}{w:Y}{o:V⊕(Y⊕Z)}{x:Y⊕Z}{g:Y⊕Z→Option β}(hx:∀y,o=.inr y→y=x)(hj:Hj g x r)(k:g (.inl w)=some r→K (.exit i) st):some (.inr (.inl w))=some o→lpK E n S o K (.exit i) st:=fun h=>k (by rw[hx _ (AtA h).symm];exact hj)
theorem Ly{S:V→St}{w:Y}{o:V⊕Y}{x:Y}{g:Y→Option β}(hx:∀y,o=.inr y→y=x)(hj:Hj g x r)(k:g w=some r→K (.exit i) st):some (.inr w)=some o→lpK E n S o K (.exit i) st:=fun h=>k (by rw[hx _ (AtA h).symm];exact hj)
theorem lout{X:Option β}{g:Y⊕β→Option β}{o:V⊕(Y⊕β)}{x:Y⊕β}(hx:∀y,o=.inr y→y=x)(hj:Hj g x r)(hg:∀z,g (.inr z)=some z)(h:(X.bind fun z=>some (.inr (.inr z)))=some o):X=some r:=by
 obtain⟨z,h1,h2⟩:=MR h;have:=hx _ (AtA h2).symm;unfold Hj at hj;rw[←this,hg]at hj;rw[h1,hj]
theorem Lr{S:V→St}{X:Option β}{g:Y⊕β→Option β}{o:V⊕(Y⊕β)}{x:Y⊕β}(hx:∀y,o=.inr y→y=x)(hj:Hj g x r)(k:X=some r→K .ret st)(hg:∀z,g (.inr z)=some z:=by exact fun _=>rfl):(X.bind fun z=>some (.inr (.inr z)))=some o→lpK E n S o K .ret st:=fun h=>k (lout hx hj hg h)
end
section
variable {N:Nat}{l:Fr}{σ σ0:Ad}{rs:List ResultVar}{r0:AV}{ex:Exit}
theorem Rr(h:P→(AbE E n l σ rs).bind (fun xs=>fzR σ (Jf xs))=some r0:=by intro h;obtain rfl:=AtA h;simp only[go_sem])(hex:ex=.normal∨ex=.ret:=by first|exact .inr rfl|exact .inl rfl):P→wkP E m (AkD E rs r0) ex ⟨Ao n l,σ⟩:=fun p=>AcH (Weak.refl _ _) (Anm hex (h p))
theorem Rn(h:P→False:=by intro h;cases h){Q:Prop}:P→Q:=fun p=>(h p).elim
theorem Ro(sel:List Nat)(h:P→Amd sel r0 (AbE E N l σ rs):=by intro h;obtain rfl:=AtA h;simp only[go_sem])(hσ:P→Z0 sel σ sel σ0:=by intro h;obtain rfl:=AtA h;simp only[go_sem])(hnd:sel.Nodup:=by decide)(hn:sel.take n=List.range n:=by rfl)(hex:ex=.normal∨ex=.ret:=by first|exact .inr rfl|exact .inl rfl):P→wkP E m (AoL E n rs r0 σ0) ex ⟨Ao N l,σ⟩:=fun p=>AcH (Weak.refl _ _) (AjQ hex sel hnd hn (h p) (hσ p))
end
section
variable {B:Base}{f:FuncId}{fn:Func}{c:Code}{args:List AV}{r0:AV}{l:Fr}{σ σ0:Ad}
theorem Cw(N:Nat)(rs:List ResultVar)(hf:B.P.funcs[f]?=some fn)(h:∀F:Addr→Prop,(B.env F).Ok→P→Run (B.env F) 0 c ⟨Ao N l,[]⟩ (wkP (B.env F) 0 (AkD (B.env F) rs r0)))(p:P)(hl:QW 0 args=l:=by first|(simp only[QW,Nat.reduceAdd];exact rfl)|(simp only[QW,Nat.reduceAdd];done))(hB:B.Ok:=by exact ok)(hb:fn.body=some c:=by exact rfl)(hn:(fn.name == "runtime.NumGoroutine")=false:=by decide +kernel) (hN:fn.ntmps=N:=by exact rfl) (hrs:fn.results.toList=rs:=by exact rfl) (hlen:args.length≤N:=by exact AtM rfl):Con B f args [] (fun r' σ'=>r'=r0∧σ'=[]):=Jq hB hf hb hn hN hrs hlen fun F=>by rw[hl];exact Gn (h F (hB.env F) p)
theorem Co(n N:Nat)(rs:List ResultVar)(hf:B.P.funcs[f]?=some fn)(h:∀F:Addr→Prop,(B.env F).Ok→P→Run (B.env F) n c ⟨Ao N l,σ⟩ (wkP (B.env F) n (AoL (B.env F) n rs r0 σ0)))(p:P)(hl:QW 0 args=l:=by first|(simp only[QW,Nat.reduceAdd];exact rfl)|(simp only[QW,Nat.reduceAdd];done))(hB:B.Ok:=by exact ok)(hb:fn.body=some c:=by exact rfl)(hn:(fn.name == "runtime.NumGoroutine")=false:=by decide +kernel) (hN:fn.ntmps=N:=by exact rfl) (hrs:fn.results.toList=rs:=by exact rfl) (hlen:args.length≤N:=by exact AtM rfl) (hσ:σ.length=n:=by exact rfl):Con B f args σ (fun r' σ'=>r'=r0∧σ'=σ0):=Ns n hσ hB hf hb hn hN hrs hlen fun F=>by rw[hl];exact Gn (h F (hB.env F) p)
end
end Go.Rv
