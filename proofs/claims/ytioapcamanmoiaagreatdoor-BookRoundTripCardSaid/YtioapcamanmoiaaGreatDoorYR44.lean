/-
  Part 44.
-/
import Derived.Test.YtioapcamanmoiaaGreatDoorYR43
namespace Go.Rv
open Go.RowKit
set_option linter.unusedVariables false
set_option linter.unusedSimpArgs false
variable{σ σ':Ab}{sel:List Nat}
variable {E:Env}
theorem Wx{orc:Option Tmp→Orc}{ops:Array Oper}{o:Oper}{fr:List AV}{x:AV}(hf:EI E ops o=true)(h:DO E orc ops o fr σ=some (x,σ')):σ'=σ∧∀ρ,DO E orc ops o fr ρ=some (x,ρ):=by
 refine⟨CC (by unfold OQ;rw[hf];simp) h,fun ρ=>?_⟩;unfold DO at h ⊢;split at h
 ·rw[hf]at h ⊢;have e:∀σ,Fh true σ=Hu σ:=fun σ=>by funext r;simp[Fh]
  rw[e]at h ⊢
  have e2:∀σ,Cv E (orc o.dst) o.op fr σ=DZ E fr σ o.op:=by
   intro σ;rcases Db hf with⟨t,n,l,h⟩|⟨s,d,x,h,_⟩<;>rw[h]<;>rfl
  rw[e2]at h ⊢;exact Vs _ (Db hf) h
 ·cases h;rfl
 ·cases h
inductive SepW(E:Env)(orc:Option Tmp→Orc)(ops:Array Oper)(x y:Oper)(frF:List AV):Prop
  |old (h:SepZ E orc ops x y frF)
  |fzX (h:EI E ops x=true)
  |fzY (h:EI E ops y=true)
  |freeY (h:AlW E orc ops y frF)
theorem Tp{orc:Option Tmp→Orc}{ops:Array Oper}{x y:Oper}{st st1 st2:St}(hap:x.apart ops y=true)(hc:SepW E orc ops x y st.fr) (h1:BU E orc ops x st=some st1) (h2:BU E orc ops y st1=some st2):∃st3,BU E orc ops y st=some st3∧BU E orc ops x st3=some st2:=by
  have key:EI E ops x=true∨EI E ops y=true→∃st3,BU E orc ops y st=some st3∧BU E orc ops x st3=some st2:=by
    intro hf;obtain⟨a1,a2,a3⟩:=Oper.apart_spec hap;unfold BU at h1 h2 ⊢;rw[AoL]at h1 h2;obtain⟨⟨v,σ1⟩,hv,rfl⟩:=h1;obtain⟨⟨u,σ2⟩,hu,rfl⟩:=h2;simp only at hu ⊢;rw[B1 a1]at hu;rcases hf with hf|hf
    · obtain⟨rfl,hall⟩:=Wx hf hv
      refine⟨⟨AM st.fr y.dst u,σ2⟩,by rw[hu];rfl,?_⟩;simp only;rw[B1 a3,hall];simp only[App,Do st.fr v u a2]
    · obtain⟨rfl,hall⟩:=Wx hf hu
      refine⟨⟨AM st.fr y.dst u,st.σ⟩,by rw[hall];rfl,?_⟩;simp only;rw[B1 a3,hv];simp only[App,Do st.fr v u a2]
  cases hc with
  |old h=>exact TY hap h h1 h2
  |fzX h=>exact key (.inl h)
  |fzY h=>exact key (.inr h)
  | freeY hfree=>
    obtain⟨a1,a2,a3⟩:=Oper.apart_spec hap;unfold BU at h1 h2 ⊢;rw[AoL]at h1 h2;obtain⟨⟨v,σ1⟩,hv,rfl⟩:=h1;obtain⟨⟨u,σ2⟩,hu,rfl⟩:=h2;simp only at hu ⊢;rw[B1 a1]at hu;obtain⟨rfl,hall⟩:=hfree _ _ _ hu;refine⟨⟨AM st.fr y.dst u,st.σ⟩,by rw[hall];rfl,?_⟩;simp only;rw[B1 a3,hv];simp only[App,Do st.fr v u a2]
theorem JS{orc:Option Tmp→Orc}{ops:Array Oper}{i:Nat}{y:Oper}(hi:ops[i]?=some y){l2:List Nat}{st':St}:∀(l1:List Nat) (st:St),(∀m1 j m2,l1=m1++j::m2→∀x,ops[j]?=some x→Ji E ops x y=true∨x.apart ops y=true∧∀st,AY E orc ops ((j::m2)++i::l2) st=some st'→SepW E orc ops x y st.fr)→AY E orc ops (l1++i::l2) st=some st' →∃st1,BU E orc ops y st=some st1∧AY E orc ops (l1++l2) st1=some st'
  | [],st,_,h=>by
    simp only[ApC,AY,hi]at h;rw[AoW]at h;exact h
  | j :: l1,st,hc,h0=>by
    have h:=h0;simp only[Ao5,AY]at h;cases hj:ops[j]? with
    |none=>simp[hj]at h
    | some x=>
      simp only[hj]at h;rw[AoW]at h;obtain⟨s1,h1,h⟩:=h;obtain⟨s2,h2,h⟩:=JS hi l1 s1 (fun m1 k m2 e=>hc (j::m1) k m2 (by rw[e];rfl)) h
      have:∃st3,BU E orc ops y st=some st3∧BU E orc ops x st3=some s2:=by
        rcases hc [] j l1 rfl x hj with hcb|⟨hap,hcy⟩
        · exact IY hcb h1 h2
        · exact Tp hap (hcy st h0) h1 h2
      obtain⟨s3,h3,h4⟩:=this;refine⟨s3,h3,?_⟩;simp only[Ao5,AY,hj,h4,AoP];exact h
def Aav(E:Env)(ops:Array Oper)(T:List (List Nat))(ps xs ws:List (Nat×Nat))(ns ts:List Nat):Bool :=
 (List.range ops.size).all fun i=>(List.range i).all fun j=>(T.getD i []).contains j||(match ops[j]?,ops[i]? with
  |some x,some y=>Ji E ops x y||(x.apart ops y&&(AkE E ops T ps ts j i x y||Aku E ops T ps xs ts i x y||AkD ops T ps ts i y||Aks E ops ps xs ts j x y||sepZ ops T ps ws ts j i x y||EI E ops x||EI E ops y||AhL ops T ns ts i y))
  |_,_=>false)
theorem Qf(hE:E.Ok)(hP:E.P.follows .mixedOrders=true){m n id:Nat}{l:List Oper}(T:List (List Nat))(hok1:E7 l.toArray T=true)(ps xs ws:List (Nat×Nat))(ns ts:List Nat)(hok2:Aav E l.toArray T ps xs ws ns ts=true){fr fr':Fr}{K:Cl}(hw:R5 E m K) (hps:WW n fr' ps) (hws:VQ n fr' ws) (hns:NsL n fr' ns) (h:∃lz m,HU E.toBase (JR lz m)∧XOk m xs∧Lm E (JR lz m) true n l ts (fr,σ)=some (fr',σ')) (hk:K .normal ⟨Aq n fr',σ'⟩):Run E m (.region id l.toArray true) ⟨Aq n fr,σ⟩ K:=by
 obtain⟨lz,mz,hO,hX,h⟩:=h;simp only[Lm,AoW,AoM,AoV]at h;obtain⟨⟨fr1,σ2⟩,h1,rfl,rfl⟩:=h;have hsteps:=FE (E:=E) (ops:=l.toArray) 0 l fr fr1 σ σ2 (by simp) h1;rw[←ApD]at hsteps;intro hcm ac w g hr Q hq;refine IU (JE hcm) (wp_region_any hP ?_);have hsm:SameMem w { w with drawn:=w.drawn+1 }:=⟨rfl,rfl,rfl,rfl⟩
 have hval:∀t a,ts.contains t=true→VO ps t=some a→HW (ev (Aq n fr1) (.tmp t))=some a:=by
  intro t a ht ha;have:=QC hps ha;rw[DI]
  have e:evL n (keep ts fr1) (.tmp t)=evL n fr1 (.tmp t):=by
   show(if t<n then look (keep ts fr1) t else .junk)=if t<n then look fr1 t else .junk
   rw[Kx ts fr1 t (Apf.1 ht)]
  rw[e]at this;exact this
 have hvalW:∀t a,ts.contains t=true→VO ws t=some a→KU (ev (Aq n fr1) (.tmp t)) a:=by
  intro t a ht ha;have:=RC hws ha;rw[DI]
  have e:evL n (keep ts fr1) (.tmp t)=evL n fr1 (.tmp t):=by
   show(if t<n then look (keep ts fr1) t else .junk)=if t<n then look fr1 t else .junk
   rw[Kx ts fr1 t (Apf.1 ht)]
  rw[e]at this;exact this
 refine Nt hE hO hok1 (st':=⟨Aq n fr1,σ2⟩) ?_ l.toArray.size (List.range l.length) _ ⟨Aq n fr,σ⟩ ac _ g (by simp) Aqk (by simp) ?_ ?_ hsteps (IV hr hsm) ?_
 ·intro i his l1 l2 st hp hT hst;have hi:l.toArray[i]?=some l.toArray[i]:=Ao1 his;refine JS hi l1 st (fun m1 j m2 e x hx=>?_) hst;have hj:j∈l1:=by rw[e];simp
  have hji:j<i:=by
   rw[Apl]at hp;exact hp.2.2 j hj i Ao2
  have h1':=A5 (A5 hok2 his) hji;simp only[Apu,Apf]at h1';rcases h1' with h1'|h1'
  ·exact(hT j hj h1').elim
  ·simp only[hx,hi,Apu,Apb]at h1';rcases h1' with h1'|⟨h1',h2'⟩
   ·exact .inl h1'
   ·refine .inr ⟨h1',fun st3 h3=>?_⟩;have hst3:∀t,(∀k∈((j::m2)++i::l2),∀o,l.toArray[k]?=some o→o.dst≠some t)→ev st3.fr (.tmp t)=ev (Aq n fr1) (.tmp t):=fun t hk=>(Gn _ _ _ hk h3).symm
    have hpw:((j::m2)++i::l2).Pairwise (·<·):=by
     rw[e,Ap8]at hp;exact(Apl.1 hp).2.1
    have hge:∀k∈((j::m2)++i::l2),j≤k:=by
     intro k hk;rw[Ao5]at hpw hk;rcases Ao9.1 hk with rfl|hk
     ·exact Ao0 _
     ·exact Nat.le_of_lt (Apc hpw hk)
    have hnT:∀k∈((j::m2)++i::l2),¬(k∈T.getD i []∧k<i):=by
     rintro k hk ⟨q1,q2⟩;rcases Ao8.1 hk with hk|hk
     ·exact hT k (by rw[e];simp only[Ao8];exact .inr hk) q1
     ·rcases Ao9.1 hk with rfl|hk
      ·omega
      ·have:=Apc (Apl.1 hpw).2.1 hk;omega
    have hstill:∀(ok:Nat→Bool) t,Gg l.toArray ts ok t=true→(∀k∈((j::m2)++i::l2),ok k=false)→ts.contains t=true∧ev st3.fr (.tmp t)=ev (Aq n fr1) (.tmp t):=by
     intro ok t h hno;simp only[Gg,Apb]at h;refine⟨h.1,hst3 t fun k hk o hko=>?_⟩;have h2:=A5 h.2 (AoY.1 hko).1;rw[hno k hk,hko]at h2;simpa using h2
    have hq0:∀q,Gg l.toArray ts (fun k=>(T.getD i []).contains k&&decide (k<i)) q=true→ts.contains q=true∧ev st3.fr (.tmp q)=ev (Aq n fr1) (.tmp q):=fun q s1=>hstill _ q s1 (fun k hk=>by
     have:=hnT k hk;simp only[Ap7,ApJ];by_cases hm:k∈T.getD i []
     ·exact .inr fun h=>this ⟨hm,h⟩
     ·exact .inl (by simpa using hm))
    rcases h2' with h2'|h2'
    case inr=>
     unfold AhL at h2';split at h2'
     case h_2=>cases h2'
     rename_i p hfp;simp only[Apb]at h2';obtain⟨c1,c2⟩:=hq0 p h2'.2;refine .freeY (Akr hfp ?_);rw[c2];have hn:=AdG hns (Apf.1 h2'.1);rw[DI]
     have e:evL n (keep ts fr1) (.tmp p)=evL n fr1 (.tmp p):=by
      show(if p<n then look (keep ts fr1) p else .junk)=if p<n then look fr1 p else .junk
      rw[Kx ts fr1 p (Apf.1 c1)]
     rw[e]at hn;exact hn
    rcases h2' with h2'|h2'
    case inr=>exact .fzY h2'
    rcases h2' with h2'|h2'
    case inr=>exact .fzX h2'
    refine .old ?_;rcases h2' with h2'|h2'
    case inr=>
     unfold sepZ at h2';split at h2'
     case h_2=>cases h2'
     rename_i p q hp' hq';split at h2'
     case h_2=>cases h2'
     rename_i a d ha hd;simp only[Apb,Ars]at h2';obtain⟨⟨s1,s2⟩,s3⟩:=h2'
     obtain⟨c1,c2⟩:=hstill _ p s2 (fun k hk=>by
      have:=hge k hk;simp only[ApJ];omega)
     obtain⟨c3,c4⟩:=hq0 q s3;exact .appY p a q d hp' (by rw[c2];exact hval p a c1 ha) hq' (by rw[c4];exact hvalW q d c3 hd) s1
    refine .old ?_;rcases h2' with h2'|h2'
    case inr=>
     unfold Aks at h2';split at h2'
     case h_2=>cases h2'
     rename_i p t hp' ht';split at h2'
     case h_1=>cases h2'
     rename_i a ha;simp only[Apb,Apf]at h2';obtain⟨⟨s1,s2⟩,s3⟩:=h2'
     obtain⟨c1,c2⟩:=hstill _ p s1 (fun k hk=>by
      have:=hge k hk;simp only[ApJ];omega)
     exact .callY p a hp' (by rw[c2];exact hval p a c1 ha) fun σ σ1 v hv=>Kk s2 ht' hX s3 hv
    rcases h2' with h2'|h2'
    case inr=>
     unfold AkD at h2';split at h2'
     case h_2=>cases h2'
     rename_i p f hop;split at h2'
     case h_1=>cases h2'
     rename_i a ha;obtain⟨c1,c2⟩:=hq0 p h2';exact .fa _ p f a hop (by rw[c2];exact hval p a c1 ha)
    rcases h2' with h2'|h2'
    case inr=>
     unfold Aku at h2';split at h2'
     case h_2=>cases h2'
     rename_i p t hp' ht';split at h2'
     case h_1=>cases h2'
     rename_i a ha;simp only[Apb,Apf]at h2';obtain⟨⟨s1,s2⟩,s3⟩:=h2';obtain⟨c1,c2⟩:=hq0 p s1;exact .call p a hp' (by rw[c2];exact hval p a c1 ha) fun σ σ1 v hv=>Kk s2 ht' hX s3 hv
    unfold AkE at h2';split at h2'
    case h_1=>cases h2'
    rename_i q hq';split at h2'
    case h_1=>cases h2'
    rename_i b hb;simp only[Apb,Apu,AqJ]at h2';obtain⟨s1,h2'⟩:=h2';obtain⟨c1,c2⟩:=hq0 q s1;have hbq:HW (ev st3.fr (.tmp q))=some b:=by rw[c2];exact hval q b c1 hb
    rcases h2' with⟨h4,h5⟩|h4
    ·exact .build q b h4 h5 hq' hbq
    ·split at h4
     case h_1=>cases h4
     rename_i p hp';split at h4
     case h_1=>cases h4
     rename_i a ha;simp only[Apb,Ars]at h4
     obtain⟨c3,c4⟩:=hstill _ p h4.2 (fun k hk=>by
      have:=hge k hk;simp only[ApJ];omega)
     exact .look p q a b hp' hq' (by rw[c4];exact hval p a c3 ha) hbq h4.1
 ·intro j;rw[Apz];by_cases h:j<l.length<;>simp[Array.getD,h]
 ·intro k hk hkn;exact(hkn (Apz.2 (by simpa using hk))).elim
 ·intro a' w' g' hr' he hg;exact hq _ _ _ _ _ (hw _ _ (En _ _ _ _ _) hk) hr' ((Evo.same hsm).trans (he.of_gle hg))
theorem Yk(hE:E.Ok)(hP:E.P.follows .mixedOrders=true){m n id:Nat}{l:List Oper}(T:List (List Nat))(hok1:E7 l.toArray T=true)(ps xs ws:List (Nat×Nat))(ns ts:List Nat)(hok2:Aav E l.toArray T ps xs ws ns ts=true){fr fr':Fr}{K:Cl} (hps:WW n fr' ps) (hws:VQ n fr' ws) (hns:NsL n fr' ns) (h:∃lz m,HU E.toBase (JR lz m)∧XOk m xs∧Lm E (JR lz m) true n l ts (fr,σ)=some (fr',σ')) {y:Code} (hk:Run E m y ⟨Aq n fr',σ'⟩ K):Run E m (.seq (.region id l.toArray true) y) ⟨Aq n fr,σ⟩ K :=
 Io (Qf hE hP T hok1 ps xs ws ns ts hok2 Il hps hws hns h hk)
theorem Ags{l:Fr}:wkT sel l []=True:=by cases l<;>rfl
theorem Aby{x y:Nat×AV}{xs ys:Fr}:wkT sel (x::xs) (y::ys)=((x.1=y.1∧wk1 sel x.2 y.2)∧wkT sel xs ys):=rfl
theorem Adl{y y':Bool}{N N':Nat}{l l':Fr}{ps ps':Array Tmp}{a a' b b':Code}:Tc sel (.lp y N l ps a b) (.lp y' N' l' ps' a' b')=(y=y'∧N=N'∧ps=ps'∧a=a'∧b=b'∧wkT sel l l'):=rfl
attribute [go_sem] Ags Aby Adl
end Go.Rv
