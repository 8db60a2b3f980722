/-
  Part 41.
-/
import Derived.Test.YtioapcamanmoiaaDoorYF40
namespace Go.Rv
open Go.RowKit
set_option linter.unusedVariables false
set_option linter.unusedSimpArgs false
variable{σ σ':Al}{sel:List Nat}
variable {E:Env}
theorem TF{orc:Option Tmp→Orc}{ops:Array Oper}{o:Oper}{fr:List AV}{x:AV}(hf:EV E ops o=true)(h:DY E orc ops o fr σ=some (x,σ')):σ'=σ∧∀ρ,DY E orc ops o fr ρ=some (x,ρ):=by
 refine⟨Dl (by unfold Qd;rw[hf];simp) h,fun ρ=>?_⟩;unfold DY at h ⊢;split at h
 ·rw[hf]at h ⊢;have e:∀σ,Fs true σ=Hr σ:=fun σ=>by funext r;simp[Fs]
  rw[e]at h ⊢
  have e2:∀σ,CG E (orc o.dst) o.op fr σ=Ei E fr σ o.op:=by
   intro σ;rcases DK hf with⟨t,n,l,h⟩|⟨s,d,x,h,_⟩<;>rw[h]<;>rfl
  rw[e2]at h ⊢;exact Ri _ (DK hf) h
 ·cases h;rfl
 ·cases h
inductive SepW(E:Env)(orc:Option Tmp→Orc)(ops:Array Oper)(x y:Oper)(frF:List AV):Prop
  |old (h:SepZ E orc ops x y frF)
  |fzX (h:EV E ops x=true)
  |fzY (h:EV E ops y=true)
  |freeY (h:AgP E orc ops y frF)
theorem RB{orc:Option Tmp→Orc}{ops:Array Oper}{x y:Oper}{st st1 st2:St}(hap:x.apart ops y=true)(hc:SepW E orc ops x y st.fr) (h1:C5 E orc ops x st=some st1) (h2:C5 E orc ops y st1=some st2):∃st3,C5 E orc ops y st=some st3∧C5 E orc ops x st3=some st2:=by
  have key:EV E ops x=true∨EV E ops y=true→∃st3,C5 E orc ops y st=some st3∧C5 E orc ops x st3=some st2:=by
    intro hf;obtain⟨a1,a2,a3⟩:=Oper.apart_spec hap;unfold C5 at h1 h2 ⊢;rw[AkO]at h1 h2;obtain⟨⟨v,σ1⟩,hv,rfl⟩:=h1;obtain⟨⟨u,σ2⟩,hu,rfl⟩:=h2;simp only at hu ⊢;rw[B4 a1]at hu;rcases hf with hf|hf
    · obtain⟨rfl,hall⟩:=TF hf hv
      refine⟨⟨AK st.fr y.dst u,σ2⟩,by rw[hu];rfl,?_⟩;simp only;rw[B4 a3,hall];simp only[Als,DA st.fr v u a2]
    · obtain⟨rfl,hall⟩:=TF hf hu
      refine⟨⟨AK st.fr y.dst u,st.σ⟩,by rw[hall];rfl,?_⟩;simp only;rw[B4 a3,hv];simp only[Als,DA st.fr v u a2]
  cases hc with
  |old h=>exact S5 hap h h1 h2
  |fzX h=>exact key (.inl h)
  |fzY h=>exact key (.inr h)
  | freeY hfree=>
    obtain⟨a1,a2,a3⟩:=Oper.apart_spec hap;unfold C5 at h1 h2 ⊢;rw[AkO]at h1 h2;obtain⟨⟨v,σ1⟩,hv,rfl⟩:=h1;obtain⟨⟨u,σ2⟩,hu,rfl⟩:=h2;simp only at hu ⊢;rw[B4 a1]at hu;obtain⟨rfl,hall⟩:=hfree _ _ _ hu;refine⟨⟨AK st.fr y.dst u,st.σ⟩,by rw[hall];rfl,?_⟩;simp only;rw[B4 a3,hv];simp only[Als,DA st.fr v u a2]
theorem J0{orc:Option Tmp→Orc}{ops:Array Oper}{i:Nat}{y:Oper}(hi:ops[i]?=some y){l2:List Nat}{st':St}:∀(l1:List Nat) (st:St),(∀m1 j m2,l1=m1++j::m2→∀x,ops[j]?=some x→Jp E ops x y=true∨x.apart ops y=true∧∀st,Bq E orc ops ((j::m2)++i::l2) st=some st'→SepW E orc ops x y st.fr)→Bq E orc ops (l1++i::l2) st=some st' →∃st1,C5 E orc ops y st=some st1∧Bq E orc ops (l1++l2) st1=some st'
  | [],st,_,h=>by
    simp only[AlC,Bq,hi]at h;rw[AkZ]at h;exact h
  | j :: l1,st,hc,h0=>by
    have h:=h0;simp only[Ale,Bq]at h;cases hj:ops[j]? with
    |none=>simp[hj]at h
    | some x=>
      simp only[hj]at h;rw[AkZ]at h;obtain⟨s1,h1,h⟩:=h;obtain⟨s2,h2,h⟩:=J0 hi l1 s1 (fun m1 k m2 e=>hc (j::m1) k m2 (by rw[e];rfl)) h
      have:∃st3,C5 E orc ops y st=some st3∧C5 E orc ops x st3=some s2:=by
        rcases hc [] j l1 rfl x hj with hcb|⟨hap,hcy⟩
        · exact Ip hcb h1 h2
        · exact RB hap (hcy st h0) h1 h2
      obtain⟨s3,h3,h4⟩:=this;refine⟨s3,h3,?_⟩;simp only[Ale,Bq,hj,h4,AkQ];exact h
def XQ(E:Env)(ops:Array Oper)(T:List (List Nat))(ps xs ws:List (Nat×Nat))(ns ts:List Nat):Bool :=
 (List.range ops.size).all fun i=>(List.range i).all fun j=>(T.getD i []).contains j||(match ops[j]?,ops[i]? with
  |some x,some y=>Jp E ops x y||(x.apart ops y&&(AgX E ops T ps ts j i x y||AgN E ops T ps xs ts i x y||AgQ ops T ps ts i y||AgM E ops ps xs ts j x y||sepZ ops T ps ws ts j i x y||EV E ops x||EV E ops y||Afw ops T ns ts i y))
  |_,_=>false)
theorem O6(hE:E.Ok)(hP:E.P.follows .mixedOrders=true){m n id:Nat}{l:List Oper}(T:List (List Nat))(hok1:Fz l.toArray T=true)(ps xs ws:List (Nat×Nat))(ns ts:List Nat)(hok2:XQ E l.toArray T ps xs ws ns ts=true){fr fr':Fr}{K:CW}(hw:PF E m K) (hps:UR n fr' ps) (hws:U1 n fr' ws) (hns:NsL n fr' ns) (h:∃lz m,IP E.toBase (JO lz m)∧XOk m xs∧Lk E (JO lz m) true n l ts (fr,σ)=some (fr',σ')) (hk:K .normal ⟨Aq n fr',σ'⟩):Run E m (.region id l.toArray true) ⟨Aq n fr,σ⟩ K:=by
 obtain⟨lz,mz,hO,hX,h⟩:=h;simp only[Lk,AkZ,AkP,AkX]at h;obtain⟨⟨fr1,σ2⟩,h1,rfl,rfl⟩:=h;have hsteps:=FZ (E:=E) (ops:=l.toArray) 0 l fr fr1 σ σ2 (by simp) h1;rw[←AlM]at hsteps;intro hcm ac w g hr Q hq;refine J4 (Kb hcm) (wp_region_any hP ?_);have hsm:SameMem w { w with drawn:=w.drawn+1 }:=⟨rfl,rfl,rfl,rfl⟩
 have hval:∀t a,ts.contains t=true→TZ ps t=some a→H4 (ev (Aq n fr1) (.tmp t))=some a:=by
  intro t a ht ha;have:=PE hps ha;rw[Ej]
  have e:evL n (keep ts fr1) (.tmp t)=evL n fr1 (.tmp t):=by
   show(if t<n then look (keep ts fr1) t else .junk)=if t<n then look fr1 t else .junk
   rw[Jv ts fr1 t (Alj.1 ht)]
  rw[e]at this;exact this
 have hvalW:∀t a,ts.contains t=true→TZ ws t=some a→Ki (ev (Aq n fr1) (.tmp t)) a:=by
  intro t a ht ha;have:=QM hws ha;rw[Ej]
  have e:evL n (keep ts fr1) (.tmp t)=evL n fr1 (.tmp t):=by
   show(if t<n then look (keep ts fr1) t else .junk)=if t<n then look fr1 t else .junk
   rw[Jv ts fr1 t (Alj.1 ht)]
  rw[e]at this;exact this
 refine MB hE hO hok1 (st':=⟨Aq n fr1,σ2⟩) ?_ l.toArray.size (List.range l.length) _ ⟨Aq n fr,σ⟩ ac _ g (by simp) Amj (by simp) ?_ ?_ hsteps (Jg hr hsm) ?_
 ·intro i his l1 l2 st hp hT hst;have hi:l.toArray[i]?=some l.toArray[i]:=Ak9 his;refine J0 hi l1 st (fun m1 j m2 e x hx=>?_) hst;have hj:j∈l1:=by rw[e];simp
  have hji:j<i:=by
   rw[Alq]at hp;exact hp.2.2 j hj i Ak7
  have h1':=A9 (A9 hok2 his) hji;simp only[Alz,Alj]at h1';rcases h1' with h1'|h1'
  ·exact(hT j hj h1').elim
  ·simp only[hx,hi,Alz,Ak6]at h1';rcases h1' with h1'|⟨h1',h2'⟩
   ·exact .inl h1'
   ·refine .inr ⟨h1',fun st3 h3=>?_⟩;have hst3:∀t,(∀k∈((j::m2)++i::l2),∀o,l.toArray[k]?=some o→o.dst≠some t)→ev st3.fr (.tmp t)=ev (Aq n fr1) (.tmp t):=fun t hk=>(Gk _ _ _ hk h3).symm
    have hpw:((j::m2)++i::l2).Pairwise (·<·):=by
     rw[e,AlT]at hp;exact(Alq.1 hp).2.1
    have hge:∀k∈((j::m2)++i::l2),j≤k:=by
     intro k hk;rw[Ale]at hpw hk;rcases Alk.1 hk with rfl|hk
     ·exact Ak2 _
     ·exact Nat.le_of_lt (Alp hpw hk)
    have hnT:∀k∈((j::m2)++i::l2),¬(k∈T.getD i []∧k<i):=by
     rintro k hk ⟨q1,q2⟩;rcases Alc.1 hk with hk|hk
     ·exact hT k (by rw[e];simp only[Alc];exact .inr hk) q1
     ·rcases Alk.1 hk with rfl|hk
      ·omega
      ·have:=Alp (Alq.1 hpw).2.1 hk;omega
    have hstill:∀(ok:Nat→Bool) t,Gs l.toArray ts ok t=true→(∀k∈((j::m2)++i::l2),ok k=false)→ts.contains t=true∧ev st3.fr (.tmp t)=ev (Aq n fr1) (.tmp t):=by
     intro ok t h hno;simp only[Gs,Ak6]at h;refine⟨h.1,hst3 t fun k hk o hko=>?_⟩;have h2:=A9 h.2 (Ak0.1 hko).1;rw[hno k hk,hko]at h2;simpa using h2
    have hq0:∀q,Gs l.toArray ts (fun k=>(T.getD i []).contains k&&decide (k<i)) q=true→ts.contains q=true∧ev st3.fr (.tmp q)=ev (Aq n fr1) (.tmp q):=fun q s1=>hstill _ q s1 (fun k hk=>by
     have:=hnT k hk;simp only[Amn,AlJ];by_cases hm:k∈T.getD i []
     ·exact .inr fun h=>this ⟨hm,h⟩
     ·exact .inl (by simpa using hm))
    rcases h2' with h2'|h2'
    case inr=>
     unfold Afw at h2';split at h2'
     case h_2=>cases h2'
     rename_i p hfp;simp only[Ak6]at h2';obtain⟨c1,c2⟩:=hq0 p h2'.2;refine .freeY (Afx hfp ?_);rw[c2];have hn:=Aa5 hns (Alj.1 h2'.1);rw[Ej]
     have e:evL n (keep ts fr1) (.tmp p)=evL n fr1 (.tmp p):=by
      show(if p<n then look (keep ts fr1) p else .junk)=if p<n then look fr1 p else .junk
      rw[Jv ts fr1 p (Alj.1 c1)]
     rw[e]at hn;exact hn
    rcases h2' with h2'|h2'
    case inr=>exact .fzY h2'
    rcases h2' with h2'|h2'
    case inr=>exact .fzX h2'
    refine .old ?_;rcases h2' with h2'|h2'
    case inr=>
     unfold sepZ at h2';split at h2'
     case h_2=>cases h2'
     rename_i p q hp' hq';split at h2'
     case h_2=>cases h2'
     rename_i a d ha hd;simp only[Ak6,AnB]at h2';obtain⟨⟨s1,s2⟩,s3⟩:=h2'
     obtain⟨c1,c2⟩:=hstill _ p s2 (fun k hk=>by
      have:=hge k hk;simp only[AlJ];omega)
     obtain⟨c3,c4⟩:=hq0 q s3;exact .appY p a q d hp' (by rw[c2];exact hval p a c1 ha) hq' (by rw[c4];exact hvalW q d c3 hd) s1
    refine .old ?_;rcases h2' with h2'|h2'
    case inr=>
     unfold AgM at h2';split at h2'
     case h_2=>cases h2'
     rename_i p t hp' ht';split at h2'
     case h_1=>cases h2'
     rename_i a ha;simp only[Ak6,Alj]at h2';obtain⟨⟨s1,s2⟩,s3⟩:=h2'
     obtain⟨c1,c2⟩:=hstill _ p s1 (fun k hk=>by
      have:=hge k hk;simp only[AlJ];omega)
     exact .callY p a hp' (by rw[c2];exact hval p a c1 ha) fun σ σ1 v hv=>Jb s2 ht' hX s3 hv
    rcases h2' with h2'|h2'
    case inr=>
     unfold AgQ at h2';split at h2'
     case h_2=>cases h2'
     rename_i p f hop;split at h2'
     case h_1=>cases h2'
     rename_i a ha;obtain⟨c1,c2⟩:=hq0 p h2';exact .fa _ p f a hop (by rw[c2];exact hval p a c1 ha)
    rcases h2' with h2'|h2'
    case inr=>
     unfold AgN at h2';split at h2'
     case h_2=>cases h2'
     rename_i p t hp' ht';split at h2'
     case h_1=>cases h2'
     rename_i a ha;simp only[Ak6,Alj]at h2';obtain⟨⟨s1,s2⟩,s3⟩:=h2';obtain⟨c1,c2⟩:=hq0 p s1;exact .call p a hp' (by rw[c2];exact hval p a c1 ha) fun σ σ1 v hv=>Jb s2 ht' hX s3 hv
    unfold AgX at h2';split at h2'
    case h_1=>cases h2'
    rename_i q hq';split at h2'
    case h_1=>cases h2'
    rename_i b hb;simp only[Ak6,Alz,AmQ]at h2';obtain⟨s1,h2'⟩:=h2';obtain⟨c1,c2⟩:=hq0 q s1;have hbq:H4 (ev st3.fr (.tmp q))=some b:=by rw[c2];exact hval q b c1 hb
    rcases h2' with⟨h4,h5⟩|h4
    ·exact .build q b h4 h5 hq' hbq
    ·split at h4
     case h_1=>cases h4
     rename_i p hp';split at h4
     case h_1=>cases h4
     rename_i a ha;simp only[Ak6,AnB]at h4
     obtain⟨c3,c4⟩:=hstill _ p h4.2 (fun k hk=>by
      have:=hge k hk;simp only[AlJ];omega)
     exact .look p q a b hp' hq' (by rw[c4];exact hval p a c3 ha) hbq h4.1
 ·intro j;rw[AlF];by_cases h:j<l.length<;>simp[Array.getD,h]
 ·intro k hk hkn;exact(hkn (AlF.2 (by simpa using hk))).elim
 ·intro a' w' g' hr' he hg;exact hq _ _ _ _ _ (hw _ _ (Fo _ _ _ _ _) hk) hr' ((Evo.same hsm).trans (he.of_gle hg))
theorem Wq(hE:E.Ok)(hP:E.P.follows .mixedOrders=true){m n id:Nat}{l:List Oper}(T:List (List Nat))(hok1:Fz l.toArray T=true)(ps xs ws:List (Nat×Nat))(ns ts:List Nat)(hok2:XQ E l.toArray T ps xs ws ns ts=true){fr fr':Fr}{K:CW} (hps:UR n fr' ps) (hws:U1 n fr' ws) (hns:NsL n fr' ns) (h:∃lz m,IP E.toBase (JO lz m)∧XOk m xs∧Lk E (JO lz m) true n l ts (fr,σ)=some (fr',σ')) {y:Code} (hk:Run E m y ⟨Aq n fr',σ'⟩ K):Run E m (.seq (.region id l.toArray true) y) ⟨Aq n fr,σ⟩ K :=
 IM (O6 hE hP T hok1 ps xs ws ns ts hok2 IZ hps hws hns h hk)
theorem AdT{l:Fr}:wkT sel l []=True:=by cases l<;>rfl
theorem AaB{x y:Nat×AV}{xs ys:Fr}:wkT sel (x::xs) (y::ys)=((x.1=y.1∧wk1 sel x.2 y.2)∧wkT sel xs ys):=rfl
theorem Yv{y y':Bool}{N N':Nat}{l l':Fr}{ps ps':Array Tmp}{a a' b b':Code}:Qf sel (.lp y N l ps a b) (.lp y' N' l' ps' a' b')=(y=y'∧N=N'∧ps=ps'∧a=a'∧b=b'∧wkT sel l l'):=rfl
attribute [go_sem] AdT AaB Yv
end Go.Rv
