/-
  Part 41.
-/
import Derived.Test.YtioapcamanmoiaaGreatDoorYA40
namespace Go.Rv
open Go.RowKit
variable{σ σ':Ad}{sel:List Nat}
variable {E:Env}
theorem YT{orc:Option Tmp→Orc}{ops:Array Oper}{o:Oper}{fr:List AV}{x:AV}(hf:FX E ops o=true)(h:EV E orc ops o fr σ=some (x,σ')):σ'=σ∧∀ρ,EV E orc ops o fr ρ=some (x,ρ):=by
 refine⟨DP (by unfold Ut;rw[hf];simp) h,fun ρ=>?_⟩;unfold EV at h ⊢;split at h
 ·rw[hf]at h ⊢;have e:∀σ,G8 true σ=Jd σ:=fun σ=>by funext r;simp[G8]
  rw[e]at h ⊢
  have e2:∀σ,Dg E (orc o.dst) o.op fr σ=Ff E fr σ o.op:=by
   intro σ;rcases Es hf with⟨t,n,l,h⟩|⟨s,d,x,h,_⟩<;>rw[h]<;>rfl
  rw[e2]at h ⊢;exact VV _ (Es hf) h
 ·cases h;rfl
 ·cases h
inductive SepW(E:Env)(orc:Option Tmp→Orc)(ops:Array Oper)(x y:Oper)(frF:List AV):Prop
  |old (h:SepZ E orc ops x y frF)
  |fzX (h:FX E ops x=true)
  |fzY (h:FX E ops y=true)
  |freeY (h:ArW E orc ops y frF)
theorem WW{orc:Option Tmp→Orc}{ops:Array Oper}{x y:Oper}{st st1 st2:St}(hap:x.apart ops y=true)(hc:SepW E orc ops x y st.fr) (h1:CW E orc ops x st=some st1) (h2:CW E orc ops y st1=some st2):∃st3,CW E orc ops y st=some st3∧CW E orc ops x st3=some st2:=by
  have key:FX E ops x=true∨FX E ops y=true→∃st3,CW E orc ops y st=some st3∧CW E orc ops x st3=some st2:=by
    intro hf;obtain⟨a1,a2,a3⟩:=Oper.apart_spec hap;unfold CW at h1 h2 ⊢;rw[AsV]at h1 h2;obtain⟨⟨v,σ1⟩,hv,rfl⟩:=h1;obtain⟨⟨u,σ2⟩,hu,rfl⟩:=h2;simp only at hu ⊢;rw[BN a1]at hu;rcases hf with hf|hf
    · obtain⟨rfl,hall⟩:=YT hf hv
      refine⟨⟨AY st.fr y.dst u,σ2⟩,by rw[hu];rfl,?_⟩;simp only;rw[BN a3,hall];simp only[AtC,Eh st.fr v u a2]
    · obtain⟨rfl,hall⟩:=YT hf hu
      refine⟨⟨AY st.fr y.dst u,st.σ⟩,by rw[hall];rfl,?_⟩;simp only;rw[BN a3,hv];simp only[AtC,Eh st.fr v u a2]
  cases hc with
  |old h=>exact X2 hap h h1 h2
  |fzX h=>exact key (.inl h)
  |fzY h=>exact key (.inr h)
  | freeY hfree=>
    obtain⟨a1,a2,a3⟩:=Oper.apart_spec hap;unfold CW at h1 h2 ⊢;rw[AsV]at h1 h2;obtain⟨⟨v,σ1⟩,hv,rfl⟩:=h1;obtain⟨⟨u,σ2⟩,hu,rfl⟩:=h2;simp only at hu ⊢;rw[BN a1]at hu;obtain⟨rfl,hall⟩:=hfree _ _ _ hu;refine⟨⟨AY st.fr y.dst u,st.σ⟩,by rw[hall];rfl,?_⟩;simp only;rw[BN a3,hv];simp only[AtC,Eh st.fr v u a2]
theorem IR{orc:Option Tmp→Orc}{ops:Array Oper}{i:Nat}{y:Oper}(hi:ops[i]?=some y){l2:List Nat}{st':St}:∀(l1:List Nat) (st:St),(∀m1 j m2,l1=m1++j::m2→∀x,ops[j]?=some x→KJ E ops x y=true∨x.apart ops y=true∧∀st,BC E orc ops ((j::m2)++i::l2) st=some st'→SepW E orc ops x y st.fr)→BC E orc ops (l1++i::l2) st=some st' →∃st1,CW E orc ops y st=some st1∧BC E orc ops (l1++l2) st1=some st'
  | [],st,_,h=>by
    simp only[AtH,BC,hi]at h;rw[As6]at h;exact h
  | j :: l1,st,hc,h0=>by
    have h:=h0;simp only[Atj,BC]at h;cases hj:ops[j]? with
    |none=>simp[hj]at h
    | some x=>
      simp only[hj]at h;rw[As6]at h;obtain⟨s1,h1,h⟩:=h;obtain⟨s2,h2,h⟩:=IR hi l1 s1 (fun m1 k m2 e=>hc (j::m1) k m2 (by rw[e];rfl)) h
      have:∃st3,CW E orc ops y st=some st3∧CW E orc ops x st3=some s2:=by
        rcases hc [] j l1 rfl x hj with hcb|⟨hap,hcy⟩
        · exact K3 hcb h1 h2
        · exact WW hap (hcy st h0) h1 h2
      obtain⟨s3,h3,h4⟩:=this;refine⟨s3,h3,?_⟩;simp only[Atj,BC,hj,h4,AsY];exact h
def AdA(E:Env)(ops:Array Oper)(T:List (List Nat))(ps xs ws:List (Nat×Nat))(ns ts:List Nat):Bool :=
 (List.range ops.size).all fun i=>(List.range i).all fun j=>(T.getD i []).contains j||(match ops[j]?,ops[i]? with
  |some x,some y=>KJ E ops x y||(x.apart ops y&&(AkG E ops T ps ts j i x y||AkF E ops T ps xs ts i x y||AkA ops T ps ts i y||Akz E ops ps xs ts j x y||sepZ ops T ps ws ts j i x y||FX E ops x||FX E ops y||AnX ops T ns ts i y))
  |_,_=>false)
theorem Sf(hE:E.Ok)(hP:E.P.follows .mixedOrders=true){m n id:Nat}{l:List Oper}(T:List (List Nat))(hok1:Gc l.toArray T=true)(ps xs ws:List (Nat×Nat))(ns ts:List Nat)(hok2:AdA E l.toArray T ps xs ws ns ts=true){fr fr':Fr}{K:DB}(hw:SM E m K) (hps:VK n fr' ps) (hws:ZQ n fr' ws) (hns:NsL n fr' ns) (h:∃lz m,KK E.toBase (J4 lz m)∧XOk m xs∧NJ E (J4 lz m) true n l ts (fr,σ)=some (fr',σ')) (hk:K .normal ⟨Ao n fr',σ'⟩):Run E m (.region id l.toArray true) ⟨Ao n fr,σ⟩ K:=by
 obtain⟨lz,mz,hO,hX,h⟩:=h;simp only[NJ,As6,AsW,As4]at h;obtain⟨⟨fr1,σ2⟩,h1,rfl,rfl⟩:=h;have hsteps:=H2 (E:=E) (ops:=l.toArray) 0 l fr fr1 σ σ2 (by simp) h1;rw[←AtT]at hsteps;intro hcm ac w g hr Q hq;refine K4 (Lg hcm) (wp_region_any hP ?_);have hsm:SameMem w { w with drawn:=w.drawn+1 }:=⟨rfl,rfl,rfl,rfl⟩
 have hval:∀t a,ts.contains t=true→Ym ps t=some a→I1 (ev (Ao n fr1) (.tmp t))=some a:=by
  intro t a ht ha;have:=Of hps ha;rw[EP]
  have e:evL n (keep ts fr1) (.tmp t)=evL n fr1 (.tmp t):=by
   show(if t<n then look (keep ts fr1) t else .junk)=if t<n then look fr1 t else .junk
   rw[Mf ts fr1 t (Atm.1 ht)]
  rw[e]at this;exact this
 have hvalW:∀t a,ts.contains t=true→Ym ws t=some a→MK (ev (Ao n fr1) (.tmp t)) a:=by
  intro t a ht ha;have:=Vk hws ha;rw[EP]
  have e:evL n (keep ts fr1) (.tmp t)=evL n fr1 (.tmp t):=by
   show(if t<n then look (keep ts fr1) t else .junk)=if t<n then look fr1 t else .junk
   rw[Mf ts fr1 t (Atm.1 ht)]
  rw[e]at this;exact this
 refine O7 hE hO hok1 (st':=⟨Ao n fr1,σ2⟩) ?_ l.toArray.size (List.range l.length) _ ⟨Ao n fr,σ⟩ ac _ g (by simp) Aus (by simp) ?_ ?_ hsteps (K7 hr hsm) ?_
 ·intro i his l1 l2 st hp hT hst;have hi:l.toArray[i]?=some l.toArray[i]:=Atd his;refine IR hi l1 st (fun m1 j m2 e x hx=>?_) hst;have hj:j∈l1:=by rw[e];simp
  have hji:j<i:=by
   rw[Ats]at hp;exact hp.2.2 j hj i Ath
  have h1':=A6 (A6 hok2 his) hji;simp only[Atv,Atm]at h1';rcases h1' with h1'|h1'
  ·exact(hT j hj h1').elim
  ·simp only[hx,hi,Atv,Ata]at h1';rcases h1' with h1'|⟨h1',h2'⟩
   ·exact .inl h1'
   ·refine .inr ⟨h1',fun st3 h3=>?_⟩;have hst3:∀t,(∀k∈((j::m2)++i::l2),∀o,l.toArray[k]?=some o→o.dst≠some t)→ev st3.fr (.tmp t)=ev (Ao n fr1) (.tmp t):=fun t hk=>(GC _ _ _ hk h3).symm
    have hpw:((j::m2)++i::l2).Pairwise (·<·):=by
     rw[e,AtU]at hp;exact(Ats.1 hp).2.1
    have hge:∀k∈((j::m2)++i::l2),j≤k:=by
     intro k hk;rw[Atj]at hpw hk;rcases Atu.1 hk with rfl|hk
     ·exact Atb _
     ·exact Av7 (Att hpw hk)
    have hnT:∀k∈((j::m2)++i::l2),¬(k∈T.getD i []∧k<i):=by
     rintro k hk ⟨q1,q2⟩;rcases Atk.1 hk with hk|hk
     ·exact hT k (by rw[e];simp only[Atk];exact .inr hk) q1
     ·rcases Atu.1 hk with rfl|hk
      ·omega
      ·have:=Att (Ats.1 hpw).2.1 hk;omega
    have hstill:∀(ok:Nat→Bool) t,G1 l.toArray ts ok t=true→(∀k∈((j::m2)++i::l2),ok k=false)→ts.contains t=true∧ev st3.fr (.tmp t)=ev (Ao n fr1) (.tmp t):=by
     intro ok t h hno;simp only[G1,Ata]at h;refine⟨h.1,hst3 t fun k hk o hko=>?_⟩;have h2:=A6 h.2 (As7.1 hko).1;rw[hno k hk,hko]at h2;simpa using h2
    have hq0:∀q,G1 l.toArray ts (fun k=>(T.getD i []).contains k&&decide (k<i)) q=true→ts.contains q=true∧ev st3.fr (.tmp q)=ev (Ao n fr1) (.tmp q):=fun q s1=>hstill _ q s1 (fun k hk=>by
     have:=hnT k hk;simp only[Auj,AtE];by_cases hm:k∈T.getD i []
     ·exact .inr fun h=>this ⟨hm,h⟩
     ·exact .inl (by simpa using hm))
    rcases h2' with h2'|h2'
    case inr=>
     unfold AnX at h2';split at h2'
     case h_2=>cases h2'
     rename_i p hfp;simp only[Ata]at h2';obtain⟨c1,c2⟩:=hq0 p h2'.2;refine .freeY (Anu hfp ?_);rw[c2];have hn:=Ag6 hns (Atm.1 h2'.1);rw[EP]
     have e:evL n (keep ts fr1) (.tmp p)=evL n fr1 (.tmp p):=by
      show(if p<n then look (keep ts fr1) p else .junk)=if p<n then look fr1 p else .junk
      rw[Mf ts fr1 p (Atm.1 c1)]
     rw[e]at hn;exact hn
    rcases h2' with h2'|h2'
    case inr=>exact .fzY h2'
    rcases h2' with h2'|h2'
    case inr=>exact .fzX h2'
    refine .old ?_;rcases h2' with h2'|h2'
    case inr=>
     unfold sepZ at h2';split at h2'
     case h_2=>cases h2'
     rename_i p q hp' hq';split at h2'
     case h_2=>cases h2'
     rename_i a d ha hd;simp only[Ata,Avy]at h2';obtain⟨⟨s1,s2⟩,s3⟩:=h2'
     obtain⟨c1,c2⟩:=hstill _ p s2 (fun k hk=>by
      have:=hge k hk;simp only[AtE];omega)
     obtain⟨c3,c4⟩:=hq0 q s3;exact .appY p a q d hp' (by rw[c2];exact hval p a c1 ha) hq' (by rw[c4];exact hvalW q d c3 hd) s1
    refine .old ?_;rcases h2' with h2'|h2'
    case inr=>
     unfold Akz at h2';split at h2'
     case h_2=>cases h2'
     rename_i p t hp' ht';split at h2'
     case h_1=>cases h2'
     rename_i a ha;simp only[Ata,Atm]at h2';obtain⟨⟨s1,s2⟩,s3⟩:=h2'
     obtain⟨c1,c2⟩:=hstill _ p s1 (fun k hk=>by
      have:=hge k hk;simp only[AtE];omega)
     exact .callY p a hp' (by rw[c2];exact hval p a c1 ha) fun σ σ1 v hv=>Iv s2 ht' hX s3 hv
    rcases h2' with h2'|h2'
    case inr=>
     unfold AkA at h2';split at h2'
     case h_2=>cases h2'
     rename_i p f hop;split at h2'
     case h_1=>cases h2'
     rename_i a ha;obtain⟨c1,c2⟩:=hq0 p h2';exact .fa _ p f a hop (by rw[c2];exact hval p a c1 ha)
    rcases h2' with h2'|h2'
    case inr=>
     unfold AkF at h2';split at h2'
     case h_2=>cases h2'
     rename_i p t hp' ht';split at h2'
     case h_1=>cases h2'
     rename_i a ha;simp only[Ata,Atm]at h2';obtain⟨⟨s1,s2⟩,s3⟩:=h2';obtain⟨c1,c2⟩:=hq0 p s1;exact .call p a hp' (by rw[c2];exact hval p a c1 ha) fun σ σ1 v hv=>Iv s2 ht' hX s3 hv
    unfold AkG at h2';split at h2'
    case h_1=>cases h2'
    rename_i q hq';split at h2'
    case h_1=>cases h2'
    rename_i b hb;simp only[Ata,Atv,Aum]at h2';obtain⟨s1,h2'⟩:=h2';obtain⟨c1,c2⟩:=hq0 q s1;have hbq:I1 (ev st3.fr (.tmp q))=some b:=by rw[c2];exact hval q b c1 hb
    rcases h2' with⟨h4,h5⟩|h4
    ·exact .build q b h4 h5 hq' hbq
    ·split at h4
     case h_1=>cases h4
     rename_i p hp';split at h4
     case h_1=>cases h4
     rename_i a ha;simp only[Ata,Avy]at h4
     obtain⟨c3,c4⟩:=hstill _ p h4.2 (fun k hk=>by
      have:=hge k hk;simp only[AtE];omega)
     exact .look p q a b hp' hq' (by rw[c4];exact hval p a c3 ha) hbq h4.1
 ·intro j;rw[AtR];by_cases h:j<l.length<;>simp[Array.getD,h]
 ·intro k hk hkn;exact(hkn (AtR.2 (by simpa using hk))).elim
 ·intro a' w' g' hr' he hg;exact hq _ _ _ _ _ (hw _ _ (F4 _ _ _ _ _) hk) hr' ((Evo.same hsm).trans (he.of_gle hg))
theorem V1(hE:E.Ok)(hP:E.P.follows .mixedOrders=true){m n id:Nat}{l:List Oper}(T:List (List Nat))(hok1:Gc l.toArray T=true)(ps xs ws:List (Nat×Nat))(ns ts:List Nat)(hok2:AdA E l.toArray T ps xs ws ns ts=true){fr fr':Fr}{K:DB} (hps:VK n fr' ps) (hws:ZQ n fr' ws) (hns:NsL n fr' ns) (h:∃lz m,KK E.toBase (J4 lz m)∧XOk m xs∧NJ E (J4 lz m) true n l ts (fr,σ)=some (fr',σ')) {y:Code} (hk:Run E m y ⟨Ao n fr',σ'⟩ K):Run E m (.seq (.region id l.toArray true) y) ⟨Ao n fr,σ⟩ K :=
 Kl (Sf hE hP T hok1 ps xs ws ns ts hok2 JD hps hws hns h hk)
theorem Ain{l:Fr}:wkT sel l []=True:=by cases l<;>rfl
theorem AfS{x y:Nat×AV}{xs ys:Fr}:wkT sel (x::xs) (y::ys)=((x.1=y.1∧wk1 sel x.2 y.2)∧wkT sel xs ys):=rfl
theorem Ael{y y':Bool}{N N':Nat}{l l':Fr}{ps ps':Array Tmp}{a a' b b':Code}:UV sel (.lp y N l ps a b) (.lp y' N' l' ps' a' b')=(y=y'∧N=N'∧ps=ps'∧a=a'∧b=b'∧wkT sel l l'):=rfl
attribute [go_sem] Ain AfS Ael
end Go.Rv
