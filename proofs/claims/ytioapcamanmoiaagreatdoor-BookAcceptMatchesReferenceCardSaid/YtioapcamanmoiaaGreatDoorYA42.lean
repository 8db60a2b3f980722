/-
  Part 42.
-/
import Derived.Test.YtioapcamanmoiaaGreatDoorYA41
namespace Go.Rv
open Go.RowKit
variable {E:Env}
def Ab6(E:Env)(ops:Array Oper)(T:List (List Nat))(ps xs:List (Nat×Nat))(ts:List Nat):Bool :=
 (List.range ops.size).all fun i=>(List.range i).all fun j=>(T.getD i []).contains j||(match ops[j]?,ops[i]? with
  |some x,some y=>KJ E ops x y||(x.apart ops y&&(AkG E ops T ps ts j i x y||AkF E ops T ps xs ts i x y||AkA ops T ps ts i y||Akz E ops ps xs ts j x y||FX E ops x||FX E ops y))
  |_,_=>false)
theorem AaD(hE:E.Ok)(hP:E.P.follows .mixedOrders=true){m n id:Nat}{l:List Oper}(T:List (List Nat))(hok1:Gc l.toArray T=true)(us vs:List Unit)(hok3:Ms E l.toArray us.length (us.length+vs.length) T=true)(ps xs:List (Nat×Nat))(ps' ts:List Nat)(hok2:Ab6 E l.toArray T ps xs ps'=true){fr fr':Fr}{σ σ':Ad}{K:DB}(hw:SM E m K) (h:∃lz m,KK E.toBase (J4 lz m)∧XOk m xs∧∃fr1 σ1,Is (AmA E (J4 lz m) n us l (fr,σ)) fr1 σ1∧VK n fr1 ps∧Is (Ag2 E (J4 lz m) n us vs l ts (fr1,σ1)) fr' σ') (hk:K .normal ⟨Ao n fr',σ'⟩):Run E m (.region id l.toArray true) ⟨Ao n fr,σ⟩ K:=by
 obtain⟨lz,mz,hO,hX,fr1,σ1,h1,hps,h2⟩:=h;simp only[Is,Ag2,As6,AsW,As4]at h2;obtain⟨⟨fr2,σ2⟩,h2,⟨fr3,σ3⟩,h3,rfl,rfl⟩:=h2;generalize hn0:us.length=n0 at *;generalize hk1:vs.length=k1 at *;have h1':BQ E (J4 lz mz) true n l.toArray (l.take n0) (fr,σ)=some (fr1,σ1):=by rw[←hn0,←LK];exact h1
 have h2':BQ E (J4 lz mz) false n l.toArray ((l.drop n0).take k1) (fr1,σ1)=some (fr2,σ2):=by rw[←hn0,←hk1,←IL,←LK];exact h2
 have h3':BQ E (J4 lz mz) true n l.toArray (l.drop (n0+k1)) (fr2,σ2)=some (fr3,σ3):=by rw[←AvQ,←hn0,←hk1,←IL,←IL];exact h3
 simp only[Ms,Ata,Atg,Ava]at hok3;obtain⟨⟨_,hle1⟩,hch⟩:=hok3;have hle:n0≤l.length:=by omega
 have hlt:(l.take n0).length=n0:=by rw[AuW];omega
 have hT0:∀i,n0≤i→i<l.toArray.size→∀j,j<i→j∈T.getD i []∨(n0+k1≤j∧∃x y,l.toArray[j]?=some x∧l.toArray[i]?=some y∧KJ E l.toArray x y=true):=by
  intro i hi his j hj;have h3:=A6 hch (by simpa using his);simp only[Atv,Atg]at h3;rcases h3 with h3|h3
  ·omega
  ·have h4:=A6 h3 hj;simp only[Atv,Ata,Atg,Atm]at h4;rcases h4 with h4|⟨h4,h5⟩
   ·exact .inl h4
   ·refine .inr ⟨h4,?_⟩;split at h5
    ·rename_i x y e1 e2;exact⟨x,y,e1,e2,h5⟩
    ·cases h5
 have hT:∀i,n0≤i→i<l.toArray.size→∀j,j<i→j<n0+k1→j∈T.getD i []:=by
  intro i hi his j hj hjn;rcases hT0 i hi his j hj with h|⟨h,_⟩
  ·exact h
  ·omega
 have hTp:∀i,n0≤i→i<l.toArray.size→∀j,j<n0→j∈T.getD i []:=fun i hi his j hj=>hT i hi his j (by omega) (by omega)
 have hsteps3:=Fq (E:=E) (ops:=l.toArray) (n0+k1) (l.drop (n0+k1)) fr2 fr3 σ2 σ3 ⟨[],by simp⟩ h3';rw[show(l.drop (n0+k1)).length=l.length-(n0+k1) by simp]at hsteps3;have hsteps:=Fq (E:=E) (ops:=l.toArray) 0 (l.take n0) fr fr1 σ σ1 ⟨l.drop n0,by simp⟩ h1';rw[←AtT,hlt]at hsteps;intro hcm ac w g hr Q hq;refine K4 (Lg hcm) (wp_region_any hP ?_);have hsm:SameMem w { w with drawn:=w.drawn+1 }:=⟨rfl,rfl,rfl,rfl⟩
 have hval:∀t a,ps'.contains t=true→Ym ps t=some a→I1 (ev (Ao n fr1) (.tmp t))=some a:=by
  intro t a ht ha;have:=Of hps ha;rw[EP];exact this
 have hsz:n0+(l.length-n0)=l.toArray.size:=by simp;omega
 have hrg:List.range n0++List.range' n0 (l.length-n0)=List.range l.length:=by
  rw[AtT,AtT];have:=List.range'_append (s:=0) (m:=n0) (n:=l.length-n0) (step:=1);simp only[AtI,AtN]at this;rw[this,Nat.add_sub_cancel' hle]
 rw[←hsz];refine HJ hE hO hok1 hsz hTp (st':=⟨Ao n fr1,σ1⟩) 0 ?_ n0 (List.range n0) _ ⟨Ao n fr,σ⟩ ac _ g (fun _ _=>Atp _) (by simp) ?_ (by simp;omega) ?_ ?_ hsteps (K7 hr hsm) ?_
 ·intro i his l1 l2 st _ hp hT hst;have hi:l.toArray[i]?=some l.toArray[i]:=Atd his;refine IR hi l1 st (fun m1 j m2 e x hx=>?_) hst;have hj:j∈l1:=by rw[e];simp
  have hji:j<i:=by
   rw[Ats]at hp;exact hp.2.2 j hj i Ath
  have h1':=A6 (A6 hok2 his) hji;simp only[Atv,Atm]at h1';rcases h1' with h1'|h1'
  ·exact(hT j hj h1').elim
  ·simp only[hx,hi,Atv,Ata]at h1';rcases h1' with h1'|⟨h1',h2'⟩
   ·exact .inl h1'
   ·refine .inr ⟨h1',fun st3 h3=>?_⟩;have hst3:∀t,(∀k∈((j::m2)++i::l2),∀o,l.toArray[k]?=some o→o.dst≠some t)→ev st3.fr (.tmp t)=ev (Ao n fr1) (.tmp t):=fun t hk=>(GC _ _ _ hk h3).symm
    have hpw:((j::m2)++i::l2).Pairwise (·<·):=by
     rw[e,AtU]at hp;exact(Ats.1 hp).2.1
    have hge:∀k∈((j::m2)++i::l2),j≤k:=by
     intro k hk;rw[Atj]at hpw hk;rcases Atu.1 hk with rfl|hk
     ·exact Atb _
     ·exact Av7 (Att hpw hk)
    have hnT:∀k∈((j::m2)++i::l2),¬(k∈T.getD i []∧k<i):=by
     rintro k hk ⟨q1,q2⟩;rcases Atk.1 hk with hk|hk
     ·exact hT k (by rw[e];simp only[Atk];exact .inr hk) q1
     ·rcases Atu.1 hk with rfl|hk
      ·omega
      ·have:=Att (Ats.1 hpw).2.1 hk;omega
    have hstill:∀(ok:Nat→Bool) t,G1 l.toArray ps' ok t=true→(∀k∈((j::m2)++i::l2),ok k=false)→ps'.contains t=true∧ev st3.fr (.tmp t)=ev (Ao n fr1) (.tmp t):=by
     intro ok t h hno;simp only[G1,Ata]at h;refine⟨h.1,hst3 t fun k hk o hko=>?_⟩;have h2:=A6 h.2 (As7.1 hko).1;rw[hno k hk,hko]at h2;simpa using h2
    have hq0:∀q,G1 l.toArray ps' (fun k=>(T.getD i []).contains k&&decide (k<i)) q=true→ps'.contains q=true∧ev st3.fr (.tmp q)=ev (Ao n fr1) (.tmp q):=fun q s1=>hstill _ q s1 (fun k hk=>by
     have:=hnT k hk;simp only[Auj,AtE];by_cases hm:k∈T.getD i []
     ·exact .inr fun h=>this ⟨hm,h⟩
     ·exact .inl (by simpa using hm))
    rcases h2' with h2'|h2'
    case inr=>exact .fzY h2'
    rcases h2' with h2'|h2'
    case inr=>exact .fzX h2'
    refine .old (.old ?_);rcases h2' with h2'|h2'
    case inr=>
     unfold Akz at h2';split at h2'
     case h_2=>cases h2'
     rename_i p t hp' ht';split at h2'
     case h_1=>cases h2'
     rename_i a ha;simp only[Ata,Atm]at h2';obtain⟨⟨s1,s2⟩,s3⟩:=h2'
     obtain⟨c1,c2⟩:=hstill _ p s1 (fun k hk=>by
      have:=hge k hk;simp only[AtE];omega)
     exact .callY p a hp' (by rw[c2];exact hval p a c1 ha) fun σ σ1 v hv=>Iv s2 ht' hX s3 hv
    rcases h2' with h2'|h2'
    case inr=>
     unfold AkA at h2';split at h2'
     case h_2=>cases h2'
     rename_i p f hop;split at h2'
     case h_1=>cases h2'
     rename_i a ha;obtain⟨c1,c2⟩:=hq0 p h2';exact .fa _ p f a hop (by rw[c2];exact hval p a c1 ha)
    rcases h2' with h2'|h2'
    case inr=>
     unfold AkF at h2';split at h2'
     case h_2=>cases h2'
     rename_i p t hp' ht';split at h2'
     case h_1=>cases h2'
     rename_i a ha;simp only[Ata,Atm]at h2';obtain⟨⟨s1,s2⟩,s3⟩:=h2';obtain⟨c1,c2⟩:=hq0 p s1;exact .call p a hp' (by rw[c2];exact hval p a c1 ha) fun σ σ1 v hv=>Iv s2 ht' hX s3 hv
    unfold AkG at h2';split at h2'
    case h_1=>cases h2'
    rename_i q hq';split at h2'
    case h_1=>cases h2'
    rename_i b hb;simp only[Ata,Atv,Aum]at h2';obtain⟨s1,h2'⟩:=h2';obtain⟨c1,c2⟩:=hq0 q s1;have hbq:I1 (ev st3.fr (.tmp q))=some b:=by rw[c2];exact hval q b c1 hb
    rcases h2' with⟨h4,h5⟩|h4
    ·exact .build q b h4 h5 hq' hbq
    ·split at h4
     case h_1=>cases h4
     rename_i p hp';split at h4
     case h_1=>cases h4
     rename_i a ha;simp only[Ata,Avy]at h4
     obtain⟨c3,c4⟩:=hstill _ p h4.2 (fun k hk=>by
      have:=hge k hk;simp only[AtE];omega)
     exact .look p q a b hp' hq' (by rw[c4];exact hval p a c3 ha) hbq h4.1
 ·rw[hrg];exact Aus
 ·intro j;rw[hrg,AtR];by_cases h:j<l.length
  ·simp[Array.getD,h,hsz]
  ·simp[Array.getD,h,hsz]
 ·intro k hk hkn;rw[hrg]at hkn;exact(hkn (AtR.2 (by simpa using hk))).elim
 ·intro a1 w1 g1 listed' hr1 he1 hg1 hs' hl';have hk2:l.length-n0=k1+(l.length-(n0+k1)):=by omega
  rw[hk2]at hl' ⊢;refine Lp (m:=m) hE hO hok1 (n0:=n0) (n1:=n0+k1) (by simp;omega) hT k1 n0 ((l.drop n0).take k1) listed' fr1 σ1 a1 w1 g1 rfl (by simp;omega) ⟨l.drop (n0+k1),by rw[←AvQ];exact(At8 k1 (l.drop n0)).symm⟩ (Atb _) hs' hl' h2' hr1 fun a2 w2 g2 li2 hr2 he2 hs2 hl2=>?_
  have h0:=HJ (kk:=0) (n0:=l.toArray.size) (Q:=fun ex st=>Q ex st) hE hO hok1 (by simp) (fun i hi his=>by omega) (st':=⟨Ao n fr3,σ3⟩) (n0+k1) ?_ (l.length-(n0+k1)) (List.range' (n0+k1) (l.length-(n0+k1))) li2 ⟨Ao n fr2,σ2⟩ a2 w2 g2 (fun k hk=>by rw[At3]at hk;exact hk.1) (by simp) (by simpa using Avm) hs2 (by simpa using hl2) ?_ hsteps3 hr2 ?_
  ·exact h0
  ·intro i his l1 l2 st hlo hp hTn hst;refine GI (Atd his) l1 st (fun j hj x hx=>?_) hst
   have hji:j<i:=by
    rw[Ats]at hp;exact hp.2.2 j hj i Ath
   have hil:=hlo i (by simp);rcases hT0 i (by omega) his j hji with h|⟨_,x',y',e1,e2,h⟩
   ·exact(hTn j hj h).elim
   ·rw[e1]at hx;cases hx;rw[Atd his]at e2;cases e2;exact h
  ·intro k' hk' hkn d hdk hdm;have:=DH hok1 hk' hdk;simp only[Av0,At1]at hkn hdm;rw[At3]at hkn hdm;simp only[Ava]at hk';omega
  ·intro a3 w3 g3 li3 hr3 he3 hg3 hs3 hl3;refine⟨?_,?_⟩
   ·rw[Aue];intro i hi;have:=((JG hok1 hs3 hl3 i).1 hi).1;cases this
   exact hq _ _ _ _ _ (hw _ _ (F4 _ _ _ _ _) hk) hr3 ((((Evo.same hsm).trans (he1.of_gle hg1)).trans he2).trans (he3.of_gle hg3))
theorem Acj(hE:E.Ok)(hP:E.P.follows .mixedOrders=true){m n id:Nat}{l:List Oper}(T:List (List Nat))(hok1:Gc l.toArray T=true)(us vs:List Unit)(hok3:Ms E l.toArray us.length (us.length+vs.length) T=true)(ps xs:List (Nat×Nat))(ps' ts:List Nat)(hok2:Ab6 E l.toArray T ps xs ps'=true){fr fr':Fr}{σ σ':Ad}{K:DB} (h:∃lz m,KK E.toBase (J4 lz m)∧XOk m xs∧∃fr1 σ1,Is (AmA E (J4 lz m) n us l (fr,σ)) fr1 σ1∧VK n fr1 ps∧Is (Ag2 E (J4 lz m) n us vs l ts (fr1,σ1)) fr' σ') {y:Code} (hk:Run E m y ⟨Ao n fr',σ'⟩ K):Run E m (.seq (.region id l.toArray true) y) ⟨Ao n fr,σ⟩ K :=
 Kl (AaD hE hP T hok1 us vs hok3 ps xs ps' ts hok2 JD h hk)
end Go.Rv
