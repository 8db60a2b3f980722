/-
  Part 40.
-/
import Derived.Test.YtioapcamanmoiaaGreatDoorYA39
namespace Go.Rv
open Go.RowKit
variable{ops:Array Oper}{T:List (List Nat)}{rem:List Nat}{listed:Array Bool}{orc:Option Tmp→Orc}{n:Nat}{l:List Oper}{σ σ':Ad}
variable {E:Env}
theorem JG(hc:Gc ops T=true)(hs:listed.size=ops.size)(hl:∀j,listed.getD j true=false↔j∈rem)(i:Nat) :i∈Region.ready .any ops listed↔i∈rem∧∀d∈ES ops i,d ∉ rem:=by
 have hin:∀j∈rem,j<ops.size:=by
  intro j hj;have:=(hl j).2 hj;by_cases e:j<listed.size
  ·omega
  ·simp[Array.getD,e]at this
 have hgd:∀d,d<ops.size→(listed.getD d false=true↔d ∉ rem):=by
  intro d hd
  have h1:listed.getD d false=listed.getD d true:=by
   have:d<listed.size:=by omega
   simp[Array.getD,this]
  rw[h1,←hl d];cases listed.getD d true<;>simp
 rw[mem_ready,hl i];constructor
 ·rintro⟨h1,o,ho,h2⟩;refine⟨h1,fun d hd=>?_⟩;have hlt:=DH hc (hin i h1) hd;have hds:=AuG hlt (hin i h1);obtain⟨e,he,hb,rfl⟩:=(Fv ho).1 hd;exact(hgd _ hds).1 (h2 e he hb)
 ·rintro⟨h1,h2⟩;have hi:=hin i h1;refine⟨h1,ops[i],Atd hi,fun e he hb=>?_⟩;have hd:e.on∈ES ops i:=(Fv (Atd hi)).2 ⟨e,he,hb,rfl⟩;exact(hgd _ (AuG (DH hc hi hd) hi)).2 (h2 _ hd)
theorem T5(hs:listed.size=ops.size)(hl:∀j,listed.getD j true=false↔j∈rem):∀j∈rem,j<ops.size:=by
 intro j hj;have:=(hl j).2 hj;by_cases e:j<listed.size
 ·omega
 ·simp[Array.getD,e]at this
theorem RY(hc:Gc ops T=true)(hp:rem.Pairwise (·<·))(hs:listed.size=ops.size)(hl:∀j,listed.getD j true=false↔j∈rem)(hr:Region.ready .any ops listed=[]):rem=[]:=by
  cases rem with
  |nil=>rfl
  | cons i r=>
    have hi:i∈Region.ready .any ops listed:=(JG hc hs hl i).2 ⟨Ath,fun d hd hm=>by
      have:=DH hc (T5 hs hl i Ath) hd;rcases Atu.1 hm with rfl|hm
      · omega
      · have:=Att hp hm
        omega⟩
    rw[hr]at hi;cases hi
theorem Lp(hE:E.Ok){orc:Option Tmp→Orc}(hO:KK E.toBase orc){ops:Array Oper}{T:List (List Nat)}(hc:Gc ops T=true){n0 n1 k2:Nat}(hn1:n1+k2=ops.size)(hT:∀i,n0≤i→i<ops.size→∀j,j<i→j<n1→j∈T.getD i []){m n:Nat}{fr':Fr}{σ':Ad}{Q:Exit→Act→World→Prop} :∀ (k i0:Nat) (l:List Oper) (listed:Array Bool) (fr:Fr) (σ:Ad) (a:Act) (w:World) (g:Gh),i0+k=n1→l.length=k→(∃r,ops.toList.drop i0=l++r)→n0≤i0→listed.size=ops.size→(∀j,listed.getD j true=false↔j∈List.range' i0 (k+k2)) →BQ E orc false n ops l (fr,σ)=some (fr',σ')→Rel E w g ⟨Ao n fr,σ⟩ a→(∀a' w' g' listed',Rel E w' g' ⟨Ao n fr',σ'⟩ a'→Evo E m w g w' g'→listed'.size=ops.size→(∀j,listed'.getD j true=false↔j∈List.range' n1 k2)→wpAny E.P .any ops Q k2 listed' a' w')→wpAny E.P .any ops Q (k+k2) listed a w
  | 0,i0,l,listed,fr,σ,a,w,g,hk,hll,hdl,hn0,hs,hl,hst,hr,hq=>by
    have:l=[]:=Atl.1 hll;subst this;simp only[BQ,AsW,As4]at hst;obtain⟨rfl,rfl⟩:=hst;have:i0=n1:=by omega
    subst this;rw[AtN]at hl ⊢;exact hq a w g listed hr (Evo.refl _ _ _ _) hs hl
  |k+1,i0,[],listed,fr,σ,a,w,g,hk,hll,hdl,hn0,hs,hl,hst,hr,hq=>by simp at hll
  | k + 1,i0,o::l,listed,fr,σ,a,w,g,hk,hll,hdl,hn0,hs,hl,hst,hr,hq=>by
    simp only[BQ,As6]at hst;obtain⟨⟨fr1,σ1⟩,h1,h2⟩:=hst
    have hio:ops[i0]?=some o:=by
      obtain⟨r,hdl⟩:=hdl;have:(ops.toList.drop i0)[0]?=some o:=by rw[hdl];rfl
      rw[Atq]at this;simpa using this
    have hdl':∃r,ops.toList.drop (i0+1)=l++r:=by
      obtain⟨r,hdl⟩:=hdl;exact⟨r,by rw[←Awf,hdl];rfl⟩
    rw[show k+1+k2=(k+k2)+1 by omega]at hl ⊢;refine⟨fun h=>?_,fun i hi=>?_⟩
    · have:=RY hc (Avm (s:=i0) (n:=k+k2+1)) hs hl h
      simp[List.range'_succ]at this
    · obtain⟨hir,hid⟩:=(JG hc hs hl i).1 hi
      have hin:=T5 hs hl i hir
      have hd:∀k',k'<ops.size→k' ∉ List.range' i0 (k+k2+1)→∀d∈ES ops k',d ∉ List.range' i0 (k+k2+1):=by
        intro k' hk' hkn d hdk hdm;have:=DH hc hk' hdk;rw[At3]at hkn hdm;omega
      have hei:i=i0:=by
        by_cases e:i=i0
        · exact e
        · have h3:i0<i:=by rw[At3]at hir;omega
          exact(Fk hc hd i hin hid i0 (hT i (by omega) hin i0 h3 (by omega)) (by rw[At3];omega)).elim
      subst hei;refine Z7 (m:=m) hE hO hio h1 hr fun a1 w1 g1 hr1 he1=>?_
      refine Lp hE hO hc hn1 hT k (i+1) l _ fr1 σ1 a1 w1 g1 (by omega) (by simpa using hll) hdl' (by omega) (by simp[hs]) ?_ h2 hr1 fun a2 w2 g2 li2 hr2 he2 hs2 hl2=>hq a2 w2 g2 li2 hr2 (he1.trans he2) hs2 hl2
      intro j;by_cases e:j=i
      · subst e
        have:j<listed.size:=by omega
        simp[Array.getD,this,At3];omega
      · rw[getD_set_ne true (fun h=>e h.symm),hl j]
        simp only[At3];omega
theorem HJ(hE:E.Ok)(hO:∀d,Q9 E.toBase (orc d))(hc:Gc ops T=true){n0 kk:Nat}(hn:n0+kk=ops.size)(hT:∀i,n0≤i→i<ops.size→∀j,j<n0→j∈T.getD i []){st':St}(lo:Nat)(hfront:∀(i:Nat) (his:i<ops.size) (l1 l2:List Nat) (st:St),(∀k∈l1++i::l2,lo≤k)→(l1++i::l2).Pairwise (·<·)→(∀j∈l1,j ∉ T.getD i [])→BC E orc ops (l1++i::l2) st=some st' →∃st1,CW E orc ops ops[i] st=some st1∧BC E orc ops (l1++l2) st1=some st') {Q:Exit→Act→World→Prop} :∀ (fuel:Nat) (rem:List Nat) (listed:Array Bool) (st:St) (a:Act) (w:World) (g:Gh),(∀k∈rem,lo≤k)→rem.length=fuel→(rem++List.range' n0 kk).Pairwise (·<·)→listed.size=ops.size →(∀j,listed.getD j true=false↔j∈rem++List.range' n0 kk)→(∀k,k<ops.size→k ∉ rem++List.range' n0 kk→∀d∈ES ops k,d ∉ rem++List.range' n0 kk) →BC E orc ops rem st=some st'→Rel E w g st a→(∀a' w' g' listed',Rel E w' g' st' a'→Evo E 0 w g w' g'→GLe g g'→listed'.size=ops.size→(∀j,listed'.getD j true=false↔j∈List.range' n0 kk)→wpAny E.P .any ops Q kk listed' a' w') →wpAny E.P .any ops Q (fuel+kk) listed a w:=by
  intro fuel
  induction fuel with
  | zero=>
    intro rem listed st a w g hlo hf hp hs hl hd hst hr hq;have:rem=[]:=Atl.1 hf;subst this;simp only[BC,AsW]at hst;subst hst;rw[AtN];exact hq a w g listed hr (Evo.refl _ _ _ _) (GLe.refl _) hs (by simpa using hl)
  | succ fuel ih=>
    intro rem listed st a w g hlo hf hp hs hl hd hst hr hq;rw[show fuel+1+kk=(fuel+kk)+1 by omega];refine⟨fun h=>?_,fun i hi=>?_⟩
    · have:=RY hc hp hs hl h
      have h7:=(List.append_eq_nil_iff.1 this).1;subst h7;simp at hf
    · obtain⟨hir0,hid⟩:=(JG hc hs hl i).1 hi
      have his:=T5 hs hl i hir0
      have hlt0:∀j∈rem,j<n0∨kk=0:=by
        intro j hj;by_cases e:kk=0
        · exact .inr e
        · exact .inl ((Ats.1 hp).2.2 j hj n0 (by rw[At3];omega))
      have hir:i∈rem:=by
        rcases Atk.1 hir0 with h|h
        · exact h
        rw[At3]at h
        obtain⟨j,hj⟩:∃j,j∈rem:=by
          cases rem with
          |nil=>simp at hf
          |cons j r=>exact⟨j,Ath⟩
        have h5:=hlt0 j hj;exact(Fk hc hd i his hid j (hT i h.1 his j (by omega)) (At6 _ hj)).elim
      obtain⟨l1,l2,rfl⟩:=Avk hir;have hp0:=(Ats.1 hp).1;have hp':=hp0;rw[Ats]at hp';obtain⟨p1,p2,p3⟩:=hp';have hin0:i<n0∨kk=0:=hlt0 i hir
      have hnd:∀j∈l1++l2,j≠i:=by
        intro j hj;rcases Atk.1 hj with hj|hj
        · have:=p3 j hj i Ath;omega
        · have:=Att p2 hj;omega
      have hmem:∀j,j∈(l1++l2)++List.range' n0 kk↔j∈(l1++i::l2)++List.range' n0 kk∧j≠i:=by
        intro j;constructor
        · intro hj
          rcases Atk.1 hj with hj|hj
          · refine⟨?_,hnd j hj⟩
            simp only[Atk,Atu]at hj ⊢;rcases hj with hj|hj
            · exact .inl (.inl hj)
            · exact .inl (.inr (.inr hj))
          · refine⟨List.mem_append_right _ hj,?_⟩
            rw[At3]at hj;omega
        · rintro⟨hj,hne⟩
          simp only[Atk,Atu]at hj ⊢;rcases hj with(hj|hj|hj)|hj
          · exact .inl (.inl hj)
          · exact(hne hj).elim
          · exact .inl (.inr hj)
          · exact .inr hj
      obtain⟨st1,h1,h2⟩:=hfront i his l1 l2 st hlo hp0 (fun j hj hT=>Fk hc hd i his hid j hT (At6 _ (At6 _ hj))) hst;refine NV hE hO (Atd his) h1 hr fun a1 w1 g1 hr1 he1 hg1=>?_
      refine ih (l1++l2) (listed.setIfInBounds i true) st1 a1 w1 g1 (fun k hk=>hlo k (by simp only[Atk,Atu]at hk ⊢;rcases hk with hk|hk;exact .inl hk;exact .inr (.inr hk))) ?_ ?_ ?_ ?_ ?_ h2 hr1 ?_
      · simp at hf ⊢;omega
      · exact hp.sublist (AvP (AuP (AuY i l2) l1) _)
      · simp[hs]
      · intro j
        rw[hmem j,←hl j];by_cases e:j=i
        · subst e
          have:j<listed.size:=by omega
          simp[Array.getD,this]
        · rw[getD_set_ne true (fun h=>e h.symm)]
          simp[e]
      · intro k hk hkn d hdk hdm
        have hd2:=((hmem d).1 hdm).1;by_cases e:k=i
        · subst e
          exact hid d hdk hd2
        · exact hd k hk (fun h=>hkn ((hmem k).2 ⟨h,e⟩)) d hdk hd2
      · intro a' w' g' listed' hr' he' hg'
        exact hq a' w' g' listed' hr' (he1.trans he') (hg1.trans hg')
def Ps:List Unit→List Oper→List Oper
 |[],_=>[]
 |_::_,[]=>[]
 |_::us,x::l=>x::Ps us l
def JT:List Unit→List Oper→List Oper
 |[],l=>l
 |_::_,[]=>[]
 |_::us,_::l=>JT us l
attribute [go_sem] Ps JT
theorem LK:∀(us:List Unit) (l:List Oper),Ps us l=l.take us.length
 |[],l=>by simp[Ps]
 |_::us,[]=>by simp[Ps]
 |_::us,x::l=>by simp[Ps,LK us l]
theorem IL:∀(us:List Unit) (l:List Oper),JT us l=l.drop us.length
 |[],l=>by simp[JT]
 |_::us,[]=>by simp[JT]
 |_::us,x::l=>by simp[JT,IL us l]
def Ms(E:Env)(ops:Array Oper)(n0 n1:Nat)(T:List (List Nat)):Bool:=decide (n0≤n1)&&decide (n1≤ops.size)&&(List.range ops.size).all fun i=>decide (i<n0)||(List.range i).all fun j=>(T.getD i []).contains j||(decide (n1≤j)&&(match ops[j]?,ops[i]? with
  |some x,some y=>KJ E ops x y
  |_,_=>false))
def AmA(E:Env)(orc:Option Tmp→Orc)(n:Nat)(us:List Unit)(l:List Oper)(s:Fr×Ad):Option (Fr×Ad):=BQ E orc true n l.toArray (Ps us l) s
def Ag2(E:Env)(orc:Option Tmp→Orc)(n:Nat)(us vs:List Unit)(l:List Oper)(ts:List Nat)(s:Fr×Ad):Option (Fr×Ad):=(BQ E orc false n l.toArray (Ps vs (JT us l)) s).bind fun r=>(BQ E orc true n l.toArray (JT vs (JT us l)) r).bind fun r=>some (keep ts r.1,r.2)
theorem Ahu{us:List Unit}{s:Fr×Ad}:AmA E orc n us l s=Kk E orc true n l.toArray (Ps us l) (some s):=by
 rw[FM];rfl
theorem AiN{us vs:List Unit}{ts:List Nat}{s:Fr×Ad}:Ag2 E orc n us vs l ts s=AhC ts (Kk E orc true n l.toArray (JT vs (JT us l)) (Kk E orc false n l.toArray (Ps vs (JT us l)) (some s))):=by
  rw[FM];unfold Ag2;cases BQ E orc false n l.toArray (Ps vs (JT us l)) s with
  |none=>rw[Jj];rfl
  | some r=>
    rw[FM];unfold AhC;show(BQ E orc true n l.toArray (JT vs (JT us l)) r).bind _=_;cases BQ E orc true n l.toArray (JT vs (JT us l)) r<;>rfl
attribute [go_sem] Ahu AiN
theorem Abs(hE:E.Ok)(hP:E.P.follows .mixedOrders=true){m id:Nat}(T:List (List Nat))(hok1:Gc l.toArray T=true)(us vs:List Unit)(hok3:Ms E l.toArray us.length (us.length+vs.length) T=true)(ps xs:List (Nat×Nat))(ps' ts:List Nat)(hok2:Ade E l.toArray T ps xs ps'=true){fr fr':Fr}{K:DB}(hw:SM E m K) (h:∃lz m,KK E.toBase (J4 lz m)∧XOk m xs∧∃fr1 σ1,Is (AmA E (J4 lz m) n us l (fr,σ)) fr1 σ1∧VK n fr1 ps∧Is (Ag2 E (J4 lz m) n us vs l ts (fr1,σ1)) fr' σ') (hk:K .normal ⟨Ao n fr',σ'⟩):Run E m (.region id l.toArray true) ⟨Ao n fr,σ⟩ K:=by
 obtain⟨lz,mz,hO,hX,fr1,σ1,h1,hps,h2⟩:=h;simp only[Is,Ag2,As6,AsW,As4]at h2;obtain⟨⟨fr2,σ2⟩,h2,⟨fr3,σ3⟩,h3,rfl,rfl⟩:=h2;generalize hn0:us.length=n0 at *;generalize hk1:vs.length=k1 at *;have h1':BQ E (J4 lz mz) true n l.toArray (l.take n0) (fr,σ)=some (fr1,σ1):=by rw[←hn0,←LK];exact h1
 have h2':BQ E (J4 lz mz) false n l.toArray ((l.drop n0).take k1) (fr1,σ1)=some (fr2,σ2):=by rw[←hn0,←hk1,←IL,←LK];exact h2
 have h3':BQ E (J4 lz mz) true n l.toArray (l.drop (n0+k1)) (fr2,σ2)=some (fr3,σ3):=by rw[←AvQ,←hn0,←hk1,←IL,←IL];exact h3
 simp only[Ms,Ata,Atg,Ava]at hok3;obtain⟨⟨_,hle1⟩,hch⟩:=hok3;have hle:n0≤l.length:=by omega
 have hlt:(l.take n0).length=n0:=by rw[AuW];omega
 have hT0:∀i,n0≤i→i<l.toArray.size→∀j,j<i→j∈T.getD i []∨(n0+k1≤j∧∃x y,l.toArray[j]?=some x∧l.toArray[i]?=some y∧KJ E l.toArray x y=true):=by
  intro i hi his j hj;have h3:=A6 hch (by simpa using his);simp only[Atv,Atg]at h3;rcases h3 with h3|h3
  ·omega
  ·have h4:=A6 h3 hj;simp only[Atv,Ata,Atg,Atm]at h4;rcases h4 with h4|⟨h4,h5⟩
   ·exact .inl h4
   ·refine .inr ⟨h4,?_⟩;split at h5
    ·rename_i x y e1 e2;exact⟨x,y,e1,e2,h5⟩
    ·cases h5
 have hT:∀i,n0≤i→i<l.toArray.size→∀j,j<i→j<n0+k1→j∈T.getD i []:=by
  intro i hi his j hj hjn;rcases hT0 i hi his j hj with h|⟨h,_⟩
  ·exact h
  ·omega
 have hTp:∀i,n0≤i→i<l.toArray.size→∀j,j<n0→j∈T.getD i []:=fun i hi his j hj=>hT i hi his j (by omega) (by omega)
 have hsteps3:=Fq (E:=E) (ops:=l.toArray) (n0+k1) (l.drop (n0+k1)) fr2 fr3 σ2 σ3 ⟨[],by simp⟩ h3';rw[show(l.drop (n0+k1)).length=l.length-(n0+k1) by simp]at hsteps3;have hsteps:=Fq (E:=E) (ops:=l.toArray) 0 (l.take n0) fr fr1 σ σ1 ⟨l.drop n0,by simp⟩ h1';rw[←AtT,hlt]at hsteps;intro hcm ac w g hr Q hq;refine K4 (Lg hcm) (wp_region_any hP ?_);have hsm:SameMem w { w with drawn:=w.drawn+1 }:=⟨rfl,rfl,rfl,rfl⟩
 have hval:∀t a,ps'.contains t=true→Ym ps t=some a→I1 (ev (Ao n fr1) (.tmp t))=some a:=by
  intro t a ht ha;have:=Of hps ha;rw[EP];exact this
 have hsz:n0+(l.length-n0)=l.toArray.size:=by simp;omega
 have hrg:List.range n0++List.range' n0 (l.length-n0)=List.range l.length:=by
  rw[AtT,AtT];have:=List.range'_append (s:=0) (m:=n0) (n:=l.length-n0) (step:=1);simp only[AtI,AtN]at this;rw[this,Nat.add_sub_cancel' hle]
 rw[←hsz];refine HJ hE hO hok1 hsz hTp (st':=⟨Ao n fr1,σ1⟩) 0 ?_ n0 (List.range n0) _ ⟨Ao n fr,σ⟩ ac _ g (fun _ _=>Atp _) (by simp) ?_ (by simp;omega) ?_ ?_ hsteps (K7 hr hsm) ?_
 ·intro i his l1 l2 st _ hp hT hst;have hi:l.toArray[i]?=some l.toArray[i]:=Atd his;refine Mg hi l1 st (fun m1 j m2 e x hx=>?_) hst;have hj:j∈l1:=by rw[e];simp
  have hji:j<i:=by
   rw[Ats]at hp;exact hp.2.2 j hj i Ath
  have h1':=A6 (A6 hok2 his) hji;simp only[Atv,Atm]at h1';rcases h1' with h1'|h1'
  ·exact(hT j hj h1').elim
  ·simp only[hx,hi,Atv,Ata]at h1';rcases h1' with h1'|⟨h1',h2'⟩
   ·exact .inl h1'
   ·refine .inr ⟨h1',fun st3 h3=>?_⟩;have hst3:∀t,(∀k∈((j::m2)++i::l2),∀o,l.toArray[k]?=some o→o.dst≠some t)→ev st3.fr (.tmp t)=ev (Ao n fr1) (.tmp t):=fun t hk=>(GC _ _ _ hk h3).symm
    have hpw:((j::m2)++i::l2).Pairwise (·<·):=by
     rw[e,AtU]at hp;exact(Ats.1 hp).2.1
    have hge:∀k∈((j::m2)++i::l2),j≤k:=by
     intro k hk;rw[Atj]at hpw hk;rcases Atu.1 hk with rfl|hk
     ·exact Atb _
     ·exact Av7 (Att hpw hk)
    have hnT:∀k∈((j::m2)++i::l2),¬(k∈T.getD i []∧k<i):=by
     rintro k hk ⟨q1,q2⟩;rcases Atk.1 hk with hk|hk
     ·exact hT k (by rw[e];simp only[Atk];exact .inr hk) q1
     ·rcases Atu.1 hk with rfl|hk
      ·omega
      ·have:=Att (Ats.1 hpw).2.1 hk;omega
    have hstill:∀(ok:Nat→Bool) t,G1 l.toArray ps' ok t=true→(∀k∈((j::m2)++i::l2),ok k=false)→ps'.contains t=true∧ev st3.fr (.tmp t)=ev (Ao n fr1) (.tmp t):=by
     intro ok t h hno;simp only[G1,Ata]at h;refine⟨h.1,hst3 t fun k hk o hko=>?_⟩;have h2:=A6 h.2 (As7.1 hko).1;rw[hno k hk,hko]at h2;simpa using h2
    have hq0:∀q,G1 l.toArray ps' (fun k=>(T.getD i []).contains k&&decide (k<i)) q=true→ps'.contains q=true∧ev st3.fr (.tmp q)=ev (Ao n fr1) (.tmp q):=fun q s1=>hstill _ q s1 (fun k hk=>by
     have:=hnT k hk;simp only[Auj,AtE];by_cases hm:k∈T.getD i []
     ·exact .inr fun h=>this ⟨hm,h⟩
     ·exact .inl (by simpa using hm))
    rcases h2' with h2'|h2'
    case inr=>
     unfold Akz at h2';split at h2'
     case h_2=>cases h2'
     rename_i p t hp' ht';split at h2'
     case h_1=>cases h2'
     rename_i a ha;simp only[Ata,Atm]at h2';obtain⟨⟨s1,s2⟩,s3⟩:=h2'
     obtain⟨c1,c2⟩:=hstill _ p s1 (fun k hk=>by
      have:=hge k hk;simp only[AtE];omega)
     exact .callY p a hp' (by rw[c2];exact hval p a c1 ha) fun σ σ1 v hv=>Iv s2 ht' hX s3 hv
    rcases h2' with h2'|h2'
    case inr=>
     unfold AkA at h2';split at h2'
     case h_2=>cases h2'
     rename_i p f hop;split at h2'
     case h_1=>cases h2'
     rename_i a ha;obtain⟨c1,c2⟩:=hq0 p h2';exact .fa _ p f a hop (by rw[c2];exact hval p a c1 ha)
    rcases h2' with h2'|h2'
    case inr=>
     unfold AkF at h2';split at h2'
     case h_2=>cases h2'
     rename_i p t hp' ht';split at h2'
     case h_1=>cases h2'
     rename_i a ha;simp only[Ata,Atm]at h2';obtain⟨⟨s1,s2⟩,s3⟩:=h2';obtain⟨c1,c2⟩:=hq0 p s1;exact .call p a hp' (by rw[c2];exact hval p a c1 ha) fun σ σ1 v hv=>Iv s2 ht' hX s3 hv
    unfold AkG at h2';split at h2'
    case h_1=>cases h2'
    rename_i q hq';split at h2'
    case h_1=>cases h2'
    rename_i b hb;simp only[Ata,Atv,Aum]at h2';obtain⟨s1,h2'⟩:=h2';obtain⟨c1,c2⟩:=hq0 q s1;have hbq:I1 (ev st3.fr (.tmp q))=some b:=by rw[c2];exact hval q b c1 hb
    rcases h2' with⟨h4,h5⟩|h4
    ·exact .build q b h4 h5 hq' hbq
    ·split at h4
     case h_1=>cases h4
     rename_i p hp';split at h4
     case h_1=>cases h4
     rename_i a ha;simp only[Ata,Avy]at h4
     obtain⟨c3,c4⟩:=hstill _ p h4.2 (fun k hk=>by
      have:=hge k hk;simp only[AtE];omega)
     exact .look p q a b hp' hq' (by rw[c4];exact hval p a c3 ha) hbq h4.1
 ·rw[hrg];exact Aus
 ·intro j;rw[hrg,AtR];by_cases h:j<l.length
  ·simp[Array.getD,h,hsz]
  ·simp[Array.getD,h,hsz]
 ·intro k hk hkn;rw[hrg]at hkn;exact(hkn (AtR.2 (by simpa using hk))).elim
 ·intro a1 w1 g1 listed' hr1 he1 hg1 hs' hl';have hk2:l.length-n0=k1+(l.length-(n0+k1)):=by omega
  rw[hk2]at hl' ⊢;refine Lp (m:=m) hE hO hok1 (n0:=n0) (n1:=n0+k1) (by simp;omega) hT k1 n0 ((l.drop n0).take k1) listed' fr1 σ1 a1 w1 g1 rfl (by simp;omega) ⟨l.drop (n0+k1),by rw[←AvQ];exact(At8 k1 (l.drop n0)).symm⟩ (Atb _) hs' hl' h2' hr1 fun a2 w2 g2 li2 hr2 he2 hs2 hl2=>?_
  have h0:=HJ (kk:=0) (n0:=l.toArray.size) (Q:=fun ex st=>Q ex st) hE hO hok1 (by simp) (fun i hi his=>by omega) (st':=⟨Ao n fr3,σ3⟩) (n0+k1) ?_ (l.length-(n0+k1)) (List.range' (n0+k1) (l.length-(n0+k1))) li2 ⟨Ao n fr2,σ2⟩ a2 w2 g2 (fun k hk=>by rw[At3]at hk;exact hk.1) (by simp) (by simpa using Avm) hs2 (by simpa using hl2) ?_ hsteps3 hr2 ?_
  ·exact h0
  ·intro i his l1 l2 st hlo hp hTn hst;refine GI (Atd his) l1 st (fun j hj x hx=>?_) hst
   have hji:j<i:=by
    rw[Ats]at hp;exact hp.2.2 j hj i Ath
   have hil:=hlo i (by simp);rcases hT0 i (by omega) his j hji with h|⟨_,x',y',e1,e2,h⟩
   ·exact(hTn j hj h).elim
   ·rw[e1]at hx;cases hx;rw[Atd his]at e2;cases e2;exact h
  ·intro k' hk' hkn d hdk hdm;have:=DH hok1 hk' hdk;simp only[Av0,At1]at hkn hdm;rw[At3]at hkn hdm;simp only[Ava]at hk';omega
  ·intro a3 w3 g3 li3 hr3 he3 hg3 hs3 hl3;refine⟨?_,?_⟩
   ·rw[Aue];intro i hi;have:=((JG hok1 hs3 hl3 i).1 hi).1;cases this
   exact hq _ _ _ _ _ (hw _ _ (F4 _ _ _ _ _) hk) hr3 ((((Evo.same hsm).trans (he1.of_gle hg1)).trans he2).trans (he3.of_gle hg3))
theorem UA(hE:E.Ok)(hP:E.P.follows .mixedOrders=true){m id:Nat}(T:List (List Nat))(hok1:Gc l.toArray T=true)(us vs:List Unit)(hok3:Ms E l.toArray us.length (us.length+vs.length) T=true)(ps xs:List (Nat×Nat))(ps' ts:List Nat)(hok2:Ade E l.toArray T ps xs ps'=true){fr fr':Fr}{K:DB} (h:∃lz m,KK E.toBase (J4 lz m)∧XOk m xs∧∃fr1 σ1,Is (AmA E (J4 lz m) n us l (fr,σ)) fr1 σ1∧VK n fr1 ps∧Is (Ag2 E (J4 lz m) n us vs l ts (fr1,σ1)) fr' σ') {y:Code} (hk:Run E m y ⟨Ao n fr',σ'⟩ K):Run E m (.seq (.region id l.toArray true) y) ⟨Ao n fr,σ⟩ K :=
 Kl (Abs hE hP T hok1 us vs hok3 ps xs ps' ts hok2 JD h hk)
section
variable {ts:List Nat}{k:Nat}{r:List AV}
theorem AeW{α:Type}{c:α→AV}(h:∀x,NU ts k (c x)=c x):∀{l:List α},List.map (NU ts k) (C1 c l++r)=C1 c l++List.map (NU ts k) r:=by
 intro l;rw[Auf];congr 1;unfold C1;rw[List.map_map];exact Auv fun x _=>h x
theorem Wt{l:List UInt8}:List.map (NU ts k) (C1 u8 l++r)=C1 u8 l++List.map (NU ts k) r:=AeW fun x=>by simp only[u8,NU,AV.closed]
theorem AcB{l:List UInt8}:List.map dn (C1 u8 l++r)=C1 u8 l++List.map dn r:=by
 rw[Auf];congr 1;exact ArY u8 (fun _=>rfl) l
attribute [go_sem] Wt AcB
end
theorem XL{α:Type}{N:Nat}{l:Fr}(bid id:Nat){cr:α→List AV}{lg lg':List (List α)}{i:Int}{row:List α}{full:Bool}{k:Nat}{ro:Bool}(hi:InR i lg.length) (hB:σ[bid]?=some (.buf 1 ((L (cSl cr) lg).set i.toNat [.bs full id row.length 0 row.length]) false)) (hσ:σ[id]?=some (.buf k (L cr row) ro)) (hne:bid≠id) (hc:Cc (L cr row)=true) (hl:lg'=lg.set i.toNat row) (hs':(C9 σ id).set bid (.buf 1 (L (cSl cr) lg') false)=σ'):Weak E n ⟨Ao N l,σ⟩ ⟨Ao N l,σ'⟩:=by
 have hlt:i.toNat<(L (cSl cr) lg).length:=by
  unfold L;rw[At5];have h1:=hi.1;have h2:=hi.2;omega
 refine NA bid i.toNat hB (AtS hlt) hσ (by simp[L]) hc hne ?_;rw[←hs',hl];congr 2;rw[List.set_set];unfold L cSl;rw[AvI];congr 2;simp only[AvM];rw[Aut (by simp)];rfl
inductive SepZ(E:Env)(orc:Option Tmp→Orc)(ops:Array Oper)(x y:Oper)(frF:List AV):Prop
  |old (h:Sep E orc ops x y frF)
  |appY (p a q d:Nat) (hp:RR x.op=some p) (ha:I1 (ev frF (.tmp p))=some a) (hq:AoC y.op=some q) (hw:MK (ev frF (.tmp q)) d) (hne:a≠d)
theorem X2{x y:Oper}{st st1 st2:St}(hap:x.apart ops y=true)(hc:SepZ E orc ops x y st.fr) (h1:CW E orc ops x st=some st1) (h2:CW E orc ops y st1=some st2):∃st3,CW E orc ops y st=some st3∧CW E orc ops x st3=some st2:=by
  cases hc with
  |old h=>exact Q4 hap h h1 h2
  | appY p a q d hp ha hq hw hne=>
    obtain⟨a1,a2,a3⟩:=Oper.apart_spec hap;unfold CW at h1 h2 ⊢;rw[AsV]at h1 h2;obtain⟨⟨v,σ1⟩,hv,rfl⟩:=h1;obtain⟨⟨u,σ2⟩,hu,rfl⟩:=h2;simp only at hu ⊢;rw[BN a1]at hu;obtain⟨rfl,_⟩:=Fs hp ha hv rfl;refine⟨⟨AY st.fr y.dst u,σ2⟩,by rw[hu];rfl,?_⟩;simp only;rw[BN a3,(Fs hp ha hv (AeM hq hw hne hu)).2];simp only[AtC,Eh st.fr v u a2]
def sepZ(ops:Array Oper)(T:List (List Nat))(ps ws:List (Nat×Nat))(ts:List Nat)(j i:Nat)(x y:Oper):Bool :=
 match RR x.op,AoC y.op with
 |some p,some q=>match Ym ps p,Ym ws q with
  |some a,some d=>a != d&&G1 ops ts (fun k=>decide (k<j)) p&&G1 ops ts (fun k=>(T.getD i []).contains k&&decide (k<i)) q
  |_,_=>false
 |_,_=>false
end Go.Rv
