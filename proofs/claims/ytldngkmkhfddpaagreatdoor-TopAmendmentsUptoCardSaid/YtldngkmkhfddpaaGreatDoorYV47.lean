/-
  Part 47.
-/
import Derived.Test.YtldngkmkhfddpaaGreatDoorYV46
namespace Go.Rv
open Go.RowKit
set_option linter.unusedVariables false
set_option linter.unusedSimpArgs false
variable {E:Env}
def VB(E:Env)(ops:Array Oper)(y:Oper):Bool:=(match y.op with
 |.buildSlice ..=>true
 |_=>false)&&ES E ops y
theorem Ac0{orc:Option Tmp->Orc}{ops:Array Oper}{y:Oper}{fr:List AV}(h:VB E ops y=true):Afb E orc ops y fr:=by
 intro O O' v hv;unfold VB at h;rw[Ape]at h;obtain⟨h1,h2⟩:=h;split at h1
 case h_2=>cases h1
 rename_i t n l ho;unfold D2 at hv ⊢;cases hwn:G9 ops fr y with
 |none=>simp[hwn]at hv
 | some w=>
  cases w with
  |false=>
   simp only[hwn,Ao0,Apa]at hv ⊢;exact⟨hv.2.symm,fun σ2=>⟨hv.1,trivial⟩⟩
  | true=>
   simp only[hwn,ho,Cl,Ec,h2]at hv ⊢
   have key:∀s:Ad,(C6 E s t n (l.toList.map fun(i,x)=>(i,ev fr x))).bind (Fu true s)=((C6 E [] t n (l.toList.map fun(i,x)=>(i,ev fr x))).bind (Fu true [])).map fun r=>(r.1,s):=by
    intro s;unfold C6;split
    ·rfl
    split
    case h_2=>rfl
    split
    case h_2=>rfl
    split
    ·rfl
    split
    case h_2=>rfl
    simp only[ApX,Fu,ApL,I4,Apr,Bu,ApN];simp only[Ao7 (Apf _),Aro,AqQ];split<;>rfl
   rw[key]at hv;rw[AoY]at hv;obtain⟨r,h3,h4⟩:=hv;cases h4;refine⟨rfl,fun σ2=>?_⟩;rw[key,h3];rfl
def sepU(E:Env)(ops:Array Oper)(T:List (List Nat))(ps bs ws ds:List (Nat×Nat))(ts:List Nat)(j i:Nat)(x y:Oper):Bool :=
 VB E ops y||sepT E ops T ps bs ws ds ts j i x y
def AaP(E:Env)(ops:Array Oper)(T:List (List Nat))(ps bs ws ds:List (Nat×Nat))(ts:List Nat):Bool :=
 (List.range ops.size).all fun i=>(List.range i).all fun j=>(T.getD i []).contains j||(match ops[j]?,ops[i]? with
  |some x,some y=>Jq E ops x y||(x.apart ops y&&sepU E ops T ps bs ws ds ts j i x y)
  |_,_=>false)
theorem YB(hE:E.Ok)(hP:E.P.follows .mixedOrders=true){m n id:Nat}{l:List Oper}(T:List (List Nat))(hok1:FO l.toArray T=true)(ps bs ws ds:List (Nat×Nat))(ts:List Nat)(hok2:AaP E l.toArray T ps bs ws ds ts=true){fr fr':Fr}{O O':Ad}{K:CX}(hw:LW E m K) (hps:PU n fr' ps) (hbs:SlL n fr' bs) (hws:LJ n fr' ws) (hds:BsL n fr' ds) (h:∃lz,Hh E.toBase lz/\HT E lz true n l ts (fr,O)=some (fr',O')) (hk:K .normal ⟨Al n fr',O'⟩):Run E m (.region id l.toArray true) ⟨Al n fr,O⟩ K:=by
 obtain⟨lz,hO,h⟩:=h;simp only[HT,Ao3,Ao0,Apa]at h;obtain⟨⟨fr1,σ2⟩,h1,rfl,rfl⟩:=h;have hsteps:=EO (E:=E) (ops:=l.toArray) 0 l fr fr1 O σ2 (by simp) h1;rw[<-Ap1]at hsteps;intro hcm ac w g hr Q hq;refine Hv (ID hcm) (wp_region_any hP ?_);have hsm:SameMem w { w with drawn:=w.drawn+1 }:=⟨rfl,rfl,rfl,rfl⟩
 have hfin:∀t,ts.contains t=true->ev (Al n fr1) (.tmp t)=evL n (keep ts fr1) (.tmp t):=by
  intro t ht;rw[CS];show(if t<n then look fr1 t else .junk)=if t<n then look (keep ts fr1) t else .junk
  rw[DA ts fr1 t (Apg.1 ht)]
 refine H6 hE hO hok1 (st':=⟨Al n fr1,σ2⟩) ?_ l.toArray.size (List.range l.length) _ ⟨Al n fr,O⟩ ac _ g (by simp) Aqc (by simp) ?_ ?_ hsteps (Io hr hsm) ?_
 ·intro i his l1 l2 st hp hT hst;have hi:l.toArray[i]?=some l.toArray[i]:=Apk his;refine M0 hi l1 st (fun m1 j m2 e x hx=>?_) hst;have hj:j∈l1:=by rw[e];simp
  have hji:j<i:=by
   rw[ApB]at hp;exact hp.2.2 j hj i Apn
  have h1':=As (As hok2 his) hji;simp only[ApG,Apg]at h1';rcases h1' with h1'|h1'
  ·exact(hT j hj h1').elim
  simp only[hx,hi,ApG,Ape]at h1';rcases h1' with h1'|⟨h1',h2'⟩
  ·exact .inl h1'
  refine .inr ⟨h1',fun st3 h3=>?_⟩;have hst3:∀t,(∀k∈((j::m2)++i::l2),∀o,l.toArray[k]?=some o->o.dst≠some t)->ev st3.fr (.tmp t)=ev (Al n fr1) (.tmp t):=fun t hk=>(EU _ _ _ hk h3).symm
  have hpw:((j::m2)++i::l2).Pairwise (·<·):=by
   rw[e,ApZ]at hp;exact(ApB.1 hp).2.1
  have hge:∀k∈((j::m2)++i::l2),j<=k:=by
   intro k hk;rw[Apo]at hpw hk;rcases Apq.1 hk with rfl|hk
   ·exact Apf _
   exact ArF (Apt hpw hk)
  have hnT:∀k∈((j::m2)++i::l2),¬(k∈T.getD i []/\k<i):=by
   rintro k hk ⟨q1,q2⟩;rcases Apl.1 hk with hk|hk
   ·exact hT k (by rw[e];simp only[Apl];exact .inr hk) q1
   rcases Apq.1 hk with rfl|hk
   ·omega
   have:=Apt (ApB.1 hpw).2.1 hk;omega
  have hstill:∀(ok:Nat->Bool) t,DF l.toArray ts ok t=true->(∀k∈((j::m2)++i::l2),ok k=false)->ts.contains t=true/\ev st3.fr (.tmp t)=evL n (keep ts fr1) (.tmp t):=by
   intro ok t h hno;simp only[DF,Ape]at h;refine⟨h.1,(hst3 t fun k hk o hko=>?_).trans (hfin t h.1)⟩;have h2:=As h.2 (Apd.1 hko).1;rw[hno k hk,hko]at h2;simpa using h2
  have hq0:∀q,DF l.toArray ts (fun k=>(T.getD i []).contains k&&decide (k<i)) q=true->ts.contains q=true/\ev st3.fr (.tmp q)=evL n (keep ts fr1) (.tmp q):=fun q s1=>hstill _ q s1 (fun k hk=>by
   have:=hnT k hk;simp only[Aqx,Aps];by_cases hm:k∈T.getD i []
   ·exact .inr fun h=>this ⟨hm,h⟩
   exact .inl (by simpa using hm))
  unfold sepU at h2';rw[ApG]at h2';rcases h2' with h2'|h2'
  ·exact .free (Ac0 h2')
  unfold sepT at h2';simp only[ApG]at h2';rcases h2' with h2'|h2'
  ·split at h2'
   case h_2=>cases h2'
   rename_i p hfp;split at h2'
   case h_2=>cases h2'
   rename_i a ha;obtain⟨c1,c2⟩:=hq0 p h2';exact .free (AjJ hfp (by rw[c2];exact K8 hps ha))
  split at h2'
  case h_2=>cases h2'
  rename_i p a hla;simp only[Ape]at h2';obtain⟨s1,s2⟩:=h2';obtain⟨c1,c2⟩:=hq0 p s1
  have hlook:Ab3 E (lz) l.toArray l.toArray[i] st3.fr a:=by
   unfold AiK at hla;split at hla
   ·rename_i p' hlp;rw[AoY]at hla;obtain⟨a',h1,h2⟩:=hla;cases h2;exact VV hlp (by rw[c2];exact K8 hps h1)
   split at hla
   case h_2=>cases hla
   rename_i p' hsp;rw[AoY]at hla;obtain⟨a',h1,h2⟩:=hla;cases h2;exact TQ hsp (by rw[c2];exact Afx hbs h1)
  refine .look a hlook fun σ1 v hv=>?_
  unfold Aby at s2;simp only[ApG]at s2;rcases s2 with s2|s2
  ·split at s2
   case h_2=>cases s2
   rename_i q hap;split at s2
   case h_2=>cases s2
   rename_i d hd;simp only[Ape,Aq5]at s2
   obtain⟨c3,c4⟩:=hstill _ q s2.2 (fun k hk=>by
    have:=hge k hk;simp only[Aps];omega)
   exact WO hap (by rw[c4];exact LL hws hd) s2.1 hv
  simp only[Ape,Aqj]at s2;obtain⟨⟨b1,b2⟩,b3⟩:=s2;split at b3
  case h_2=>cases b3
  rename_i t hdst;split at b3
  case h_2=>cases b3
  rename_i d hd;simp only[Ape,App]at b3;obtain⟨b3,b4⟩:=b3;rcases AdV b1 b2 hv with rfl|⟨nn,bb,rfl,rfl⟩
  ·rfl
  have h5:=h3;simp only[Apo,AO,hx]at h5;rw[Ao3]at h5;obtain⟨s5,h6,h7⟩:=h5;unfold B6 at h6;rw[hv]at h6;cases h6;simp only[DF,Ape]at b4
  have h8:=EU (t:=t) _ _ _ (fun k hk o hko=>by
   have h2:=As b4.2 (Apd.1 hko).1
   have hjk:j<k:=by
    rw[Apo]at hpw;exact Apt hpw hk
   have hno:decide (k<=j)=false:=by simp only[Aps];omega
   rw[hno,hko]at h2;simpa using h2) h7
  have h9:=Ae0 hds hd;rw[<-hfin t b4.1,h8]at h9;simp only[hdst]at h9;rcases Alg st3.fr t (.bs true st3.O.length nn 0 nn)with h10|h10
  ·rw[h10]at h9;have:st3.O.length=d:=Ao1 h9;exact Ao9 (by omega)
  rw[h10]at h9;cases h9
 ·intro j;rw[ApK];by_cases h:j<l.length<;>simp[Array.getD,h]
 ·intro k hk hkn;exact(hkn (ApK.2 (by simpa using hk))).elim
 intro a' w' g' hr' he hg;exact hq _ _ _ _ _ (hw _ _ (Do _ _ _ _ _) hk) hr' ((Evo.same hsm).trans (he.of_gle hg))
theorem AcF(hE:E.Ok)(hP:E.P.follows .mixedOrders=true){m n id:Nat}{l:List Oper}(T:List (List Nat))(hok1:FO l.toArray T=true)(ps bs ws ds:List (Nat×Nat))(ts:List Nat)(hok2:AaP E l.toArray T ps bs ws ds ts=true){fr fr':Fr}{O O':Ad}{K:CX} (hps:PU n fr' ps) (hbs:SlL n fr' bs) (hws:LJ n fr' ws) (hds:BsL n fr' ds) (h:∃lz,Hh E.toBase lz/\HT E lz true n l ts (fr,O)=some (fr',O')) {y:Code} (hk:Run E m y ⟨Al n fr',O'⟩ K):Run E m (.seq (.region id l.toArray true) y) ⟨Al n fr,O⟩ K :=
 Hl (YB hE hP T hok1 ps bs ws ds ts hok2 E6 hps hbs hws hds h hk)
end Go.Rv
