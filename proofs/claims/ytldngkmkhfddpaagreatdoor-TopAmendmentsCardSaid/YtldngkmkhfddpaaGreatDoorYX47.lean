/-
  Part 47.
-/
import Derived.Test.YtldngkmkhfddpaaGreatDoorYX46
namespace Go.Rv
open Go.RowKit
set_option linter.unusedVariables false
set_option linter.unusedSimpArgs false
variable {E:Env}
def Wc(E:Env)(ops:Array Oper)(y:Oper):Bool:=(match y.op with
 |.buildSlice ..=>true
 |_=>false)&&ED E ops y
theorem Aei{orc:Option Tmp->Orc}{ops:Array Oper}{y:Oper}{fr:List AV}(h:Wc E ops y=true):Afv E orc ops y fr:=by
 intro O O' v hv;unfold Wc at h;rw[Apj]at h;obtain⟨h1,h2⟩:=h;split at h1
 case h_2=>cases h1
 rename_i t n l ho;unfold Dz at hv ⊢;cases hwn:G8 ops fr y with
 |none=>simp[hwn]at hv
 | some w=>
  cases w with
  |false=>
   simp only[hwn,Ao7,Apf]at hv ⊢;exact⟨hv.2.symm,fun σ2=>⟨hv.1,trivial⟩⟩
  | true=>
   simp only[hwn,ho,Ca,DX,h2]at hv ⊢
   have key:∀s:Ac,(C3 E s t n (l.toList.map fun(i,x)=>(i,ev fr x))).bind (Fl true s)=((C3 E [] t n (l.toList.map fun(i,x)=>(i,ev fr x))).bind (Fl true [])).map fun r=>(r.1,s):=by
    intro s;unfold C3;split
    ·rfl
    split
    case h_2=>rfl
    split
    case h_2=>rfl
    split
    ·rfl
    split
    case h_2=>rfl
    simp only[Ap4,Fl,ApT,I9,Apy,Bm,ApR];simp only[Ape (Apm _),Arw,AqX];split<;>rfl
   rw[key]at hv;rw[Ao5]at hv;obtain⟨r,h3,h4⟩:=hv;cases h4;refine⟨rfl,fun σ2=>?_⟩;rw[key,h3];rfl
def sepU(E:Env)(ops:Array Oper)(T:List (List Nat))(ps bs ws ds:List (Nat×Nat))(ts:List Nat)(j i:Nat)(x y:Oper):Bool :=
 Wc E ops y||sepT E ops T ps bs ws ds ts j i x y
def AcL(E:Env)(ops:Array Oper)(T:List (List Nat))(ps bs ws ds:List (Nat×Nat))(ts:List Nat):Bool :=
 (List.range ops.size).all fun i=>(List.range i).all fun j=>(T.getD i []).contains j||(match ops[j]?,ops[i]? with
  |some x,some y=>J9 E ops x y||(x.apart ops y&&sepU E ops T ps bs ws ds ts j i x y)
  |_,_=>false)
theorem YD(hE:E.Ok)(hP:E.P.follows .mixedOrders=true){m n id:Nat}{l:List Oper}(T:List (List Nat))(hok1:EX l.toArray T=true)(ps bs ws ds:List (Nat×Nat))(ts:List Nat)(hok2:AcL E l.toArray T ps bs ws ds ts=true){fr fr':Fr}{O O':Ac}{K:CO}(hw:Lm E m K) (hps:O0 n fr' ps) (hbs:SlL n fr' bs) (hws:Mf n fr' ws) (hds:BsL n fr' ds) (h:∃lz,He E.toBase lz/\Hq E lz true n l ts (fr,O)=some (fr',O')) (hk:K .normal ⟨Ai n fr',O'⟩):Run E m (.region id l.toArray true) ⟨Ai n fr,O⟩ K:=by
 obtain⟨lz,hO,h⟩:=h;simp only[Hq,Apa,Ao7,Apf]at h;obtain⟨⟨fr1,σ2⟩,h1,rfl,rfl⟩:=h;have hsteps:=EC (E:=E) (ops:=l.toArray) 0 l fr fr1 O σ2 (by simp) h1;rw[<-Ap9]at hsteps;intro hcm ac w g hr Q hq;refine Hr (Iu hcm) (wp_region_any hP ?_);have hsm:SameMem w { w with drawn:=w.drawn+1 }:=⟨rfl,rfl,rfl,rfl⟩
 have hfin:∀t,ts.contains t=true->ev (Ai n fr1) (.tmp t)=evL n (keep ts fr1) (.tmp t):=by
  intro t ht;rw[CN];show(if t<n then look fr1 t else .junk)=if t<n then look (keep ts fr1) t else .junk
  rw[D5 ts fr1 t (Apo.1 ht)]
 refine HC hE hO hok1 (st':=⟨Ai n fr1,σ2⟩) ?_ l.toArray.size (List.range l.length) _ ⟨Ai n fr,O⟩ ac _ g (by simp) Aqj (by simp) ?_ ?_ hsteps (HS hr hsm) ?_
 ·intro i his l1 l2 st hp hT hst;have hi:l.toArray[i]?=some l.toArray[i]:=Apr his;refine LY hi l1 st (fun m1 j m2 e x hx=>?_) hst;have hj:j∈l1:=by rw[e];simp
  have hji:j<i:=by
   rw[ApI]at hp;exact hp.2.2 j hj i Apu
  have h1':=As (As hok2 his) hji;simp only[ApN,Apo]at h1';rcases h1' with h1'|h1'
  ·exact(hT j hj h1').elim
  simp only[hx,hi,ApN,Apj]at h1';rcases h1' with h1'|⟨h1',h2'⟩
  ·exact .inl h1'
  refine .inr ⟨h1',fun st3 h3=>?_⟩;have hst3:∀t,(∀k∈((j::m2)++i::l2),∀o,l.toArray[k]?=some o->o.dst≠some t)->ev st3.fr (.tmp t)=ev (Ai n fr1) (.tmp t):=fun t hk=>(EE _ _ _ hk h3).symm
  have hpw:((j::m2)++i::l2).Pairwise (·<·):=by
   rw[e,Ap6]at hp;exact(ApI.1 hp).2.1
  have hge:∀k∈((j::m2)++i::l2),j<=k:=by
   intro k hk;rw[Apv]at hpw hk;rcases Apx.1 hk with rfl|hk
   ·exact Apm _
   exact ArM (ApB hpw hk)
  have hnT:∀k∈((j::m2)++i::l2),¬(k∈T.getD i []/\k<i):=by
   rintro k hk ⟨q1,q2⟩;rcases Aps.1 hk with hk|hk
   ·exact hT k (by rw[e];simp only[Aps];exact .inr hk) q1
   rcases Apx.1 hk with rfl|hk
   ·omega
   have:=ApB (ApI.1 hpw).2.1 hk;omega
  have hstill:∀(ok:Nat->Bool) t,D6 l.toArray ts ok t=true->(∀k∈((j::m2)++i::l2),ok k=false)->ts.contains t=true/\ev st3.fr (.tmp t)=evL n (keep ts fr1) (.tmp t):=by
   intro ok t h hno;simp only[D6,Apj]at h;refine⟨h.1,(hst3 t fun k hk o hko=>?_).trans (hfin t h.1)⟩;have h2:=As h.2 (Apl.1 hko).1;rw[hno k hk,hko]at h2;simpa using h2
  have hq0:∀q,D6 l.toArray ts (fun k=>(T.getD i []).contains k&&decide (k<i)) q=true->ts.contains q=true/\ev st3.fr (.tmp q)=evL n (keep ts fr1) (.tmp q):=fun q s1=>hstill _ q s1 (fun k hk=>by
   have:=hnT k hk;simp only[AqE,ApA];by_cases hm:k∈T.getD i []
   ·exact .inr fun h=>this ⟨hm,h⟩
   exact .inl (by simpa using hm))
  unfold sepU at h2';rw[ApN]at h2';rcases h2' with h2'|h2'
  ·exact .free (Aei h2')
  unfold sepT at h2';simp only[ApN]at h2';rcases h2' with h2'|h2'
  ·split at h2'
   case h_2=>cases h2'
   rename_i p hfp;split at h2'
   case h_2=>cases h2'
   rename_i a ha;obtain⟨c1,c2⟩:=hq0 p h2';exact .free (Als hfp (by rw[c2];exact KD hps ha))
  split at h2'
  case h_2=>cases h2'
  rename_i p a hla;simp only[Apj]at h2';obtain⟨s1,s2⟩:=h2';obtain⟨c1,c2⟩:=hq0 p s1
  have hlook:Acx E (lz) l.toArray l.toArray[i] st3.fr a:=by
   unfold Aii at hla;split at hla
   ·rename_i p' hlp;rw[Ao5]at hla;obtain⟨a',h1,h2⟩:=hla;cases h2;exact VA hlp (by rw[c2];exact KD hps h1)
   split at hla
   case h_2=>cases hla
   rename_i p' hsp;rw[Ao5]at hla;obtain⟨a',h1,h2⟩:=hla;cases h2;exact T1 hsp (by rw[c2];exact Afg hbs h1)
  refine .look a hlook fun σ1 v hv=>?_
  unfold Acs at s2;simp only[ApN]at s2;rcases s2 with s2|s2
  ·split at s2
   case h_2=>cases s2
   rename_i q hap;split at s2
   case h_2=>cases s2
   rename_i d hd;simp only[Apj,Are]at s2
   obtain⟨c3,c4⟩:=hstill _ q s2.2 (fun k hk=>by
    have:=hge k hk;simp only[ApA];omega)
   exact X0 hap (by rw[c4];exact Mh hws hd) s2.1 hv
  simp only[Apj,Aqq]at s2;obtain⟨⟨b1,b2⟩,b3⟩:=s2;split at b3
  case h_2=>cases b3
  rename_i t hdst;split at b3
  case h_2=>cases b3
  rename_i d hd;simp only[Apj,Apw]at b3;obtain⟨b3,b4⟩:=b3;rcases Adv b1 b2 hv with rfl|⟨nn,bb,rfl,rfl⟩
  ·rfl
  have h5:=h3;simp only[Apv,AK,hx]at h5;rw[Apa]at h5;obtain⟨s5,h6,h7⟩:=h5;unfold Bw at h6;rw[hv]at h6;cases h6;simp only[D6,Apj]at b4
  have h8:=EE (t:=t) _ _ _ (fun k hk o hko=>by
   have h2:=As b4.2 (Apl.1 hko).1
   have hjk:j<k:=by
    rw[Apv]at hpw;exact ApB hpw hk
   have hno:decide (k<=j)=false:=by simp only[ApA];omega
   rw[hno,hko]at h2;simpa using h2) h7
  have h9:=Afn hds hd;rw[<-hfin t b4.1,h8]at h9;simp only[hdst]at h9;rcases AlR st3.fr t (.bs true st3.O.length nn 0 nn)with h10|h10
  ·rw[h10]at h9;have:st3.O.length=d:=Ao8 h9;exact Aph (by omega)
  rw[h10]at h9;cases h9
 ·intro j;rw[ApS];by_cases h:j<l.length<;>simp[Array.getD,h]
 ·intro k hk hkn;exact(hkn (ApS.2 (by simpa using hk))).elim
 intro a' w' g' hr' he hg;exact hq _ _ _ _ _ (hw _ _ (Dh _ _ _ _ _) hk) hr' ((Evo.same hsm).trans (he.of_gle hg))
theorem Abs(hE:E.Ok)(hP:E.P.follows .mixedOrders=true){m n id:Nat}{l:List Oper}(T:List (List Nat))(hok1:EX l.toArray T=true)(ps bs ws ds:List (Nat×Nat))(ts:List Nat)(hok2:AcL E l.toArray T ps bs ws ds ts=true){fr fr':Fr}{O O':Ac}{K:CO} (hps:O0 n fr' ps) (hbs:SlL n fr' bs) (hws:Mf n fr' ws) (hds:BsL n fr' ds) (h:∃lz,He E.toBase lz/\Hq E lz true n l ts (fr,O)=some (fr',O')) {y:Code} (hk:Run E m y ⟨Ai n fr',O'⟩ K):Run E m (.seq (.region id l.toArray true) y) ⟨Ai n fr,O⟩ K :=
 Hh (YD hE hP T hok1 ps bs ws ds ts hok2 Ea hps hbs hws hds h hk)
theorem wcp{B:Base}{f:FuncId}{args1:List AV}{σ1:Ac}{o:Outc}(hp:PCon B f args1 σ1 o)(sel:List Nat){r1:AV}{σ2 O:Ac}{args:List AV}{r:AV}{O':Ac}(ho:o=.ret r1 σ2:=by exact rfl)(hO:JI sel O sel σ1:=by simp only[go_sem])(ha:wkA sel args args1:=by simp only[go_sem])(hb:BU σ2=true:=by simp only[go_sem]) (hr:SI sel O.length r1=r:=by first|(simp only[go_sem];done)|(simp only[go_sem];exact rfl)|exact rfl) (hs:M6 O sel (σ2.map (AcC sel O.length))=O':=by first|(simp only[go_sem];done)|(simp only[go_sem];exact rfl)|exact rfl) (hnd:sel.Nodup:=by decide):∀F:Addr->Prop,UD (B.env F) f args O r O':=Tv (PCon.to hp ho) sel hnd hO ha hb hr hs
theorem Pw{B:Base}{f:FuncId}{args1:List AV}{σ1:Ac}{o:Outc}(hp:PCon B f args1 σ1 o)(sel:List Nat){v:Value}{σ2 O:Ac}{args:List AV}{O':Ac}(ho:o=.pan v σ2:=by exact rfl)(hO:JI sel O sel σ1:=by simp only[go_sem])(ha:wkA sel args args1:=by simp only[go_sem])(hb:BU σ2=true:=by simp only[go_sem]) (hs:M6 O sel (σ2.map (AcC sel O.length))=O':=by first|(simp only[go_sem];done)|(simp only[go_sem];exact rfl)|exact rfl) (hnd:sel.Nodup:=by decide):∀v',AV.val v=.val v'->∀F:Addr->Prop,UB (B.env F) f args O v' O':=fun v hv=>by cases hv;exact Pl (PCon.pan hp ho) sel hnd hO ha hb hs
section
variable {B:Base}{u:Out}{m n id:Nat}{l:List Oper}{fr fr':Fr}{O O' s':Ac}{K:CO}{f:FuncId}{r:AV}{y:Code}{v:Value}{o:Oper}
theorem Tc(ts:List Nat)(t:Nat)(a:List AV)(s:Ac)(hc:∀F:Addr->Prop,UD (B.env F) f a s r s')(hk:Run (B.env u) m y ⟨Ai n fr',O'⟩ K)(h:Is (Hq (B.env u) (I6 [] [(t,f,a,s,r,s')]) false n l ts (fr,O)) fr' O':=by simp only[go_sem];exact C2)(hE:(B.env u).Ok:=by assumption):Run (B.env u) m (.seq (.region id l.toArray false) y) ⟨Ai n fr,O⟩ K :=
 IJ hE ts ⟨_,Ag (l:=[]) (m:=[(t,f,a,s,r,s')]) trivial ⟨hc,trivial⟩,h⟩ hk
theorem Td(ts:List Nat)(t:Nat)(a:List AV)(hc:∀F:Addr->Prop,UD (B.env F) f a O r s')(hk:Run (B.env u) m y ⟨Ai n fr',O'⟩ K)(h:Is (Hq (B.env u) (I6 [] [(t,f,a,O,r,s')]) false n l ts (fr,O)) fr' O':=by simp only[go_sem];exact C2)(hE:(B.env u).Ok:=by assumption):Run (B.env u) m (.seq (.region id l.toArray false) y) ⟨Ai n fr,O⟩ K:=Tc ts t a O hc hk h hE
theorem Fcc(ts:List Nat)(t:Nat)(a:List AV)(s:Ac)(hc:∀F:Addr->Prop,UD (B.env F) f a s r s')(hk:K .normal ⟨Ai n fr',O'⟩)(h:Is (Hq (B.env u) (I6 [] [(t,f,a,s,r,s')]) false n l ts (fr,O)) fr' O':=by simp only[go_sem];exact C2)(hw:Lm (B.env u) m K:=by repeat' first|exact Ea|exact FJ|exact Qm|exact Qw|exact Kr|refine E4 ?_|refine GJ ?_)(hE:(B.env u).Ok:=by assumption):Run (B.env u) m (.region id l.toArray false) ⟨Ai n fr,O⟩ K :=
 D2 hE hw ts ⟨_,Ag (l:=[]) (m:=[(t,f,a,s,r,s')]) trivial ⟨hc,trivial⟩,h⟩ hk
theorem Fdd(ts:List Nat)(t:Nat)(a:List AV)(hc:∀F:Addr->Prop,UD (B.env F) f a O r s')(hk:K .normal ⟨Ai n fr',O'⟩)(h:Is (Hq (B.env u) (I6 [] [(t,f,a,O,r,s')]) false n l ts (fr,O)) fr' O':=by simp only[go_sem];exact C2)(hw:Lm (B.env u) m K:=by repeat' first|exact Ea|exact FJ|exact Qm|exact Qw|exact Kr|refine E4 ?_|refine GJ ?_)(hE:(B.env u).Ok:=by assumption):Run (B.env u) m (.region id l.toArray false) ⟨Ai n fr,O⟩ K:=Fcc ts t a O hc hk h hw hE
theorem Tp(k t:Nat)(a:List AV)(s:Ac)(hc:∀v',AV.val v=.val v'->∀F:Addr->Prop,UB (B.env F) f a s v' s')(hk:∀fr',K (.panic (NL v)) ⟨fr',s'⟩)(hk0:l[k]?=some o:=by exact rfl)(hg:o.guard=none:=by exact rfl)(h:Wz [(t,f,a,s,.val v,s')] n [] o (W1 (B.env u) (I6 [] []) false n l k (fr,O))=some ((.val v,s'),[]):=by simp only[go_sem])(hE:(B.env u).Ok:=by assumption):Run (B.env u) m (.seq (.region id l.toArray false) y) ⟨Ai n fr,O⟩ K :=
 Od hE [] k o hk0 hg ⟨_,[(t,f,a,s,.val v,s')],Ab,⟨hc,trivial⟩,h⟩ fun fr' _ _=>hk fr'
theorem Ts(k t:Nat)(a:List AV)(hc:∀v',AV.val v=.val v'->∀F:Addr->Prop,UB (B.env F) f a O v' s')(hk:∀fr',K (.panic (NL v)) ⟨fr',s'⟩)(hk0:l[k]?=some o:=by exact rfl)(hg:o.guard=none:=by exact rfl)(h:Wz [(t,f,a,O,.val v,s')] n [] o (W1 (B.env u) (I6 [] []) false n l k (fr,O))=some ((.val v,s'),[]):=by simp only[go_sem])(hE:(B.env u).Ok:=by assumption):Run (B.env u) m (.seq (.region id l.toArray false) y) ⟨Ai n fr,O⟩ K :=
 Od hE [] k o hk0 hg ⟨_,[(t,f,a,O,.val v,s')],Ab,⟨hc,trivial⟩,h⟩ fun fr' _ _=>hk fr'
theorem Fs(k t:Nat)(a:List AV)(hc:∀v',AV.val v=.val v'->∀F:Addr->Prop,UB (B.env F) f a O v' s')(hk:∀fr',K (.panic (NL v)) ⟨fr',s'⟩)(hk0:l[k]?=some o:=by exact rfl)(hg:o.guard=none:=by exact rfl)(h:Wz [(t,f,a,O,.val v,s')] n [] o (W1 (B.env u) (I6 [] []) false n l k (fr,O))=some ((.val v,s'),[]):=by simp only[go_sem])(hE:(B.env u).Ok:=by assumption):Run (B.env u) m (.region id l.toArray false) ⟨Ai n fr,O⟩ K :=
 Gj hE [] k o hk0 hg ⟨_,[(t,f,a,O,.val v,s')],Ab,⟨hc,trivial⟩,h⟩ fun fr' _ _=>hk fr'
theorem Tk(ks:List Nat)(vals:List AV)(k t:Nat)(a:List AV)(s:Ac)(hc:∀v',AV.val v=.val v'->∀F:Addr->Prop,UB (B.env F) f a s v' s')(hk:∀fr',fr'.length=n->(ks.map fun t=>ev fr' (.tmp t))=vals->K (.panic (NL v)) ⟨fr',s'⟩)(hk0:l[k]?=some o:=by exact rfl)(hg:o.guard=none:=by exact rfl)(h:Wz [(t,f,a,s,.val v,s')] n ks o (W1 (B.env u) (I6 [] []) false n l k (fr,O))=some ((.val v,s'),vals):=by simp only[go_sem])(hE:(B.env u).Ok:=by assumption):Run (B.env u) m (.seq (.region id l.toArray false) y) ⟨Ai n fr,O⟩ K :=
 Od hE ks k o hk0 hg ⟨_,[(t,f,a,s,.val v,s')],Ab,⟨hc,trivial⟩,h⟩ hk
theorem Tj(ks:List Nat)(vals:List AV)(k t:Nat)(a:List AV)(hc:∀v',AV.val v=.val v'->∀F:Addr->Prop,UB (B.env F) f a O v' s')(hk:∀fr',fr'.length=n->(ks.map fun t=>ev fr' (.tmp t))=vals->K (.panic (NL v)) ⟨fr',s'⟩)(hk0:l[k]?=some o:=by exact rfl)(hg:o.guard=none:=by exact rfl)(h:Wz [(t,f,a,O,.val v,s')] n ks o (W1 (B.env u) (I6 [] []) false n l k (fr,O))=some ((.val v,s'),vals):=by simp only[go_sem])(hE:(B.env u).Ok:=by assumption):Run (B.env u) m (.seq (.region id l.toArray false) y) ⟨Ai n fr,O⟩ K :=
 Od hE ks k o hk0 hg ⟨_,[(t,f,a,O,.val v,s')],Ab,⟨hc,trivial⟩,h⟩ hk
theorem Dp(T:List (List Nat))(k t:Nat)(a:List AV)(s:Ac)(hc:∀v',AV.val v=.val v'->∀F:Addr->Prop,UB (B.env F) f a s v' s')(hk:∀fr',K (.panic (NL v)) ⟨fr',s'⟩)(hk0:l[k]?=some o:=by exact rfl)(hg:o.guard=none:=by exact rfl)(h:Wz [(t,f,a,s,.val v,s')] n [] o (W1 (B.env u) (I6 [] []) true n l k (fr,O))=some ((.val v,s'),[]):=by simp only[go_sem]) (hP:(B.env u).P.follows .mixedOrders=true:=by exact mixed) (h0:RX [] l=true:=by exact rfl) (h1:EX l.toArray T=true:=by kernel_rfl) (h2:Lu (B.env u) l.toArray T k=true:=by kernel_rfl) (h3:TF (B.env u) l.toArray T k=true:=by kernel_rfl) (hE:(B.env u).Ok:=by assumption):Run (B.env u) m (.seq (.region id l.toArray true) y) ⟨Ai n fr,O⟩ K :=
 Xi hE hP [] h0 T h1 k h2 h3 o hk0 hg ⟨_,[(t,f,a,s,.val v,s')],Ab,⟨hc,trivial⟩,h⟩ fun fr' _ _=>hk fr'
theorem Ds(T:List (List Nat))(k t:Nat)(a:List AV)(hc:∀v',AV.val v=.val v'->∀F:Addr->Prop,UB (B.env F) f a O v' s')(hk:∀fr',K (.panic (NL v)) ⟨fr',s'⟩)(hk0:l[k]?=some o:=by exact rfl)(hg:o.guard=none:=by exact rfl)(h:Wz [(t,f,a,O,.val v,s')] n [] o (W1 (B.env u) (I6 [] []) true n l k (fr,O))=some ((.val v,s'),[]):=by simp only[go_sem]) (hP:(B.env u).P.follows .mixedOrders=true:=by exact mixed) (h0:RX [] l=true:=by exact rfl) (h1:EX l.toArray T=true:=by kernel_rfl) (h2:Lu (B.env u) l.toArray T k=true:=by kernel_rfl) (h3:TF (B.env u) l.toArray T k=true:=by kernel_rfl) (hE:(B.env u).Ok:=by assumption):Run (B.env u) m (.seq (.region id l.toArray true) y) ⟨Ai n fr,O⟩ K :=
 Xi hE hP [] h0 T h1 k h2 h3 o hk0 hg ⟨_,[(t,f,a,O,.val v,s')],Ab,⟨hc,trivial⟩,h⟩ fun fr' _ _=>hk fr'
theorem Gs(T:List (List Nat))(k t:Nat)(a:List AV)(hc:∀v',AV.val v=.val v'->∀F:Addr->Prop,UB (B.env F) f a O v' s')(hk:∀fr',K (.panic (NL v)) ⟨fr',s'⟩)(hk0:l[k]?=some o:=by exact rfl)(hg:o.guard=none:=by exact rfl)(h:Wz [(t,f,a,O,.val v,s')] n [] o (W1 (B.env u) (I6 [] []) true n l k (fr,O))=some ((.val v,s'),[]):=by simp only[go_sem]) (hP:(B.env u).P.follows .mixedOrders=true:=by exact mixed) (h0:RX [] l=true:=by exact rfl) (h1:EX l.toArray T=true:=by kernel_rfl) (h2:Lu (B.env u) l.toArray T k=true:=by kernel_rfl) (h3:TF (B.env u) l.toArray T k=true:=by kernel_rfl) (hE:(B.env u).Ok:=by assumption):Run (B.env u) m (.region id l.toArray true) ⟨Ai n fr,O⟩ K :=
 PS hE hP [] h0 T h1 k h2 h3 o hk0 hg ⟨_,[(t,f,a,O,.val v,s')],Ab,⟨hc,trivial⟩,h⟩ fun fr' _ _=>hk fr'
end
theorem wpR{E:Env}{n:Nat}{rs:List ResultVar}{o:Outc}{v:Value}{fr:List AV}{O σ0:Ac}(sel:List Nat)(ho:o=.pan v σ0:=by exact rfl)(hO:JI sel O sel σ0:=by simp only[go_sem])(hnd:sel.Nodup:=by decide)(hn:sel.take n=List.range n:=by exact rfl):wkP E n (Aic E n rs o) (.panic (NL v)) ⟨fr,O⟩:=FU (Weak.refl _ _) (Ad4 ho sel hnd hn hO)
theorem wpF{E:Env}{n N:Nat}{l:Fr}{O σ0:Ac}{rs:List ResultVar}{r0:AV}{o:Outc}(ho:o=.ret r0 σ0:=by exact rfl)(h:(UC E N l O rs).bind (fun xs=>fzR O (Hf xs))=some r0:=by simp only[go_sem])(hO:JI (List.range n) O (List.range n) σ0:=by first|(show JI [] _ [] _;simp only[go_sem];done)|(show JI [0] _ [0] _;simp only[go_sem];done)|(show JI [0,1] _ [0,1] _;simp only[go_sem]))(hb:QU n O=true:=by exact rfl):wkP E n (Aic E n rs o) .ret ⟨Ai N l,O⟩:=FU (Weak.refl _ _) (Vf ho (AaY (.inr rfl) h hb hO))
end Go.Rv
