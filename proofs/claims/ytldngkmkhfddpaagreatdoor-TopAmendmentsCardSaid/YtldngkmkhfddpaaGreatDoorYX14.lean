/-
  Part 14.
-/
import Derived.Test.YtldngkmkhfddpaaGreatDoorYX13
namespace Go.Rv
set_option linter.unusedVariables false
set_option linter.unusedSimpArgs false
variable {E:Env}
def NV(P:Program)(t:Nat):Option TD :=
 match P.underlying t,P.info? t with
 |some d,some i=>match i.zero with
  |some z=>if z.cells.size=i.size/\z.cells.all one=true then some ⟨d,i.size,i.bytes,z.cells.toList.map Ny⟩else none
  |none=>none
 |_,_=>none
noncomputable def RF{α:Type}(x:α):α:=Classical.choose (⟨x,rfl⟩:∃y,y=x)
theorem Agp{α:Type}(x:α):RF x=x:=Classical.choose_spec (⟨x,rfl⟩:∃y,y=x)
noncomputable def Aom(P:Program)(t:Nat):Option TD :=
 match P.info? t with
 |some i=>if 1000<i.size then RF (NV P t)else NV P t
 |none=>NV P t
theorem Pm(P:Program)(t:Nat):Aom P t=NV P t:=by
 unfold Aom;split
 ·split
  ·exact Agp _
  rfl
 rfl
noncomputable def Acl(P:Program)(G:Nat->Option (List AV))(own:FuncId->List Operand->Bool)(maps:TypeId->Option MapS:=fun _=>none)(whole:Nat->Option (Array Value):=fun _=>none)(bty:Option TypeId:=none)(lm:Bool:=false)(hlm:lm=true->∀t,maps t=none:=by intro h;cases h)(mp:TypeId->Option AV:=fun _=>none)(hmp:∀t z,mp t=some z->Ah6 P t z:=by intro _ _ h;cases h):Base:=⟨P,Aom P,G,own,maps,whole,bty,lm,hlm,mp,hmp⟩
theorem Q6(P:Program)(G:Nat->Option (List AV))(own:FuncId->List Operand->Bool)(maps:TypeId->Option MapS:=fun _=>none)(whole:Nat->Option (Array Value):=fun _=>none)(bty:Option TypeId:=none)(lm:Bool:=false)(hlm:lm=true->∀t,maps t=none:=by intro h;cases h)(mp:TypeId->Option AV:=fun _=>none)(hmp:∀t z,mp t=some z->Ah6 P t z:=by intro _ _ h;cases h):(Acl P G own maps whole bty lm hlm mp hmp).Ok:=by
 have key:∀t d,NV P t=some d->P.underlying t=some d.desc/\∃i z,P.info? t=some i/\i.size=d.size/\i.bytes=d.bytes/\i.zero=some z/\z.cells.size=d.zero.length/\d.zero.length=d.size /\
  ∀w pr g (j:Nat) (x:AV),d.zero[j]?=some x->Rep w pr g (z.cells.getD j undef) x/\one (z.cells.getD j undef)=true:=by
  intro t d h;unfold NV at h;split at h
  case h_2=>cases h
  rename_i dd i h1 h2;split at h
  case h_2=>cases h
  rename_i z hz;split at h
  case isFalse=>cases h
  rename_i hc;obtain⟨c1,c2⟩:=hc;cases h;refine⟨h1,i,z,h2,rfl,rfl,hz,by simp,by simp[c1],?_⟩;intro w pr g j x hj;simp only[ApE,Ao5]at hj;obtain⟨u,hu,rfl⟩:=hj;have hu':z.cells[j]?=some u:=by simpa using hu
  have hl:j<z.cells.size:=(Apl.1 hu').1;rw[A2 hu'];refine⟨KF u,?_⟩;have:=Array.all_eq_true.1 c2 j hl;rw[<-(Apl.1 hu').2];exact this
 exact⟨fun t d h=>(key t d ((Pm P t).symm.trans h)).1,fun t d h=>(key t d ((Pm P t).symm.trans h)).2⟩
def G8(ops:Array Oper)(fr:List AV)(o:Oper):Option Bool :=
 match o.guard with
 |none=>some true
 |some (j,want)=>(Io ops fr j).map (·==some want)
inductive Acc where
  |run (fr:List AV) (O:Ac)
  |stop (l:List Oper) (fr:List AV) (O:Ac)
  |bad
def fzR(O:Ac):AV->Option AV
 |.tup xs=>(xs.mapM (fz O)).map .tup
 |x=>fz O x
theorem AgN{E:Env}{w:World}{g:Gh}{O:Ac}(hm:Mem E w g O){pr:Addr->Prop}{v:Value}{x y:AV}(hv:Rep w (A3 E g) g v x)(hy:fzR O x=some y) (hp:∀a,A3 E g a->pr a) (hb:∀(id:Nat) (b:GB),g[id]?=some b->∀β off,b.blk=some β->pr ⟨β,off,none⟩):Rep w pr [] v y:=by
 by_cases htu:∃xs,x=.tup xs
 ·obtain⟨xs,rfl⟩:=htu;simp only[fzR,Ao5]at hy;obtain⟨ys,hys,rfl⟩:=hy;obtain⟨hl,hget⟩:=Ju _ _ _ hys;cases hv with
  |tup _ vs _ hs hr=>
   refine .tup _ vs ys (by omega) ?_;intro i y hi;obtain⟨x,hx,hxy⟩:=hget i y hi;exact Ow hm (hr i x hx) hxy hp (fun id b _ hgb β off hβ _=>hb id b hgb β off hβ)
 have e:fzR O x=fz O x:=by cases x<;>first|rfl|(exact(htu ⟨_,rfl⟩).elim)
 rw[e]at hy;exact Ow hm hv hy hp (fun id b _ hgb β off hβ _=>hb id b hgb β off hβ)
theorem Q2{B:Base}{f:FuncId}{args:List AV}{R:AV->Ac->Prop}{r0:AV}(h:Con B f args [] R)(hr:∀r O',R r O'->fzR O' r=some r0):Con B f args [] (fun r' O'=>r'=r0/\O'=[]):=by
 refine⟨fun F w g vs hm ha=>?_⟩;have hg:g=[]:=ApM.1 hm.len;subst hg;refine(h.call F w [] vs hm ha).mono ?_;rintro e w' ⟨v,r,O',g',rfl,hR,hm',he,hrep⟩;have hnm:∀β,¬Ft [] β:=by rintro β ⟨id,b,h,_⟩;simp at h
 have hp:∀a,A3 (B.env F) g' a->A3 (B.env F) [] a:=fun a ha=>Bt ha.1 (hnm _)
 refine⟨v,r0,[],[],rfl,⟨rfl,rfl⟩,?_,?_,?_⟩
 ·refine⟨rfl,fun id b ab h=>by simp at h,fun id id' b b' β h=>by simp at h,fun a ha=>⟨(hm'.foreign a ha).1,hnm _⟩,fun i cs h=>?_,hm'.maps,fun i vs h=>⟨hnm _,(hm'.whole i vs h).2⟩⟩;obtain⟨h1,h2,h3,c,hc⟩:=hm'.glob i cs h;exact⟨h1,hnm _,h3,c,fun j x hj=>⟨(hc j x hj).1,(hc j x hj).2.1.mono (fun a u hcc hpr=>⟨hcc,hp a hpr⟩) (GLe.nil _),(hc j x hj).2.2⟩⟩
 ·exact⟨he.os,he.tape,he.output,he.size,fun a u hc hpr=>⟨(he.cells a u hc hpr).1,hpr⟩,fun β hβ _=>⟨(he.blocks β hβ (hnm _)).1,hnm _⟩,fun id hid=>absurd hid (Ap0 _)⟩
 exact AgN hm' hrep (hr r O' hR) hp (fun id b hgb β off hβ=>Bt (fun hF=>(hm'.foreign _ hF).2 ⟨id,b,hgb,hβ⟩) (hnm _))
variable{m:Nat}{g:Gh}
variable {E:Env}
def AV.under(m:Nat):AV->Bool
 |.bs _ id ..|.ref id _|.tref id _|.mref id|.yld id|.nref id|.eref id ..=>decide (id<m)
 |.agg cs=>cs.attach.all fun⟨x,_⟩=>x.under m
 |.tup cs=>cs.attach.all fun⟨x,_⟩=>x.under m
 |.fn _ cs=>cs.attach.all fun⟨x,_⟩=>x.under m
 |.iface _ x=>x.under m
 |_=>true
def AeD(m:Nat)(els:List (List AV)):Prop:=∀cs∈els,∀x∈cs,x.under m=true
def WK(m:Nat):ABlk->Prop
 |.box cs _=>∀x∈cs,x.under m=true
 |.buf _ els _=>AeD m els
 |.obj _=>True
 |.tb _ _=>True
 |.mp _ _=>True
 |.lp _ _ l _ _ _=>∀p∈l,p.2.under m=true
 |.gone=>True
theorem Iq{α:Type}{l:List α}{i:Nat}{x:α}(h:l[i]?=some x)(hi:i<m):(l.take m)[i]?=some x:=by
 rw[ApK,Apb hi];exact h
theorem Ij{α:Type}{l:List α}{i:Nat}{x:α}(h:(l.take m)[i]?=some x):l[i]?=some x/\i<m:=by
 rw[ApK]at h;split at h
 ·exact⟨h,by assumption⟩
 cases h
theorem Ac4{w:World}{pr:Addr->Prop}{v:Value}{x:AV}(h:Rep w pr g v x):x.under m=true->Rep w pr (g.take m) v x:=by
 induction h with
 |junk g v=>intro _;exact .junk _ _
 |bool g b=>intro _;exact .bool _ _
 |int g k n=>intro _;exact .int _ _ _
 |str g s l h=>intro _;exact .str _ _ _ h
 |sl g a len cap full els k c hlen hcap hfull hnone hk hc hr ih=>intro _;exact .sl _ a len cap full els k c hlen hcap hfull hnone hk hc hr
 |bs g v full id tot off len b hb hx ht h ho=>intro hm;exact .bs _ _ _ _ _ _ _ b (Iq hb (by simpa [AV.under]using hm)) hx ht h ho
 |ref g id off β b hb hx hβ=>intro hm;exact .ref _ _ _ _ b (Iq hb (by simpa [AV.under]using hm)) hx hβ
 |tref g id t β b hb hx hβ ht=>intro hm;exact .tref _ _ _ _ b (Iq hb (by simpa [AV.under]using hm)) hx hβ ht
 |mref g id β b hb hx hβ=>intro hm;exact .mref _ _ _ b (Iq hb (by simpa [AV.under]using hm)) hx hβ
 |yld g id β b hb hx hβ=>intro hm;exact .yld _ _ _ b (Iq hb (by simpa [AV.under]using hm)) hx hβ
 |nref g v id b hb hx h=>intro hm;exact .nref _ _ _ b (Iq hb (by simpa [AV.under]using hm)) hx h
 |eref g v id tot i j b hb hx ht h ho=>intro hm;exact .eref _ _ _ _ _ _ b (Iq hb (by simpa [AV.under]using hm)) hx ht h ho
 |rp g a cs c hc hr ih=>intro _;exact .rp _ a cs c hc hr
 |agg g vs cs hs ho hr ih=>
  intro hm;refine .agg _ vs cs hs ho (fun i x hx=>ih i x hx ?_);simp only[AV.under,App]at hm;exact hm ⟨x,Apg hx⟩ (Aqy _ _)
 |tup g vs xs hs hr ih=>
  intro hm;refine .tup _ vs xs hs (fun i x hx=>ih i x hx ?_);simp only[AV.under,App]at hm;exact hm ⟨x,Apg hx⟩ (Aqy _ _)
 |fn g f caps xs hs hr hn ih=>
  intro hm;refine .fn _ f caps xs hs (fun i x hx=>ih i x hx ?_) hn;simp only[AV.under,App]at hm;exact hm ⟨x,Apg hx⟩ (Aqy _ _)
 |fnb g f fs xs hs hr ih=>
  intro hm;refine .fnb _ f fs xs hs (fun i x hx=>ih i x hx ?_);simp only[AV.under,App]at hm;have h2:=hm ⟨.tup xs,by simp⟩ (Aqy _ _);simp only[AV.under,App]at h2;exact h2 ⟨x,Apg hx⟩ (Aqy _ _)
 |iface g t v x hr ih=>intro hm;exact .iface _ t v x (ih (by simpa [AV.under]using hm))
 |glob g i=>intro _;exact .glob _ _
 |val g v h=>intro _;exact .val _ _ h
theorem O6{a:Addr}(h:A3 E g a):A3 E (g.take m) a:=⟨h.1,fun id b hb hβ=>h.2 id b (Ij hb).1 hβ⟩
theorem Mn{β:Nat}(h:Ft (g.take m) β):Ft g β:=by
 obtain⟨id,b,hb,hβ⟩:=h;exact⟨id,b,(Ij hb).1,hβ⟩
theorem K6{w:World}{O:Ac}(hm:Mem E w g O)(m:Nat)(hb:∀ab∈O.take m,WK m ab):Mem E w (g.take m) (O.take m):=by
 have hcell:∀a u,w.cell? a=some u->A3 E g a->w.cell? a=some u/\A3 E (g.take m) a:=fun a u hc hp=>⟨hc,O6 hp⟩
 have hrep:∀{v:Value} {x:AV},Rep w (A3 E g) g v x->x.under m=true->Rep w (A3 E (g.take m)) (g.take m) v x:=fun h hx=>(Ac4 h hx).mono hcell (GLe.refl _)
 refine⟨by simp[hm.len],?_,?_,fun a ha=>⟨(hm.foreign a ha).1,fun h=>(hm.foreign a ha).2 (Mn h)⟩,?_,hm.maps,fun i vs h=>⟨fun hh=>(hm.whole i vs h).1 (Mn hh),(hm.whole i vs h).2⟩⟩
 ·intro id b ab h1 h2;have hab:=hb ab (Apg h2);have hk:=hm.blk id b ab (Ij h1).1 (Ij h2).1;cases ab with
  |box cs ro=>
   obtain⟨k1,k2,k3,k4,k5,β,arr,t,fz,k6,k7,k8,k9,k10⟩:=hk;exact⟨k1,k2,k3,k4,k5,β,arr,t,fz,k6,k7,k8,k9,fun j x hj=>⟨hrep (k10 j x hj).1 (hab x (Apg hj)),(k10 j x hj).2⟩⟩
  |buf k els ro=>
   obtain⟨k1,k2,k3,k4,k5,k6,k7⟩:=hk;refine⟨k1,k2,k3,k4,k5,k6,fun β hβ=>?_⟩;obtain⟨arr,t,fz,g1,g2,g3,g4,g5⟩:=k7 β hβ;exact⟨arr,t,fz,g1,g2,g3,g4,fun i cs j x hi hj=>⟨hrep (g5 i cs j x hi hj).1 (hab cs (Apg hi) x (Apg hj)),(g5 i cs j x hi hj).2⟩⟩
  |obj o=>exact hk
  |mp st es=>
   obtain⟨k1,kx,ky,β,arr,cl,k2,k3,k4,k5,k6⟩:=hk;refine⟨k1,kx,ky,β,arr,cl,k2,k3,k4,k5,fun i e hi=>?_⟩;obtain⟨k,x,q1,q2,q3⟩:=k6 i e hi;exact⟨k,x,q1,q2,q3.mono hcell (GLe.refl _)⟩
  |lp y N1 l1 ps as1 bd=>
   obtain⟨k1,β,f,T,D,k2,k3,k4,k5⟩:=hk;exact⟨k1,β,f,T,D,k2,k3,k4,fun p hp=>hrep (k5 p hp) (hab p hp)⟩
  |gone=>exact hk
  |tb T l=>
   obtain⟨⟨k1,k2,k3,k4,k5,k6,k7⟩,k8⟩:=hk;refine⟨⟨k1,k2,k3,k4,k5,k6,fun β hβ=>?_⟩,k8⟩;obtain⟨arr,t,fz,g1,g2,g3,g4,g5⟩:=k7 β hβ;refine⟨arr,t,fz,g1,g2,g3,g4,fun i cs j x hi hj=>⟨hrep (g5 i cs j x hi hj).1 ?_,(g5 i cs j x hi hj).2⟩⟩;have hm1:=Apg hi;simp only[Kq,Aqz]at hm1;obtain⟨y,_,rfl⟩:=hm1;have:=Apg hj;simp only[ApQ]at this;subst this;simp[AV.under]
 ·intro i j b b' β h1 h2 e1 e2;exact hm.inj i j b b' β (Ij h1).1 (Ij h2).1 e1 e2
 intro i cs h;obtain⟨h1,h2,h3,c,hc⟩:=hm.glob i cs h;exact⟨h1,fun h=>h2 (Mn h),h3,c,fun j x hj=>⟨(hc j x hj).1,(hc j x hj).2.1.mono hcell (GLe.nil _),(hc j x hj).2.2⟩⟩
end Go.Rv
