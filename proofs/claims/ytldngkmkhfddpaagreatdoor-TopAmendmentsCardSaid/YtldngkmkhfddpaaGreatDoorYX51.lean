/-
  Part 51.
-/
import Derived.Test.YtldngkmkhfddpaaGreatDoorYX50
namespace Go.Proofs.YtldngkmkhfddpaaGreatDoor
open Go.Rv
set_option linter.unusedVariables false
set_option linter.unusedSimpArgs false
set_option maxRecDepth 8000
theorem HE(c:Ao3)(op n m:Int)(h:c.code.length<2000000000):Ar c op n m=some ((c.code.length:Int),⟨c.code++[⟨op,n,m⟩]⟩):=by
 unfold Ar;rw[Bp,Apb (Pg (by omega) (by decide))];rfl
theorem RV(c:Ao3)(p:Nat)(h:p<c.code.length):TP (AR c (p:Int)) fun r=>r.code.length=c.code.length:=by
 unfold AR;exact Dx (Au h) (A8 (Aj (by simp)))
def AhT(d:Nat)(rec_:Ao3->AoT->Option Ao3):Prop:=∀(c:Ao3) (x:AoT),Mb d x->c.code.length+4*nod d x<=1900000000->TP (rec_ c x) fun r=>c.code.length<=r.code.length/\r.code.length<=c.code.length+4*nod d x
theorem sum4{g:AoT->Nat}{l:List AoT}(h:l.length=4):(l.map g).sum=g (nth l 0)+(g (nth l 1)+(g (nth l 2)+g (nth l 3))):=by
 match l,h with
 |[a,b,c,d],_=>simp[nth]
theorem AhK{d:Nat}{rec_:Ao3->AoT->Option Ao3}(hr:AhT d rec_):AhT (d+1) (B5 rec_):=by
 intro c x h hp;obtain⟨h1,h2,h3,h4,h5,h6,h7,h8⟩:=h;have hp':c.code.length+4*(1+(x.L.map (nod d)).sum)<=1900000000:=hp;show TP _ fun r:Ao3=>_/\r.code.length<=c.code.length+4*(1+(x.L.map (nod d)).sum)
 unfold B5;refine AA (fun _=>?_) fun c1=>AA (fun _=>?_) fun c2=>AA (fun c3=>?_) fun c3=>?_
 ·rw[HE _ _ _ _ (by omega)];simp only[Ah,Bp];exact Aj (by simp;omega)
 ·rw[HE _ _ _ _ (by omega)];simp only[Ah,Bp];exact Aj (by simp;omega)
 ·have c1':x.Op≠1:=by simpa using c1
  have c2':x.Op≠2:=by simpa using c2
  have c3':x.Op=11:=by simpa using c3
  rw[Apd c1',Apd c2',Apb c3']at h5;have hl:x.L.length=4:=by omega
  rw[sum4 hl]at hp' ⊢;refine Dx (Au (k:=0) (by omega)) (AC (hr _ _ (h8 _ (AL (by omega))) (by omega)) fun r0 b0=>A8 (Dx (Au (k:=1) (by omega)) ?_));refine AC (hr _ _ (h8 _ (AL (by omega))) (by simp only;omega)) fun r1 b1=>A8 ?_
  simp only at b1;rw[HE _ _ _ _ (by simp only;omega)];simp only[Ah,Bp];rw[HE _ _ _ _ (by simp only[Apc,ApO];omega)];simp only[Ah,Bp,Apc,ApO];refine Dx (Au (k:=2) (by omega)) (AC (hr _ _ (h8 _ (AL (by omega))) (by simp only[Apc,ApO];omega)) fun r2 b2=>?_);simp only[Apc,ApO]at b2;rw[HE _ _ _ _ (by simp only;omega)];simp only[Ah];refine AC (RV _ _ (by simp only[Apc,ApO];omega)) fun r3 b3=>?_
  simp only[Apc,ApO]at b3;refine Dx (Au (k:=3) (by omega)) (AC (hr _ _ (h8 _ (AL (by omega))) (by simp only;omega)) fun r4 b4=>?_);simp only at b4;refine AC (RV _ _ (by simp only;omega)) fun r5 b5=>Aj ?_
  simp only at b5 ⊢;omega
 have c1':x.Op≠1:=by simpa using c1
 have c2':x.Op≠2:=by simpa using c2
 have c3':x.Op≠11:=by simpa using c3
 rw[Apd c1',Apd c2',Apd c3']at h5;have hl:x.L.length=2:=by omega
 rw[AmR hl]at hp' ⊢;refine Dx (Au (k:=0) (by omega)) (AC (hr _ _ (h8 _ (AL (by omega))) (by omega)) fun r0 b0=>A8 (Dx (Au (k:=1) (by omega)) ?_));refine AC (hr _ _ (h8 _ (AL (by omega))) (by simp only;omega)) fun r1 b1=>A8 ?_
 simp only at b1;rw[HE _ _ _ _ (by simp only;omega)];simp only[Ah,Bp];refine Aj ?_;simp only[Apc,ApO];omega
theorem AcA:∀d n,d<=n->AhT d (BZ n)
 |0,_,_=>fun c x h _=>h.elim
 |d+1,0,h=>by omega
 |d+1,n+1,h=>AhK (AcA d n (by omega))
theorem Nr:∀(l:List AoR) (c:Ao3) (ats:List Int),c.code.length+3*l.length<=1900000000->(∀a∈ats,∃k:Nat,a=(k:Int)/\k<c.code.length) ->TP (BJ l c ats) fun s=>s.1.code.length=c.code.length+3*l.length/\∀a∈s.2,∃k:Nat,a=(k:Int)/\k<s.1.code.length
 |[],c,ats,_,h=>Aj ⟨by simp,h⟩
 | t::l,c,ats,hl,h=>by
  simp only[Api]at hl;unfold BJ;rw[HE _ _ _ _ (by omega)];simp only[Ah];rw[HE _ _ _ _ (by simp;omega)];simp only[Ah];rw[HE _ _ _ _ (by simp;omega)];simp only[Ah];refine Amj (Nr l _ _ (by simp only[Apc,ApO];omega) fun a ha=>?_) fun s hs=>?_
  ·rcases Apx.1 ha with rfl|ha
   ·exact⟨_,rfl,by simp⟩
   obtain⟨k,e,hk⟩:=h a ha;exact⟨k,e,by simp only[Apc,ApO];omega⟩
  simp only[Apc,ApO,Api,Apy]at hs ⊢;exact⟨by omega,hs.2⟩
theorem Q8:∀(l:List Int) (c:Ao3),(∀a∈l,∃k:Nat,a=(k:Int)/\k<c.code.length)->TP (Ch l c) fun r=>r.code.length=c.code.length
 |[],c,_=>Aj rfl
 |a::l,c,h=>by
  obtain⟨k,rfl,hk⟩:=h a Apu;unfold Ch;refine AC (RV c k hk) fun r hr=>Amj (Q8 l r fun a ha=>?_) fun s hs=>hs.trans hr
  rw[hr];exact h a (ApP _ ha)
theorem Uz(c:Ao3)(x:AoU)(i:Int)(h:OkC x)(hz:nod 900000 x.Pay<=900000)(hc:c.code.length<=1000000000):TP (CB c x i) fun r=>r.code.length<=c.code.length+3600030:=by
 have hf:=h.few;unfold CB;refine Dx (by omega) (AC (Nr _ _ _ (by omega) (by simp)) fun s hs=>AC (AcA 900000 _ (by omega) s.1 x.Pay h.pay (by omega)) fun c1 h1=>?_);rw[HE _ _ _ _ (by omega)];simp only[Ah];refine Amj (Q8 _ _ fun a ha=>?_) fun r hr=>?_
 ·obtain⟨k,e,hk⟩:=hs.2 a ha;exact⟨k,e,by simp only[Apc,ApO];omega⟩
 rw[hr];simp only[Apc,ApO];omega
theorem AdH:((List.range 4097).all fun n=>decide (LM 1 (UInt64.ofInt (n:Int))=some (0,UInt64.ofInt (n:Int))/\(UInt64.ofInt (n:Int)).toNat=n/\¬UInt64.ofInt (n:Int)>9223372036854775807))=true:=by decide +kernel
theorem UY(n:Nat)(h1:1<=n)(h2:n<=4096):TP (Ep [-1] (n:Int)) fun l=>l.length=n:=by
 have hb:=AdH;rw[App]at hb;obtain⟨m1,m2,m3⟩:=AqA (hb n (ApS.2 (by omega)));have hw:w64 (n:Int)=(n:Int):=Ahn (by omega);unfold Ep;rw[Apd (by simp)];show TP ((LM (UInt64.ofInt 1) (UInt64.ofInt (n:Int))).bind _) _;rw[show UInt64.ofInt 1=1 from rfl,m1];simp only[Ah];rw[m2,hw];refine AC (Q:=fun b=>b=false) ?_ fun b hb=>?_
 ·exact AA (fun h=>by simp at h) fun _=>Aj (by simpa using m3)
 subst hb;refine AA (fun h=>by cases h) fun _=>Dx ⟨by omega,Int.le_refl _,by unfold maxLen;omega,by unfold Hv;omega⟩ (A8 (A8 (A8 ?_)))
 simp only[Apk];have e0:(ovl (List.replicate n (0:Int)) (([-1]:List Int).take (min ([-1]:List Int).length (List.replicate n (0:Int)).length)) 0).length=n:=by rw[AbG];simp
 have e1:min ([-1]:List Int).length (List.replicate n (0:Int)).length=1:=by simp;omega
 rw[e1]at e0 ⊢;refine AC (Q:=fun l=>l.length=n) (AC (Q:=fun l=>l.length=n) ?_ fun l hl=>Aj hl) fun l hl=>Aj hl
 refine AQ (fun v=>∃k:Nat,v.1=(k:Int)/\1<=k/\k<=n/\v.2.length=n) (fun v=>((n:Int)-v.1).toNat) ?_ ⟨1,rfl,by omega,h1,e0⟩ (by simp only;omega);rintro⟨_,l⟩ ⟨k,rfl,hk1,hk,hl⟩;simp only at hl ⊢;unfold Ei;refine AA (fun h=>?_) fun h=>Aj hl
 have hk':k<l.length:=by simpa using h
 have em:min (l.take (k:Int).toNat).length (l.length-(k:Int).toNat)=min k (l.length-k):=by simp only[Apk,Aqi];omega
 refine Dx (P3 (by omega)) (Dx (P3 (by omega)) (A8 (A8 (Aj ⟨⟨k+min k (l.length-k),?_,by omega,by omega,?_⟩,?_⟩))))
 ·rw[em,Hn (by omega)];omega
 ·simp only;rw[Xt];exact hl
 simp only;rw[em,Hn (by omega)];omega
theorem Z0{f:Ao1->Option Bool}(s:List Ao1)(hs:s.length<1000000)(hf:∀y∈s,YH (f y)):YH (Cx s f):=by
 unfold Cx;refine AC (Q:=fun _=>True) ?_ fun i _=>Aj trivial
 unfold DL
 refine AC (Q:=fun _=>True) (AC (Q:=fun z=>match z with
  |.inr (.inl _)=>False
  |_=>True) ?_ fun z hz=>?_) fun z _=>?_
 ·refine AQ (fun i=>∃k:Nat,i=(k:Int)/\k<=s.length) (fun i=>((s.length:Int)-i).toNat) ?_ ⟨0,rfl,Apz _⟩ (by simp;omega);rintro _ ⟨k,rfl,hk⟩;unfold CV;refine AA (fun h=>?_) fun h=>Aj trivial
  have hk':k<s.length:=by simpa using h
  refine Dx (Au hk') ?_;simp only[Apk];refine AC (hf _ (AL hk')) fun b _=>AA (fun _=>Aj trivial) fun _=>Aj ⟨⟨k+1,Bq (by omega),hk'⟩,by rw[Bq (by omega)];omega⟩
 ·match z,hz with
  |.inl (),_=>exact Aj trivial
  |.inr (.inr r),_=>exact Aj trivial
 match z with
 |.inl ()=>exact Aj trivial
 |.inr r=>exact Aj trivial
theorem AaD(op:Int):YH (EA op):=by
 unfold EA;refine AC (Q:=fun _=>True) ?_ fun b _=>AA (fun _=>Aj trivial) fun _=>AA (fun _=>Aj trivial) fun _=>AA (fun _=>Aj trivial) fun _=>Aj trivial
 exact AA (fun _=>Aj trivial) fun _=>AA (fun _=>Aj trivial) fun _=>AA (fun _=>Aj trivial) fun _=>Aj trivial
theorem W6(op:Int):YH (Hd op):=by
 unfold Hd;refine AC (Q:=fun _=>True) (AA (fun _=>Aj trivial) fun _=>Aj trivial) fun b _=>AA (fun _=>Aj trivial) fun _=>AA (fun _=>Aj trivial) fun _=>?_
 refine AC (Q:=fun _=>True) (AA (fun _=>Aj trivial) fun _=>Aj trivial) fun b _=>AA (fun _=>Aj trivial) fun _=>?_
 exact AC (Q:=fun _=>True) (AA (fun _=>Aj trivial) fun _=>Aj trivial) fun b _=>AA (fun _=>Aj trivial) fun _=>Aj trivial
theorem TO(x:Ao1):YH (Fx x):=by
 unfold Fx;refine AC (Q:=fun _=>True) ?_ fun b _=>Aj trivial
 unfold Ic;refine AC (Q:=fun _=>True) (AA (fun _=>Aj trivial) fun _=>Aj trivial) fun b _=>AA (fun _=>Aj trivial) fun _=>Aia (AaD _) fun y=>?_
 refine AC (Q:=fun _=>True) (AA (fun _=>Aj trivial) fun _=>Aj trivial) fun _ _=>AC (Q:=fun _=>True) (AA (fun _=>Aj trivial) fun _=>Aj trivial) fun _ _=>?_
 exact AC (Q:=fun _=>True) (AA (fun _=>AA (fun _=>Aj trivial) fun _=>Aj trivial) fun _=>Aj trivial) fun _ _=>Aj trivial
theorem PW{α:Type}{l:List α}{i:Nat}{x:α}:(l.set i x).length=l.length:=by simp
theorem SO(c:List Ao1)(i:Nat)(hi:i<c.length)(hc:c.length<=4096)(after:Int)(ts:List Int)(hts:ts.length<=2)(l:List Int)(hl:l.length=c.length):TP (AY (fun(v:Int×List Int)=>EN c (i:Int) after ts v.1 v.2) (0,l)) fun z=>match z with
 |.inl l'=>l'.length=c.length
 |.inr (.inr (.inr (.inr (.inr z))))=>True
 |_=>False:=by
 refine AQ (fun v=>∃k:Nat,v.1=(k:Int)/\k<=ts.length/\v.2.length=c.length) (fun v=>((ts.length:Int)-v.1).toNat) ?_ ⟨0,rfl,Apz _,hl⟩ (by simp;omega);rintro⟨_,l⟩ ⟨k,rfl,hk,hl⟩;simp only at hl;unfold EN;refine AA (fun h=>?_) fun h=>Aj hl
 have hk':k<ts.length:=by simpa using h
 refine Dx (Au hk') ?_;simp only[Apk];refine AC (Q:=fun b=>b=false->InR (nth ts k) l.length) ?_ fun b hb=>AA (fun _=>Aj trivial) fun hn=>Dx (hb (ApF hn)) (A8 (Aj ⟨⟨k+1,Bq (by omega),hk',by simp only;rw[PW];exact hl⟩,by simp only;rw[Bq (by omega)];omega⟩))
 refine AA (fun _=>Aj fun e=>by cases e) fun h1=>AA (fun _=>Aj fun e=>by cases e) fun h2=>?_
 simp only[Apw]at h1 h2;have hin:InR (nth ts k) l.length:=⟨by omega,by omega⟩;exact Dx hin (AA (fun _=>Dx hin (Aj fun _=>hin)) fun _=>Aj fun _=>hin)
theorem Vb(c:List Ao1):YH (GZ c):=by
 unfold GZ;refine AA (fun _=>Aj trivial) fun h=>?_
 have hc:c.length<=4096:=by simp only[Apw]at h;omega
 refine AC (Q:=fun b=>b=false->c.length≠0) ?_ fun b hb=>AA (fun _=>Aj trivial) fun hn=>?_
 ·refine AA (fun _=>Aj fun e=>by cases e) fun h=>?_
  have h':c.length≠0:=by simpa using h
  exact Aia (Z0 c (by omega) fun y _=>TO y) fun b=>Aj fun _=>h'
 have h0:=hb (ApF hn);refine AC (UY c.length (by omega) hc) fun l hl=>Dx (Au (k:=0) (by omega)) (A8 ?_)
 refine AC (Q:=fun _=>True) (AC (Q:=fun z=>match z with
  |.inr (.inl _)=>False
  |_=>True) ?_ fun z hz=>?_) fun z _=>?_
 ·refine AQ (fun v=>∃k:Nat,v.2.1=(k:Int)/\k<=c.length/\v.2.2.length=c.length) (fun v=>((c.length:Int)-v.2.1).toNat) ?_ ⟨0,rfl,Apz _,by rw[PW];exact hl⟩ (by simp;omega);rintro⟨st,_,l⟩ ⟨k,rfl,hk,hl⟩;simp only at hl;unfold FV;refine AA (fun h=>?_) fun h=>Aj trivial
  have hk':k<c.length:=by simpa using h
  have fin:∀z:Int×List Int,z.2.length=c.length->TP (some (.inl (z.1,w64 ((k:Int)+1),z.2)):Option ((Int×Int×List Int)⊕(Int⊕(Int⊕(Int×Int))))) fun y=>match y with
   |.inl v'=>(∃k:Nat,v'.2.1=(k:Int)/\k<=c.length/\v'.2.2.length=c.length)/\((c.length:Int)-v'.2.1).toNat<((c.length:Int)-(k:Int)).toNat
   |.inr (.inr (.inl _))=>False
   |.inr _=>True:=fun z hz=>Aj ⟨⟨k+1,Bq (by omega),hk',hz⟩,by simp only;rw[Bq (by omega)];omega⟩
  refine AC (Q:=fun z=>match z with
   |.inl z=>z.2.length=c.length
   |.inr (.inr (.inr (.inr z)))=>True
   |_=>False) ?_ fun z hz=>?_
  ·refine Dx (Au hk') (A8 (A8 (A8 (Dx (Au (show k<l.length by omega)) (AA (fun _=>Aj hl) fun _=>?_)))));refine Aia (W6 _) fun y=>A8 (A8 ?_)
   refine AC (Q:=fun _=>True) ?_ fun b _=>AA (fun _=>Aj trivial) fun _=>?_
   ·refine AA (fun _=>Aj trivial) fun _=>AA (fun _=>AA (fun _=>Aj trivial) fun _=>AA (fun _=>Aj trivial) fun _=>Aj trivial) fun _=>AA (fun _=>Aj trivial) fun _=>Aj trivial
   refine AC (Q:=fun l:List Int=>l.length<=1) (AC (Q:=fun _=>True) (AA (fun _=>Aj trivial) fun _=>Aj trivial) fun b _=>AA (fun _=>A8 (Aj (by simp))) fun _=>Aj (by simp)) fun l1 hl1=>?_
   refine AC (Q:=fun l:List Int=>l.length<=2) (AC (Q:=fun _=>True) (AA (fun _=>AA (fun _=>Aj trivial) fun _=>Aj trivial) fun _=>Aj trivial) fun b _=>AA (fun _=>Dx (Pg (by omega) (by decide)) (A8 (Aj (by simp;omega)))) fun _=>Aj (by omega)) fun l2 hl2=>?_
   refine AC (SO c k hk' hc _ l2 hl2 l hl) fun z hz=>?_
   match z,hz with
   |.inl l',hz=>exact Aj hz
   |.inr (.inr (.inr (.inr (.inr z)))),_=>exact Aj trivial
  match z,hz with
  |.inl (st',l'),hz=>exact Aj ⟨⟨k+1,Bq (by omega),hk',hz⟩,by simp only;rw[Bq (by omega)];omega⟩
  |.inr (.inr (.inr (.inr z))),_=>exact Aj trivial
 ·match z,hz with
  |.inl _,_=>exact Aj trivial
  |.inr (.inr z),_=>exact Aj trivial
 match z with
 |.inl st=>exact AA (fun _=>Aj trivial) fun _=>Aj trivial
 |.inr z=>exact Aj trivial
theorem SV{t:AoV}{n:Nat}(hz:Tz n t)(hn:n<1000000):YH (EW t):=by
 obtain⟨e,he,hk⟩:=Lq t hz hn;unfold EW;rw[he];simp only[Ah];refine AA (fun _=>Aj trivial) fun h0=>?_
 have hok:=hk (by simpa using h0);have hl:=hok.few;refine AC (Q:=fun l=>l.length<=3600030*64) (AC (Q:=fun l=>l.length<=3600030*64) ?_ fun z hz=>Aj hz) fun l hl=>?_
 ·refine AQ (fun v=>∃k:Nat,v.1=(k:Int)/\k<=t.Zf.length/\v.2.length<=3600030*k) (fun v=>((t.Zf.length:Int)-v.1).toNat) ?_ ⟨0,rfl,Apz _,by simp⟩ (by simp;omega);rintro⟨_,l⟩ ⟨k,rfl,hk,hc⟩;simp only at hc;unfold FH;refine AA (fun h=>?_) fun h=>Aj (show l.length<=_ by omega)
  have hk':k<t.Zf.length:=by simpa using h
  refine Dx (Au hk') (A8 (A8 (A8 (A8 (A8 (A8 ?_))))));simp only[Apk,ET];have hm:=AL hk';refine AC (Uz _ _ _ (hok.all _ hm) (hz.2 _ hm).2.2 (by simp only;omega)) fun r hr=>A8 (Aj ⟨⟨k+1,Bq (by omega),hk',?_⟩,by simp only;rw[Bq (by omega)];omega⟩)
  simp only at hr ⊢;omega
 rw[HE _ _ _ _ (by simp only;omega)];simp only[Ah,Bp];exact Aia (Vb _) fun y=>AA (fun _=>Aj trivial) fun _=>Aj trivial
theorem Acq(p:Ps)(before:Int):TP (DE p before) fun r=>∀t q,r=.inl (t,q)->q.l.length<p.l.length/\before≠8:=by
 unfold DE;rw[MY];simp only[Ah];rw[Rx p Ii (by decide)];simp only[Ah];cases hm:U1 p w_attributes with
 |inr e=>exact Aj fun t q h=>by cases h
 | inl a=>
  obtain⟨i,q⟩:=a;obtain⟨h1,_⟩:=Mg hm;simp only;refine AA (fun _=>Aj fun t q h=>by cases h) fun hb=>?_
  have hb':before≠8:=by simpa using hb
  rw[EI];simp only[Ah];refine AA (fun h=>?_) fun h=>?_
  ·have h2:=Le h;rw[Kv];simp only[Ah];cases hi:Ae7 (OI q [105,115]).2 with
   |inr e=>exact Aj fun t q h=>by cases h
   |inl a=>
    obtain⟨n,q2⟩:=a;have h3:=Oa hi;refine Aj fun t q' hh=>?_
    cases hh;exact⟨by simp only;omega,hb'⟩
  rw [Nv h,EF];simp only[Ah];cases he:VW q [105,110]with
  |inr e=>exact Aj fun t q h=>by cases h
  | inl q1=>
   have h2:=GL he;simp only[Kv,Ah];cases hi:Ae7 q1 with
   |inr e=>exact Aj fun t q h=>by cases h
   | inl a=>
    obtain⟨n,q2⟩:=a;have h3:=Oa hi;simp only[EF,Ah];cases he2:VW q2 [46,46]with
    |inr e=>exact Aj fun t q h=>by cases h
    | inl q3=>
     have h4:=GL he2;simp only[Kv,Ah];cases hi2:Ae7 q3 with
     |inr e=>exact Aj fun t q h=>by cases h
     |inl a=>
      obtain⟨n2,q4⟩:=a;have h5:=Oa hi2;refine Aj fun t q' hh=>?_
      cases hh;exact⟨by simp only;omega,hb'⟩
theorem WX{α:Type}{p:α->Bool}{l:List α}{k:Nat}(h:k<l.length):(l.take (k+1)).any p=((l.take k).any p||p l[k]):=by
 rw[ApD h,List.any_append,List.any_cons,List.any_nil,Bool.or_false]
theorem R9(s:List AoU)(f:AoU)(hs:s.length<1000000):TP (Bs s f) fun y=>y.1=(s.any fun b=>b.Zd==f.Zd)/\y.2.Zd=f.Zd:=by
 unfold Bs;refine AC (Q:=fun y=>(decide (y.1≥0)=s.any fun b=>b.Zd==f.Zd)/\y.2.Zd=f.Zd) ?_ fun y hy=>Aj hy
 unfold Cv
 refine AC (Q:=fun z=>match z with
  |.inl z=>(s.any fun b=>b.Zd==f.Zd)=false/\z.1=f.Zd
  |.inr y=>(decide (y.1≥0)=s.any fun b=>b.Zd==f.Zd)/\y.2.Zd=f.Zd) ?_ fun z hz=>?_
 ·refine AC (Q:=fun z=>match z with
   |.inl z=>(s.any fun b=>b.Zd==f.Zd)=false/\z.1=f.Zd
   |.inr (.inr y)=>(decide (y.1≥0)=s.any fun b=>b.Zd==f.Zd)/\y.2.Zd=f.Zd
   |_=>False) ?_ fun z hz=>?_
  ·refine AQ (fun v=>v.2.1=f.Zd/\∃k:Nat,v.1=(k:Int)/\k<=s.length/\((s.take k).any fun b=>b.Zd==f.Zd)=false) (fun v=>((s.length:Int)-v.1).toNat) ?_ ⟨rfl,0,rfl,Apz _,rfl⟩ (by simp;omega);rintro⟨_,n,a,b,c⟩ ⟨hn,k,rfl,hk,ha⟩;simp only at hn ⊢;subst hn;unfold BQ;refine AA (fun h=>?_) fun h=>Aj ?_
   ·have hk':k<s.length:=by simpa using h
    simp only[Apb (Au hk'),Apk,Dv,Ah];refine AA (fun hb=>Aj ⟨?_,rfl⟩) fun hb=>Aj ⟨⟨rfl,k+1,Bq (by omega),hk',?_⟩,by simp only;rw[Bq (by omega)];omega⟩
    ·have:(s.any fun b=>b.Zd==f.Zd)=true:=Arz.2 ⟨_,AL hk',hb⟩;rw[this];simp
    rw[WX hk',ha,<-B6 hk'];simpa using hb
   have:k=s.length:=by simp at h;omega
   subst this;rw[Ap7]at ha;exact⟨ha,rfl⟩
  match z,hz with
  |.inl z,hz=>exact Aj hz
  |.inr (.inr z),hz=>exact Aj hz
 match z,hz with
 |.inl (a,b,c,d),hz=>exact Aj ⟨by rw[hz.1];rfl,hz.2⟩
 |.inr z,hz=>exact Aj hz
theorem Ve(p:Ps)(before:List AoU)(hp:p.l.length<900000)(hb:before.length<1000000):TP (CS p before) fun r=>∀c q,r=.inl (c,q)->q.l.length<p.l.length/\c.Ze.length<=8/\Ez 900000 c.Pay:=by
 unfold CS;rw[MY];simp only[Ah,Acb];cases hn:YK p with
 |inr e=>exact Aj fun c q h=>by cases h
 | inl a=>
  obtain⟨nm,q0⟩:=a;have h0:=SL hn;simp only;refine AC (R9 before _ hb) fun y hy=>AA (fun _=>Aj fun c q h=>by cases h) fun _=>?_
  refine AC (Q:=fun z=>match z with
   |.inl z=>z.1.length<=q0.l.length/\z.2.2.length<=8
   |.inr (.inl _)=>False
   |.inr (.inr _)=>True) ?_ fun z hz=>?_
  ·rw [EI];simp only[Ah]
   refine AC (Q:=fun z=>match z with
    |.inl z=>z.1.length<=q0.l.length/\z.2.2.length<=8
    |.inr (.inr (.inr _))=>True
    |_=>False) ?_ fun z hz=>?_
   ·refine AQ (fun v=>v.2.1.length<=q0.l.length/\v.2.2.2.length<=8) (fun v=>v.2.1.length+(if v.1=true then 1 else 0)) ?_ ⟨P4,by simp⟩ ?_
    ·rintro⟨more,l,e,ts⟩ ⟨hl,ht⟩;simp only at hl ht ⊢;unfold CU;refine AA (fun hm=>?_) fun hm=>Aj ⟨hl,ht⟩
     refine AC (Acq _ _) fun r hr=>?_
     cases r with
     |inr e=>exact Aj trivial
     | inl a=>
      obtain⟨t,q⟩:=a;obtain⟨r1,r2⟩:=hr t q rfl;have r1':q.l.length<l.length:=r1;have hlt:ts.length<8:=by omega
      refine Dx ⟨by unfold maxLen;omega,by unfold Hv;omega⟩ (A8 ?_);rw[EI];simp only[Ah];refine Aj ⟨⟨?_,by simp only[Apc,ApO];omega⟩,?_⟩
      ·have:=P4 (p:=q) (s:=[97,110,100]);simp only;omega
      simp only;rw[Apb hm];by_cases ha:(OI q [97,110,100]).1=true
      ·have:=Le ha;rw[Apb ha];omega
      rw[Apd ha,Nv ha];omega
    have:=P4 (p:=q0) (s:=[119,104,101,110]);simp only;split<;>omega
   match z,hz with
   |.inl z,hz=>exact Aj hz
   |.inr (.inr (.inr z)),hz=>exact Aj hz
  match z,hz with
  |.inr (.inr z),hz=>exact Aj fun c q h=>by cases h
  | .inl (l,e,ts),hz=>
   obtain⟨hl,ht⟩:=hz;simp only at hl ht ⊢;rw[EF];simp only[Ah];cases he:VW ⟨l,e⟩ [112,97,121]with
   |inr e=>exact Aj fun c q h=>by cases h
   | inl q1=>
    have h1:=GL he;have h1':q1.l.length+1=l.length:=h1;simp only[MY,Ah];refine AC (Ac1 q1 (by omega)) fun r hr=>?_
    cases r with
    |inr e=>exact Aj fun c q h=>by cases h
    | inl a=>
     obtain⟨x,q2⟩:=a;obtain⟨r1,r2⟩:=hr x q2 rfl;simp only;refine AC (JW _ x _ r2.1 (by omega) (by omega)) fun k hk=>AA (fun _=>Aj fun c q h=>by cases h) fun _=>?_
     rw[EF];simp only[Ah];cases he2:VW q2 [59]with
     |inr e=>exact Aj fun c q h=>by cases h
     |inl q3=>
      have h2:=GL he2;refine Aj fun c q h=>?_
      cases h;exact⟨by omega,ht,r2.mono (by omega)⟩
theorem AaF(toks:List AoP)(e:Int)(at0:Int)(h:toks.length<900000):TP (AY (fun(v:Int×List AoP×Int×List AoU)=>ER v.1 v.2.1 v.2.2.1 v.2.2.2) (at0,toks,e,[])) fun z=>match z with
  |.inl z=>z.2.2.length<=64/\(∀c∈z.2.2,c.Ze.length<=8/\Ez 900000 c.Pay)/\z.1.length<900000
  |.inr (.inr y)=>y.1.Zf=[]
  |_=>False:=by
 refine AQ (fun v=>v.2.1.length<900000/\v.2.2.2.length<=64/\∀c∈v.2.2.2,c.Ze.length<=8/\Ez 900000 c.Pay) (fun v=>v.2.1.length) ?_ ⟨h,by simp,by simp⟩ (by simp only;omega);rintro⟨a,l,e,cs⟩ ⟨hl,hc,hw⟩;simp only at hl hc hw ⊢;unfold ER;rw[EI];simp only[Ah];refine AA (fun ha=>?_) fun ha=>Aj ⟨hc,hw,?_⟩
 ·have h1:=Le ha;have h1':(OI ⟨l,e⟩ [99,108,97,117,115,101]).2.l.length+1=l.length:=h1;refine AA (fun _=>Aj rfl) fun h64=>?_
  have hc':cs.length≠64:=by
   intro e0;rw[e0]at h64;exact h64 rfl
  refine AC (Ve _ cs (by omega) (by omega)) fun r hr=>?_
  cases r with
  |inr e=>exact Aj rfl
  | inl b=>
   obtain⟨c,q⟩:=b;obtain⟨r1,r2⟩:=hr c q rfl;refine Dx ⟨by unfold maxLen;omega,by unfold Hv;omega⟩ (A8 ?_);rw[MY];simp only[Ah];refine Aj ⟨⟨by simp only;omega,by simp only[Apc,ApO];omega,fun c' hc'=>?_⟩,by simp only;omega⟩;simp only at hc';rcases Aps.1 hc' with hh|hh
   ·exact hw c' hh
   simp only[ApQ]at hh;subst hh;exact r2
 have:=P4 (p:=⟨l,e⟩) (s:=[99,108,97,117,115,101]);have h1':(OI ⟨l,e⟩ [99,108,97,117,115,101]).2.l.length<=l.length:=this;simp only;omega
theorem F4{y:AoV}(h:y.Zf=[]):Tz 64 y:=⟨by rw[h];simp,by rw[h];simp⟩
theorem Wi(src:List UInt8)(hs:src.length<=2000):TP (EM src) fun y=>Tz 64 y.1:=by
 obtain⟨l,e,ht⟩:=Rt.total src.length src false 0 (Apm _);have htok:=Acr ht hs;have hlen:=ht.len;unfold EM
 have key:∀r,C8 src=some r->Tz 64 r.1:=by
  intro r hr;unfold C8 at hr;rw[htok]at hr;simp only[Ah]at hr;split at hr
  ·cases hr;exact F4 rfl
  cases hr
 cases he:C8 src with
 |some r=>exact Aj (key r he)
 | none =>
  have he':¬((res l e).2.2 != 0)=true:=by
   intro hc;unfold C8 at he;rw[htok]at he;simp only[Ah]at he;rw[Apb hc]at he;cases he
  have hl:(res l e).1.length<900000:=by
   cases e with
   |none=>show l.length<_;omega
   |some q=>show([]:List AoP).length<_;simp
  show TP (F2 src) _;unfold F2;rw[htok];simp only[Ah];rw[Apd he',EF];simp only[Ah];cases h1:VW ⟨(res l e).1,(src.length:Int)⟩ [116,97,114,105,102,102]with
  |inr e=>exact Aj (F4 rfl)
  | inl q1 =>
   have g1:=GL h1;have g1':q1.l.length+1=(res l e).1.length:=g1;simp only[Acb,Ah];cases h2:YK q1 with
   |inr e=>exact Aj (F4 rfl)
   | inl a =>
    obtain⟨nm,q2⟩:=a;have g2:=SL h2;simp only[EF,Ah];cases h3:VW q2 [102,111,114]with
    |inr e=>exact Aj (F4 rfl)
    | inl q3=>
     have g3:=GL h3;simp only;rw[Rx q3 ZU (by decide)];simp only[Ah];cases h4:U1 q3 w_kinds with
     |inr e=>exact Aj (F4 rfl)
     | inl a=>
      obtain⟨i,q4⟩:=a;have g4:=Mg h4;simp only[EF,Ah];cases h5:VW q4 [123]with
      |inr e=>exact Aj (F4 rfl)
      | inl q5=>
       have g5:=GL h5;simp only[MY,Ah]
       refine AC (Q:=fun z=>match z with
        |.inl z=>z.2.2.length<=64/\(∀c∈z.2.2,c.Ze.length<=8/\Ez 900000 c.Pay)/\z.1.length<900000
        |.inr y=>y.1.Zf=[]) (AC (AaF q5.l q5.end_ _ (by omega)) fun z hz=>?_) fun z hz=>?_
       ·match z,hz with
        |.inl z,hz=>exact Aj hz
        |.inr (.inr z),hz=>exact Aj hz
       match z,hz with
       |.inr z,hz=>exact Aj (F4 hz)
       | .inl (l6,e6,cs),hz=>
        simp only[EF,Ah];cases h6:VW ⟨l6,e6⟩ [125]with
        |inr e=>exact Aj (F4 rfl)
        | inl q7=>
         simp only
         refine AC (Q:=fun z=>match z with
          |.inl ()=>True
          |.inr y=>y.1.Zf=[]) (AA (fun _=>?_) fun _=>Aj trivial) fun z hz'=>?_
         ·rw[Mj];exact Aj rfl
         match z,hz' with
         |.inl (),_=>exact Aj ⟨hz.1,hz.2.1⟩
         |.inr z,hz'=>exact Aj (F4 hz')
theorem Y5(src:List UInt8):TP (EM src) fun y=>Tz 64 y.1:=by
 by_cases hs:src.length<=2000
 ·exact Wi src hs
 have htok:=V6 (src:=src) (by omega);unfold EM
 have he:C8 src=some ({ Zd:=[],For:=0,Zf:=[] },0,2):=by
  unfold C8;rw[htok];rfl
 rw[he];exact Aj (F4 rfl)
theorem MH{α:Type}[Inhabited α]{n:Nat}{a:Arr α n}{i j:Nat}{x:α}(hj:j<n):(a.set i x).get j=if i=j then x else a.get j:=by
 have h:j<a.l.length:=by rw[a.h];exact hj
 simp only[Arr.get,Arr.set,nth];rw[Apt,ApV];by_cases e:i=j
 ·subst e;simp[h]
 simp[e,Apt]
def Fo(lo hi V:Arr Int 16):Prop:=∀a,a<16->lo.get a<=V.get a/\V.get a<=hi.get a
theorem AbZ{lo hi V:Arr Int 16}{k:Nat}{a b:Int}(hk:k<16):Fo (lo.set k (Qk (lo.get k) a)) (hi.set k (Qc (hi.get k) b)) V↔Fo lo hi V/\(a<=V.get k/\V.get k<=b):=by
 constructor
 ·intro h;have hk':=h k hk;rw[MH hk,MH hk,Apb rfl,Apb rfl]at hk';unfold Qk Qc at hk';refine⟨fun j hj=>?_,by split at hk'<;>split at hk'<;>omega⟩;by_cases e:k=j
  ·subst e;split at hk'<;>split at hk'<;>omega
  have:=h j hj;rw[MH hj,MH hj,Apd e,Apd e]at this;exact this
 rintro⟨h,h1,h2⟩ j hj;rw[MH hj,MH hj];by_cases e:k=j
 ·subst e;rw[Apb rfl,Apb rfl];have:=h k hk;unfold Qk Qc;split<;>split<;>omega
 rw[Apd e,Apd e];exact h j hj
def boxAll:AoQ:=⟨Arr.rep 16 0,Arr.rep 16 9007199254740992⟩
theorem Aky:tbox_all=some boxAll:=by decide +kernel
theorem Aiw(b:AoQ)(t:AoR)(h0:0<=t.Attr)(h1:t.Attr<16):GV b t=some ⟨b.low.set t.Attr.toNat (Qk (b.low.get t.Attr.toNat) t.Low),b.high.set t.Attr.toNat (Qc (b.high.get t.Attr.toNat) t.Zc)⟩:=by
 have hi:InR t.Attr 16:=⟨h0,by omega⟩;unfold GV;simp only[Apb hi,Bp]
theorem Uj(b c:AoQ):TP (ES b c) fun r=>(∀V,Fo r.1.low r.1.high V↔Fo b.low b.high V/\Fo c.low c.high V)/\(r.2=false->∀V,¬(Fo b.low b.high V/\Fo c.low c.high V)):=by
 unfold ES;refine AC (Q:=fun q=>(∀V,Fo q.2.1 q.2.2 V↔Fo b.low b.high V/\Fo c.low c.high V)/\(q.1=false->∀V,¬(Fo b.low b.high V/\Fo c.low c.high V))) ?_ fun q hq=>Aj hq
 refine AC (Q:=fun q=>(∀V,Fo q.2.1 q.2.2 V↔Fo b.low b.high V/\Fo c.low c.high V)/\(q.1=false->∀V,¬(Fo b.low b.high V/\Fo c.low c.high V))) ?_ fun q hq=>Aj hq
 refine AQ (fun v=>∃k:Nat,v.2.1=(k:Int)/\k<=16/\(∀V,Fo v.2.2.1 v.2.2.2 V↔Fo b.low b.high V/\∀a,a<k->c.low.get a<=V.get a/\V.get a<=c.high.get a)/\(v.1=false->∀V,¬Fo v.2.2.1 v.2.2.2 V)) (fun v=>(16-v.2.1).toNat) ?_ ⟨0,rfl,by omega,fun V=>⟨fun h=>⟨h,fun a ha=>by omega⟩,fun h=>h.1⟩,fun e=>by cases e⟩ (by simp);rintro⟨s,_,lo,hi⟩ ⟨k,rfl,hk,hV,hs⟩;simp only at hV hs ⊢;unfold FE;refine AA (fun h=>?_) fun h=>Aj ?_
 ·have hk':k<16:=by simp at h;omega
  have hin:InR (k:Int) 16:=Au hk';simp only[Apb hin,Bp,Apk];refine AC (Q:=fun s'=>s'=(s&&decide ((lo.set k (Qk (lo.get k) (c.low.get k))).get k<=(hi.set k (Qc (hi.get k) (c.high.get k))).get k))) ?_ fun s' hs'=>Aj ⟨⟨k+1,Bq (by omega),hk',fun V=>?_,fun e V hin=>?_⟩,?_⟩
  ·cases s with
   |true=>exact AA (fun _=>Aj (by simp)) fun h=>(h rfl).elim
   |false=>exact AA (fun h=>by cases h) fun _=>Aj rfl
  ·simp only;rw[AbZ hk',hV];constructor
   ·rintro⟨⟨h1,h2⟩,h3⟩;refine⟨h1,fun a ha=>?_⟩;by_cases e:a<k
    ·exact h2 a e
    have:a=k:=by omega
    subst this;exact h3
   rintro⟨h1,h2⟩;exact⟨⟨h1,fun a ha=>h2 a (by omega)⟩,h2 k (by omega)⟩
  ·simp only at e hin;rw[hs']at e;cases s with
   |false=>exact hs rfl V ((AbZ hk').1 hin).1
   |true=>
    have h1:=hin k hk';simp at e;omega
  simp only;rw[Bq (by omega)];omega
 have:k=16:=by simp at h;omega
 subst this;refine⟨fun V=>(hV V).trans ⟨fun h=>⟨h.1,fun a ha=>h.2 a ha⟩,fun h=>⟨h.1,fun a ha=>h.2 a ha⟩⟩,fun e V hh=>hs e V ((hV V).2 ⟨hh.1,fun a ha=>hh.2 a ha⟩)⟩
def QV(c:AoU)(V:Arr Int 16):Prop:=∀t∈c.Ze,t.Low<=V.get t.Attr.toNat/\V.get t.Attr.toNat<=t.Zc
def OZ(c:AoU):Prop:=∀t∈c.Ze,0<=t.Attr/\t.Attr<16
abbrev OfP(c:AoU)(r:AoQ×Bool):Prop:=r.2=true->OZ c/\∀V,Fo r.1.low r.1.high V↔Fo boxAll.low boxAll.high V/\QV c V
theorem AaC(c:AoU)(hl:c.Ze.length<1000000):TP (HF c) (OfP c):=by
 unfold HF;rw[Aky];show TP (((AY _ _).bind _:Option _).bind _) _
 refine AC (Q:=fun z=>match z with
  |.inl (lo,hi)=>OZ c/\∀V,Fo lo hi V↔Fo boxAll.low boxAll.high V/\QV c V
  |.inr r=>r.2=false) ?_ fun z hz=>?_
 ·refine AC (Q:=fun z=>match z with
   |.inl (lo,hi)=>OZ c/\∀V,Fo lo hi V↔Fo boxAll.low boxAll.high V/\QV c V
   |.inr (.inl _)=>False
   |.inr (.inr r)=>r.2=false) ?_ fun z hz=>?_
  ·refine AQ (fun v=>∃k:Nat,v.1=(k:Int)/\k<=c.Ze.length/\(∀t∈c.Ze.take k,0<=t.Attr/\t.Attr<16)/\∀V,Fo v.2.1 v.2.2 V↔Fo boxAll.low boxAll.high V/\∀t∈c.Ze.take k,t.Low<=V.get t.Attr.toNat/\V.get t.Attr.toNat<=t.Zc) (fun v=>((c.Ze.length:Int)-v.1).toNat) ?_
    ⟨0,rfl,Apz _,by simp,fun V=>⟨fun h=>⟨h,by simp⟩,fun h=>h.1⟩⟩ (by simp;omega)
   rintro⟨_,lo,hi⟩ ⟨k,rfl,hk,hA,hV⟩;simp only at hV ⊢;unfold KB;refine AA (fun h=>?_) fun h=>Aj ?_
   ·have hk':k<c.Ze.length:=by simpa using h
    simp only[Apb (Au hk'),Bp,Apk];generalize ht:nth c.Ze k=t;have htk:c.Ze.take (k+1)=c.Ze.take k++[t]:=by rw[ApD hk',<-B6 hk',ht]
    refine AC (Q:=fun b=>b=false->0<=t.Attr/\t.Attr<16) (AA (fun _=>Aj fun e=>by cases e) fun h=>Aj fun e=>?_) fun b hb=>AA (fun h=>Aj rfl) fun h=>?_
    ·simp at h e;omega
    obtain⟨h0,h1⟩:=hb (by simpa using h);rw[Aiw _ _ h0 h1];refine Aj ⟨⟨k+1,Bq (by omega),hk',?_,fun V=>?_⟩,by simp only;rw[Bq (by omega)];omega⟩
    ·intro t' ht';rw[htk]at ht';rcases Aps.1 ht' with h|h
     ·exact hA t' h
     simp only[ApQ]at h;subst h;exact⟨h0,h1⟩
    simp only;rw[AbZ (by omega),hV,htk];simp only[Aps,ApQ];constructor
    ·rintro⟨⟨a1,a2⟩,a3⟩;refine⟨a1,fun t' h=>?_⟩;rcases h with h|rfl
     ·exact a2 t' h
     exact a3
    rintro⟨a1,a2⟩;exact⟨⟨a1,fun t' h=>a2 t' (.inl h)⟩,a2 t (.inr rfl)⟩
   have:k=c.Ze.length:=by simp at h;omega
   subst this;rw[Ap7]at hA hV;exact⟨hA,hV⟩
  match z,hz with
  |.inl (lo,hi),hz=>exact Aj hz
  |.inr (.inr r),hz=>exact Aj hz
 match z,hz with
 |.inl (lo,hi),hz=>
  refine AC (Uj _ _) fun r hr=>AA (fun _=>Aj fun _=>⟨hz.1,fun V=>?_⟩) fun _=>Aj fun e=>by cases e
  rw[hr.1];exact⟨fun h=>(hz.2 V).1 h.1,fun h=>⟨(hz.2 V).2 h,(hz.2 V).2 h⟩⟩
 |.inr r,hz=>exact Aj fun e=>by rw[hz]at e;cases e
theorem AfI(c:AoU):({ Zd:=c.Zd,Ze:=c.Ze,Pay:=AoT.mk c.Pay.Op c.Pay.N c.Pay.Unit c.Pay.L }:AoU)=c:=ET c
abbrev AaR(c:AoU)(r:AoQ×Bool):Prop:=HF c=some r/\OfP c r
theorem AeN(c:AoU)(hl:c.Ze.length<1000000):TP (HF c) (AaR c):=by
 obtain⟨r,e,h⟩:=AaC c hl;exact⟨r,e,e,h⟩
abbrev Aed(t:AoV):Prop:=t.Zf.length<=64/\∀c∈t.Zf,c.Ze.length<1000000
theorem Yy(t:AoV)(hs:Aed t)(l1:List AoQ)(l2:List Bool)(h1:l1.length=t.Zf.length)(h2:l2.length=t.Zf.length) :TP (AY (fun(v:Int×List AoQ×List Bool)=>EH t v.1 v.2.1 v.2.2) (0,l1,l2)) fun r=>r.1.length=t.Zf.length/\r.2.length=t.Zf.length/\∀k,k<t.Zf.length->AaR (nth t.Zf k) (nth r.1 k,nth r.2 k):=by
 refine AQ (fun v=>∃k:Nat,v.1=(k:Int)/\k<=t.Zf.length/\v.2.1.length=t.Zf.length/\v.2.2.length=t.Zf.length/\∀j,j<k->AaR (nth t.Zf j) (nth v.2.1 j,nth v.2.2 j)) (fun v=>((t.Zf.length:Int)-v.1).toNat) ?_ ⟨0,rfl,Apz _,h1,h2,fun j hj=>by omega⟩ (by have:=hs.1;simp;omega);rintro⟨_,m1,m2⟩ ⟨k,rfl,hk,e1,e2,hj⟩;simp only at e1 e2 hj ⊢;unfold EH;have h64:=hs.1;refine AA (fun h=>?_) fun h=>Aj ?_
 ·have hk':k<t.Zf.length:=by simpa using h
  simp only[Apb (Au hk'),Bp,Apk,AfI];refine AC (AeN _ (hs.2 _ (AL hk'))) fun r hr=>Dx (Au (by omega)) (Dx (Au (by omega)) (Aj ⟨⟨k+1,Bq (by omega),hk',by simp[e1],by simp[e2],fun j hj'=>?_⟩,by simp only;rw[Bq (by omega)];omega⟩))
  by_cases e:k=j
  ·subst e;have q1:nth (m1.set k r.1) k=r.1:=by simp[nth,e1,hk']
   have q2:nth (m2.set k r.2) k=r.2:=by simp[nth,e2,hk']
   rw[q1,q2];exact hr
  have q1:nth (m1.set k r.1) j=nth m1 j:=by simp[nth,ApV,e]
  have q2:nth (m2.set k r.2) j=nth m2 j:=by simp[nth,ApV,e]
  rw[q1,q2];exact hj j (by omega)
 have:k=t.Zf.length:=by simp at h;omega
 subst this;exact⟨e1,e2,hj⟩
abbrev OC(l1:List AoQ)(l2:List Bool)(i j:Nat):Prop:=nth l2 i=true->nth l2 j=true->∀V,¬(Fo (nth l1 i).low (nth l1 i).high V/\Fo (nth l1 j).low (nth l1 j).high V)
theorem YJ(l1:List AoQ)(l2:List Bool)(n:Nat)(hn:n<=64)(e1:l1.length=n)(e2:l2.length=n)(i:Nat)(hi:i<n) :TP (AY (fun(v:Int)=>EL l1 l2 (i:Int) v) ((i+1:Nat):Int)) fun z=>match z with
   |.inl ()=>∀j,i<j->j<n->OC l1 l2 i j
   |.inr (.inr (.inr (.inr (.inr r))))=>r.2.2.2=true
   |_=>False:=by
 refine AQ (fun v=>∃k:Nat,v=(k:Int)/\k<=n/\∀j,i<j->j<k->OC l1 l2 i j) (fun v=>((n:Int)-v).toNat) ?_ ⟨i+1,rfl,hi,fun j h1 h2=>by omega⟩ (by omega);rintro _ ⟨k,rfl,hk,hj⟩;unfold EL;refine AA (fun h=>?_) fun h=>Aj ?_
 ·have hk':k<n:=by simp at h;omega
  refine Dx (Au (by omega)) (Dx (Au (by omega)) (AC (Uj _ _) fun r hr=>?_));simp only[Apk]at hr ⊢;refine AC (Q:=fun b=>b=(r.2&&(nth l2 i&&nth l2 k))) ?_ fun b hb=>?_
  ·refine AA (fun h=>Dx (Au (by omega)) (AA (fun h'=>Dx (Au (by omega)) (Aj ?_)) fun h'=>Aj ?_)) fun h=>Aj ?_
   ·rw[h,h'];simp
   ·rw[h,ApF h'];simp
   rw[ApF h];simp
  refine AA (fun _=>?_) fun hnb=>?_
  ·exact Aj rfl
  refine Aj ⟨⟨k+1,Bq (by omega),hk',fun j h1 h2=>?_⟩,by rw[Bq (by omega)];omega⟩;by_cases e:j<k
  ·exact hj j h1 e
  have:j=k:=by omega
  subst this;intro s1 s2 V hV;have hbf:b=false:=ApF hnb;rw[hb,s1,s2]at hbf;simp at hbf;exact hr.2 hbf V hV
 have:k=n:=by simp at h;omega
 subst this;exact hj
theorem U6(t:AoV)(hs:Aed t):TP (GS t) fun r=>r.2.2.2=false->∃l1 l2,(∀k,k<t.Zf.length->AaR (nth t.Zf k) (nth l1 k,nth l2 k))/\∀i j,i<j->j<t.Zf.length->OC l1 l2 i j:=by
 unfold GS;have h64:=hs.1;refine Dx ⟨by omega,by omega,by unfold maxLen;omega,by unfold Hv;omega⟩ (A8 (Dx ⟨by omega,by omega,by unfold maxLen;omega,by unfold Hv;omega⟩ (A8 ?_)));refine AC (Q:=fun r=>r.1.length=t.Zf.length/\r.2.length=t.Zf.length/\∀k,k<t.Zf.length->AaR (nth t.Zf k) (nth r.1 k,nth r.2 k)) (AC (Yy t hs _ _ (by simp) (by simp)) fun r hr=>Aj hr) ?_;rintro⟨l1,l2⟩ ⟨e1,e2,hk⟩;simp only at e1 e2 hk ⊢
 refine AC (Q:=fun z=>match z with
  |.inl ()=>∀i j,i<j->j<t.Zf.length->OC l1 l2 i j
  |.inr r=>r.2.2.2=true) ?_ fun z hz=>?_
 ·refine AC (Q:=fun z=>match z with
   |.inl ()=>∀i j,i<j->j<t.Zf.length->OC l1 l2 i j
   |.inr (.inr r)=>r.2.2.2=true
   |_=>False) ?_ fun z hz=>?_
  ·refine AQ (fun v=>∃k:Nat,v=(k:Int)/\k<=t.Zf.length/\∀i j,i<k->i<j->j<t.Zf.length->OC l1 l2 i j) (fun v=>((t.Zf.length:Int)-v).toNat) ?_ ⟨0,rfl,Apz _,fun i j h=>by omega⟩ (by simp;omega);rintro _ ⟨k,rfl,hkk,hij⟩;unfold FX;refine AA (fun h=>?_) fun h=>Aj ?_
   ·have hk':k<t.Zf.length:=by simp at h;omega
    rw[Bq (by omega)]
    refine AC (Q:=fun z=>match z with
     |.inl ()=>∀j,k<j->j<t.Zf.length->OC l1 l2 k j
     |.inr (.inr (.inr (.inr r)))=>r.2.2.2=true
     |_=>False) (AC (YJ l1 l2 _ h64 e1 e2 k hk') fun z hz=>?_) fun z hz=>?_
    ·match z,hz with
     |.inl (),hz=>exact Aj hz
     |.inr (.inr (.inr (.inr (.inr r)))),hz=>exact Aj hz
    match z,hz with
    | .inl (),hz=>
     refine Aj ⟨⟨k+1,rfl,hk',fun i j h1 h2 h3=>?_⟩,by omega⟩;by_cases e:i<k
     ·exact hij i j e h2 h3
     have:i=k:=by omega
     subst this;exact hz j h2 h3
    |.inr (.inr (.inr (.inr r))),hz=>exact Aj hz
   have:k=t.Zf.length:=by simp at h;omega
   subst this;exact fun i j h1 h2=>hij i j (by omega) h1 h2
  match z,hz with
  |.inl (),hz=>exact Aj hz
  |.inr (.inr r),hz=>exact Aj hz
 match z,hz with
 |.inl (),hz=>exact Aj fun _=>⟨l1,l2,hk,hz⟩
 |.inr r,hz=>exact Aj fun e=>by rw[hz]at e;cases e
theorem Ye(t:AoV)(hs:Aed t):TP (E1 t) fun e=>e=0->(∀c∈t.Zf,OZ c)/\∀i j,i<j->j<t.Zf.length->∀V,Fo boxAll.low boxAll.high V->¬(QV (nth t.Zf i) V/\QV (nth t.Zf j) V):=by
 unfold E1;have h64:=hs.1
 refine AC (Q:=fun z=>match z with
  |.inl ()=>∀c∈t.Zf,∃b,HF c=some (b,true)
  |.inr e=>e=190) ?_ fun z hz=>?_
 ·refine AC (Q:=fun z=>match z with
   |.inl ()=>∀c∈t.Zf,∃b,HF c=some (b,true)
   |.inr (.inr e)=>e=190
   |_=>False) ?_ fun z hz=>?_
  ·refine AQ (fun v=>∃k:Nat,v=(k:Int)/\k<=t.Zf.length/\∀c∈t.Zf.take k,∃b,HF c=some (b,true)) (fun v=>((t.Zf.length:Int)-v).toNat) ?_ ⟨0,rfl,Apz _,by simp⟩ (by simp;omega);rintro _ ⟨k,rfl,hk,hc⟩;unfold Hx;refine AA (fun h=>?_) fun h=>Aj ?_
   ·have hk':k<t.Zf.length:=by simpa using h
    simp only[Apb (Au hk'),Bp,Apk,AfI];obtain⟨r,er,_⟩:=AaC _ (hs.2 _ (AL hk'));rw[er];refine AA (fun h=>Aj rfl) fun h=>Aj ⟨⟨k+1,Bq (by omega),hk',fun c hc'=>?_⟩,by rw[Bq (by omega)];omega⟩
    rw[ApD hk',<-B6 hk']at hc';rcases Aps.1 hc' with h'|h'
    ·exact hc c h'
    simp only[ApQ]at h';subst h';have:r.2=true:=by simpa using h
    exact⟨r.1,by rw[er,<-this]⟩
   have:k=t.Zf.length:=by simp at h;omega
   subst this;rw[Ap7]at hc;exact hc
  match z,hz with
  |.inl (),hz=>exact Aj hz
  |.inr (.inr r),hz=>exact Aj hz
 match z,hz with
 |.inr e,hz=>exact Aj fun e0=>by rw[hz]at e0;cases e0
 | .inl (),hz=>
  refine AC (U6 t hs) fun r hr=>AA (fun _=>Aj fun e=>by cases e) fun h=>Aj fun _=>?_
  obtain⟨l1,l2,hof,hap⟩:=hr (ApF h)
  have key:∀k,k<t.Zf.length->nth l2 k=true/\OZ (nth t.Zf k)/\∀V,Fo (nth l1 k).low (nth l1 k).high V↔Fo boxAll.low boxAll.high V/\QV (nth t.Zf k) V:=by
   intro k hk;obtain⟨b,hb⟩:=hz _ (AL hk);obtain⟨e,ho⟩:=hof k hk;rw[hb]at e;have e2:=Ap2 Prod.snd (Ao8 e);exact⟨e2.symm,ho e2.symm⟩
  refine⟨fun c hc=>?_,fun i j hij hj V hV hh=>?_⟩
  ·obtain⟨k,hk,rfl⟩:=Ap3 hc;rw[<-B6 hk];exact(key k hk).2.1
  obtain⟨s1,_,i1⟩:=key i (by omega);obtain⟨s2,_,i2⟩:=key j hj;exact hap i j hij hj s1 s2 V ⟨(i1 V).2 ⟨hV,hh.1⟩,(i2 V).2 ⟨hV,hh.2⟩⟩
structure Ok(t:AoV):Prop where
  all:B7 t=some 0
  chk:Da t=some 0
  form:OkT t
  prt:DY t=some (pr t,0)
  short:(pr t).length<=2000
  box:E1 t=some 0
  comp:∃c,EW t=some (c,0)
theorem Sa{t:AoV}{n:Nat}(hz:Tz n t)(hn:n<1000000):TP (B7 t) fun e=>e=0->Ok t:=by
 obtain⟨⟨s,e1⟩,p1,p2⟩:=Z4 hz hn;obtain⟨⟨k,e2⟩,q1,_⟩:=Aah hz hn;obtain⟨⟨c,e4⟩,r1,_⟩:=SV hz hn;simp only at p2
 have hf:TP (B7 t) fun e=>e=0->e1=0/\B7 t=some 0/\E1 t=some 0/\e4=0:=by
  have hg:TP (B7 t) fun e=>e=0->e1=0/\E1 t=some 0/\e4=0:=by
   unfold B7 BO FD F8 FC FB;rw[p1,q1,r1];simp only[Ah]
   refine AC (Q:=fun e=>e=0->e1=0/\E1 t=some 0/\e4=0) (AC (Q:=fun z=>match z with
    |.inl ()=>e1=0/\E1 t=some 0/\e4=0
    |.inr e=>e≠0) ?_ fun z hz=>?_) fun z hz=>Aj hz
   ·refine AA (fun h=>Aj (by simpa using h)) fun h1=>?_
    have h1':e1=0:=by simpa using h1
    obtain⟨p3,p4,p5,p6⟩:=p2 h1';refine AA (fun h=>Aj (by simpa using h)) fun h2=>?_
    have hsm:Aed t:=⟨p4.few,fun c hc=>by have:=(p4.all c hc).few;omega⟩;obtain⟨e3,b1,_⟩:=Ye t hsm;rw[b1];simp only[Ah];refine AA (fun h=>Aj (by simpa using h)) fun h3=>?_
    have h3':e3=0:=by simpa using h3
    subst h3';refine AA (fun h=>Aj (by simpa using h)) fun h4=>Aj ⟨h1',rfl,by simpa using h4⟩
   match z,hz with
   |.inl (),hz=>exact Aj fun _=>hz
   |.inr e,hz=>exact Aj fun h=>absurd h hz
  obtain⟨e,he,hk⟩:=hg;refine⟨e,he,fun h0=>?_⟩;obtain⟨k1,k2,k3⟩:=hk h0;exact⟨k1,by rw[he,h0],k2,k3⟩
 obtain⟨e,he,hk⟩:=hf;refine⟨e,he,fun h0=>?_⟩;obtain⟨k1,k2,k3,k4⟩:=hk h0;obtain⟨p3,p4,p5,p6⟩:=p2 k1;exact⟨k2,p3,p4,by rw[p1,p5,k1],p6,k3,c,by rw[r1,k4]⟩
def tz0:AoV:={ Zd:=[],For:=0,Zf:=[] }
theorem HJ{n:Nat}:Tz n tz0:=⟨Apz _,by simp[tz0]⟩
def Anh(kind:Int)(y:AoV×Int):Prop:=Tz 64 y.1/\(y.2=0->Ok y.1/\y.1.For=kind/\1<=kind/\kind<=6)
theorem M5(src:List UInt8)(kind:Int):TP (D3 src kind) (Anh kind):=by
 unfold D3;refine AC (Q:=fun b=>b=false->1<=kind/\kind<=6) ?_ fun b hb=>AA (fun _=>Aj ⟨HJ,fun h=>by cases h⟩) fun hn=>?_
 ·refine AA (fun _=>Aj fun e=>by cases e) fun h=>Aj fun e=>?_
  simp only[Apw,ApA]at h e;omega
 have hk:=hb (ApF hn);refine AC (Y5 src) fun y hy=>?_
 refine AC (Q:=fun e=>e=0->y.1.For=kind) ?_ fun e he=>?_
 ·refine AC (Q:=fun b=>b=false->y.2.2=0->y.1.For=kind) ?_ fun b hb=>AA (fun _=>Aj fun e=>by cases e) fun hn=>Aj fun e=>hb (ApF hn) e
  exact AA (fun _=>Aj fun e _=>by simpa using e) fun h=>Aj fun _ e=>absurd e (by simpa using h)
 refine AC (Q:=fun e=>e=0->Ok y.1/\y.1.For=kind) ?_ fun e2 he2=>AA (fun _=>Aj ⟨HJ,fun h=>?_⟩) fun hn=>Aj ⟨hy,fun _=>⟨(he2 (by simpa using hn)).1,(he2 (by simpa using hn)).2,hk⟩⟩
 ·refine AA (fun h=>AC (Sa hy (by omega)) fun e3 h3=>Aj fun h0=>⟨h3 h0,he (by simpa using h)⟩) fun h=>Aj fun h0=>absurd h0 (by simpa using h)
 rename_i hne;exact absurd h (by simpa using hne)
theorem Kp(x y:Int):TP (DH x y) fun r=>(x<y->r=-1)/\(y<x->r=1):=by
 unfold DH Hb;simp only[Ah,bne_self_eq_false,ApC,Ap5];refine AA (fun h=>Aj ?_) fun h=>AA (fun h2=>Aj ?_) fun h2=>Aj ?_
 ·simp only[Apw]at h;exact⟨fun _=>rfl,fun _=>by omega⟩
 ·simp only[Apw]at h h2;exact⟨fun _=>by omega,fun _=>rfl⟩
 simp only[Apw]at h h2;exact⟨fun _=>by omega,fun _=>by omega⟩
theorem Af1(a b c:Int):TP (Kn [a,b,c]) fun r=>a≠0->r=a:=by
 unfold Kn
 refine AC (Q:=fun z=>match z with
  |.inl ()=>a=0
  |.inr r=>a≠0->r=a) (AC (Q:=fun z=>match z with
  |.inl ()=>a=0
  |.inr (.inr r)=>a≠0->r=a
  |_=>False) ?_ fun z hz=>?_) fun z hz=>?_
 ·refine AQ (fun i=>∃k:Nat,i=(k:Int)/\k<=3/\(0<k->a=0)) (fun i=>(3-i).toNat) ?_ ⟨0,rfl,by omega,fun h=>by omega⟩ (by simp);rintro _ ⟨k,rfl,hk,ha⟩;unfold Ik;have hl:([a,b,c]:List Int).length=3:=rfl;rw[hl];refine AA (fun h=>?_) fun h=>Aj ?_
  ·have hk':k<3:=by simp only[Apw]at h;omega
   refine Dx (Au hk') ?_;simp only[Apk];refine AA (fun hv=>Aj fun h0=>?_) fun hv=>Aj ⟨⟨k+1,Bq (by omega),hk',fun _=>?_⟩,by rw[Bq (by omega)];omega⟩
   ·have:k=0:=by
     by_cases e:0<k
     ·exact absurd (ha e) h0
     omega
    subst this;rfl
   by_cases e:0<k
   ·exact ha e
   have:k=0:=by omega
   subst this;simpa [nth]using hv
  simp only[Apw]at h;exact ha (by omega)
 ·match z,hz with
  |.inl (),hz=>exact Aj hz
  |.inr (.inr r),hz=>exact Aj hz
 match z,hz with
 |.inl (),hz=>exact Aj fun h=>absurd hz h
 |.inr r,hz=>exact Aj hz
theorem Ob(a b:Ao0):TP (BS a b) fun r=>(a.Zu.Zn<b.Zu.Zn->r=-1)/\(b.Zu.Zn<a.Zu.Zn->r=1):=by
 unfold BS;refine AC (Kp _ _) fun r1 h1=>AC (Kp _ _) fun r2 _=>AC (Kp _ _) fun r3 _=>AC (Af1 _ _ _) fun r hr=>Aj ⟨fun h=>?_,fun h=>?_⟩
 ·rw[hr (by rw[h1.1 h];decide),h1.1 h]
 rw[hr (by rw[h1.2 h];decide),h1.2 h]
def AcG(a b:Ao0):Bool:=decide ((BS a b).getD 0<0)
theorem AgI(a b:Ao0):∃y,BS a b=some y/\decide (y<0)=AcG a b:=by
 obtain⟨y,e,_⟩:=Ob a b;exact⟨y,e,by unfold AcG;rw[e];rfl⟩
theorem Aki{a b:Ao0}(h:AcG a b=true):a.Zu.Zn<=b.Zu.Zn:=by
 obtain⟨y,e,h1,h2⟩:=Ob a b;unfold AcG at h;rw[e]at h;by_cases c:b.Zu.Zn<a.Zu.Zn
 ·rw[h2 c]at h;simp at h
 omega
theorem Akb{a b:Ao0}(h:AcG a b=false):b.Zu.Zn<=a.Zu.Zn:=by
 obtain⟨y,e,h1,h2⟩:=Ob a b;unfold AcG at h;rw[e]at h;by_cases c:a.Zu.Zn<b.Zu.Zn
 ·rw[h1 c]at h;simp at h
 omega
def Oh(x:Ao0):List Ao0->List Ao0
 |[]=>[x]
 |y::t=>if AcG x y=true then y::Oh x t else x::y::t
def Jh(l:List Ao0):List Ao0:=l.foldl (fun acc x=>Oh x acc) []
theorem QD(l:List Ao0)(x:Ao0):Jh (l++[x])=Oh x (Jh l):=by simp[Jh]
theorem X8(x:Ao0):∀l,(Oh x l).length=l.length+1
 |[]=>rfl
 |y::t=>by
  unfold Oh;split
  ·simp[X8 x t]
  simp
theorem insV_mem{x:Ao0}:∀{l:List Ao0} {z:Ao0},z∈Oh x l↔z=x\/z∈l
 |[],z=>by simp[Oh]
 | y::t,z=>by
  unfold Oh;split
  ·rw[Apx,insV_mem,Apx];constructor<;>rintro(h|h|h)<;>simp[h]
  simp[Apx]
theorem M0(l:List Ao0):(Jh l).length=l.length:=by
 have key:∀(l a:List Ao0),(l.foldl (fun acc x=>Oh x acc) a).length=a.length+l.length:=by
  intro l
  induction l with
  |nil=>intro a;rfl
  |cons x l ih=>intro a;rw[Ar0,ih,X8,Api];omega
 rw[Jh,key];simp
theorem Aaf{l:List Ao0}{z:Ao0}:z∈Jh l↔z∈l:=by
 have key:∀(l a:List Ao0),z∈(l.foldl (fun acc x=>Oh x acc) a)↔z∈a\/z∈l:=by
  intro l
  induction l with
  |nil=>intro a;simp
  |cons x l ih=>
   intro a;rw[Ar0,ih,insV_mem,Apx];constructor
   ·rintro((h|h)|h)<;>simp[h]
   rintro(h|h|h)<;>simp[h]
 rw[Jh,key];simp
def Aik(l:List Ao0):Prop:=l.Pairwise fun a b=>b.Zu.Zn<=a.Zu.Zn
theorem TW{x:Ao0}:∀{l:List Ao0},Aik l->Aik (Oh x l)
 |[],_=>List.pairwise_singleton _ _
 | y::t,h=>by
  obtain⟨h1,h2⟩:=AqQ.1 h;unfold Oh;by_cases c:AcG x y=true
  ·rw[Apb c];refine AqQ.2 ⟨fun z hz=>?_,TW h2⟩;rcases insV_mem.1 hz with rfl|hz
   ·exact Aki c
   exact h1 z hz
  rw[Apd c];have hx:=Akb (ApF c);refine AqQ.2 ⟨fun z hz=>?_,h⟩;rcases Apx.1 hz with rfl|hz
  ·exact hx
  exact Int.le_trans (h1 z hz) hx
theorem Yk(l:List Ao0):Aik (Jh l):=by
 have key:∀(l a:List Ao0),Aik a->Aik (l.foldl (fun acc x=>Oh x acc) a):=by
  intro l
  induction l with
  |nil=>intro a h;exact h
  |cons x l ih=>intro a h;exact ih _ (TW h)
 exact key l [] List.Pairwise.nil
theorem Xv{V X:Type}{f:V->Option (V⊕X)}{v:V}{x:X}(h:f v=some (.inr x)):AY f v=some x :=
 Mx 0 f (fun _ _=>v) (fun _=>()) (fun _=>x) (by omega) (fun k hk=>by omega) h
theorem Afb{α:Type}[Inhabited α](x:α)(r:List α):∀q:List α,nth (q++x::r) q.length=x
 |[]=>rfl
 |a::q=>by simp[nth]
theorem AgR{α:Type}[Inhabited α](y x:α)(r:List α)(q:List α):nth (q++y::x::r) (q.length+1)=x:=by
 have:=Afb x r (q++[y]);simpa using this
theorem AaZ{α:Type}(y x:α)(r:List α):∀q:List α,((q++y::x::r).set (q.length+1) y).set q.length x=q++x::y::r
 |[]=>rfl
 |a::q=>by simp[AaZ y x r q]
theorem AbQ(x:Ao0)(p r:List Ao0)(hp:(p++x::r).length<1000000):AY (fun(v:Int×List Ao0)=>Az 0 v.1 v.2) ((p.length:Int),p++x::r)=some ((Oh x p.reverse).reverse++r):=by
 have key:TP (AY (fun(v:Int×List Ao0)=>Az 0 v.1 v.2) ((p.length:Int),p++x::r)) fun z=>z=(Oh x p.reverse).reverse++r:=by
  refine AQ (fun v=>∃q s,v.2=q++x::s/\v.1=(q.length:Int)/\v.2.length<1000000/\(Oh x q.reverse).reverse++s=(Oh x p.reverse).reverse++r) (fun v=>v.1.toNat) ?_ ⟨p,r,rfl,rfl,hp,rfl⟩ (by simp only[Apc,Api]at hp;simp only;omega);rintro⟨_,_⟩ ⟨q,s,rfl,rfl,hl,ht⟩;simp only at hl ⊢;unfold Az;rcases List.eq_nil_or_concat q with rfl|⟨q,y,rfl⟩
  ·refine AC (Q:=fun b=>b=false) (AA (fun h=>by simp at h) fun _=>Aj rfl) fun b hb=>AA (fun h=>by rw[hb]at h;cases h) fun _=>Aj ?_
   rw[<-ht];rfl
  simp only[List.concat_eq_append]at hl ht ⊢;have e0:(q++[y])++x::s=q++y::x::s:=by simp
  have hlen:((q++[y]).length:Int)=((q.length+1:Nat):Int):=by simp
  have hw:w64 (((q.length+1:Nat):Int)-1)=(q.length:Int):=by
   simp only[Apc,Api]at hl;rw[Hn (by omega)];omega
  rw[e0];rw[hlen,hw];have i1:InR ((q.length+1:Nat):Int) (q++y::x::s).length:=Au (by simp);have i2:InR (q.length:Int) (q++y::x::s).length:=Au (by simp);rw[e0]at hl;simp only[Apk,Afb,AgR];obtain⟨z,hz,hless⟩:=AgI x y;rw[hz];refine AC (Q:=fun b=>b=AcG x y) (AA (fun _=>Dx i1 (Dx i2 ?_)) fun h=>?_) fun b hb=>?_
  ·simp only[Ah];exact Aj hless
  ·simp only[Apw]at h;omega
  subst hb;refine AA (fun hb=>Dx i2 (Dx i1 (Dx i1 (Dx (by rw[PW];exact i2) (A8 (Aj ⟨⟨q,y::s,AaZ y x s q,rfl,?_,?_⟩,?_⟩)))))) fun hb=>Aj ?_
  ·simp only[PW];exact hl
  ·rw[<-ht];simp only[List.reverse_append,List.reverse_cons,List.reverse_nil,ApR,Aru,Oh,Apb hb,Ap6,Apv]
  ·simp only;omega
  rw[<-ht];simp only[List.reverse_append,List.reverse_cons,List.reverse_nil,ApR,Aru,Oh,Apd hb,Ap6,Apv,List.reverse_reverse]
 obtain⟨z,e,h⟩:=key;rw[e,h]
theorem Aem(d:List Ao0)(hd:d.length<1000000):Av d 0 (d.length:Int)=some (Jh d).reverse:=by
 have key:TP (Av d 0 (d.length:Int)) fun z=>z=(Jh d).reverse:=by
  unfold Av;refine AC (Q:=fun z=>z=(Jh d).reverse) ?_ fun z hz=>Aj hz
  have hw:w64 (0+1)=((1:Nat):Int):=by decide
  rw[hw];refine AQ (fun v=>∃k:Nat,v.1=(k:Int)/\1<=k/\(k<=d.length\/d=[])/\v.2=(Jh (d.take k)).reverse++d.drop k) (fun v=>((d.length:Int)-v.1).toNat) ?_ ⟨1,rfl,by omega,?_,?_⟩ (by simp only;omega)
  ·rintro⟨_,_⟩ ⟨k,rfl,h1,hk,rfl⟩;simp only;unfold AO;refine AA (fun h=>?_) fun h=>Aj ?_
   ·have hk':k<d.length:=by simpa using h
    have hsl:(Jh (d.take k)).reverse.length=k:=by rw[Ark,M0,Aqi];omega
    have ed:d.drop k=nth d k::d.drop (k+1):=by rw[Aqc hk',B6 hk']
    have:=AbQ (nth d k) (Jh (d.take k)).reverse (d.drop (k+1)) (by simp only[Apc,Api,hsl,Aqs];omega);rw[hsl]at this;rw[ed,this];simp only[Ah];refine Aj ⟨⟨k+1,Bq (by omega),by omega,.inl hk',?_⟩,by simp only;rw[Bq (by omega)];omega⟩;simp only;rw[List.reverse_reverse,ApD hk',QD,B6 hk']
   have:d.length<=k:=by simp at h;omega
   rw[ApW this,List.drop_of_length_le this,Aqf]
  ·cases d with
   |nil=>exact .inr rfl
   |cons a d=>exact .inl (by simp)
  cases d with
  |nil=>rfl
  |cons a d=>rfl
 obtain⟨z,e,h⟩:=key;rw[e,h]
theorem Ahb(d:List Ao0)(hd:d.length<=19):Bb d=some (Jh d).reverse:=by
 have hl:((Jh d).reverse).length=d.length:=by rw[Ark,M0]
 unfold Bb BC
 have e1:AY (fun(v:Int×Int×List Ao0)=>AE (d.length:Int) v.1 v.2.1 v.2.2) (0,20,d)=some (0,d):=Xv (by
  show AE _ _ _ _=_;unfold AE;rw[Apd (by simp only[Apw];omega)])
 have e3:AY (fun(v:Int)=>AD (d.length:Int) v) 20=some ():=Xv (by
  show AD _ _=_;unfold AD;rw[Apd (by simp only[Apw];omega)])
 rw[e1];simp only[Ah];rw[Aem d (by omega)];simp only[Ah];rw[Apb hl.symm,e3];simp only[Ah];rw[Apb hl.symm]
def N0(railway kind:Int)(r:Ao0):Bool:=decide (r.Ref.Zg=railway/\r.Zu.Zm=kind/\(r.Zu.Za=11\/r.Zu.Za=12\/r.Zu.Za=13))
def ed(l:List Ao0)(railway kind:Int):List Ao0:=(Jh (l.filter (N0 railway kind))).reverse
theorem Wy(l:List Ao0)(railway kind:Int)(hl:l.length<=19):DR l railway kind=some (ed l railway kind):=by
 unfold DR;have:=Mx l.length (fun(v:Int×List Ao0)=>Cn l railway kind v.1 v.2) (fun i s=>(i,s)) (fun k=>(l.take k).filter (N0 railway kind)) (fun s=>s) (by omega) (fun k hk=>?_) ?_
 ·rw[Ash,ArH,Ap7]at this;rw[this];simp only[Ah];have h1:=Ary (N0 railway kind) l;rw[Ahb _ (by omega)];simp only[Ah];rw[Apb (by rw[Ark,M0])];rfl
 ·have h1:=Ary (N0 railway kind) (l.take k);have h2:(l.take k).length<=k:=by rw[Aqi];omega
  have e:(l.take (k+1)).filter (N0 railway kind)=(l.take k).filter (N0 railway kind)++(if N0 railway kind (nth l k)=true then[nth l k]else[]):=by
   rw[ApD hk,ArN,<-B6 hk,Aq3,ArH]
  unfold Cn;simp only;rw[Apb (by simpa using hk),Apb (Au hk),e];simp only[Apk,Bp];rw[Bq (by omega)];by_cases c1:(nth l k).Ref.Zg=railway
  ·by_cases c2:(nth l k).Zu.Zm=kind
   ·by_cases c3:(nth l k).Zu.Za=11\/(nth l k).Zu.Za=12\/(nth l k).Zu.Za=13
    ·have hc:N0 railway kind (nth l k)=true:=decide_eq_true ⟨c1,c2,c3⟩
     have hb:(if((nth l k).Zu.Za==11)then some true else if((nth l k).Zu.Za==12)then some true else some ((nth l k).Zu.Za==13):Option Bool)=some true:=by
      rcases c3 with c3|c3|c3<;>rw[c3]<;>rfl
     rw[Apb hc,Apd (by simpa using c1)];simp only[Ah];rw[Apd (by simpa using c2),hb];simp only[Ah,ApT];rw[Apb (Pg (by omega) (by decide))];simp only[Ah]
    have hc:¬N0 railway kind (nth l k)=true:=fun h=>c3 (AqA h).2.2
    have hb:(if((nth l k).Zu.Za==11)then some true else if((nth l k).Zu.Za==12)then some true else some ((nth l k).Zu.Za==13):Option Bool)=some false:=by
     rw[Apd (by simp;omega),Apd (by simp;omega)];simp;omega
    rw[Apd hc,Apd (by simpa using c1)];simp only[Ah];rw[Apd (by simpa using c2),hb];simp only[Ah,ApC,Ap5,Aqf]
   have hc:¬N0 railway kind (nth l k)=true:=fun h=>c2 (AqA h).2.1
   rw[Apd hc,Apd (by simpa using c1)];simp only[Ah];rw[Apb (by simpa using c2)];simp only[Ah,Aqf]
  have hc:¬N0 railway kind (nth l k)=true:=fun h=>c1 (AqA h).1
  rw[Apd hc,Apb (by simpa using c1)];simp only[Ah,ApT,Aqf]
 unfold Cn;simp only;rw[Apd (by simp),Ap7]
structure AmP(t a r:AoV):Prop where
  name:r.Zd=t.Zd
  kind:r.For=t.For
  more:t.Zf.length<=r.Zf.length
  most:r.Zf.length<=t.Zf.length+a.Zf.length
  all:∀c∈r.Zf,c∈a.Zf\/(c∈t.Zf/\∀b∈a.Zf,b.Zd≠c.Zd)
theorem K6{α:Type}[Inhabited α]{l:List α}{k:Nat}(hk:k<l.length){x:α}:x∈l.take (k+1)↔x∈l.take k\/x=nth l k:=by
 rw[ApD hk,<-B6 hk,Aps,ApQ]
theorem Aaz{α:Type}[Inhabited α]{l:List α}{i j:Nat}{x:α}(hj:j<l.length):nth (l.set i x) j=if i=j then x else nth l j:=by
 rw[B6 (by simpa using hj),B6 hj,List.getElem_set]
theorem Yi{l:List (List UInt8)}(h:l.Nodup){k:Nat}(hk:k<l.length):nth l k ∉ l.take k:=by
 intro hm;have hd:(l.take k++l.drop k).Nodup:=by rw[Aqm];exact h
 exact(List.nodup_append.1 hd).2.2 _ hm _ (by rw[Aqc hk,B6 hk];exact Apu) rfl
theorem QE(t a:AoV)(ht:t.Zf.length<=1000)(ha:a.Zf.length<=1000)(hn:(t.Zf.map (·.Zd)).Nodup):TP (DF t a) (AmP t a):=by
 unfold DF;refine AC (Q:=fun m=>(∀s c,m s=some c->c∈a.Zf/\c.Zd=s)/\∀c∈a.Zf,(m c.Zd).isSome=true) (AC (Q:=fun m=>(∀s c,m s=some c->c∈a.Zf/\c.Zd=s)/\∀c∈a.Zf,(m c.Zd).isSome=true) ?_ fun z hz=>Aj hz) fun m0 hm=>?_
 ·refine AQ (fun v=>∃k:Nat,v.1=(k:Int)/\k<=a.Zf.length/\(∀s c,v.2 s=some c->c∈a.Zf/\c.Zd=s)/\∀c∈a.Zf.take k,(v.2 c.Zd).isSome=true) (fun v=>((a.Zf.length:Int)-v.1).toNat) ?_ ⟨0,rfl,Apz _,fun s c h=>(by cases h),by simp⟩ (by simp;omega);rintro⟨_,m⟩ ⟨k,rfl,hk,h1,h2⟩;simp only at h1 h2;unfold Fh;refine AA (fun h=>?_) fun h=>Aj ?_
  ·have hk':k<a.Zf.length:=by simpa using h
   refine Dx (Au hk') (A8 (A8 (A8 (A8 (A8 (A8 (A8 (Aj ⟨⟨k+1,Bq (by omega),hk',fun s c e=>?_,fun c hc=>?_⟩,by simp only;rw[Bq (by omega)];omega⟩))))))))
   ·simp only[Apk,ET,up2]at e;by_cases es:s=(nth a.Zf k).Zd
    ·rw[Apb es]at e;cases e;exact⟨AL hk',es.symm⟩
    rw[Apd es]at e;exact h1 s c e
   simp only[Apk,ET,up2];by_cases es:c.Zd=(nth a.Zf k).Zd
   ·rw[Apb es];rfl
   rw[Apd es];rcases(K6 hk').1 hc with hc|rfl
   ·exact h2 c hc
   exact absurd rfl es
  have:k=a.Zf.length:=by simp at h;omega
  subst this;rw[Ap7]at h2;exact⟨h1,h2⟩
 obtain⟨hm1,hm2⟩:=hm
 have hcl:E9 t.Zf=some t.Zf:=by
  unfold E9;rw[Apb (Pg (by omega) (by decide)),Bp,ApR]
 rw[hcl];simp only[Ah];refine AC (Q:=fun z=>(∀s c,z.1 s=some c->m0 s=some c)/\z.2.length=t.Zf.length/\∀c∈z.2,c∈a.Zf\/(c∈t.Zf/\m0 c.Zd=none)) (AC (Q:=fun z=>(∀s c,z.1 s=some c->m0 s=some c)/\z.2.length=t.Zf.length/\∀c∈z.2,c∈a.Zf\/(c∈t.Zf/\m0 c.Zd=none)) ?_ fun z hz=>Aj hz) fun z hz=>?_
 ·refine AQ (fun v=>∃k:Nat,v.1=(k:Int)/\k<=t.Zf.length/\(∀s c,v.2.1 s=some c->m0 s=some c)/\(∀s,v.2.1 s=none->m0 s=none\/s∈(t.Zf.map (·.Zd)).take k)/\v.2.2.length=t.Zf.length /\
    (∀j,k<=j->j<t.Zf.length->nth v.2.2 j=nth t.Zf j)/\∀j,j<k->nth v.2.2 j∈a.Zf\/(nth v.2.2 j∈t.Zf/\m0 (nth v.2.2 j).Zd=none)) (fun v=>((t.Zf.length:Int)-v.1).toNat) ?_ ⟨0,rfl,Apz _,fun s c h=>h,fun s h=>.inl h,rfl,fun j _ _=>rfl,fun j h=>by omega⟩ (by simp;omega)
  rintro⟨_,m,l⟩ ⟨k,rfl,hk,h1,h2,h3,h4,h5⟩;simp only at h1 h2 h3 h4 h5;unfold EU;refine AA (fun h=>?_) fun h=>Aj ?_
  ·have hk':k<t.Zf.length:=by simpa using h
   have hkl:k<l.length:=by omega
   have hel:nth l k=nth t.Zf k:=h4 k (Apm _) hk';have hnm:nth (t.Zf.map (·.Zd)) k=(nth t.Zf k).Zd:=by rw[B6 (by simpa using hk'),List.getElem_map,B6 hk']
   have hnot:(nth t.Zf k).Zd ∉ (t.Zf.map (·.Zd)).take k:=by rw[<-hnm];exact Yi hn (by simpa using hk')
   have hex:∀s,s∈(t.Zf.map (·.Zd)).take k->s∈(t.Zf.map (·.Zd)).take (k+1):=fun s hs=>(K6 (by simpa using hk')).2 (.inl hs)
   refine AC (Q:=fun z=>(∀s c,z.1 s=some c->m0 s=some c)/\(∀s,z.1 s=none->m0 s=none\/s∈(t.Zf.map (·.Zd)).take (k+1))/\z.2.length=t.Zf.length/\(∀j,k+1<=j->j<t.Zf.length->nth z.2 j=nth t.Zf j) /\
     ∀j,j<k+1->nth z.2 j∈a.Zf\/(nth z.2 j∈t.Zf/\m0 (nth z.2 j).Zd=none)) ?_ fun z hz=>?_
   ·refine Dx (Au hkl) (A8 (A8 (A8 (A8 (A8 (A8 (A8 (A8 (A8 (A8 (A8 (A8 ?_))))))))))));simp only[Apk,ET,hel];refine AA (fun hs=>Dx (Au hkl) (A8 (A8 (Aj ⟨fun s c e=>?_,fun s e=>?_,by rw[PW];exact h3,fun j j1 j2=>?_,fun j j1=>?_⟩)))) fun hs=>Aj ⟨h1,fun s e=>(h2 s e).imp id (hex s),h3,fun j j1 j2=>h4 j (by omega) j2,fun j j1=>?_⟩
    ·simp only[up2]at e;by_cases es:s=(nth t.Zf k).Zd
     ·rw[Apb es]at e;cases e
     rw[Apd es]at e;exact h1 s c e
    ·simp only[up2]at e;by_cases es:s=(nth t.Zf k).Zd
     ·exact .inr ((K6 (by simpa using hk')).2 (.inr (by rw[es,hnm])))
     rw[Apd es]at e;exact(h2 s e).imp id (hex s)
    ·simp only;rw[Aaz (by omega),Apd (by omega)];exact h4 j (by omega) j2
    ·simp only;rw[Aaz (by omega)];by_cases ej:k=j
     ·rw[Apb ej];obtain⟨c,hc⟩:=AqS.1 hs;rw[hc];exact .inl (hm1 _ _ (h1 _ _ hc)).1
     rw[Apd ej];exact h5 j (by omega)
    simp only;by_cases ej:j=k
    ·subst ej;rw[hel]
     have hnone:m (nth t.Zf j).Zd=none:=by
      cases e:m (nth t.Zf j).Zd with
      |none=>rfl
      |some c=>rw[e]at hs;exact absurd rfl hs
     rcases h2 _ hnone with h0|h0
     ·exact .inr ⟨AL hk',h0⟩
     exact absurd h0 hnot
    exact h5 j (by omega)
   obtain⟨z1,z2⟩:=z;obtain⟨g1,g2,g3,g4,g5⟩:=hz;exact Aj ⟨⟨k+1,Bq (by omega),hk',g1,g2,g3,g4,g5⟩,by simp only;rw[Bq (by omega)];omega⟩
  have:k=t.Zf.length:=by simp at h;omega
  subst this;refine⟨h1,h3,fun c hc=>?_⟩;obtain⟨j,hj,rfl⟩:=Ap3 hc;have:=h5 j (by simpa [h3]using hj);rw[B6 hj]at this;exact this
 obtain⟨m1,l1⟩:=z;obtain⟨g1,g2,g3⟩:=hz;simp only at g1 g2 g3 ⊢;refine AC (Q:=fun l=>t.Zf.length<=l.length/\l.length<=t.Zf.length+a.Zf.length/\∀c∈l,c∈a.Zf\/(c∈t.Zf/\m0 c.Zd=none)) (AC (Q:=fun l=>t.Zf.length<=l.length/\l.length<=t.Zf.length+a.Zf.length/\∀c∈l,c∈a.Zf\/(c∈t.Zf/\m0 c.Zd=none)) ?_ fun z hz=>Aj hz) fun l hl=>Aj ⟨rfl,rfl,hl.1,hl.2.1,fun c hc=>(hl.2.2 c hc).imp id fun h=>⟨h.1,fun b hb e=>?_⟩⟩
 ·refine AQ (fun v=>∃k:Nat,v.1=(k:Int)/\k<=a.Zf.length/\t.Zf.length<=v.2.length/\v.2.length<=t.Zf.length+k/\∀c∈v.2,c∈a.Zf\/(c∈t.Zf/\m0 c.Zd=none)) (fun v=>((a.Zf.length:Int)-v.1).toNat) ?_ ⟨0,rfl,Apz _,by simp only;omega,by simp only;omega,g3⟩ (by simp;omega);rintro⟨_,l⟩ ⟨k,rfl,hk,h1,h2,h3⟩;simp only at h1 h2 h3 ⊢;have h2':l.length<=t.Zf.length+a.Zf.length:=by omega
  have h2'':l.length<=t.Zf.length+(k+1):=by omega
  unfold EY;refine AA (fun h=>?_) fun h=>Aj ⟨h1,h2',h3⟩
  have hk':k<a.Zf.length:=by simpa using h
  refine AC (Q:=fun z=>t.Zf.length<=z.length/\z.length<=t.Zf.length+(k+1)/\∀c∈z,c∈a.Zf\/(c∈t.Zf/\m0 c.Zd=none)) ?_ fun z hz=>Aj ⟨⟨k+1,Bq (by omega),hk',hz⟩,by simp only;rw[Bq (by omega)];omega⟩
  refine Dx (Au hk') (A8 (A8 (A8 (A8 (A8 (A8 (A8 (A8 (A8 (A8 (A8 (A8 ?_))))))))))));refine AA (fun _=>Dx (Pg (by omega) (by decide)) (A8 (Aj ⟨by simp;omega,by simp;omega,fun c hc=>?_⟩))) fun _=>Aj ⟨h1,h2'',h3⟩
  simp only[Apk,ET]at hc;rcases Aps.1 hc with hc|hc
  ·exact h3 c hc
  simp only[ApQ]at hc;subst hc;exact .inl (AL hk')
 have:=hm2 b hb;rw[e,h.2]at this;cases this
abbrev Fs:=Bool×AoV
def PT(kind:Int)(s:Fs)(r:Ao0):Option Fs :=
 if(r.Zu.Za==13)then some (false,tz0)
 else(D3 r.Zu.Zb kind).bind fun y=>
  if(y.2 != 0)then some s
  else if(r.Zu.Za==11)then some (true,y.1)
  else if s.1=true then(DF s.2 y.1).bind fun a=>(B7 a).bind fun e=>if(e==0)then some (s.1,a)else some s
  else some s
def Inv(kind:Int)(s:Fs):Prop:=Tz 64 s.2/\(s.1=true->Ok s.2/\s.2.For=kind)
theorem RJ{t a r:AoV}(h:AmP t a r)(ht:Tz 64 t)(ha:Tz 64 a):Tz 128 r:=by
 have:=h.most;have:=ht.1;have:=ha.1;exact⟨by omega,fun c hc=>(h.all c hc).elim (ha.2 c) fun q=>ht.2 c q.1⟩
theorem Am2{t:AoV}{n:Nat}(h:Tz n t)(k:Ok t):Tz 64 t:=⟨k.form.few,h.2⟩
theorem Aa1{kind:Int}{s:Fs}(h:Inv kind s)(r:Ao0):TP (PT kind s r) (Inv kind):=by
 unfold PT;refine AA (fun _=>Aj ⟨HJ,fun e=>by cases e⟩) fun _=>?_
 refine AC (M5 _ _) fun y hy=>AA (fun _=>Aj h) fun h0=>?_
 have hy2:=hy.2 (by simpa using h0);refine AA (fun _=>Aj ⟨hy.1,fun _=>⟨hy2.1,hy2.2.1⟩⟩) fun _=>AA (fun hs=>?_) fun _=>Aj h
 obtain⟨k1,k2⟩:=h.2 hs;have:=h.1.1;have:=hy.1.1;refine AC (QE s.2 y.1 (by omega) (by omega) k1.form.apart) fun a ha=>?_
 have hz:=RJ ha h.1 hy.1;refine AC (Sa hz (by omega)) fun e he=>AA (fun e0=>?_) fun _=>Aj h
 have hok:=he (by simpa using e0);exact Aj ⟨Am2 hz hok,fun _=>⟨hok,by show a.For=kind;rw[ha.kind];exact k2⟩⟩
def step(kind:Int)(s:Fs)(r:Ao0):Fs:=(PT kind s r).getD s
theorem WA{kind:Int}{s:Fs}(h:Inv kind s)(r:Ao0):PT kind s r=some (step kind s r)/\Inv kind (step kind s r):=by
 obtain⟨z,e,hz⟩:=Aa1 h r;unfold step;rw[e];exact⟨rfl,hz⟩
def UV(kind:Int)(l:List Ao0):Fs:=l.foldl (step kind) (false,tz0)
theorem RQ(kind:Int)(l:List Ao0):Inv kind (UV kind l):=by
 have key:∀(l:List Ao0) (s:Fs),Inv kind s->Inv kind (l.foldl (step kind) s):=by
  intro l
  induction l with
  |nil=>intro s h;exact h
  |cons x l ih=>intro s h;exact ih _ (WA h x).2
 exact key l _ ⟨HJ,fun e=>by cases e⟩
theorem PK(kind:Int)(l:List Ao0)(x:Ao0):UV kind (l++[x])=step kind (UV kind l) x:=by simp[UV]
def M7(at_:Int)(l:List Ao0):List Ao0:=l.takeWhile fun r=>decide (r.Zu.Zn<=at_)
def ans(s:Fs):AoV×Int:=if s.1=true then(s.2,0)else(tz0,220)
def OH(railway kind at_:Int):Prop:=0<=railway/\railway<16/\1<=kind/\kind<=6/\0<=at_/\at_<=1073741824
instance (a b c:Int):Decidable (OH a b c):=inferInstanceAs (Decidable (_/\_))
theorem AdG(railway kind:Int):Fy railway kind=some (decide (0<=railway/\railway<16/\1<=kind/\kind<=6)):=by
 unfold Fy;by_cases h1:0<=railway<;>by_cases h2:railway<16<;>by_cases h3:1<=kind<;>by_cases h4:kind<=6<;>simp[h1,h2,h3,h4]
theorem AfF{α:Type}(p:α->Bool):∀(l:List α) (x:α),x∈l.takeWhile p->p x=true
 |[],x,h=>by simp at h
 | y::l,x,h=>by
  by_cases hy:p y=true
  ·rw[Arf hy]at h;rcases Apx.1 h with rfl|h
   ·exact hy
   exact AfF p l x h
  rw[Arg hy]at h;simp at h
theorem Aba{α:Type}(p:α->Bool):∀l:List α,¬((l.drop (l.takeWhile p).length).head?.any p)=true
 |[]=>by simp
 | x::l=>by
  by_cases h:p x=true
  ·rw[Arf h];simpa using Aba p l
  rw[Arg h];simp[h]
theorem QT(l:List Ao0)(railway kind at_:Int)(hl:l.length<=19):BP l railway kind at_=some (if OH railway kind at_ then ans (UV kind (M7 at_ (ed l railway kind)))else(tz0,1)):=by
 have key : TP (BP l railway kind at_) fun z=>z=if OH railway kind at_ then ans (UV kind (M7 at_ (ed l railway kind)))else(tz0,1):=by
  unfold BP;rw[AdG];simp only[Ah];refine AC (Q:=fun b=>b=true↔¬OH railway kind at_) ?_ fun b hb=>AA (fun h=>?_) fun h=>?_
  ·refine AA (fun h=>Aj ?_) fun h=>AA (fun h2=>Aj ?_) fun h2=>Aj ?_
   ·simp only[Aqq,ApA]at h;exact⟨fun _ k=>h ⟨k.1,k.2.1,k.2.2.1,k.2.2.2.1⟩,fun _=>rfl⟩
   ·simp only[Apw]at h2;exact⟨fun _ k=>by have:=k.2.2.2.2.1;omega,fun _=>rfl⟩
   simp only[Aqq,ApA,Arq,Apw]at h h2 ⊢
   exact⟨fun e k=>by have:=k.2.2.2.2.2;omega,fun k=>by
    by_cases e:at_>1073741824
    ·exact e
    exact absurd ⟨h.1,h.2.1,h.2.2.1,h.2.2.2,by omega,by omega⟩ k⟩
  ·rw[Apd (hb.1 h)];exact Aj rfl
  have hok:OH railway kind at_:=ArQ fun k=>h (hb.2 k)
  rw[Apb hok,Wy l railway kind hl];simp only[Ah];generalize hd:ed l railway kind=d
  have hdl:d.length<=19:=by
   have:=Ary (N0 railway kind) l;rw[<-hd,ed,Ark,M0];omega
  have hu:M7 at_ d=d.take (M7 at_ d).length:=(List.prefix_iff_eq_take.1 (List.takeWhile_prefix _));have hul:(M7 at_ d).length<=d.length:=(List.takeWhile_prefix _).length_le;refine AC (Q:=fun z=>(z.1,({ Zd:=z.2.1,For:=z.2.2.1,Zf:=z.2.2.2 }:AoV))=UV kind (M7 at_ d)) (AC (Q:=fun z=>(z.1,({ Zd:=z.2.1,For:=z.2.2.1,Zf:=z.2.2.2 }:AoV))=UV kind (M7 at_ d)) ?_ fun z hz=>Aj hz) fun z hz=>?_
  ·refine AQ (fun v=>∃k:Nat,v.2.1=(k:Int)/\k<=(M7 at_ d).length/\(v.1,({ Zd:=v.2.2.1,For:=v.2.2.2.1,Zf:=v.2.2.2.2 }:AoV))=UV kind (d.take k)) (fun v=>((d.length:Int)-v.2.1).toNat) ?_ ⟨0,rfl,Apz _,rfl⟩ (by simp;omega);rintro⟨th,_,f1,f2,f3⟩ ⟨k,rfl,hk,hs⟩;simp only at hs;have hI:=RQ kind (d.take k);unfold El;refine AA (fun h=>?_) fun h=>Aj ?_
   ·have hk':k<d.length:=by simpa using h
    by_cases hkk:k<(M7 at_ d).length
    ·have hfrom:(nth d k).Zu.Zn<=at_:=by
      have h1:nth (M7 at_ d) k∈M7 at_ d:=AL hkk
      have h2:nth (M7 at_ d) k=nth d k:=by
       rw[hu,B6 (by rw[Aqi];omega),B6 hk',List.getElem_take]
      rw[h2]at h1;have:=AfF _ d _ h1;simpa using this
     have hst:=WA hI (nth d k);have hnext:UV kind (d.take (k+1))=step kind (UV kind (d.take k)) (nth d k):=by rw[ApD hk',<-B6 hk',PK]
     refine AC (Q:=fun z=>match z with
      |.inl z=>(z.1,({ Zd:=z.2.1,For:=z.2.2.1,Zf:=z.2.2.2 }:AoV))=UV kind (d.take (k+1))
      |.inr _=>False) ?_ fun z hz=>?_
     ·refine Dx (Au hk') (A8 (A8 (A8 (A8 (A8 (A8 (A8 (A8 (A8 (A8 (A8 (A8 (A8 (A8 (A8 (A8 (A8 (A8 (A8 (A8 (A8 ?_)))))))))))))))))))));simp only[Apk];rw[Apd (by simp only[Apw];omega),hnext];obtain⟨he,_⟩:=hst;rw[<-hs]at he hI ⊢;generalize hF:step kind (th,({ Zd:=f1,For:=f2,Zf:=f3 }:AoV)) (nth d k)=F at he ⊢;unfold PT at he;obtain⟨y,hy,_⟩:=M5 (nth d k).Zu.Zb kind;by_cases c1:((nth d k).Zu.Za==13)=true
      ·rw[Apb c1]at he ⊢;cases he;exact Aj rfl
      rw[Apd c1]at he ⊢;rw[hy]at he ⊢;simp only[Ah]at he ⊢;by_cases c2:(y.2 != 0)=true
      ·rw[Apb c2]at he ⊢;cases he;exact Aj rfl
      rw[Apd c2]at he ⊢;by_cases c3:((nth d k).Zu.Za==11)=true
      ·rw[Apb c3]at he ⊢;cases he;exact Aj rfl
      rw[Apd c3]at he ⊢;by_cases c4:th=true
      ·rw [Apb c4]at he ⊢;cases ea:DF ({ Zd:=f1,For:=f2,Zf:=f3 }:AoV) y.1 with
       |none=>rw[ea]at he;cases he
       | some a=>
        rw[ea]at he;simp only[Ah]at he ⊢;cases ec:B7 a with
        |none=>rw[ec]at he;cases he
        | some e=>
         rw[ec]at he;simp only[Ah]at he ⊢;by_cases c5:(e==0)=true
         ·rw[Apb c5]at he ⊢;cases he;exact Aj rfl
         rw[Apd c5]at he ⊢;cases he;exact Aj rfl
      rw[Apd c4]at he ⊢;cases he;exact Aj rfl
     match z,hz with
     |.inl (th',g1,g2,g3),hz=>exact Aj ⟨⟨k+1,Bq (by omega),hkk,hz⟩,by simp only;rw[Bq (by omega)];omega⟩
    have hke:k=(M7 at_ d).length:=by omega
    have hfrom:at_<(nth d k).Zu.Zn:=by
     have h1:¬((d.drop k).head?.any fun r=>decide (r.Zu.Zn<=at_))=true:=by
      intro hc;have h3:=Aba (fun r:Ao0=>decide (r.Zu.Zn<=at_)) d;rw[hke]at hc;exact h3 hc
     rw[Aqc hk',<-B6 hk']at h1;simp only[List.head?_cons,Option.any_some,Apw]at h1;omega
    refine AC (Q:=fun z=>match z with
     |.inl _=>False
     |.inr (.inl _)=>False
     |.inr (.inr z)=>(z.1,({ Zd:=z.2.1,For:=z.2.2.1,Zf:=z.2.2.2 }:AoV))=UV kind (M7 at_ d)) ?_ fun z hz=>?_
    ·refine Dx (Au hk') (A8 (A8 (A8 (A8 (A8 (A8 (A8 (A8 (A8 (A8 (A8 (A8 (A8 (A8 (A8 (A8 (A8 (A8 (A8 (A8 (A8 ?_)))))))))))))))))))));simp only[Apk];rw[Apb (by simp only[Apw];omega)];refine Aj ?_;rw[hke,<-hu]at hs;exact hs
    match z,hz with
    |.inr (.inr z),hz=>exact Aj hz
   have hkd:d.length<=k:=by simp at h;omega
   have hke:k=(M7 at_ d).length:=by omega
   show(th,({ Zd:=f1,For:=f2,Zf:=f3 }:AoV))=_;rw[hke,<-hu]at hs;exact hs
  obtain⟨th,f1,f2,f3⟩:=z;simp only at hz ⊢;rw[<-hz];unfold ans;cases th
  ·exact Aj rfl
  exact Aj rfl
 obtain⟨z,e,h⟩:=key;rw[e,h]
theorem AeI{f:AoT->AoT->Option Bool}(a b:List AoT)(ha:a.length<1000000)(hf:∀k,k<a.length->TP (f (nth a k) (nth b k)) fun r=>nth a k=nth b k->r=true):TP (Do a b f) fun r=>a=b->r=true:=by
 unfold Do;refine AA (fun h=>Aj fun e=>?_) fun h=>?_
 ·subst e;simp at h
 have hl:a.length=b.length:=by
  simp only[Are,ne_eq,Arq]at h;omega
 refine AC (Q:=fun z=>match z with
  |.inl ()=>True
  |.inr r=>a=b->r=true) (AC (Q:=fun z=>match z with
  |.inl ()=>True
  |.inr (.inr r)=>a=b->r=true
  |_=>False) ?_ fun z hz=>?_) fun z hz=>?_
 ·refine AQ (fun i=>∃k:Nat,i=(k:Int)/\k<=a.length) (fun i=>((a.length:Int)-i).toNat) ?_ ⟨0,rfl,Apz _⟩ (by simp;omega);rintro _ ⟨k,rfl,hk⟩;unfold Dq;refine AA (fun h=>?_) fun h=>Aj trivial
  have hk':k<a.length:=by simpa using h
  refine Dx (Au hk') (A8 (A8 (A8 (A8 (Dx (Au (by omega)) (A8 (A8 (A8 (A8 ?_)))))))));simp only[Apk,Hp];refine AC (hf k hk') fun r hr=>AA (fun hn=>Aj fun e=>?_) fun _=>Aj ⟨⟨k+1,Bq (by omega),hk'⟩,by rw[Bq (by omega)];omega⟩
  subst e;rw[hr rfl]at hn;cases hn
 ·match z,hz with
  |.inl (),_=>exact Aj trivial
  |.inr (.inr r),hz=>exact Aj hz
 match z,hz with
 |.inl (),_=>exact Aj fun _=>rfl
 |.inr r,hz=>exact Aj hz
theorem Ra:∀(d:Nat) (x:AoT) (n:Nat),Dp d x->d<=n->∀y,TP (DV n x y) fun r=>x=y->r=true
 |0,x,n,h,_=>h.elim
 |d+1,x,0,_,h=>by omega
 |d+1,x,n+1,h,hn=>fun y=>by
  show TP (DU (DV n) x y) _;unfold DU;refine AC (Q:=fun r=>x=y->r=true) (AA (fun _=>AA (fun _=>AA (fun _=>?_) fun h=>Aj fun e=>?_) fun h=>Aj fun e=>?_) fun h=>Aj fun e=>?_) fun r hr=>Aj hr
  ·refine AC (AeI x.L y.L (by have:=h.1;omega) fun k hk=>Ra d _ n (h.2 _ (AL hk)) (by omega) _) fun r hr=>Aj fun e=>hr (by rw[e])
  ·subst e;simp at h
  ·subst e;simp at h
  subst e;simp at h
theorem Ado(a b:List AoR)(ha:a.length<1000000):TP (E7 a b) fun r=>a=b->r=true:=by
 unfold E7;refine AA (fun h=>Aj fun e=>?_) fun h=>?_
 ·subst e;simp at h
 have hl:a.length=b.length:=by
  simp only[Are,ne_eq,Arq]at h;omega
 refine AC (Q:=fun z=>match z with
  |.inl ()=>True
  |.inr r=>a=b->r=true) (AC (Q:=fun z=>match z with
  |.inl ()=>True
  |.inr (.inr r)=>a=b->r=true
  |_=>False) ?_ fun z hz=>?_) fun z hz=>?_
 ·refine AQ (fun i=>∃k:Nat,i=(k:Int)/\k<=a.length) (fun i=>((a.length:Int)-i).toNat) ?_ ⟨0,rfl,Apz _⟩ (by simp;omega);rintro _ ⟨k,rfl,hk⟩;unfold E2;refine AA (fun h=>?_) fun h=>Aj trivial
  have hk':k<a.length:=by simpa using h
  refine Dx (Au hk') (Dx (Au (by omega)) (A8 (AA (fun hn=>Aj fun e=>?_) fun _=>Aj ⟨⟨k+1,Bq (by omega),hk'⟩,by rw[Bq (by omega)];omega⟩)));subst e;simp at hn
 ·match z,hz with
  |.inl (),_=>exact Aj trivial
  |.inr (.inr r),hz=>exact Aj hz
 match z,hz with
 |.inl (),_=>exact Aj fun _=>rfl
 |.inr r,hz=>exact Aj hz
def Cz(c:AoU):Prop:=c.Ze.length<=8/\Ez 900000 c.Pay
theorem XK(c d:AoU)(h:Cz c):TP (EV c d) fun r=>c=d->r=true:=by
 unfold EV;refine AC (Q:=fun r=>c=d->r=true) (AA (fun _=>?_) fun h=>Aj fun e=>?_) fun r hr=>Aj hr
 ·refine AC (Ado _ _ (by have:=h.1;omega)) fun r hr=>AA (fun _=>AC (Ra 900000 c.Pay _ h.2.1 (by omega) d.Pay) fun r hr=>Aj fun e=>hr (by rw[e])) fun hn=>Aj fun e=>absurd (hr (by rw[e])) hn
 subst e;simp at h
theorem AeM(a b:List AoU)(ha:a.length<1000000)(hc:∀c∈a,Cz c):TP (Dj a b EV) fun r=>a=b->r=true:=by
 unfold Dj;refine AA (fun h=>Aj fun e=>?_) fun h=>?_
 ·subst e;simp at h
 have hl:a.length=b.length:=by
  simp only[Are,ne_eq,Arq]at h;omega
 refine AC (Q:=fun z=>match z with
  |.inl ()=>True
  |.inr r=>a=b->r=true) (AC (Q:=fun z=>match z with
  |.inl ()=>True
  |.inr (.inr r)=>a=b->r=true
  |_=>False) ?_ fun z hz=>?_) fun z hz=>?_
 ·refine AQ (fun i=>∃k:Nat,i=(k:Int)/\k<=a.length) (fun i=>((a.length:Int)-i).toNat) ?_ ⟨0,rfl,Apz _⟩ (by simp;omega);rintro _ ⟨k,rfl,hk⟩;unfold Dt;refine AA (fun h=>?_) fun h=>Aj trivial
  have hk':k<a.length:=by simpa using h
  refine Dx (Au hk') (A8 (A8 (A8 (A8 (A8 (A8 (Dx (Au (by omega)) (A8 (A8 (A8 (A8 (A8 (A8 ?_)))))))))))));simp only[Apk,ET];refine AC (XK _ (nth b k) (hc _ (AL hk'))) fun r hr=>AA (fun hn=>Aj fun e=>?_) fun _=>Aj ⟨⟨k+1,Bq (by omega),hk'⟩,by rw[Bq (by omega)];omega⟩
  subst e;rw[hr rfl]at hn;cases hn
 ·match z,hz with
  |.inl (),_=>exact Aj trivial
  |.inr (.inr r),hz=>exact Aj hz
 match z,hz with
 |.inl (),_=>exact Aj fun _=>rfl
 |.inr r,hz=>exact Aj hz
theorem O3{t:AoV}{n:Nat}(h:Tz n t)(hn:n<1000000)(u:AoV):TP (Cb t u) fun r=>t=u->r=true:=by
 unfold Cb;refine AC (Q:=fun r=>t=u->r=true) (AA (fun _=>AA (fun _=>?_) fun h=>Aj fun e=>?_) fun h=>Aj fun e=>?_) fun r hr=>Aj hr
 ·refine AC (AeM _ _ (by have:=h.1;omega) h.2) fun r hr=>Aj fun e=>hr (by rw[e])
 ·subst e;simp at h
 subst e;simp at h
theorem OY{t:AoV}{n:Nat}(h:Tz n t)(hn:n<1000000):Cb t t=some true:=by
 obtain⟨r,e,hr⟩:=O3 h hn t;rw[e,hr rfl]
theorem AbU(t:AoV)(c:AoU)(ht:t.Zf.length<1000000)(hc:Cz c):TP (Gb t c) fun r=>c∈t.Zf->r=true:=by
 unfold Gb
 refine AC (Q:=fun z=>match z with
  |.inl ()=>c ∉ t.Zf
  |.inr r=>r=true) (AC (Q:=fun z=>match z with
  |.inl ()=>c ∉ t.Zf
  |.inr (.inr r)=>r=true
  |_=>False) ?_ fun z hz=>?_) fun z hz=>?_
 ·refine AQ (fun i=>∃k:Nat,i=(k:Int)/\k<=t.Zf.length/\(c∈t.Zf->c∈t.Zf.drop k)) (fun i=>((t.Zf.length:Int)-i).toNat) ?_ ⟨0,rfl,Apz _,fun h=>h⟩ (by simp;omega);rintro _ ⟨k,rfl,hk,hd⟩;unfold FG;refine AA (fun h=>?_) fun h=>Aj ?_
  ·have hk':k<t.Zf.length:=by simpa using h
   refine Dx (Au hk') (A8 (A8 (A8 (A8 (A8 (A8 ?_))))));simp only[Apk,ET];refine AC (O3 (n:=1) (t:={ Zd:=[],For:=0,Zf:=[c] }) ⟨by simp,fun c' hc'=>by simp only[ApQ]at hc';subst hc';exact hc⟩ (by omega) _) fun r hr=>AA (fun _=>Aj rfl) fun hn=>Aj ⟨⟨k+1,Bq (by omega),hk',fun hm=>?_⟩,by rw[Bq (by omega)];omega⟩
   have h1:=hd hm;rw[Aqc hk',<-B6 hk']at h1;rcases Apx.1 h1 with h1|h1
   ·exact absurd (hr (by rw[<-h1])) hn
   exact h1
  have:k=t.Zf.length:=by simp at h;omega
  subst this;intro hm;have:=hd hm;rw[List.drop_length]at this;cases this
 ·match z,hz with
  |.inl (),hz=>exact Aj hz
  |.inr (.inr r),hz=>exact Aj hz
 match z,hz with
 |.inl (),hz=>exact Aj fun h=>absurd h hz
 |.inr r,hz=>exact Aj fun _=>hz
theorem asc_upto(at_:Int):∀l:List Ao0,(l.Pairwise fun a b=>a.Zu.Zn<=b.Zu.Zn)->M7 at_ l=l.filter fun r=>decide (r.Zu.Zn<=at_)
 |[],_=>rfl
 | x::l,h=>by
  obtain⟨h1,h2⟩:=AqQ.1 h;unfold M7;by_cases hx:x.Zu.Zn<=at_
  ·rw[Arf (by simpa using hx),List.filter_cons_of_pos (by simpa using hx)];congr 1;exact asc_upto at_ l h2
  rw[Arg (by simpa using hx),List.filter_cons_of_neg (by simpa using hx),eq_comm,List.filter_eq_nil_iff];intro y hy;have:=h1 y hy;simp;omega
theorem Aiu(l:List Ao0)(railway kind:Int):(ed l railway kind).Pairwise fun a b=>a.Zu.Zn<=b.Zu.Zn:=by
 unfold ed;rw[List.pairwise_reverse];exact Yk _
theorem RD(at_:Int)(l:List Ao0)(railway kind:Int):M7 at_ (ed l railway kind)=(ed l railway kind).filter fun r=>decide (r.Zu.Zn<=at_):=asc_upto _ _ (Aiu l railway kind)
theorem PZ{p:Ao0->Bool}{x:Ao0}(hx:p x=false):∀l:List Ao0,(Oh x l).filter p=l.filter p
 |[]=>by simp[Oh,hx]
 |y::t=>by
  unfold Oh;split
  ·rw[Aq3,Aq3,PZ hx t]
  rw[Aq3,Apd (by simp[hx])]
theorem Vm(l:List Ao0)(x:Ao0)(railway kind:Int):ed (l++[x]) railway kind=if N0 railway kind x=true then(Oh x (Jh (l.filter (N0 railway kind)))).reverse else ed l railway kind:=by
 unfold ed;rw[ArN,Aq3,ArH];by_cases h:N0 railway kind x=true
 ·rw[Apb h,Apb h,QD]
 rw[Apd h,Apd h,Aqf]
theorem Abf(l:List Ao0)(x:Ao0)(railway kind at_:Int)(h:N0 railway kind x=false\/at_<x.Zu.Zn):M7 at_ (ed (l++[x]) railway kind)=M7 at_ (ed l railway kind):=by
 rcases h with h|h
 ·rw[Vm,Apd (by simp[h])]
 rw[RD,RD,Vm];split
 ·unfold ed;rw[List.filter_reverse,List.filter_reverse,PZ (by simp;omega)]
 rfl
theorem T9(l:List Ao0)(x:Ao0)(railway kind at_:Int)(hc:N0 railway kind x=true)(ha:x.Zu.Zn<=at_)(hl:∀r∈l,N0 railway kind r=true->r.Zu.Zn<x.Zu.Zn):M7 at_ (ed (l++[x]) railway kind)=M7 at_ (ed l railway kind)++[x]:=by
 have hm:∀r∈ed l railway kind,r.Zu.Zn<x.Zu.Zn:=by
  intro r hr;unfold ed at hr;rw[List.mem_reverse,Aaf,List.mem_filter]at hr;exact hl r hr.1 hr.2
 have e:ed (l++[x]) railway kind=ed l railway kind++[x]:=by
  rw[Vm,Apb hc];unfold ed;cases hs:Jh (l.filter (N0 railway kind))with
  |nil=>rfl
  | cons y t=>
   have hy:y.Zu.Zn<x.Zu.Zn:=hm y (by unfold ed;rw[hs];simp)
   have hls:AcG x y=false:=by
    obtain⟨z,e,h1,h2⟩:=Ob x y;unfold AcG;rw[e,h2 hy];rfl
   rw[Oh,Apd (by simp[hls])];simp
 rw[RD,RD,e,ArN,Aq3,Apb (by simpa using ha),ArH]
theorem Ahe:top_editionsSane=some true:=by decide +kernel
theorem Adi(l:List Ao0)(hl:l.length<=9223372036854775807):TP (F7 l) fun b=>b=true->l.length<=8:=by
 unfold F7;refine AC (Q:=fun _=>True) (AC (Q:=fun _=>True) ?_ fun _ _=>Aj trivial) fun n _=>AC (Q:=fun b=>b=true->l.length<=8) (AA (fun h=>Aj fun _=>?_) fun _=>Aj fun e=>by cases e) fun b hb=>Aj hb
 ·refine AQ (fun v=>∃k:Nat,v.2=(k:Int)/\k<=l.length) (fun v=>((l.length:Int)-v.2).toNat) ?_ ⟨0,rfl,Apz _⟩ (by simp;omega);rintro⟨n,_⟩ ⟨k,rfl,hk⟩;unfold Fj;refine AA (fun h=>?_) fun h=>Aj trivial
  have hk':k<l.length:=by simpa using h
  exact Dx (Au hk') (A8 (A8 (A8 (A8 (A8 (A8 (A8 (A8 (A8 (A8 (A8 (A8 (A8 (A8 (A8 (A8 (A8 (A8 (A8 (A8 (A8 (A8 (Aj ⟨⟨k+1,Bq (by omega),hk'⟩,by simp only;rw[Bq (by omega)];omega⟩)))))))))))))))))))))))
 simp only[Apw]at h;omega
theorem ZJ(l:List Ao0)(x:Ao0)(railway kind:Int)(hl:l.length<1000000):TP (AY (fun(v:Bool×Int)=>CR l x railway kind v.1 v.2) (true,0)) fun b=>b=true->∀r∈l,N0 railway kind r=true->r.Zu.Zn<x.Zu.Zn:=by
 refine AQ (fun v=>∃k:Nat,v.2=(k:Int)/\k<=l.length/\(v.1=true->∀r∈l.take k,N0 railway kind r=true->r.Zu.Zn<x.Zu.Zn)) (fun v=>((l.length:Int)-v.2).toNat) ?_ ⟨0,rfl,Apz _,fun _ r h=>by simp at h⟩ (by simp;omega);rintro⟨b,_⟩ ⟨k,rfl,hk,hb⟩;simp only at hb;unfold CR;refine AA (fun h=>?_) fun h=>Aj ?_
 ·have hk':k<l.length:=by simpa using h
  refine Dx (Au hk') (A8 (A8 (A8 (A8 (A8 (A8 (A8 (A8 (A8 (A8 (A8 (A8 (A8 (A8 (A8 (A8 (A8 (A8 (A8 (A8 (A8 ?_)))))))))))))))))))));simp only[Apk];refine AC (Q:=fun z=>z=true->b=true/\(N0 railway kind (nth l k)=true->(nth l k).Zu.Zn<x.Zu.Zn)) (AA (fun h0=>AA (fun h1=>Aj fun _=>⟨h0,fun _=>by simpa using h1⟩) fun h1=>AA (fun h2=>Aj fun _=>⟨h0,fun hc=>?_⟩) fun h2=>Aj fun h3=>⟨h0,fun hc=>?_⟩) fun _=>Aj fun e=>by cases e) fun z hz=>Aj ⟨⟨k+1,Bq (by omega),hk',fun e r hr=>?_⟩,by simp only;rw[Bq (by omega)];omega⟩
  ·have:=(AqA hc).1;rw[this]at h2;simp at h2
  ·have:=(AqA hc).2.1;rw[this]at h3;simp at h3
  rcases(K6 hk').1 hr with hr|rfl
  ·exact hb (hz e).1 r hr
  exact(hz e).2
 have:k=l.length:=by simp at h;omega
 subst this;rw[Ap7]at hb;exact hb
theorem Acg(y1 y2:AoV×Int)(nm:List UInt8)(hl:y2.1.Zf.length<1000000):TP (AY (fun(v:Int×List UInt8×Int×List AoU)=>CP y2 nm v.1 v.2.1 v.2.2.1 v.2.2.2) (0,y1.1.Zd,y1.1.For,y1.1.Zf)) fun z=>({ Zd:=z.1,For:=z.2.1,Zf:=z.2.2 }:AoV)=if(y2.1.Zf.any fun d=>d.Zd==nm)then y2.1 else y1.1:=by
 refine AQ (fun v=>∃k:Nat,v.1=(k:Int)/\k<=y2.1.Zf.length/\({ Zd:=v.2.1,For:=v.2.2.1,Zf:=v.2.2.2 }:AoV)=if((y2.1.Zf.take k).any fun d=>d.Zd==nm)then y2.1 else y1.1) (fun v=>((y2.1.Zf.length:Int)-v.1).toNat) ?_ ⟨0,rfl,Apz _,rfl⟩ (by simp;omega);rintro⟨_,f1,f2,f3⟩ ⟨k,rfl,hk,hf⟩;simp only at hf;unfold CP;refine AA (fun h=>?_) fun h=>Aj ?_
 ·have hk':k<y2.1.Zf.length:=by simpa using h
  refine AC (Q:=fun z=>({ Zd:=z.1,For:=z.2.1,Zf:=z.2.2 }:AoV)=if((y2.1.Zf.take (k+1)).any fun d=>d.Zd==nm)then y2.1 else y1.1) ?_ fun z hz=>Aj ⟨⟨k+1,Bq (by omega),hk',hz⟩,by simp only;rw[Bq (by omega)];omega⟩
  refine Dx (Au hk') (A8 (A8 (A8 (A8 (A8 (A8 ?_))))));simp only[Apk];rw[WX hk',<-B6 hk'];refine AA (fun hn=>Aj ?_) fun hn=>Aj ?_
  ·rw[hn,Bool.or_true,Apb rfl]
  rw[ApF hn,Bool.or_false];exact hf
 have:k=y2.1.Zf.length:=by simp at h;omega
 subst this;rw[Ap7]at hf;exact hf
theorem Ua{t a r:AoV}(h:AmP t a r)(e1 e2 e3:Int)(ht:Tz 64 t)(ha:Tz 64 a):TP (AY (fun(v:Int)=>Cm (t,e1) (r,e2) (a,e3) v) 0) fun z=>z=.inl ():=by
 have hr:=RJ h ht ha;have h1:=hr.1;have h2:=ht.1;have h3:=ha.1;refine AQ (fun i=>∃k:Nat,i=(k:Int)/\k<=r.Zf.length) (fun i=>((r.Zf.length:Int)-i).toNat) ?_ ⟨0,rfl,Apz _⟩ (by simp;omega);rintro _ ⟨k,rfl,hk⟩;unfold Cm;refine AA (fun h'=>?_) fun h'=>Aj rfl
 have hk':k<r.Zf.length:=by simpa using h'
 refine AC (Q:=fun z=>z=.inl ()) ?_ fun z hz=>by
  subst hz;exact Aj ⟨⟨k+1,Bq (by omega),hk'⟩,by rw[Bq (by omega)];omega⟩
 refine Dx (Au hk') (A8 (A8 (A8 (A8 (A8 (A8 ?_))))));simp only[Apk,ET];have hm:=AL hk';refine AC (Q:=fun z=>({ Zd:=z.1,For:=z.2.1,Zf:=z.2.2 }:AoV)=if(a.Zf.any fun d=>d.Zd==(nth r.Zf k).Zd)then a else t) (AC (Acg (t,e1) (a,e3) _ (by simp only;omega)) fun z hz=>Aj hz) fun z hz=>?_
 obtain⟨f1,f2,f3⟩:=z;simp only at hz ⊢;rw[hz]
 have hin:(nth r.Zf k)∈(if(a.Zf.any fun d=>d.Zd==(nth r.Zf k).Zd)then a else t).Zf:=by
  rcases h.all _ hm with hh|⟨hh,hno⟩
  ·rw[Apb (Arz.2 ⟨nth r.Zf k,hh,beq_self_eq_true (nth r.Zf k).Zd⟩)];exact hh
  rw[Apd]
  ·exact hh
  intro hc;obtain⟨b,hb,hbe⟩:=Arz.1 hc;exact hno b hb (eq_of_beq hbe)
 refine AC (AbU _ _ (by split<;>omega) (hr.2 _ hm)) fun b hb=>AA (fun hn=>?_) fun _=>Aj rfl
 rw[hb hin]at hn;cases hn
theorem AlM{kind:Int}{s:Fs}(h:Inv kind s):Tz 64 (ans s).1:=by
 unfold ans;split
 ·exact h.1
 exact HJ
theorem PV{y:AoV×Int}(h:Tz 64 y.1):((if(y.2==y.2)then(Cb y.1 y.1).bind fun y=>some y else some false:Option Bool).bind fun t=>some t)=some true:=by
 rw[Apb (beq_self_eq_true _),OY h (by omega)];rfl
theorem MP(l:List Ao0)(x:Ao0)(railway kind at_:Int)(h1:FT (0+l.length) 192)(h2:FT (((([]:List Ao0))++l).length+1) 192):Fg l x railway kind at_=some true:=by
 have hlen:l.length<1152921504606846976-1:=by
  have:=h1.2;unfold Hv at this;omega
 unfold Fg;rw[Ahe];simp only[Ah,Aq2,ApC,Ap5];rw[Apb h1,Apb h2,Bp];simp only[ApR];obtain⟨fb,hfe,hfb⟩:=Adi (l++[x]) (by simp;omega);rw[hfe];simp only[Ah];cases fb with
 |false=>rfl
 | true =>
  have hl9:=hfb rfl;simp only[Apc,ApO]at hl9;simp only[Aq2,ApC,Ap5];rw[QT l _ _ _ (by omega),QT (l++[x]) _ _ _ (by simp;omega)];simp only[Ah];have hI:=RQ kind (M7 at_ (ed l railway kind));have hI2:=RQ kind (M7 at_ (ed (l++[x]) railway kind))
  have hz1:Tz 64 (if OH railway kind at_ then ans (UV kind (M7 at_ (ed l railway kind)))else(tz0,1)).1:=by
   split
   ·exact AlM hI
   exact HJ
  have hb:(if(x.Ref.Zg != railway)then some true else if(x.Zu.Zm != kind)then some true else if(decide (x.Zu.Zn>at_))then some true else
    if(x.Zu.Za != 11)then if(x.Zu.Za != 12)then some ((x.Zu.Za != 13))else some false else some false:Option Bool)=some (!(N0 railway kind x&&decide (x.Zu.Zn<=at_))):=by
   unfold N0;by_cases c1:x.Ref.Zg=railway
   ·by_cases c2:x.Zu.Zm=kind
    ·by_cases c3:x.Zu.Zn<=at_
     ·by_cases c4:x.Zu.Za=11
      ·simp[c1,c2,c3,c4]
      by_cases c5:x.Zu.Za=12
      ·simp[c1,c2,c3,c4,c5]
      by_cases c6:x.Zu.Za=13
      ·simp[c1,c2,c3,c4,c5,c6]
      simp[c1,c2,c3,c4,c5,c6]
     rw[Apd (by simpa using c1),Apd (by simpa using c2),Apb (by simp;omega)];simp[c3]
    simp[c1,c2]
   simp[c1]
  rw[hb];simp only[Ah];by_cases hcc:(N0 railway kind x&&decide (x.Zu.Zn<=at_))=true
  ·rw [hcc];simp only[Aq2,ApC,Ap5];rw[Apj,Apw]at hcc;obtain⟨hc,hat⟩:=hcc;obtain⟨lb,hle,hlb⟩:=ZJ l x railway kind (by omega);rw[hle];simp only[Ah];cases lb with
   |false=>rfl
   | true =>
    simp only[Aq2,ApC,Ap5];rw[T9 l x railway kind at_ hc hat (hlb rfl),PK];rw[T9 l x railway kind at_ hc hat (hlb rfl),PK]at hI2;generalize hS:UV kind (M7 at_ (ed l railway kind))=S at hI hI2 hz1 ⊢;obtain⟨_,_,hk⟩:=AqA hc;have hst:=(WA hI x).1;by_cases hargs:OH railway kind at_
    ·simp only[Apb hargs]at hz1 ⊢;unfold PT at hst;by_cases k13:x.Zu.Za=13
     ·rw[Apb (by simpa using k13)]at hst;have hst':step kind S x=(false,tz0):=(Ao8 hst).symm;rw[Apb (by simpa using k13),hst'];rfl
     rw[Apd (by simpa using k13)]at hst ⊢;obtain⟨y,hy,hyP⟩:=M5 x.Zu.Zb kind;rw[hy]at hst;simp only[Ah]at hst
     have hsame:step kind S x=S->((if((ans S).2==(ans (step kind S x)).2)then(Cb (ans S).1 (ans (step kind S x)).1).bind fun y=>some y else some false:Option Bool).bind fun t=>some t)=some true:=fun e=>by
      rw[e];exact PV hz1
     by_cases k11:x.Zu.Za=11
     ·rw[Apb (by simpa using k11),hy];simp only[Ah];by_cases c2:y.2=0
      ·rw[Apd (by simpa using c2),Apb (by simpa using k11)]at hst;have hst':step kind S x=(true,y.1):=(Ao8 hst).symm;have h1':((ans S).2 != 1)=true:=by unfold ans;split<;>rfl
       rw[Apb (by simpa using c2),h1',hst'];simp only[Ah,ApT];show((if((0:Int)==0)then(Cb y.1 y.1).bind fun y=>some y else some false:Option Bool).bind fun t=>some t)=some true;rw[Apb (show((0:Int)==0)=true from rfl),OY hyP.1 (by omega)];rfl
      rw[Apb (by simpa using c2)]at hst;rw[Apd (by simpa using c2)];simp only[Ah,ApC,Ap5];exact hsame (Ao8 hst).symm
     have k12:x.Zu.Za=12:=by omega
     rw[Apd (by simpa using k11),hy];simp only[Ah];by_cases hs:S.1=true
     ·by_cases c2:y.2=0
      ·rw[Apd (by simpa using c2),Apd (by simpa using k11),Apb hs]at hst;have hyo:=(hyP.2 c2).1;obtain⟨q1,q2⟩:=hI.2 hs;have b1:=hI.1.1;have b2:=hyP.1.1;obtain⟨a,hae,haP⟩:=QE S.2 y.1 (by omega) (by omega) q1.form.apart;rw[hae]at hst;simp only[Ah]at hst;have hz:=RJ haP hI.1 hyP.1;obtain⟨e,hee,heP⟩:=Sa hz (by omega);rw[hee]at hst;simp only[Ah]at hst;have hans:ans S=(S.2,0):=by unfold ans;rw[Apb hs]
       by_cases c5:e=0
       ·rw[Apb (by simpa using c5)]at hst;have hst':step kind S x=(S.1,a):=(Ao8 hst).symm;have hans2:ans (step kind S x)=(a,0):=by rw[hst'];unfold ans;rw[Apb hs]
        rw[hans,hans2]
        have hbb:(if((0:Int) != 0)then some true else if(y.2 != 0)then some true else some ((0:Int) != 0):Option Bool)=some false:=by
         rw[Apd (by decide),Apd (by simpa using c2)];rfl
        simp only[hbb,Ah,ApC,Ap5];obtain⟨r,hre,_⟩:=O3 hI.1 (by omega) a;rw[hre];simp only[Ah];cases r with
        |true=>rfl
        |false=>
         simp only[ApC,Ap5];obtain⟨z,hze,hzz⟩:=Ua haP 0 0 y.2 hI.1 hyP.1;have hze':AY (fun(v:Int)=>Cm (S.2,0) (a,0) y v) 0=some (.inl ()):=by rw[<-hzz];exact hze
         rw[hze'];simp only[Ah,Bp];have:=haP.more;have hd:decide ((a.Zf.length:Int)≥(S.2.Zf.length:Int))=true:=by simp;omega
         rw[hd]
       rw[Apd (by simpa using c5)]at hst;have hst':step kind S x=S:=(Ao8 hst).symm;rw[hst',hans]
       have hbb:(if((0:Int) != 0)then some true else if(y.2 != 0)then some true else some ((0:Int) != 0):Option Bool)=some false:=by
        rw[Apd (by decide),Apd (by simpa using c2)];rfl
       simp only[hbb,Ah,ApC,Ap5];rw[OY hI.1 (by omega)];rfl
      rw[Apb (by simpa using c2)]at hst;have hans:ans S=(S.2,0):=by unfold ans;rw[Apb hs]
      have hbb:(if((ans S).2 != 0)then some true else if(y.2 != 0)then some true else some ((ans (step kind S x)).2 != 0):Option Bool)=some true:=by
       rw[hans,Apd (show ¬((0:Int) != 0)=true by decide),Apb (by simpa using c2)]
      rw[hbb];simp only[Ah,ApT];exact hsame (Ao8 hst).symm
     have hst':step kind S x=S:=by
      by_cases c2:y.2=0
      ·rw[Apd (by simpa using c2),Apd (by simpa using k11),Apd hs]at hst;exact(Ao8 hst).symm
      rw[Apb (by simpa using c2)]at hst;exact(Ao8 hst).symm
     have hans:(ans S).2=220:=by unfold ans;rw[Apd hs]
     rw[Apb (by rw[hans];decide)];simp only[Ah,ApT];exact hsame hst'
    simp only[Apd hargs];by_cases k13:x.Zu.Za=13
    ·rw[Apb (by simpa using k13)];rfl
    rw[Apd (by simpa using k13)];obtain⟨y,hy,hyP⟩:=M5 x.Zu.Zb kind;have hp:=PV (y:=(tz0,1)) HJ;by_cases k11:x.Zu.Za=11
    ·rw[Apb (by simpa using k11),hy];simp only[Ah];have hbb:(if(y.2==0)then some ((1:Int) != 1)else some false:Option Bool)=some false:=by split<;>rfl
     rw[hbb];simp only[Ah,ApC,Ap5];exact hp
    rw[Apd (by simpa using k11),hy];simp only[Ah];rw[Apb (by decide)];simp only[Ah,ApT];exact hp
  rw[ApF hcc];simp only[Ars,ApT]
  have hu:M7 at_ (ed (l++[x]) railway kind)=M7 at_ (ed l railway kind):=by
   refine Abf l x railway kind at_ ?_;rw[Apj,Apw]at hcc;by_cases hc:N0 railway kind x=true
   ·exact .inr (by have:¬x.Zu.Zn<=at_:=fun h=>hcc ⟨hc,h⟩;omega)
   exact .inl (ApF hc)
  rw[hu];exact PV hz1
end Go.Proofs.YtldngkmkhfddpaaGreatDoor
