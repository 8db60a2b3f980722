/-
  Part 51.
-/
import Derived.Test.YtldngkmkhfddpaaGreatDoorYW50
namespace Go.Proofs.YtldngkmkhfddpaaGreatDoor
open Go.Rv
set_option linter.unusedVariables false
set_option linter.unusedSimpArgs false
set_option maxRecDepth 8000
def cutLD:List UInt8:=[97,98,99,100,101,102,103,104,105,106,107,108,109,110,111,112,113,114,115,116,117,118,119,120,121,122,48,49,50,51,52,53,54,55,56,57]
theorem ZH:(match C6 cutLD with|some (f,b)=>b&&(List.range 256).all (fun n=>f.get n==IB (UInt8.ofNat n))|none=>false)=true:=by decide +kernel
theorem Api:∃f:Arr Bool 256,C6 cutLD=some (f,true)/\∀c:UInt8,f.get c.toNat=IB c:=by
 have h:=ZH;cases e:C6 cutLD with
 |none=>rw[e]at h;cases h
 |some y=>
  obtain⟨f,b⟩:=y;rw[e]at h;simp only[AqZ,AqW,ArD,ArO]at h;obtain⟨rfl,h⟩:=h;refine⟨f,rfl,fun c=>?_⟩;have:=h c.toNat (by have:=c.toNat_lt;omega);simpa using this
theorem PY(f:Arr Bool 256)(c:UInt8):B9 f c=some (f.get c.toNat,f):=by
 unfold B9;rw[AqJ (As (by have:=c.toNat_lt;omega))]
theorem Rf{s:List UInt8}(h:0<s.length):s=s.take (s.length-1)++[nth s (s.length-1)]:=by
 have h1:s.length-1<s.length:=by omega
 have:=Aq0 h1;rw[show s.length-1+1=s.length by omega,ArB]at this;rw[Bb h1];exact this
theorem Aat(f:Arr Bool 256)(hf:∀c:UInt8,f.get c.toNat=IB c)(s:List UInt8)(hs:s.length<1000000):TP (CC s f) fun z=>z.2=f/\∃t,s=z.1++t/\(∀c∈t,IB c=true)/\(z.1=[]\/∃u c,z.1=u++[c]/\IB c=false):=by
 unfold CC;refine AB (Q:=fun z=>z.2=f/\∃t,s=z.1++t/\(∀c∈t,IB c=true)/\(z.1=[]\/∃u c,z.1=u++[c]/\IB c=false)) (AB (Q:=fun z=>z.2=f/\∃t,s=z.1++t/\(∀c∈t,IB c=true)/\(z.1=[]\/∃u c,z.1=u++[c]/\IB c=false)) ?_ fun z hz=>Af hz) fun z hz=>Af hz
 refine AX (fun v=>v.2=f/\v.1.length<1000000/\∃t,s=v.1++t/\∀c∈t,IB c=true) (fun v=>v.1.length) ?_ ⟨rfl,hs,[],by simp,by simp⟩ (by simp only;omega);rintro⟨r,g⟩ ⟨hg,hl,t,ht,hc⟩;simp only at hg hl ht hc ⊢;subst hg;unfold CI;refine AK (fun h=>?_) fun h=>Af ⟨rfl,t,ht,hc,.inl (Ari.1 (by simpa using h))⟩
 have hr:0<r.length:=by simpa using h
 have hw:w64 ((r.length:Int)-1)=((r.length-1:Nat):Int):=by rw[FB (by omega)];omega
 rw[hw];refine CY (As (by omega)) ?_;rw[PY];simp only[Ad,AqR,hf];refine AK (fun hb=>Af ⟨rfl,t,ht,hc,.inr ⟨_,_,Rf hr,by simpa using hb⟩⟩) fun hb=>CY (PV (by omega)) (AR (Af ⟨⟨rfl,?_,nth r (r.length-1)::t,?_,?_⟩,?_⟩))
 ·simp only[ArH];omega
 ·simp only;rw[ht]
  conv=>lhs;rw[Rf hr]
  simp
 ·intro c hcm;rcases Aq9.1 hcm with rfl|hcm
  ·simpa using hb
  exact hc c hcm
 simp only[ArH];omega
theorem ZE(f:Arr Bool 256)(hf:∀c:UInt8,f.get c.toNat=IB c)(s:List UInt8)(hs:s.length<1000000):TP (CK s f) fun z=>z.1=[]->∀c∈s,IB c=true:=by
 unfold CK;refine AB (Q:=fun z=>z.1=[]->∀c∈s,IB c=true) (AB (Q:=fun z=>z.1=[]->∀c∈s,IB c=true) ?_ fun z hz=>Af hz) fun z hz=>Af hz
 refine AX (fun v=>v.2=f/\v.1.length<1000000/\∃t,s=t++v.1/\∀c∈t,IB c=true) (fun v=>v.1.length) ?_ ⟨rfl,hs,[],by simp,by simp⟩ (by simp only;omega);rintro⟨r,g⟩ ⟨hg,hl,t,ht,hc⟩;simp only at hg hl ht hc ⊢;subst hg;unfold CU
 refine AK (fun h=>?_) fun h=>Af fun e=>by
  simp only at e;rw[ht,e,ArI];exact hc
 have hr:0<r.length:=by simpa using h
 refine CY (As (k:=0) hr) ?_;rw[PY];simp only[Ad,hf];refine AK (fun hb=>Af fun e=>by simp only at e;rw[e]at hr;simp at hr) fun hb=>CY (PV (k:=1) (by omega)) (AR (Af ⟨⟨rfl,?_,t++[nth r 0],?_,?_⟩,?_⟩))
 ·simp only[ArH,Ar4];omega
 ·match r,hr with
  |c::r,_=>simp[ht,nth]
 ·intro c hcm;rcases Aq3.1 hcm with hcm|hcm
  ·exact hc c hcm
  simp only[Arm]at hcm;subst hcm;simpa using hb
 simp only[ArH,Ar4];omega
def Abf(s:List UInt8):Prop:=s.length<=32/\s≠[]/\isL (nth s 0)=true/\∀c∈s,IB c=true
theorem Vj(s:List UInt8):TP (GQ s) fun b=>b=true->Abf s:=by
 unfold GQ;refine AB (Q:=fun b=>b=true->Abf s) ?_ fun b hb=>Af hb
 refine AK (fun h1=>?_) fun _=>Af fun e=>by cases e
 have hl:s.length<=32:=by simp only[Aq1]at h1;omega
 refine AK (fun h2=>?_) fun _=>Af fun e=>by cases e
 have h2':s≠[]:=by simpa using h2
 have h0:0<s.length:=ArW.2 h2';refine CY (As (k:=0) h0) (AK (fun h3=>?_) fun _=>Af fun e=>by cases e);refine CY (As (k:=0) h0) (AK (fun h4=>?_) fun _=>Af fun e=>by cases e);obtain⟨f,hf1,hf2⟩:=Api;have hcut:([97,98,99,100,101,102,103,104,105,106,107,108,109,110,111,112,113,114,115,116,117,118,119,120,121,122,48,49,50,51,52,53,54,55,56,57]:List UInt8)=cutLD:=rfl;rw[hcut];refine AB (Q:=fun y=>y=[]->∀c∈s,IB c=true) ?_ fun y hy=>Af fun e=>⟨hl,h2',?_,hy (by simpa using e)⟩
 ·unfold I6;rw[AqI (by simpa using h2')];have e1:(cutLD==([]:List UInt8))=false:=rfl;rw[e1];simp only[Ad,Aq6,Arx];have e2:((cutLD.length:Int)==1)=false:=by decide
  rw[e2];simp only[Ad,Aq6,Arx];rw[hf1];simp only[Ad,Aro];refine AB (Aat f hf2 s (by omega)) fun z hz=>?_
  obtain⟨hz1,t,ht,hc,hlast⟩:=hz;rw[hz1]
  have hzl:z.1.length<1000000:=by
   have:=Arz List.length ht;simp only[AqM]at this;omega
  refine AB (ZE f hf2 z.1 hzl) fun y hy=>Af fun e c hcm=>?_
  rw[ht]at hcm;rcases Aq3.1 hcm with hcm|hcm
  ·exact hy e c hcm
  exact hc c hcm
 unfold isL;simp only[Aq1]at h3 h4;have h3':(97:UInt8)<=nth s 0:=h3;simp[h3',h4]
theorem SY(d:Arr Int 4):Aak (BE d):=by
 unfold BE;refine AB (Q:=fun _=>True) (AB (Q:=fun _=>True) ?_ fun z _=>Af trivial) fun m _=>AB (Q:=fun _=>True) ?_ fun _ _=>Af trivial
 ·refine AX (fun v=>∃k:Nat,v.1=(k:Int)/\k<=4) (fun v=>(4-v.1).toNat) ?_ ⟨0,rfl,Aq5 _⟩ (by simp);rintro⟨_,m⟩ ⟨k,rfl,hk⟩;unfold DE;refine AK (fun h=>?_) fun _=>Af trivial
  have hk':k<4:=by simp only[Aq1]at h;omega
  exact CY (As hk') (AR (Af ⟨⟨k+1,Bt (by omega),hk'⟩,by simp only;rw[Bt (by omega)];omega⟩))
 refine AK (fun _=>AK (fun _=>Af trivial) fun _=>Af trivial) fun _=>Af trivial
def G1:Nat->Aqr->Prop
 |0,_=>False
 | d+1,x=>1<=x.Op/\x.Op<=11/\0<=x.N/\x.N<=(if x.Op=1 then 1099511627776 else if x.Op=2 then 15 else 0)/\(x.L.length:Int)=(if x.Op=1 then 0 else if x.Op=2 then 0 else if x.Op=11 then 4 else 2) /\
   BE x.Unit=some true/\(x.Op≠1->x.Unit=⟨[0,0,0,0],rfl⟩)/\∀y∈x.L,G1 d y
theorem Abk{f:Aqr->Option Bool}{P:Aqr->Prop}(s:List Aqr)(hs:s.length<1000000)(hf:∀y∈s,TP (f y) fun b=>b=false->P y):TP (Cv s f) fun b=>b=false->∀y∈s,P y:=by
 unfold Cv;refine AB (Q:=fun i=>decide (i≥0)=false->∀y∈s,P y) ?_ fun i hi=>Af hi
 unfold DT
 refine AB (Q:=fun z=>match z with
  |.inl ()=>∀y∈s,P y
  |.inr r=>0<=r) ?_ fun z hz=>?_
 ·refine AB (Q:=fun z=>match z with
   |.inl ()=>∀y∈s,P y
   |.inr (.inr r)=>0<=r
   |_=>False) ?_ fun z hz=>?_
  ·refine AX (fun i=>∃k:Nat,i=(k:Int)/\k<=s.length/\∀y∈s.take k,P y) (fun i=>((s.length:Int)-i).toNat) ?_ ⟨0,rfl,Aq5 _,by simp⟩ (by simp;omega);rintro _ ⟨k,rfl,hk,hp⟩;unfold CZ;refine AK (fun h=>?_) fun h=>Af ?_
   ·have hk':k<s.length:=by simpa using h
    refine CY (As hk') ?_;simp only[AqR];refine AB (hf _ (AF hk')) fun b hb=>AK (fun _=>Af (Int.natCast_nonneg k)) fun hn=>Af ⟨⟨k+1,Bt (by omega),hk',fun y hy=>?_⟩,by rw[Bt (by omega)];omega⟩
    rw[Aq0 hk',<-Bb hk']at hy;rcases Aq3.1 hy with hy|hy
    ·exact hp y hy
    simp only[Arm]at hy;subst hy;exact hb (Arh hn)
   have:k=s.length:=by simp at h;omega
   subst this;rw[ArB]at hp;exact hp
  match z,hz with
  |.inl (),hz=>exact Af hz
  |.inr (.inr r),hz=>exact Af hz
 match z,hz with
 |.inl (),hz=>exact Af fun _=>hz
 |.inr r,hz=>exact Af fun e=>by simp at e;omega
theorem Px:∀(d:Nat) (x:Aqr) (n:Nat),Dp d x->d<=n->TP (EM n x) fun b=>b=true->G1 d x
 |0,x,n,h,_=>h.elim
 |d+1,x,0,_,h=>by omega
 | d + 1,x,n+1,h,hn=>by
  show TP (EO (EM n) x) _;unfold EO
  refine AB (Q:=fun z=>match z with
   |.inl (most,k)=>(1<=x.Op/\x.Op<=11)/\most=(if x.Op=1 then 1099511627776 else if x.Op=2 then 15 else 0)/\k=(if x.Op=1 then 0 else if x.Op=2 then 0 else if x.Op=11 then 4 else 2)
   |.inr b=>b=false) ?_ fun z hz=>?_
  ·refine AB (Q:=fun z=>match z with
    |.inl k=>x.Op≠1/\x.Op≠2/\k=(if x.Op=11 then 4 else 2)
    |.inr (.inl (most,k))=>(x.Op=1/\most=1099511627776/\k=0)\/(x.Op=2/\most=15/\k=0)
    |.inr (.inr b)=>False) ?_ fun z hz=>?_
   ·refine AK (fun h1=>?_) fun h1=>AK (fun h2=>?_) fun h2=>?_
    ·exact Af (.inl ⟨by simpa using h1,rfl,rfl⟩)
    ·exact Af (.inr ⟨by simpa using h2,rfl,rfl⟩)
    refine AK (fun h3=>Af ?_) fun h3=>Af ?_
    ·have:x.Op=11:=by simpa using h3
     exact⟨by simpa using h1,by simpa using h2,by rw[AqJ this]⟩
    have:x.Op≠11:=by simpa using h3
    exact⟨by simpa using h1,by simpa using h2,by rw[AqI this]⟩
   match z,hz with
   |.inl k,hz=>
    obtain⟨h1,h2,rfl⟩:=hz;refine AB (Q:=fun b=>b=false->1<=x.Op/\x.Op<=11) (AK (fun _=>Af fun e=>by cases e) fun ha=>Af fun e=>?_) fun b hb=>AK (fun _=>Af rfl) fun hn=>Af ⟨hb (Arh hn),by rw[AqI h1,AqI h2],by rw[AqI h1,AqI h2]⟩
    simp at ha e;omega
   |.inr (.inl (most,k)),hz=>
    refine Af ?_;rcases hz with⟨h1,rfl,rfl⟩|⟨h1,rfl,rfl⟩
    ·exact⟨by omega,by rw[AqJ h1],by rw[AqJ h1]⟩
    exact⟨by omega,by rw[AqI (by omega),AqJ h1],by rw[AqI (by omega),AqJ h1]⟩
  match z,hz with
  |.inr b,hz=>exact Af fun e=>by rw[hz]at e;cases e
  | .inl (most,k),hz=>
   obtain⟨ho,rfl,rfl⟩:=hz;refine AB (Q:=fun b=>b=false->0<=x.N/\x.N<=(if x.Op=1 then 1099511627776 else if x.Op=2 then 15 else 0)/\(x.L.length:Int)=(if x.Op=1 then 0 else if x.Op=2 then 0 else if x.Op=11 then 4 else 2)/\BE x.Unit=some true/\(x.Op≠1->x.Unit=⟨[0,0,0,0],rfl⟩)) ?_ fun b hb=>?_
   ·refine AK (fun _=>Af fun e=>by cases e) fun h1=>AK (fun _=>Af fun e=>by cases e) fun h2=>AK (fun _=>Af fun e=>by cases e) fun h3=>?_
    obtain⟨wb,hw,_⟩:=SY x.Unit;rw[hw];simp only[Ad];have h1':0<=x.N:=by simpa using h1
    have h2':x.N<=(if x.Op=1 then 1099511627776 else if x.Op=2 then 15 else 0):=by simpa using h2
    have h3':(x.L.length:Int)=(if x.Op=1 then 0 else if x.Op=2 then 0 else if x.Op=11 then 4 else 2):=by simpa using h3
    refine AK (fun _=>Af fun e=>by cases e) fun h4=>?_
    have h4':wb=true:=by simpa using h4
    subst h4';refine AK (fun h5=>Af fun e=>⟨h1',h2',h3',rfl,fun _=>by simpa using e⟩) fun h5=>Af fun _=>⟨h1',h2',h3',rfl,fun h6=>absurd h6 (by simpa using h5)⟩
   refine AK (fun _=>Af fun e=>by cases e) fun hn'=>?_
   obtain⟨q1,q2,q3,q4,q5⟩:=hb (Arh hn');refine AB (Abk (P:=G1 d) x.L (by have:=h.1;omega) fun y hy=>?_) fun b hb=>Af fun e=>⟨ho.1,ho.2,q1,q2,q3,q4,q5,hb (by simpa using e)⟩
   unfold Gr;exact AB (Px d y n (h.2 y hy) (by omega)) fun b hb=>Af fun e=>hb (by simpa using e)
structure OkC(c:Aqs):Prop where
  word:Abf c.Name
  res:Agn c.Name=false
  pay:G1 900000 c.Pay
  tests:∀w∈c.When,(0<=w.Attr/\w.Attr<16)/\(0<=w.Low/\0<=w.High)/\w.Low<=1099511627776/\w.High<=1099511627776
  few:c.When.length<=8
  flat:∃k,DO c.Pay=some k/\k<=24
structure OkT(t:Aqt):Prop where
  word:Abf t.Name
  res:Agn t.Name=false
  kind:1<=t.For/\t.For<=6
  few:t.Clauses.length<=64
  all:∀c∈t.Clauses,OkC c
  apart:(t.Clauses.map (·.Name)).Nodup
def Tz(n:Nat)(t:Aqt):Prop:=t.Clauses.length<=n/\∀c∈t.Clauses,c.When.length<=8/\Ez 900000 c.Pay
theorem YT(l:List Aqp)(hl:l.length<1000000):TP (Bf (fun(v:Int)=>EU l v) 0) fun z=>match z with
  |.inl ()=>∀w∈l,(0<=w.Attr/\w.Attr<16)/\(0<=w.Low/\0<=w.High)/\w.Low<=1099511627776/\w.High<=1099511627776
  |.inr (.inr (.inr (.inr (.inr (.inr e)))))=>e=1
  |_=>False:=by
 refine AX (fun i=>∃k:Nat,i=(k:Int)/\k<=l.length/\∀w∈l.take k,(0<=w.Attr/\w.Attr<16)/\(0<=w.Low/\0<=w.High)/\w.Low<=1099511627776/\w.High<=1099511627776) (fun i=>((l.length:Int)-i).toNat) ?_ ⟨0,rfl,Aq5 _,by simp⟩ (by simp;omega);rintro _ ⟨k,rfl,hk,hp⟩;unfold EU;refine AK (fun h=>?_) fun h=>Af ?_
 ·have hk':k<l.length:=by simpa using h
  refine CY (As hk') (AR (AR (AR ?_)));simp only[AqR];refine AB (Q:=fun b=>b=false->(0<=(nth l k).Attr/\(nth l k).Attr<16)/\(0<=(nth l k).Low/\0<=(nth l k).High)/\(nth l k).Low<=1099511627776/\(nth l k).High<=1099511627776) ?_ fun b hb=>AK (fun _=>Af rfl) fun hn=>Af ⟨⟨k+1,Bt (by omega),hk',fun y hy=>?_⟩,by rw[Bt (by omega)];omega⟩
  ·refine AK (fun _=>Af fun e=>by cases e) fun h1=>AK (fun _=>Af fun e=>by cases e) fun h2=>AK (fun _=>Af fun e=>by cases e) fun h3=>Af fun e=>?_
   simp only[Aq1]at h1 h2 h3;have h4:¬(QC (nth l k).Low (nth l k).High>1099511627776):=by simpa using e
   unfold Q9 at h3;unfold QC at h4;refine⟨by omega,?_,?_⟩
   ·split at h3<;>omega
   split at h4<;>omega
  rw[Aq0 hk',<-Bb hk']at hy;rcases Aq3.1 hy with hy|hy
  ·exact hp y hy
  simp only[Arm]at hy;subst hy;exact hb (Arh hn)
 have:k=l.length:=by simp at h;omega
 subst this;rw[ArB]at hp;exact hp
structure Seen(t:Aqt)(k:Nat)(named limit:Bool)(m:Nl):Prop where
  map:∀s,(m s).getD false=true↔s∈(t.Clauses.take k).map (·.Name)
  nm:named=false->Agn t.Name=false/\(∀c∈t.Clauses.take k,Agn c.Name=false)/\((t.Clauses.take k).map (·.Name)).Nodup
  lim:limit=false->t.Clauses.length<=64/\∀c∈t.Clauses.take k,c.When.length<=8/\∃k,DO c.Pay=some k/\k<=24
  ok:∀c∈t.Clauses.take k,Abf c.Name/\G1 900000 c.Pay/\∀w∈c.When,(0<=w.Attr/\w.Attr<16)/\(0<=w.Low/\0<=w.High)/\w.Low<=1099511627776/\w.High<=1099511627776
theorem LR(t:Aqt){n:Nat}(ht:Tz n t)(hn:n<1000000):TP (Dh t) fun e=>e=0->OkT t:=by
 unfold Dh;refine AB (Q:=fun b=>b=false->Abf t.Name/\1<=t.For/\t.For<=6) ?_ fun b hb=>?_
 ·refine AB (Vj t.Name) fun b hb=>AK (fun _=>Af fun e=>by cases e) fun h1=>AK (fun _=>Af fun e=>by cases e) fun h2=>Af fun e=>⟨hb (by simpa using h1),?_⟩
  simp at h2 e;omega
 refine AK (fun _=>Af fun e=>by cases e) fun hnb=>?_
 obtain⟨w1,w2⟩:=hb (Arh hnb);rw[Mi];simp only[Ad];refine AR ?_
 refine AB (Q:=fun z=>match z with
  |.inl (named,limit)=>named=false->limit=false->OkT t
  |.inr e=>e=1) ?_ fun z hz=>?_
 ·refine AB (Q:=fun z=>match z with
   |.inl (named,limit)=>named=false->limit=false->OkT t
   |.inr (.inr e)=>e=1
   |_=>False) ?_ fun z hz=>?_
  ·refine AX (fun v=>∃k:Nat,v.2.2.1=(k:Int)/\k<=t.Clauses.length/\Seen t k v.1 v.2.1 v.2.2.2) (fun v=>((t.Clauses.length:Int)-v.2.2.1).toNat) ?_ ⟨0,rfl,Aq5 _,⟨fun s=>by simp[no2],fun e=>⟨e,by simp,by simp⟩,fun e=>⟨by have:=of_decide_eq_false e;omega,by simp⟩,by simp⟩⟩ (by have:=ht.1;simp;omega);rintro⟨named,limit,_,m⟩ ⟨k,rfl,hk,hS⟩;simp only at hS ⊢;unfold Gz;refine AK (fun h=>?_) fun h=>Af fun e1 e2=>?_
   ·have hk':k<t.Clauses.length:=by simpa using h
    have hmem:=AF hk';have hcl:=ht.1;obtain⟨hw8,hez⟩:=ht.2 _ hmem
    have htk:∀c,c∈t.Clauses.take (k+1)↔c∈t.Clauses.take k\/c=nth t.Clauses k:=by
     intro c;rw[Aq0 hk',<-Bb hk',Aq3,Arm]
    refine AB (Q:=fun z=>match z with
     |.inl (named',limit',m')=>Seen t (k+1) named' limit' m'
     |.inr (.inr (.inr (.inr e)))=>e=1
     |_=>False) ?_ fun z hz=>?_
    ·refine CY (As hk') ?_;simp only[B5,AqR,G0];refine AB (Q:=fun b=>b=false->Abf (nth t.Clauses k).Name/\G1 900000 (nth t.Clauses k).Pay) ?_ fun b hb=>AK (fun _=>Af rfl) fun hnb=>?_
     ·refine AB (Vj _) fun b hb=>AK (fun _=>Af fun e=>by cases e) fun h1=>?_
      exact AB (Px 900000 _ _ hez.1 (by omega)) fun b2 hb2=>Af fun e=>⟨hb (by simpa using h1),hb2 (by simpa using e)⟩
     obtain⟨c1,c2⟩:=hb (Arh hnb)
     refine AB (Q:=fun z=>match z with
      |.inl ()=>∀w∈(nth t.Clauses k).When,(0<=w.Attr/\w.Attr<16)/\(0<=w.Low/\0<=w.High)/\w.Low<=1099511627776/\w.High<=1099511627776
      |.inr (.inr (.inr (.inr (.inr e))))=>e=1
      |_=>False) (AB (YT _ (by omega)) fun z hz=>?_) fun z hz=>?_
     ·match z,hz with
      |.inl (),hz=>exact Af hz
      |.inr (.inr (.inr (.inr (.inr (.inr e))))),hz=>exact Af hz
     match z,hz with
     |.inr (.inr (.inr (.inr (.inr e)))),hz=>exact Af hz
     | .inl (),hz=>
      simp only;refine AB (Q:=fun b=>b=false->named=false/\Agn (nth t.Clauses k).Name=false/\(m (nth t.Clauses k).Name).getD false=false) ?_ fun named' hn'=>?_
      ·refine AK (fun _=>Af fun e=>by cases e) fun h1=>?_
       rw[Mi];simp only[Ad];exact AK (fun _=>Af fun e=>by cases e) fun h2=>Af fun e=>⟨Arh h1,Arh h2,e⟩
      refine AB (Q:=fun b=>b=false->limit=false/\∃k2,DO (nth t.Clauses k).Pay=some k2/\k2<=24) ?_ fun limit' hl'=>?_
      ·refine AK (fun _=>Af fun e=>by cases e) fun h1=>AK (fun _=>Af fun e=>by cases e) fun h2=>?_
       obtain⟨k2,e2,_⟩:=K0 900000 (nth t.Clauses k).Pay 18446744073709551616 hez.1 (by omega) (by omega);have e3:DO (nth t.Clauses k).Pay=some k2:=e2;rw[e3];simp only[Ad];exact Af fun e=>⟨Arh h1,k2,rfl,by simpa using e⟩
      refine Af ⟨fun s=>?_,fun e=>?_,fun e=>?_,fun c hc=>?_⟩
      ·rw[Aq0 hk',<-Bb hk',Asm,Aq3];simp only[up2,Arc,ArS,Arm];by_cases es:s=(nth t.Clauses k).Name
       ·rw[AqJ es];simp[es]
       rw[AqI es,hS.map s];simp[es]
      ·obtain⟨n1,n2,n3⟩:=hn' e;obtain⟨q1,q2,q3⟩:=hS.nm n1;refine⟨q1,fun c hc=>?_,?_⟩
       ·rcases(htk c).1 hc with hc|rfl
        ·exact q2 c hc
        exact n2
       rw[Aq0 hk',<-Bb hk',Asm];refine List.nodup_append.2 ⟨q3,by simp,fun a ha b hb=>?_⟩;simp only[Arc,ArS,Arm]at hb;subst hb;intro e;subst e;rw[(hS.map _).2 ha]at n3;cases n3
      ·obtain⟨n1,n2⟩:=hl' e;obtain⟨q1,q2⟩:=hS.lim n1;refine⟨q1,fun c hc=>?_⟩;rcases(htk c).1 hc with hc|rfl
       ·exact q2 c hc
       exact⟨hw8,n2⟩
      rcases(htk c).1 hc with hc|rfl
      ·exact hS.ok c hc
      exact⟨c1,c2,hz⟩
    match z,hz with
    |.inl (named',limit',m'),hz=>exact Af ⟨⟨k+1,Bt (by omega),hk',hz⟩,by simp only;rw[Bt (by omega)];omega⟩
    |.inr (.inr (.inr (.inr e))),hz=>exact Af hz
   have:k=t.Clauses.length:=by simp at h;omega
   subst this;obtain⟨q1,q2,q3⟩:=hS.nm e1;obtain⟨p1,p2⟩:=hS.lim e2;have ho:=hS.ok;rw[ArB]at q2 q3 p2 ho;exact⟨w1,q1,w2,p1,fun c hc=>⟨(ho c hc).1,q2 c hc,(ho c hc).2.1,(ho c hc).2.2,(p2 c hc).1,(p2 c hc).2⟩,q3⟩
  match z,hz with
  |.inl (named,limit),hz=>exact Af hz
  |.inr (.inr e),hz=>exact Af hz
 match z,hz with
 |.inr e,hz=>exact Af fun e0=>by rw[hz]at e0;cases e0
 |.inl (named,limit),hz=>
  refine AK (fun _=>Af fun e=>by cases e) fun h1=>AK (fun _=>Af fun e=>by cases e) fun h2=>Af fun _=>hz (Arh h1) (Arh h2)
theorem TQ(s:List Int)(v:Int)(hl:s.length<1000000):C9 s v=some (if s.findIdx (v==·)<s.length then((s.findIdx (v==·):Nat):Int)else -1):=by
 have key:TP (C9 s v) fun r=>r=if s.findIdx (v==·)<s.length then((s.findIdx (v==·):Nat):Int)else -1:=by
  unfold C9
  refine AB (Q:=fun z=>match z with
   |.inl ()=>s.findIdx (v==·)=s.length
   |.inr r=>s.findIdx (v==·)<s.length/\r=((s.findIdx (v==·):Nat):Int)) ?_ fun z hz=>?_
  ·refine AB (Q:=fun z=>match z with
    |.inl ()=>s.findIdx (v==·)=s.length
    |.inr (.inr r)=>s.findIdx (v==·)<s.length/\r=((s.findIdx (v==·):Nat):Int)
    |_=>False) ?_ fun z hz=>?_
   ·refine AX (fun i=>∃k:Nat,i=(k:Int)/\k<=s.length/\∀j,j<k->(v==nth s j)=false) (fun i=>((s.length:Int)-i).toNat) ?_ ⟨0,rfl,Aq5 _,fun j h=>by omega⟩ (by simp;omega);rintro _ ⟨k,rfl,hk,hj⟩;unfold Ex;refine AK (fun h=>?_) fun h=>Af ?_
    ·have hk':k<s.length:=by simpa using h
     refine CY (As hk') ?_;simp only[AqR];refine AK (fun hv=>?_) fun hv=>Af ⟨⟨k+1,Bt (by omega),hk',fun j h1=>?_⟩,by rw[Bt (by omega)];omega⟩
     ·have he:s.findIdx (v==·)=k:=by
       rw[List.findIdx_eq hk'];refine⟨by rw[<-Bb hk'];exact hv,fun j hjk=>?_⟩;rw[<-Bb (by omega)];exact hj j hjk
      refine Af ⟨by rw[he];exact hk',by rw[he]⟩
     by_cases e:j<k
     ·exact hj j e
     have:j=k:=by omega
     subst this;exact Arh hv
    have:k=s.length:=by simp at h;omega
    subst this;rw[List.findIdx_eq_length];intro x hx;obtain⟨j,hj',rfl⟩:=ArA hx;rw[<-Bb hj'];exact hj j hj'
   match z,hz with
   |.inl (),hz=>exact Af hz
   |.inr (.inr r),hz=>exact Af hz
  match z,hz with
  |.inl (),hz=>exact Af (by rw[AqI (by omega)])
  |.inr r,hz=>exact Af (by rw[AqJ hz.1];exact hz.2)
 obtain⟨r,e,h⟩:=key;rw[e,h]
theorem LD{n k:Nat}(hn:n<=2000000000)(hk:k<=200):GX n k:=by
 refine⟨by unfold maxLen;omega,?_⟩;have:n*k<=2000000000*200:=Nat.mul_le_mul hn hk;unfold I7;omega
theorem G9(p:AqA)(ws:List (List UInt8))(h:p.l.length+ws.length<=2000000000):Aq p ws=some ⟨p.l++ws⟩:=by
 unfold Aq;rw[AqJ (LD h (by decide)),B5]
theorem Yh(p:AqA)(n:Int)(h:p.l.length<2000000000)(h0:0<=n)(h1:n<=1099511627776):Bu p n=some ⟨p.l++[Lib.itoa n]⟩:=by
 unfold Bu strconv_Itoa Agf;rw[AqJ (by omega)];simp only[Ad,B5];rw[G9 _ _ (by simp;omega)];simp only[Ad]
def per:List UInt8:=[112,101,114]
def pu1(d:Arr Int 4):List (List UInt8):=if d.l.findIdx (1==·)<4 then[nth w_units (d.l.findIdx (1==·))]else[]
def pu2(d:Arr Int 4):List (List UInt8):=if d.l.findIdx ((-1)==·)<4 then[per,nth w_units (d.l.findIdx ((-1)==·))]else[]
def pu(d:Arr Int 4):List (List UInt8):=pu1 d++pu2 d
theorem AmW(d:Arr Int 4):(pu d).length<=3:=by
 unfold pu pu1 pu2;rw[AqM];split<;>split<;>simp
theorem AdL(p:AqA)(d:Arr Int 4)(h:p.l.length+10<=2000000000):Du p d=some ⟨p.l++pu d⟩:=by
 have hd:d.l.length=4:=d.h;unfold Du;rw[Qk];simp only[Ad]
 have e1:(C9 d.l 1).bind (fun y=>
   if(decide (y≥0))then
    if InR y w_units.length then
     (Aq p (([nth w_units y.toNat]:List (List UInt8)))).bind fun y=>
     lt1 y.l fun(l:List (List UInt8))=>
     some l
    else none
   else
    some p.l:Int->Option (List (List UInt8)))=some (p.l++pu1 d):=by
  rw[TQ _ _ (by omega),hd];simp only[Ad];unfold pu1;by_cases hi:d.l.findIdx (1==·)<4
  ·rw[AqJ hi,AqJ hi,AqJ (by simp),AqJ (As (by exact hi)),AqR,G9 _ _ (by simp;omega)];simp only[Ad,B5]
  rw[AqI hi,AqI hi,AqI (by simp)];simp
 rw[e1];simp only[Ad];have hl1:(pu1 d).length<=1:=by unfold pu1;split<;>simp
 rw[TQ _ _ (by omega),hd];simp only[Ad];unfold pu pu2;by_cases hi:d.l.findIdx ((-1)==·)<4
 ·rw[AqJ hi,AqJ hi,AqJ (by simp),AqJ (As (by exact hi)),AqR,G9 _ _ (by simp only[AqM,AqP,Ara];omega)];simp only[Ad,B5,Ars];rfl
 rw[AqI hi,AqI hi,AqI (by simp)];simp
def tg(op:Int):Int:=if op=3 then 1 else if op=4 then 1 else if op=5 then 2 else 3
theorem XT(op:Int):EN op=some (tg op):=by
 unfold EN tg;by_cases h3:op=3
 ·subst h3;rfl
 by_cases h4:op=4
 ·subst h4;rfl
 by_cases h5:op=5
 ·subst h5;rfl
 simp[h3,h4,h5]
def Mt:List (List UInt8):=[[44],[41]]
def MW:List (List UInt8):=[[60],[44],[44],[41]]
def Nb:List (List UInt8):=[[43],[45],[42]]
def Kc(f:Aqr->List (List UInt8))(l:List Aqr)(s:List (List UInt8)):Nat->List (List UInt8)
 |0=>[]
 |k+1=>Kc f l s k++(f (nth l k)++[nth s k])
def Zp(f:Aqr->List (List UInt8))(x:Aqr)(least:Int):List (List UInt8):=if least<=tg x.Op then f x else[40]::(f x++[[41]])
def pw:Nat->Aqr->List (List UInt8)
 |0,_=>[]
 |d+1,x=>
  if x.Op=1 then Lib.itoa x.N::pu x.Unit
  else if x.Op=2 then[nth w_attributes x.N.toNat]
  else if x.Op=11 then[105,102]::[40]::Kc (pw d) x.L MW 4
  else if x.Op=3\/x.Op=4\/x.Op=5 then Zp (pw d) (nth x.L 0) (tg x.Op)++(nth Nb (x.Op-3).toNat::Zp (pw d) (nth x.L 1) (tg x.Op+1))
  else nth w_calls (x.Op-6).toNat::[40]::Kc (pw d) x.L Mt 2
theorem M9{f:Aqr->List (List UInt8)}{g:Aqr->Nat}{l:List Aqr}{s:List (List UInt8)}:∀k,k<=l.length->(∀y∈l,(f y).length<=8*g y)->(Kc f l s k).length<=8*((l.take k).map g).sum+k
 |0,_,_=>by simp[Kc]
 |k+1,hk,h=>by
  have hk':k<l.length:=hk;have ih:=M9 (s:=s) k (by omega) h;rw[Aq0 hk',Asm,AtH];simp only[Kc,AqM,Arc,ArS,Ash,List.sum_nil,AqP,Ara];have:=h _ (AF hk');rw[Bb hk']at this ⊢;omega
theorem RX{f:Aqr->List (List UInt8)}{x:Aqr}{n:Int}:(Zp f x n).length<=(f x).length+2:=by
 unfold Zp;split<;>simp
theorem AnD{g:Aqr->Nat}{l:List Aqr}(h:l.length=2):(l.map g).sum=g (nth l 0)+g (nth l 1):=by
 match l,h with
 |[a,b],_=>simp[nth]
theorem P3:∀(d:Nat) (x:Aqr),G1 d x->(pw d x).length<=8*nod d x
 |0,_,h=>h.elim
 | d+1,x,h=>by
  obtain⟨h1,h2,h3,h4,h5,h6,h7,h8⟩:=h;have ih:∀y∈x.L,(pw d y).length<=8*nod d y:=fun y hy=>P3 d y (h8 y hy)
  show(pw (d+1) x).length<=8*(1+(x.L.map (nod d)).sum);unfold pw;by_cases c1:x.Op=1
  ·rw[AqJ c1];have:=AmW x.Unit;simp only[AqP];omega
  rw[AqI c1];by_cases c2:x.Op=2
  ·rw[AqJ c2];simp only[AqP,Ara];omega
  rw[AqI c2];by_cases c3:x.Op=11
  ·rw[AqJ c3];rw[AqI c1,AqI c2,AqJ c3]at h5;have:=M9 (s:=MW) (l:=x.L) 4 (by omega) ih;rw[Arp (by omega)]at this;simp only[AqP];omega
  rw[AqI c3];rw[AqI c1,AqI c2,AqI c3]at h5;have hl:x.L.length=2:=by omega
  by_cases c4:x.Op=3\/x.Op=4\/x.Op=5
  ·rw[AqJ c4];have e:=AnD (g:=nod d) hl;have a:=ih _ (AF (show 0<x.L.length by omega));have b:=ih _ (AF (show 1<x.L.length by omega));have p1:=RX (f:=pw d) (x:=nth x.L 0) (n:=tg x.Op);have p2:=RX (f:=pw d) (x:=nth x.L 1) (n:=tg x.Op+1);simp only[AqP,AqM];omega
  rw[AqI c4];have:=M9 (s:=Mt) (l:=x.L) 2 (by omega) ih;rw[Arp (by omega)]at this;simp only[AqP];omega
def Ue(d:Nat)(rec_:AqA->Aqr->Option AqA):Prop:=∀(p:AqA) (x:Aqr),G1 d x->p.l.length+8*nod d x<=1900000000->rec_ p x=some ⟨p.l++pw d x⟩
theorem U1{d:Nat}{rec_:AqA->Aqr->Option AqA}(hr:Ue d rec_)(name:List UInt8)(signs:List (List UInt8))(p:AqA)(x:Aqr)(hl:x.L.length=signs.length)(h4:signs.length<=4)(hf:∀y∈x.L,G1 d y) (hp:p.l.length+8*(1+(x.L.map (nod d)).sum)<=1900000000):Cp rec_ name signs p x=some ⟨p.l++(name::[40]::Kc (pw d) x.L signs signs.length)⟩:=by
 unfold Cp;rw[G9 _ _ (by simp;omega)];simp only[Ad,B5];have:=Ng signs.length (fun(v:Int×List (List UInt8))=>BC rec_ signs x v.1 v.2) (fun i l=>(i,l)) (fun k=>(p.l++[name,[40]])++Kc (pw d) x.L signs k) (fun l=>l) (by omega) (fun k hk=>?_) ?_
 ·have e:(p.l++[name,[40]])++Kc (pw d) x.L signs 0=p.l++[name,[40]]:=by simp[Kc]
  rw[e]at this;rw[this];simp
 ·have hk':k<x.L.length:=by omega
  have hb:=M9 (f:=pw d) (g:=nod d) (s:=signs) (l:=x.L) k (by omega) fun y hy=>P3 d y (hf y hy)
  have hs:((x.L.take k).map (nod d)).sum+nod d (nth x.L k)<=(x.L.map (nod d)).sum:=by
   conv=>rhs;rw[<-ArV k x.L]
   rw[Asm,AtH,Arq hk',Arc,Ash,Bb hk'];omega
  unfold BC;simp only;rw[AqJ (by simpa using hk),AqJ (As hk),B5,AqJ (As hk')];simp only[AqR];rw[hr _ _ (hf _ (AF hk')) (by simp only[AqM,AqP,Ara];omega)];simp only[Ad,B5];have hw:=P3 d _ (hf _ (AF hk'));rw[G9 _ _ (by simp only[AqM,AqP,Ara];omega)];simp only[Ad,B5];rw[Bt (by omega)];simp[Kc]
 unfold BC;simp only;rw[AqI (by simp)]
theorem Yx{d:Nat}{rec_:AqA->Aqr->Option AqA}(hr:Ue d rec_)(p:AqA)(x:Aqr)(least:Int)(hf:G1 d x)(hp:p.l.length+8*nod d x+2<=1900000000):BW rec_ p x least=some ⟨p.l++Zp (pw d) x least⟩:=by
 unfold BW Zp;rw[XT];simp only[Ad];by_cases h:least<=tg x.Op
 ·rw[AqJ (by simpa using h),AqJ h,hr _ _ hf (by omega)];simp only[Ad,B5]
 have hw:=P3 d x hf;rw[AqI (by simpa using h),AqI h,G9 _ _ (by simp;omega)];simp only[Ad,B5];rw[hr _ _ hf (by simp only[AqM,AqP,Ara];omega)];simp only[Ad,B5];rw[G9 _ _ (by simp only[AqM,AqP,Ara];omega)];simp only[Ad,B5];simp
theorem Ag9{d:Nat}{rec_:AqA->Aqr->Option AqA}(hr:Ue d rec_):Ue (d+1) (CO rec_):=by
 intro p x h hp;obtain⟨h1,h2,h3,h4,h5,h6,h7,h8⟩:=h;have hp':p.l.length+8*(1+(x.L.map (nod d)).sum)<=1900000000:=hp;unfold CO pw;by_cases c1:x.Op=1
 ·rw[AqJ (by simpa using c1),AqJ c1];rw[AqJ c1]at h4;rw[Yh _ _ (by omega) h3 h4];simp only[Ad,B5];rw[AdL _ _ (by simp;omega)];simp only[Ad,B5];simp
 rw[AqI (by simpa using c1),AqI c1];rw[AqI c1]at h4 h5;by_cases c2:x.Op=2
 ·rw[AqJ (by simpa using c2),AqJ c2,FZ];rw[AqJ c2]at h4;simp only[Ad];rw[AqJ ⟨h3,by have:(w_attributes.length:Int)=16:=rfl;omega⟩,G9 _ _ (by simp;omega)];simp only[Ad,B5]
 rw[AqI (by simpa using c2),AqI c2];rw[AqI c2]at h4 h5;by_cases c3:x.Op=11
 ·rw[AqJ (by simpa using c3),AqJ c3];rw[AqJ c3]at h5;have:=U1 hr [105,102] MW p x (by show _=4;omega) (by decide) h8 hp';rw[show([([60]:List UInt8),([44]:List UInt8),([44]:List UInt8),([41]:List UInt8)]:List (List UInt8))=MW from rfl,this];simp only[Ad,B5];rfl
 rw[AqI (by simpa using c3),AqI c3];rw[AqI c3]at h5;have hl:x.L.length=2:=by omega
 have ht:(if(x.Op==3)then some ((x.Op==3))else if(x.Op==4)then some ((x.Op==4))else some ((x.Op==5)):Option Bool)=some (decide (x.Op=3\/x.Op=4\/x.Op=5)):=by
  by_cases a3:x.Op=3
  ·simp[a3]
  by_cases a4:x.Op=4
  ·simp[a4]
  simp[a3,a4];rfl
 rw[ht];simp only[Ad,Aq1];by_cases c4:x.Op=3\/x.Op=4\/x.Op=5
 ·rw[AqJ c4,AqJ c4];have e:=AnD (g:=nod d) hl;have m0:=AF (show 0<x.L.length by omega);have m1:=AF (show 1<x.L.length by omega);have a:=P3 d _ (h8 _ m0);have p1:=RX (f:=pw d) (x:=nth x.L 0) (n:=tg x.Op);have hw:w64 (x.Op-3)=x.Op-3:=FB (by omega);have ht1:1<=tg x.Op/\tg x.Op<=3:=by unfold tg;split<;>(try split)<;>(try split)<;>decide
  have hw2:w64 (tg x.Op+1)=tg x.Op+1:=FB (by omega);rw[AqJ (show InR 0 x.L.length from As (k:=0) (by omega)),XT];simp only[Ad];rw[Yx hr _ _ _ (h8 _ m0) (by omega)];simp only[Ad,B5];rw[hw,AqJ (show InR (x.Op-3) ([[43],[45],[42]]:List (List UInt8)).length from⟨by omega,by show(x.Op-3).toNat<3;omega⟩),G9 _ _ (by simp only[AqM,AqP,Ara];omega)];simp only[Ad,B5];rw[AqJ (show InR 1 x.L.length from As (k:=1) (by omega)),hw2,Yx hr _ _ _ (h8 _ m1) (by simp only[AqM,AqP,Ara];omega)];simp only[Ad,B5];simp[Nb]
 rw[AqI c4,AqI c4,S2];simp only[Ad];have hw:w64 (x.Op-6)=x.Op-6:=FB (by omega);have hwl:w_calls.length=5:=rfl;rw[hw,AqJ (show InR (x.Op-6) w_calls.length from⟨by omega,by rw[hwl];omega⟩)];have:=U1 hr (nth w_calls (x.Op-6).toNat) Mt p x (by show _=2;omega) (by decide) h8 hp';rw[show([([44]:List UInt8),([41]:List UInt8)]:List (List UInt8))=Mt from rfl,this];simp only[Ad,B5];rfl
theorem Acx:∀d n,d<=n->Ue d (DA n)
 |0,_,_=>fun p x h _=>h.elim
 |d+1,0,h=>by omega
 |d+1,n+1,h=>Ag9 (Acx d n (by omega))
theorem Ae9(p:AqA)(x:Aqr)(h:G1 900000 x)(hz:nod 900000 x<=900000)(hp:p.l.length<=1800000000):FW p x=some ⟨p.l++pw 900000 x⟩:=Acx 900000 _ (by omega) p x h (by omega)
def heads2:List (List UInt8):=[[119,104,101,110],[97,110,100]]
def Wq(k:Nat)(t:Aqp):List (List UInt8):=nth heads2 (min k 1)::nth w_attributes t.Attr.toNat::(if t.Low=t.High then[[105,115],Lib.itoa t.Low]else[[105,110],Lib.itoa t.Low,[46,46],Lib.itoa t.High])
def HO(l:List Aqp):Nat->List (List UInt8)
 |0=>[]
 |k+1=>HO l k++Wq k (nth l k)
def cw(c:Aqs):List (List UInt8):=[99,108,97,117,115,101]::c.Name::(HO c.When c.When.length++([112,97,121]::(pw 900000 c.Pay++[[59]])))
theorem Ab8{k:Nat}{t:Aqp}:(Wq k t).length<=6:=by unfold Wq;simp only[AqP];split<;>simp
theorem Ll{l:List Aqp}:∀k,(HO l k).length<=6*k
 |0=>AqT _
 |k+1=>by
  have:=Ll (l:=l) k;have:=Ab8 (k:=k) (t:=nth l k);simp only[HO,AqM];omega
theorem Alw{c:Aqs}(h:OkC c)(hz:nod 900000 c.Pay<=900000):(cw c).length<=7200060:=by
 have h1:=P3 _ _ h.pay;have h2:=Ll (l:=c.When) c.When.length;have h3:=h.few;simp only[cw,AqP,AqM,Ara];omega
theorem YG(p:AqA)(c:Aqs)(h:OkC c)(hz:nod 900000 c.Pay<=900000)(hp:p.l.length<=1000000000):CN p c=some ⟨p.l++cw c⟩:=by
 have hfew:=h.few;unfold CN;rw[G9 _ _ (by simp;omega)];simp only[Ad,B5];have:=Ng c.When.length (fun(v:Int×List (List UInt8))=>BD c v.1 v.2) (fun i l=>(i,l)) (fun k=>(p.l++[[99,108,97,117,115,101],c.Name])++HO c.When k) (fun l=>l) (by omega) (fun k hk=>?_) ?_
 ·have e:(p.l++[[99,108,97,117,115,101],c.Name])++HO c.When 0=p.l++[[99,108,97,117,115,101],c.Name]:=by simp[HO]
  rw[e]at this;rw[this];simp only[Ad];have hl:=Ll (l:=c.When) c.When.length;rw[G9 _ _ (by simp only[AqM,AqP,Ara];omega)];simp only[Ad,B5];rw[Ae9 _ _ h.pay hz (by simp only[AqM,AqP,Ara];omega)];simp only[Ad,B5];have hw:=P3 _ _ h.pay;rw[G9 _ _ (by simp only[AqM,AqP,Ara];omega)];simp only[Ad,B5];simp[cw]
 ·have hb:=Ll (l:=c.When) k;obtain⟨⟨a1,a2⟩,⟨b1,b2⟩,b3,b4⟩:=h.tests _ (AF hk);have hm:Q9 (k:Int) 1=((min k 1:Nat):Int):=by unfold Q9;split<;>omega
  have hs:([([119,104,101,110]:List UInt8),([97,110,100]:List UInt8)]:List (List UInt8))=heads2:=rfl;have hwl:w_attributes.length=16:=rfl;unfold BD;simp only;rw[AqJ (by simpa using hk),AqJ (As hk)];simp only[AqR,B5];rw[hm,hs,AqJ (show InR ((min k 1:Nat):Int) heads2.length from As (by show _<2;omega)),FZ];simp only[Ad];rw[AqJ (show InR (nth c.When k).Attr w_attributes.length from⟨a1,by rw[hwl];omega⟩),G9 _ _ (by simp only[AqM,AqP,Ara];omega)];simp only[Ad,AqR];by_cases e:(nth c.When k).Low=(nth c.When k).High
  ·rw[AqJ (by simpa using e),G9 _ _ (by simp only[AqM,AqP,Ara];omega)];simp only[Ad];rw[Yh _ _ (by simp only[AqM,AqP,Ara];omega) b1 b3];simp only[Ad];rw[Bt (by omega)];simp only[HO,Wq,AqJ e,Ars,Aq7,Aru]
  rw[AqI (by simpa using e),G9 _ _ (by simp only[AqM,AqP,Ara];omega)];simp only[Ad];rw[Yh _ _ (by simp only[AqM,AqP,Ara];omega) b1 b3];simp only[Ad];rw[G9 _ _ (by simp only[AqM,AqP,Ara];omega)];simp only[Ad];rw[Yh _ _ (by simp only[AqM,AqP,Ara];omega) b2 b4];simp only[Ad];rw[Bt (by omega)];simp only[HO,Wq,AqI e,Ars,Aq7,Aru]
 unfold BD;simp only;rw[AqI (by simp)]
def cws(l:List Aqs):Nat->List (List UInt8)
 |0=>[]
 |k+1=>cws l k++cw (nth l k)
def tw(t:Aqt):List (List UInt8):=[116,97,114,105,102,102]::t.Name::[102,111,114]::nth w_kinds (t.For-1).toNat::[123]::(cws t.Clauses t.Clauses.length++[[125]])
theorem Wu{l:List Aqs}(h:∀c∈l,OkC c/\nod 900000 c.Pay<=900000):∀k,k<=l.length->(cws l k).length<=7200060*k
 |0,_=>AqT _
 |k+1,hk=>by
  have:=Wu h k (by omega);obtain⟨h1,h2⟩:=h _ (AF (show k<l.length by omega));have:=Alw h1 h2;simp only[cws,AqM];omega
def Sh(w:List UInt8):Prop:=w.length<=40
theorem AcN:∀(k u:Nat),u<10^(k+1)->(Lib.decDigits u).length<=k+1
 |0,u,h=>by rw[Lib.decDigits,dif_pos (by simpa using h)];simp
 | k+1,u,h=>by
  by_cases hu:u<10
  ·rw[Lib.decDigits,dif_pos hu];simp
  rw[Lib.decDigits,dif_neg hu,AqM];have:=AcN k (u/10) (by rw[Nat.pow_succ]at h;omega);simp only[Arl];omega
theorem AmU{n:Int}(h0:0<=n)(h1:n<=1099511627776):Sh (Lib.itoa n):=by
 unfold Sh Lib.itoa;rw[AqI (by omega)];have:=AcN 12 n.toNat (by omega);omega
theorem Cm{P:List UInt8->Prop}{x:List UInt8}{l:List (List UInt8)}(h:P x)(k:∀w∈l,P w):∀w∈x::l,P w:=fun w hw=>by
 rcases Aq9.1 hw with rfl|hw
 ·exact h
 exact k w hw
theorem LH{P:List UInt8->Prop}{a b:List (List UInt8)}(h:∀w∈a,P w)(k:∀w∈b,P w):∀w∈a++b,P w:=fun w hw=>(Aq3.1 hw).elim (h w) (k w)
theorem I0{P:List UInt8->Prop}:∀w∈([]:List (List UInt8)),P w:=fun w hw=>by cases hw
structure WordP(P:List UInt8->Prop):Prop where
  num:∀n:Int,0<=n->n<=1099511627776->P (Lib.itoa n)
  un:∀w∈w_units,P w
  at_:∀w∈w_attributes,P w
  call:∀w∈w_calls,P w
  kind:∀w∈w_kinds,P w
  lit:∀w∈([[112,101,114],[105,102],[40],[41],[44],[60],[43],[45],[42],[119,104,101,110],[97,110,100],[105,115],[105,110],[46,46],[99,108,97,117,115,101],[112,97,121],[59],[116,97,114,105,102,102],[102,111,114],[123],[125]]:List (List UInt8)),P w
  word:∀w,Abf w->P w
variable {P:List UInt8->Prop}
theorem Alr(hP:WordP P)(d:Arr Int 4):∀w∈pu d,P w:=by
 unfold pu pu1 pu2;refine LH ?_ ?_
 ·split
  ·exact Cm (hP.un _ (AF (by assumption))) I0
  exact I0
 split
 ·exact Cm (hP.lit _ (by simp[per])) (Cm (hP.un _ (AF (by assumption))) I0)
 exact I0
theorem Ph{f:Aqr->List (List UInt8)}{l:List Aqr}{s:List (List UInt8)}(hs:∀w∈s,P w)(hf:∀y∈l,∀w∈f y,P w):∀k,k<=l.length->k<=s.length->∀w∈Kc f l s k,P w
 |0,_,_=>I0
 |k+1,h1,h2=>LH (Ph hs hf k (by omega) (by omega)) (LH (hf _ (AF (by omega))) (Cm (hs _ (AF (by omega))) I0))
theorem XD(hP:WordP P){f:Aqr->List (List UInt8)}{x:Aqr}{n:Int}(h:∀w∈f x,P w):∀w∈Zp f x n,P w:=by
 unfold Zp;split
 ·exact h
 exact Cm (hP.lit _ (by simp)) (LH h (Cm (hP.lit _ (by simp)) I0))
theorem AgT(hP:WordP P):∀(d:Nat) (x:Aqr),G1 d x->∀w∈pw d x,P w
 |0,_,h=>h.elim
 | d+1,x,h=>by
  obtain⟨h1,h2,h3,h4,h5,h6,h7,h8⟩:=h;have ih:∀y∈x.L,∀w∈pw d y,P w:=fun y hy=>AgT hP d y (h8 y hy)
  unfold pw;by_cases c1:x.Op=1
  ·rw[AqJ c1];rw[AqJ c1]at h4;exact Cm (hP.num _ h3 h4) (Alr hP _)
  rw[AqI c1];rw[AqI c1]at h4 h5;by_cases c2:x.Op=2
  ·rw[AqJ c2];rw[AqJ c2]at h4;exact Cm (hP.at_ _ (AF (by show _<16;omega))) I0
  rw[AqI c2];rw[AqI c2]at h4 h5;by_cases c3:x.Op=11
  ·rw[AqJ c3];rw[AqJ c3]at h5;refine Cm (hP.lit _ (by simp)) (Cm (hP.lit _ (by simp)) (Ph (fun w hw=>hP.lit w ?_) ih 4 (by omega) (by decide)));revert w;decide
  rw[AqI c3];rw[AqI c3]at h5;have hl:x.L.length=2:=by omega
  by_cases c4:x.Op=3\/x.Op=4\/x.Op=5
  ·rw[AqJ c4];refine LH (XD hP (ih _ (AF (by omega)))) (Cm (hP.lit _ ?_) (XD hP (ih _ (AF (by omega)))));have:∀w∈Nb,w∈([[112,101,114],[105,102],[40],[41],[44],[60],[43],[45],[42],[119,104,101,110],[97,110,100],[105,115],[105,110],[46,46],[99,108,97,117,115,101],[112,97,121],[59],[116,97,114,105,102,102],[102,111,114],[123],[125]]:List (List UInt8)):=by decide
   exact this _ (AF (by show _<3;omega))
  rw[AqI c4];refine Cm (hP.call _ (AF (by show _<5;omega))) (Cm (hP.lit _ (by simp)) (Ph (fun w hw=>hP.lit w ?_) ih 2 (by omega) (by decide)));revert w;decide
theorem Ana(hP:WordP P){c:Aqs}(h:OkC c):∀w∈cw c,P w:=by
 unfold cw;refine Cm (hP.lit _ (by simp)) (Cm (hP.word _ h.word) (LH ?_ (Cm (hP.lit _ (by simp)) (LH (AgT hP _ _ h.pay) (Cm (hP.lit _ (by simp)) I0)))))
 have key:∀k,k<=c.When.length->∀w∈HO c.When k,P w:=by
  intro k
  induction k with
  |zero=>exact fun _=>I0
  | succ k ih=>
   intro hk;obtain⟨⟨a1,a2⟩,⟨b1,b2⟩,b3,b4⟩:=h.tests _ (AF (show k<c.When.length by omega));refine LH (ih (by omega)) ?_;unfold Wq
   have hh:∀i:Nat,nth heads2 (min i 1)=[119,104,101,110]\/nth heads2 (min i 1)=[97,110,100]:=by
    intro i;rcases(show min i 1=0\/min i 1=1 by omega)with e|e<;>rw[e]
    ·exact .inl rfl
    exact .inr rfl
   refine Cm ?_ (Cm (hP.at_ _ (AF (by show _<16;omega))) ?_)
   ·rcases hh k with e|e<;>rw[e]<;>exact hP.lit _ (by simp)
   split
   ·exact Cm (hP.lit _ (by simp)) (Cm (hP.num _ b1 b3) I0)
   exact Cm (hP.lit _ (by simp)) (Cm (hP.num _ b1 b3) (Cm (hP.lit _ (by simp)) (Cm (hP.num _ b2 b4) I0)))
 exact key _ (AqT _)
theorem Adn(hP:WordP P){t:Aqt}(h:OkT t):∀w∈tw t,P w:=by
 obtain⟨k1,k2⟩:=h.kind;unfold tw;refine Cm (hP.lit _ (by simp)) (Cm (hP.word _ h.word) (Cm (hP.lit _ (by simp)) (Cm (hP.kind _ (AF (by show _<6;omega))) (Cm (hP.lit _ (by simp)) (LH ?_ (Cm (hP.lit _ (by simp)) I0))))))
 have key:∀k,k<=t.Clauses.length->∀w∈cws t.Clauses k,P w:=by
  intro k
  induction k with
  |zero=>exact fun _=>I0
  |succ k ih=>exact fun hk=>LH (ih (by omega)) (Ana hP (h.all _ (AF (by omega))))
 exact key _ (AqT _)
theorem Afr:WordP Sh where
 num:=fun n h0 h1=>AmU h0 h1
 un:=by unfold Sh;decide
 at_:=by unfold Sh;decide
 call:=by unfold Sh;decide
 kind:=by unfold Sh;decide
 lit:=by unfold Sh;decide
 word:=fun w h=>by have:=h.1;unfold Sh;omega
theorem Ael{l:List (List UInt8)}(h:∀w∈l,Sh w):(Lib.join l [32]).length<=41*l.length:=by
 have key:∀l:List (List UInt8),(∀w∈l,Sh w)->Lib.lens l<=40*l.length:=by
  intro l
  induction l with
  |nil=>intro _;simp[Lib.lens]
  |cons x l ih=>
   intro h;have h1:=ih fun w hw=>h w (Arn _ hw)
   have h2:x.length<=40:=h x Aq4;simp only[Lib.lens,Arc,Ash,AqP]at h1 ⊢;omega
 cases l with
 |nil=>simp[Lib.join_nil]
 |cons x l=>
  rw[Lib.join_cons,AqM,Lib.joinTail_length];have h1:=key l fun w hw=>h w (Arn _ hw)
  have h2:x.length<=40:=h x Aq4;simp only[AqP,Ara];omega
def pr(t:Aqt):List UInt8:=Lib.join (tw t) [32]
theorem AeZ{t:Aqt}{n:Nat}(hz:Tz n t)(h:OkT t)(hc:Dh t=some 0):DG t=some (if 2000<(pr t).length then([],2)else(pr t,0)):=by
 obtain⟨k1,k2⟩:=h.kind;have hfew:=h.few;have hall:∀c∈t.Clauses,OkC c/\nod 900000 c.Pay<=900000:=fun c hc=>⟨h.all c hc,(hz.2 c hc).2.2⟩
 have hkl:w_kinds.length=6:=rfl;unfold DG;rw[hc];simp only[Ad];rw[AqI (by decide),Wg];simp only[Ad];have hw:w64 (t.For-1)=t.For-1:=FB (by omega);rw[hw,AqJ (show InR (t.For-1) w_kinds.length from⟨by omega,by rw[hkl];omega⟩),G9 _ _ (by simp)];simp only[Ad,B5];have:=Ng t.Clauses.length (fun(v:Int×List (List UInt8))=>DZ t v.1 v.2) (fun i l=>(i,l)) (fun k=>[[116,97,114,105,102,102],t.Name,[102,111,114],nth w_kinds (t.For-1).toNat,[123]]++cws t.Clauses k) (fun l=>l) (by omega) (fun k hk=>?_) ?_
 ·have e:[[116,97,114,105,102,102],t.Name,[102,111,114],nth w_kinds (t.For-1).toNat,[123]]++cws t.Clauses 0=[]++[[116,97,114,105,102,102],t.Name,[102,111,114],nth w_kinds (t.For-1).toNat,[123]]:=by simp[cws]
  rw[e]at this;rw[this];simp only[Ad];have hl:=Wu hall t.Clauses.length (AqT _);rw[G9 _ _ (by simp only[AqM,AqP,Ara];omega)];simp only[Ad,B5];have et:[[116,97,114,105,102,102],t.Name,[102,111,114],nth w_kinds (t.For-1).toNat,[123]]++cws t.Clauses t.Clauses.length++[[125]]=tw t:=by simp[tw]
  rw[et];have hj:=Ael (Adn Afr h);have hl2:(tw t).length<=500000000:=by rw[<-et];simp only[AqM,AqP,Ara];omega
  unfold Kw AeN;rw[AqJ ⟨by omega,by omega⟩];simp only[Ad];show(if decide (((pr t).length:Int)>2000)=true then _ else _)=_;by_cases hb:2000<(pr t).length
  ·rw[AqJ (by simp only[Aq1];omega),AqJ hb]
  rw[AqI (by simp only[Aq1];omega),AqI hb];rfl
 ·obtain⟨o1,o2⟩:=hall _ (AF hk);have hb:=Wu hall k (by omega);unfold DZ;simp only;rw[AqJ (by simpa using hk),AqJ (As hk)];simp only[AqR,B5,G0];rw[YG _ _ o1 o2 (by simp only[AqM,AqP,Ara];omega)];simp only[Ad];rw[Bt (by omega)];simp[cws]
 unfold DZ;simp only;rw[AqI (by simp)]
theorem Aah{t:Aqt}{n:Nat}(hz:Tz n t)(hn:n<1000000):TP (DG t) fun y=>y.2=0->Dh t=some 0/\OkT t/\y.1=pr t/\(pr t).length<=2000:=by
 obtain⟨e,he,hk⟩:=LR t hz hn;by_cases h0:e=0
 ·subst h0;rw[AeZ hz (hk rfl) he];refine Af ?_;by_cases hb:2000<(pr t).length
  ·rw[AqJ hb];intro h;cases h
  rw[AqI hb];exact fun _=>⟨he,hk rfl,rfl,by omega⟩
 unfold DG;rw[he];simp only[Ad];rw[AqJ (by simpa using h0)];exact Af fun h=>absurd h h0
def tkw(w:List UInt8):Aqn:={ Kind:=(tok w).1.Kind,Text:=w,N:=(tok w).1.N,At:=0 }
abbrev Kd(w:List UInt8):Int:=(tkw w).Kind
theorem Afv{k:Int}:Ak1 k []:=fun x hx=>by cases hx
theorem AgI{t:Aqn}(h:Tk t):tkw t.Text=t:=by
 have e:=Agu [] h Afv;rw[ArI]at e;obtain⟨k,x,n,a⟩:=t;have h2:a=0:=h.2.1;subst h2;unfold tkw;rw[e]
theorem AiS:∀k:Fin 10,isD (UInt8.ofNat (48+k.val))=true/\(UInt8.ofNat (48+k.val)-48).toNat=k.val/\(0<k.val->UInt8.ofNat (48+k.val)≠48):=by decide
theorem Agi{k:Nat}(h:k<10):isD (UInt8.ofNat (48+k))=true/\(UInt8.ofNat (48+k)-48).toNat=k/\(0<k->UInt8.ofNat (48+k)≠48):=AiS ⟨k,h⟩
theorem Akc(u:Nat):(∀x∈Lib.decDigits u,isD x=true)/\dval (Lib.decDigits u)=u/\Lib.decDigits u≠[]/\((Lib.decDigits u).length>1->nth (Lib.decDigits u) 0≠48)/\(0<u->nth (Lib.decDigits u) 0≠48):=by
 induction u using Nat.strongRecOn with
 | _ u ih=>
  rw[Lib.decDigits];by_cases h:u<10
  ·rw[dif_pos h];obtain⟨h1,h2,h3⟩:=Agi h;refine⟨fun x hx=>by rw[Arm.1 hx];exact h1,?_,by simp,fun h0=>by simp at h0,fun h0=>h3 h0⟩;show 10*0+(UInt8.ofNat (48+u)-48).toNat=u;rw[h2];omega
  rw[dif_neg h];obtain⟨i1,i2,i3,i4,i5⟩:=ih (u/10) (by omega);obtain⟨h1,h2,h3⟩:=Agi (k:=u%10) (by omega)
  have key:nth (Lib.decDigits (u/10)++[UInt8.ofNat (48+u%10)]) 0≠48:=by
   rw[WL _ i3];exact i5 (by omega)
  refine⟨fun x hx=>?_,?_,by simp,fun _=>key,fun _=>key⟩
  ·rcases Aq3.1 hx with hx|hx
   ·exact i1 x hx
   rw[Arm.1 hx];exact h1
  rw[UJ,i2];unfold dg;rw[h2];omega
theorem AgD{n:Int}(h0:0<=n)(h1:n<=1099511627776):Tk ⟨2,Lib.itoa n,n,0⟩:=by
 obtain⟨u,rfl⟩:∃u:Nat,n=(u:Int):=⟨n.toNat,by omega⟩;obtain⟨d1,d2,d3,d4,_⟩:=Akc u
 have e:Lib.itoa (u:Int)=Lib.decDigits u:=by
  unfold Lib.itoa;rw[AqI (by omega),AqR]
 rw[e];have h2:isD (nth (Lib.decDigits u) 0)=true:=d1 _ (AF (ArW.2 d3));refine⟨d3,rfl,.inr (.inl ⟨rfl,((RL _).2.1 h2).2.2,h2,d1,?_⟩)⟩;show num (Lib.decDigits u)=((u:Int),0);unfold num;rw[AqI (fun h=>d4 h.1 h.2),AqI (by omega),d2]
theorem SG{n:Int}(h0:0<=n)(h1:n<=1099511627776):tkw (Lib.itoa n)=⟨2,Lib.itoa n,n,0⟩:=AgI (AgD h0 h1)
theorem AcK{w:List UInt8}(h:Abf w):Tk ⟨1,w,0,0⟩:=⟨h.2.1,rfl,.inl ⟨rfl,h.2.2.1,h.2.2.2,h.1,rfl⟩⟩
theorem X4{w:List UInt8}(h:Abf w):tkw w=⟨1,w,0,0⟩:=AgI (AcK h)
theorem Afi:WordP fun w=>Tk (tkw w) where
 num:=fun n h0 h1=>by rw[SG h0 h1];exact AgD h0 h1
 un:=by unfold Tk;decide +kernel
 at_:=by unfold Tk;decide +kernel
 call:=by unfold Tk;decide +kernel
 kind:=by unfold Tk;decide +kernel
 lit:=by unfold Tk;decide +kernel
 word:=fun w h=>by rw[X4 h];exact AcK h
def Tkz(l:List Aqn)(ws:List (List UInt8)):Prop:=l.map er=ws.map tkw
theorem Ah9{l:List Aqn}(h:Tkz l []):l=[]:=by simpa [Tkz]using h
theorem JR{l:List Aqn}{w:List UInt8}{ws:List (List UInt8)}(h:Tkz l (w::ws)):∃t r,l=t::r/\t.Kind=Kd w/\t.Text=w/\t.N=(tkw w).N/\Tkz r ws:=by
 cases l with
 |nil=>simp[Tkz]at h
 | cons t r=>
  simp only[Tkz,Arc,Ar3]at h;obtain⟨h1,h2⟩:=h;refine⟨t,r,rfl,?_,?_,?_,h2⟩
  ·have q:=Arz Aqn.Kind h1;exact q
  ·have q:=Arz Aqn.Text h1;exact q
  have q:=Arz Aqn.N h1;exact q
section
variable {l:List Aqn}{e:Int}{w s:List UInt8}{ws:List (List UInt8)}
theorem QM(h:Tkz l (w::ws))(hk:Kd w≠2):∃r,Tkz r ws/\MT ⟨l,e⟩ w=(true,⟨r,e⟩):=by
 obtain⟨t,r,rfl,h1,h2,h3,h4⟩:=JR h;refine⟨r,h4,?_⟩;unfold MT;simp only;rw[AqJ ⟨by rw[h1];exact hk,h2⟩]
theorem N0(h:Tkz l (w::ws))(hs:Kd w=2\/w≠s):MT ⟨l,e⟩ s=(false,⟨l,e⟩):=by
 obtain⟨t,r,rfl,h1,h2,h3,h4⟩:=JR h;unfold MT;simp only;rw[AqI];rintro⟨a,b⟩;rcases hs with hs|hs
 ·exact a (h1.trans hs)
 exact hs (h2.symm.trans b)
theorem Py(h:Tkz l (w::ws))(hk:Kd w≠2):∃r,Tkz r ws/\Vi ⟨l,e⟩ w=.inl ⟨r,e⟩:=by
 obtain⟨r,h1,h2⟩:=QM (e:=e) h hk;refine⟨r,h1,?_⟩;unfold Vi;rw[h2,AqJ rfl]
theorem Af9{n:Int}(h:Tkz l (Lib.itoa n::ws))(h0:0<=n)(hn:n<=1099511627776):∃r,Tkz r ws/\AdH ⟨l,e⟩=.inl (n,⟨r,e⟩):=by
 obtain⟨t,r,rfl,h1,h2,h3,h4⟩:=JR h;rw[Kd,SG h0 hn]at h1;rw[SG h0 hn]at h3;refine⟨r,h4,?_⟩;unfold AdH;simp only;rw[AqJ h1,h3]
theorem Agk(h:Tkz l (w::ws))(hw:Abf w)(hr:Agn w=false):∃r,Tkz r ws/\U9 ⟨l,e⟩=.inl (w,⟨r,e⟩):=by
 obtain⟨t,r,rfl,h1,h2,h3,h4⟩:=JR h;rw[Kd,X4 hw]at h1;refine⟨r,h4,?_⟩;unfold U9;simp only;rw[AqJ h1,h2,hr,AqI (by simp)]
def Own(W:List (List UInt8)):Prop:=∀i,i<W.length->Kd (nth W i)=1/\W.findIdx (nth W i==·)=i
theorem AnR{W:List (List UInt8)}(hW:Own W){i:Nat}(hi:i<W.length)(h:Tkz l (nth W i::ws)):∃r,Tkz r ws/\chS ⟨l,e⟩ W=some (i,⟨r,e⟩):=by
 obtain⟨t,r,rfl,h1,h2,h3,h4⟩:=JR h;obtain⟨k1,k2⟩:=hW i hi;refine⟨r,h4,?_⟩;unfold chS;simp only;rw[h2,k2,AqJ ⟨h1.trans k1,hi⟩]
theorem AoM{W:List (List UInt8)}(h:Tkz l (w::ws))(hw:Kd w≠1\/w ∉ W):chS ⟨l,e⟩ W=none:=by
 obtain⟨t,r,rfl,h1,h2,h3,h4⟩:=JR h;unfold chS;simp only;rw[AqI];rintro⟨a,b⟩;rcases hw with hw|hw
 ·exact hw (h1.symm.trans a)
 have:=List.findIdx_lt_length.1 b;obtain⟨x,hx,hxe⟩:=this;rw[h2]at hxe;exact hw ((eq_of_beq hxe) ▸ hx)
theorem XQ{W:List (List UInt8)}(hW:Own W){i:Nat}(hi:i<W.length)(h:Tkz l (nth W i::ws)):∃r,Tkz r ws/\QH ⟨l,e⟩ W=.inl ((i:Int),⟨r,e⟩):=by
 obtain⟨r,h1,h2⟩:=AnR (e:=e) hW hi h;exact⟨r,h1,by unfold QH;rw[h2]⟩
theorem Vo(h:Tkz l (w::ws))(k:Int):(RU ⟨l,e⟩ k).2.1=decide (Kd w=k):=by
 obtain⟨t,r,rfl,h1,h2,h3,h4⟩:=JR h;unfold RU;simp only;by_cases c:t.Kind=k
 ·rw[AqJ c,<-h1,AtR c]
 rw[AqI c,<-h1,decide_eq_false c]
end
theorem Aj4:Own w_units:=by unfold Own;decide +kernel
theorem Ak8:Own w_attributes:=by unfold Own;decide +kernel
theorem AoR:Own w_calls:=by unfold Own;decide +kernel
theorem Apz:Own w_kinds:=by unfold Own;decide +kernel
def PX{α:Type}(f:Ps->Option ((α×Ps)⊕XY))(ws:List (List UInt8))(x:α)(R:List (List UInt8)->Prop):Prop :=
 ∀l e vs,Tkz l (ws++vs)->R vs->TP (f ⟨l,e⟩) fun y=>∃r,Tkz r vs/\y=.inl (x,⟨r,e⟩)
theorem PX.imp{α:Type}{f:Ps->Option ((α×Ps)⊕XY)}{ws:List (List UInt8)}{x:α}{R R':List (List UInt8)->Prop}(h:PX f ws x R)(k:∀v,R' v->R v):PX f ws x R':=fun l e vs h1 h2=>h l e vs h1 (k _ h2)
def E1:List (List UInt8):=[[44],[41],[60],[59]]
def E2:List (List UInt8):=[43]::[45]::E1
def E3:List (List UInt8):=[42]::E2
def Hd(E vs:List (List UInt8)):Prop:=∃s r,vs=s::r/\s∈E
theorem Aj1{E:List (List UInt8)}{s:List UInt8}{r:List (List UInt8)}(h:s∈E):Hd E (s::r):=⟨s,r,rfl,h⟩
theorem Ai1:∀s∈E3,Kd s=3/\s≠[112,101,114]:=by decide +kernel
theorem e12:∀s∈E1,s∈E2:=by decide
theorem e23:∀s∈E2,s∈E3:=by decide
theorem Hd.up{E E':List (List UInt8)}(h:∀s∈E,s∈E'){vs:List (List UInt8)}:Hd E vs->Hd E' vs:=fun⟨s,r,a,b⟩=>⟨s,r,a,h s b⟩
structure W4(d:Arr Int 4):Prop where
  all:∀x∈d.l,x=0\/x=1\/x=-1
  one:d.l.count 1<=1
  neg:d.l.count (-1)<=1
theorem Ags:∀l:List Int,l.count 0+l.count 1+l.count (-1)<=l.length/\(l.count 0+l.count 1+l.count (-1)=l.length->∀x∈l,x=0\/x=1\/x=-1)
 |[]=>by simp
 | a::l=>by
  obtain⟨h1,h2⟩:=Ags l;simp only[List.count_cons,AqP];by_cases a0:a=0
  ·subst a0;refine⟨by simp;omega,fun h x hx=>?_⟩;rcases Aq9.1 hx with rfl|hx
   ·exact .inl rfl
   exact h2 (by simp at h;omega) x hx
  by_cases a1:a=1
  ·subst a1;refine⟨by simp;omega,fun h x hx=>?_⟩;rcases Aq9.1 hx with rfl|hx
   ·exact .inr (.inl rfl)
   exact h2 (by simp at h;omega) x hx
  by_cases a2:a=-1
  ·subst a2;refine⟨by simp;omega,fun h x hx=>?_⟩;rcases Aq9.1 hx with rfl|hx
   ·exact .inr (.inr rfl)
   exact h2 (by simp at h;omega) x hx
  have b0:(a==0)=false:=by simpa using a0
  have b1:(a==1)=false:=by simpa using a1
  have b2:(a==-1)=false:=by simpa using a2
  rw[b0,b1,b2];exact⟨by simp;omega,fun h=>absurd h (by simp;omega)⟩
theorem Wo{d:Arr Int 4}(h:BE d=some true):W4 d:=by
 have key:TP (BE d) fun b=>b=true->W4 d:=by
  have hd:d.l.length=4:=d.h;unfold BE;refine AB (Q:=fun m=>∀n:Int,(m n).getD 0=(d.l.count n:Int)) (AB (Q:=fun m=>∀n:Int,(m n).getD 0=(d.l.count n:Int)) ?_ fun z hz=>Af hz) fun m hm=>?_
  ·refine AX (fun v=>∃k:Nat,v.1=(k:Int)/\k<=4/\∀n:Int,(v.2 n).getD 0=((d.l.take k).count n:Int)) (fun v=>(4-v.1).toNat) ?_ ⟨0,rfl,Aq5 _,fun n=>by simp[no2]⟩ (by simp);rintro⟨_,m⟩ ⟨k,rfl,hk,hm⟩;simp only at hm;unfold DE;refine AK (fun h=>?_) fun h=>Af ?_
   ·have hk':k<4:=by simp only[Aq1]at h;omega
    refine CY (As hk') (AR (Af ⟨⟨k+1,Bt (by omega),hk',fun n=>?_⟩,by simp only;rw[Bt (by omega)];omega⟩));have hk4:k<d.l.length:=by omega
    have hg:d.get k=d.l[k]:=Bb hk4;have hle:∀n:Int,(d.l.take k).count n<=4:=fun n=>ArZ List.count_le_length (by simp;omega)
    simp only[AqR,up2];rw[Aq0 hk4,List.count_append,hg,hm];have:=hle d.l[k];by_cases e:n=d.l[k]
    ·rw[AqJ e];subst e;simp only[Option.getD_some,List.count_singleton_self];rw[FB (by omega)];omega
    rw[AqI e,hm];have:List.count n [d.l[k]]=0:=List.count_eq_zero.2 (by simp[e]);rw[this];rfl
   have:k=4:=by simp only[Aq1]at h;omega
   subst this;rw[Arp (by omega)]at hm;exact hm
  obtain⟨c1,c2⟩:=Ags d.l;have w1:w64 ((d.l.count 0:Int)+(d.l.count 1:Int))=(d.l.count 0:Int)+(d.l.count 1:Int):=FB (by omega);have w2:w64 ((d.l.count 0:Int)+(d.l.count 1:Int)+(d.l.count (-1):Int))=(d.l.count 0:Int)+(d.l.count 1:Int)+(d.l.count (-1):Int):=FB (by omega);rw[hm,hm,hm,w1,w2];refine AB (Q:=fun b=>b=true->W4 d) (AK (fun h1=>AK (fun h2=>Af fun h3=>?_) fun _=>Af fun e=>by cases e) fun _=>Af fun e=>by cases e) fun b hb=>Af hb
  simp only[ArO,Aq1]at h1 h2 h3;exact⟨c2 (by omega),by omega,by omega⟩
 obtain⟨b,e,hb⟩:=key;rw[h]at e;exact hb (AqF e).symm
def u1(d:Arr Int 4):Arr Int 4:=if d.l.findIdx (1==·)<4 then(Arr.rep 4 0).set (d.l.findIdx (1==·)) (w64 (((Arr.rep 4 0):Arr Int 4).get (d.l.findIdx (1==·))+1))else Arr.rep 4 0
def u2(d:Arr Int 4):Arr Int 4:=if d.l.findIdx ((-1)==·)<4 then(u1 d).set (d.l.findIdx ((-1)==·)) (w64 ((u1 d).get (d.l.findIdx ((-1)==·))-1))else u1 d
def v3(k:Fin 3):Int:=if k.val=0 then 0 else if k.val=1 then 1 else -1
theorem Aes:∀a b c g:Fin 3,[v3 a,v3 b,v3 c,v3 g].count 1<=1->[v3 a,v3 b,v3 c,v3 g].count (-1)<=1->(u2 ⟨[v3 a,v3 b,v3 c,v3 g],rfl⟩).l=[v3 a,v3 b,v3 c,v3 g]:=by decide +kernel
theorem Ae2{x:Int}(h:x=0\/x=1\/x=-1):∃k,x=v3 k:=by
 rcases h with rfl|rfl|rfl
 ·exact⟨0,rfl⟩
 ·exact⟨1,rfl⟩
 exact⟨2,rfl⟩
theorem AnJ{d:Arr Int 4}(h:W4 d):u2 d=d:=by
 obtain⟨l,hl⟩:=d
 match l,hl with
 |[a,b,c,g],hl=>
  obtain⟨a,rfl⟩:=Ae2 (h.all a (by simp));obtain⟨b,rfl⟩:=Ae2 (h.all b (by simp));obtain⟨c,rfl⟩:=Ae2 (h.all c (by simp));obtain⟨g,rfl⟩:=Ae2 (h.all g (by simp));exact Arr.ext' (Aes a b c g h.one h.neg)
theorem Ail{d:Arr Int 4}(hd:W4 d):PX C3 (pu d) d (Hd E3):=by
 intro l e vs h hv;have hl:d.l.length=4:=d.h;unfold C3;refine AB (Q:=fun z=>Tkz z.1 (pu2 d++vs)/\z.2=(e,u1 d)) ?_ ?_
 ·rw [IP _ Qk (by decide)];unfold pu pu1 at h;unfold u1;by_cases hi:d.l.findIdx (1==·)<4
  ·rw[AqJ hi]at h ⊢;obtain⟨r,h1,h2⟩:=AnR (e:=e) Aj4 hi (by simpa using h);rw[h2];simp only[Ad,Aro];exact CY (As hi) (CY (As hi) (AR (Af ⟨h1,rfl⟩)))
  rw[AqI hi]at h ⊢;rw[Aru]at h
  have h2:chS ⟨l,e⟩ w_units=none:=by
   unfold pu2 at h;by_cases hj:d.l.findIdx ((-1)==·)<4
   ·rw[AqJ hj]at h;exact AoM h (.inr (by decide))
   rw[AqI hj]at h;obtain⟨s,r,rfl,hs⟩:=hv;exact AoM h (.inl (by rw[(Ai1 s hs).1];decide))
  rw[h2];simp only[Ad,Aq6,Arx];exact Af ⟨h,rfl⟩
 rintro⟨l1,e1,z⟩ ⟨h1,h2⟩;simp only at h1;obtain⟨rfl,rfl⟩:=As1 h2;refine AB (Q:=fun z=>∃r,Tkz r vs/\z=.inl (r,e1,d)) ?_ fun z hz=>?_
 ·rw[AQ];simp only[Ad];have hu:=AnJ hd;unfold u2 at hu;unfold pu2 at h1;by_cases hj:d.l.findIdx ((-1)==·)<4
  ·rw[AqJ hj]at h1 hu;obtain⟨r,a1,a2⟩:=QM (e:=e1) (w:=per) (by simpa using h1) (by decide +kernel);rw[show([112,101,114]:List UInt8)=per from rfl,a2];simp only[Aro];rw[KG _ Qk (by decide)];obtain⟨r2,b1,b2⟩:=XQ (e:=e1) Aj4 hj a1;rw[b2];simp only[Ad];refine CY (As hj) (CY (As hj) (AR (Af ⟨r2,b1,?_⟩)));simp only[AqR,hu]
  rw[AqI hj]at h1 hu;rw[Aru]at h1;obtain⟨s,r,rfl,hs⟩:=hv;rw[N0 h1 (.inr (Ai1 s hs).2)];simp only[Aq6,Arx];exact Af ⟨l1,h1,by rw[hu]⟩
 obtain⟨r,h3,rfl⟩:=hz;exact Af ⟨r,h3,rfl⟩
def SR(f:Aqr->List (List UInt8)):List Aqr->List (List UInt8)->List (List UInt8)
 |x::l,s::t=>f x++s::SR f l t
 |_,_=>[]
theorem AkI{f:Aqr->List (List UInt8)}{l:List Aqr}(h:l.length=2):Kc f l Mt 2=SR f l Mt:=by
 match l,h with
 |[a,b],_=>simp[Kc,SR,Mt,nth]
theorem Ajy{f:Aqr->List (List UInt8)}{l:List Aqr}(h:l.length=4):Kc f l MW 4=SR f l MW:=by
 match l,h with
 |[a,b,c,d],_=>simp[Kc,SR,MW,nth]
section
variable {rec_:Ps->Option ((Aqr×Ps)⊕XY)}
theorem PQ{f:Aqr->List (List UInt8)}{L:List Aqr}{signs:List (List UInt8)}(hr:∀y∈L,PX rec_ (f y) y (Hd E1))(hs:∀s∈signs,s∈E1)(hl:L.length=signs.length)(h4:signs.length<=4)(op:Int) {l:List Aqn} {e:Int} {vs:List (List UInt8)} (h:Tkz l ([40]::(SR f L signs++vs))):TP (Bj rec_ ⟨l,e⟩ op signs) fun y=>∃r,Tkz r vs/\y=.inl (Aqr.mk op 0 (Arr.rep 4 0) L,⟨r,e⟩,signs):=by
 unfold Bj;rw[BO];obtain⟨r,h1,h2⟩:=Py (e:=e) h (by decide +kernel);rw[h2];simp only[Ad];refine AB (Q:=fun z=>∃r,Tkz r vs/\z=.inl (r,e,L)) (AB (Q:=fun z=>∃r,Tkz r vs/\z=.inl (r,e,L)) ?_ fun z hz=>?_) fun z hz=>?_
 ·refine AX (fun v=>∃k:Nat,v.1=(k:Int)/\k<=signs.length/\Tkz v.2.1 (SR f (L.drop k) (signs.drop k)++vs)/\v.2.2=(e,L.take k)) (fun v=>((signs.length:Int)-v.1).toNat) ?_ ⟨0,rfl,Aq5 _,h1,rfl⟩ (by simp;omega);rintro⟨_,l,e',xs⟩ ⟨k,rfl,hk,hT,hx⟩;simp only at hT hx;obtain⟨rfl,rfl⟩:=As1 hx;unfold Ca;refine AK (fun hh=>?_) fun hh=>Af ?_
  ·have hk':k<signs.length:=by simpa using hh
   have hkL:k<L.length:=by omega
   rw[Arq hkL,Arq hk',SR,<-Bb hkL,<-Bb hk',Ars]at hT;refine CY (As hk') (AR ?_);simp only[AqR];refine AB (hr _ (AF hkL) l e' _ hT (Aj1 (hs _ (AF hk')))) fun y hy=>?_
   obtain⟨r1,g1,rfl⟩:=hy;have hsk:Kd (nth signs k)≠2:=by rw[(Ai1 _ (e23 _ (e12 _ (hs _ (AF hk'))))).1];decide
   obtain⟨r2,g2,g3⟩:=Py (e:=e') g1 hsk;refine CY (LD (by simp;omega) (by decide)) (AR ?_);rw[BO,g3];simp only[Ad];refine Af ⟨⟨k+1,Bt (by omega),hk',g2,?_⟩,by simp only;rw[Bt (by omega)];omega⟩;rw[Aq0 hkL,Bb hkL]
  have hke:k=signs.length:=by simp at hh;omega
  subst hke;rw[AsO,AsZ (by omega),SR,Aru]at hT
  ·exact⟨l,hT,by rw[Arp (by omega)]⟩
  intros;simp_all
 ·obtain⟨r,h3,rfl⟩:=hz;exact Af ⟨r,h3,rfl⟩
 obtain⟨r,h3,rfl⟩:=hz;exact Af ⟨r,h3,rfl⟩
theorem AfY{ws:List (List UInt8)}{y:Aqr}(hr:PX rec_ ws y (Hd E1)):PX (Au rec_) ([40]::(ws++[[41]])) y (fun _=>True):=by
 intro l e vs h _;have h0:Tkz l ([40]::(ws++[41]::vs)):=by simpa using h
 unfold Au;rw[NB];simp only[Ad];rw[VM,Vo h0 2,AqI (by decide +kernel),AQ];obtain⟨r,h1,h2⟩:=QM (e:=e) h0 (by decide +kernel);rw[h2];simp only[Ad,Aro];refine AB (hr r e _ h1 (Aj1 (by decide))) fun y' hy=>?_
 obtain⟨r2,h3,rfl⟩:=hy;obtain⟨r3,h4,h5⟩:=Py (e:=e) h3 (by decide +kernel);simp only;rw[BO,h5];exact Af ⟨r3,h4,rfl⟩
theorem Alg:∀i,i<16->nth w_attributes i≠[40]/\nth w_attributes i≠[105,102]/\nth w_attributes i ∉ w_calls/\Kd (nth w_attributes i)≠2:=by decide +kernel
theorem Ahp:∀i,i<5->nth w_calls i≠[40]/\nth w_calls i≠[105,102]/\Kd (nth w_calls i)≠2:=by decide +kernel
theorem AaV{d:Nat}(hr:∀y,G1 d y->PX rec_ (pw d y) y (Hd E1)){x:Aqr}(h:G1 (d+1) x)(hx:3<=tg x.Op):PX (Au rec_) (pw (d+1) x) x (Hd E3):=by
 intro l e vs hT hv;obtain⟨f1,f2,f3,f4,f5,f6,f7,f8⟩:=h;obtain⟨op,n,u,L⟩:=x;replace f1:1<=op:=f1;replace f2:op<=11:=f2;replace f3:0<=n:=f3;replace f4:n<=(if op=1 then 1099511627776 else if op=2 then 15 else 0):=f4;replace f5:(L.length:Int)=(if op=1 then 0 else if op=2 then 0 else if op=11 then 4 else 2):=f5;replace f6:BE u=some true:=f6;replace f7:op≠1->u=Arr.rep 4 0:=f7;replace f8:∀y∈L,G1 d y:=f8;replace hx:3<=tg op:=hx
 replace hT:Tkz l ((if op=1 then Lib.itoa n::pu u else if op=2 then[nth w_attributes n.toNat]else if op=11 then[105,102]::[40]::Kc (pw d) L MW 4
  else if op=3\/op=4\/op=5 then Zp (pw d) (nth L 0) (tg op)++(nth Nb (op-3).toNat::Zp (pw d) (nth L 1) (tg op+1))else nth w_calls (op-6).toNat::[40]::Kc (pw d) L Mt 2)++vs):=hT
 unfold Au;rw[NB];simp only[Ad];rw[VM];by_cases c1:op=1
 ·subst c1;rw[AqJ rfl]at hT f4 f5;have hL:L=[]:=Ari.1 (by omega);subst hL;rw[Aq7]at hT;have hk:Kd (Lib.itoa n)=2:=by unfold Kd;rw[SG f3 f4]
  rw[Vo hT 2,hk,AqJ (by decide),Gd];obtain⟨r,h1,h2⟩:=Af9 (e:=e) hT f3 f4;rw[h2];simp only[Ad];refine AB (Ail (Wo f6) r e vs h1 hv) fun y hy=>?_
  obtain⟨r2,h3,rfl⟩:=hy;exact Af ⟨r2,h3,rfl⟩
 rw[AqI c1]at hT f4 f5;have hu:u=Arr.rep 4 0:=f7 c1;subst hu;by_cases c2:op=2
 ·subst c2;rw[AqJ rfl]at hT f4 f5;have hL:L=[]:=Ari.1 (by omega);subst hL;obtain⟨i,rfl⟩:∃i:Nat,n=(i:Int):=⟨n.toNat,by omega⟩;have hi:i<16:=by omega
  obtain⟨a1,a2,a3,a4⟩:=Alg i hi;rw[AqR,Aq7,Aru]at hT;rw[Vo hT 2,AqI (by simpa using a4),AQ,N0 hT (.inr a1)];simp only[Ad,Aq6,Arx];rw[AQ,N0 hT (.inr a2)];simp only[Ad,Aq6,Arx];rw[IP _ S2 (by decide),AoM hT (.inr a3)];simp only[Ad,Aq6,Arx];rw[KG _ FZ (by decide)];obtain⟨r,h1,h2⟩:=XQ (e:=e) Ak8 hi hT;rw[h2];exact Af ⟨r,h1,rfl⟩
 rw[AqI c2]at hT f4 f5;have hn:n=0:=by omega
 subst hn;by_cases c3:op=11
 ·subst c3;rw[AqJ rfl]at hT f5;have hL:L.length=4:=by omega
  rw[Ajy hL,Aq7,Aq7]at hT;rw[Vo hT 2,AqI (by decide +kernel),AQ,N0 hT (.inr (by decide))];simp only[Ad,Aq6,Arx];rw[AQ];obtain⟨r,h1,h2⟩:=QM (e:=e) hT (by decide +kernel);rw[h2];simp only[Ad,Aro];refine AB (PQ (signs:=MW) (fun y hy=>hr y (f8 y hy)) (by decide) hL (by decide) 11 h1) fun y hy=>?_
  obtain⟨r2,h3,rfl⟩:=hy;exact Af ⟨r2,h3,rfl⟩
 rw[AqI c3]at hT f5;have hL:L.length=2:=by omega
 have c4:¬(op=3\/op=4\/op=5):=by
  rintro(rfl|rfl|rfl)<;>exact absurd hx (by decide)
 rw[AqI c4,AkI hL,Aq7,Aq7]at hT;have c5:op≠3/\op≠4/\op≠5:=⟨fun q=>c4 (.inl q),fun q=>c4 (.inr (.inl q)),fun q=>c4 (.inr (.inr q))⟩;obtain⟨i,rfl⟩:∃i:Nat,op=6+(i:Int):=⟨(op-6).toNat,by omega⟩;have hi:i<5:=by omega
 obtain⟨a1,a2,a3⟩:=Ahp i hi;have ei:((6+(i:Int))-6).toNat=i:=by omega
 rw[ei]at hT;rw[Vo hT 2,AqI (by simpa using a3),AQ,N0 hT (.inr a1)];simp only[Ad,Aq6,Arx];rw[AQ,N0 hT (.inr a2)];simp only[Ad,Aq6,Arx];obtain⟨r,h1,h2⟩:=AnR (e:=e) AoR hi hT;rw[IP _ S2 (by decide),h2];simp only[Ad,Aro];rw[FB (by omega)];refine AB (PQ (signs:=Mt) (fun y hy=>hr y (f8 y hy)) (by decide) hL (by decide) _ h1) fun y hy=>?_
 obtain⟨r2,h3,rfl⟩:=hy;exact Af ⟨r2,h3,rfl⟩
end
def Rc{V X:Type}(f:V->Option (V⊕X)):Nat->V->V->Prop
 |0,v,w=>v=w
 |k+1,v,w=>∃u,f v=some (.inl u)/\Rc f k u w
theorem Rc.snoc{V X:Type}{f:V->Option (V⊕X)}:∀{k:Nat} {v w u:V},Rc f k v w->f w=some (.inl u)->Rc f (k+1) v u
 |0,v,w,u,h,hf=>by
  have h:v=w:=h;subst h;exact⟨u,hf,rfl⟩
 |k+1,v,w,u,⟨a,h1,h2⟩,hf=>⟨a,h1,Rc.snoc h2 hf⟩
theorem Rc.loop{V X:Type}{f:V->Option (V⊕X)}{k:Nat}{v w:V}{z:X}(h:Rc f k v w)(hk:k<18446744073709551616)(hw:f w=some (.inr z)):Bf f v=some z:=by
 obtain⟨x,hx,hq⟩:=UF (f:=f) k (fun j u=>Rc f (k-j) u w) (fun x=>x=z) hk (fun j u hj hr=>by
  obtain⟨m,hm⟩:∃m,k-j=m+1:=⟨k-j-1,by omega⟩;rw[hm]at hr;obtain⟨a,h1,h2⟩:=hr;exact⟨a,h1,by rw[show k-(j+1)=m by omega];exact h2⟩) (fun u hr=>by
  rw[AsJ]at hr;have hr:u=w:=hr;subst hr;exact⟨z,hw,rfl⟩) (v0:=v) (by rw[Nat.sub_zero];exact h)
 rw[hx,hq]
abbrev Cs:=Int×List Aqn×Int×Int×Int×Arr Int 4×List Aqr
abbrev Ct:=List Aqn×Int×Int×Int×Arr Int 4×List Aqr
abbrev Cr:=(Aqr×Ps)⊕XY
def gB(opd:Ps->Option Cr)(opr:Ps->Option (Int×Ps))(v:Cs):Option (Cs⊕(Ct⊕(Ct⊕Cr))) :=
 if(v.1 != 0)then
  (opd { l:=v.2.1,end_:=v.2.2.1 }).bind fun y=>match y with
  |.inl y=>(opr y.2).bind fun z=>some (.inl (z.1,z.2.l,z.2.end_,v.1,0,Arr.rep 4 0,[Aqr.mk v.2.2.2.1 v.2.2.2.2.1 v.2.2.2.2.2.1 v.2.2.2.2.2.2,y.1]))
  |.inr e=>some (.inr (.inr (.inr (.inr (e.1,e.2.1,e.2.2)))))
 else some (.inr (.inl v.2))
def gch(opd:Ps->Option Cr)(opr:Ps->Option (Int×Ps))(p:Ps):Option Cr :=
 (opd p).bind fun y=>match y with
 |.inl y=>((opr y.2).bind fun z=>(Bf (gB opd opr) (z.1,z.2.l,z.2.end_,y.1.Op,y.1.N,y.1.Unit,y.1.L)).bind fun x=>match x with
  |.inl t=>some (.inl t)
  |.inr z=>some z:Option (Ct⊕Cr)).bind fun x=>match x with
  |.inl t=>some (.inl (Aqr.mk t.2.2.1 t.2.2.2.1 t.2.2.2.2.1 t.2.2.2.2.2,{ l:=t.1,end_:=t.2.1 }))
  |.inr z=>some z
 |.inr e=>some (.inr (e.1,e.2.1,e.2.2))
section
variable {rec_:Ps->Option ((Aqr×Ps)⊕XY)}
theorem Ye(p:Ps):AE rec_ p=gch (Au rec_) Av p:=by
 unfold AE gch
 have e:(fun(v:Int×List Aqn×Int×Int×Int×Arr Int 4×List Aqr)=>AH rec_ v.1 v.2.1 v.2.2.1 v.2.2.2.1 v.2.2.2.2.1 v.2.2.2.2.2.1 v.2.2.2.2.2.2)=gB (Au rec_) Av:=by
  funext v;unfold AH gB;rfl
 rw[e];cases Au rec_ p with
 |none=>rfl
 | some y=>
  cases y with
  |inr z=>rfl
  | inl v=>
   simp only[Ad];cases Av v.2 with
   |none=>rfl
   | some z=>
    simp only[Ad];cases Bf (gB (Au rec_) Av) (z.1,z.2.l,z.2.end_,v.1.Op,v.1.N,v.1.Unit,v.1.L)with
    |none=>rfl
    |some x=>
     cases x with
     |inl t=>rfl
     |inr t=>cases t<;>rfl
theorem Aee(p:Ps):AD rec_ p=gch (A5 rec_) A4 p:=by
 unfold AD gch
 have e:(fun(v:Int×List Aqn×Int×Int×Int×Arr Int 4×List Aqr)=>AG rec_ v.1 v.2.1 v.2.2.1 v.2.2.2.1 v.2.2.2.2.1 v.2.2.2.2.2.1 v.2.2.2.2.2.2)=gB (A5 rec_) A4:=by
  funext v;unfold AG gB;rfl
 rw[e];cases A5 rec_ p with
 |none=>rfl
 | some y=>
  cases y with
  |inr z=>rfl
  | inl v=>
   simp only[Ad];cases A4 v.2 with
   |none=>rfl
   | some z=>
    simp only[Ad];cases Bf (gB (A5 rec_) A4) (z.1,z.2.l,z.2.end_,v.1.Op,v.1.N,v.1.Unit,v.1.L)with
    |none=>rfl
    |some x=>
     cases x with
     |inl t=>rfl
     |inr t=>cases t<;>rfl
end
def cst(z:Int×Ps)(x:Aqr):Cs:=(z.1,z.2.l,z.2.end_,x.Op,x.N,x.Unit,x.L)
section
variable {opd:Ps->Option Cr}{opr:Ps->Option (Int×Ps)}
theorem Ady{l r0 r:List Aqn}{e:Int}{x0 x:Aqr}{z0:Int×Ps}{k:Nat}(h0:opd ⟨l,e⟩=some (.inl (x0,⟨r0,e⟩)))(hz:opr ⟨r0,e⟩=some z0)(hk:k<1000000)(hr:Rc (gB opd opr) k (cst z0 x0) (cst (0,⟨r,e⟩) x)):gch opd opr ⟨l,e⟩=some (.inl (x,⟨r,e⟩)):=by
 have hl:=hr.loop (z:=.inl (cst (0,⟨r,e⟩) x).2) (by omega) rfl;unfold gch;rw[h0];simp only[Ad];rw[hz];simp only[Ad];show((Bf (gB opd opr) (cst z0 x0)).bind _ |>.bind _)=_;rw[hl];simp only[Ad,cst,G0]
theorem Ah0{ws:List (List UInt8)}{y:Aqr}{R R':List (List UInt8)->Prop}(h:PX opd ws y R)(hs:∀r e vs,Tkz r vs->R' vs->R vs/\opr ⟨r,e⟩=some (0,⟨r,e⟩)):PX (gch opd opr) ws y R':=by
 intro l e vs hT hv
 obtain⟨z,hz,r,hr,rfl⟩:=h l e vs hT (by
  have:=hs (vs.map tkw) 0 vs (by simp[Tkz,er,tkw,Asi]) hv;exact this.1)
 exact⟨_,Ady hz (hs r e vs hr hv).2 (k:=0) (by omega) rfl,r,hr,rfl⟩
structure Lev(opr:Ps->Option (Int×Ps))(lev:Int)(E E0:List (List UInt8)):Prop where
  tot:∀p,∃z,opr p=some z
  sgn:∀op l e vs,3<=op->op<=5->tg op=lev->Tkz l (nth Nb (op-3).toNat::vs)->nth Nb (op-3).toNat∈E/\∃r,Tkz r vs/\opr ⟨l,e⟩=some (op,⟨r,e⟩)
  stop:∀l e vs,Tkz l vs->Hd E0 vs->Hd E vs/\opr ⟨l,e⟩=some (0,⟨l,e⟩)
theorem AmI{lev:Int}{E E0:List (List UInt8)}(hl:Lev opr lev E E0)(hlev:lev=1\/lev=2)(D:Nat)(hop:∀d,d<=D->∀y,G1 d y->lev+1<=tg y.Op->PX opd (pw d y) y (Hd E))(hpar:∀d,d<D->∀y,G1 d y->PX opd ([40]::(pw d y++[[41]])) y (Hd E)) :∀d,d<=D->∀x,G1 d x->lev<=tg x.Op->∀l e vs,Tkz l (pw d x++vs)->Hd E vs->∃x0 r0 z0 r z k,k<=d/\opd ⟨l,e⟩=some (.inl (x0,⟨r0,e⟩))/\opr ⟨r0,e⟩=some z0/\Tkz r vs/\opr ⟨r,e⟩=some z/\Rc (gB opd opr) k (cst z0 x0) (cst z x)
 |0,_,x,h,_,_,_,_,_,_=>h.elim
 | d+1,hd,x,h,hx,l,e,vs,hT,hv=>by
  by_cases hc:lev+1<=tg x.Op
  ·obtain⟨y,hy,r,hr,rfl⟩:=hop (d+1) hd x h hc l e vs hT hv;obtain⟨z,hz⟩:=hl.tot ⟨r,e⟩;exact⟨x,r,z,r,z,0,Aq5 _,hy,hz,hr,hz,rfl⟩
  have htg:tg x.Op=lev:=by omega
  have h35:x.Op=3\/x.Op=4\/x.Op=5:=by
   unfold tg at htg;by_cases a:x.Op=3
   ·exact .inl a
   by_cases b:x.Op=4
   ·exact .inr (.inl b)
   by_cases c:x.Op=5
   ·exact .inr (.inr c)
   rw[AqI a,AqI b,AqI c]at htg;omega
  obtain⟨f1,f2,f3,f4,f5,f6,f7,f8⟩:=h;have n1:x.Op≠1:=by omega
  have n2:x.Op≠2:=by omega
  have n11:x.Op≠11:=by omega
  rw[AqI n1,AqI n2]at f4;rw[AqI n1,AqI n2,AqI n11]at f5;have hL:x.L.length=2:=by omega
  unfold pw at hT;rw[AqI n1,AqI n2,AqI n11,AqJ h35,htg,Ars,Aq7]at hT;have m0:=AF (show 0<x.L.length by omega);have m1:=AF (show 1<x.L.length by omega);have hsE:nth Nb (x.Op-3).toNat∈E:=(hl.sgn x.Op ((nth Nb (x.Op-3).toNat::vs).map tkw) 0 vs (by omega) (by omega) htg (by simp[Tkz,er,tkw,Asi])).1
  obtain⟨x0,r0,z0,r,z,k,hk,g1,g2,g3,g4,g5⟩:∃x0 r0 z0 r z k,k<=d/\opd ⟨l,e⟩=some (.inl (x0,⟨r0,e⟩))/\opr ⟨r0,e⟩=some z0/\Tkz r (nth Nb (x.Op-3).toNat::(Zp (pw d) (nth x.L 1) (lev+1)++vs))/\opr ⟨r,e⟩=some z/\Rc (gB opd opr) k (cst z0 x0) (cst z (nth x.L 0)):=by
   unfold Zp at hT;by_cases ha:lev<=tg (nth x.L 0).Op
   ·rw[AqJ ha]at hT;exact AmI hl hlev D hop hpar d (by omega) _ (f8 _ m0) ha l e _ hT (Aj1 hsE)
   rw[AqI ha]at hT;obtain⟨y,hy,r,hr,rfl⟩:=hpar d (by omega) _ (f8 _ m0) l e _ hT (Aj1 hsE);obtain⟨z,hz⟩:=hl.tot ⟨r,e⟩;exact⟨_,r,z,r,z,0,Aq5 _,hy,hz,hr,hz,rfl⟩
  obtain⟨_,r1,k1,k2⟩:=hl.sgn x.Op r e _ (by omega) (by omega) htg g3;rw[k2]at g4;obtain rfl:=AqF g4
  obtain⟨y,hy,r2,hr2,rfl⟩:TP (opd ⟨r1,e⟩) fun y=>∃r,Tkz r vs/\y=.inl (nth x.L 1,⟨r,e⟩):=by
   unfold Zp at k1;by_cases hb:lev+1<=tg (nth x.L 1).Op
   ·rw[AqJ hb]at k1;exact hop d (by omega) _ (f8 _ m1) hb r1 e vs k1 hv
   rw[AqI hb]at k1;exact hpar d (by omega) _ (f8 _ m1) r1 e vs k1 hv
  obtain⟨z,hz⟩:=hl.tot ⟨r2,e⟩;refine⟨x0,r0,z0,r2,z,k+1,by omega,g1,g2,hr2,hz,g5.snoc ?_⟩;have hne:(x.Op != 0)=true:=by simp;omega
  have hxe:[nth x.L 0,nth x.L 1]=x.L:=by
   obtain⟨a,b,hab⟩:∃a b,x.L=[a,b]:=by
    match hx':x.L,hL with
    |[a,b],_=>exact⟨a,b,rfl⟩
   rw[hab];rfl
  have hN:x.N=0:=by omega
  have hU:x.Unit=Arr.rep 4 0:=f7 n1;unfold gB cst;simp only[G0];rw[AqJ hne,hy];simp only[Ad];rw[hz];simp only[Ad,hxe,hN,hU]
theorem Yp{lev:Int}{E E0:List (List UInt8)}(hl:Lev opr lev E E0)(hlev:lev=1\/lev=2)(D:Nat)(hD:D<1000000)(hop:∀d,d<=D->∀y,G1 d y->lev+1<=tg y.Op->PX opd (pw d y) y (Hd E))(hpar:∀d,d<D->∀y,G1 d y->PX opd ([40]::(pw d y++[[41]])) y (Hd E)) (d:Nat) (hd:d<=D) (x:Aqr) (h:G1 d x) (hx:lev<=tg x.Op):PX (gch opd opr) (pw d x) x (Hd E0):=by
 intro l e vs hT hv;obtain⟨hv',_⟩:=hl.stop (vs.map tkw) 0 vs (by simp[Tkz,er,tkw,Asi]) hv;obtain⟨x0,r0,z0,r,z,k,hk,g1,g2,g3,g4,g5⟩:=AmI hl hlev D hop hpar d hd x h hx l e vs hT hv';rw[(hl.stop r e vs g3 hv).2]at g4;obtain rfl:=AqF g4;exact⟨_,Ady g1 g2 (by omega) g5,r,g3,rfl⟩
end
theorem lev2:Lev Av 2 E3 E2 where
 tot:=fun p=>by
  unfold Av;rw[AQ];simp only[Ad];split<;>exact⟨_,rfl⟩
 sgn:=fun op l e vs h3 h5 ht h=>by
  have:op=5:=by
   by_cases a:op=3
   ·subst a;exact absurd ht (by decide)
   by_cases b:op=4
   ·subst b;exact absurd ht (by decide)
   omega
  subst this;obtain⟨r,h1,h2⟩:=QM (e:=e) (w:=[42]) h (by decide +kernel);refine⟨by decide,r,h1,?_⟩;unfold Av;rw[AQ,h2];rfl
 stop:=fun l e vs h hv=>by
  refine⟨hv.up e23,?_⟩;obtain⟨s,r,rfl,hs⟩:=hv;unfold Av;rw[AQ,N0 h (.inr fun q=>absurd hs (by rw[q];decide))];rfl
theorem lev1:Lev A4 1 E2 E1 where
 tot:=fun p=>by
  unfold A4;rw[AQ];simp only[Ad];split
  ·exact⟨_,rfl⟩
  rw[AQ];simp only[Ad];split<;>exact⟨_,rfl⟩
 sgn:=fun op l e vs h3 h5 ht h=>by
  have:op=3\/op=4:=by
   by_cases a:op=5
   ·subst a;exact absurd ht (by decide)
   omega
  unfold A4;rcases this with rfl|rfl
  ·obtain⟨r,h1,h2⟩:=QM (e:=e) (w:=[43]) h (by decide +kernel);refine⟨by decide,r,h1,?_⟩;rw[AQ,h2];rfl
  have h:Tkz l ([45]::vs):=h;obtain⟨r,h1,h2⟩:=QM (e:=e) (w:=[45]) h (by decide +kernel);refine⟨by decide,r,h1,?_⟩;rw[AQ,N0 h (.inr (by decide))];simp only[Ad,Aq6,Arx];rw[AQ,h2];rfl
 stop:=fun l e vs h hv=>by
  refine⟨hv.up e12,?_⟩;obtain⟨s,r,rfl,hs⟩:=hv;unfold A4;rw[AQ,N0 h (.inr fun q=>absurd hs (by rw[q];decide))];simp only[Ad,Aq6,Arx];rw[AQ,N0 h (.inr fun q=>absurd hs (by rw[q];decide))];rfl
theorem AoS(op:Int):1<=tg op:=by unfold tg;split<;>(try split)<;>(try split)<;>decide
theorem Ww{f g:Ps->Option Cr}{ws:List (List UInt8)}{x:Aqr}{R:List (List UInt8)->Prop}(h:PX f ws x R)(hg:∀p,g p=(f p).bind fun y=>match y with|.inl v=>some (.inl (v.1,v.2))|.inr v=>some (.inr (v.1,v.2.1,v.2.2))):PX g ws x R:=by
 intro l e vs hT hv;obtain⟨y,hy,r,hr,rfl⟩:=h l e vs hT hv;exact⟨_,by rw[hg,hy];rfl,r,hr,rfl⟩
theorem AcD:∀n d:Nat,d<=n->d<1000000->∀x,G1 d x->PX (AZ n) (pw d x) x (Hd E1)
 |0,0,_,_,x,h=>h.elim
 |0,d+1,hd,_,x,h=>by omega
 | n+1,D,hD,hn,x,h=>by
  have ih:=AcD n
  have a1:∀d,d<=D->∀y,G1 d y->2+1<=tg y.Op->PX (Au (AZ n)) (pw d y) y (Hd E3)
   |0,_,y,hy,_=>hy.elim
   |d+1,hd,y,hy,ht=>AaV (fun w hw=>ih d (by omega) (by omega) w hw) hy ht
  have a2:∀d,d<D->∀y,G1 d y->PX (Au (AZ n)) ([40]::(pw d y++[[41]])) y (Hd E3):=fun d hd y hy=>(AfY (ih d (by omega) (by omega) y hy)).imp fun _ _=>trivial
  have b1:∀d,d<=D->∀y,G1 d y->1+1<=tg y.Op->PX (A5 (AZ n)) (pw d y) y (Hd E2):=fun d hd y hy ht=>Ww (Yp lev2 (.inr rfl) D hn a1 a2 d hd y hy ht) fun p=>by
   unfold A5;rw[Ye];rfl
  have b2:∀d,d<D->∀y,G1 d y->PX (A5 (AZ n)) ([40]::(pw d y++[[41]])) y (Hd E2):=fun d hd y hy=>Ww (Ah0 (a2 d hd y hy) fun r e vs h1 h2=>lev2.stop r e vs h1 h2) fun p=>by
   unfold A5;rw[Ye];rfl
  exact Ww (Yp lev1 (.inl rfl) D hn b1 b2 D (AqT _) x h (AoS _)) fun p=>by
   show BQ (AZ n) p=_;unfold BQ;rw[Aee];rfl
theorem Aez{x:Aqr}(h:G1 900000 x):PX EI (pw 900000 x) x (Hd E1):=AcD 18446744073709551616 900000 (by omega) (by omega) x h
def R3:JD:=(ttype_rules).getD no2
theorem Aec:ttype_rules=some R3:=rfl
theorem AiQ{op:Int}(h1:3<=op)(h2:op<=11):(op=11/\((R3 op).getD ⟨0,0⟩).k=120)\/(op≠11/\(((R3 op).getD ⟨0,0⟩).k=119\/((R3 op).getD ⟨0,0⟩).k=165)):=by
 rcases(show op=3\/op=4\/op=5\/op=6\/op=7\/op=8\/op=9\/op=10\/op=11 by omega)with rfl|rfl|rfl|rfl|rfl|rfl|rfl|rfl|rfl<;>decide +kernel
theorem W3(l:List (Arr Int 4))(p:Int)(hl:2<=l.length):Aak (G2 l p):=by
 unfold G2
 refine AB (Q:=fun _=>True) (AB (Q:=fun z=>match z with
  |.inr (.inl _)=>False
  |_=>True) ?_ fun z hz=>?_) fun z _=>?_
 ·refine AX (fun v=>∃k:Nat,v.1=(k:Int)/\k<=4) (fun v=>(4-v.1).toNat) ?_ ⟨0,rfl,Aq5 _⟩ (by simp);rintro⟨_,f⟩ ⟨k,rfl,hk⟩;unfold FN;refine AK (fun h=>?_) fun _=>Af trivial
  have hk':k<4:=by simp only[Aq1]at h;omega
  refine CY (As (k:=0) (by omega)) (CY (As hk') (CY (As (k:=1) (by omega)) (CY (As hk') (CY (As hk') (AR ?_)))));refine AB (Q:=fun _=>True) (CY (As hk') (AK (fun _=>Af trivial) fun _=>CY (As hk') (Af trivial))) fun b _=>AK (fun _=>AR (Af trivial)) fun _=>Af ⟨⟨k+1,Bt (by omega),hk'⟩,by simp only;rw[Bt (by omega)];omega⟩
 ·match z,hz with
  |.inl f,_=>exact Af trivial
  |.inr (.inr z),_=>exact Af trivial
 match z with
 |.inl f=>exact Af trivial
 |.inr z=>exact Af trivial
theorem LM:∀(d:Nat) (x:Aqr) (n:Nat),G1 d x->d<=n->Aak (Hm n R3 x)
 |0,x,n,h,_=>h.elim
 |d+1,x,0,_,h=>by omega
 | d + 1,x,n+1,h,hn=>by
  obtain⟨h1,h2,h3,h4,h5,h6,h7,h8⟩:=h;show Aak (Hg (Hm n) R3 x);unfold Hg;refine AK (fun _=>Af trivial) fun c1=>AK (fun c2=>?_) fun c2=>?_
  ·have c1':x.Op≠1:=by simpa using c1
   have c2':x.Op=2:=by simpa using c2
   rw[AqI c1',AqJ c2']at h4;refine AB (Q:=fun _=>True) ?_ fun y _=>CY ⟨h3,by omega⟩ (AR (Af trivial))
   unfold ttype_attributes;exact AR (AR (AR (AR (Af trivial))))
  have c1':x.Op≠1:=by simpa using c1
  have c2':x.Op≠2:=by simpa using c2
  rw[AqI c1',AqI c2']at h5;have h4':x.L.length<=4:=by split at h5<;>omega
  refine AB (Q:=fun z=>match z with
   |.inl l=>l.length=x.L.length
   |.inr _=>True) (AB (Q:=fun z=>match z with
   |.inl l=>l.length=x.L.length
   |.inr (.inl _)=>False
   |.inr (.inr _)=>True) ?_ fun z hz=>?_) fun z hz=>?_
  ·refine AX (fun v=>∃k:Nat,v.1=(k:Int)/\k<=x.L.length/\v.2.length=k) (fun v=>((x.L.length:Int)-v.1).toNat) ?_ ⟨0,rfl,Aq5 _,rfl⟩ (by simp;omega);rintro⟨_,l⟩ ⟨k,rfl,hk,hl⟩;simp only at hl;unfold H7;refine AK (fun h=>?_) fun h=>Af ?_
   ·have hk':k<x.L.length:=by simpa using h
    refine CY (As hk') (AR (AR (AR (AR ?_))));simp only[AqR,G0];refine Aji (LM d _ n (h8 _ (AF hk')) (by omega)) fun y=>AK (fun _=>AR (Af trivial)) fun _=>CY (LD (by omega) (by decide)) (AR (Af ⟨⟨k+1,Bt (by omega),hk',by simp only[AqM,Arl];omega⟩,by simp only;rw[Bt (by omega)];omega⟩))
   simp only[Aq1]at h;show l.length=_;omega
  ·match z,hz with
   |.inl l,hz=>exact Af hz
   |.inr (.inr z),_=>exact Af trivial
  match z,hz with
  |.inr z,_=>exact Af trivial
  | .inl l,hz=>
   have hz':l.length=x.L.length:=hz;rcases AiQ (op:=x.Op) (by omega) h2 with⟨e,hr⟩|⟨e,hr|hr⟩
   ·rw[AqJ e]at h5;simp only[hr];refine AK (fun h=>by cases h) fun _=>AK (fun _=>?_) fun h=>absurd trivial h
    refine AB (Q:=fun _=>True) ?_ fun y _=>AK (fun _=>AR (Af trivial)) fun _=>Af trivial
    unfold H6;exact AB (Q:=fun _=>True) (CY (As (k:=2) (by omega)) (CY (As (k:=0) (by omega)) (CY (As (k:=1) (by omega)) (AK (fun _=>CY (As (k:=2) (by omega)) (CY (As (k:=3) (by omega)) (Af trivial))) fun _=>Af trivial)))) fun _ _=>Af trivial
   ·rw[AqI e]at h5;simp only[hr];refine AK (fun _=>?_) fun h=>absurd trivial h
    refine AB (Q:=fun _=>True) ?_ fun y _=>AK (fun _=>AR (Af trivial)) fun _=>Af trivial
    unfold H5;exact CY (As (k:=0) (by omega)) (CY (As (k:=0) (by omega)) (CY (As (k:=1) (by omega)) (Af trivial)))
   rw[AqI e]at h5;simp only[hr];refine AK (fun h=>by cases h) fun _=>AK (fun h=>by cases h) fun _=>AK (fun _=>?_) fun h=>absurd trivial h
   exact AB (W3 l _ (by omega)) fun y _=>AK (fun _=>AR (Af trivial)) fun _=>Af trivial
theorem Ab2{t:Aqt}{n:Nat}(hz:Tz n t)(hn:n<1000000):Aak (HG t):=by
 obtain⟨e,he,hk⟩:=LR t hz hn;unfold HG;rw[he];simp only[Ad];refine AK (fun _=>Af trivial) fun h0=>?_
 have hok:=hk (by simpa using h0);have hl:=hok.few;rw[Aec];simp only[Ad]
 refine AB (Q:=fun _=>True) (AB (Q:=fun z=>match z with
  |.inr (.inl _)=>False
  |_=>True) ?_ fun z hz=>?_) fun z _=>?_
 ·refine AX (fun v=>∃k:Nat,v=(k:Int)/\k<=t.Clauses.length) (fun v=>((t.Clauses.length:Int)-v).toNat) ?_ ⟨0,rfl,Aq5 _⟩ (by simp;omega);rintro _ ⟨k,rfl,hk⟩;unfold GV;refine AK (fun h=>?_) fun h=>Af trivial
  have hk':k<t.Clauses.length:=by simpa using h
  refine CY (As hk') (AR (AR (AR (AR (AR (AR ?_))))));simp only[AqR,G0];refine Aji (LM 900000 _ _ (hok.all _ (AF hk')).pay (by omega)) fun y=>AB (Q:=fun _=>True) (AK (fun _=>Af trivial) fun _=>Af trivial) fun b _=>AK (fun _=>Af trivial) fun _=>Af ⟨⟨k+1,Bt (by omega),hk'⟩,by rw[Bt (by omega)];omega⟩
 ·match z,hz with
  |.inl _,_=>exact Af trivial
  |.inr (.inr z),_=>exact Af trivial
 match z with
 |.inl ()=>exact Af trivial
 |.inr z=>exact Af trivial
theorem Ia(c:AqB)(op n m:Int)(h:c.code.length<2000000000):Ar c op n m=some ((c.code.length:Int),⟨c.code++[⟨op,n,m⟩]⟩):=by
 unfold Ar;rw[B5,AqJ (LD (by omega) (by decide))];rfl
theorem SC(c:AqB)(p:Nat)(h:p<c.code.length):TP (Bc c (p:Int)) fun r=>r.code.length=c.code.length:=by
 unfold Bc;exact CY (As h) (AR (Af (by simp)))
def Aic(d:Nat)(rec_:AqB->Aqr->Option AqB):Prop:=∀(c:AqB) (x:Aqr),G1 d x->c.code.length+4*nod d x<=1900000000->TP (rec_ c x) fun r=>c.code.length<=r.code.length/\r.code.length<=c.code.length+4*nod d x
theorem sum4{g:Aqr->Nat}{l:List Aqr}(h:l.length=4):(l.map g).sum=g (nth l 0)+(g (nth l 1)+(g (nth l 2)+g (nth l 3))):=by
 match l,h with
 |[a,b,c,d],_=>simp[nth]
theorem Aio{d:Nat}{rec_:AqB->Aqr->Option AqB}(hr:Aic d rec_):Aic (d+1) (BG rec_):=by
 intro c x h hp;obtain⟨h1,h2,h3,h4,h5,h6,h7,h8⟩:=h;have hp':c.code.length+4*(1+(x.L.map (nod d)).sum)<=1900000000:=hp;show TP _ fun r:AqB=>_/\r.code.length<=c.code.length+4*(1+(x.L.map (nod d)).sum)
 unfold BG;refine AK (fun _=>?_) fun c1=>AK (fun _=>?_) fun c2=>AK (fun c3=>?_) fun c3=>?_
 ·rw[Ia _ _ _ _ (by omega)];simp only[Ad,B5];exact Af (by simp;omega)
 ·rw[Ia _ _ _ _ (by omega)];simp only[Ad,B5];exact Af (by simp;omega)
 ·have c1':x.Op≠1:=by simpa using c1
  have c2':x.Op≠2:=by simpa using c2
  have c3':x.Op=11:=by simpa using c3
  rw[AqI c1',AqI c2',AqJ c3']at h5;have hl:x.L.length=4:=by omega
  rw[sum4 hl]at hp' ⊢;refine CY (As (k:=0) (by omega)) (AB (hr _ _ (h8 _ (AF (by omega))) (by omega)) fun r0 b0=>AR (CY (As (k:=1) (by omega)) ?_));refine AB (hr _ _ (h8 _ (AF (by omega))) (by simp only;omega)) fun r1 b1=>AR ?_
  simp only at b1;rw[Ia _ _ _ _ (by simp only;omega)];simp only[Ad,B5];rw[Ia _ _ _ _ (by simp only[AqM,Arl];omega)];simp only[Ad,B5,AqM,Arl];refine CY (As (k:=2) (by omega)) (AB (hr _ _ (h8 _ (AF (by omega))) (by simp only[AqM,Arl];omega)) fun r2 b2=>?_);simp only[AqM,Arl]at b2;rw[Ia _ _ _ _ (by simp only;omega)];simp only[Ad];refine AB (SC _ _ (by simp only[AqM,Arl];omega)) fun r3 b3=>?_
  simp only[AqM,Arl]at b3;refine CY (As (k:=3) (by omega)) (AB (hr _ _ (h8 _ (AF (by omega))) (by simp only;omega)) fun r4 b4=>?_);simp only at b4;refine AB (SC _ _ (by simp only;omega)) fun r5 b5=>Af ?_
  simp only at b5 ⊢;omega
 have c1':x.Op≠1:=by simpa using c1
 have c2':x.Op≠2:=by simpa using c2
 have c3':x.Op≠11:=by simpa using c3
 rw[AqI c1',AqI c2',AqI c3']at h5;have hl:x.L.length=2:=by omega
 rw[AnD hl]at hp' ⊢;refine CY (As (k:=0) (by omega)) (AB (hr _ _ (h8 _ (AF (by omega))) (by omega)) fun r0 b0=>AR (CY (As (k:=1) (by omega)) ?_));refine AB (hr _ _ (h8 _ (AF (by omega))) (by simp only;omega)) fun r1 b1=>AR ?_
 simp only at b1;rw[Ia _ _ _ _ (by simp only;omega)];simp only[Ad,B5];refine Af ?_;simp only[AqM,Arl];omega
theorem AbZ:∀d n,d<=n->Aic d (C0 n)
 |0,_,_=>fun c x h _=>h.elim
 |d+1,0,h=>by omega
 |d+1,n+1,h=>Aio (AbZ d n (by omega))
theorem NY:∀(l:List Aqp) (c:AqB) (ats:List Int),c.code.length+3*l.length<=1900000000->(∀a∈ats,∃k:Nat,a=(k:Int)/\k<c.code.length) ->TP (BZ l c ats) fun s=>s.1.code.length=c.code.length+3*l.length/\∀a∈s.2,∃k:Nat,a=(k:Int)/\k<s.1.code.length
 |[],c,ats,_,h=>Af ⟨by simp,h⟩
 | t::l,c,ats,hl,h=>by
  simp only[AqP]at hl;unfold BZ;rw[Ia _ _ _ _ (by omega)];simp only[Ad];rw[Ia _ _ _ _ (by simp;omega)];simp only[Ad];rw[Ia _ _ _ _ (by simp;omega)];simp only[Ad];refine Ao8 (NY l _ _ (by simp only[AqM,Arl];omega) fun a ha=>?_) fun s hs=>?_
  ·rcases Aq9.1 ha with rfl|ha
   ·exact⟨_,rfl,by simp⟩
   obtain⟨k,e,hk⟩:=h a ha;exact⟨k,e,by simp only[AqM,Arl];omega⟩
  simp only[AqM,Arl,AqP,Ara]at hs ⊢;exact⟨by omega,hs.2⟩
theorem QZ:∀(l:List Int) (c:AqB),(∀a∈l,∃k:Nat,a=(k:Int)/\k<c.code.length)->TP (C4 l c) fun r=>r.code.length=c.code.length
 |[],c,_=>Af rfl
 |a::l,c,h=>by
  obtain⟨k,rfl,hk⟩:=h a Aq4;unfold C4;refine AB (SC c k hk) fun r hr=>Ao8 (QZ l r fun a ha=>?_) fun s hs=>hs.trans hr
  rw[hr];exact h a (Arn _ ha)
theorem UP(c:AqB)(x:Aqs)(i:Int)(h:OkC x)(hz:nod 900000 x.Pay<=900000)(hc:c.code.length<=1000000000):TP (CM c x i) fun r=>r.code.length<=c.code.length+3600030:=by
 have hf:=h.few;unfold CM;refine CY (by omega) (AB (NY _ _ _ (by omega) (by simp)) fun s hs=>AB (AbZ 900000 _ (by omega) s.1 x.Pay h.pay (by omega)) fun c1 h1=>?_);rw[Ia _ _ _ _ (by omega)];simp only[Ad];refine Ao8 (QZ _ _ fun a ha=>?_) fun r hr=>?_
 ·obtain⟨k,e,hk⟩:=hs.2 a ha;exact⟨k,e,by simp only[AqM,Arl];omega⟩
 rw[hr];simp only[AqM,Arl];omega
theorem AeM:((List.range 4097).all fun n=>decide (MB 1 (UInt64.ofInt (n:Int))=some (0,UInt64.ofInt (n:Int))/\(UInt64.ofInt (n:Int)).toNat=n/\¬UInt64.ofInt (n:Int)>9223372036854775807))=true:=by decide +kernel
theorem WP(n:Nat)(h1:1<=n)(h2:n<=4096):TP (E9 [-1] (n:Int)) fun l=>l.length=n:=by
 have hb:=AeM;rw[AqW]at hb;obtain⟨m1,m2,m3⟩:=AsL (hb n (ArD.2 (by omega)));have hw:w64 (n:Int)=(n:Int):=Aii (by omega);unfold E9;rw[AqI (by simp)];show TP ((MB (UInt64.ofInt 1) (UInt64.ofInt (n:Int))).bind _) _;rw[show UInt64.ofInt 1=1 from rfl,m1];simp only[Ad];rw[m2,hw];refine AB (Q:=fun b=>b=false) ?_ fun b hb=>?_
 ·exact AK (fun h=>by simp at h) fun _=>Af (by simpa using m3)
 subst hb;refine AK (fun h=>by cases h) fun _=>CY ⟨by omega,Int.le_refl _,by unfold maxLen;omega,by unfold I7;omega⟩ (AR (AR (AR ?_)))
 simp only[AqR];have e0:(ovl (List.replicate n (0:Int)) (([-1]:List Int).take (min ([-1]:List Int).length (List.replicate n (0:Int)).length)) 0).length=n:=by rw[AaM];simp
 have e1:min ([-1]:List Int).length (List.replicate n (0:Int)).length=1:=by simp;omega
 rw[e1]at e0 ⊢;refine AB (Q:=fun l=>l.length=n) (AB (Q:=fun l=>l.length=n) ?_ fun l hl=>Af hl) fun l hl=>Af hl
 refine AX (fun v=>∃k:Nat,v.1=(k:Int)/\1<=k/\k<=n/\v.2.length=n) (fun v=>((n:Int)-v.1).toNat) ?_ ⟨1,rfl,by omega,h1,e0⟩ (by simp only;omega);rintro⟨_,l⟩ ⟨k,rfl,hk1,hk,hl⟩;simp only at hl ⊢;unfold En;refine AK (fun h=>?_) fun h=>Af hl
 have hk':k<l.length:=by simpa using h
 have em:min (l.take (k:Int).toNat).length (l.length-(k:Int).toNat)=min k (l.length-k):=by simp only[AqR,ArH];omega
 refine CY (PV (by omega)) (CY (PV (by omega)) (AR (AR (Af ⟨⟨k+min k (l.length-k),?_,by omega,by omega,?_⟩,?_⟩))))
 ·rw[em,FB (by omega)];omega
 ·simp only;rw[XK];exact hl
 simp only;rw[em,FB (by omega)];omega
theorem AaC{f:Aqz->Option Bool}(s:List Aqz)(hs:s.length<1000000)(hf:∀y∈s,Aak (f y)):Aak (CD s f):=by
 unfold CD;refine AB (Q:=fun _=>True) ?_ fun i _=>Af trivial
 unfold DS
 refine AB (Q:=fun _=>True) (AB (Q:=fun z=>match z with
  |.inr (.inl _)=>False
  |_=>True) ?_ fun z hz=>?_) fun z _=>?_
 ·refine AX (fun i=>∃k:Nat,i=(k:Int)/\k<=s.length) (fun i=>((s.length:Int)-i).toNat) ?_ ⟨0,rfl,Aq5 _⟩ (by simp;omega);rintro _ ⟨k,rfl,hk⟩;unfold Dc;refine AK (fun h=>?_) fun h=>Af trivial
  have hk':k<s.length:=by simpa using h
  refine CY (As hk') ?_;simp only[AqR];refine AB (hf _ (AF hk')) fun b _=>AK (fun _=>Af trivial) fun _=>Af ⟨⟨k+1,Bt (by omega),hk'⟩,by rw[Bt (by omega)];omega⟩
 ·match z,hz with
  |.inl (),_=>exact Af trivial
  |.inr (.inr r),_=>exact Af trivial
 match z with
 |.inl ()=>exact Af trivial
 |.inr r=>exact Af trivial
theorem Adk(op:Int):Aak (EQ op):=by
 unfold EQ;refine AB (Q:=fun _=>True) ?_ fun b _=>AK (fun _=>Af trivial) fun _=>AK (fun _=>Af trivial) fun _=>AK (fun _=>Af trivial) fun _=>Af trivial
 exact AK (fun _=>Af trivial) fun _=>AK (fun _=>Af trivial) fun _=>AK (fun _=>Af trivial) fun _=>Af trivial
theorem Xl(op:Int):Aak (Hn op):=by
 unfold Hn;refine AB (Q:=fun _=>True) (AK (fun _=>Af trivial) fun _=>Af trivial) fun b _=>AK (fun _=>Af trivial) fun _=>AK (fun _=>Af trivial) fun _=>?_
 refine AB (Q:=fun _=>True) (AK (fun _=>Af trivial) fun _=>Af trivial) fun b _=>AK (fun _=>Af trivial) fun _=>?_
 exact AB (Q:=fun _=>True) (AK (fun _=>Af trivial) fun _=>Af trivial) fun b _=>AK (fun _=>Af trivial) fun _=>Af trivial
theorem TT(x:Aqz):Aak (FC x):=by
 unfold FC;refine AB (Q:=fun _=>True) ?_ fun b _=>Af trivial
 unfold Io;refine AB (Q:=fun _=>True) (AK (fun _=>Af trivial) fun _=>Af trivial) fun b _=>AK (fun _=>Af trivial) fun _=>Aji (Adk _) fun y=>?_
 refine AB (Q:=fun _=>True) (AK (fun _=>Af trivial) fun _=>Af trivial) fun _ _=>AB (Q:=fun _=>True) (AK (fun _=>Af trivial) fun _=>Af trivial) fun _ _=>?_
 exact AB (Q:=fun _=>True) (AK (fun _=>AK (fun _=>Af trivial) fun _=>Af trivial) fun _=>Af trivial) fun _ _=>Af trivial
theorem OZ{α:Type}{l:List α}{i:Nat}{x:α}:(l.set i x).length=l.length:=by simp
theorem UN(c:List Aqz)(i:Nat)(hi:i<c.length)(hc:c.length<=4096)(after:Int)(ts:List Int)(hts:ts.length<=2)(l:List Int)(hl:l.length=c.length):TP (Bf (fun(v:Int×List Int)=>EL c (i:Int) after ts v.1 v.2) (0,l)) fun z=>match z with
 |.inl l'=>l'.length=c.length
 |.inr (.inr (.inr (.inr (.inr z))))=>True
 |_=>False:=by
 refine AX (fun v=>∃k:Nat,v.1=(k:Int)/\k<=ts.length/\v.2.length=c.length) (fun v=>((ts.length:Int)-v.1).toNat) ?_ ⟨0,rfl,Aq5 _,hl⟩ (by simp;omega);rintro⟨_,l⟩ ⟨k,rfl,hk,hl⟩;simp only at hl;unfold EL;refine AK (fun h=>?_) fun h=>Af hl
 have hk':k<ts.length:=by simpa using h
 refine CY (As hk') ?_;simp only[AqR];refine AB (Q:=fun b=>b=false->InR (nth ts k) l.length) ?_ fun b hb=>AK (fun _=>Af trivial) fun hn=>CY (hb (Arh hn)) (AR (Af ⟨⟨k+1,Bt (by omega),hk',by simp only;rw[OZ];exact hl⟩,by simp only;rw[Bt (by omega)];omega⟩))
 refine AK (fun _=>Af fun e=>by cases e) fun h1=>AK (fun _=>Af fun e=>by cases e) fun h2=>?_
 simp only[Aq1]at h1 h2;have hin:InR (nth ts k) l.length:=⟨by omega,by omega⟩;exact CY hin (AK (fun _=>CY hin (Af fun _=>hin)) fun _=>Af fun _=>hin)
theorem WQ(c:List Aqz):Aak (Hs c):=by
 unfold Hs;refine AK (fun _=>Af trivial) fun h=>?_
 have hc:c.length<=4096:=by simp only[Aq1]at h;omega
 refine AB (Q:=fun b=>b=false->c.length≠0) ?_ fun b hb=>AK (fun _=>Af trivial) fun hn=>?_
 ·refine AK (fun _=>Af fun e=>by cases e) fun h=>?_
  have h':c.length≠0:=by simpa using h
  exact Aji (AaC c (by omega) fun y _=>TT y) fun b=>Af fun _=>h'
 have h0:=hb (Arh hn);refine AB (WP c.length (by omega) hc) fun l hl=>CY (As (k:=0) (by omega)) (AR ?_)
 refine AB (Q:=fun _=>True) (AB (Q:=fun z=>match z with
  |.inr (.inl _)=>False
  |_=>True) ?_ fun z hz=>?_) fun z _=>?_
 ·refine AX (fun v=>∃k:Nat,v.2.1=(k:Int)/\k<=c.length/\v.2.2.length=c.length) (fun v=>((c.length:Int)-v.2.1).toNat) ?_ ⟨0,rfl,Aq5 _,by rw[OZ];exact hl⟩ (by simp;omega);rintro⟨st,_,l⟩ ⟨k,rfl,hk,hl⟩;simp only at hl;unfold Gp;refine AK (fun h=>?_) fun h=>Af trivial
  have hk':k<c.length:=by simpa using h
  have fin:∀z:Int×List Int,z.2.length=c.length->TP (some (.inl (z.1,w64 ((k:Int)+1),z.2)):Option ((Int×Int×List Int)⊕(Int⊕(Int⊕(Int×Int))))) fun y=>match y with
   |.inl v'=>(∃k:Nat,v'.2.1=(k:Int)/\k<=c.length/\v'.2.2.length=c.length)/\((c.length:Int)-v'.2.1).toNat<((c.length:Int)-(k:Int)).toNat
   |.inr (.inr (.inl _))=>False
   |.inr _=>True:=fun z hz=>Af ⟨⟨k+1,Bt (by omega),hk',hz⟩,by simp only;rw[Bt (by omega)];omega⟩
  refine AB (Q:=fun z=>match z with
   |.inl z=>z.2.length=c.length
   |.inr (.inr (.inr (.inr z)))=>True
   |_=>False) ?_ fun z hz=>?_
  ·refine CY (As hk') (AR (AR (AR (CY (As (show k<l.length by omega)) (AK (fun _=>Af hl) fun _=>?_)))));refine Aji (Xl _) fun y=>AR (AR ?_)
   refine AB (Q:=fun _=>True) ?_ fun b _=>AK (fun _=>Af trivial) fun _=>?_
   ·refine AK (fun _=>Af trivial) fun _=>AK (fun _=>AK (fun _=>Af trivial) fun _=>AK (fun _=>Af trivial) fun _=>Af trivial) fun _=>AK (fun _=>Af trivial) fun _=>Af trivial
   refine AB (Q:=fun l:List Int=>l.length<=1) (AB (Q:=fun _=>True) (AK (fun _=>Af trivial) fun _=>Af trivial) fun b _=>AK (fun _=>AR (Af (by simp))) fun _=>Af (by simp)) fun l1 hl1=>?_
   refine AB (Q:=fun l:List Int=>l.length<=2) (AB (Q:=fun _=>True) (AK (fun _=>AK (fun _=>Af trivial) fun _=>Af trivial) fun _=>Af trivial) fun b _=>AK (fun _=>CY (LD (by omega) (by decide)) (AR (Af (by simp;omega)))) fun _=>Af (by omega)) fun l2 hl2=>?_
   refine AB (UN c k hk' hc _ l2 hl2 l hl) fun z hz=>?_
   match z,hz with
   |.inl l',hz=>exact Af hz
   |.inr (.inr (.inr (.inr (.inr z)))),_=>exact Af trivial
  match z,hz with
  |.inl (st',l'),hz=>exact Af ⟨⟨k+1,Bt (by omega),hk',hz⟩,by simp only;rw[Bt (by omega)];omega⟩
  |.inr (.inr (.inr (.inr z))),_=>exact Af trivial
 ·match z,hz with
  |.inl _,_=>exact Af trivial
  |.inr (.inr z),_=>exact Af trivial
 match z with
 |.inl st=>exact AK (fun _=>Af trivial) fun _=>Af trivial
 |.inr z=>exact Af trivial
theorem Ui{t:Aqt}{n:Nat}(hz:Tz n t)(hn:n<1000000):Aak (Ek t):=by
 obtain⟨e,he,hk⟩:=LR t hz hn;unfold Ek;rw[he];simp only[Ad];refine AK (fun _=>Af trivial) fun h0=>?_
 have hok:=hk (by simpa using h0);have hl:=hok.few;refine AB (Q:=fun l=>l.length<=3600030*64) (AB (Q:=fun l=>l.length<=3600030*64) ?_ fun z hz=>Af hz) fun l hl=>?_
 ·refine AX (fun v=>∃k:Nat,v.1=(k:Int)/\k<=t.Clauses.length/\v.2.length<=3600030*k) (fun v=>((t.Clauses.length:Int)-v.1).toNat) ?_ ⟨0,rfl,Aq5 _,by simp⟩ (by simp;omega);rintro⟨_,l⟩ ⟨k,rfl,hk,hc⟩;simp only at hc;unfold FL;refine AK (fun h=>?_) fun h=>Af (show l.length<=_ by omega)
  have hk':k<t.Clauses.length:=by simpa using h
  refine CY (As hk') (AR (AR (AR (AR (AR (AR ?_))))));simp only[AqR,FY];have hm:=AF hk';refine AB (UP _ _ _ (hok.all _ hm) (hz.2 _ hm).2.2 (by simp only;omega)) fun r hr=>AR (Af ⟨⟨k+1,Bt (by omega),hk',?_⟩,by simp only;rw[Bt (by omega)];omega⟩)
  simp only at hr ⊢;omega
 rw[Ia _ _ _ _ (by simp only;omega)];simp only[Ad,B5];exact Aji (WQ _) fun y=>AK (fun _=>Af trivial) fun _=>Af trivial
theorem Abl(p:Ps)(before:Int):TP (BS p before) fun r=>∀t q,r=.inl (t,q)->q.l.length<p.l.length/\before≠8:=by
 unfold BS;rw[HN];simp only[Ad];rw[KG p FZ (by decide)];simp only[Ad];cases hm:QH p w_attributes with
 |inr e=>exact Af fun t q h=>by cases h
 | inl a=>
  obtain⟨i,q⟩:=a;obtain⟨h1,_⟩:=MK hm;simp only;refine AK (fun _=>Af fun t q h=>by cases h) fun hb=>?_
  have hb':before≠8:=by simpa using hb
  rw[AQ];simp only[Ad];refine AK (fun h=>?_) fun h=>?_
  ·have h2:=LJ h;rw[Gd];simp only[Ad];cases hi:AdH (MT q [105,115]).2 with
   |inr e=>exact Af fun t q h=>by cases h
   |inl a=>
    obtain⟨n,q2⟩:=a;have h3:=OI hi;refine Af fun t q' hh=>?_
    cases hh;exact⟨by simp only;omega,hb'⟩
  rw [Oa h,BO];simp only[Ad];cases he:Vi q [105,110]with
  |inr e=>exact Af fun t q h=>by cases h
  | inl q1=>
   have h2:=GZ he;simp only[Gd,Ad];cases hi:AdH q1 with
   |inr e=>exact Af fun t q h=>by cases h
   | inl a=>
    obtain⟨n,q2⟩:=a;have h3:=OI hi;simp only[BO,Ad];cases he2:Vi q2 [46,46]with
    |inr e=>exact Af fun t q h=>by cases h
    | inl q3=>
     have h4:=GZ he2;simp only[Gd,Ad];cases hi2:AdH q3 with
     |inr e=>exact Af fun t q h=>by cases h
     |inl a=>
      obtain⟨n2,q4⟩:=a;have h5:=OI hi2;refine Af fun t q' hh=>?_
      cases hh;exact⟨by simp only;omega,hb'⟩
theorem AdR{α:Type}{p:α->Bool}{l:List α}{k:Nat}(h:k<l.length):(l.take (k+1)).any p=((l.take k).any p||p l[k]):=by
 rw[Aq0 h,List.any_append,List.any_cons,List.any_nil,Bool.or_false]
theorem Nf(s:List Aqs)(f:Aqs)(hs:s.length<1000000):TP (B6 s f) fun y=>y.1=(s.any fun b=>b.Name==f.Name)/\y.2.Name=f.Name:=by
 unfold B6;refine AB (Q:=fun y=>(decide (y.1≥0)=s.any fun b=>b.Name==f.Name)/\y.2.Name=f.Name) ?_ fun y hy=>Af hy
 unfold CA
 refine AB (Q:=fun z=>match z with
  |.inl z=>(s.any fun b=>b.Name==f.Name)=false/\z.1=f.Name
  |.inr y=>(decide (y.1≥0)=s.any fun b=>b.Name==f.Name)/\y.2.Name=f.Name) ?_ fun z hz=>?_
 ·refine AB (Q:=fun z=>match z with
   |.inl z=>(s.any fun b=>b.Name==f.Name)=false/\z.1=f.Name
   |.inr (.inr y)=>(decide (y.1≥0)=s.any fun b=>b.Name==f.Name)/\y.2.Name=f.Name
   |_=>False) ?_ fun z hz=>?_
  ·refine AX (fun v=>v.2.1=f.Name/\∃k:Nat,v.1=(k:Int)/\k<=s.length/\((s.take k).any fun b=>b.Name==f.Name)=false) (fun v=>((s.length:Int)-v.1).toNat) ?_ ⟨rfl,0,rfl,Aq5 _,rfl⟩ (by simp;omega);rintro⟨_,n,a,b,c⟩ ⟨hn,k,rfl,hk,ha⟩;simp only at hn ⊢;subst hn;unfold Ci;refine AK (fun h=>?_) fun h=>Af ?_
   ·have hk':k<s.length:=by simpa using h
    simp only[AqJ (As hk'),AqR,D5,Ad];refine AK (fun hb=>Af ⟨?_,rfl⟩) fun hb=>Af ⟨⟨rfl,k+1,Bt (by omega),hk',?_⟩,by simp only;rw[Bt (by omega)];omega⟩
    ·have:(s.any fun b=>b.Name==f.Name)=true:=Atv.2 ⟨_,AF hk',hb⟩;rw[this];simp
    rw[AdR hk',ha,<-Bb hk'];simpa using hb
   have:k=s.length:=by simp at h;omega
   subst this;rw[ArB]at ha;exact⟨ha,rfl⟩
  match z,hz with
  |.inl z,hz=>exact Af hz
  |.inr (.inr z),hz=>exact Af hz
 match z,hz with
 |.inl (a,b,c,d),hz=>exact Af ⟨by rw[hz.1];rfl,hz.2⟩
 |.inr z,hz=>exact Af hz
theorem VU(p:Ps)(before:List Aqs)(hp:p.l.length<900000)(hb:before.length<1000000):TP (BA p before) fun r=>∀c q,r=.inl (c,q)->q.l.length<p.l.length/\c.When.length<=8/\Ez 900000 c.Pay:=by
 unfold BA;rw[HN];simp only[Ad,RK];cases hn:U9 p with
 |inr e=>exact Af fun c q h=>by cases h
 | inl a=>
  obtain⟨nm,q0⟩:=a;have h0:=TI hn;simp only;refine AB (Nf before _ hb) fun y hy=>AK (fun _=>Af fun c q h=>by cases h) fun _=>?_
  refine AB (Q:=fun z=>match z with
   |.inl z=>z.1.length<=q0.l.length/\z.2.2.length<=8
   |.inr (.inl _)=>False
   |.inr (.inr _)=>True) ?_ fun z hz=>?_
  ·rw [AQ];simp only[Ad]
   refine AB (Q:=fun z=>match z with
    |.inl z=>z.1.length<=q0.l.length/\z.2.2.length<=8
    |.inr (.inr (.inr _))=>True
    |_=>False) ?_ fun z hz=>?_
   ·refine AX (fun v=>v.2.1.length<=q0.l.length/\v.2.2.2.length<=8) (fun v=>v.2.1.length+(if v.1=true then 1 else 0)) ?_ ⟨Pj,by simp⟩ ?_
    ·rintro⟨more,l,e,ts⟩ ⟨hl,ht⟩;simp only at hl ht ⊢;unfold Cx;refine AK (fun hm=>?_) fun hm=>Af ⟨hl,ht⟩
     refine AB (Abl _ _) fun r hr=>?_
     cases r with
     |inr e=>exact Af trivial
     | inl a=>
      obtain⟨t,q⟩:=a;obtain⟨r1,r2⟩:=hr t q rfl;have r1':q.l.length<l.length:=r1;have hlt:ts.length<8:=by omega
      refine CY ⟨by unfold maxLen;omega,by unfold I7;omega⟩ (AR ?_);rw[AQ];simp only[Ad];refine Af ⟨⟨?_,by simp only[AqM,Arl];omega⟩,?_⟩
      ·have:=Pj (p:=q) (s:=[97,110,100]);simp only;omega
      simp only;rw[AqJ hm];by_cases ha:(MT q [97,110,100]).1=true
      ·have:=LJ ha;rw[AqJ ha];omega
      rw[AqI ha,Oa ha];omega
    have:=Pj (p:=q0) (s:=[119,104,101,110]);simp only;split<;>omega
   match z,hz with
   |.inl z,hz=>exact Af hz
   |.inr (.inr (.inr z)),hz=>exact Af hz
  match z,hz with
  |.inr (.inr z),hz=>exact Af fun c q h=>by cases h
  | .inl (l,e,ts),hz=>
   obtain⟨hl,ht⟩:=hz;simp only at hl ht ⊢;rw[BO];simp only[Ad];cases he:Vi ⟨l,e⟩ [112,97,121]with
   |inr e=>exact Af fun c q h=>by cases h
   | inl q1=>
    have h1:=GZ he;have h1':q1.l.length+1=l.length:=h1;simp only[HN,Ad];refine AB (AfN q1 (by omega)) fun r hr=>?_
    cases r with
    |inr e=>exact Af fun c q h=>by cases h
    | inl a=>
     obtain⟨x,q2⟩:=a;obtain⟨r1,r2⟩:=hr x q2 rfl;simp only;refine AB (K0 _ x _ r2.1 (by omega) (by omega)) fun k hk=>AK (fun _=>Af fun c q h=>by cases h) fun _=>?_
     rw[BO];simp only[Ad];cases he2:Vi q2 [59]with
     |inr e=>exact Af fun c q h=>by cases h
     |inl q3=>
      have h2:=GZ he2;refine Af fun c q h=>?_
      cases h;exact⟨by omega,ht,r2.mono (by omega)⟩
theorem Ab0(toks:List Aqn)(e:Int)(at0:Int)(h:toks.length<900000):TP (Bf (fun(v:Int×List Aqn×Int×List Aqs)=>Dy v.1 v.2.1 v.2.2.1 v.2.2.2) (at0,toks,e,[])) fun z=>match z with
  |.inl z=>z.2.2.length<=64/\(∀c∈z.2.2,c.When.length<=8/\Ez 900000 c.Pay)/\z.1.length<900000
  |.inr (.inr y)=>y.1.Clauses=[]
  |_=>False:=by
 refine AX (fun v=>v.2.1.length<900000/\v.2.2.2.length<=64/\∀c∈v.2.2.2,c.When.length<=8/\Ez 900000 c.Pay) (fun v=>v.2.1.length) ?_ ⟨h,by simp,by simp⟩ (by simp only;omega);rintro⟨a,l,e,cs⟩ ⟨hl,hc,hw⟩;simp only at hl hc hw ⊢;unfold Dy;rw[AQ];simp only[Ad];refine AK (fun ha=>?_) fun ha=>Af ⟨hc,hw,?_⟩
 ·have h1:=LJ ha;have h1':(MT ⟨l,e⟩ [99,108,97,117,115,101]).2.l.length+1=l.length:=h1;refine AK (fun _=>Af rfl) fun h64=>?_
  have hc':cs.length≠64:=by
   intro e0;rw[e0]at h64;exact h64 rfl
  refine AB (VU _ cs (by omega) (by omega)) fun r hr=>?_
  cases r with
  |inr e=>exact Af rfl
  | inl b=>
   obtain⟨c,q⟩:=b;obtain⟨r1,r2⟩:=hr c q rfl;refine CY ⟨by unfold maxLen;omega,by unfold I7;omega⟩ (AR ?_);rw[HN];simp only[Ad];refine Af ⟨⟨by simp only;omega,by simp only[AqM,Arl];omega,fun c' hc'=>?_⟩,by simp only;omega⟩;simp only at hc';rcases Aq3.1 hc' with hh|hh
   ·exact hw c' hh
   simp only[Arm]at hh;subst hh;exact r2
 have:=Pj (p:=⟨l,e⟩) (s:=[99,108,97,117,115,101]);have h1':(MT ⟨l,e⟩ [99,108,97,117,115,101]).2.l.length<=l.length:=this;simp only;omega
theorem F7{y:Aqt}(h:y.Clauses=[]):Tz 64 y:=⟨by rw[h];simp,by rw[h];simp⟩
theorem Wl(src:List UInt8)(hs:src.length<=2000):TP (Dg src) fun y=>Tz 64 y.1:=by
 obtain⟨l,e,ht⟩:=Rt.total src.length src false 0 (AqT _);have htok:=TF ht hs;have hlen:=ht.len;unfold Dg
 have key:∀r,Cb src=some r->Tz 64 r.1:=by
  intro r hr;unfold Cb at hr;rw[htok]at hr;simp only[Ad]at hr;split at hr
  ·cases hr;exact F7 rfl
  cases hr
 cases he:Cb src with
 |some r=>exact Af (key r he)
 | none =>
  have he':¬((res l e).2.2 != 0)=true:=by
   intro hc;unfold Cb at he;rw[htok]at he;simp only[Ad]at he;rw[AqJ hc]at he;cases he
  have hl:(res l e).1.length<900000:=by
   cases e with
   |none=>show l.length<_;omega
   |some q=>show([]:List Aqn).length<_;simp
  show TP (DL src) _;unfold DL;rw[htok];simp only[Ad];rw[AqI he',BO];simp only[Ad];cases h1:Vi ⟨(res l e).1,(src.length:Int)⟩ [116,97,114,105,102,102]with
  |inr e=>exact Af (F7 rfl)
  | inl q1 =>
   have g1:=GZ h1;have g1':q1.l.length+1=(res l e).1.length:=g1;simp only[RK,Ad];cases h2:U9 q1 with
   |inr e=>exact Af (F7 rfl)
   | inl a =>
    obtain⟨nm,q2⟩:=a;have g2:=TI h2;simp only[BO,Ad];cases h3:Vi q2 [102,111,114]with
    |inr e=>exact Af (F7 rfl)
    | inl q3=>
     have g3:=GZ h3;simp only;rw[KG q3 Wg (by decide)];simp only[Ad];cases h4:QH q3 w_kinds with
     |inr e=>exact Af (F7 rfl)
     | inl a=>
      obtain⟨i,q4⟩:=a;have g4:=MK h4;simp only[BO,Ad];cases h5:Vi q4 [123]with
      |inr e=>exact Af (F7 rfl)
      | inl q5=>
       have g5:=GZ h5;simp only[HN,Ad]
       refine AB (Q:=fun z=>match z with
        |.inl z=>z.2.2.length<=64/\(∀c∈z.2.2,c.When.length<=8/\Ez 900000 c.Pay)/\z.1.length<900000
        |.inr y=>y.1.Clauses=[]) (AB (Ab0 q5.l q5.end_ _ (by omega)) fun z hz=>?_) fun z hz=>?_
       ·match z,hz with
        |.inl z,hz=>exact Af hz
        |.inr (.inr z),hz=>exact Af hz
       match z,hz with
       |.inr z,hz=>exact Af (F7 hz)
       | .inl (l6,e6,cs),hz=>
        simp only[BO,Ad];cases h6:Vi ⟨l6,e6⟩ [125]with
        |inr e=>exact Af (F7 rfl)
        | inl q7=>
         simp only
         refine AB (Q:=fun z=>match z with
          |.inl ()=>True
          |.inr y=>y.1.Clauses=[]) (AK (fun _=>?_) fun _=>Af trivial) fun z hz'=>?_
         ·rw[ME];exact Af rfl
         match z,hz' with
         |.inl (),_=>exact Af ⟨hz.1,hz.2.1⟩
         |.inr z,hz'=>exact Af (F7 hz')
theorem YU(src:List UInt8):TP (Dg src) fun y=>Tz 64 y.1:=by
 by_cases hs:src.length<=2000
 ·exact Wl src hs
 have htok:=Wf (src:=src) (by omega);unfold Dg
 have he:Cb src=some ({ Name:=[],For:=0,Clauses:=[] },0,2):=by
  unfold Cb;rw[htok];rfl
 rw[he];exact Af (F7 rfl)
theorem Np{α:Type}[Inhabited α]{n:Nat}{a:Arr α n}{i j:Nat}{x:α}(hj:j<n):(a.set i x).get j=if i=j then x else a.get j:=by
 have h:j<a.l.length:=by rw[a.h];exact hj
 simp only[Arr.get,Arr.set,nth];rw[AqY,Arw];by_cases e:i=j
 ·subst e;simp[h]
 simp[e,AqY]
def EY(lo hi V:Arr Int 16):Prop:=∀a,a<16->lo.get a<=V.get a/\V.get a<=hi.get a
theorem AcX{lo hi V:Arr Int 16}{k:Nat}{a b:Int}(hk:k<16):EY (lo.set k (QC (lo.get k) a)) (hi.set k (Q9 (hi.get k) b)) V↔EY lo hi V/\(a<=V.get k/\V.get k<=b):=by
 constructor
 ·intro h;have hk':=h k hk;rw[Np hk,Np hk,AqJ rfl,AqJ rfl]at hk';unfold QC Q9 at hk';refine⟨fun j hj=>?_,by split at hk'<;>split at hk'<;>omega⟩;by_cases e:k=j
  ·subst e;split at hk'<;>split at hk'<;>omega
  have:=h j hj;rw[Np hj,Np hj,AqI e,AqI e]at this;exact this
 rintro⟨h,h1,h2⟩ j hj;rw[Np hj,Np hj];by_cases e:k=j
 ·subst e;rw[AqJ rfl,AqJ rfl];have:=h k hk;unfold QC Q9;split<;>split<;>omega
 rw[AqI e,AqI e];exact h j hj
def boxAll:Aqo:=⟨Arr.rep 16 0,Arr.rep 16 9007199254740992⟩
theorem Alh:tbox_all=some boxAll:=by decide +kernel
theorem Acs{a:Nat}(h:a<16):boxAll.low.get a=0/\boxAll.high.get a=9007199254740992:=by
 have:∀a:Fin 16,boxAll.low.get a.val=0/\boxAll.high.get a.val=9007199254740992:=by decide +kernel
 exact this ⟨a,h⟩
theorem Ajx(b:Aqo)(t:Aqp)(h0:0<=t.Attr)(h1:t.Attr<16):Hl b t=some ⟨b.low.set t.Attr.toNat (QC (b.low.get t.Attr.toNat) t.Low),b.high.set t.Attr.toNat (Q9 (b.high.get t.Attr.toNat) t.High)⟩:=by
 have hi:InR t.Attr 16:=⟨h0,by omega⟩;unfold Hl;simp only[AqJ hi,B5]
theorem Uk(b c:Aqo):TP (Fj b c) fun r=>(∀V,EY r.1.low r.1.high V↔EY b.low b.high V/\EY c.low c.high V)/\(r.2=false->∀V,¬(EY b.low b.high V/\EY c.low c.high V)):=by
 unfold Fj;refine AB (Q:=fun q=>(∀V,EY q.2.1 q.2.2 V↔EY b.low b.high V/\EY c.low c.high V)/\(q.1=false->∀V,¬(EY b.low b.high V/\EY c.low c.high V))) ?_ fun q hq=>Af hq
 refine AB (Q:=fun q=>(∀V,EY q.2.1 q.2.2 V↔EY b.low b.high V/\EY c.low c.high V)/\(q.1=false->∀V,¬(EY b.low b.high V/\EY c.low c.high V))) ?_ fun q hq=>Af hq
 refine AX (fun v=>∃k:Nat,v.2.1=(k:Int)/\k<=16/\(∀V,EY v.2.2.1 v.2.2.2 V↔EY b.low b.high V/\∀a,a<k->c.low.get a<=V.get a/\V.get a<=c.high.get a)/\(v.1=false->∀V,¬EY v.2.2.1 v.2.2.2 V)) (fun v=>(16-v.2.1).toNat) ?_ ⟨0,rfl,by omega,fun V=>⟨fun h=>⟨h,fun a ha=>by omega⟩,fun h=>h.1⟩,fun e=>by cases e⟩ (by simp);rintro⟨s,_,lo,hi⟩ ⟨k,rfl,hk,hV,hs⟩;simp only at hV hs ⊢;unfold FS;refine AK (fun h=>?_) fun h=>Af ?_
 ·have hk':k<16:=by simp at h;omega
  have hin:InR (k:Int) 16:=As hk';simp only[AqJ hin,B5,AqR];refine AB (Q:=fun s'=>s'=(s&&decide ((lo.set k (QC (lo.get k) (c.low.get k))).get k<=(hi.set k (Q9 (hi.get k) (c.high.get k))).get k))) ?_ fun s' hs'=>Af ⟨⟨k+1,Bt (by omega),hk',fun V=>?_,fun e V hin=>?_⟩,?_⟩
  ·cases s with
   |true=>exact AK (fun _=>Af (by simp)) fun h=>(h rfl).elim
   |false=>exact AK (fun h=>by cases h) fun _=>Af rfl
  ·simp only;rw[AcX hk',hV];constructor
   ·rintro⟨⟨h1,h2⟩,h3⟩;refine⟨h1,fun a ha=>?_⟩;by_cases e:a<k
    ·exact h2 a e
    have:a=k:=by omega
    subst this;exact h3
   rintro⟨h1,h2⟩;exact⟨⟨h1,fun a ha=>h2 a (by omega)⟩,h2 k (by omega)⟩
  ·simp only at e hin;rw[hs']at e;cases s with
   |false=>exact hs rfl V ((AcX hk').1 hin).1
   |true=>
    have h1:=hin k hk';simp at e;omega
  simp only;rw[Bt (by omega)];omega
 have:k=16:=by simp at h;omega
 subst this;refine⟨fun V=>(hV V).trans ⟨fun h=>⟨h.1,fun a ha=>h.2 a ha⟩,fun h=>⟨h.1,fun a ha=>h.2 a ha⟩⟩,fun e V hh=>hs e V ((hV V).2 ⟨hh.1,fun a ha=>hh.2 a ha⟩)⟩
def I1(c:Aqs)(V:Arr Int 16):Prop:=∀t∈c.When,t.Low<=V.get t.Attr.toNat/\V.get t.Attr.toNat<=t.High
def Mg(c:Aqs):Prop:=∀t∈c.When,0<=t.Attr/\t.Attr<16
abbrev OfP(c:Aqs)(r:Aqo×Bool):Prop:=r.2=true->Mg c/\∀V,EY r.1.low r.1.high V↔EY boxAll.low boxAll.high V/\I1 c V
theorem Ads(c:Aqs)(hl:c.When.length<1000000):TP (HY c) (OfP c):=by
 unfold HY;rw[Alh];show TP (((Bf _ _).bind _:Option _).bind _) _
 refine AB (Q:=fun z=>match z with
  |.inl (lo,hi)=>Mg c/\∀V,EY lo hi V↔EY boxAll.low boxAll.high V/\I1 c V
  |.inr r=>r.2=false) ?_ fun z hz=>?_
 ·refine AB (Q:=fun z=>match z with
   |.inl (lo,hi)=>Mg c/\∀V,EY lo hi V↔EY boxAll.low boxAll.high V/\I1 c V
   |.inr (.inl _)=>False
   |.inr (.inr r)=>r.2=false) ?_ fun z hz=>?_
  ·refine AX (fun v=>∃k:Nat,v.1=(k:Int)/\k<=c.When.length/\(∀t∈c.When.take k,0<=t.Attr/\t.Attr<16)/\∀V,EY v.2.1 v.2.2 V↔EY boxAll.low boxAll.high V/\∀t∈c.When.take k,t.Low<=V.get t.Attr.toNat/\V.get t.Attr.toNat<=t.High) (fun v=>((c.When.length:Int)-v.1).toNat) ?_
    ⟨0,rfl,Aq5 _,by simp,fun V=>⟨fun h=>⟨h,by simp⟩,fun h=>h.1⟩⟩ (by simp;omega)
   rintro⟨_,lo,hi⟩ ⟨k,rfl,hk,hA,hV⟩;simp only at hV ⊢;unfold Lk;refine AK (fun h=>?_) fun h=>Af ?_
   ·have hk':k<c.When.length:=by simpa using h
    simp only[AqJ (As hk'),B5,AqR];generalize ht:nth c.When k=t;have htk:c.When.take (k+1)=c.When.take k++[t]:=by rw[Aq0 hk',<-Bb hk',ht]
    refine AB (Q:=fun b=>b=false->0<=t.Attr/\t.Attr<16) (AK (fun _=>Af fun e=>by cases e) fun h=>Af fun e=>?_) fun b hb=>AK (fun h=>Af rfl) fun h=>?_
    ·simp at h e;omega
    obtain⟨h0,h1⟩:=hb (by simpa using h);rw[Ajx _ _ h0 h1];refine Af ⟨⟨k+1,Bt (by omega),hk',?_,fun V=>?_⟩,by simp only;rw[Bt (by omega)];omega⟩
    ·intro t' ht';rw[htk]at ht';rcases Aq3.1 ht' with h|h
     ·exact hA t' h
     simp only[Arm]at h;subst h;exact⟨h0,h1⟩
    simp only;rw[AcX (by omega),hV,htk];simp only[Aq3,Arm];constructor
    ·rintro⟨⟨a1,a2⟩,a3⟩;refine⟨a1,fun t' h=>?_⟩;rcases h with h|rfl
     ·exact a2 t' h
     exact a3
    rintro⟨a1,a2⟩;exact⟨⟨a1,fun t' h=>a2 t' (.inl h)⟩,a2 t (.inr rfl)⟩
   have:k=c.When.length:=by simp at h;omega
   subst this;rw[ArB]at hA hV;exact⟨hA,hV⟩
  match z,hz with
  |.inl (lo,hi),hz=>exact Af hz
  |.inr (.inr r),hz=>exact Af hz
 match z,hz with
 |.inl (lo,hi),hz=>
  refine AB (Uk _ _) fun r hr=>AK (fun _=>Af fun _=>⟨hz.1,fun V=>?_⟩) fun _=>Af fun e=>by cases e
  rw[hr.1];exact⟨fun h=>(hz.2 V).1 h.1,fun h=>⟨(hz.2 V).2 h,(hz.2 V).2 h⟩⟩
 |.inr r,hz=>exact Af fun e=>by rw[hz]at e;cases e
theorem Agt(c:Aqs):({ Name:=c.Name,When:=c.When,Pay:=Aqr.mk c.Pay.Op c.Pay.N c.Pay.Unit c.Pay.L }:Aqs)=c:=FY c
abbrev AbM(c:Aqs)(r:Aqo×Bool):Prop:=HY c=some r/\OfP c r
theorem AfL(c:Aqs)(hl:c.When.length<1000000):TP (HY c) (AbM c):=by
 obtain⟨r,e,h⟩:=Ads c hl;exact⟨r,e,e,h⟩
abbrev Zr(t:Aqt):Prop:=t.Clauses.length<=64/\∀c∈t.Clauses,c.When.length<1000000
theorem Z9(t:Aqt)(hs:Zr t)(l1:List Aqo)(l2:List Bool)(h1:l1.length=t.Clauses.length)(h2:l2.length=t.Clauses.length) :TP (Bf (fun(v:Int×List Aqo×List Bool)=>ET t v.1 v.2.1 v.2.2) (0,l1,l2)) fun r=>r.1.length=t.Clauses.length/\r.2.length=t.Clauses.length/\∀k,k<t.Clauses.length->AbM (nth t.Clauses k) (nth r.1 k,nth r.2 k):=by
 refine AX (fun v=>∃k:Nat,v.1=(k:Int)/\k<=t.Clauses.length/\v.2.1.length=t.Clauses.length/\v.2.2.length=t.Clauses.length/\∀j,j<k->AbM (nth t.Clauses j) (nth v.2.1 j,nth v.2.2 j)) (fun v=>((t.Clauses.length:Int)-v.1).toNat) ?_ ⟨0,rfl,Aq5 _,h1,h2,fun j hj=>by omega⟩ (by have:=hs.1;simp;omega);rintro⟨_,m1,m2⟩ ⟨k,rfl,hk,e1,e2,hj⟩;simp only at e1 e2 hj ⊢;unfold ET;have h64:=hs.1;refine AK (fun h=>?_) fun h=>Af ?_
 ·have hk':k<t.Clauses.length:=by simpa using h
  simp only[AqJ (As hk'),B5,AqR,Agt];refine AB (AfL _ (hs.2 _ (AF hk'))) fun r hr=>CY (As (by omega)) (CY (As (by omega)) (Af ⟨⟨k+1,Bt (by omega),hk',by simp[e1],by simp[e2],fun j hj'=>?_⟩,by simp only;rw[Bt (by omega)];omega⟩))
  by_cases e:k=j
  ·subst e;have q1:nth (m1.set k r.1) k=r.1:=by simp[nth,e1,hk']
   have q2:nth (m2.set k r.2) k=r.2:=by simp[nth,e2,hk']
   rw[q1,q2];exact hr
  have q1:nth (m1.set k r.1) j=nth m1 j:=by simp[nth,Arw,e]
  have q2:nth (m2.set k r.2) j=nth m2 j:=by simp[nth,Arw,e]
  rw[q1,q2];exact hj j (by omega)
 have:k=t.Clauses.length:=by simp at h;omega
 subst this;exact⟨e1,e2,hj⟩
abbrev PA(l1:List Aqo)(l2:List Bool)(i j:Nat):Prop:=nth l2 i=true->nth l2 j=true->∀V,¬(EY (nth l1 i).low (nth l1 i).high V/\EY (nth l1 j).low (nth l1 j).high V)
theorem Aau(l1:List Aqo)(l2:List Bool)(n:Nat)(hn:n<=64)(e1:l1.length=n)(e2:l2.length=n)(i:Nat)(hi:i<n) :TP (Bf (fun(v:Int)=>EV l1 l2 (i:Int) v) ((i+1:Nat):Int)) fun z=>match z with
   |.inl ()=>∀j,i<j->j<n->PA l1 l2 i j
   |.inr (.inr (.inr (.inr (.inr r))))=>r.2.2.2=true
   |_=>False:=by
 refine AX (fun v=>∃k:Nat,v=(k:Int)/\k<=n/\∀j,i<j->j<k->PA l1 l2 i j) (fun v=>((n:Int)-v).toNat) ?_ ⟨i+1,rfl,hi,fun j h1 h2=>by omega⟩ (by omega);rintro _ ⟨k,rfl,hk,hj⟩;unfold EV;refine AK (fun h=>?_) fun h=>Af ?_
 ·have hk':k<n:=by simp at h;omega
  refine CY (As (by omega)) (CY (As (by omega)) (AB (Uk _ _) fun r hr=>?_));simp only[AqR]at hr ⊢;refine AB (Q:=fun b=>b=(r.2&&(nth l2 i&&nth l2 k))) ?_ fun b hb=>?_
  ·refine AK (fun h=>CY (As (by omega)) (AK (fun h'=>CY (As (by omega)) (Af ?_)) fun h'=>Af ?_)) fun h=>Af ?_
   ·rw[h,h'];simp
   ·rw[h,Arh h'];simp
   rw[Arh h];simp
  refine AK (fun _=>?_) fun hnb=>?_
  ·exact Af rfl
  refine Af ⟨⟨k+1,Bt (by omega),hk',fun j h1 h2=>?_⟩,by rw[Bt (by omega)];omega⟩;by_cases e:j<k
  ·exact hj j h1 e
  have:j=k:=by omega
  subst this;intro s1 s2 V hV;have hbf:b=false:=Arh hnb;rw[hb,s1,s2]at hbf;simp at hbf;exact hr.2 hbf V hV
 have:k=n:=by simp at h;omega
 subst this;exact hj
theorem Um(t:Aqt)(hs:Zr t):TP (Hc t) fun r=>r.2.2.2=false->∃l1 l2,(∀k,k<t.Clauses.length->AbM (nth t.Clauses k) (nth l1 k,nth l2 k))/\∀i j,i<j->j<t.Clauses.length->PA l1 l2 i j:=by
 unfold Hc;have h64:=hs.1;refine CY ⟨by omega,by omega,by unfold maxLen;omega,by unfold I7;omega⟩ (AR (CY ⟨by omega,by omega,by unfold maxLen;omega,by unfold I7;omega⟩ (AR ?_)));refine AB (Q:=fun r=>r.1.length=t.Clauses.length/\r.2.length=t.Clauses.length/\∀k,k<t.Clauses.length->AbM (nth t.Clauses k) (nth r.1 k,nth r.2 k)) (AB (Z9 t hs _ _ (by simp) (by simp)) fun r hr=>Af hr) ?_;rintro⟨l1,l2⟩ ⟨e1,e2,hk⟩;simp only at e1 e2 hk ⊢
 refine AB (Q:=fun z=>match z with
  |.inl ()=>∀i j,i<j->j<t.Clauses.length->PA l1 l2 i j
  |.inr r=>r.2.2.2=true) ?_ fun z hz=>?_
 ·refine AB (Q:=fun z=>match z with
   |.inl ()=>∀i j,i<j->j<t.Clauses.length->PA l1 l2 i j
   |.inr (.inr r)=>r.2.2.2=true
   |_=>False) ?_ fun z hz=>?_
  ·refine AX (fun v=>∃k:Nat,v=(k:Int)/\k<=t.Clauses.length/\∀i j,i<k->i<j->j<t.Clauses.length->PA l1 l2 i j) (fun v=>((t.Clauses.length:Int)-v).toNat) ?_ ⟨0,rfl,Aq5 _,fun i j h=>by omega⟩ (by simp;omega);rintro _ ⟨k,rfl,hkk,hij⟩;unfold Gt;refine AK (fun h=>?_) fun h=>Af ?_
   ·have hk':k<t.Clauses.length:=by simp at h;omega
    rw[Bt (by omega)]
    refine AB (Q:=fun z=>match z with
     |.inl ()=>∀j,k<j->j<t.Clauses.length->PA l1 l2 k j
     |.inr (.inr (.inr (.inr r)))=>r.2.2.2=true
     |_=>False) (AB (Aau l1 l2 _ h64 e1 e2 k hk') fun z hz=>?_) fun z hz=>?_
    ·match z,hz with
     |.inl (),hz=>exact Af hz
     |.inr (.inr (.inr (.inr (.inr r)))),hz=>exact Af hz
    match z,hz with
    | .inl (),hz=>
     refine Af ⟨⟨k+1,rfl,hk',fun i j h1 h2 h3=>?_⟩,by omega⟩;by_cases e:i<k
     ·exact hij i j e h2 h3
     have:i=k:=by omega
     subst this;exact hz j h2 h3
    |.inr (.inr (.inr (.inr r))),hz=>exact Af hz
   have:k=t.Clauses.length:=by simp at h;omega
   subst this;exact fun i j h1 h2=>hij i j (by omega) h1 h2
  match z,hz with
  |.inl (),hz=>exact Af hz
  |.inr (.inr r),hz=>exact Af hz
 match z,hz with
 |.inl (),hz=>exact Af fun _=>⟨l1,l2,hk,hz⟩
 |.inr r,hz=>exact Af fun e=>by rw[hz]at e;cases e
theorem Ry(t:Aqt)(hs:Zr t):TP (EE t) fun e=>e=0->(∀c∈t.Clauses,Mg c)/\∀i j,i<j->j<t.Clauses.length->∀V,EY boxAll.low boxAll.high V->¬(I1 (nth t.Clauses i) V/\I1 (nth t.Clauses j) V):=by
 unfold EE;have h64:=hs.1
 refine AB (Q:=fun z=>match z with
  |.inl ()=>∀c∈t.Clauses,∃b,HY c=some (b,true)
  |.inr e=>e=190) ?_ fun z hz=>?_
 ·refine AB (Q:=fun z=>match z with
   |.inl ()=>∀c∈t.Clauses,∃b,HY c=some (b,true)
   |.inr (.inr e)=>e=190
   |_=>False) ?_ fun z hz=>?_
  ·refine AX (fun v=>∃k:Nat,v=(k:Int)/\k<=t.Clauses.length/\∀c∈t.Clauses.take k,∃b,HY c=some (b,true)) (fun v=>((t.Clauses.length:Int)-v).toNat) ?_ ⟨0,rfl,Aq5 _,by simp⟩ (by simp;omega);rintro _ ⟨k,rfl,hk,hc⟩;unfold H9;refine AK (fun h=>?_) fun h=>Af ?_
   ·have hk':k<t.Clauses.length:=by simpa using h
    simp only[AqJ (As hk'),B5,AqR,Agt];obtain⟨r,er,_⟩:=Ads _ (hs.2 _ (AF hk'));rw[er];refine AK (fun h=>Af rfl) fun h=>Af ⟨⟨k+1,Bt (by omega),hk',fun c hc'=>?_⟩,by rw[Bt (by omega)];omega⟩
    rw[Aq0 hk',<-Bb hk']at hc';rcases Aq3.1 hc' with h'|h'
    ·exact hc c h'
    simp only[Arm]at h';subst h';have:r.2=true:=by simpa using h
    exact⟨r.1,by rw[er,<-this]⟩
   have:k=t.Clauses.length:=by simp at h;omega
   subst this;rw[ArB]at hc;exact hc
  match z,hz with
  |.inl (),hz=>exact Af hz
  |.inr (.inr r),hz=>exact Af hz
 match z,hz with
 |.inr e,hz=>exact Af fun e0=>by rw[hz]at e0;cases e0
 | .inl (),hz=>
  refine AB (Um t hs) fun r hr=>AK (fun _=>Af fun e=>by cases e) fun h=>Af fun _=>?_
  obtain⟨l1,l2,hof,hap⟩:=hr (Arh h)
  have key:∀k,k<t.Clauses.length->nth l2 k=true/\Mg (nth t.Clauses k)/\∀V,EY (nth l1 k).low (nth l1 k).high V↔EY boxAll.low boxAll.high V/\I1 (nth t.Clauses k) V:=by
   intro k hk;obtain⟨b,hb⟩:=hz _ (AF hk);obtain⟨e,ho⟩:=hof k hk;rw[hb]at e;have e2:=Arz Prod.snd (AqF e);exact⟨e2.symm,ho e2.symm⟩
  refine⟨fun c hc=>?_,fun i j hij hj V hV hh=>?_⟩
  ·obtain⟨k,hk,rfl⟩:=ArA hc;rw[<-Bb hk];exact(key k hk).2.1
  obtain⟨s1,_,i1⟩:=key i (by omega);obtain⟨s2,_,i2⟩:=key j hj;exact hap i j hij hj s1 s2 V ⟨(i1 V).2 ⟨hV,hh.1⟩,(i2 V).2 ⟨hV,hh.2⟩⟩
structure Ok(t:Aqt):Prop where
  all:BI t=some 0
  chk:Dh t=some 0
  form:OkT t
  prt:DG t=some (pr t,0)
  short:(pr t).length<=2000
  box:EE t=some 0
  comp:∃c,Ek t=some (c,0)
theorem Yy{t:Aqt}{n:Nat}(hz:Tz n t)(hn:n<1000000):TP (BI t) fun e=>e=0->Ok t:=by
 obtain⟨⟨s,e1⟩,p1,p2⟩:=Aah hz hn;obtain⟨⟨k,e2⟩,q1,_⟩:=Ab2 hz hn;obtain⟨⟨c,e4⟩,r1,_⟩:=Ui hz hn;simp only at p2
 have hf:TP (BI t) fun e=>e=0->e1=0/\BI t=some 0/\EE t=some 0/\e4=0:=by
  have hg:TP (BI t) fun e=>e=0->e1=0/\EE t=some 0/\e4=0:=by
   unfold BI Cg FM FO FQ FR;rw[p1,q1,r1];simp only[Ad]
   refine AB (Q:=fun e=>e=0->e1=0/\EE t=some 0/\e4=0) (AB (Q:=fun z=>match z with
    |.inl ()=>e1=0/\EE t=some 0/\e4=0
    |.inr e=>e≠0) ?_ fun z hz=>?_) fun z hz=>Af hz
   ·refine AK (fun h=>Af (by simpa using h)) fun h1=>?_
    have h1':e1=0:=by simpa using h1
    obtain⟨p3,p4,p5,p6⟩:=p2 h1';refine AK (fun h=>Af (by simpa using h)) fun h2=>?_
    have hsm:Zr t:=⟨p4.few,fun c hc=>by have:=(p4.all c hc).few;omega⟩;obtain⟨e3,b1,_⟩:=Ry t hsm;rw[b1];simp only[Ad];refine AK (fun h=>Af (by simpa using h)) fun h3=>?_
    have h3':e3=0:=by simpa using h3
    subst h3';refine AK (fun h=>Af (by simpa using h)) fun h4=>Af ⟨h1',rfl,by simpa using h4⟩
   match z,hz with
   |.inl (),hz=>exact Af fun _=>hz
   |.inr e,hz=>exact Af fun h=>absurd h hz
  obtain⟨e,he,hk⟩:=hg;refine⟨e,he,fun h0=>?_⟩;obtain⟨k1,k2,k3⟩:=hk h0;exact⟨k1,by rw[he,h0],k2,k3⟩
 obtain⟨e,he,hk⟩:=hf;refine⟨e,he,fun h0=>?_⟩;obtain⟨k1,k2,k3,k4⟩:=hk h0;obtain⟨p3,p4,p5,p6⟩:=p2 k1;exact⟨k2,p3,p4,by rw[p1,p5,k1],p6,k3,c,by rw[r1,k4]⟩
def tz0:Aqt:={ Name:=[],For:=0,Clauses:=[] }
theorem MX{n:Nat}:Tz n tz0:=⟨Aq5 _,by simp[tz0]⟩
def Ap6(kind:Int)(y:Aqt×Int):Prop:=Tz 64 y.1/\(y.2=0->Ok y.1/\y.1.For=kind/\1<=kind/\kind<=6)
theorem Uu(src:List UInt8)(kind:Int):TP (Db src kind) (Ap6 kind):=by
 unfold Db;refine AB (Q:=fun b=>b=false->1<=kind/\kind<=6) ?_ fun b hb=>AK (fun _=>Af ⟨MX,fun h=>by cases h⟩) fun hn=>?_
 ·refine AK (fun _=>Af fun e=>by cases e) fun h=>Af fun e=>?_
  simp only[Aq1,Arb]at h e;omega
 have hk:=hb (Arh hn);refine AB (YU src) fun y hy=>?_
 refine AB (Q:=fun e=>e=0->y.1.For=kind) ?_ fun e he=>?_
 ·refine AB (Q:=fun b=>b=false->y.2.2=0->y.1.For=kind) ?_ fun b hb=>AK (fun _=>Af fun e=>by cases e) fun hn=>Af fun e=>hb (Arh hn) e
  exact AK (fun _=>Af fun e _=>by simpa using e) fun h=>Af fun _ e=>absurd e (by simpa using h)
 refine AB (Q:=fun e=>e=0->Ok y.1/\y.1.For=kind) ?_ fun e2 he2=>AK (fun _=>Af ⟨MX,fun h=>?_⟩) fun hn=>Af ⟨hy,fun _=>⟨(he2 (by simpa using hn)).1,(he2 (by simpa using hn)).2,hk⟩⟩
 ·refine AK (fun h=>AB (Yy hy (by omega)) fun e3 h3=>Af fun h0=>⟨h3 h0,he (by simpa using h)⟩) fun h=>Af fun h0=>absurd h0 (by simpa using h)
 rename_i hne;exact absurd h (by simpa using hne)
theorem Ai3{t:Aqt}{src:List UInt8}{n:Int}(h:Ok t)(hp:Dg src=some (t,n,0)):Db src t.For=some (t,0):=by
 obtain⟨k1,k2⟩:=h.form.kind;unfold Db;rw[AqI (by simp only[Aq1];omega)];simp only[Ad];rw[AqI (by simp only[Aq1];omega),hp];simp only[Ad,beq_self_eq_true,Aro,Atr,Aq6,Arx];rw[h.all];simp only[Ad,Atr,Aq6,Arx]
theorem K3(x y:Int):TP (DJ x y) fun r=>(x<y->r=-1)/\(y<x->r=1):=by
 unfold DJ Hh;simp only[Ad,Atr,Aq6,Arx];refine AK (fun h=>Af ?_) fun h=>AK (fun h2=>Af ?_) fun h2=>Af ?_
 ·simp only[Aq1]at h;exact⟨fun _=>rfl,fun _=>by omega⟩
 ·simp only[Aq1]at h h2;exact⟨fun _=>by omega,fun _=>rfl⟩
 simp only[Aq1]at h h2;exact⟨fun _=>by omega,fun _=>by omega⟩
theorem AhH(a b c:Int):TP (Ki [a,b,c]) fun r=>a≠0->r=a:=by
 unfold Ki
 refine AB (Q:=fun z=>match z with
  |.inl ()=>a=0
  |.inr r=>a≠0->r=a) (AB (Q:=fun z=>match z with
  |.inl ()=>a=0
  |.inr (.inr r)=>a≠0->r=a
  |_=>False) ?_ fun z hz=>?_) fun z hz=>?_
 ·refine AX (fun i=>∃k:Nat,i=(k:Int)/\k<=3/\(0<k->a=0)) (fun i=>(3-i).toNat) ?_ ⟨0,rfl,by omega,fun h=>by omega⟩ (by simp);rintro _ ⟨k,rfl,hk,ha⟩;unfold Iu;have hl:([a,b,c]:List Int).length=3:=rfl;rw[hl];refine AK (fun h=>?_) fun h=>Af ?_
  ·have hk':k<3:=by simp only[Aq1]at h;omega
   refine CY (As hk') ?_;simp only[AqR];refine AK (fun hv=>Af fun h0=>?_) fun hv=>Af ⟨⟨k+1,Bt (by omega),hk',fun _=>?_⟩,by rw[Bt (by omega)];omega⟩
   ·have:k=0:=by
     by_cases e:0<k
     ·exact absurd (ha e) h0
     omega
    subst this;rfl
   by_cases e:0<k
   ·exact ha e
   have:k=0:=by omega
   subst this;simpa [nth]using hv
  simp only[Aq1]at h;exact ha (by omega)
 ·match z,hz with
  |.inl (),hz=>exact Af hz
  |.inr (.inr r),hz=>exact Af hz
 match z,hz with
 |.inl (),hz=>exact Af fun h=>absurd hz h
 |.inr r,hz=>exact Af hz
theorem Ad5(a b:Aqy):TP (Cl a b) fun r=>(a.Zo.Zh<b.Zo.Zh->r=-1)/\(b.Zo.Zh<a.Zo.Zh->r=1):=by
 unfold Cl;refine AB (K3 _ _) fun r1 h1=>AB (K3 _ _) fun r2 _=>AB (K3 _ _) fun r3 _=>AB (AhH _ _ _) fun r hr=>Af ⟨fun h=>?_,fun h=>?_⟩
 ·rw[hr (by rw[h1.1 h];decide),h1.1 h]
 rw[hr (by rw[h1.2 h];decide),h1.2 h]
def Anh(a b:Aqy):Bool:=decide ((Cl a b).getD 0<0)
theorem Aih(a b:Aqy):∃y,Cl a b=some y/\decide (y<0)=Anh a b:=by
 obtain⟨y,e,_⟩:=Ad5 a b;exact⟨y,e,by unfold Anh;rw[e];rfl⟩
def AaE(x:Aqy):List Aqy->List Aqy
 |[]=>[x]
 |y::t=>if Anh x y=true then y::AaE x t else x::y::t
def M3(l:List Aqy):List Aqy:=l.foldl (fun acc x=>AaE x acc) []
theorem ZL(l:List Aqy)(x:Aqy):M3 (l++[x])=AaE x (M3 l):=by simp[M3]
theorem Yj(x:Aqy):∀l,(AaE x l).length=l.length+1
 |[]=>rfl
 |y::t=>by
  unfold AaE;split
  ·simp[Yj x t]
  simp
theorem MH(l:List Aqy):(M3 l).length=l.length:=by
 have key:∀(l a:List Aqy),(l.foldl (fun acc x=>AaE x acc) a).length=a.length+l.length:=by
  intro l
  induction l with
  |nil=>intro a;rfl
  |cons x l ih=>intro a;rw[List.foldl_cons,ih,Yj,AqP];omega
 rw[M3,key];simp
theorem Yk{V X:Type}{f:V->Option (V⊕X)}{v:V}{x:X}(h:f v=some (.inr x)):Bf f v=some x :=
 Ng 0 f (fun _ _=>v) (fun _=>()) (fun _=>x) (by omega) (fun k hk=>by omega) h
theorem AgN{α:Type}[Inhabited α](x:α)(r:List α):∀q:List α,nth (q++x::r) q.length=x
 |[]=>rfl
 |a::q=>by simp[nth]
theorem Ag8{α:Type}[Inhabited α](y x:α)(r:List α)(q:List α):nth (q++y::x::r) (q.length+1)=x:=by
 have:=AgN x r (q++[y]);simpa using this
theorem Adh{α:Type}(y x:α)(r:List α):∀q:List α,((q++y::x::r).set (q.length+1) y).set q.length x=q++x::y::r
 |[]=>rfl
 |a::q=>by simp[Adh y x r q]
theorem Adu(x:Aqy)(p r:List Aqy)(hp:(p++x::r).length<1000000):Bf (fun(v:Int×List Aqy)=>A2 0 v.1 v.2) ((p.length:Int),p++x::r)=some ((AaE x p.reverse).reverse++r):=by
 have key:TP (Bf (fun(v:Int×List Aqy)=>A2 0 v.1 v.2) ((p.length:Int),p++x::r)) fun z=>z=(AaE x p.reverse).reverse++r:=by
  refine AX (fun v=>∃q s,v.2=q++x::s/\v.1=(q.length:Int)/\v.2.length<1000000/\(AaE x q.reverse).reverse++s=(AaE x p.reverse).reverse++r) (fun v=>v.1.toNat) ?_ ⟨p,r,rfl,rfl,hp,rfl⟩ (by simp only[AqM,AqP]at hp;simp only;omega);rintro⟨_,_⟩ ⟨q,s,rfl,rfl,hl,ht⟩;simp only at hl ⊢;unfold A2;rcases List.eq_nil_or_concat q with rfl|⟨q,y,rfl⟩
  ·refine AB (Q:=fun b=>b=false) (AK (fun h=>by simp at h) fun _=>Af rfl) fun b hb=>AK (fun h=>by rw[hb]at h;cases h) fun _=>Af ?_
   rw[<-ht];rfl
  simp only[List.concat_eq_append]at hl ht ⊢;have e0:(q++[y])++x::s=q++y::x::s:=by simp
  have hlen:((q++[y]).length:Int)=((q.length+1:Nat):Int):=by simp
  have hw:w64 (((q.length+1:Nat):Int)-1)=(q.length:Int):=by
   simp only[AqM,AqP]at hl;rw[FB (by omega)];omega
  rw[e0];rw[hlen,hw];have i1:InR ((q.length+1:Nat):Int) (q++y::x::s).length:=As (by simp);have i2:InR (q.length:Int) (q++y::x::s).length:=As (by simp);rw[e0]at hl;simp only[AqR,AgN,Ag8];obtain⟨z,hz,hless⟩:=Aih x y;rw[hz];refine AB (Q:=fun b=>b=Anh x y) (AK (fun _=>CY i1 (CY i2 ?_)) fun h=>?_) fun b hb=>?_
  ·simp only[Ad];exact Af hless
  ·simp only[Aq1]at h;omega
  subst hb;refine AK (fun hb=>CY i2 (CY i1 (CY i1 (CY (by rw[OZ];exact i2) (AR (Af ⟨⟨q,y::s,Adh y x s q,rfl,?_,?_⟩,?_⟩)))))) fun hb=>Af ?_
  ·simp only[OZ];exact hl
  ·rw[<-ht];simp only[List.reverse_append,List.reverse_cons,List.reverse_nil,Aru,As4,AaE,AqJ hb,Ars,Aq7]
  ·simp only;omega
  rw[<-ht];simp only[List.reverse_append,List.reverse_cons,List.reverse_nil,Aru,As4,AaE,AqI hb,Ars,Aq7,List.reverse_reverse]
 obtain⟨z,e,h⟩:=key;rw[e,h]
theorem Aej(d:List Aqy)(hd:d.length<1000000):Az d 0 (d.length:Int)=some (M3 d).reverse:=by
 have key:TP (Az d 0 (d.length:Int)) fun z=>z=(M3 d).reverse:=by
  unfold Az;refine AB (Q:=fun z=>z=(M3 d).reverse) ?_ fun z hz=>Af hz
  have hw:w64 (0+1)=((1:Nat):Int):=by decide
  rw[hw];refine AX (fun v=>∃k:Nat,v.1=(k:Int)/\1<=k/\(k<=d.length\/d=[])/\v.2=(M3 (d.take k)).reverse++d.drop k) (fun v=>((d.length:Int)-v.1).toNat) ?_ ⟨1,rfl,by omega,?_,?_⟩ (by simp only;omega)
  ·rintro⟨_,_⟩ ⟨k,rfl,h1,hk,rfl⟩;simp only;unfold Ba;refine AK (fun h=>?_) fun h=>Af ?_
   ·have hk':k<d.length:=by simpa using h
    have hsl:(M3 (d.take k)).reverse.length=k:=by rw[AsS,MH,ArH];omega
    have ed:d.drop k=nth d k::d.drop (k+1):=by rw[Arq hk',Bb hk']
    have:=Adu (nth d k) (M3 (d.take k)).reverse (d.drop (k+1)) (by simp only[AqM,AqP,hsl,Ar4];omega);rw[hsl]at this;rw[ed,this];simp only[Ad];refine Af ⟨⟨k+1,Bt (by omega),by omega,.inl hk',?_⟩,by simp only;rw[Bt (by omega)];omega⟩;simp only;rw[List.reverse_reverse,Aq0 hk',ZL,Bb hk']
   have:d.length<=k:=by simp at h;omega
   rw[Arp this,AsZ this,ArI]
  ·cases d with
   |nil=>exact .inr rfl
   |cons a d=>exact .inl (by simp)
  cases d with
  |nil=>rfl
  |cons a d=>rfl
 obtain⟨z,e,h⟩:=key;rw[e,h]
theorem Ag2(d:List Aqy)(hd:d.length<=19):Bm d=some (M3 d).reverse:=by
 have hl:((M3 d).reverse).length=d.length:=by rw[AsS,MH]
 unfold Bm BU
 have e1:Bf (fun(v:Int×Int×List Aqy)=>AM (d.length:Int) v.1 v.2.1 v.2.2) (0,20,d)=some (0,d):=Yk (by
  show AM _ _ _ _=_;unfold AM;rw[AqI (by simp only[Aq1];omega)])
 have e3:Bf (fun(v:Int)=>AO (d.length:Int) v) 20=some ():=Yk (by
  show AO _ _=_;unfold AO;rw[AqI (by simp only[Aq1];omega)])
 rw[e1];simp only[Ad];rw[Aej d (by omega)];simp only[Ad];rw[AqJ hl.symm,e3];simp only[Ad];rw[AqJ hl.symm]
def AaH(railway kind:Int)(r:Aqy):Bool:=decide (r.Ref.Za=railway/\r.Zo.Zg=kind/\(r.Zo.Kind=11\/r.Zo.Kind=12\/r.Zo.Kind=13))
def ed(l:List Aqy)(railway kind:Int):List Aqy:=(M3 (l.filter (AaH railway kind))).reverse
theorem WZ(l:List Aqy)(railway kind:Int)(hl:l.length<=19):Eb l railway kind=some (ed l railway kind):=by
 unfold Eb;have:=Ng l.length (fun(v:Int×List Aqy)=>C5 l railway kind v.1 v.2) (fun i s=>(i,s)) (fun k=>(l.take k).filter (AaH railway kind)) (fun s=>s) (by omega) (fun k hk=>?_) ?_
 ·rw[AtP,List.filter_nil,ArB]at this;rw[this];simp only[Ad];have h1:=As7 (AaH railway kind) l;rw[Ag2 _ (by omega)];simp only[Ad];rw[AqJ (by rw[AsS,MH])];rfl
 ·have h1:=As7 (AaH railway kind) (l.take k);have h2:(l.take k).length<=k:=by rw[ArH];omega
  have e:(l.take (k+1)).filter (AaH railway kind)=(l.take k).filter (AaH railway kind)++(if AaH railway kind (nth l k)=true then[nth l k]else[]):=by
   rw[Aq0 hk,List.filter_append,<-Bb hk,List.filter_cons,List.filter_nil]
  unfold C5;simp only;rw[AqJ (by simpa using hk),AqJ (As hk),e];simp only[AqR,B5];rw[Bt (by omega)];by_cases c1:(nth l k).Ref.Za=railway
  ·by_cases c2:(nth l k).Zo.Zg=kind
   ·by_cases c3:(nth l k).Zo.Kind=11\/(nth l k).Zo.Kind=12\/(nth l k).Zo.Kind=13
    ·have hc:AaH railway kind (nth l k)=true:=AtR ⟨c1,c2,c3⟩
     have hb:(if((nth l k).Zo.Kind==11)then some true else if((nth l k).Zo.Kind==12)then some true else some ((nth l k).Zo.Kind==13):Option Bool)=some true:=by
      rcases c3 with c3|c3|c3<;>rw[c3]<;>rfl
     rw[AqJ hc,AqI (by simpa using c1)];simp only[Ad];rw[AqI (by simpa using c2),hb];simp only[Ad,Aro];rw[AqJ (LD (by omega) (by decide))];simp only[Ad]
    have hc:¬AaH railway kind (nth l k)=true:=fun h=>c3 (AsL h).2.2
    have hb:(if((nth l k).Zo.Kind==11)then some true else if((nth l k).Zo.Kind==12)then some true else some ((nth l k).Zo.Kind==13):Option Bool)=some false:=by
     rw[AqI (by simp;omega),AqI (by simp;omega)];simp;omega
    rw[AqI hc,AqI (by simpa using c1)];simp only[Ad];rw[AqI (by simpa using c2),hb];simp only[Ad,Aq6,Arx,ArI]
   have hc:¬AaH railway kind (nth l k)=true:=fun h=>c2 (AsL h).2.1
   rw[AqI hc,AqI (by simpa using c1)];simp only[Ad];rw[AqJ (by simpa using c2)];simp only[Ad,ArI]
  have hc:¬AaH railway kind (nth l k)=true:=fun h=>c1 (AsL h).1
  rw[AqI hc,AqJ (by simpa using c1)];simp only[Ad,Aro,ArI]
 unfold C5;simp only;rw[AqI (by simp),ArB]
structure AmP(t a r:Aqt):Prop where
  name:r.Name=t.Name
  kind:r.For=t.For
  more:t.Clauses.length<=r.Clauses.length
  most:r.Clauses.length<=t.Clauses.length+a.Clauses.length
  all:∀c∈r.Clauses,c∈a.Clauses\/(c∈t.Clauses/\∀b∈a.Clauses,b.Name≠c.Name)
theorem KP{α:Type}[Inhabited α]{l:List α}{k:Nat}(hk:k<l.length){x:α}:x∈l.take (k+1)↔x∈l.take k\/x=nth l k:=by
 rw[Aq0 hk,<-Bb hk,Aq3,Arm]
theorem Ab9{α:Type}[Inhabited α]{l:List α}{i j:Nat}{x:α}(hj:j<l.length):nth (l.set i x) j=if i=j then x else nth l j:=by
 rw[Bb (by simpa using hj),Bb hj,List.getElem_set]
theorem QU{l:List (List UInt8)}(h:l.Nodup){k:Nat}(hk:k<l.length):nth l k ∉ l.take k:=by
 intro hm;have hd:(l.take k++l.drop k).Nodup:=by rw[ArV];exact h
 exact(List.nodup_append.1 hd).2.2 _ hm _ (by rw[Arq hk,Bb hk];exact Aq4) rfl
theorem ZT(t a:Aqt)(ht:t.Clauses.length<=1000)(ha:a.Clauses.length<=1000)(hn:(t.Clauses.map (·.Name)).Nodup):TP (DM t a) (AmP t a):=by
 unfold DM;refine AB (Q:=fun m=>(∀s c,m s=some c->c∈a.Clauses/\c.Name=s)/\∀c∈a.Clauses,(m c.Name).isSome=true) (AB (Q:=fun m=>(∀s c,m s=some c->c∈a.Clauses/\c.Name=s)/\∀c∈a.Clauses,(m c.Name).isSome=true) ?_ fun z hz=>Af hz) fun m0 hm=>?_
 ·refine AX (fun v=>∃k:Nat,v.1=(k:Int)/\k<=a.Clauses.length/\(∀s c,v.2 s=some c->c∈a.Clauses/\c.Name=s)/\∀c∈a.Clauses.take k,(v.2 c.Name).isSome=true) (fun v=>((a.Clauses.length:Int)-v.1).toNat) ?_ ⟨0,rfl,Aq5 _,fun s c h=>(by cases h),by simp⟩ (by simp;omega);rintro⟨_,m⟩ ⟨k,rfl,hk,h1,h2⟩;simp only at h1 h2;unfold Fm;refine AK (fun h=>?_) fun h=>Af ?_
  ·have hk':k<a.Clauses.length:=by simpa using h
   refine CY (As hk') (AR (AR (AR (AR (AR (AR (AR (Af ⟨⟨k+1,Bt (by omega),hk',fun s c e=>?_,fun c hc=>?_⟩,by simp only;rw[Bt (by omega)];omega⟩))))))))
   ·simp only[AqR,FY,up2]at e;by_cases es:s=(nth a.Clauses k).Name
    ·rw[AqJ es]at e;cases e;exact⟨AF hk',es.symm⟩
    rw[AqI es]at e;exact h1 s c e
   simp only[AqR,FY,up2];by_cases es:c.Name=(nth a.Clauses k).Name
   ·rw[AqJ es];rfl
   rw[AqI es];rcases(KP hk').1 hc with hc|rfl
   ·exact h2 c hc
   exact absurd rfl es
  have:k=a.Clauses.length:=by simp at h;omega
  subst this;rw[ArB]at h2;exact⟨h1,h2⟩
 obtain⟨hm1,hm2⟩:=hm
 have hcl:EP t.Clauses=some t.Clauses:=by
  unfold EP;rw[AqJ (LD (by omega) (by decide)),B5,Aru]
 rw[hcl];simp only[Ad];refine AB (Q:=fun z=>(∀s c,z.1 s=some c->m0 s=some c)/\z.2.length=t.Clauses.length/\∀c∈z.2,c∈a.Clauses\/(c∈t.Clauses/\m0 c.Name=none)) (AB (Q:=fun z=>(∀s c,z.1 s=some c->m0 s=some c)/\z.2.length=t.Clauses.length/\∀c∈z.2,c∈a.Clauses\/(c∈t.Clauses/\m0 c.Name=none)) ?_ fun z hz=>Af hz) fun z hz=>?_
 ·refine AX (fun v=>∃k:Nat,v.1=(k:Int)/\k<=t.Clauses.length/\(∀s c,v.2.1 s=some c->m0 s=some c)/\(∀s,v.2.1 s=none->m0 s=none\/s∈(t.Clauses.map (·.Name)).take k)/\v.2.2.length=t.Clauses.length /\
    (∀j,k<=j->j<t.Clauses.length->nth v.2.2 j=nth t.Clauses j)/\∀j,j<k->nth v.2.2 j∈a.Clauses\/(nth v.2.2 j∈t.Clauses/\m0 (nth v.2.2 j).Name=none)) (fun v=>((t.Clauses.length:Int)-v.1).toNat) ?_ ⟨0,rfl,Aq5 _,fun s c h=>h,fun s h=>.inl h,rfl,fun j _ _=>rfl,fun j h=>by omega⟩ (by simp;omega)
  rintro⟨_,m,l⟩ ⟨k,rfl,hk,h1,h2,h3,h4,h5⟩;simp only at h1 h2 h3 h4 h5;unfold Ff;refine AK (fun h=>?_) fun h=>Af ?_
  ·have hk':k<t.Clauses.length:=by simpa using h
   have hkl:k<l.length:=by omega
   have hel:nth l k=nth t.Clauses k:=h4 k (AqT _) hk';have hnm:nth (t.Clauses.map (·.Name)) k=(nth t.Clauses k).Name:=by rw[Bb (by simpa using hk'),List.getElem_map,Bb hk']
   have hnot:(nth t.Clauses k).Name ∉ (t.Clauses.map (·.Name)).take k:=by rw[<-hnm];exact QU hn (by simpa using hk')
   have hex:∀s,s∈(t.Clauses.map (·.Name)).take k->s∈(t.Clauses.map (·.Name)).take (k+1):=fun s hs=>(KP (by simpa using hk')).2 (.inl hs)
   refine AB (Q:=fun z=>(∀s c,z.1 s=some c->m0 s=some c)/\(∀s,z.1 s=none->m0 s=none\/s∈(t.Clauses.map (·.Name)).take (k+1))/\z.2.length=t.Clauses.length/\(∀j,k+1<=j->j<t.Clauses.length->nth z.2 j=nth t.Clauses j) /\
     ∀j,j<k+1->nth z.2 j∈a.Clauses\/(nth z.2 j∈t.Clauses/\m0 (nth z.2 j).Name=none)) ?_ fun z hz=>?_
   ·refine CY (As hkl) (AR (AR (AR (AR (AR (AR (AR (AR (AR (AR (AR (AR ?_))))))))))));simp only[AqR,FY,hel];refine AK (fun hs=>CY (As hkl) (AR (AR (Af ⟨fun s c e=>?_,fun s e=>?_,by rw[OZ];exact h3,fun j j1 j2=>?_,fun j j1=>?_⟩)))) fun hs=>Af ⟨h1,fun s e=>(h2 s e).imp id (hex s),h3,fun j j1 j2=>h4 j (by omega) j2,fun j j1=>?_⟩
    ·simp only[up2]at e;by_cases es:s=(nth t.Clauses k).Name
     ·rw[AqJ es]at e;cases e
     rw[AqI es]at e;exact h1 s c e
    ·simp only[up2]at e;by_cases es:s=(nth t.Clauses k).Name
     ·exact .inr ((KP (by simpa using hk')).2 (.inr (by rw[es,hnm])))
     rw[AqI es]at e;exact(h2 s e).imp id (hex s)
    ·simp only;rw[Ab9 (by omega),AqI (by omega)];exact h4 j (by omega) j2
    ·simp only;rw[Ab9 (by omega)];by_cases ej:k=j
     ·rw[AqJ ej];obtain⟨c,hc⟩:=Asw.1 hs;rw[hc];exact .inl (hm1 _ _ (h1 _ _ hc)).1
     rw[AqI ej];exact h5 j (by omega)
    simp only;by_cases ej:j=k
    ·subst ej;rw[hel]
     have hnone:m (nth t.Clauses j).Name=none:=by
      cases e:m (nth t.Clauses j).Name with
      |none=>rfl
      |some c=>rw[e]at hs;exact absurd rfl hs
     rcases h2 _ hnone with h0|h0
     ·exact .inr ⟨AF hk',h0⟩
     exact absurd h0 hnot
    exact h5 j (by omega)
   obtain⟨z1,z2⟩:=z;obtain⟨g1,g2,g3,g4,g5⟩:=hz;exact Af ⟨⟨k+1,Bt (by omega),hk',g1,g2,g3,g4,g5⟩,by simp only;rw[Bt (by omega)];omega⟩
  have:k=t.Clauses.length:=by simp at h;omega
  subst this;refine⟨h1,h3,fun c hc=>?_⟩;obtain⟨j,hj,rfl⟩:=ArA hc;have:=h5 j (by simpa [h3]using hj);rw[Bb hj]at this;exact this
 obtain⟨m1,l1⟩:=z;obtain⟨g1,g2,g3⟩:=hz;simp only at g1 g2 g3 ⊢;refine AB (Q:=fun l=>t.Clauses.length<=l.length/\l.length<=t.Clauses.length+a.Clauses.length/\∀c∈l,c∈a.Clauses\/(c∈t.Clauses/\m0 c.Name=none)) (AB (Q:=fun l=>t.Clauses.length<=l.length/\l.length<=t.Clauses.length+a.Clauses.length/\∀c∈l,c∈a.Clauses\/(c∈t.Clauses/\m0 c.Name=none)) ?_ fun z hz=>Af hz) fun l hl=>Af ⟨rfl,rfl,hl.1,hl.2.1,fun c hc=>(hl.2.2 c hc).imp id fun h=>⟨h.1,fun b hb e=>?_⟩⟩
 ·refine AX (fun v=>∃k:Nat,v.1=(k:Int)/\k<=a.Clauses.length/\t.Clauses.length<=v.2.length/\v.2.length<=t.Clauses.length+k/\∀c∈v.2,c∈a.Clauses\/(c∈t.Clauses/\m0 c.Name=none)) (fun v=>((a.Clauses.length:Int)-v.1).toNat) ?_ ⟨0,rfl,Aq5 _,by simp only;omega,by simp only;omega,g3⟩ (by simp;omega);rintro⟨_,l⟩ ⟨k,rfl,hk,h1,h2,h3⟩;simp only at h1 h2 h3 ⊢;have h2':l.length<=t.Clauses.length+a.Clauses.length:=by omega
  have h2'':l.length<=t.Clauses.length+(k+1):=by omega
  unfold Fo;refine AK (fun h=>?_) fun h=>Af ⟨h1,h2',h3⟩
  have hk':k<a.Clauses.length:=by simpa using h
  refine AB (Q:=fun z=>t.Clauses.length<=z.length/\z.length<=t.Clauses.length+(k+1)/\∀c∈z,c∈a.Clauses\/(c∈t.Clauses/\m0 c.Name=none)) ?_ fun z hz=>Af ⟨⟨k+1,Bt (by omega),hk',hz⟩,by simp only;rw[Bt (by omega)];omega⟩
  refine CY (As hk') (AR (AR (AR (AR (AR (AR (AR (AR (AR (AR (AR (AR ?_))))))))))));refine AK (fun _=>CY (LD (by omega) (by decide)) (AR (Af ⟨by simp;omega,by simp;omega,fun c hc=>?_⟩))) fun _=>Af ⟨h1,h2'',h3⟩
  simp only[AqR,FY]at hc;rcases Aq3.1 hc with hc|hc
  ·exact h3 c hc
  simp only[Arm]at hc;subst hc;exact .inl (AF hk')
 have:=hm2 b hb;rw[e,h.2]at this;cases this
abbrev Fs:=Bool×Aqt
def QA(kind:Int)(s:Fs)(r:Aqy):Option Fs :=
 if(r.Zo.Kind==13)then some (false,tz0)
 else(Db r.Zo.Text kind).bind fun y=>
  if(y.2 != 0)then some s
  else if(r.Zo.Kind==11)then some (true,y.1)
  else if s.1=true then(DM s.2 y.1).bind fun a=>(BI a).bind fun e=>if(e==0)then some (s.1,a)else some s
  else some s
def Inv(kind:Int)(s:Fs):Prop:=Tz 64 s.2/\(s.1=true->Ok s.2/\s.2.For=kind)
theorem AfR{t a r:Aqt}(h:AmP t a r)(ht:Tz 64 t)(ha:Tz 64 a):Tz 128 r:=by
 have:=h.most;have:=ht.1;have:=ha.1;exact⟨by omega,fun c hc=>(h.all c hc).elim (ha.2 c) fun q=>ht.2 c q.1⟩
theorem AnS{t:Aqt}{n:Nat}(h:Tz n t)(k:Ok t):Tz 64 t:=⟨k.form.few,h.2⟩
theorem Ab3{kind:Int}{s:Fs}(h:Inv kind s)(r:Aqy):TP (QA kind s r) (Inv kind):=by
 unfold QA;refine AK (fun _=>Af ⟨MX,fun e=>by cases e⟩) fun _=>?_
 refine AB (Uu _ _) fun y hy=>AK (fun _=>Af h) fun h0=>?_
 have hy2:=hy.2 (by simpa using h0);refine AK (fun _=>Af ⟨hy.1,fun _=>⟨hy2.1,hy2.2.1⟩⟩) fun _=>AK (fun hs=>?_) fun _=>Af h
 obtain⟨k1,k2⟩:=h.2 hs;have:=h.1.1;have:=hy.1.1;refine AB (ZT s.2 y.1 (by omega) (by omega) k1.form.apart) fun a ha=>?_
 have hz:=AfR ha h.1 hy.1;refine AB (Yy hz (by omega)) fun e he=>AK (fun e0=>?_) fun _=>Af h
 have hok:=he (by simpa using e0);exact Af ⟨AnS hz hok,fun _=>⟨hok,by show a.For=kind;rw[ha.kind];exact k2⟩⟩
def step(kind:Int)(s:Fs)(r:Aqy):Fs:=(QA kind s r).getD s
theorem AbC{kind:Int}{s:Fs}(h:Inv kind s)(r:Aqy):QA kind s r=some (step kind s r)/\Inv kind (step kind s r):=by
 obtain⟨z,e,hz⟩:=Ab3 h r;unfold step;rw[e];exact⟨rfl,hz⟩
def Y1(kind:Int)(l:List Aqy):Fs:=l.foldl (step kind) (false,tz0)
theorem Yr(kind:Int)(l:List Aqy):Inv kind (Y1 kind l):=by
 have key:∀(l:List Aqy) (s:Fs),Inv kind s->Inv kind (l.foldl (step kind) s):=by
  intro l
  induction l with
  |nil=>intro s h;exact h
  |cons x l ih=>intro s h;exact ih _ (AbC h x).2
 exact key l _ ⟨MX,fun e=>by cases e⟩
theorem Abz(kind:Int)(l:List Aqy)(x:Aqy):Y1 kind (l++[x])=step kind (Y1 kind l) x:=by simp[Y1]
def U4(at_:Int)(l:List Aqy):List Aqy:=l.takeWhile fun r=>decide (r.Zo.Zh<=at_)
def ans(s:Fs):Aqt×Int:=if s.1=true then(s.2,0)else(tz0,220)
def On(railway kind at_:Int):Prop:=0<=railway/\railway<16/\1<=kind/\kind<=6/\0<=at_/\at_<=1073741824
instance (a b c:Int):Decidable (On a b c):=inferInstanceAs (Decidable (_/\_))
theorem Ae6(railway kind:Int):FH railway kind=some (decide (0<=railway/\railway<16/\1<=kind/\kind<=6)):=by
 unfold FH;by_cases h1:0<=railway<;>by_cases h2:railway<16<;>by_cases h3:1<=kind<;>by_cases h4:kind<=6<;>simp[h1,h2,h3,h4]
theorem AgL{α:Type}(p:α->Bool):∀(l:List α) (x:α),x∈l.takeWhile p->p x=true
 |[],x,h=>by simp at h
 | y::l,x,h=>by
  by_cases hy:p y=true
  ·rw[Ate hy]at h;rcases Aq9.1 h with rfl|h
   ·exact hy
   exact AgL p l x h
  rw[Atf hy]at h;simp at h
theorem Adq{α:Type}(p:α->Bool):∀l:List α,¬((l.drop (l.takeWhile p).length).head?.any p)=true
 |[]=>by simp
 | x::l=>by
  by_cases h:p x=true
  ·rw[Ate h];simpa using Adq p l
  rw[Atf h];simp[h]
theorem Aap(l:List Aqy)(railway kind at_:Int)(hl:l.length<=19):Ch l railway kind at_=some (if On railway kind at_ then ans (Y1 kind (U4 at_ (ed l railway kind)))else(tz0,1)):=by
 have key : TP (Ch l railway kind at_) fun z=>z=if On railway kind at_ then ans (Y1 kind (U4 at_ (ed l railway kind)))else(tz0,1):=by
  unfold Ch;rw[Ae6];simp only[Ad];refine AB (Q:=fun b=>b=true↔¬On railway kind at_) ?_ fun b hb=>AK (fun h=>?_) fun h=>?_
  ·refine AK (fun h=>Af ?_) fun h=>AK (fun h2=>Af ?_) fun h2=>Af ?_
   ·simp only[Ar9,Arb]at h;exact⟨fun _ k=>h ⟨k.1,k.2.1,k.2.2.1,k.2.2.2.1⟩,fun _=>rfl⟩
   ·simp only[Aq1]at h2;exact⟨fun _ k=>by have:=k.2.2.2.2.1;omega,fun _=>rfl⟩
   simp only[Ar9,Arb,As2,Aq1]at h h2 ⊢
   exact⟨fun e k=>by have:=k.2.2.2.2.2;omega,fun k=>by
    by_cases e:at_>1073741824
    ·exact e
    exact absurd ⟨h.1,h.2.1,h.2.2.1,h.2.2.2,by omega,by omega⟩ k⟩
  ·rw[AqI (hb.1 h)];exact Af rfl
  have hok:On railway kind at_:=AsM fun k=>h (hb.2 k)
  rw[AqJ hok,WZ l railway kind hl];simp only[Ad];generalize hd:ed l railway kind=d
  have hdl:d.length<=19:=by
   have:=As7 (AaH railway kind) l;rw[<-hd,ed,AsS,MH];omega
  have hu:U4 at_ d=d.take (U4 at_ d).length:=(List.prefix_iff_eq_take.1 (List.takeWhile_prefix _));have hul:(U4 at_ d).length<=d.length:=(List.takeWhile_prefix _).length_le;refine AB (Q:=fun z=>(z.1,({ Name:=z.2.1,For:=z.2.2.1,Clauses:=z.2.2.2 }:Aqt))=Y1 kind (U4 at_ d)) (AB (Q:=fun z=>(z.1,({ Name:=z.2.1,For:=z.2.2.1,Clauses:=z.2.2.2 }:Aqt))=Y1 kind (U4 at_ d)) ?_ fun z hz=>Af hz) fun z hz=>?_
  ·refine AX (fun v=>∃k:Nat,v.2.1=(k:Int)/\k<=(U4 at_ d).length/\(v.1,({ Name:=v.2.2.1,For:=v.2.2.2.1,Clauses:=v.2.2.2.2 }:Aqt))=Y1 kind (d.take k)) (fun v=>((d.length:Int)-v.2.1).toNat) ?_ ⟨0,rfl,Aq5 _,rfl⟩ (by simp;omega);rintro⟨th,_,f1,f2,f3⟩ ⟨k,rfl,hk,hs⟩;simp only at hs;have hI:=Yr kind (d.take k);unfold Et;refine AK (fun h=>?_) fun h=>Af ?_
   ·have hk':k<d.length:=by simpa using h
    by_cases hkk:k<(U4 at_ d).length
    ·have hfrom:(nth d k).Zo.Zh<=at_:=by
      have h1:nth (U4 at_ d) k∈U4 at_ d:=AF hkk
      have h2:nth (U4 at_ d) k=nth d k:=by
       rw[hu,Bb (by rw[ArH];omega),Bb hk',List.getElem_take]
      rw[h2]at h1;have:=AgL _ d _ h1;simpa using this
     have hst:=AbC hI (nth d k);have hnext:Y1 kind (d.take (k+1))=step kind (Y1 kind (d.take k)) (nth d k):=by rw[Aq0 hk',<-Bb hk',Abz]
     refine AB (Q:=fun z=>match z with
      |.inl z=>(z.1,({ Name:=z.2.1,For:=z.2.2.1,Clauses:=z.2.2.2 }:Aqt))=Y1 kind (d.take (k+1))
      |.inr _=>False) ?_ fun z hz=>?_
     ·refine CY (As hk') (AR (AR (AR (AR (AR (AR (AR (AR (AR (AR (AR (AR (AR (AR (AR (AR (AR (AR (AR (AR (AR ?_)))))))))))))))))))));simp only[AqR];rw[AqI (by simp only[Aq1];omega),hnext];obtain⟨he,_⟩:=hst;rw[<-hs]at he hI ⊢;generalize hF:step kind (th,({ Name:=f1,For:=f2,Clauses:=f3 }:Aqt)) (nth d k)=F at he ⊢;unfold QA at he;obtain⟨y,hy,_⟩:=Uu (nth d k).Zo.Text kind;by_cases c1:((nth d k).Zo.Kind==13)=true
      ·rw[AqJ c1]at he ⊢;cases he;exact Af rfl
      rw[AqI c1]at he ⊢;rw[hy]at he ⊢;simp only[Ad]at he ⊢;by_cases c2:(y.2 != 0)=true
      ·rw[AqJ c2]at he ⊢;cases he;exact Af rfl
      rw[AqI c2]at he ⊢;by_cases c3:((nth d k).Zo.Kind==11)=true
      ·rw[AqJ c3]at he ⊢;cases he;exact Af rfl
      rw[AqI c3]at he ⊢;by_cases c4:th=true
      ·rw [AqJ c4]at he ⊢;cases ea:DM ({ Name:=f1,For:=f2,Clauses:=f3 }:Aqt) y.1 with
       |none=>rw[ea]at he;cases he
       | some a=>
        rw[ea]at he;simp only[Ad]at he ⊢;cases ec:BI a with
        |none=>rw[ec]at he;cases he
        | some e=>
         rw[ec]at he;simp only[Ad]at he ⊢;by_cases c5:(e==0)=true
         ·rw[AqJ c5]at he ⊢;cases he;exact Af rfl
         rw[AqI c5]at he ⊢;cases he;exact Af rfl
      rw[AqI c4]at he ⊢;cases he;exact Af rfl
     match z,hz with
     |.inl (th',g1,g2,g3),hz=>exact Af ⟨⟨k+1,Bt (by omega),hkk,hz⟩,by simp only;rw[Bt (by omega)];omega⟩
    have hke:k=(U4 at_ d).length:=by omega
    have hfrom:at_<(nth d k).Zo.Zh:=by
     have h1:¬((d.drop k).head?.any fun r=>decide (r.Zo.Zh<=at_))=true:=by
      intro hc;have h3:=Adq (fun r:Aqy=>decide (r.Zo.Zh<=at_)) d;rw[hke]at hc;exact h3 hc
     rw[Arq hk',<-Bb hk']at h1;simp only[List.head?_cons,Option.any_some,Aq1]at h1;omega
    refine AB (Q:=fun z=>match z with
     |.inl _=>False
     |.inr (.inl _)=>False
     |.inr (.inr z)=>(z.1,({ Name:=z.2.1,For:=z.2.2.1,Clauses:=z.2.2.2 }:Aqt))=Y1 kind (U4 at_ d)) ?_ fun z hz=>?_
    ·refine CY (As hk') (AR (AR (AR (AR (AR (AR (AR (AR (AR (AR (AR (AR (AR (AR (AR (AR (AR (AR (AR (AR (AR ?_)))))))))))))))))))));simp only[AqR];rw[AqJ (by simp only[Aq1];omega)];refine Af ?_;rw[hke,<-hu]at hs;exact hs
    match z,hz with
    |.inr (.inr z),hz=>exact Af hz
   have hkd:d.length<=k:=by simp at h;omega
   have hke:k=(U4 at_ d).length:=by omega
   show(th,({ Name:=f1,For:=f2,Clauses:=f3 }:Aqt))=_;rw[hke,<-hu]at hs;exact hs
  obtain⟨th,f1,f2,f3⟩:=z;simp only at hz ⊢;rw[<-hz];unfold ans;cases th
  ·exact Af rfl
  exact Af rfl
 obtain⟨z,e,h⟩:=key;rw[e,h]
def tb(t:Aqp):List (List UInt8):=nth w_attributes t.Attr.toNat::(if t.Low=t.High then[[105,115],Lib.itoa t.Low]else[[105,110],Lib.itoa t.Low,[46,46],Lib.itoa t.High])
theorem Ahb{t:Aqp}(h:(0<=t.Attr/\t.Attr<16)/\(0<=t.Low/\0<=t.High)/\t.Low<=1099511627776/\t.High<=1099511627776){b:Int}(hb:b≠8):PX (fun p=>BS p b) (tb t) t (fun _=>True):=by
 intro l e vs hT _;obtain⟨a,lo,hi⟩:=t;obtain⟨⟨a1,a2⟩,⟨b1,b2⟩,b3,b4⟩:=h;simp only at a1 a2 b1 b2 b3 b4;obtain⟨i,rfl⟩:∃i:Nat,a=(i:Int):=⟨a.toNat,by omega⟩;have hi':i<16:=by omega
 unfold tb at hT;simp only[AqR,Aq7]at hT;show TP (BS ⟨l,e⟩ b) _;unfold BS;rw[HN];simp only[Ad];rw[KG _ FZ (by decide)];obtain⟨r,h1,h2⟩:=XQ (e:=e) Ak8 hi' hT;rw[h2];simp only[Ad];rw[AqI (by simpa using hb),AQ];by_cases c:lo=hi
 ·subst c;rw[AqJ rfl]at h1;obtain⟨r2,h3,h4⟩:=QM (e:=e) (w:=[105,115]) h1 (by decide +kernel);rw[h4];simp only[Ad,Aro];rw[Gd];obtain⟨r3,h5,h6⟩:=Af9 (e:=e) h3 b1 b3;rw[h6];exact Af ⟨r3,h5,rfl⟩
 rw[AqI c]at h1;rw[N0 h1 (.inr (by decide))];simp only[Ad,Aq6,Arx];rw[BO];obtain⟨r2,h3,h4⟩:=Py (e:=e) h1 (by decide +kernel);rw[h4];simp only[Ad];rw[Gd];obtain⟨r3,h5,h6⟩:=Af9 (e:=e) h3 b1 b3;rw[h6];simp only[Ad];rw[BO];obtain⟨r4,h7,h8⟩:=Py (e:=e) h5 (by decide +kernel);rw[h8];simp only[Ad];rw[Gd];obtain⟨r5,h9,h10⟩:=Af9 (e:=e) h7 b2 b4;rw[h10];exact Af ⟨r5,h9,rfl⟩
def ptc:Nat->List Aqp->List (List UInt8)
 |_,[]=>[]
 |k,t::l=>Wq k t++ptc (k+1) l
theorem Y8(l:List Aqp):∀k,k<=l.length->HO l k++ptc k (l.drop k)=ptc 0 l
 |0,_=>rfl
 |k+1,h=>by
  have hk:k<l.length:=h;have ih:=Y8 l k (by omega);rw[Arq hk,ptc,<-Bb hk]at ih;rw[HO,Ars];exact ih
theorem ZS(l:List Aqp):HO l l.length=ptc 0 l:=by
 have:=Y8 l l.length (AqT _);rwa[AsO,ptc,ArI]at this
def pay:List UInt8:=[112,97,121]
theorem AeA(k:Nat):Kd (nth heads2 (min k 1))≠2/\pay≠nth heads2 (min k 1):=by
 rcases(show min k 1=0\/min k 1=1 by omega)with e|e<;>rw[e]<;>decide +kernel
theorem TZ{W:List Aqp}{vs:List (List UInt8)}{l:List Aqn}{e:Int}{k:Nat}(hk:k<=W.length)(h:Tkz l (ptc k (W.drop k)++pay::vs)) :(k<W.length/\∃r,Tkz r (tb (nth W k)++(ptc (k+1) (W.drop (k+1))++pay::vs))/\MT ⟨l,e⟩ (nth heads2 (min k 1))=(true,⟨r,e⟩))\/(k=W.length/\Tkz l (pay::vs)/\MT ⟨l,e⟩ (nth heads2 (min k 1))=(false,⟨l,e⟩)):=by
 obtain⟨q1,q2⟩:=AeA k;by_cases hlt:k<W.length
 ·rw[Arq hlt,ptc,<-Bb hlt,Ars]at h;have h':Tkz l (nth heads2 (min k 1)::(tb (nth W k)++(ptc (k+1) (W.drop (k+1))++pay::vs))):=h;obtain⟨r,h1,h2⟩:=QM (e:=e) h' q1;exact .inl ⟨hlt,r,h1,h2⟩
 have:k=W.length:=by omega
 subst this;rw[AsO,ptc,Aru]at h;exact .inr ⟨rfl,h,N0 h (.inr q2)⟩
theorem AbK{c:Aqs}(h:OkC c){before:List Aqs}(hb:before.length<1000000)(hn:c.Name ∉ before.map (·.Name)):PX (fun p=>BA p before) (c.Name::(HO c.When c.When.length++([112,97,121]::(pw 900000 c.Pay++[[59]])))) c (fun _=>True):=by
 intro l e vs hT _;rw[ZS]at hT;have hT:Tkz l (c.Name::(ptc 0 (c.When.drop 0)++pay::(pw 900000 c.Pay++[59]::vs))):=by simpa [pay]using hT
 have h8:=h.few;show TP (BA ⟨l,e⟩ before) _;unfold BA;rw[HN];simp only[Ad];rw[RK];obtain⟨r,h1,h2⟩:=Agk (e:=e) hT h.word h.res;rw[h2];simp only[Ad];refine AB (Nf before _ hb) fun y hy=>?_
 obtain⟨y1,y2⟩:=hy
 have hno:¬(y.1=true):=by
  rw[y1];intro ha;obtain⟨b,hbm,hbe⟩:=Atv.1 ha;exact hn (Ar0.2 ⟨b,hbm,eq_of_beq hbe⟩)
 rw[AqI hno,AQ];simp only[Ad];refine AB (Q:=fun z=>∃r,Tkz r (pay::(pw 900000 c.Pay++[59]::vs))/\z=.inl (r,e,c.When)) (AB (Q:=fun z=>∃r,Tkz r (pay::(pw 900000 c.Pay++[59]::vs))/\z=.inl (r,e,c.When)) ?_ fun z hz=>?_) fun z hz=>?_
 ·refine AX (fun v=>∃k:Nat,k<=c.When.length/\v.2.2=(e,c.When.take k)/\((k<c.When.length/\v.1=true/\Tkz v.2.1 (tb (nth c.When k)++(ptc (k+1) (c.When.drop (k+1))++pay::(pw 900000 c.Pay++[59]::vs))))\/(k=c.When.length/\v.1=false/\Tkz v.2.1 (pay::(pw 900000 c.Pay++[59]::vs)))))
   (fun v=>c.When.length-v.2.2.2.length) ?_ ?_ (by simp only;omega)
  ·rintro⟨more,l1,e1,ts⟩ ⟨k,hk,hts,hcase⟩;obtain⟨rfl,rfl⟩:=As1 hts;simp only at hcase ⊢;unfold Cx;rcases hcase with⟨hlt,rfl,hT1⟩|⟨rfl,rfl,hT1⟩
   ·rw[AqJ rfl];have hlen:(c.When.take k).length=k:=by rw[ArH];omega
    refine AB (Ahb (h.tests _ (AF hlt)) (b:=((c.When.take k).length:Int)) (by omega) l1 e1 _ hT1 trivial) fun y hy=>?_
    obtain⟨r2,h3,rfl⟩:=hy;refine CY (LD (by omega) (by decide)) (AR ?_);rw[AQ];simp only[Ad];have ets:c.When.take k++[nth c.When k]=c.When.take (k+1):=by rw[Aq0 hlt,Bb hlt]
    rw[ets];have hand:([97,110,100]:List UInt8)=nth heads2 (min (k+1) 1):=by rw[show min (k+1) 1=1 by omega];rfl
    rw[hand];have hlen2:(c.When.take (k+1)).length=k+1:=by rw[ArH];omega
    rcases TZ (e:=e1) (show k+1<=c.When.length from hlt) h3 with⟨g1,r3,g2,g3⟩|⟨g1,g2,g3⟩
    ·rw[g3];exact Af ⟨⟨k+1,hlt,rfl,.inl ⟨g1,rfl,g2⟩⟩,by simp only;omega⟩
    rw[g3];exact Af ⟨⟨k+1,hlt,rfl,.inr ⟨g1,rfl,g2⟩⟩,by simp only;omega⟩
   rw[AqI (by decide),ArB];exact Af ⟨l1,hT1,rfl⟩
  have hwhen:([119,104,101,110]:List UInt8)=nth heads2 (min 0 1):=rfl;rw[hwhen];rcases TZ (e:=e) (Aq5 _) h1 with⟨g1,r3,g2,g3⟩|⟨g1,g2,g3⟩
  ·rw[g3];exact⟨0,Aq5 _,rfl,.inl ⟨g1,rfl,g2⟩⟩
  rw[g3];exact⟨0,Aq5 _,rfl,.inr ⟨g1,rfl,g2⟩⟩
 ·obtain⟨r2,h3,rfl⟩:=hz;exact Af ⟨r2,h3,rfl⟩
 obtain⟨r2,h3,rfl⟩:=hz;simp only;rw[BO];obtain⟨r3,h4,h5⟩:=Py (e:=e) h3 (by decide +kernel);rw[show([112,97,121]:List UInt8)=pay from rfl,h5];simp only[Ad];rw[HN];simp only[Ad];refine AB (Aez h.pay r3 e _ h4 (Aj1 (by decide))) fun y hy=>?_
 obtain⟨r4,h6,rfl⟩:=hy;obtain⟨k,hk,hk24⟩:=h.flat;simp only;rw[hk];simp only[Ad];rw[AqI (by simp only[Aq1];omega),BO];obtain⟨r5,h7,h8⟩:=Py (e:=e) h6 (by decide +kernel);rw[h8];refine Af ⟨r5,h7,?_⟩;rw[y2]
theorem Aa0(l:List Aqs):∀k,k<=l.length->cws l k=((l.take k).map cw).flatten
 |0,_=>by simp[cws]
 |k+1,h=>by
  have hk:k<l.length:=h;rw[cws,Aa0 l k (by omega),Aq0 hk,Asm,List.flatten_append,<-Bb hk];simp
theorem Zz{t:Aqt}(h:OkT t){l:List Aqn}{e a:Int}(hT:Tkz l (cws t.Clauses t.Clauses.length++[[125]])):TP (Bf (fun(v:Int×List Aqn×Int×List Aqs)=>Dy v.1 v.2.1 v.2.2.1 v.2.2.2) (a,l,e,[])) fun z=>∃r,Tkz r [[125]]/\z=.inl (r,e,t.Clauses):=by
 rw[Aa0 _ _ (AqT _),ArB]at hT;have h64:=h.few;refine AX (fun v=>∃k:Nat,k<=t.Clauses.length/\v.2.2=(e,t.Clauses.take k)/\Tkz v.2.1 (((t.Clauses.drop k).map cw).flatten++[[125]])) (fun v=>t.Clauses.length-v.2.2.2.length) ?_ ⟨0,Aq5 _,rfl,hT⟩ (by simp only;omega);rintro⟨a,l1,e1,cs⟩ ⟨k,hk,hcs,hT1⟩;obtain⟨rfl,rfl⟩:=As1 hcs;simp only at hT1 ⊢;unfold Dy;rw[AQ];simp only[Ad];have hlen:(t.Clauses.take k).length=k:=by rw[ArH];omega
 by_cases hlt:k<t.Clauses.length
 ·rw[Arq hlt,Arc,Asv,<-Bb hlt,Ars]at hT1;have hT2:Tkz l1 ([99,108,97,117,115,101]::(((nth t.Clauses k).Name::(HO (nth t.Clauses k).When (nth t.Clauses k).When.length++([112,97,121]::(pw 900000 (nth t.Clauses k).Pay++[[59]]))))++(((t.Clauses.drop (k+1)).map cw).flatten++[[125]]))):=hT1;obtain⟨r,h1,h2⟩:=QM (e:=e1) hT2 (by decide +kernel);rw[h2];simp only[Aro];rw[AqI (by rw[hlen];simp;omega)];have hmem:=AF hlt;refine AB (AbK (h.all _ hmem) (before:=t.Clauses.take k) (by omega) ?_ r e1 _ h1 trivial) fun y hy=>?_
  ·have hd:=QU h.apart (k:=k) (by simpa using hlt);rw[<-List.map_take]at hd;rwa[Bb (by simpa using hlt),List.getElem_map,<-Bb hlt]at hd
  obtain⟨r2,h3,rfl⟩:=hy;refine CY (LD (by omega) (by decide)) (AR ?_);rw[HN];simp only[Ad];have ets:t.Clauses.take k++[nth t.Clauses k]=t.Clauses.take (k+1):=by rw[Aq0 hlt,Bb hlt]
  rw[ets];have hlen2:(t.Clauses.take (k+1)).length=k+1:=by rw[ArH];omega
  exact Af ⟨⟨k+1,hlt,rfl,h3⟩,by simp only;omega⟩
 have:k=t.Clauses.length:=by omega
 subst this;rw[AsO,ArS,List.flatten_nil,Aru]at hT1;rw[N0 hT1 (.inr (by decide))];simp only[Aq6,Arx];rw[ArB];exact Af ⟨l1,hT1,rfl⟩
theorem Afo{t:Aqt}(h:OkT t)(hs:(pr t).length<=2000):Dg (pr t)=some (t,0,0):=by
 obtain⟨m,hm1,hm2⟩:=AhN ((tw t).map tkw) fun x hx=>by
  obtain⟨w,hw,rfl⟩:=Ar0.1 hx;exact Adn Afi h w hw
 have ht:Aag ((tw t).map tkw)=tw t:=by simp[Aag,tkw,Asi]
 rw[ht]at hm1;have htok:Eu (pr t)=some (m,0,0):=TF hm1 hs
 have hT:Tkz m (tw t):=by
  unfold Tkz;rw[hm2,Atk];rfl
 obtain⟨k1,k2⟩:=h.kind
 have he:Cb (pr t)=none:=by
  unfold Cb;rw[htok];rfl
 have key:TP (DL (pr t)) fun y=>y=(t,0,0):=by
  unfold DL;rw[htok];simp only[Ad];rw[AqI (by decide),BO];generalize((pr t).length:Int)=e;unfold tw at hT;obtain⟨r1,a1,b1⟩:=Py (e:=e) hT (by decide +kernel);rw[b1];simp only[Ad];rw[RK];obtain⟨r2,a2,b2⟩:=Agk (e:=e) a1 h.word h.res;rw[b2];simp only[Ad];rw[BO];obtain⟨r3,a3,b3⟩:=Py (e:=e) a2 (by decide +kernel);rw[b3];simp only[Ad];rw[KG _ Wg (by decide)];have hi:(t.For-1).toNat<w_kinds.length:=by show _<6;omega
  obtain⟨r4,a4,b4⟩:=XQ (e:=e) Apz hi a3;rw[b4];simp only[Ad];rw[BO];obtain⟨r5,a5,b5⟩:=Py (e:=e) a4 (by decide +kernel);rw[b5];simp only[Ad];rw[HN];simp only[Ad];refine AB (Q:=fun z=>∃r,Tkz r [[125]]/\z=.inl (r,e,t.Clauses)) (AB (Zz h a5) fun z hz=>?_) fun z hz=>?_
  ·obtain⟨r,h3,rfl⟩:=hz;exact Af ⟨r,h3,rfl⟩
  obtain⟨r,h3,rfl⟩:=hz;simp only;rw[BO];obtain⟨r6,a6,b6⟩:=Py (e:=e) h3 (by decide +kernel);rw[b6];have hnil:=Ah9 a6;subst hnil;have hw:w64 (1+((t.For-1).toNat:Int))=t.For:=by rw[FB (by omega)];omega
  simp only[Ad,Ara];rw[AqI (show ¬(decide (((0:Nat):Int)>0))=true by decide)];simp only[Ad];rw[hw];exact Af rfl
 obtain⟨y,hy,rfl⟩:=key;unfold Dg;rw[he];exact hy
theorem Aeu{f:Aqr->Aqr->Option Bool}(a b:List Aqr)(ha:a.length<1000000)(hf:∀k,k<a.length->TP (f (nth a k) (nth b k)) fun r=>nth a k=nth b k->r=true):TP (Dt a b f) fun r=>a=b->r=true:=by
 unfold Dt;refine AK (fun h=>Af fun e=>?_) fun h=>?_
 ·subst e;simp at h
 have hl:a.length=b.length:=by
  simp only[AsU,ne_eq,As2]at h;omega
 refine AB (Q:=fun z=>match z with
  |.inl ()=>True
  |.inr r=>a=b->r=true) (AB (Q:=fun z=>match z with
  |.inl ()=>True
  |.inr (.inr r)=>a=b->r=true
  |_=>False) ?_ fun z hz=>?_) fun z hz=>?_
 ·refine AX (fun i=>∃k:Nat,i=(k:Int)/\k<=a.length) (fun i=>((a.length:Int)-i).toNat) ?_ ⟨0,rfl,Aq5 _⟩ (by simp;omega);rintro _ ⟨k,rfl,hk⟩;unfold D1;refine AK (fun h=>?_) fun h=>Af trivial
  have hk':k<a.length:=by simpa using h
  refine CY (As hk') (AR (AR (AR (AR (CY (As (by omega)) (AR (AR (AR (AR ?_)))))))));simp only[AqR,G0];refine AB (hf k hk') fun r hr=>AK (fun hn=>Af fun e=>?_) fun _=>Af ⟨⟨k+1,Bt (by omega),hk'⟩,by rw[Bt (by omega)];omega⟩
  subst e;rw[hr rfl]at hn;cases hn
 ·match z,hz with
  |.inl (),_=>exact Af trivial
  |.inr (.inr r),hz=>exact Af hz
 match z,hz with
 |.inl (),_=>exact Af fun _=>rfl
 |.inr r,hz=>exact Af hz
theorem Rh:∀(d:Nat) (x:Aqr) (n:Nat),Dp d x->d<=n->∀y,TP (DV n x y) fun r=>x=y->r=true
 |0,x,n,h,_=>h.elim
 |d+1,x,0,_,h=>by omega
 |d+1,x,n+1,h,hn=>fun y=>by
  show TP (Ec (DV n) x y) _;unfold Ec;refine AB (Q:=fun r=>x=y->r=true) (AK (fun _=>AK (fun _=>AK (fun _=>?_) fun h=>Af fun e=>?_) fun h=>Af fun e=>?_) fun h=>Af fun e=>?_) fun r hr=>Af hr
  ·refine AB (Aeu x.L y.L (by have:=h.1;omega) fun k hk=>Rh d _ n (h.2 _ (AF hk)) (by omega) _) fun r hr=>Af fun e=>hr (by rw[e])
  ·subst e;simp at h
  ·subst e;simp at h
  subst e;simp at h
theorem AfB(a b:List Aqp)(ha:a.length<1000000):TP (ER a b) fun r=>a=b->r=true:=by
 unfold ER;refine AK (fun h=>Af fun e=>?_) fun h=>?_
 ·subst e;simp at h
 have hl:a.length=b.length:=by
  simp only[AsU,ne_eq,As2]at h;omega
 refine AB (Q:=fun z=>match z with
  |.inl ()=>True
  |.inr r=>a=b->r=true) (AB (Q:=fun z=>match z with
  |.inl ()=>True
  |.inr (.inr r)=>a=b->r=true
  |_=>False) ?_ fun z hz=>?_) fun z hz=>?_
 ·refine AX (fun i=>∃k:Nat,i=(k:Int)/\k<=a.length) (fun i=>((a.length:Int)-i).toNat) ?_ ⟨0,rfl,Aq5 _⟩ (by simp;omega);rintro _ ⟨k,rfl,hk⟩;unfold EH;refine AK (fun h=>?_) fun h=>Af trivial
  have hk':k<a.length:=by simpa using h
  refine CY (As hk') (CY (As (by omega)) (AR (AK (fun hn=>Af fun e=>?_) fun _=>Af ⟨⟨k+1,Bt (by omega),hk'⟩,by rw[Bt (by omega)];omega⟩)));subst e;simp at hn
 ·match z,hz with
  |.inl (),_=>exact Af trivial
  |.inr (.inr r),hz=>exact Af hz
 match z,hz with
 |.inl (),_=>exact Af fun _=>rfl
 |.inr r,hz=>exact Af hz
def Cz(c:Aqs):Prop:=c.When.length<=8/\Ez 900000 c.Pay
theorem YM(c d:Aqs)(h:Cz c):TP (EZ c d) fun r=>c=d->r=true:=by
 unfold EZ;refine AB (Q:=fun r=>c=d->r=true) (AK (fun _=>?_) fun h=>Af fun e=>?_) fun r hr=>Af hr
 ·refine AB (AfB _ _ (by have:=h.1;omega)) fun r hr=>AK (fun _=>AB (Rh 900000 c.Pay _ h.2.1 (by omega) d.Pay) fun r hr=>Af fun e=>hr (by rw[e])) fun hn=>Af fun e=>absurd (hr (by rw[e])) hn
 subst e;simp at h
theorem AeK(a b:List Aqs)(ha:a.length<1000000)(hc:∀c∈a,Cz c):TP (Dv a b EZ) fun r=>a=b->r=true:=by
 unfold Dv;refine AK (fun h=>Af fun e=>?_) fun h=>?_
 ·subst e;simp at h
 have hl:a.length=b.length:=by
  simp only[AsU,ne_eq,As2]at h;omega
 refine AB (Q:=fun z=>match z with
  |.inl ()=>True
  |.inr r=>a=b->r=true) (AB (Q:=fun z=>match z with
  |.inl ()=>True
  |.inr (.inr r)=>a=b->r=true
  |_=>False) ?_ fun z hz=>?_) fun z hz=>?_
 ·refine AX (fun i=>∃k:Nat,i=(k:Int)/\k<=a.length) (fun i=>((a.length:Int)-i).toNat) ?_ ⟨0,rfl,Aq5 _⟩ (by simp;omega);rintro _ ⟨k,rfl,hk⟩;unfold D2;refine AK (fun h=>?_) fun h=>Af trivial
  have hk':k<a.length:=by simpa using h
  refine CY (As hk') (AR (AR (AR (AR (AR (AR (CY (As (by omega)) (AR (AR (AR (AR (AR (AR ?_)))))))))))));simp only[AqR,FY];refine AB (YM _ (nth b k) (hc _ (AF hk'))) fun r hr=>AK (fun hn=>Af fun e=>?_) fun _=>Af ⟨⟨k+1,Bt (by omega),hk'⟩,by rw[Bt (by omega)];omega⟩
  subst e;rw[hr rfl]at hn;cases hn
 ·match z,hz with
  |.inl (),_=>exact Af trivial
  |.inr (.inr r),hz=>exact Af hz
 match z,hz with
 |.inl (),_=>exact Af fun _=>rfl
 |.inr r,hz=>exact Af hz
theorem AaX{t:Aqt}{n:Nat}(h:Tz n t)(hn:n<1000000)(u:Aqt):TP (GI t u) fun r=>t=u->r=true:=by
 unfold GI;refine AB (Q:=fun r=>t=u->r=true) (AK (fun _=>AK (fun _=>?_) fun h=>Af fun e=>?_) fun h=>Af fun e=>?_) fun r hr=>Af hr
 ·refine AB (AeK _ _ (by have:=h.1;omega) h.2) fun r hr=>Af fun e=>hr (by rw[e])
 ·subst e;simp at h
 subst e;simp at h
theorem AcZ{t:Aqt}{n:Nat}(h:Tz n t)(hn:n<1000000):GI t t=some true:=by
 obtain⟨r,e,hr⟩:=AaX h hn t;rw[e,hr rfl]
theorem AhU:top_editionsSane=some true:=by decide +kernel
theorem AfQ(l:List Aqy)(hl:l.length<=9223372036854775807):TP (Fz l) fun b=>b=true->l.length<=8:=by
 unfold Fz;refine AB (Q:=fun _=>True) (AB (Q:=fun _=>True) ?_ fun _ _=>Af trivial) fun n _=>AB (Q:=fun b=>b=true->l.length<=8) (AK (fun h=>Af fun _=>?_) fun _=>Af fun e=>by cases e) fun b hb=>Af hb
 ·refine AX (fun v=>∃k:Nat,v.2=(k:Int)/\k<=l.length) (fun v=>((l.length:Int)-v.2).toNat) ?_ ⟨0,rfl,Aq5 _⟩ (by simp;omega);rintro⟨n,_⟩ ⟨k,rfl,hk⟩;unfold Fk;refine AK (fun h=>?_) fun h=>Af trivial
  have hk':k<l.length:=by simpa using h
  exact CY (As hk') (AR (AR (AR (AR (AR (AR (AR (AR (AR (AR (AR (AR (AR (AR (AR (AR (AR (AR (AR (AR (AR (AR (Af ⟨⟨k+1,Bt (by omega),hk'⟩,by simp only;rw[Bt (by omega)];omega⟩)))))))))))))))))))))))
 simp only[Aq1]at h;omega
def InV(V:Arr Int 16):Prop:=∀a,a<16->0<=V.get a/\V.get a<=9007199254740992
theorem AbY{v:Aqq}(hV:InV v.V){a:Int}(h0:0<=a)(h1:a<16):TP (CW v a) fun r=>∀n,r=.inl n->n=v.V.get a.toNat:=by
 obtain⟨k,rfl⟩:∃k:Nat,a=(k:Int):=⟨a.toNat,by omega⟩;have hk:k<16:=by omega
 obtain⟨q1,q2⟩:=hV k hk;unfold CW;rw[AqI (by simp)];simp only[Ad];rw[AqI (by simp;omega),AqJ (show NP (k:Int)from by unfold NP;omega)];refine AK (fun _=>Af fun n e=>by cases e) fun _=>?_
 rw[AqJ (As hk),B5];simp only[AqR];rw[AqI (by simp;omega)];simp only[Ad];rw[AqI (by simp;omega)];exact Af fun n e=>by cases e;rfl
theorem Aaj{c:Aqs}{v:Aqq}(hV:InV v.V)(hA:Mg c)(hl:c.When.length<1000000):TP (HF c v) fun r=>r.1=true->I1 c v.V:=by
 unfold HF JF;refine AB (Q:=fun r=>(Yg r).1=true->I1 c v.V) ?_ fun r hr=>Af hr
 refine AB (Q:=fun z=>match z with
  |.inl ()=>I1 c v.V
  |.inr r=>(Yg r).1=false) (AB (Q:=fun z=>match z with
  |.inl ()=>I1 c v.V
  |.inr (.inr r)=>(Yg r).1=false
  |_=>False) ?_ fun z hz=>?_) fun z hz=>?_
 ·refine AX (fun s=>∃k:Nat,s=(k:Int)/\k<=c.When.length/\∀t∈c.When.take k,t.Low<=v.V.get t.Attr.toNat/\v.V.get t.Attr.toNat<=t.High) (fun s=>((c.When.length:Int)-s).toNat) ?_ ⟨0,rfl,Aq5 _,by simp⟩ (by simp;omega);rintro _ ⟨k,rfl,hk,hp⟩;unfold GW;refine AK (fun h=>?_) fun h=>Af ?_
  ·have hk':k<c.When.length:=by simpa using h
   refine CY (As hk') (AR (AR (AR ?_)));simp only[AqR];obtain⟨a0,a1⟩:=hA _ (AF hk');refine AB (AbY hV a0 a1) fun y hy=>?_
   cases y with
   |inr e=>exact Af rfl
   | inl n=>
    have hn:=hy n rfl;subst hn;refine AB (Q:=fun b=>b=false->(nth c.When k).Low<=v.V.get (nth c.When k).Attr.toNat/\v.V.get (nth c.When k).Attr.toNat<=(nth c.When k).High) (AK (fun _=>Af fun e=>by cases e) fun h1=>Af fun h2=>?_) fun b hb=>AK (fun _=>Af rfl) fun hn=>Af ⟨⟨k+1,Bt (by omega),hk',fun t ht=>?_⟩,by rw[Bt (by omega)];omega⟩
    ·simp only[Aq1,Arb]at h1 h2;omega
    rcases(KP hk').1 ht with ht|rfl
    ·exact hp t ht
    exact hb (Arh hn)
  have:k=c.When.length:=by simp at h;omega
  subst this;rw[ArB]at hp;exact hp
 ·match z,hz with
  |.inl (),hz=>exact Af hz
  |.inr (.inr r),hz=>exact Af hz
 match z,hz with
 |.inl (),hz=>exact Af fun _=>hz
 |.inr r,hz=>exact Af fun e=>by rw[hz]at e;cases e
theorem ZD(v:Aqq):TP (Bf (fun(s:Int)=>Ed v s) 0) fun z=>match z with
  |.inl ()=>InV v.V
  |.inr (.inr b)=>b=true
  |_=>False:=by
 refine AX (fun s=>∃k:Nat,s=(k:Int)/\k<=16/\∀a,a<k->0<=v.V.get a/\v.V.get a<=9007199254740992) (fun s=>(16-s).toNat) ?_ ⟨0,rfl,Aq5 _,fun a h=>by omega⟩ (by simp);rintro _ ⟨k,rfl,hk,ha⟩;unfold Ed;refine AK (fun h=>?_) fun h=>Af ?_
 ·have hk':k<16:=by simp only[Aq1]at h;omega
  refine AB (Q:=fun b=>b=false->0<=v.V.get k/\v.V.get k<=9007199254740992) (CY (As hk') (AK (fun _=>Af fun e=>by cases e) fun h1=>CY (As hk') (Af fun h2=>?_))) fun b hb=>AK (fun _=>Af rfl) fun hnb=>Af ⟨⟨k+1,Bt (by omega),hk',fun a haa=>?_⟩,by rw[Bt (by omega)];omega⟩
  ·simp only[AqR,Aq1,Arb]at h1 h2;omega
  by_cases e:a<k
  ·exact ha a e
  have:a=k:=by omega
  subst this;exact hb (Arh hnb)
 have:k=16:=by simp only[Aq1]at h;omega
 subst this;exact ha
theorem AbI{y:Aqt×Int}{v:Aqq}(hV:InV v.V)(hs:Zr y.1)(hA:∀c∈y.1.Clauses,Mg c)(hap:∀i j,i<j->j<y.1.Clauses.length->¬(I1 (nth y.1.Clauses i) v.V/\I1 (nth y.1.Clauses j) v.V)) :TP (Bf (fun(s:Int×Int)=>DX v y s.1 s.2) (0,0)) fun n=>n<=1:=by
 have h64:=hs.1;refine AX (fun s=>∃k:Nat,s.2=(k:Int)/\k<=y.1.Clauses.length/\(s.1=0\/(s.1=1/\∃j,j<k/\I1 (nth y.1.Clauses j) v.V))) (fun s=>((y.1.Clauses.length:Int)-s.2).toNat) ?_ ⟨0,rfl,Aq5 _,.inl rfl⟩ (by simp;omega);rintro⟨n,_⟩ ⟨k,rfl,hk,hn⟩;simp only at hn ⊢;unfold DX;refine AK (fun h=>?_) fun h=>Af (by omega)
 have hk':k<y.1.Clauses.length:=by simpa using h
 refine AB (Q:=fun z=>z=0\/(z=1/\∃j,j<k+1/\I1 (nth y.1.Clauses j) v.V)) ?_ fun z hz=>Af ⟨⟨k+1,Bt (by omega),hk',hz⟩,by simp only;rw[Bt (by omega)];omega⟩
 refine CY (As hk') (AR (AR (AR (AR (AR (AR ?_))))));simp only[AqR,FY];refine AB (Aaj hV (hA _ (AF hk')) (hs.2 _ (AF hk'))) fun r hr=>?_
 refine AB (Q:=fun b=>b=true->r.1=true) (AK (fun h=>Af fun _=>h) fun _=>Af fun e=>by cases e) fun b hb=>AK (fun hbt=>Af ?_) fun _=>Af ?_
 ·have hh:=hr (hb hbt);rcases hn with rfl|⟨_,j,hj,hjb⟩
  ·exact .inr ⟨by decide,k,by omega,hh⟩
  exact(hap j k hj hk' ⟨hjb,hh⟩).elim
 rcases hn with rfl|⟨rfl,j,hj,hjb⟩
 ·exact .inl rfl
 exact .inr ⟨rfl,j,by omega,hjb⟩
theorem QR(l:List Aqy)(railway kind at_:Int)(v:Aqq)(hl:l.length<=maxLen):F4 l railway kind at_ v=some true:=by
 have key:TP (F4 l railway kind at_ v) fun b=>b=true:=by
  unfold F4;rw[AhU];simp only[Ad];rw[AqI (by decide)];refine AB (AfQ l (by unfold maxLen at hl;exact hl)) fun fb hfb=>AK (fun _=>Af rfl) fun hf=>?_
  have hl8:=hfb (by simpa using hf);have hin:=Aap l railway kind at_ (by omega);unfold FP;rw[hin];simp only[Ad];have hI:=Yr kind (U4 at_ (ed l railway kind));generalize Y1 kind (U4 at_ (ed l railway kind))=S at hI;by_cases ha:On railway kind at_/\S.1=true
  ·obtain⟨ha,hS⟩:=ha;rw[AqJ ha];have hans:ans S=(S.2,0):=by unfold ans;rw[AqJ hS]
   rw[hans];obtain⟨t1,t2⟩:=hI;obtain⟨hok,hfor⟩:=t2 hS;obtain⟨c,hc⟩:=hok.comp;have hgood:=Ai3 hok (Afo hok.form hok.short);rw[hfor]at hgood;simp only;rw[AqI (by decide),hc];simp only[Ad];rw[AqI (by decide),hok.prt];simp only[Ad];rw[hgood];simp only[Ad];rw[AqI (by decide),AqI (by decide),AqI (by decide),AcZ t1 (by omega)];simp only[Ad];rw[AqI (by decide)];simp only[Ad];rw[AqI (by rw[hfor];simp)];have hsm:Zr S.2:=⟨hok.form.few,fun c hc=>by have:=(hok.form.all c hc).few;omega⟩;obtain⟨e,he,heP⟩:=Ry S.2 hsm;rw[hok.box]at he;obtain⟨hA,hap⟩:=heP (AqF he).symm
   refine AB (Q:=fun z=>match z with
    |.inl ()=>InV v.V
    |.inr b=>b=true) (AB (ZD v) fun z hz=>?_) fun z hz=>?_
   ·match z,hz with
    |.inl (),hz=>exact Af hz
    |.inr (.inr b),hz=>exact Af hz
   match z,hz with
   |.inr b,hz=>exact Af hz
   | .inl (),hV=>
    have hbox:EY boxAll.low boxAll.high v.V:=fun a ha=>by
     rw[(Acs ha).1,(Acs ha).2];exact hV a ha
    refine AB (Q:=fun n=>n<=1) (AB (AbI (y:=(S.2,0)) hV hsm hA fun i j h1 h2=>hap i j h1 h2 v.V hbox) fun n hn=>Af hn) fun n hn=>Af ?_
    simpa using hn
  have hne:∃e:Int,e≠0/\(if On railway kind at_ then ans S else(tz0,1))=(tz0,e):=by
   by_cases c:On railway kind at_
   ·refine⟨220,by decide,?_⟩;rw[AqJ c];unfold ans;rw[AqI fun h=>ha ⟨c,h⟩]
   exact⟨1,by decide,by rw[AqI c]⟩
  obtain⟨e,he,heq⟩:=hne;rw[heq];simp only;rw[AqJ (by simpa using he)];simp only[Ad];rw[AqJ (by simpa using he),AqJ (by simp)];exact Af rfl
 obtain⟨b,e,rfl⟩:=key;exact e
end Go.Proofs.YtldngkmkhfddpaaGreatDoor
