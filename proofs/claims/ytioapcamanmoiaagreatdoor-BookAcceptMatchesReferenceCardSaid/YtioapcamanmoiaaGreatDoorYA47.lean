/-
  Part 47.
-/
import Derived.Test.YtioapcamanmoiaaGreatDoorYA26
import Derived.Test.YtioapcamanmoiaaGreatDoorYA44
import Derived.Test.YtioapcamanmoiaaGreatDoorYA46
import Derived.KernelRfl
set_option linter.unusedVariables false
set_option linter.unusedSimpArgs false
namespace Go.Proofs.YtioapcamanmoiaaGreatDoor
open Go.Rv
set_option maxRecDepth 4000
variable{p:AsH}
theorem W0{x:Asu}(h:GP x=true):x.Za≠0:=by
 intro hk;unfold GP G5 at h;simp only[Ac4,A2,Ib,Eb,hk]at h;simp at h
theorem Afl(h:p.Zg1.Ze.all GP=true)(i:Int):((FV p i).Za != 0)=(decide (0≤i)&&decide (i≤(p.Zg1.Ze.length:Int)-1)):=by
 unfold FV;by_cases hr:0≤i∧i<(p.Zg1.Ze.length:Int)
 ·rw[AsU hr];have hlt:i.toNat<p.Zg1.Ze.length:=by omega
  have hm:nth p.Zg1.Ze i.toNat∈p.Zg1.Ze:=by
   have:nth p.Zg1.Ze i.toNat=p.Zg1.Ze[i.toNat]:=by simp[nth,hlt]
   rw[this];exact AtL hlt
  have hk:=W0 (Atc.1 h _ hm);rw[show(decide (0≤i)&&decide (i≤(p.Zg1.Ze.length:Int)-1))=true by simp;omega];simpa using hk
 ·rw[AsX hr,show(decide (0≤i)&&decide (i≤(p.Zg1.Ze.length:Int)-1))=false by rw[Avo];simp;omega];rfl
theorem AaZ(h:Few p)(it:AsK)(hk:it.Za<1∨15<it.Za):EK p it=some false:=by
 unfold EK;rcases hk with hk|hk
 ·rw[AsU (by simp;omega)];unfold CI;rw[AsU (by simp;omega)];simp only[A2,Eb,Ave,AtQ,AuH]
 ·rw[AsX (by simp;omega)];unfold D7;have e:∀n:Int,n≤15→(it.Za==n)=false:=fun n hn=>by simp;omega
  simp only[e 8 (by omega),e 9 (by omega),e 10 (by omega),e 11 (by omega),e 12 (by omega),e 13 (by omega),e 14 (by omega),e 15 (by omega),AtQ,AuH,A2,Eb,Ave]
theorem ZK(k:Int)(hk:k<1∨15<k):F3 k=some []:=by
 unfold F3;have e:∀n:Int,1≤n→n≤15→(k==n)=false:=fun n h1 h2=>by simp;omega
 simp only[e 1 (by omega) (by omega),e 2 (by omega) (by omega),e 3 (by omega) (by omega),e 4 (by omega) (by omega),e 5 (by omega) (by omega),e 6 (by omega) (by omega),e 7 (by omega) (by omega),e 8 (by omega) (by omega),e 9 (by omega) (by omega),e 10 (by omega) (by omega),e 11 (by omega) (by omega),e 12 (by omega) (by omega),e 13 (by omega) (by omega),e 15 (by omega) (by omega),AtQ,AuH,A2]
theorem AiX(K:Int)(hk:¬(K<1∨15<K)):∃u,F3 K=some u∧u.length≤100:=by
 have hK:K=1∨K=2∨K=3∨K=4∨K=5∨K=6∨K=7∨K=8∨K=9∨K=10∨K=11∨K=12∨K=13∨K=14∨K=15:=by omega
 rcases hK with rfl|rfl|rfl|rfl|rfl|rfl|rfl|rfl|rfl|rfl|rfl|rfl|rfl|rfl|rfl<;>exact⟨_,rfl,by decide⟩
theorem AaW(h:Few p)(hv:∀i:Int,((FV p i).Za != 0)=(decide (0≤i)&&decide (i≤(p.Zg1.Ze.length:Int)-1)))(it:AsK)(hps:it.Zu1.length≤1000000) :∃u,F3 it.Za=some u∧u.length≤100∧(it.Za=3∨it.Za=4→u.any (fun c=>c==112)=true)∧EK p it=some ((decide (1≤it.Za)&&decide (it.Za≤15))&&UO p it u):=by
 by_cases hk:it.Za<1∨15<it.Za
 ·refine⟨[],ZK _ hk,by decide,fun e=>by omega,?_⟩;rw[AaZ h it hk,show(decide (1≤it.Za)&&decide (it.Za≤15))=false by rw[Avo];simp;omega,Ave]
 ·obtain⟨K,R,w,pl,o,n,f,t,c,d,cl,g,a,tx,ps⟩:=it;simp only at hk hps ⊢;obtain⟨u,a1,a2,a3,a4⟩:=AbG h hv R w pl o n f t c d cl g a tx ps hps K hk;exact⟨u,a1,a2,a3,by rw[a4,show(decide (1≤K)&&decide (K≤15))=true by simp;omega,AuU]⟩
def okB(p:AsH)(it:AsK)(u:List UInt8):Bool:=((decide (1≤it.Za)&&decide (it.Za≤15))&&Ahe it)&&UO p it u
def AcS(p:AsH)(it:AsK)(f:Int)(u:List UInt8):Int:=if(f != 0)then f else if okB p it u=true then 0 else 110
theorem Uq(h:Few p):∃f,BI p=some f∧EG p=some f∧∀it:AsK,it.Zu1.length≤1000000→∃u,F3 it.Za=some u∧u.length≤100∧Hr p it=some (AcS p it f u)∧(f=0→Hz p it=some (okB p it u)):=by
 obtain⟨f,h1,h2,h3⟩:=Akt h;refine⟨f,h1,h2,fun it hps=>?_⟩;unfold Hr AcS;rw[h1];simp only[A2];by_cases hf:(f != 0)=true
 ·obtain⟨u,hu⟩:∃u,F3 it.Za=some u∧u.length≤100:=by
   by_cases hk:it.Za<1∨15<it.Za
   ·exact⟨[],ZK _ hk,by decide⟩
   ·exact AiX it.Za hk
  refine⟨u,hu.1,hu.2,?_,fun h0=>?_⟩
  ·rw[AsU hf,AsU hf]
  ·subst h0;exact absurd hf (by decide)
 ·have hf0:f=0:=by simpa using hf
  obtain⟨u,u1,u2,u3,u4⟩:=AaW h (Afl (h3 hf0)) it hps;refine⟨u,u1,u2,?_,fun _=>?_⟩
  ·rw[AsX hf,AsX hf,AeF,Am5,show EK _ it=_ from u4];simp only[A2,Ib];unfold okB;cases Ahe it<;>cases(decide (1≤it.Za)&&decide (it.Za≤15))<;>cases UO p it u<;>rfl
  ·rw[show Hz _ it=_ from AdV h it u u1 u2 u3 hps];unfold okB;cases Ahe it<;>cases(decide (1≤it.Za)&&decide (it.Za≤15))<;>cases UO p it u<;>rfl
variable{α β:Type}
def ror(x:UInt32)(k:Nat):UInt32:=NN x k ||| ND x (32-k)
theorem Rx(x:UInt32)(k:Nat)(hk:0<k∧k<32):A0 x (-(k:Int))=some (ror x k):=by
 have key:∀j:Fin 32,0<j.val→((UInt64.ofInt (-(j.val:Int))) &&& 31).toNat=32-j.val∧((32:UInt64)-((UInt64.ofInt (-(j.val:Int))) &&& 31)).toNat=j.val:=by decide
 obtain⟨h1,h2⟩:=key ⟨k,hk.2⟩ hk.1;unfold A0 ror;simp only[lt1];rw[h1,h2,UInt32.or_comm]
theorem QZ(x:UInt32)(k:Nat)(hk:0<k∧k<32):BS x (k:Int)=some (ror x k):=by
 unfold BS ror;have e:w64 (32-(k:Int))=((32-k:Nat):Int):=by rw[AE (by omega)];omega
 rw[e,AsU (by unfold Cb;omega),AsU (by unfold Cb;omega)];rfl
theorem l2(x:UInt32):A0 x (-2)=some (ror x 2):=Rx x 2 (by decide)
theorem l6(x:UInt32):A0 x (-6)=some (ror x 6):=Rx x 6 (by decide)
theorem l7(x:UInt32):A0 x (-7)=some (ror x 7):=Rx x 7 (by decide)
theorem l11(x:UInt32):A0 x (-11)=some (ror x 11):=Rx x 11 (by decide)
theorem l13(x:UInt32):A0 x (-13)=some (ror x 13):=Rx x 13 (by decide)
theorem l17(x:UInt32):A0 x (-17)=some (ror x 17):=Rx x 17 (by decide)
theorem l18(x:UInt32):A0 x (-18)=some (ror x 18):=Rx x 18 (by decide)
theorem l19(x:UInt32):A0 x (-19)=some (ror x 19):=Rx x 19 (by decide)
theorem l22(x:UInt32):A0 x (-22)=some (ror x 22):=Rx x 22 (by decide)
theorem l25(x:UInt32):A0 x (-25)=some (ror x 25):=Rx x 25 (by decide)
theorem rq2(x:UInt32):BS x 2=some (ror x 2):=QZ x 2 (by decide)
theorem rq6(x:UInt32):BS x 6=some (ror x 6):=QZ x 6 (by decide)
theorem rq7(x:UInt32):BS x 7=some (ror x 7):=QZ x 7 (by decide)
theorem rq11(x:UInt32):BS x 11=some (ror x 11):=QZ x 11 (by decide)
theorem rq13(x:UInt32):BS x 13=some (ror x 13):=QZ x 13 (by decide)
theorem rq17(x:UInt32):BS x 17=some (ror x 17):=QZ x 17 (by decide)
theorem rq18(x:UInt32):BS x 18=some (ror x 18):=QZ x 18 (by decide)
theorem rq19(x:UInt32):BS x 19=some (ror x 19):=QZ x 19 (by decide)
theorem rq22(x:UInt32):BS x 22=some (ror x 22):=QZ x 22 (by decide)
theorem rq25(x:UInt32):BS x 25=some (ror x 25):=QZ x 25 (by decide)
theorem consts:r02_constants=some glob3:=by unfold r02_constants glob3;rfl
theorem Ak8(i:Int)(f:Arr UInt32 64):AX i f=Dz i f:=by
 unfold AX Dz;simp only[l7,l18,l17,l19,rq7,rq18,rq17,rq19,AsY,lt1];by_cases h1:InR (w64 (i-15)) 64<;>by_cases h2:InR (w64 (i-2)) 64<;>simp only[h1,h2,AuA,AuH]
theorem Anp(w:Arr UInt32 64)(i:Int)(f:Arr UInt32 8):Bi w i f=Ft w glob3 i f:=by
 unfold Bi Ft;simp only[l6,l11,l25,l2,l13,l22,rq6,rq11,rq25,rq2,rq13,rq22,AsY,lt1]
theorem KS(x y:α)(f:α→Option β)(h:x=y):lt1 x f=f y:=by rw[h];rfl
theorem Af1(b:List UInt8):G3 b=(Ax (fun(v:Int×Arr UInt32 64)=>Bh b v.1 v.2) (0,Arr.rep 64 (0:UInt32))).bind fun f=>Ax (fun(v:Int×Arr UInt32 64)=>AX v.1 v.2) (16,f):=by
 have e1:(fun v:Int×Arr UInt32 64=>Er b v.1 v.2)=fun v=>Bh b v.1 v.2:=by funext v;unfold Bh Er;rfl
 have e2:(fun v:Int×Arr UInt32 64=>Dz v.1 v.2)=fun v=>AX v.1 v.2:=funext fun v=>(Ak8 _ _).symm
 unfold G3;refine(KS _ (Arr.rep 64 0) _ (Arr.ext' rfl)).trans ?_;simp only[Bw];rw[e1,e2]
theorem AgF(h:Arr UInt32 8)(b:List UInt8):Dh h b=Kp h b:=by
 have e3:∀w:Arr UInt32 64,(fun v:Int×Arr UInt32 8=>Bi w v.1 v.2)=fun v=>Ft w glob3 v.1 v.2:=fun w=>funext fun v=>Anp _ _ _
 have e4:∀w:Arr UInt32 8,(fun v:Int×Arr UInt32 8=>Bs w v.1 v.2)=fun v=>GE w v.1 v.2:=fun w=>by funext v;unfold Bs GE;rfl
 unfold Kp;rw[consts,Af1];unfold Dh;simp only[Bw,AsY,Option.bind_assoc,e3,e4]
theorem Asm(b:List UInt8)(hb:64≤b.length)(f0:Arr UInt32 64):∃x,Ax (fun(v:Int×Arr UInt32 64)=>Bh b v.1 v.2) (0,f0)=some x:=by
 obtain⟨x,hx,_⟩:=Bm (f:=fun(v:Int×Arr UInt32 64)=>Bh b v.1 v.2) 16 (fun k v=>v.1=((k:Nat):Int)) (fun _=>True) (by omega)
  (fun k v hk hi=>by
   obtain⟨i,f⟩:=v;have hi':i=((k:Nat):Int):=hi;subst hi';have e0:w64 ((4:Int)*((k:Nat):Int))=((4*k:Nat):Int):=by rw[AE (by omega)];omega
   have e1:w64 (((4*k:Nat):Int)+1)=((4*k+1:Nat):Int):=by rw[AE (by omega)];omega
   have e2:w64 (((4*k:Nat):Int)+2)=((4*k+2:Nat):Int):=by rw[AE (by omega)];omega
   have e3:w64 (((4*k:Nat):Int)+3)=((4*k+3:Nat):Int):=by rw[AE (by omega)];omega
   exact⟨_,by
    show Bh b ((k:Nat):Int) f=_;unfold Bh;simp only[e0,e1,e2,e3,lt1];rw[AsU (by simp;omega),AsU (A9 (by omega)),AsU (A9 (by omega)),AsU (A9 (by omega)),AsU (A9 (by omega)),AsU (A9 (by omega))],by
    show w64 (((k:Nat):Int)+1)=(((k+1):Nat):Int);rw[AE (by omega)];omega⟩)
  (fun v hi=>by
   obtain⟨i,f⟩:=v;have hi':i=((16:Nat):Int):=hi;subst hi';exact⟨f,by show Bh b ((16:Nat):Int) f=_;unfold Bh;rw[AsX (by simp)],trivial⟩) (v0:=(0,f0)) rfl
 exact⟨x,hx⟩
theorem AoV (f0:Arr UInt32 64):∃x,Ax (fun(v:Int×Arr UInt32 64)=>AX v.1 v.2) (16,f0)=some x:=by
 obtain⟨x,hx,_⟩:=Bm (f:=fun(v:Int×Arr UInt32 64)=>AX v.1 v.2) 48 (fun k v=>v.1=((16+k:Nat):Int)) (fun _=>True) (by omega)
  (fun k v hk hi=>by
   obtain⟨i,f⟩:=v;have hi':i=((16+k:Nat):Int):=hi;subst hi';have e15:w64 (((16+k:Nat):Int)-15)=((1+k:Nat):Int):=by rw[AE (by omega)];omega
   have e2:w64 (((16+k:Nat):Int)-2)=((14+k:Nat):Int):=by rw[AE (by omega)];omega
   have e16:w64 (((16+k:Nat):Int)-16)=((k:Nat):Int):=by rw[AE (by omega)];omega
   have e7:w64 (((16+k:Nat):Int)-7)=((9+k:Nat):Int):=by rw[AE (by omega)];omega
   exact⟨_,by
    show AX ((16+k:Nat):Int) f=_;unfold AX;simp only[e15,e2,e16,e7,lt1,l7,l18,l17,l19,AsY];rw[AsU (by simp;omega),AsU (A9 (by omega)),AsU (A9 (by omega)),AsU (A9 (by omega)),AsU (A9 (by omega)),AsU (A9 (by omega))],by
    show w64 (((16+k:Nat):Int)+1)=((16+(k+1):Nat):Int);rw[AE (by omega)];omega⟩)
  (fun v hi=>by
   obtain⟨i,f⟩:=v;have hi':i=((16+48:Nat):Int):=hi;subst hi';exact⟨f,by show AX ((16+48:Nat):Int) f=_;unfold AX;rw[AsX (by simp)],trivial⟩) (v0:=(16,f0)) rfl
 exact⟨x,hx⟩
theorem ArG(w:Arr UInt32 64)(f0:Arr UInt32 8):∃x,Ax (fun(v:Int×Arr UInt32 8)=>Bi w v.1 v.2) (0,f0)=some x:=by
 obtain⟨x,hx,_⟩:=Bm (f:=fun(v:Int×Arr UInt32 8)=>Bi w v.1 v.2) 64 (fun k v=>v.1=((k:Nat):Int)) (fun _=>True) (by omega)
  (fun k v hk hi=>by
   obtain⟨i,f⟩:=v;have hi':i=((k:Nat):Int):=hi;subst hi'
   exact⟨_,by
    show Bi w ((k:Nat):Int) f=_;unfold Bi;simp only[lt1,l6,l11,l25,l2,l13,l22,AsY];rw[AsU (by simp;omega),AsU (A9 hk),AsU (A9 hk)],by
    show w64 (((k:Nat):Int)+1)=(((k+1):Nat):Int);rw[AE (by omega)];omega⟩)
  (fun v hi=>by
   obtain⟨i,f⟩:=v;have hi':i=((64:Nat):Int):=hi;subst hi';exact⟨f,by show Bi w ((64:Nat):Int) f=_;unfold Bi;rw[AsX (by simp)],trivial⟩) (v0:=(0,f0)) rfl
 exact⟨x,hx⟩
theorem Asa(w:Arr UInt32 8)(f0:Arr UInt32 8):∃x,Ax (fun(v:Int×Arr UInt32 8)=>Bs w v.1 v.2) (0,f0)=some x:=by
 obtain⟨x,hx,_⟩:=Bm (f:=fun(v:Int×Arr UInt32 8)=>Bs w v.1 v.2) 8 (fun k v=>v.1=((k:Nat):Int)) (fun _=>True) (by omega)
  (fun k v hk hi=>by
   obtain⟨i,f⟩:=v;have hi':i=((k:Nat):Int):=hi;subst hi'
   exact⟨_,by
    show Bs w ((k:Nat):Int) f=_;unfold Bs;simp only[lt1];rw[AsU (by simp;omega),AsU (A9 hk),AsU (A9 hk),AsU (A9 hk)],by
    show w64 (((k:Nat):Int)+1)=(((k+1):Nat):Int);rw[AE (by omega)];omega⟩)
  (fun v hi=>by
   obtain⟨i,f⟩:=v;have hi':i=((8:Nat):Int):=hi;subst hi';exact⟨f,by show Bs w ((8:Nat):Int) f=_;unfold Bs;rw[AsX (by simp)],trivial⟩) (v0:=(0,f0)) rfl
 exact⟨x,hx⟩
theorem Asf{A C:Type}(o1:Option A)(g2:A→Option A)(g3:A→Option C)(g4:C→Option C)(h1:∃a,o1=some a)(h2:∀a,∃x,g2 a=some x)(h3:∀a,∃x,g3 a=some x)(h4:∀a,∃x,g4 a=some x) :∃r,((o1.bind fun f=>some f).bind fun f=>((g2 f).bind fun f=>some f).bind fun f=>((g3 f).bind fun f=>some f).bind fun f=>((g4 f).bind fun f=>some f).bind fun f=>some f)=some r:=by
 obtain⟨a,rfl⟩:=h1;obtain⟨b,hb⟩:=h2 a;obtain⟨c,hc⟩:=h3 b;obtain⟨d,hd⟩:=h4 c;exact⟨d,by simp[hb,hc,hd]⟩
theorem Aar(h:Arr UInt32 8)(b:List UInt8)(hb:64≤b.length):∃r,Dh h b=some r:=by
 unfold Dh
 exact Asf (Ax (fun(v:Int×Arr UInt32 64)=>Bh b v.1 v.2) (0,Arr.rep 64 (0:UInt32))) (fun w=>Ax (fun(v:Int×Arr UInt32 64)=>AX v.1 v.2) (16,w)) (fun w=>Ax (fun(v:Int×Arr UInt32 8)=>Bi w v.1 v.2) (0,h)) (fun w=>Ax (fun(v:Int×Arr UInt32 8)=>Bs w v.1 v.2) (0,h))
  (Asm b hb _) (fun w=>AoV w) (fun w=>ArG w h) (fun w=>Asa w h)
noncomputable def blk(h:Arr UInt32 8)(b:List UInt8):Arr UInt32 8:=(Dh h b).getD h
theorem Ahn(h:Arr UInt32 8)(b:List UInt8)(hb:64≤b.length):Dh h b=some (blk h b):=by
 obtain⟨r,hr⟩:=Aar h b hb;have e:blk h b=r:=by unfold blk;rw[hr];exact At0
 rw[e];exact hr
theorem Vq{o:Option α}{a:α}{f:α→Option β}(h:o=some a):(o.bind fun x=>some x).bind f=f a:=by rw[h];rfl
theorem Agl{o:Option α}{a:α}{f:α→Option β}(h:o=some a):o.bind f=f a:=by rw[h];rfl
theorem Wr{c:Prop}[Decidable c]{x y:α}(h:c):(if c then x else y)=x:=AsU h
theorem X5{n:Nat}(h:n≤1000000):Cj n 1:=GK (by omega)
theorem Aet:(fun v:List UInt8=>F7 v)=fun v=>BJ v:=by funext v;unfold F7 BJ;rfl
theorem Ahb(n:Nat):((n:Int):Int).tmod 64=((n%64:Nat):Int):=rfl
theorem Agp(l:List UInt8)(hl:l.length≤200000):∃p,Ax (fun v:List UInt8=>BJ v) l=some p∧(p.length%64=56∧p.length≤l.length+64):=by
 refine BF (f:=fun v:List UInt8=>BJ v) (fun v=>v.length+(120-v.length%64)%64≤l.length+63) (fun v=>(120-v.length%64)%64) (fun p=>p.length%64=56∧p.length≤l.length+64) ?_ (v0:=l) (by show l.length+(120-l.length%64)%64≤l.length+63;omega) (by show(120-l.length%64)%64<_;omega);intro v hv;have hv':v.length+(120-v.length%64)%64≤l.length+63:=hv;by_cases h:v.length%64=56
 ·right;refine⟨v,?_,h,by omega⟩;show BJ v=_;unfold BJ;rw[Ahb,h];rfl
 ·left;refine⟨v++[0],?_,?_,?_⟩
  ·show BJ v=_;unfold BJ;rw[Ahb,AsU (by simp;omega),AsU (X5 (by omega))];rfl
  ·show(v++[0]).length+(120-(v++[0]).length%64)%64≤l.length+63;simp only[Ate,Ati,Atr];omega
  ·show(120-(v++[0]).length%64)%64<(120-v.length%64)%64;simp only[Ate,Ati,Atr];omega
def Acx(n:UInt64)(k:Nat):UInt8:=(CY n (56-8*k)).toUInt8
theorem Agq(n:UInt64)(p:List UInt8)(hp:p.length≤200100):Ax (fun v:Int×List UInt8=>CL n v.1 v.2) (56,p)=some (p++(List.range 8).map (Acx n)):=by
 obtain⟨x,hx,rfl⟩:=Bm (f:=fun v:Int×List UInt8=>CL n v.1 v.2) 8 (fun k v=>v=(56-8*(k:Int),p++(List.range k).map (Acx n))) (fun x=>x=p++(List.range 8).map (Acx n)) (by omega)
  (fun k v hk hv=>by
   subst hv;refine⟨_,?_,rfl⟩;show CL n (56-8*(k:Int)) (p++(List.range k).map (Acx n))=_;unfold CL;have e1:w64 (56-8*(k:Int)-8)=56-8*((k+1:Nat):Int):=by rw[AE (by omega)];omega
   have e2:(56-8*(k:Int)).toNat=56-8*k:=by omega
   rw[AsU (by simp;omega),AsU (by unfold Cb;omega),AsU (X5 (by simp;omega)),e1,e2,Aup,Auf,←AtU];rfl)
  (fun v hv=>by
   subst hv;refine⟨_,?_,rfl⟩;show CL n (56-8*((8:Nat):Int)) _=_;unfold CL;rw[AsX (by decide)]) (v0:=(56,p)) (by simp)
 exact hx
theorem Aa3(n:UInt64)(p:List UInt8)(hp:p.length≤200100):Ax (fun v:Int×List UInt8=>CN n v.1 v.2) (0,p)=some (p++(List.range 8).map (Acx n)):=by
 obtain⟨x,hx,rfl⟩:=Bm (f:=fun v:Int×List UInt8=>CN n v.1 v.2) 8 (fun k v=>v=((k:Int),p++(List.range k).map (Acx n))) (fun x=>x=p++(List.range 8).map (Acx n)) (by omega)
  (fun k v hk hv=>by
   subst hv;refine⟨_,?_,rfl⟩;show CN n (k:Int) (p++(List.range k).map (Acx n))=_;unfold CN;have e0:w64 (8*(k:Int))=((8*k:Nat):Int):=by rw[AE (by omega)];omega
   have e3:w64 (56-((8*k:Nat):Int))=((56-8*k:Nat):Int):=by rw[AE (by omega)];omega
   have e1:w64 ((k:Int)+1)=((k+1:Nat):Int):=by rw[AE (by omega)];omega
   have e2:(((56-8*k:Nat):Int)).toNat=56-8*k:=by omega
   rw[e0,e3,AsU (by simp;omega),AsU (by unfold Cb;omega),AsU (X5 (by simp;omega)),e1,e2,Aup,Auf,←AtU];rfl)
  (fun v hv=>by
   subst hv;refine⟨_,?_,rfl⟩;show CN n ((8:Nat):Int) _=_;unfold CN;rw[AsX (by decide)]) (v0:=(0,p)) (by simp)
 exact hx
noncomputable def Hs(h0:Arr UInt32 8)(q:List UInt8):Nat→Arr UInt32 8
 |0=>h0
 |k+1=>blk (Hs h0 q k) ((q.drop (64*k)).take 64)
theorem Ae1(h0:Arr UInt32 8)(q:List UInt8)(n:Nat)(hq:q.length=64*n)(hn:n≤10000) :Ax (fun v:Nat×Nat×Arr UInt32 8=>CJ q v.1 v.2.1 v.2.2) (0,q.length,h0)=some (Hs h0 q n):=by
 obtain⟨x,hx,rfl⟩:=Bm (f:=fun v:Nat×Nat×Arr UInt32 8=>CJ q v.1 v.2.1 v.2.2) n (fun k v=>v=(64*k,q.length-64*k,Hs h0 q k)) (fun x=>x=Hs h0 q n) (by omega)
  (fun k v hk hv=>by
   subst hv;refine⟨_,?_,rfl⟩;show CJ q (64*k) (q.length-64*k) (Hs h0 q k)=_;unfold CJ;rw[AsU (by simp;omega),AsU (by unfold InB;omega),Agl (Ahn _ _ (by simp;omega)),AsU (by unfold InB;omega)];have e1:64*k+64=64*(k+1):=by omega
   have e2:q.length-64*k-64=q.length-64*(k+1):=by omega
   rw[e1,e2];rfl)
  (fun v hv=>by
   subst hv;refine⟨_,?_,rfl⟩;show CJ q (64*n) (q.length-64*n) (Hs h0 q n)=_;unfold CJ;rw[AsX (by simp;omega)]) (v0:=(0,q.length,h0)) (by simp[Hs])
 exact hx
theorem Af5(h0:Arr UInt32 8)(q:List UInt8)(n:Nat)(hq:q.length=64*n)(hn:n≤10000) :Ax (fun v:Int×Arr UInt32 8=>EI q v.1 v.2) (0,h0)=some (Hs h0 q n):=by
 obtain⟨x,hx,rfl⟩:=Bm (f:=fun v:Int×Arr UInt32 8=>EI q v.1 v.2) n (fun k v=>v=(((64*k:Nat):Int),Hs h0 q k)) (fun x=>x=Hs h0 q n) (by omega)
  (fun k v hk hv=>by
   subst hv;refine⟨_,?_,rfl⟩;show EI q ((64*k:Nat):Int) (Hs h0 q k)=_;unfold EI;have e1:w64 (((64*k:Nat):Int)+64)=((64*(k+1):Nat):Int):=by rw[AE (by omega)];omega
   have e2:(((64*(k+1):Nat):Int)).toNat-(((64*k:Nat):Int)).toNat=64:=by omega
   have e3:(((64*k:Nat):Int)).toNat=64*k:=by omega
   rw[e1,AsU (by simp;omega),AsU (by unfold InB;omega),AsU (by unfold InB;omega),e2,e3,←AgF,Agl (Ahn _ _ (by simp;omega))];rfl)
  (fun v hv=>by
   subst hv;refine⟨_,?_,rfl⟩;show EI q ((64*n:Nat):Int) (Hs h0 q n)=_;unfold EI;rw[AsX (by simp;omega)]) (v0:=(0,h0)) (by simp[Hs])
 exact hx
theorem AeK(f:Arr UInt32 8):(fun v:Int×Arr UInt8 32=>I5 f v.1 v.2)=fun v=>Ce f v.1 v.2:=by funext v;unfold I5 Ce;rfl
theorem Aeg(f:Arr UInt32 8):∃d,Ax (fun v:Int×Arr UInt8 32=>Ce f v.1 v.2) (0,Arr.rep 32 (0:UInt8))=some d:=by
 obtain⟨x,hx,_⟩:=Bm (f:=fun v:Int×Arr UInt8 32=>Ce f v.1 v.2) 32 (fun k v=>v.1=(k:Int)) (fun _=>True) (by omega)
  (fun k v hk hi=>by
   obtain⟨i,d⟩:=v;have hi':i=(k:Int):=hi;subst hi';have e4:((k:Int):Int).tdiv 4=((k/4:Nat):Int):=rfl;have e5:((k:Int):Int).tmod 4=((k%4:Nat):Int):=rfl;have e6:w64 ((k/4:Nat):Int)=((k/4:Nat):Int):=AE (by omega);have e7:w64 (8*((k%4:Nat):Int))=((8*(k%4):Nat):Int):=by rw[AE (by omega)];omega
   have e8:w64 (24-((8*(k%4):Nat):Int))=((24-8*(k%4):Nat):Int):=by rw[AE (by omega)];omega
   exact⟨_,by
    show Ce f (k:Int) d=_;unfold Ce;rw[e4,e5,e6,e7,e8,AsU (by simp;omega),AsU (A9 (by omega)),AsU (by unfold Cb;omega),AsU (A9 hk)];rfl,by
    show w64 ((k:Int)+1)=((k+1:Nat):Int);rw[AE (by omega)];omega⟩)
  (fun v hi=>by
   obtain⟨i,d⟩:=v;have hi':i=((32:Nat):Int):=hi;subst hi';exact⟨d,by show Ce f ((32:Nat):Int) d=_;unfold Ce;rw[AsX (by simp)],trivial⟩) (v0:=(0,Arr.rep 32 (0:UInt8))) rfl
 exact⟨x,hx⟩
theorem Abb(ps:List (List UInt8))(hl:ps.length≤100)(h:ps.flatten.length≤200000):Ax (fun v:Int×List UInt8=>Cy ps v.1 v.2) (0,[])=some ps.flatten:=by
 obtain⟨x,hx,rfl⟩:=Bm (f:=fun v:Int×List UInt8=>Cy ps v.1 v.2) ps.length (fun k v=>v=((k:Int),(ps.take k).flatten)) (fun x=>x=ps.flatten) (by omega)
  (fun k v hk hv=>by
   subst hv;refine⟨_,?_,rfl⟩;show Cy ps (k:Int) (ps.take k).flatten=_;unfold Cy;have e1:w64 ((k:Int)+1)=((k+1:Nat):Int):=by rw[AE (by omega)];omega
   have e2:nth ps ((k:Int)).toNat=ps[k]:=by simp[nth,hk]
   have e3:(ps.take (k+1)).flatten=(ps.take k).flatten++ps[k]:=by rw[Aty hk,List.flatten_append,List.flatten_cons,List.flatten_nil,At1]
   have e4:(ps.take (k+1)).flatten.length≤200000:=by
    have:ps.flatten=(ps.take (k+1)).flatten++(ps.drop (k+1)).flatten:=by rw[←List.flatten_append,At8]
    rw[this,Ate]at h;omega
   rw[e3,Ate]at e4;rw[AsU (by simp;omega),AsU (A9 hk),e2];show(if Cj ((ps.take k).flatten.length+ps[k].length) 1 then _ else none)=_;rw[AsU (X5 (by omega)),e1,e3];rfl)
  (fun v hv=>by
   subst hv;refine⟨ps.flatten,?_,rfl⟩;show Cy ps (ps.length:Int) (ps.take ps.length).flatten=_;unfold Cy;rw[AsX (by simp),AtP]) (v0:=(0,[])) (by simp)
 exact hx
theorem Y3:∃R:List UInt8→Option (Arr UInt8 32),(∀ps,Gf ps=(Ax (fun v:Int×List UInt8=>Cy ps v.1 v.2) (0,[])).bind R)∧∀m:List UInt8,m.length≤150000→∃d,R m=some d∧Ld m=some d:=by
 refine⟨_,fun ps=>by unfold Gf;rw[Bw],fun m hm=>?_⟩;obtain⟨p,hp,hp1,hp2⟩:=Agp (m++[128]) (by simp;omega);simp only[Ate,Ati,Atr]at hp2;have hq:(p++(List.range 8).map (Acx (UInt64.ofInt (m.length:Int)*8))).length=64*((p.length+8)/64):=by simp;omega
 obtain⟨d,hd⟩:=Aeg (Hs ⟨[(1779033703:UInt32),3144134277,1013904242,2773480762,1359893119,2600822924,528734635,1541459225],rfl⟩ (p++(List.range 8).map (Acx (UInt64.ofInt (m.length:Int)*8))) ((p.length+8)/64));have hlb:=Agq (UInt64.ofInt (m.length:Int)*8) p (by omega);have hlr:=Aa3 (UInt64.ofInt (m.length:Int)*8) p (by omega);refine⟨d,?_,?_⟩
 ·refine(KS _ _ _ rfl).trans ?_;refine(Wr (X5 (by omega))).trans ?_;refine(KS _ _ _ rfl).trans ?_;refine(Vq hp).trans ?_;refine(Vq hlb).trans ?_;refine(KS _ _ _ rfl).trans ?_;refine(Vq (Ae1 _ _ _ hq (by omega))).trans ?_;exact Vq hd
 ·unfold Ld;refine(KS _ _ _ rfl).trans ?_
  have hpad:I7 m=some (p++(List.range 8).map (Acx (UInt64.ofInt (m.length:Int)*8))):=by
   unfold I7;refine(KS _ _ _ rfl).trans ?_;refine(Wr (X5 (by simp;omega))).trans ?_;refine(KS _ _ _ rfl).trans ?_;refine(Wr (X5 (by simp;omega))).trans ?_;refine(KS _ _ _ rfl).trans ?_;rw[Aet];refine(Vq (o:=Ax (fun v:List UInt8=>BJ v) (([]++m)++[128])) hp).trans ?_;refine(KS _ _ _ rfl).trans ?_;exact Vq hlr
  refine(Agl hpad).trans ?_;refine(Vq (Af5 _ _ _ hq (by omega))).trans ?_;refine(KS _ (Arr.rep 32 0) _ (Arr.ext' rfl)).trans ?_;have hd':=hd;rw[←AeK]at hd';exact Vq hd'
noncomputable def DS(m:List UInt8):Arr UInt8 32:=(Ld m).getD default
theorem Aj2(m:List UInt8)(h:m.length≤150000):Ld m=some (DS m):=by
 obtain⟨R,_,hR⟩:=Y3;obtain⟨d,_,hd⟩:=hR m h;have:DS m=d:=by unfold DS;rw[hd];exact At0
 rw[this];exact hd
theorem Np(ps:List (List UInt8))(hl:ps.length≤100)(h:ps.flatten.length≤150000):Gf ps=some (DS ps.flatten):=by
 obtain⟨R,h1,hR⟩:=Y3;obtain⟨d,hd,hd2⟩:=hR ps.flatten h;rw[h1 ps,Agl (Abb ps hl (by omega)),hd];have:DS ps.flatten=d:=by unfold DS;rw[hd2];exact At0
 rw[this]
theorem R0(ps:List (List UInt8))(hl:ps.length≤100)(h:ps.flatten.length≤150000):∃d,Gf ps=some d:=⟨_,Np ps hl h⟩
theorem S4(tag b:List UInt8)(h1:tag.length≤200)(h2:b.length≤100000):∃d,C0 tag b=some d:=by
 have e1:Mo (tag.length:Int) 255=(tag.length:Int):=by unfold Mo;omega
 have e2:tag.take (Mo (tag.length:Int) 255).toNat=tag:=by rw[e1,As1,AtP]
 unfold C0;rw[AsU (show InB (Mo (tag.length:Int) 255) tag.length by rw[e1];unfold InB;omega),e2];simp only[AD];obtain⟨d,hd⟩:=R0 [[UInt8.ofInt (tag.length:Int)],tag,b] (by simp) (by simp;omega);exact⟨d,by rw[hd];rfl⟩
theorem AaY(d:Arr UInt8 32):∃n,Dk d=some n:=by
 have hl:(d.l.take 8).length=8:=by rw[AuW,d.h];rfl
 obtain⟨x,hx,_⟩:∃x,Ax (fun(v:UInt64×Int)=>B6 d v.1 v.2) ((0:UInt64),0)=some x∧True:=by
  refine BF (fun v=>∃k:Nat,v.2=(k:Int)∧k≤8) (fun v=>(8-v.2).toNat) _ ?_ ⟨0,rfl,by omega⟩ (by simp);rintro⟨n,_⟩ ⟨k,rfl,hk⟩;by_cases h:k<8
  ·left;refine⟨(Jp n ((8:UInt64)).toNat ||| (nth (d.l.take 8) k).toUInt64,((k+1:Nat):Int)),?_,⟨k+1,rfl,by omega⟩,?_⟩
   ·show B6 d n (k:Int)=_;unfold B6;rw[AsU (As9 (by rw[hl];omega)),AsU (show InR (k:Int) (d.l.take 8).length from A9 (by omega))];simp only[AD,As1];rw[CG (by omega)]
   ·simp only;omega
  ·right;refine⟨n,?_,trivial⟩;show B6 d n (k:Int)=_;unfold B6;rw[AsX (by rw[hl];simp;omega)]
 unfold Dk;rw[hx];exact⟨_,rfl⟩
set_option maxRecDepth 8000
def lenTab:List UInt8:=([0,1,2,2,3,3,3,3,4,4,4,4,4,4,4,4,5,5,5,5,5,5,5,5,5,5,5,5,5,5,5,5,6,6,6,6,6,6,6,6,6,6,6,6,6,6,6,6,6,6,6,6,6,6,6,6,6,6,6,6,6,6,6,6,7,7,7,7,7,7,7,7,7,7,7,7,7,7,7,7,7,7,7,7,7,7,7,7,7,7,7,7,7,7,7,7,7,7,7,7,7,7,7,7,7,7,7,7,7,7,7,7,7,7,7,7,7,7,7,7,7,7,7,7,7,7,7,7,8,8,8,8,8,8,8,8,8,8,8,8,8,8,8,8,8,8,8,8,8,8,8,8,8,8,8,8,8,8,8,8,8,8,8,8,8,8,8,8,8,8,8,8,8,8,8,8,8,8,8,8,8,8,8,8,8,8,8,8,8,8,8,8,8,8,8,8,8,8,8,8,8,8,8,8,8,8,8,8,8,8,8,8,8,8,8,8,8,8,8,8,8,8,8,8,8,8,8,8,8,8,8,8,8,8,8,8,8,8,8,8,8,8,8,8,8,8,8,8,8,8,8,8,8,8,8,8]:List UInt8)
theorem Akg:((List.range 256).all fun i=>decide (i<2^(nth lenTab i).toNat)&&decide ((nth lenTab i).toNat≤8))=true:=by decide +kernel
theorem Ajw:lenTab.length=256:=by decide +kernel
theorem Alb{i:Nat}(h:i<256):i<2^(nth lenTab i).toNat∧(nth lenTab i).toNat≤8:=by
 have:=Atc.1 Akg i (AtR.2 h);simpa using this
theorem ApT{x:UInt64}(h:x.toNat<256):x.toUInt8.toNat=x.toNat:=by
 rw[Avv];omega
theorem AgJ(x0 x:UInt64)(n:Nat)(hx:x.toNat<256)(hn:n≤56)(h:x0.toNat/2^n=x.toNat) :∃len:Nat,(if InR ((x.toUInt8.toNat:Int)) (lenTab.length)then some (w64 ((n:Int)+(((nth lenTab x.toUInt8.toNat)).toNat:Int)))else none)=some (len:Int)∧x0.toNat<2^len∧len≤64:=by
 have e:=ApT hx;obtain⟨h1,h2⟩:=Alb hx;refine⟨n+(nth lenTab x.toNat).toNat,?_,?_,by omega⟩
 ·rw[e,AsU (by rw[Ajw];exact A9 hx),AE (by omega)];congr 1
 ·have h3:x0.toNat<(x.toNat+1)*2^n:=by
   have h4:x0.toNat/2^n<x.toNat+1:=by omega
   exact(Auk (Nat.two_pow_pos n)).1 h4
  refine Auc h3 ?_;rw[AvU,Auq];exact Nat.mul_le_mul_left _ h1
theorem dd(a n k:Nat):a/2^(n+k)=a/2^n/2^k:=by rw[AvU,Au0]
theorem Aie(x0 x:UInt64)(n k:Nat)(c s:UInt64)(hc:c.toNat=2^k)(hs:s.toNat=k)(hn:n+k≤100)(hx:x.toNat<2^(k+k))(h:x0.toNat/2^n=x.toNat){β:Type}(g:UInt64→Int→Option β)(Q:β→Prop) (hg:∀(x':UInt64) (n':Nat),n'≤n+k→x'.toNat<2^k→x0.toNat/2^n'=x'.toNat→∃b,g x' (n':Int)=some b∧Q b) :∃b,((if(decide (x≥c))then lt1 (CY x s.toNat) fun(y:UInt64)=>some (y,w64 ((n:Int)+(k:Int)))else some (x,(n:Int)):Option (UInt64×Int)).bind fun(x',n')=>g x' n')=some b∧Q b:=by
 by_cases hd:x≥c
 ·rw[AsU (As9 hd),AD,AsY,AE (by omega)];have:x0.toNat/2^(n+k)=(CY x s.toNat).toNat:=by rw[Lv,dd,h,hs]
  refine hg _ (n+k) (Atb _) ?_ this;rw[Lv,hs];rw[AvU]at hx;exact Nat.div_lt_of_lt_mul hx
 ·rw[AsX (by simpa using hd),AsY];refine hg x n (by omega) ?_ h
  have:x.toNat<c.toNat:=by
   have:=UInt64.not_le.1 hd;exact AtJ.1 this
  omega
theorem Aek(x:UInt64):∃len:Nat,EA x=some (len:Int)∧x.toNat<2^len∧len≤64:=by
 have key:=Aie x x 0 32 4294967296 32 (by decide) (by decide) (by omega) (Auc (Ahi x) (by decide)) (by rw[Awb,Nat.div_one])
  (fun x n=>((if(decide (x≥65536))then lt1 (CY x (16:UInt64).toNat) fun(y:UInt64)=>some (y,w64 (n+16))else some (x,n):Option (UInt64×Int)).bind fun(x,n)=>
   ((if(decide (x≥256))then lt1 (CY x (8:UInt64).toNat) fun(y:UInt64)=>some (y,w64 (n+8))else some (x,n):Option (UInt64×Int)).bind fun(x,n)=>
    if InR ((x.toUInt8.toNat:Int)) (lenTab.length)then some (w64 (n+(((nth lenTab x.toUInt8.toNat)).toNat:Int)))else none)))
  (fun b=>∃len:Nat,b=(len:Int)∧x.toNat<2^len∧len≤64) (fun x1 n1 hn1 hx1 h1=>?_)
 ·obtain⟨b,hb,len,rfl,h1,h2⟩:=key;exact⟨len,hb,h1,h2⟩
 ·refine Aie x x1 n1 16 65536 16 (by decide) (by decide) (by omega) (by simpa using hx1) h1
   (fun x n=>((if(decide (x≥256))then lt1 (CY x (8:UInt64).toNat) fun(y:UInt64)=>some (y,w64 (n+8))else some (x,n):Option (UInt64×Int)).bind fun(x,n)=>
    if InR ((x.toUInt8.toNat:Int)) (lenTab.length)then some (w64 (n+(((nth lenTab x.toUInt8.toNat)).toNat:Int)))else none)) _ (fun x2 n2 hn2 hx2 h2=>?_)
  refine Aie x x2 n2 8 256 8 (by decide) (by decide) (by omega) (by simpa using hx2) h2
   (fun x n=>if InR ((x.toUInt8.toNat:Int)) (lenTab.length)then some (w64 (n+(((nth lenTab x.toUInt8.toNat)).toNat:Int)))else none) _ (fun x3 n3 hn3 hx3 h3=>?_)
  obtain⟨len,e1,e2,e3⟩:=AgJ x x3 n3 (by simpa using hx3) (by omega) h3;exact⟨_,e1,len,rfl,e2,e3⟩
theorem TC(b n:UInt64):∃r,FQ b n=some r∧r.toNat=b.toNat^n.toNat%PN:=by
 obtain⟨len,h1,h2,h3⟩:=Aek n;exact Ahc b n len h1 h2 h3
theorem AcE(n:UInt64)(l:List UInt8)(h:l.length≤200000):∃m,Ax (fun(v:Int×List UInt8)=>BT n v.1 v.2) (0,l)=some m∧m.length=l.length+8:=by
 refine Bm 8 (fun k v=>v.1=(k:Int)∧v.2.length=l.length+k) _ (by omega) ?_ ?_ ⟨rfl,rfl⟩
 ·rintro k ⟨_,m⟩ hk ⟨rfl,hm⟩;simp only at hm ⊢;have e1:w64 (56-w64 (8*(k:Int)))=((56-8*k:Nat):Int):=by rw[AE (x:=8*(k:Int)) (by omega),AE (by omega)];omega
  unfold BT;rw[AsU (As9 (by omega)),e1,AsU (by unfold Cb;omega),AsU (GK (by omega))];simp only[AD];rw[CG (by omega)];exact⟨_,rfl,rfl,by simp;omega⟩
 ·rintro⟨_,m⟩ ⟨rfl,hm⟩;simp only at hm ⊢;unfold BT;rw[AsX (by decide)];exact⟨_,rfl,hm⟩
theorem XN(msg:List UInt8)(ns:List UInt64)(h1:msg.length≤70000)(h2:ns.length≤100):∃m,Ef msg ns=some m∧m.length=8*ns.length+msg.length:=by
 obtain⟨x,hx,hq⟩:∃x,Ax (fun(v:Int×List UInt8)=>BH ns v.1 v.2) (0,[])=some x∧x.length=8*ns.length:=by
  refine Bm ns.length (fun k v=>v.1=(k:Int)∧v.2.length=8*k) _ (by omega) ?_ ?_ ⟨rfl,rfl⟩
  ·rintro k ⟨_,m⟩ hk ⟨rfl,hm⟩;simp only at hm ⊢;obtain⟨m',e1,e2⟩:=AcE (nth ns k) m (by omega);unfold BH;rw[AsU (As9 (by omega)),AsU (A9 hk)];simp only[AD,As1];rw[e1];simp only[AsY];rw[CG (by omega)];exact⟨_,rfl,rfl,by simp only;omega⟩
  ·rintro⟨_,m⟩ ⟨rfl,hm⟩;simp only at hm ⊢;unfold BH;rw[AsX (by simp)];exact⟨_,rfl,hm⟩
 unfold Ef;have e1:w64 (w64 (8*(ns.length:Int))+(msg.length:Int))=((8*ns.length+msg.length:Nat):Int):=by rw[AE (x:=8*(ns.length:Int)) (by omega),AE (by omega)];omega
 rw[e1,AsU (by unfold Mk maxLen Fi;omega)];simp only[AD,List.replicate_zero];rw[hx];simp only[AsY];rw[AsU (GK (by omega))];exact⟨_,rfl,by simp;omega⟩
theorem Rp(r p:UInt64)(msg:List UInt8)(h:msg.length≤70000):∃c,CQ r p msg=some c:=by
 obtain⟨m,h1,h2⟩:=XN msg [r,p] h (by simp);simp only[Ati,Atr]at h2;obtain⟨d,hd⟩:=S4 [99,104,97,108,108,101,110,103,101] m (by simp) (by omega);obtain⟨n,hn⟩:=AaY d;unfold CQ;rw[h1,AsY,hd,AsY,hn];exact⟨_,rfl⟩
theorem Xn(p:UInt64)(msg:List UInt8)(s:AsL):∃r,E2 p msg s=some r:=by
 unfold E2;rw[AlO];simp only[A2,Ib];split
 ·exact⟨_,rfl⟩
 ·rename_i hl
  have hl':msg.length≤70000:=by
   simp only[Atv,not_or,Atg]at hl;omega
  unfold Ew;obtain⟨a,ha,_⟩:=TC 4 s.S;obtain⟨b,hb,_⟩:=TC p (1152921504606845399-s.C);obtain⟨c,hc,_⟩:=L8 a b;rw[AsY,ha,AsY,hb,AsY,hc,AsY];obtain⟨d,hd⟩:=Rp c p msg hl';simp only;rw[hd];exact⟨_,rfl⟩
theorem ZV{p:AsH}(h:Few p):∃f,BI p=some f∧∀it:AsK,it.Zu1.length≤1000000→∃e,Hr p it=some e:=by
 obtain⟨f,hf,_,hc⟩:=Uq h;refine⟨f,hf,fun it hp=>?_⟩;obtain⟨u,_,_,hi,_⟩:=hc it hp;exact⟨_,hi⟩
end Go.Proofs.YtioapcamanmoiaaGreatDoor
namespace Go.Proofs.YtioapcamanmoiaaGreatDoor.Kc
open Go.Rv
theorem A4{α β:Type}{o:Option α}{a:α}{f:α→Option β}(h:o=some a):o.bind f=f a:=by rw[h];rfl
theorem RV{α β:Type}(x y:α)(f:α→Option β)(h:x=y):lt1 x f=f y:=by rw[h];rfl
theorem Ac6(x:UInt64)(n:Nat):(CY x n).toNat=x.toNat/2^n:=by
 show(x.toBitVec >>> n).toNat=_;rw[AvT,Avd];rfl
theorem JK{k:Nat}(h:k<9223372036854775807):w64 ((k:Int)+1)=((k+1:Nat):Int):=by
 rw[AE (by omega)];rfl
theorem LO(x:AsP):AsP.mk x.Za x.N x.B x.L=x:=by cases x;rfl
mutual
def szV:AsP→Nat
 |.mk _ _ b l=>b.length+1+szVs l
def szVs:List AsP→Nat
 |[]=>0
 |x::l=>szV x+szVs l
end
theorem AiD(x:AsP):0<szV x:=by
 cases x with
 |mk k n b l=>simp only[szV];omega
theorem EC{l:List AsP}{x:AsP}(h:x∈l):szV x≤szVs l:=by
  induction l with
  |nil=>cases h
  | cons y l ih=>
    simp only[szVs];rcases Atu.1 h with rfl|h
    · omega
    · have:=ih h;omega
theorem Jt(l:List AsP):l.length≤szVs l:=by
  induction l with
  |nil=>simp[szVs]
  | cons y l ih=>
    have:=AiD y;simp only[szVs,Ati];omega
theorem szV_eq(x:AsP):szV x=x.B.length+1+szVs x.L:=by
 cases x with
 |mk k n b l=>rfl
def nbF:Nat→Nat→Nat
 |0,_=>0
 |f+1,u=>if u=0 then 0 else nbF f (u/256)+1
def nb(u:Nat):Nat:=nbF 8 u
theorem AnV(f u:Nat):nbF f u≤f:=by
  induction f generalizing u with
  |zero=>exact Atb _
  | succ f ih=>
    unfold nbF;split
    · omega
    · have:=ih (u/256);omega
theorem Alt(f u:Nat)(h:u<256^f)(m:Nat):nbF (f+m) u=nbF f u:=by
  induction f generalizing u with
  | zero=>
    have:u=0:=by simpa using h
    subst this;cases m with
    |zero=>rfl
    |succ m=>rw[AtN];unfold nbF;simp
  | succ f ih=>
    rw[show f+1+m=(f+m)+1 by omega];unfold nbF;split
    · rfl
    · rw[ih (u/256) (by rw[Au8]at h;omega)]
theorem Ad2(u:Nat):nb u≤8:=AnV 8 u
theorem AhR:nb 0=0:=rfl
theorem Ac1(u:Nat)(h:u≠0)(hu:u<256^8):nb u=nb (u/256)+1:=by
 unfold nb;rw[show(8:Nat)=7+1 from rfl];rw[Alt 7 (u/256) (by have:(256:Nat)^8=256^7*256:=rfl;omega) 1]
 conv=>lhs;unfold nbF
 rw[AsX h]
theorem Adw(u:UInt64):Cp u=some ((nb u.toNat:Nat):Int):=by
 obtain⟨x,hx,hq⟩:=BF (f:=fun(v:UInt64×Int)=>B0 v.1 v.2)
  (fun v=>∃k:Nat,v.2=(k:Int)∧k+nb v.1.toNat=nb u.toNat) (fun v=>v.1.toNat) (fun x=>x=((nb u.toNat:Nat):Int))
  (by
   rintro⟨u',k'⟩ ⟨k,hk,hkn⟩;simp only at hk hkn;subst hk;have hlt:u'.toNat<256^8:=by have:=u'.toNat_lt;exact this
   by_cases h0:u'.toNat=0
   ·right;refine⟨(k:Int),?_,?_⟩
    ·show B0 u' (k:Int)=_;unfold B0;rw[AsX];simp only[Atg,Avp,AtJ];show ¬0<u'.toNat;omega
    ·rw[h0,AhR]at hkn;rw[←hkn];rfl
   ·left;have hs:(CY u' ((8:UInt64)).toNat).toNat=u'.toNat/256:=by rw[Ac6];rfl
    refine⟨(CY u' ((8:UInt64)).toNat,((k+1:Nat):Int)),?_,⟨k+1,rfl,?_⟩,?_⟩
    ·show B0 u' (k:Int)=_;unfold B0;have:=Ad2 u.toNat;rw[AsU,JK (by omega)]
     ·rfl
     ·simp only[Atg,Avp,AtJ];show 0<u'.toNat;omega
    ·simp only[hs];have:=Ac1 _ h0 hlt;omega
    ·simp only[hs];omega) (v0:=(u,0)) ⟨0,rfl,by simp⟩ (by have:=u.toNat_lt;omega)
 subst hq;unfold Cp;exact(A4 (A4 hx)).trans rfl
def nbI(n:Int):Nat:=if n<0 then nb (~~~(UInt64.ofInt n)).toNat else nb (UInt64.ofInt n).toNat
def Aef(n:Int):UInt8:=if n<0 then UInt8.ofInt (31-(nbI n:Int))else UInt8.ofInt (32+(nbI n:Int))
def AgI(n:Int)(k i:Nat):UInt8:=(CY (UInt64.ofInt n) (8*(k-1-i))).toUInt8
def Aed(n:Int):List UInt8:=Aef n::(List.range (nbI n)).map (AgI n (nbI n))
theorem AgT(n:Int):nbI n≤8:=by unfold nbI;split<;>exact Ad2 _
theorem Aer(n:Int):(Aed n).length=nbI n+1:=by simp[Aed]
theorem UE(b:List UInt8)(n:Int)(hb:b.length≤1099511627776):E5 b n=some (b++Aed n):=by
 have h8:=AgT n
 have key:∃x,Ax (fun(v:Int×List UInt8)=>B1 n ((nbI n:Nat):Int) v.1 v.2) (0,b++[Aef n])=some x∧x=b++Aed n :=
  Bm (f:=fun(v:Int×List UInt8)=>B1 n ((nbI n:Nat):Int) v.1 v.2) (nbI n)
   (fun k v=>v=((k:Int),b++Aef n::(List.range k).map (AgI n (nbI n)))) (fun x=>x=b++Aed n) (by omega)
   (fun k v hk hv=>by
    subst hv;refine⟨_,?_,rfl⟩;show B1 n ((nbI n:Nat):Int) (k:Int) _=_;unfold B1;have e1:w64 (((nbI n:Nat):Int)-1)=((nbI n-1:Nat):Int):=by rw[AE (by omega)];omega
    have e2:w64 (((nbI n-1:Nat):Int)-(k:Int))=((nbI n-1-k:Nat):Int):=by rw[AE (by omega)];omega
    have e3:w64 (8*((nbI n-1-k:Nat):Int))=((8*(nbI n-1-k):Nat):Int):=by rw[AE (by omega)];omega
    rw[AsU (by simp;omega),e1,e2,e3,AsU (by unfold Cb;omega),AsU (GK (by simp;omega)),JK (by omega)];simp only[lt1,Aup,Auf,AuC,Av9,AtU,Atj];rfl)
   (fun v hv=>by
    subst hv;refine⟨_,?_,rfl⟩;show B1 n ((nbI n:Nat):Int) ((nbI n:Nat):Int) _=_;unfold B1;rw[AsX (by simp)];rfl) (v0:=(0,b++[Aef n])) rfl
 obtain⟨x,hx,rfl⟩:=key
 have hp:(if decide (n<0)=true then
   (Cp (~~~UInt64.ofInt n)).bind fun y=>lt1 (UInt8.ofInt (w64 (31-y))) fun(tag:UInt8)=>some (y,tag)
  else some (((nb (UInt64.ofInt n).toNat:Nat):Int),UInt8.ofInt (w64 (32+((nb (UInt64.ofInt n).toNat:Nat):Int)))):Option (Int×UInt8))=some (((nbI n:Nat):Int),Aef n):=by
  by_cases h:n<0
  ·rw[AsU (by simpa using h),Adw];have e:nbI n=nb (~~~(UInt64.ofInt n)).toNat:=AsU h;rw[←e];show some (((nbI n:Nat):Int),UInt8.ofInt (w64 (31-((nbI n:Nat):Int))))=_;rw[AE (by omega)];unfold Aef;rw[AsU h]
  ·rw[AsX (by simpa using h)];have e:nbI n=nb (UInt64.ofInt n).toNat:=AsX h;rw[←e,AE (by omega)];unfold Aef;rw[AsX h]
 unfold E5;refine(A4 (Adw _)).trans ?_;refine(RV _ _ _ rfl).trans ?_;refine(A4 hp).trans ?_;refine(AsU (GK (by omega))).trans ?_;refine(RV _ _ _ rfl).trans ?_;exact(A4 (A4 hx)).trans rfl
mutual
def IE:AsP→Int×Bool
 |.mk k n b l=>
  if k=1 then(0,b.length==0&&l.length==0)
  else if k=2 then(0,n==0&&l.length==0)
  else if k=3 then(if n=0∧b.length=0 then RL 0 l else(0,false))
  else(0,false)
def RL(d:Int):List AsP→Int×Bool
 |[]=>(d+1,true)
 |x::l=>if(IE x).2=true then RL (J6 d (IE x).1) l else(0,false)
end
mutual
theorem Ady:∀v:AsP,0≤(IE v).1∧(IE v).1≤szV v
  | .mk k n b l=>by
    have h:=AbY 0 l;unfold IE szV;split
    · simp;omega
    · split
      · simp;omega
      · split
        · split
          · omega
          · simp;omega
        · simp;omega
theorem AbY:∀(d:Int) (l:List AsP),0≤d→0≤(RL d l).1∧(RL d l).1≤max d (szVs l)+1
  |d,[]=>by intro h;simp[RL,szVs];omega
  | d,x::l=>by
    intro h;have h1:=Ady x;have hm:0≤J6 d (IE x).1∧J6 d (IE x).1≤max d (szV x):=by unfold J6;split<;>omega
    have h2:=AbY (J6 d (IE x).1) l hm.1;unfold RL szVs;split
    · omega
    · simp;omega
end
theorem Ey{l:List AsP}{k:Nat}(h:k<l.length):nth l k=l[k]:=by simp[nth,As8,h]
theorem Ap7{α:Type}(l:List α):((l.length:Int)==0)=(l.length==0):=by
 cases l with
 |nil=>rfl
 |cons a l=>simp;omega
theorem SE(d:Int):RL d []=(d+1,true):=by unfold RL;rfl
theorem PU(d:Int)(x:AsP)(l:List AsP):RL d (x::l)=if(IE x).2=true then RL (J6 d (IE x).1) l else(0,false):=by
 conv=>lhs;unfold RL
theorem AaG(v:AsP)(rec_:AsP→Option (Int×Bool))(hr:∀x∈v.L,rec_ x=some (IE x))(hs:szV v≤1099511627776) :∃x,Ax (fun(s:Int×Int)=>Cz v rec_ s.1 s.2) (0,0)=some x ∧((∃d:Int,RL 0 v.L=(d+1,true)∧0≤d∧d≤1099511627776∧x=.inl d)∨(RL 0 v.L=(0,false)∧x=.inr (.inr (.inr (0,false))))):=by
 have hsz:=szV_eq v;have hlen:=Jt v.L
 refine BF (f:=fun(s:Int×Int)=>Cz v rec_ s.1 s.2)
  (fun s=>∃k:Nat,s.2=(k:Int)∧k≤v.L.length∧0≤s.1∧s.1≤1099511627776∧RL 0 v.L=RL s.1 (v.L.drop k)) (fun s=>v.L.length-s.2.toNat) _ ?_ ⟨0,rfl,Atp _,by simp,by simp,rfl⟩ (by omega)
 rintro⟨d,t⟩ ⟨k,ht,hk,hd0,hd1,hsp⟩;simp only at ht hd0 hd1 hsp;subst ht;by_cases hkl:k<v.L.length
 ·have hx:v.L.drop k=v.L[k]::v.L.drop (k+1):=AtB hkl;have hm:v.L[k]∈v.L:=AtL hkl;have hsx:=EC hm;have hle:=Ady v.L[k];rw[hx,PU]at hsp
  have hb:Cz v rec_ d (k:Int)=if(!(IE v.L[k]).2)then some (.inr (.inr (.inr (.inr (0,false)))))else some (.inl (J6 d (IE v.L[k]).1,((k+1:Nat):Int))):=by
   unfold Cz;rw[AsU (by simp;omega),AsU (A9 hkl)];simp only[As1,Ey hkl,lt1,LO];refine(A4 (hr _ hm)).trans ?_;rw[JK (by omega)];rfl
  by_cases hg:(IE v.L[k]).2=true
  ·left;rw[AsU hg]at hsp;rw[AsX (by simp[hg])]at hb;refine⟨_,hb,⟨k+1,rfl,hkl,?_,?_,hsp⟩,?_⟩
   ·simp only[J6];split<;>omega
   ·simp only[J6];split<;>omega
   ·simp only[As1];omega
  ·right;rw[AsX hg]at hsp;rw[AsU (by simp[hg])]at hb;exact⟨_,hb,.inr ⟨hsp,rfl⟩⟩
 ·right;have hkk:k=v.L.length:=by omega
  subst hkk;rw[Aub,SE]at hsp;refine⟨.inl d,?_,.inl ⟨d,hsp,hd0,hd1,rfl⟩⟩;show Cz v rec_ d ((v.L.length:Nat):Int)=_;unfold Cz;rw[AsX (by simp)]
theorem AdE : ∀ (n:Nat) (v:AsP),szV v<n→szV v≤1099511627776→EH n v=some (IE v)
  |0,v,h,_=>absurd h (Atw _)
  | n + 1,v,h,hs=>by
    show FK (EH n) v=_;have hsz:=szV_eq v;obtain⟨x,hx,hq⟩:=AaG v (EH n) (fun y hy=>AdE n y (by have:=EC hy;omega) (by have:=EC hy;omega)) hs
    have hv:IE v=if v.Za=1 then(0,v.B.length==0&&v.L.length==0)else if v.Za=2 then(0,v.N==0&&v.L.length==0)else if v.Za=3 then(if v.N=0∧v.B.length=0 then RL 0 v.L else(0,false))else(0,false):=by
      cases v with
      |mk k n b l=>unfold IE;rfl
    rw[hv];unfold FK;by_cases h1:v.Za=1
    · rw[AsU (by simp[h1]),AsU h1]
      rw[Ap7,Ap7];by_cases hb:v.B.length=0
      · simp[hb]
      · have:(v.B.length==0)=false:=by simpa using hb
        simp[this]
    · rw[AsX (by simp[h1]),AsX h1]
      by_cases h2:v.Za=2
      · rw[AsU (by simp[h2]),AsU h2,Ap7]
        by_cases hn:v.N=0
        · simp[hn]
        · simp[hn]
      · rw[AsX (by simp[h2]),AsX h2]
        by_cases h3:v.Za=3
        · rw[AsU (by simp[h3]),AsU h3]
          by_cases hn:v.N=0
          · by_cases hb:v.B.length=0
            · rw[AsU (show v.N=0∧v.B.length=0 from⟨hn,hb⟩)]
              have e1:(if(v.N != 0)then some true else some ((v.B.length:Int) != 0):Option Bool)=some false:=by simp[hn,hb]
              refine(A4 (a:=(.inr (RL 0 v.L):Unit⊕(Int×Bool))) ?_).trans rfl;refine(A4 e1).trans ?_;rw[AsX (by simp)];rcases hq with⟨d,e,h0,hd,rfl⟩|⟨e,rfl⟩
              · rw[hx,e]
                show some (Sum.inr (w64 (d+1),true))=_;rw[AE (by omega)]
              · rw[hx,e]
                rfl
            · rw[AsX (show ¬(v.N=0∧v.B.length=0)from fun h=>hb h.2)]
              have e1:(if(v.N != 0)then some true else some ((v.B.length:Int) != 0):Option Bool)=some true:=by
                rw[AsX (by simp[hn])];simp;intro e;apply hb;simp[e]
              refine(A4 (a:=(.inr (0,false):Unit⊕(Int×Bool))) ?_).trans rfl;exact(A4 e1).trans rfl
          · rw[AsX (show ¬(v.N=0∧v.B.length=0)from fun h=>hn h.1)]
            have e1:(if(v.N != 0)then some true else some ((v.B.length:Int) != 0):Option Bool)=some true:=by simp[hn]
            refine(A4 (a:=(.inr (0,false):Unit⊕(Int×Bool))) ?_).trans rfl;exact(A4 e1).trans rfl
        · rw[AsX (by simp[h3]),AsX h3]
          rfl
def Mp:List UInt8→List UInt8
 |[]=>[]
 |c::l=>if c=0 then 0::255::Mp l else c::Mp l
theorem YE(a b:List UInt8):Mp (a++b)=Mp a++Mp b:=by
 induction a with
 |nil=>rfl
 |cons c a ih=>simp only[Atj,Mp];split<;>simp[ih]
theorem LZ(a:List UInt8):(Mp a).length≤2*a.length:=by
 induction a with
 |nil=>simp[Mp]
 |cons c a ih=>simp only[Mp];split<;>simp only[Ati]<;>omega
mutual
def VP:AsP→List UInt8
 |.mk k n b l=>if k=1 then Aed n else if k=2 then 48::(Mp b++[0,0])else 64::(NE l++[0])
def NE:List AsP→List UInt8
 |[]=>[]
 |x::l=>VP x++NE l
end
theorem Ab0(v:AsP):VP v=if v.Za=1 then Aed v.N else if v.Za=2 then 48::(Mp v.B++[0,0])else 64::(NE v.L++[0]):=by
 cases v with
 |mk k n b l=>unfold VP;rfl
theorem Tu(a b:List AsP):NE (a++b)=NE a++NE b:=by
 induction a with
 |nil=>rfl
 |cons c a ih=>simp only[Atj,NE,ih,AtU]
mutual
theorem encV_len:∀v:AsP,(VP v).length≤9*szV v
  | .mk k n b l=>by
    have h:=KC l;have h1:=Aer n;have h2:=AgT n;have h3:=LZ b;unfold VP szV;split
    · omega
    · split
      · simp only[Ati,Ate,Atr];omega
      · simp only[Ati,Ate,Atr];omega
theorem KC:∀l:List AsP,(NE l).length≤9*szVs l
  |[]=>by simp[NE]
  | x::l=>by
    have h1:=encV_len x;have h2:=KC l;unfold NE szVs;simp only[Ate];omega
end
theorem AdQ(l:List AsP)(k:Nat):(NE (l.take k)).length≤9*szVs l:=by
 have h:=KC l;have:NE l=NE (l.take k)++NE (l.drop k):=by rw[←Tu,At8]
 rw[this,Ate]at h;omega
theorem Aap(v:AsP)(a:List UInt8)(ha:a.length+2*v.B.length≤100000000000000) :∃x,Ax (fun(s:Int×List UInt8)=>Bf v s.1 s.2) (0,a)=some x∧x=a++Mp v.B:=by
 refine Bm (f:=fun(s:Int×List UInt8)=>Bf v s.1 s.2) v.B.length (fun k s=>s=((k:Int),a++Mp (v.B.take k))) _ (by omega) ?_ ?_ (by simp[Mp])
 ·intro k s hk hs;subst hs;have hx:v.B.take (k+1)=v.B.take k++[v.B[k]]:=by rw[Avb,AsZ hk];rfl
  have hn:nth v.B k=v.B[k]:=by simp[nth,As8,hk]
  have hl:=LZ (v.B.take k);rw[AuW]at hl;refine⟨_,?_,rfl⟩;show Bf v (k:Int) _=_;unfold Bf;rw[AsU (by simp;omega),AsU (A9 hk),AsU (GK (by simp only[Ate];omega)),JK (by omega)];simp only[As1,hn,lt1,hx,YE];by_cases h0:v.B[k]=0
  ·rw[AsU (by simp[h0]),AsU (GK (by simp only[Ate,Ati,Atr];omega))];simp[Mp,h0]
  ·rw[AsX (by simp[h0])];simp[Mp,h0]
 ·intro s hs;subst hs;refine⟨_,?_,rfl⟩;show Bf v ((v.B.length:Nat):Int) _=_;unfold Bf;rw[AsX (by simp),AtP]
theorem AdH(v:AsP)(a:List UInt8)(rec_:List UInt8→AsP→Option (List UInt8))(hr:∀x∈v.L,∀b,b.length+9*szV x≤a.length+9*szVs v.L→rec_ b x=some (b++VP x))(hs:szV v≤1099511627776) :∃x,Ax (fun(s:Int×List UInt8)=>Bg v rec_ s.1 s.2) (0,a)=some x∧x=a++NE v.L:=by
  have hsz:=szV_eq v;have hlen:=Jt v.L;refine Bm (f:=fun(s:Int×List UInt8)=>Bg v rec_ s.1 s.2) v.L.length (fun k s=>s=((k:Int),a++NE (v.L.take k))) _ (by omega) ?_ ?_ (by simp[NE])
  · intro k s hk hs'
    subst hs';have hx:v.L.take (k+1)=v.L.take k++[v.L[k]]:=by rw[Avb,AsZ hk];rfl
    have hm:v.L[k]∈v.L:=AtL hk
    have hsp:szVs v.L=szVs (v.L.take k)+szVs (v.L.drop k):=by
      have key:∀a b:List AsP,szVs (a++b)=szVs a+szVs b:=by
        intro a b
        induction a with
        |nil=>simp[szVs]
        |cons y a ih=>simp only[Atj,szVs,ih];omega
      rw[←key,At8]
    rw[AtB hk]at hsp;simp only[szVs]at hsp;have hl:=KC (v.L.take k);refine⟨_,?_,rfl⟩;show Bg v rec_ (k:Int) _=_;unfold Bg;rw[AsU (by simp;omega),AsU (A9 hk),JK (by omega)];simp only[As1,Ey hk,lt1,LO];refine(A4 (hr _ hm _ (by simp only[Ate];omega))).trans ?_;rw[hx,Tu];simp[NE]
  · intro s hs'
    subst hs';refine⟨_,?_,rfl⟩;show Bg v rec_ ((v.L.length:Nat):Int) _=_;unfold Bg;rw[AsX (by simp),AtP]
theorem YR:∀(n:Nat) (b:List UInt8) (v:AsP),szV v<n→b.length+9*szV v≤1099511627776→Cs n b v=some (b++VP v)
  |0,b,v,h,_=>absurd h (Atw _)
  | n + 1,b,v,h,hs=>by
    show CV (Cs n) b v=_;have hsz:=szV_eq v;rw[Ab0];unfold CV;by_cases h1:v.Za=1
    · rw[AsU (by simp[h1]),AsU h1]
      rw[UE b v.N (by omega)];rfl
    · rw[AsX (by simp[h1]),AsX h1]
      by_cases h2:v.Za=2
      · rw[AsU (by simp[h2]),AsU h2]
        obtain⟨x,hx,rfl⟩:=Aap v (b++[48]) (by simp only[Ate,Ati,Atr];omega);have hl:=LZ v.B;refine(A4 (a:=(.inr (b++48::(Mp v.B++[0,0])):Unit⊕List UInt8)) ?_).trans rfl;refine(AsU (GK (by omega))).trans ?_;refine(RV _ _ _ rfl).trans ?_;refine(A4 (A4 hx)).trans ?_;refine(AsU (GK (by simp only[Ate,Ati,Atr];omega))).trans ?_;simp[lt1]
      · rw[AsX (by simp[h2]),AsX h2]
        obtain⟨x,hx,rfl⟩:=AdH v (b++[64]) (Cs n) (fun y hy c hc=>YR n c y (by have:=EC hy;omega) (by simp only[Ate,Ati,Atr]at hc;omega)) (by omega);have hl:=KC v.L;refine(A4 (a:=(.inl ():Unit⊕List UInt8)) rfl).trans ?_;refine(AsU (GK (by omega))).trans ?_;refine(RV _ _ _ rfl).trans ?_;refine(A4 (A4 hx)).trans ?_;refine(AsU (GK (by simp only[Ate,Ati,Atr];omega))).trans ?_;simp[lt1]
def Enc(v:AsP):List UInt8×Int :=
 if(IE v).2=true then(if(IE v).1>16 then([],2)else if(VP v).length>65536 then([],2)else(VP v,0))else([],10)
theorem encode_eq(v:AsP)(h:szV v≤100000000000):Fo v=some (Enc v):=by
 unfold Fo Lz Gs Enc;refine(A4 (AdE 18446744073709551616 v (by omega) (by omega))).trans ?_;by_cases h1:(IE v).2=true
 ·rw[AsX (by simp[h1]),AsU h1];by_cases h2:(IE v).1>16
  ·rw[AsU (by simpa using h2),AsU h2]
  ·rw[AsX (by simpa using h2),AsX h2];refine(A4 (YR 18446744073709551616 [] v (by omega) (by simp;omega))).trans ?_;by_cases h3:(VP v).length>65536
   ·rw[AsU (by simp;omega),AsU h3]
   ·rw[AsX (by simp;omega),AsX h3];rfl
 ·rw[AsU (by simp[h1]),AsX h1]
variable{k:Nat}
def cmpI(a b:Int):Int:=if a<b then -1 else if b<a then 1 else 0
def cmpB:List UInt8→List UInt8→Int
 |[],[]=>0
 |[],_::_=>-1
 |_::_,[]=>1
 |x::l,y::m=>if x=y then cmpB l m else if x<y then -1 else 1
mutual
def cmpV:AsP→AsP→Int
 |.mk k n b l,w=>if k≠w.Za then cmpI k w.Za else if k=1 then cmpI n w.N else if k=2 then cmpB b w.B else if k=3 then cmpL l w.L else 0
def cmpL:List AsP→List AsP→Int
 |[],[]=>0
 |[],_::_=>-1
 |_::_,[]=>1
 |x::l,y::m=>if cmpV x y≠0 then cmpV x y else cmpL l m
end
theorem cmpV_eq(v w:AsP):cmpV v w=if v.Za≠w.Za then cmpI v.Za w.Za else if v.Za=1 then cmpI v.N w.N else if v.Za=2 then cmpB v.B w.B else if v.Za=3 then cmpL v.L w.L else 0:=by
 cases v with
 |mk k n b l=>rw[cmpV];rfl
theorem HL{α:Type}[Inhabited α]{l:List α}(h:k<l.length):nth l k=l[k]:=by simp[nth,As8,h]
theorem Ad3{a b:List UInt8}(ha:k<a.length)(hb:k<b.length):cmpB (a.drop k) (b.drop k)=if nth a k=nth b k then cmpB (a.drop (k+1)) (b.drop (k+1))else if nth a k<nth b k then -1 else 1:=by
 rw[AtB ha,AtB hb,HL ha,HL hb,cmpB]
theorem Agu{a b:List UInt8}(hk:k≤a.length)(hk':k≤b.length)(h:¬(k<a.length∧k<b.length)):cmpB (a.drop k) (b.drop k)=cmpI (a.length:Int) (b.length:Int):=by
 unfold cmpI;rcases Nat.lt_trichotomy a.length b.length with hl|hl|hl
 ·have hka:k=a.length:=by omega
  rw[AsU (by omega),hka,Aub,AtB (by omega)];rfl
 ·have hka:k=a.length:=by omega
  rw[AsX (by omega),AsX (by omega),hka,Aub,hl,Aub];rfl
 ·have hkb:k=b.length:=by omega
  rw[AsX (by omega),AsU (by omega),hkb,Aub,AtB (by omega)];rfl
theorem ZA{l:List UInt8}{i:Nat}(h:i<l.length):(⟨l.toArray⟩:ByteArray)[i]! = nth l i:=by
 rw[HL h];have h2:i<(⟨l.toArray⟩:ByteArray).size:=by simpa [ByteArray.size]using h
 rw[getElem!_pos (⟨l.toArray⟩:ByteArray) i h2];show l.toArray[i]=_;simp
theorem Y9(a b:List UInt8):∀(m k:Nat),k+m=min a.length b.length →(match(List.range' k m).find? fun i=>(⟨a.toArray⟩:ByteArray)[i]! != (⟨b.toArray⟩:ByteArray)[i]! with
      |some i=>if(⟨a.toArray⟩:ByteArray)[i]!<(⟨b.toArray⟩:ByteArray)[i]! then -1 else 1
      |none=>if(⟨a.toArray⟩:ByteArray).size<(⟨b.toArray⟩:ByteArray).size then(-1:Int)else if(⟨a.toArray⟩:ByteArray).size>(⟨b.toArray⟩:ByteArray).size then 1 else 0)=cmpB (a.drop k) (b.drop k)
  | 0,k,h=>by
    rw[Av0,List.find?_nil,Agu (by omega) (by omega) (by omega)];have e:∀l:List UInt8,(⟨l.toArray⟩:ByteArray).size=l.length:=fun l=>by simp[ByteArray.size]
    simp only[e,cmpI,Int.ofNat_lt,Avp]
  | m + 1,k,h=>by
    have ha:k<a.length:=by omega
    have hb:k<b.length:=by omega
    rw[List.range'_succ,Av8,Ad3 ha hb,ZA ha,ZA hb];by_cases he:nth a k=nth b k
    · have:(nth a k != nth b k)=false:=by simp[he]
      rw[this,AsU he];exact Y9 a b m (k+1) (by omega)
    · have:(nth a k != nth b k)=true:=by simp[he]
      rw[this,AsX he];show(if(⟨a.toArray⟩:ByteArray)[k]!<(⟨b.toArray⟩:ByteArray)[k]! then(-1:Int)else 1)=_;rw[ZA ha,ZA hb]
theorem WL(a b:List UInt8):NS a b=cmpB a b:=by
 have h:=Y9 a b (min a.length b.length) 0 (by omega);rw[←AtT]at h;unfold NS Extern.BytealgCompare.cmp;have e:∀l:List UInt8,(⟨l.toArray⟩:ByteArray).size=l.length:=fun l=>by simp[ByteArray.size]
 rw[e,e];rw[e,e]at h;exact h
theorem Pt(a b:List UInt8):F6 a b=some (cmpB a b):=by
 unfold F6 Hh OG;rw[WL];rfl
theorem UZ(a b:Int):D4 a b=some (cmpI a b):=by
 unfold D4 FE cmpI;by_cases h:a<b
 ·simp[h]
 ·by_cases h2:b<a<;>simp[h,h2]
theorem Ace{a b:List AsP}(ha:k<a.length)(hb:k<b.length):cmpL (a.drop k) (b.drop k)=if cmpV (nth a k) (nth b k)≠0 then cmpV (nth a k) (nth b k)else cmpL (a.drop (k+1)) (b.drop (k+1)):=by
 rw[AtB ha,AtB hb,HL ha,HL hb,cmpL]
theorem Yo{a b:List AsP}(hk:k≤a.length)(hk':k≤b.length)(h:¬(k<a.length∧k<b.length)):cmpL (a.drop k) (b.drop k)=cmpI (a.length:Int) (b.length:Int):=by
 unfold cmpI;rcases Nat.lt_trichotomy a.length b.length with hl|hl|hl
 ·have hka:k=a.length:=by omega
  rw[AsU (by omega),hka,Aub,AtB (by omega),cmpL]
 ·have hka:k=a.length:=by omega
  rw[AsX (by omega),AsX (by omega),hka,Aub,hl,Aub,cmpL]
 ·have hkb:k=b.length:=by omega
  rw[AsX (by omega),AsU (by omega),hkb,Aub,AtB (by omega),cmpL]
theorem RQ(a b:List AsP)(f:AsP→AsP→Option Int)(hf:∀x∈a,∀y,f x y=some (cmpV x y))(ha:a.length≤9223372036854775807):Cn f a b f=some (cmpL a b):=by
 have key:∃x,Ax (fun(v:Int)=>Bz a b f v) 0=some x∧((x=.inl ()∧a.length≤b.length∧cmpL a b=cmpI (a.length:Int) (b.length:Int))∨(x=.inr (.inr (cmpL a b)))):=by
  refine BF (f:=fun(v:Int)=>Bz a b f v) (fun i=>∃k:Nat,i=(k:Int)∧k≤a.length∧k≤b.length∧cmpL a b=cmpL (a.drop k) (b.drop k)) (fun i=>a.length-i.toNat) _ ?_ ⟨0,rfl,by simp,by simp,rfl⟩ (by omega);rintro _ ⟨k,rfl,hka,hkb,he⟩;show _∨_;unfold Bz;by_cases h1:k<a.length
  ·have r1:InR (k:Int) a.length:=⟨by omega,by omega⟩;rw[AsU (by simp;omega),AsU r1];simp only[lt1,As1];by_cases h2:k<b.length
   ·have r2:InR (k:Int) b.length:=⟨by omega,by omega⟩;rw[AsX (by simp;omega),AsU r2];rw[LO,LO,hf _ (by rw[HL h1];exact AtL h1)];rw[Ace h1 h2]at he;by_cases hz:cmpV (nth a k) (nth b k)=0
    ·left;rw[AsX (by simpa using hz)]at he;refine⟨_,(A4 rfl).trans ?_,⟨k+1,rfl,by omega,by omega,he⟩,?_⟩
     ·rw[AsX (by simp[hz]),JK (by omega)]
     ·simp only[As1];omega
    ·right;rw[AsU hz]at he;refine⟨_,(A4 rfl).trans ?_,.inr rfl⟩;rw[AsU (by simpa using hz),he];rfl
   ·right;rw[AsU (by simp;omega)];refine⟨_,rfl,.inr ?_⟩;rw[he,Yo hka hkb (by omega)];unfold cmpI;rw[AsX (by omega),AsU (by omega)]
  ·right;rw[AsX (by simp;omega)];exact⟨_,rfl,.inl ⟨rfl,by omega,by rw[he];exact Yo hka hkb (by omega)⟩⟩
 obtain⟨x,hx,hq⟩:=key;unfold Cn;rcases hq with⟨rfl,hl,he⟩|rfl
 ·refine(A4 (a:=.inl ()) ((A4 hx).trans rfl)).trans ?_;rw[he];unfold cmpI;by_cases h:(a.length:Int)<(b.length:Int)
  ·simp[h]
  ·have:¬(b.length:Int)<(a.length:Int):=by omega
   simp[h,this]
 ·exact(A4 (a:=.inr (cmpL a b)) ((A4 hx).trans rfl)).trans rfl
theorem V5:∀(n:Nat) (a b:AsP),szV a<n→szV a≤1099511627776→Ee n a b=some (cmpV a b)
  |0,a,b,h,_=>absurd h (Atw _)
  | n + 1,a,b,h,hs=>by
    show E0 (Ee n) a b=_;have hsz:=szV_eq a;have hlen:=Jt a.L;unfold E0;rw[cmpV_eq];refine(A4 (UZ _ _)).trans ?_;by_cases hk:a.Za=b.Za
    · have hz:cmpI a.Za b.Za=0:=by unfold cmpI;simp[hk]
      rw[AsX (show ¬(cmpI a.Za b.Za != 0)=true by simp[hz]),AsX (show ¬(a.Za≠b.Za) by simpa using hk)];by_cases h1:a.Za=1
      · rw[AsU (show(a.Za==1)=true by simp[h1]),AsU h1];exact A4 (UZ _ _)
      · rw[AsX (show ¬(a.Za==1)=true by simp[h1]),AsX h1]
        by_cases h2:a.Za=2
        · rw[AsU (show(a.Za==2)=true by simp[h2]),AsU h2];exact A4 (Pt _ _)
        · rw[AsX (show ¬(a.Za==2)=true by simp[h2]),AsX h2]
          by_cases h3:a.Za=3
          · rw[AsU (show(a.Za==3)=true by simp[h3]),AsU h3]
            exact A4 (RQ _ _ _ (fun x hx y=>V5 n x y (by have:=EC hx;omega) (by have:=EC hx;omega)) (by omega))
          · rw[AsX (show ¬(a.Za==3)=true by simp[h3]),AsX h3]
    · have hz:cmpI a.Za b.Za≠0:=by
        unfold cmpI;rcases Int.lt_trichotomy a.Za b.Za with h|h|h
        · rw[AsU h];decide
        · exact(hk h).elim
        · rw[AsX (by omega),AsU h];decide
      rw[AsU (show(cmpI a.Za b.Za != 0)=true by simpa using hz),AsU (show a.Za≠b.Za from hk)]
theorem compare_eq(a b:AsP)(h:szV a≤100000000000):GT a b=some (cmpV a b):=V5 _ a b (by omega) (by omega)
theorem cmpI_zero{a b:Int}:cmpI a b=0↔a=b:=by
 unfold cmpI;by_cases h:a<b
 ·rw[AsU h];constructor
  ·intro h;cases h
  ·intro h;omega
 ·rw[AsX h];by_cases h2:b<a
  ·rw[AsU h2];constructor
   ·intro h;cases h
   ·intro h;omega
  ·rw[AsX h2];constructor<;>intros<;>omega
end Go.Proofs.YtioapcamanmoiaaGreatDoor.Kc
namespace Go.Proofs.YtioapcamanmoiaaGreatDoor
open Go.Rv
set_option maxRecDepth 100000
variable{r:AsM}
theorem OI{n:Nat}(h:n≤2100000):Cj n 64:=⟨AuL h (by decide),AuL (As5 64 h) (by decide)⟩
def iV(n:Int):AsP:=AsP.mk 1 n [] []
def tV(s:List UInt8):AsP:=AsP.mk 2 0 s []
def lV(l:List AsP):AsP:=AsP.mk 3 0 [] l
def KH(x:AsJ):AsP:=lV [iV x.Za,iV x.Zl1,iV (if x.Zm1=true then 1 else 0)]
def Age(it:AsK):List AsP:=[iV it.Za,lV [iV it.Ref.Zb,iV it.Ref.No],iV it.Zn1,iV it.Zb1,iV it.Zc,iV it.Zo1,iV it.Zw,iV it.To,iV it.Code,iV it.Zp1,iV it.Zq1,iV it.Zr1,iV it.Zs1]
def val(it:AsK):AsP:=lV (Age it++[tV it.Zt1,lV (it.Zu1.map KH)])
theorem map_take{α β:Type}[Inhabited α](f:α→β)(l:List α)(k:Nat)(hk:k<l.length):(l.take (k+1)).map f=(l.take k).map f++[f (nth l k)]:=by
 have h:l.take (k+1)=l.take k++[nth l k]:=by
  rw[Avb,AsZ hk];simp[nth,AsZ hk]
 rw[h];simp
theorem AjJ{it:AsK}(hp:it.Zu1.length≤2000000):Ax (fun(v:Int×List AsP)=>E4 it v.1 v.2) (0,[])=some (it.Zu1.map KH):=by
 obtain⟨x,hx,rfl⟩:=Bm (f:=fun(v:Int×List AsP)=>E4 it v.1 v.2) it.Zu1.length (fun k v=>v=((k:Int),(it.Zu1.take k).map KH)) (fun x=>x=it.Zu1.map KH) (by omega) (by
  rintro k v hk rfl;refine⟨_,?_,rfl⟩;have hin:InR (k:Int) it.Zu1.length:=⟨by omega,by simpa using hk⟩;unfold E4;rw[AsU (As9 (by omega)),AsU hin,CG (by omega),map_take _ _ k hk];simp only[As1,AD];have e:(if(nth it.Zu1 k).Zm1=true then some 1 else some 0:Option Int)=some (if(nth it.Zu1 k).Zm1=true then 1 else 0):=by split<;>rfl
  rw[e];simp only[AsY,Ba,EJ];rw[AsU (OI (by simp;omega))];rfl) (by
  rintro v rfl;refine⟨_,?_,rfl⟩;unfold E4;rw[AsX (by simp)];simp) (v0:=(0,[])) (by simp)
 exact hx
theorem SH{it:AsK}(hp:it.Zu1.length≤2000000):Hx it=some (val it):=by
 unfold Hx;simp only[AsY,Ba,EJ,HD,edi_list_cnil,Oc,AD,AjJ hp]
 repeat rw[AsU (OI (by simp))]
 simp only[AsY];rw[AsU (OI (by simp))];rfl
def Yl(n:UInt64)(k:Nat):UInt8:=(CY n (56-8*k)).toUInt8
def Gl(n:UInt64):List UInt8:=(List.range 8).map (Yl n)
def AcL(n:UInt64)(k:Nat):List UInt8:=(List.range 8).map fun j=>if j<k then Yl n j else 0
theorem AbI(n:UInt64):∀{k:Nat},k<8→(AcL n k).set k (Yl n k)=AcL n (k+1)
 |0,_=>rfl
 |1,_=>rfl
 |2,_=>rfl
 |3,_=>rfl
 |4,_=>rfl
 |5,_=>rfl
 |6,_=>rfl
 |7,_=>rfl
 |k+8,h=>by omega
theorem Adv(n:UInt64):Ix n=some (tV (Gl n)):=by
 have h:Ax (fun(v:Int×List UInt8)=>Ep n (List.replicate 8 (0:UInt8)) v.1 v.2) (0,List.replicate 8 (0:UInt8))=some (Gl n):=by
  refine NX 8 (fun(v:Int×List UInt8)=>Ep n (List.replicate 8 (0:UInt8)) v.1 v.2) (fun k s=>(k,s)) (AcL n) id (by omega) (fun k hk=>?_) ?_
  ·have e1:w64 (56-w64 (8*(k:Int)))=((56-8*k:Nat):Int):=by rw[AE (x:=8*(k:Int)) (by omega),AE (by omega)];omega
   simp only;unfold Ep;rw[AsU (As9 (by simp;omega)),e1,AsU (by unfold Cb;omega),AsU (show InR (k:Int) (AcL n k).length from A9 (by simpa [AcL]using hk))];simp only[AD,As1];rw[CG (by omega),show(CY n (56-8*k)).toUInt8=Yl n k from rfl,AbI n hk]
  ·simp only;unfold Ep;rw[AsX (by simp)];rfl
 unfold Ix;rw[AsU (by unfold Mk maxLen Fi;omega)];simp only[AD];rw[h];rfl
def KI(r:AsM):List AsP:=[iV r.Zb,iV r.No,tV r.Zv1.l,iV r.Zw1,val r.Zx1]
def Vf(r:AsM):AsP:=lV (KI r++[lV [tV (Gl r.Sig.C),tV (Gl r.Sig.S)]])
theorem QB(hp:r.Zx1.Zu1.length≤2000000):ED r=some (KI r):=by
 unfold ED;rw[SH hp];rfl
theorem Adk(n:Int):Kc.szV (iV n)=1:=by rw[Kc.szV_eq];rfl
theorem LV:Kc.szVs []=0:=rfl
theorem FF(x:AsP)(l:List AsP):Kc.szVs (x::l)=Kc.szV x+Kc.szVs l:=rfl
theorem Z5(a b:List AsP):Kc.szVs (a++b)=Kc.szVs a+Kc.szVs b:=by
 induction a with
 |nil=>rw[AtH,LV];omega
 |cons x a ih=>rw[Atj,FF,FF,ih];omega
theorem Aj7(s:List UInt8):Kc.szV (tV s)=s.length+1:=by rw[Kc.szV_eq];rfl
theorem VY(l:List AsP):Kc.szV (lV l)=1+Kc.szVs l:=by rw[Kc.szV_eq];show 0+1+Kc.szVs l=_;omega
theorem AbH(l:List AsJ):Kc.szVs (l.map KH)=4*l.length:=by
  induction l with
  |nil=>rfl
  | cons x l ih=>
    rw[AuC,FF,ih];unfold KH;rw[VY,FF,FF,FF,LV,Adk,Adk,Adk,Ati];omega
theorem Ac9(it:AsK):Kc.szV (val it)=18+it.Zt1.length+4*it.Zu1.length:=by
 unfold val Age;rw[VY,Z5];simp only[FF,LV,Adk,VY,Aj7,AbH];omega
theorem TY(r:AsM):Kc.szV (lV (KI r))=55+r.Zx1.Zt1.length+4*r.Zx1.Zu1.length:=by
 unfold KI;rw[VY];simp only[FF,LV,Adk,Aj7,Ac9,r.Zv1.h];omega
theorem SJ(r:AsM):Kc.szV (Vf r)=74+r.Zx1.Zt1.length+4*r.Zx1.Zu1.length:=by
 have h:=TY r;rw[VY]at h;have hw:∀n,(Gl n).length=8:=fun n=>by simp[Gl]
 unfold Vf;rw[VY,Z5];simp only[FF,LV,VY,Aj7,hw];omega
theorem Adl(h:Small r.Zx1):Hp r=some (Kc.Enc (lV (KI r))):=by
 have h1:=h.text;have h2:=h.parts;unfold Hp;rw[QB (by omega),AsY];show(some (lV (KI r))).bind _=_;rw[AsY,Kc.encode_eq _ (by rw[TY];omega)];rfl
theorem Sc(h:Small r.Zx1):Hg r=some (Kc.Enc (Vf r)):=by
 have h1:=h.text;have h2:=h.parts;unfold Hg;rw[QB (by omega),AsY,Adv,AsY,Adv,AsY];show(some (lV [tV (Gl r.Sig.C),tV (Gl r.Sig.S)])).bind _=_;rw[AsY,AsU (OI (by simp[KI]))];show(some (Vf r)).bind _=_;rw[AsY,Kc.encode_eq _ (by rw[SJ];omega)];rfl
theorem Adt(v:AsP):(Kc.Enc v).1.length≤9*Kc.szV v:=by
 unfold Kc.Enc
 repeat' split
 all_goals first|exact Kc.encV_len v|simp
theorem XF(h:Small r.Zx1):∃d,Dx r=some d∧((Kc.Enc (Vf r)).2≠0→d.2=(Kc.Enc (Vf r)).2)∧((Kc.Enc (Vf r)).2=0→d.2=0∧C0 [114,101,99,111,114,100] (Kc.Enc (Vf r)).1=some d.1):=by
 have h1:=h.text;have h2:=h.parts;have h3:=Adt (Vf r);rw[SJ]at h3;unfold Dx;rw[Sc h,AsY];by_cases he:(Kc.Enc (Vf r)).2=0
 ·rw[AsX (by simpa using he)];obtain⟨d,hd⟩:=S4 [114,101,99,111,114,100] (Kc.Enc (Vf r)).1 (by simp) (by omega);rw[hd];exact⟨_,rfl,fun h=>absurd he h,fun _=>⟨rfl,rfl⟩⟩
 ·rw[AsU (by simpa using he)];exact⟨_,rfl,fun _=>rfl,fun h=>absurd h he⟩
set_option maxRecDepth 8000
theorem z_i{x y:Int}:Kc.cmpV (iV x) (iV y)=0↔x=y:=by
 rw[Kc.cmpV_eq];show(if(1:Int)≠1 then _ else if(1:Int)=1 then Kc.cmpI x y else _)=0↔_;rw[AsX (by simp),AsU rfl,Kc.cmpI_zero]
theorem z_b:∀{a b:List UInt8},Kc.cmpB a b=0↔a=b
  |[],[]=>by simp[Kc.cmpB]
  |[],_::_=>by simp[Kc.cmpB]
  |_::_,[]=>by simp[Kc.cmpB]
  | x :: l,y::m=>by
    unfold Kc.cmpB;by_cases h:x=y
    · rw[AsU h,z_b (a:=l) (b:=m),h];simp
    · rw[AsX h]
      split<;>simp[h]
theorem z_t{a b:List UInt8}:Kc.cmpV (tV a) (tV b)=0↔a=b:=by
 rw[Kc.cmpV_eq];show(if(2:Int)≠2 then _ else if(2:Int)=1 then _ else if(2:Int)=2 then Kc.cmpB a b else _)=0↔_;rw[AsX (by simp),AsX (by decide),AsU rfl,z_b]
theorem c_l{a b:List AsP}:Kc.cmpV (lV a) (lV b)=Kc.cmpL a b:=by
 rw[Kc.cmpV_eq];show(if(3:Int)≠3 then _ else if(3:Int)=1 then _ else if(3:Int)=2 then _ else if(3:Int)=3 then Kc.cmpL a b else _)=_;rw[AsX (by simp),AsX (by decide),AsX (by decide),AsU rfl]
theorem z_c{x y:AsP}{l m:List AsP}:Kc.cmpL (x::l) (y::m)=0↔Kc.cmpV x y=0∧Kc.cmpL l m=0:=by
 rw[Kc.cmpL];by_cases h:Kc.cmpV x y=0
 ·rw[AsX (by simpa using h)];simp[h]
 ·rw[AsU h];simp[h]
theorem z_n:Kc.cmpL [] []=0:=by rw[Kc.cmpL]
theorem z_p{x y:AsJ}:Kc.cmpV (KH x) (KH y)=0↔x=y:=by
 unfold KH;rw[c_l,z_c,z_c,z_c,z_i,z_i,z_i];rcases x with⟨a,b,c⟩
 rcases y with⟨d,e,f⟩
 simp only[z_n,Au9,AsJ.mk.injEq];cases c<;>cases f<;>simp
theorem z_ps:∀{l m:List AsJ},Kc.cmpL (l.map KH) (m.map KH)=0↔l=m
 |[],[]=>by simp[z_n]
 |[],y::m=>by rw[Av9,AuC,Kc.cmpL];simp
 |x::l,[]=>by rw[Av9,AuC,Kc.cmpL];simp
 |x::l,y::m=>by rw[AuC,AuC,z_c,z_p,z_ps];simp
theorem z_val{a b:AsK}:Kc.cmpV (val a) (val b)=0↔a=b:=by
 unfold val Age;simp only[c_l,Atj,AtH,z_c,z_i,z_t,z_ps,z_n,Au9];rcases a with⟨k,⟨r,n⟩,a1,a2,a3,a4,a5,a6,a7,a8,a9,a10,a11,t,p⟩
 rcases b with⟨k',⟨r',n'⟩,b1,b2,b3,b4,b5,b6,b7,b8,b9,b10,b11,t',p'⟩
 simp only[AsK.mk.injEq,AsI.mk.injEq]
theorem AhW{a b:AsM}(ha:Small a.Zx1)(hb:Small b.Zx1):Io a b=some (decide (a=b)):=by
 have hz:GT (val a.Zx1) (val b.Zx1)=some (Kc.cmpV (val a.Zx1) (val b.Zx1)):=Kc.compare_eq _ _ (by rw[Ac9];have:=ha.text;have:=ha.parts;omega);unfold Io;by_cases h1:a.Zb=b.Zb
 case neg=>rw[AsX (by simpa using h1),Atx (fun h=>h1 (by rw[h]))];rfl
 by_cases h2:a.No=b.No
 case neg=>rw[AsU (by simpa using h1),AsX (by simpa using h2),Atx (fun h=>h2 (by rw[h]))];rfl
 by_cases h3:a.Zv1=b.Zv1
 case neg=>rw[AsU (by simpa using h1),AsU (by simpa using h2),AsX (by simpa using h3),Atx (fun h=>h3 (by rw[h]))];rfl
 by_cases h4:a.Zw1=b.Zw1
 case neg=>rw[AsU (by simpa using h1),AsU (by simpa using h2),AsU (by simpa using h3),AsX (by simpa using h4),Atx (fun h=>h4 (by rw[h]))];rfl
 rw[AsU (by simpa using h1),AsU (by simpa using h2),AsU (by simpa using h3),AsU (by simpa using h4),AsY];by_cases h5:((a.Sig.C==b.Sig.C)&&(a.Sig.S==b.Sig.S))=true
 case neg=>
  rw[AsX h5,Atx (fun h=>h5 (by rw[h];simp))];rfl
 rw[AsU h5,SH (by have:=ha.parts;omega),AsY,SH (by have:=hb.parts;omega),AsY,hz];simp only[AsY];simp only[Ata,AtW]at h5;by_cases h6:a.Zx1=b.Zx1
 ·rw[As9 (AbN h1 h2 h3 h4 h5.1 h5.2 h6),h6,z_val.2 rfl];rfl
 ·rw[Atx (fun h=>h6 (by rw[h]))];congr 1;simp only[AuV,ne_eq];exact fun h=>h6 (z_val.1 h)
def Ga(r:AsM)(f:AsN):Bool:=(f.A.Zb==r.Zb)&&(f.A.No==r.No)
theorem acc1(f:AsN)(r:AsM):FD f r=some (Ga r f,r):=by
 unfold FD Ga;by_cases h:f.A.Zb=r.Zb<;>simp[h]
theorem Wm(l:List AsN)(r:AsM)(hl:l.length≤1000000):Bu l r=some (l.any (Ga r),r):=by
 unfold Bu Cl;generalize hF:(fun(v:Int×Int×Int×Arr UInt8 32×Int×Int×Int×Int×Int×Int×Int×Int×Int×Int×Int×Int×Int×Int×Int×List UInt8×List AsJ×UInt64×UInt64)=>AW l v.1 v.2.1 v.2.2.1 v.2.2.2.1 v.2.2.2.2.1 v.2.2.2.2.2.1 v.2.2.2.2.2.2.1 v.2.2.2.2.2.2.2.1 v.2.2.2.2.2.2.2.2.1 v.2.2.2.2.2.2.2.2.2.1 v.2.2.2.2.2.2.2.2.2.2.1 v.2.2.2.2.2.2.2.2.2.2.2.1 v.2.2.2.2.2.2.2.2.2.2.2.2.1 v.2.2.2.2.2.2.2.2.2.2.2.2.2.1 v.2.2.2.2.2.2.2.2.2.2.2.2.2.2.1 v.2.2.2.2.2.2.2.2.2.2.2.2.2.2.2.1 v.2.2.2.2.2.2.2.2.2.2.2.2.2.2.2.2.1 v.2.2.2.2.2.2.2.2.2.2.2.2.2.2.2.2.2.1 v.2.2.2.2.2.2.2.2.2.2.2.2.2.2.2.2.2.2.1 v.2.2.2.2.2.2.2.2.2.2.2.2.2.2.2.2.2.2.2.1 v.2.2.2.2.2.2.2.2.2.2.2.2.2.2.2.2.2.2.2.2.1 v.2.2.2.2.2.2.2.2.2.2.2.2.2.2.2.2.2.2.2.2.2.1 v.2.2.2.2.2.2.2.2.2.2.2.2.2.2.2.2.2.2.2.2.2.2)=F
 have hs:∀k:Nat,F ((k:Int),r.Zb,r.No,r.Zv1,r.Zw1,r.Zx1.Za,r.Zx1.Ref.Zb,r.Zx1.Ref.No,r.Zx1.Zn1,r.Zx1.Zb1,r.Zx1.Zc,r.Zx1.Zo1,r.Zx1.Zw,r.Zx1.To,r.Zx1.Code,r.Zx1.Zp1,r.Zx1.Zq1,r.Zx1.Zr1,r.Zx1.Zs1,r.Zx1.Zt1,r.Zx1.Zu1,r.Sig.C,r.Sig.S)=
   AW l (k:Int) r.Zb r.No r.Zv1 r.Zw1 r.Zx1.Za r.Zx1.Ref.Zb r.Zx1.Ref.No r.Zx1.Zn1 r.Zx1.Zb1 r.Zx1.Zc r.Zx1.Zo1 r.Zx1.Zw r.Zx1.To r.Zx1.Code r.Zx1.Zp1 r.Zx1.Zq1 r.Zx1.Zr1 r.Zx1.Zs1 r.Zx1.Zt1 r.Zx1.Zu1 r.Sig.C r.Sig.S:=fun k=>by rw[←hF]
 have hlp:=BF (f:=F) (fun v=>∃k:Nat,k≤l.length∧(l.take k).any (Ga r)=false∧v=((k:Int),r.Zb,r.No,r.Zv1,r.Zw1,r.Zx1.Za,r.Zx1.Ref.Zb,r.Zx1.Ref.No,r.Zx1.Zn1,r.Zx1.Zb1,r.Zx1.Zc,r.Zx1.Zo1,r.Zx1.Zw,r.Zx1.To,r.Zx1.Code,r.Zx1.Zp1,r.Zx1.Zq1,r.Zx1.Zr1,r.Zx1.Zs1,r.Zx1.Zt1,r.Zx1.Zu1,r.Sig.C,r.Sig.S)) (fun v=>(l.length-v.1).toNat)
  (fun x=>(l.any (Ga r)=false∧x=.inl (r.Zb,r.No,r.Zv1,r.Zw1,r.Zx1.Za,r.Zx1.Ref.Zb,r.Zx1.Ref.No,r.Zx1.Zn1,r.Zx1.Zb1,r.Zx1.Zc,r.Zx1.Zo1,r.Zx1.Zw,r.Zx1.To,r.Zx1.Code,r.Zx1.Zp1,r.Zx1.Zq1,r.Zx1.Zr1,r.Zx1.Zs1,r.Zx1.Zt1,r.Zx1.Zu1,r.Sig.C,r.Sig.S))∨(l.any (Ga r)=true∧∃k:Nat,x=.inr (.inr ((k:Int),r)))) ?_ ⟨0,by omega,rfl,rfl⟩ (by simp;omega)
 ·obtain⟨x,hx,hq⟩:=hlp;show((((Ax F ((0:Int),r.Zb,r.No,r.Zv1,r.Zw1,r.Zx1.Za,r.Zx1.Ref.Zb,r.Zx1.Ref.No,r.Zx1.Zn1,r.Zx1.Zb1,r.Zx1.Zc,r.Zx1.Zo1,r.Zx1.Zw,r.Zx1.To,r.Zx1.Code,r.Zx1.Zp1,r.Zx1.Zq1,r.Zx1.Zr1,r.Zx1.Zs1,r.Zx1.Zt1,r.Zx1.Zu1,r.Sig.C,r.Sig.S)).bind _).bind _).bind _)=_;rw[show Ax F ((0:Int),r.Zb,r.No,r.Zv1,r.Zw1,r.Zx1.Za,r.Zx1.Ref.Zb,r.Zx1.Ref.No,r.Zx1.Zn1,r.Zx1.Zb1,r.Zx1.Zc,r.Zx1.Zo1,r.Zx1.Zw,r.Zx1.To,r.Zx1.Code,r.Zx1.Zp1,r.Zx1.Zq1,r.Zx1.Zr1,r.Zx1.Zs1,r.Zx1.Zt1,r.Zx1.Zu1,r.Sig.C,r.Sig.S)=some x from hx];rcases hq with⟨h1,rfl⟩|⟨h1,k,rfl⟩
  ·rw[h1];rfl
  ·rw[h1];simp only[AsY];rw[As9 (by omega)]
 ·rintro v ⟨k,hk,ht,rfl⟩;rw[hs];unfold AW;by_cases h1:k<l.length
  ·rw[AsU (As9 (by omega)),AsU (A9 h1)];simp only[As1];rw[acc1,AsY];show(∃v',(if Ga r (nth l k)=true then _ else _)=_∧_)∨_;have hn:nth l k=l[k]:=by simp[nth,h1]
   by_cases h2:Ga r (nth l k)=true
   ·right;refine⟨_,by rw[AsU h2];rfl,.inr ⟨?_,k,rfl⟩⟩;rw[List.any_eq_true];exact⟨_,Ey h1,h2⟩
   ·left;refine⟨_,by rw[AsX h2],⟨k+1,by omega,?_,by rw[CG (by omega)]⟩,?_⟩
    ·rw[Aty h1,List.any_append,ht,←hn];simpa using h2
    ·show((l.length:Int)-w64 ((k:Int)+1)).toNat<((l.length:Int)-(k:Int)).toNat;rw[CG (by omega)];omega
  ·have:k=l.length:=by omega
   subst this;rw[AtP]at ht;right;exact⟨_,by rw[AsX (by simp)],.inl ⟨ht,rfl⟩⟩
variable{r:AsM}
structure SingleOk(p:AsH)(r:AsM):Prop where
  pool:BI p=some 0
  rail:0≤r.Zb∧r.Zb<(p.Zk1.length:Int)
  no:1≤r.No∧r.No≤4096
  time:0≤r.Zw1∧r.Zw1≤1073741824
  item:Hr p r.Zx1=some 0
  body:(Kc.Enc (lV (KI r))).2=0
  ver:E2 (nth p.Zk1 r.Zb.toNat).Key (Kc.Enc (lV (KI r))).1 r.Sig=some true
theorem Xx{p:AsH}(h:Few p)(hs:Small r.Zx1):∃e,Ex p r=some e∧(e=0→SingleOk p r):=by
 obtain⟨f,hf,hc⟩:=ZV h;obtain⟨u,hi⟩:=hc r.Zx1 (by have:=hs.parts;omega);unfold Ex;rw[hf,AsY];by_cases h0:(f != 0)=true
 ·rw[AsU h0];exact⟨f,rfl,fun e=>by subst e;exact absurd h0 (by decide)⟩
 rw[AsX h0];have f0:f=0:=by simpa using h0
 simp only[Ib,A2];split
 ·exact⟨_,rfl,fun e=>absurd e (by decide)⟩
 rename_i h1;simp only[Atv,not_or,Atg]at h1;obtain⟨a1,a2,a3,a4,a5,a6,a7⟩:=h1;rw[hi,AsY];by_cases h2:(u != 0)=true
 ·rw[AsU h2];exact⟨_,rfl,fun e=>by rw[e]at h2;exact absurd h2 (by decide)⟩
 rw[AsX h2,Adl hs,AsY];by_cases h3:((Kc.Enc (lV (KI r))).2 != 0)=true
 ·rw[AsU h3];exact⟨_,rfl,fun e=>by rw[e]at h3;exact absurd h3 (by decide)⟩
 rw[AsX h3,AsU (show InR r.Zb p.Zk1.length from⟨by omega,by omega⟩)];obtain⟨b,hb⟩:=Xn (nth p.Zk1 r.Zb.toNat).Key (Kc.Enc (lV (KI r))).1 r.Sig;rw[hb,AsY];cases b
 ·exact⟨31,rfl,fun e=>absurd e (by decide)⟩
 ·refine⟨0,rfl,fun _=>⟨by rw[hf,f0],⟨by omega,by omega⟩,⟨by omega,by omega⟩,⟨by omega,by omega⟩,?_,by simpa using h3,hb⟩⟩;rw[hi];congr 1;simpa using h2
def Abv(r:AsI):Bool:=(r.Zb==0)&&(r.No==0)
structure FollowsOk(l:List AsM)(r:AsM):Prop where
  no:r.No≤(l.length:Int)+1
  prev:1<r.No→Dx (nth l (r.No-2).toNat)=some (r.Zv1,0)∧(nth l (r.No-2).toNat).Zw1≤r.Zw1
  first:¬1<r.No→r.Zv1=Arr.rep 32 (0:UInt8)
  ref:Abv r.Zx1.Ref=true∨(r.Zx1.Ref.Zb=r.Zb∧1≤r.Zx1.Ref.No∧r.Zx1.Ref.No<r.No∧Abv (nth l (r.Zx1.Ref.No-1).toNat).Zx1.Ref=true)
theorem Abx(h:Small r.Zx1):∃d,Dx r=some d:=by
 obtain⟨d,h1,_⟩:=XF h;exact⟨d,h1⟩
theorem UU{l:List AsM}(hl:l.length≤10000)(hs:∀x∈l,Small x.Zx1)(hn:1≤r.No):∃e,D9 l r=some e∧(e=0↔FollowsOk l r):=by
 have w1:w64 ((l.length:Int)+1)=(l.length:Int)+1:=AE (by omega);unfold D9;rw[w1];by_cases h1:r.No>(l.length:Int)+1
 ·rw[AsU (As9 h1)];exact⟨140,rfl,⟨fun e=>absurd e (by decide),fun h=>by have:=h.no;omega⟩⟩
 rw[AsX (by simpa using h1)];have w2:w64 (r.No-2)=r.No-2:=AE (by omega)
 have tail:∀d:Arr UInt8 32,∃e,(if(!(d==r.Zv1))then some 140 else
    (if (!((r.Zx1.Ref.Zb==0)&&(r.Zx1.Ref.No==0)))then
     if(r.Zx1.Ref.Zb != r.Zb)then some true
     else
      if(decide (r.Zx1.Ref.No<1))then some true
      else
       if(decide (r.Zx1.Ref.No≥r.No))then some true
       else
        if InR ((w64 (r.Zx1.Ref.No-1))) l.length then
         some ((!(((((nth l (((w64 (r.Zx1.Ref.No-1))).toNat)).Zx1).Ref).Zb==0)&&((((nth l (((w64 (r.Zx1.Ref.No-1))).toNat)).Zx1).Ref).No==0))))
        else none
    else some false:Option (Bool)).bind fun t=>if t then some 110 else some 0:Option Int)=some e ∧
   (e=0↔d=r.Zv1∧(Abv r.Zx1.Ref=true∨(r.Zx1.Ref.Zb=r.Zb∧1≤r.Zx1.Ref.No∧r.Zx1.Ref.No<r.No∧Abv (nth l (r.Zx1.Ref.No-1).toNat).Zx1.Ref=true))):=by
  intro d;by_cases h2:d=r.Zv1
  case neg=>rw[AsU (by simpa using h2)];exact⟨140,rfl,⟨fun e=>absurd e (by decide),fun h=>absurd h.1 h2⟩⟩
  rw[AsX (by simpa using h2)];by_cases h3:Abv r.Zx1.Ref=true
  ·have h3':(!((r.Zx1.Ref.Zb==0)&&(r.Zx1.Ref.No==0)))=false:=by rw[show((r.Zx1.Ref.Zb==0)&&(r.Zx1.Ref.No==0))=true from h3];rfl
   rw[h3',AsX (by simp)];exact⟨0,rfl,⟨fun _=>⟨h2,.inl h3⟩,fun _=>rfl⟩⟩
  have h3':(!((r.Zx1.Ref.Zb==0)&&(r.Zx1.Ref.No==0)))=true:=by
   rw[AuK]at h3;rw[show((r.Zx1.Ref.Zb==0)&&(r.Zx1.Ref.No==0))=false from h3];rfl
  rw[AsU h3'];by_cases h4:r.Zx1.Ref.Zb=r.Zb
  case neg=>rw[AsU (by simpa using h4)];exact⟨110,rfl,⟨fun e=>absurd e (by decide),fun h=>(h.2.resolve_left h3).1 |> fun q=>absurd q h4⟩⟩
  rw[AsX (by simpa using h4)];by_cases h5:r.Zx1.Ref.No<1
  ·rw[AsU (As9 h5)];exact⟨110,rfl,⟨fun e=>absurd e (by decide),fun h=>by have:=(h.2.resolve_left h3).2.1;omega⟩⟩
  rw[AsX (by simpa using h5)];by_cases h6:r.Zx1.Ref.No≥r.No
  ·rw[AsU (As9 h6)];exact⟨110,rfl,⟨fun e=>absurd e (by decide),fun h=>by have:=(h.2.resolve_left h3).2.2.1;omega⟩⟩
  rw[AsX (by simpa using h6)];have w3:w64 (r.Zx1.Ref.No-1)=r.Zx1.Ref.No-1:=AE (by omega);rw[w3,AsU (show InR (r.Zx1.Ref.No-1) l.length from⟨by omega,by omega⟩),AsY];by_cases h7:Abv (nth l (r.Zx1.Ref.No-1).toNat).Zx1.Ref=true
  ·have h7':(!((((nth l (r.Zx1.Ref.No-1).toNat).Zx1.Ref.Zb==0)&&((nth l (r.Zx1.Ref.No-1).toNat).Zx1.Ref.No==0))))=false:=by
    rw[show(((nth l (r.Zx1.Ref.No-1).toNat).Zx1.Ref.Zb==0)&&((nth l (r.Zx1.Ref.No-1).toNat).Zx1.Ref.No==0))=true from h7];rfl
   rw[h7',AsX (by simp)];exact⟨0,rfl,⟨fun _=>⟨h2,.inr ⟨h4,by omega,by omega,h7⟩⟩,fun _=>rfl⟩⟩
  ·have h7':(!((((nth l (r.Zx1.Ref.No-1).toNat).Zx1.Ref.Zb==0)&&((nth l (r.Zx1.Ref.No-1).toNat).Zx1.Ref.No==0))))=true:=by
    rw[AuK]at h7;rw[show(((nth l (r.Zx1.Ref.No-1).toNat).Zx1.Ref.Zb==0)&&((nth l (r.Zx1.Ref.No-1).toNat).Zx1.Ref.No==0))=false from h7];rfl
   rw[h7',AsU rfl];exact⟨110,rfl,⟨fun e=>absurd e (by decide),fun h=>absurd (h.2.resolve_left h3).2.2.2 h7⟩⟩
 by_cases h2:r.No>1
 ·rw[AsU (As9 h2),w2];have hin:InR (r.No-2) l.length:=⟨by omega,by omega⟩;rw[AsU hin];have hk:(r.No-2).toNat<l.length:=by omega
  obtain⟨d,hd⟩:=Abx (hs _ (Ey hk));rw[hd,AsY];by_cases h3:d.2=0
  case neg=>
   rw[AsU (by simpa using h3)];refine⟨140,rfl,⟨fun e=>absurd e (by decide),fun h=>?_⟩⟩;have:=(h.prev h2).1;rw[hd]at this;exact absurd (Auy Prod.snd (AtA this)) h3
  rw[AsX (by simpa using h3),AsU hin,AsY];by_cases h4:r.Zw1<(nth l (r.No-2).toNat).Zw1
  ·rw[AsU (As9 h4)];exact⟨140,rfl,⟨fun e=>absurd e (by decide),fun h=>by have:=(h.prev h2).2;omega⟩⟩
  rw[AsX (by simpa using h4),AsY];obtain⟨e,he,hq⟩:=tail d.1;refine⟨e,he,hq.trans ⟨fun h=>⟨by omega,fun _=>⟨?_,by omega⟩,fun h5=>absurd h2 h5,h.2⟩,fun h=>⟨?_,h.ref⟩⟩⟩
  ·rw[hd,←h.1,←h3]
  ·have:=(h.prev h2).1;rw[hd]at this;exact Auy Prod.fst (AtA this)
 ·rw[AsX (by simpa using h2),AsY];obtain⟨e,he,hq⟩:=tail (Arr.rep 32 (0:UInt8));exact⟨e,he,hq.trans ⟨fun h=>⟨by omega,fun h5=>absurd h5 h2,fun _=>h.1.symm,h.2⟩,fun h=>⟨(h.first h2).symm,h.ref⟩⟩⟩
structure Mid(n:Nat)(b:AsO):Prop where
  logs:b.Zy1.length≤n
  forks:b.Zz1.length≤n
  row:∀l∈b.Zy1,l.length≤n
  item:∀l∈b.Zy1,∀r∈l,Small r.Zx1
theorem Short.mid{b:AsO}(h:Short b):Mid 12 b:=⟨by have:=h.logs;omega,by have:=h.forks;omega,h.row,h.item⟩
def logV(b:AsO)(rw:Int):List AsM:=if 0≤rw∧rw<(b.Zy1.length:Int)then nth b.Zy1 rw.toNat else[]
theorem AeO{b:AsO}{rw:Int}(h:0≤rw):GY b rw=some (logV b rw):=by
 unfold GY logV;by_cases h1:rw<(b.Zy1.length:Int)
 ·rw[AsX (by simp;omega),AsU (show InR rw b.Zy1.length from⟨h,by omega⟩),AsU ⟨h,h1⟩]
 ·rw[AsU (by simp;omega),AsX (fun h2=>h1 h2.2)]
theorem Ano(b:AsO)(rw:Int):Ph b rw=some (logV b rw):=by
 unfold Ph logV;rw[Ib,AsY];by_cases h:0≤rw∧rw<(b.Zy1.length:Int)
 ·rw[AsX (by simp;omega),AsU (show InR rw b.Zy1.length from⟨h.1,by omega⟩),AsU h]
 ·rw[AsU (by simp;omega),AsX h]
theorem Mid.logV{n:Nat}{b:AsO}(h:Mid n b)(rw:Int):(logV b rw).length≤n∧∀r∈Proofs.YtioapcamanmoiaaGreatDoor.logV b rw,Small r.Zx1:=by
 unfold Proofs.YtioapcamanmoiaaGreatDoor.logV;split
 ·rename_i h1;have hk:rw.toNat<b.Zy1.length:=by omega
  exact⟨h.row _ (Ey hk),h.item _ (Ey hk)⟩
 ·exact⟨by simp,fun r hr=>by simp at hr⟩
def Abz(N:Nat)(L:List (List AsM)):List (List AsM):=L++List.replicate (N-L.length) []
theorem AiZ(N:Nat)(L:List (List AsM))(h:L.length≤N):ovl (List.replicate N ([]:List AsM)) (L.take (min L.length (List.replicate N ([]:List AsM)).length)) 0=Abz N L:=by
 unfold ovl Abz;rw[Au5,Au4 h,AtP];simp
def AbD(p:AsH)(b:AsO)(r:AsM):AsO:={ Zy1:=(Abz (max b.Zy1.length p.Zk1.length) b.Zy1).set r.Zb.toNat (logV b r.Zb++[r]),Zz1:=b.Zz1 }
def XE(b:AsO)(r:AsM):AsO:={ Zy1:=b.Zy1,Zz1:=if b.Zz1.any (Ga r)=true then b.Zz1 else b.Zz1++[{ A:=nth (logV b r.Zb) (r.No-1).toNat,B:=r }] }
abbrev noB:AsO:={ Zy1:=[],Zz1:=[] }
def Js(p:AsH)(b:AsO)(r:AsM)(es ef:Int):AsO×Int :=
 if es≠0 then(noB,es)else if r.No≤((logV b r.Zb).length:Int)∧nth (logV b r.Zb) (r.No-1).toNat=r then(b,0)
 else if ef≠0 then(noB,ef)else if r.No=((logV b r.Zb).length:Int)+1 then(AbD p b r,0)else(XE b r,0)
theorem Ah6{l:List AsM}(h:l.length≤100000):En l=some l:=by
 unfold En;rw[AsU (by unfold Cj maxLen Fi;omega)];simp only[AD,AtH]
theorem Aix{l:List AsN}(h:l.length≤100000):E7 l=some l:=by
 unfold E7;rw[AsU (by unfold Cj maxLen Fi;omega)];simp only[AD,AtH]
theorem Yi{p:AsH}{b:AsO}{r:AsM}{n:Nat}(h:Few p)(hm:Mid n b)(hn:n≤10000)(hr:Small r.Zx1) :∃es ef,Ex p r=some es∧(es=0→SingleOk p r∧D9 (logV b r.Zb) r=some ef∧(ef=0↔FollowsOk (logV b r.Zb) r))∧Bk p b r=some (Js p b r es ef):=by
 obtain⟨es,h1,h2⟩:=Xx h hr;by_cases h0:es=0
 case neg=>
  refine⟨es,0,h1,fun e=>absurd e h0,?_⟩;unfold Bk Js;rw[h1,AsY,AsU (by simpa using h0),AsU h0]
 have hs:=h2 h0;obtain⟨l1,l2⟩:=hm.logV r.Zb;obtain⟨ef,f1,f2⟩:=UU (l:=logV b r.Zb) (r:=r) (by omega) l2 hs.no.1;refine⟨es,ef,h1,fun _=>⟨hs,f1,f2⟩,?_⟩;unfold Bk Js;rw[h1,AsY,AsX (show ¬(es != 0)=true by simpa using h0),AeO hs.rail.1,AsY,AsX (show ¬es≠0 from fun h=>h h0)];generalize hl:logV b r.Zb=l at *;obtain⟨n1,n2⟩:=hs.no;have w1:w64 (r.No-1)=r.No-1:=AE (by omega);have w2:w64 ((l.length:Int)+1)=(l.length:Int)+1:=AE (by omega)
 have hsame:(if(decide (r.No≤(l.length:Int)))then if InR ((w64 (r.No-1))) l.length then(Io (nth l (((w64 (r.No-1))).toNat)) r).bind fun y=>some y else none else some false:Option Bool)=some (decide (r.No≤(l.length:Int)∧nth l (r.No-1).toNat=r)):=by
  by_cases h3:r.No≤(l.length:Int)
  ·have hk:(r.No-1).toNat<l.length:=by omega
   rw[AsU (As9 h3),w1,AsU (show InR (r.No-1) l.length from⟨by omega,by omega⟩),AhW (l2 _ (Ey hk)) hr,AsY];congr 1;simp[h3]
  ·rw[AsX (by simpa using h3),Atx (fun h=>h3 h.1)]
 rw[hsame,AsY];by_cases h4:r.No≤(l.length:Int)∧nth l (r.No-1).toNat=r
 ·rw[AsU (As9 h4),AsU h4]
 rw[AsX (by simpa using h4),AsX h4,f1,AsY];by_cases h5:ef=0
 case neg=>rw[AsU (by simpa using h5),AsU h5]
 rw[AsX (show ¬(ef != 0)=true by simpa using h5),AsX (show ¬ef≠0 from fun h=>h h5),w2];have hno:=(f2.1 h5).no;by_cases h6:r.No=(l.length:Int)+1
 ·have hmx:J6 (b.Zy1.length:Int) (p.Zk1.length:Int)=((max b.Zy1.length p.Zk1.length:Nat):Int):=by unfold J6;split<;>omega
  have hb:=hm.logs;have hp:=h.railways;rw[AsU (by simpa using h6),AsU h6,hmx,AsU (by unfold Mk maxLen Fi;omega)];simp only[AD,As1];rw[AiZ _ _ (by omega),Ah6 (by omega),AsY,AsU (by unfold Cj maxLen Fi;omega)];have hlen:(Abz (max b.Zy1.length p.Zk1.length) b.Zy1).length=max b.Zy1.length p.Zk1.length:=by simp[Abz];omega
  rw[AsU (show InR r.Zb (Abz (max b.Zy1.length p.Zk1.length) b.Zy1).length by
   rw[hlen];have r1:=hs.rail.1;have r2:=hs.rail.2;exact⟨r1,by omega⟩)]
  unfold AbD;rw[hl]
 ·rw[AsX (by simpa using h6),AsX h6,Wm _ _ (by have:=hm.forks;omega),AsY];unfold XE;have hk:(r.No-1).toNat<l.length:=by omega
  by_cases h7:b.Zz1.any (Ga r)=true
  ·rw[AsX (by simpa using h7),AsU h7];rfl
  ·rw[AsU (by simpa using h7),AsX h7,Aix (by have:=hm.forks;omega),AsY,w1,AsU (show InR (r.No-1) l.length from⟨by omega,by omega⟩),AsU (by have:=hm.forks;unfold Cj maxLen Fi;omega)];simp only[AD,AsY];rw[hl]
structure FewP(p:AsH):Prop where
  few:Few p
  rails:p.Zk1.length≤4
theorem Agb(p:AsH):∃b,Ii p=some b∧(b=true→FewP p):=by
 obtain⟨x,hx,hq⟩:∃x,Ax (fun(v:Int)=>Gy p v) 0=some x∧(x=.inr (.inr false)∨(x=.inl ()∧∀j,j<p.Zk1.length→j<5→(nth p.Zk1 j).Zf1.Ze1.length≤5)):=by
  refine BF (fun v=>∃k:Nat,v=(k:Int)∧k≤5∧k≤p.Zk1.length∧∀j,j<k→(nth p.Zk1 j).Zf1.Ze1.length≤5) (fun v=>(5-v).toNat) _ ?_ ⟨0,rfl,by omega,by omega,fun j hj=>by omega⟩ (by simp);rintro v ⟨k,rfl,h1,h2,h3⟩;unfold Gy;simp only[Eb,A2];by_cases hk:k<p.Zk1.length∧k<5
  ·rw[AsU (by simp;omega),AsU (A9 hk.1)];simp only[AD,As1,CG (k:=k) (by omega)];by_cases hd:(nth p.Zk1 k).Zf1.Ze1.length≤5
   ·left;rw[AsX (by simp;omega)];refine⟨_,rfl,⟨k+1,rfl,by omega,by omega,fun j hj=>?_⟩,by omega⟩;by_cases e:j=k
    ·subst e;exact hd
    ·exact h3 j (by omega)
   ·right;rw[AsU (by simp;omega)];exact⟨_,rfl,.inl rfl⟩
  ·right;rw[AsX (by simp;omega)];exact⟨_,rfl,.inr ⟨rfl,fun j hj hj2=>h3 j (by omega)⟩⟩
 unfold Ii;rw[hx];rcases hq with rfl|⟨rfl,hall⟩
 ·exact⟨false,rfl,fun e=>by cases e⟩
 ·simp only[A2,Eb];refine⟨_,rfl,fun e=>?_⟩;simp only[Ata,Atg]at e;obtain⟨⟨a1,a2⟩,⟨b1,b2,b3,b4⟩,c1,c2,c3⟩:=e;exact⟨⟨by omega,by omega,by omega,by omega,by omega,by omega,by omega,by omega,by omega,fun k hk=>by have:=hall k hk (by omega);omega⟩,by omega⟩
theorem Ags{α:Type}{p:AsH}{b:AsO}{it:AsK}{X:Option Bool}(hX:FewP p→Short b→Small it→X=some true) :(((Ii p).bind fun y=>if(!y)then some true else(Gu b).bind fun y=>if(!y)then some true else(DE it).bind fun y=>some (!y):Option Bool).bind fun t=>if t then some true else X)=some true:=by
 obtain⟨f,hf,hq⟩:=Agb p;rw[hf,AsY];cases f
 ·rfl
 rw[AsX (by simp),AgH,AsY];by_cases hs:LW b=true
 case neg=>rw[AsU (by simpa using hs)];rfl
 rw[AsX (by simpa using hs),SK,AsY,AsY];by_cases hi:HB it=true
 case neg=>rw[AsU (by simpa using hi)]
 rw[AsX (by simpa using hi)];exact hX (hq rfl) (AfA hs) (NT hi)
end Go.Proofs.YtioapcamanmoiaaGreatDoor
namespace Go.Proofs.YtioapcamanmoiaaGreatDoor.Kc
open Go.Rv
def rangeI(x:Int):Prop:=-9223372036854775808≤x∧x≤9223372036854775807
mutual
def okV:AsP→Prop
 |.mk k n b l=>rangeI k∧rangeI n∧okVs l
def okVs:List AsP→Prop
 |[]=>True
 |x::l=>okV x∧okVs l
end
theorem okVs_all(l:List AsP):okVs l↔∀x∈l,okV x:=by
 induction l with
 |nil=>simp[okVs]
 |cons x l ih=>simp[okVs,ih]
theorem okV_eq(v:AsP):okV v↔rangeI v.Za∧rangeI v.N∧∀x∈v.L,okV x:=by
 rw[←okVs_all];cases v with
 |mk k n b l=>simp only[okV];rfl
variable{n:Int}{k:Nat}{l:List AsP}
def dig:Nat→Nat→List UInt8
 |0,_=>[]
 |k+1,u=>dig k (u/256)++[UInt8.ofNat u]
theorem HO:∀k u,(dig k u).length=k
 |0,_=>rfl
 |k+1,u=>by simp[dig,HO k]
theorem HH(u:Nat):(UInt8.ofNat u).toNat=u%256:=by simp
def magI(n:Int):Nat:=if n<0 then(-(n+1)).toNat else n.toNat
theorem AdK(h:rangeI n):magI n<9223372036854775808:=by
 unfold magI;obtain⟨h1,h2⟩:=h;split<;>omega
theorem Ahg(n:Int):((UInt64.ofInt n).toNat:Int)=n%18446744073709551616:=by rw[UInt64.ofInt,AvA];omega
theorem Ac7(x:UInt64):(~~~x).toNat=18446744073709551615-x.toNat:=by rw[UInt64.toNat_not];rfl
theorem magU(h:rangeI n):(if n<0 then(~~~(UInt64.ofInt n)).toNat else(UInt64.ofInt n).toNat)=magI n:=by
 obtain⟨h1,h2⟩:=h;unfold magI;by_cases hn:n<0
 ·rw[AsU hn,AsU hn,Ac7];have:=Ahg n;omega
 ·rw[AsX hn,AsX hn];have:=Ahg n;omega
theorem Aeb(h:rangeI n):nbI n=nb (magI n):=by
 have:=magU h;unfold nbI;by_cases hn:n<0
 ·rw[AsU hn]at this ⊢;rw[this]
 ·rw[AsX hn]at this ⊢;rw[this]
theorem Adf:∀(k u i:Nat),i<k→(dig k u)[i]?=some (UInt8.ofNat (u/256^(k-1-i)))
  |0,_,_,h=>absurd h (Atw _)
  | k + 1,u,i,h=>by
    rw[dig];by_cases hi:i<k
    · rw[As3 (by rw[HO];exact hi),Adf k (u/256) i hi,Au0]
      have:k+1-1-i=(k-1-i)+1:=by omega
      rw[this,Au8,Auq]
    · have:i=k:=by omega
      subst this;rw[As0 (by rw[HO];exact Atb _),HO];simp
theorem ZH(j:Nat):2^(8*j)=256^j:=by rw[Nat.pow_mul]
def SP(n:Int)(c:UInt8):UInt8:=if n<0 then ~~~c else c
theorem not8(c:UInt8):(~~~c).toNat=255-c.toNat:=by rw[UInt8.toNat_not];rfl
theorem AfX(h:rangeI n){i:Nat}(hk:k≤8)(hi:i<k):AgI n k i=SP n (UInt8.ofNat (magI n/256^(k-1-i))):=by
 have hm:=AdK h;have hu:=magU h;apply Au7.1;unfold AgI SP;rw[Avv,Ac6,ZH];generalize hj:k-1-i=j;have hj8:j<8:=by omega
 by_cases hn:n<0
 ·rw[AsU hn]at hu ⊢;rw[Ac7]at hu;rw[not8,HH];have hlt:=(UInt64.ofInt n).toNat_lt;generalize(UInt64.ofInt n).toNat=U at *;generalize magI n=m at *
  match j,hj8 with
  |0,_=>simp;omega
  |1,_=>simp;omega
  |2,_=>simp;omega
  |3,_=>simp;omega
  |4,_=>simp;omega
  |5,_=>simp;omega
  |6,_=>simp;omega
  |7,_=>simp;omega
 ·rw[AsX hn]at hu ⊢;rw[HH,hu]
theorem AjX(h:rangeI n):Aed n=Aef n::(dig (nb (magI n)) (magI n)).map (SP n):=by
 unfold Aed;rw[Aeb h];congr 1;refine At2 fun i=>?_
 by_cases hi:i<nb (magI n)
 ·rw[Atf,Atf,Aui hi,Adf _ _ _ hi];simp only[AtC];rw[AfX h (Ad2 _) hi]
 ·rw[AtX (by simp;omega),AtX (by simp[HO];omega)]
theorem Ao5(u:Nat)(h:u<256^8):u<256^nb u:=by
  unfold nb
  have key:∀f u,u<256^f→u<256^nbF f u:=by
    intro f
    induction f with
    |zero=>intro u h;simpa [nbF]using h
    | succ f ih=>
      intro u h;unfold nbF;split
      · rename_i e;subst e;simp
      · rename_i e
        have:=ih (u/256) (by rw[Au8]at h;exact Nat.div_lt_of_lt_mul (by rw[Auq];exact h));rw[Au8];omega
  exact key 8 u h
theorem XK(u:Nat)(h:u<256^8):nb u=0↔u=0:=by
 constructor
 ·intro e;have:=Ao5 u h;rw[e]at this;simpa using this
 ·rintro rfl;rfl
theorem Afj{n s:Nat}(hs:s≤64):AoJ (n:Int) (s:Int)=((n/2^s:Nat):Int):=by
 unfold AoJ;have:min (s:Int).toNat 64=s:=by omega
 rw[this,AvC _ (by exact Int.le_of_lt (Int.pow_pos (by decide)))]
 norm_cast
theorem AeJ(x:Nat):UInt8.ofInt (x:Int)=UInt8.ofNat x:=by
 apply Au7.1;rw[UInt8.ofInt,AvK,HH];omega
theorem V0(n:Nat)(hn:n<9223372036854775808):He (n:Int)=some (dig (nb n) n):=by
 have key:∃x,Ax (fun(v:Int×List UInt8)=>CK (n:Int) v.1 v.2) (56,[])=some x∧x=dig (nb n) n :=
  Bm (f:=fun(v:Int×List UInt8)=>CK (n:Int) v.1 v.2) 8
   (fun j v=>v=(56-8*(j:Int),dig (nb (n/256^(8-j))) (n/256^(8-j)))) (fun x=>x=dig (nb n) n) (by omega)
   (fun j v hj hv=>by
    subst hv;refine⟨_,?_,rfl⟩;show CK (n:Int) (56-8*(j:Int)) _=_;unfold CK;have e0:(56-8*(j:Int))=((8*(7-j):Nat):Int):=by omega
    have e1:8-j=(8-(j+1))+1:=by omega
    have e2:w64 (56-8*(j:Int)-8)=56-8*((j+1:Nat):Int):=by rw[AE (by omega)];omega
    have e3:7-j=8-(j+1):=by omega
    rw[AsU (by simp;omega),e2,e0,AsU (by unfold Cb;omega),Afj (by omega),ZH,e3,AeJ,e1,Au8,←Au0];generalize hx:n/256^(8-(j+1))=x;have hxl:x<256^8:=by rw[←hx];exact Nat.lt_of_le_of_lt (Nat.div_le_self _ _) (AuG hn (by decide))
    simp only[lt1]
    have hc:(if(UInt8.ofNat x != 0)then some true else some (decide (((dig (nb (x/256)) (x/256)).length:Int)>0)):Option Bool)=some (decide (x≠0)):=by
     rw[HO];by_cases hb:UInt8.ofNat x=0
     ·have hb':x%256=0:=by rw[←HH,hb];rfl
      rw[AsX (by simp[hb])];congr 1;by_cases h0:x=0
      ·subst h0;rfl
      ·have h1:x/256≠0:=by omega
       have:nb (x/256)≠0:=fun e=>h1 ((XK _ (by omega)).1 e)
       simp[h0];omega
     ·have h0:x≠0:=fun e=>hb (by subst e;rfl)
      rw[AsU (by simpa using hb)];simp[h0]
    refine(A4 (a:=dig (nb x) x) ?_).trans rfl;refine(A4 hc).trans ?_;by_cases h0:x=0
    ·subst h0;rw[AsX (by simp)]
    ·rw[AsU (by simpa using h0),AsU (GK (by rw[HO];have:=Ad2 (x/256);omega)),Ac1 x h0 hxl];rfl)
   (fun v hv=>by
    subst hv;refine⟨_,?_,rfl⟩;show CK (n:Int) (56-8*((8:Nat):Int)) _=_;unfold CK;rw[AsX (by decide)]
    simp) (v0:=(56,[])) (by
     have:n/256^(8-0)=0:=Avr (AuG hn (by decide));rw[this];rfl)
 obtain⟨x,hx,rfl⟩:=key;unfold He;exact(RV _ _ _ rfl).trans (A4 (A4 hx))
theorem Aiu(h:rangeI n):Aef n=if n<0 then UInt8.ofInt (31-(nb (magI n):Int))else UInt8.ofInt (32+(nb (magI n):Int)):=by
 unfold Aef;rw[Aeb h]
theorem AaJ(h:rangeI n):H6 n=some (Aed n):=by
 have hm:=AdK h;have h8:=Ad2 (magI n);obtain⟨r1,r2⟩:=id h;unfold H6;rw[AjX h,Aiu h];by_cases hn:n<0
 ·have e:w64 (0-w64 (n+1))=((magI n:Nat):Int):=by
   unfold magI;rw[AsU hn,AE (x:=n+1) (by omega),AE (by omega)];omega
  rw[AsX (by simp;omega),e,V0 _ hm,AsU hn];refine(A4 rfl).trans ?_;rw[HO,AE (by omega)];refine(RV _ _ _ rfl).trans ?_;generalize hd:dig (nb (magI n)) (magI n)=D;have hdl:D.length≤8:=by rw[←hd,HO];exact h8
  have key:∃x,Ax (fun(v:Int×List UInt8)=>Cv D v.1 v.2) (0,[UInt8.ofInt (31-(nb (magI n):Int))])=some x∧x=UInt8.ofInt (31-(nb (magI n):Int))::D.map (SP n) :=
   Bm (f:=fun(v:Int×List UInt8)=>Cv D v.1 v.2) D.length
    (fun j v=>v=((j:Int),UInt8.ofInt (31-(nb (magI n):Int))::(D.take j).map (SP n))) _ (by omega)
    (fun j v hj hv=>by
     subst hv;refine⟨_,?_,rfl⟩;show Cv D (j:Int) _=_;unfold Cv;have r:InR (j:Int) D.length:=⟨by omega,by omega⟩;rw[AsU (by simp;omega),AsU r,AsU (GK (by simp;omega)),JK (by omega)];simp only[lt1,As1];congr 3;rw[Aty hj,Auf,HL hj]
     have:(255:UInt8)-D[j]=SP n D[j]:=by
      unfold SP;rw[AsU hn];apply Au7.1;rw[not8,UInt8.toNat_sub];have:=D[j].toNat_lt;have:(255:UInt8).toNat=255:=rfl;omega
     rw[this];rfl)
    (fun v hv=>by
     subst hv;refine⟨_,?_,rfl⟩;show Cv D (D.length:Int) _=_;unfold Cv;rw[AsX (by simp),AtP]) (v0:=(0,[_])) rfl
  obtain⟨x,hx,rfl⟩:=key;exact A4 (A4 hx)
 ·have e:n=((magI n:Nat):Int):=by
   unfold magI;rw[AsX hn];omega
  rw[AsU (by simp;omega),AsX hn]
  conv=>lhs;rw[e]
  rw[V0 _ hm];refine(A4 rfl).trans ?_;rw[HO,AE (by omega)];refine(RV _ _ _ rfl).trans ?_;rw[AsU (GK (by simp;omega))];simp only[lt1]
  have:(dig (nb (magI n)) (magI n)).map (SP n)=dig (nb (magI n)) (magI n):=by
   refine(Auv fun c _=>?_).trans (List.map_id _);unfold SP;rw[AsX hn];rfl
  rw[this];rfl
theorem AhH(v:AsP):IE v=if v.Za=1 then(0,v.B.length==0&&v.L.length==0)else if v.Za=2 then(0,v.N==0&&v.L.length==0)else if v.Za=3 then(if v.N=0∧v.B.length=0 then RL 0 v.L else(0,false))else(0,false):=by
 cases v with
 |mk k n b l=>unfold IE;rfl
theorem Yq:∀(l:List AsP) (d:Int),(RL d l).2=l.all fun x=>(IE x).2
  |[],d=>by rw[SE];rfl
  | x::l,d=>by
    rw[PU,Avw];cases h:(IE x).2
    · rw[AsX (by simp)];rfl
    · rw[AsU rfl,Yq l];rfl
theorem Ago{p:AsP→Bool}(h:k<l.length):(l.drop k).all p=(p (nth l k)&&(l.drop (k+1)).all p):=by
 rw[AtB h,Avw,HL h]
theorem Wj(v:AsP)(rec_:AsP→Option Bool)(hr:∀x∈v.L,rec_ x=some (IE x).2)(hs:v.L.length≤1099511627776) :∃x,Ax (fun(i:Int)=>Fp v rec_ i) 0=some x∧((x=.inl ()∧(v.L.all fun x=>(IE x).2)=true)∨(x=.inr (.inr false)∧(v.L.all fun x=>(IE x).2)=false)):=by
 refine BF (f:=fun(i:Int)=>Fp v rec_ i) (fun i=>∃k:Nat,i=(k:Int)∧k≤v.L.length∧(v.L.all fun x=>(IE x).2)=((v.L.drop k).all fun x=>(IE x).2)) (fun i=>v.L.length-i.toNat) _ ?_ ⟨0,rfl,Atp _,rfl⟩ (by omega);rintro _ ⟨k,rfl,hk,he⟩;show _∨_;unfold Fp;by_cases h:k<v.L.length
 ·rw[AsU (by simp;omega),AsU (show InR (k:Int) v.L.length from⟨by omega,by omega⟩),As1,hr _ (by rw[HL h];exact AtL h)];rw[Ago h]at he;cases hx:(IE (nth v.L k)).2
  ·right;rw[hx]at he;exact⟨_,rfl,.inr ⟨rfl,he⟩⟩
  ·left;rw[hx]at he;refine⟨_,(A4 rfl).trans ?_,⟨k+1,rfl,h,by simpa using he⟩,?_⟩
   ·rw[AsX (by simp),JK (by omega)]
   ·simp only[As1];omega
 ·right;rw[AsX (by simp;omega)];have:k=v.L.length:=by omega
  subst this;exact⟨_,rfl,.inl ⟨rfl,by rw[he,Aub];rfl⟩⟩
theorem ZO:∀(n:Nat) (v:AsP),szV v<n→szV v≤1099511627776→Gm n v=some (IE v).2
  |0,v,h,_=>absurd h (Atw _)
  | n + 1,v,h,hs=>by
    show Hq (Gm n) v=_;have hsz:=szV_eq v;have hlen:=Jt v.L;obtain⟨x,hx,hq⟩:=Wj v (Gm n) (fun y hy=>ZO n y (by have:=EC hy;omega) (by have:=EC hy;omega)) (by omega);unfold Hq;have hb0:((v.B.length:Int)>0)=(v.B.length≠0):=by apply propext;omega
    have hl0:((v.L.length:Int)>0)=(v.L.length≠0):=by apply propext;omega
    have hc:=(show(if(v.Za != 1)then
    if(v.N != 0)then
      some true
    else
      if (v.Za != 2)then
        if(decide ((v.B.length:Int)>0))then
          some true
        else
          if(v.Za != 3)then
            some ((decide ((v.L.length:Int)>0)))
          else
            some false
      else
        if(v.Za != 3)then
          some ((decide ((v.L.length:Int)>0)))
        else
          some false
  else
    if (v.Za != 2)then
      if(decide ((v.B.length:Int)>0))then
        some true
      else
        if(v.Za != 3)then
          some ((decide ((v.L.length:Int)>0)))
        else
          some false
    else
      if(v.Za != 3)then
        some ((decide ((v.L.length:Int)>0)))
      else
        some false:Option (Bool))=some (decide ((v.Za≠1∧v.N≠0)∨(v.Za≠2∧v.B.length≠0)∨(v.Za≠3∧v.L.length≠0))) by
      simp only[hb0,hl0];by_cases k1:v.Za=1
      · have k2:v.Za≠2:=by omega
        have k3:v.Za≠3:=by omega
        by_cases hb:v.B.length=0<;>by_cases hl:v.L.length=0<;>simp[k1,hb,hl]
      · by_cases k2:v.Za=2
        · have k3:v.Za≠3:=by omega
          by_cases hn:v.N=0<;>by_cases hl:v.L.length=0<;>simp[k2,hn,hl]
        · by_cases k3:v.Za=3
          · by_cases hn:v.N=0<;>by_cases hb:v.B.length=0<;>simp[k3,hn,hb]
          · by_cases hn:v.N=0<;>by_cases hb:v.B.length=0<;>by_cases hl:v.L.length=0<;>simp[k1,k2,k3,hn,hb,hl])
    refine(A4 hc).trans ?_;rw[AhH];by_cases hbad:(v.Za≠1∧v.N≠0)∨(v.Za≠2∧v.B.length≠0)∨(v.Za≠3∧v.L.length≠0)
    · rw[AsU (by simpa using hbad)]
      congr 1;by_cases k1:v.Za=1
      · have:v.B.length≠0∨v.L.length≠0:=by omega
        rw[AsU k1];rcases this with h|h<;>simp[h]
      · rw[AsX k1]
        by_cases k2:v.Za=2
        · have:v.N≠0∨v.L.length≠0:=by omega
          rw[AsU k2];rcases this with h|h<;>simp[h]
        · rw[AsX k2]
          by_cases k3:v.Za=3
          · rw[AsU k3,AsX (by omega)]
          · rw[AsX k3]
    · rw[AsX (by simpa using hbad)]
      by_cases k1:v.Za=1
      · have hl:v.L.length=0:=by omega
        have hb:v.B.length=0:=by omega
        have hL:v.L=[]:=Atl.1 hl;rcases hq with⟨rfl,_⟩|⟨_,e⟩
        · refine(A4 (a:=.inl ()) ((A4 hx).trans rfl)).trans ?_
          simp[k1,hl,hb]
        · rw[hL]at e;cases e
      · by_cases k2:v.Za=2
        · have hl:v.L.length=0:=by omega
          have hn:v.N=0:=by omega
          have hL:v.L=[]:=Atl.1 hl;rcases hq with⟨rfl,_⟩|⟨_,e⟩
          · refine(A4 (a:=.inl ()) ((A4 hx).trans rfl)).trans ?_
            simp[k2,hl,hn]
          · rw[hL]at e;cases e
        · by_cases k3:v.Za=3
          · have hn:v.N=0:=by omega
            have hb:v.B.length=0:=by omega
            conv=>rhs;rw[AsX k1,AsX k2,AsU k3,AsU (show v.N=0∧v.B.length=0 from⟨hn,hb⟩),Yq]
            rcases hq with⟨rfl,e⟩|⟨rfl,e⟩
            · refine(A4 (a:=.inl ()) ((A4 hx).trans rfl)).trans ?_
              rw[e];simp[k3]
            · rw[e]
              exact(A4 (a:=.inr false) ((A4 hx).trans rfl)).trans rfl
          · have hl:v.L.length=0:=by omega
            have hL:v.L=[]:=Atl.1 hl;rcases hq with⟨rfl,_⟩|⟨_,e⟩
            · refine(A4 (a:=.inl ()) ((A4 hx).trans rfl)).trans ?_
              simp[k1,k2,k3]
            · rw[hL]at e;cases e
theorem Ado(v:AsP)(h:szV v≤100000000000):P2 v=some (IE v).2:=ZO _ v (by omega) (by omega)
mutual
def KY:AsP→Int
 |.mk k n b l=>if k=3 then HW 0 l+1 else HW 0 l
def HW(d:Int):List AsP→Int
 |[]=>d
 |x::l=>HW (J6 d (KY x)) l
end
theorem Aey(v:AsP):KY v=if v.Za=3 then HW 0 v.L+1 else HW 0 v.L:=by
 cases v with
 |mk k n b l=>rw[KY];rfl
mutual
theorem Ae3:∀v:AsP,0≤KY v∧KY v≤szV v
  | .mk k n b l=>by
    have h:=SC 0 l;rw[KY,szV];split<;>omega
theorem SC:∀(d:Int) (l:List AsP),0≤d→0≤HW d l∧HW d l≤max d (szVs l)
  |d,[]=>by intro h;rw[HW];omega
  | d,x::l=>by
    intro h;have h1:=Ae3 x;have hm:0≤J6 d (KY x)∧J6 d (KY x)≤max d (szV x):=by unfold J6;split<;>omega
    have h2:=SC (J6 d (KY x)) l hm.1;rw[HW,szVs];omega
end
theorem Abl{d:Int}(h:k<l.length):HW d (l.drop k)=HW (J6 d (KY (nth l k))) (l.drop (k+1)):=by
 rw[AtB h,HW,HL h]
theorem AcP:∀(n:Nat) (v:AsP),szV v<n→szV v≤1099511627776→Df n v=some (KY v)
  |0,v,h,_=>absurd h (Atw _)
  | n + 1,v,h,hs=>by
    show F9 (Df n) v=_;have hsz:=szV_eq v;have hlen:=Jt v.L;have hr:∀x∈v.L,Df n x=some (KY x):=fun y hy=>AcP n y (by have:=EC hy;omega) (by have:=EC hy;omega)
    have key:∃x,Ax (fun(s:Int×Int)=>DU v (Df n) s.1 s.2) (0,0)=some x∧x=HW 0 v.L:=by
      refine BF (f:=fun(s:Int×Int)=>DU v (Df n) s.1 s.2) (fun s=>∃k:Nat,s.2=(k:Int)∧k≤v.L.length∧HW 0 v.L=HW s.1 (v.L.drop k)) (fun s=>v.L.length-s.2.toNat) _ ?_ ⟨0,rfl,Atp _,rfl⟩ (by omega);rintro⟨d,t⟩ ⟨k,ht,hk,he⟩;simp only at ht he;subst ht;show _∨_;simp only;unfold DU;by_cases h:k<v.L.length
      · left
        rw[AsU (by simp;omega),AsU (show InR (k:Int) v.L.length from⟨by omega,by omega⟩),As1,hr _ (by rw[HL h];exact AtL h),JK (by omega)];rw[Abl h]at he;refine⟨_,rfl,⟨k+1,rfl,h,he⟩,?_⟩;simp only[As1];omega
      · right
        rw[AsX (by simp;omega)];have:k=v.L.length:=by omega
        subst this;refine⟨_,rfl,?_⟩;rw[he,Aub,HW]
    obtain⟨x,hx,rfl⟩:=key;unfold F9;refine(A4 (A4 hx)).trans ?_;have hn:=SC 0 v.L (by omega);rw[Aey];by_cases k3:v.Za=3
    · rw[AsU (show(v.Za==3)=true by simp[k3]),AsU k3,AE (by omega)]
    · rw[AsX (show ¬(v.Za==3)=true by simp[k3]),AsX k3]
theorem AgG(v:AsP)(h:szV v≤100000000000):Lu v=some (KY v):=AcP _ v (by omega) (by omega)
mutual
theorem YG:∀v:AsP,(IE v).2=true→KY v=(IE v).1
  | .mk k n b l=>by
    intro h;rw[IE]at h ⊢;rw[KY];by_cases k1:k=1
    · rw[AsU k1]at h ⊢
      have hl:l.length=0:=by simp at h;simp[h.2]
      have:l=[]:=Atl.1 hl;subst this;rw[AsX (by omega),HW]
    · rw[AsX k1]at h ⊢
      by_cases k2:k=2
      · rw[AsU k2]at h ⊢
        have hl:l.length=0:=by simp at h;simp[h.2]
        have:l=[]:=Atl.1 hl;subst this;rw[AsX (by omega),HW]
      · rw[AsX k2]at h ⊢
        by_cases k3:k=3
        · rw[AsU k3]at h ⊢
          rw[AsU k3];by_cases hc:n=0∧b.length=0
          · rw[AsU hc]at h ⊢
            exact UR l 0 h
          · rw[AsX hc]at h;cases h
        · rw[AsX k3]at h;cases h
theorem UR:∀(l:List AsP) (d:Int),(RL d l).2=true→HW d l+1=(RL d l).1
  |[],d=>by intro _;rw[SE,HW]
  | x :: l,d=>by
    intro h;rw[PU]at h ⊢;by_cases hx:(IE x).2=true
    · rw[AsU hx]at h ⊢
      rw[HW,YG x hx];exact UR l _ h
    · rw[AsX hx]at h;cases h
end
theorem Aec{b:List UInt8}(h:k<b.length):Mp (b.take (k+1))=if nth b k=0 then Mp (b.take k)++[0,255]else Mp (b.take k)++[nth b k]:=by
 rw[Aty h,YE,HL h,Mp];split<;>simp[Mp, *]
theorem AaS(h:k<l.length):NE (l.take (k+1))=NE (l.take k)++VP (nth l k):=by
 rw[Aty h,Tu,HL h,NE,NE,At1]
theorem Tf(b:List UInt8)(k:Nat):(Mp (b.take k)).length≤2*b.length:=by
 have:=LZ (b.take k);have h2:(b.take k).length≤b.length:=by simp;omega
 omega
theorem WA(v:AsP)(hs:v.B.length≤1099511627776):∃x,Ax (fun(s:Int×List UInt8)=>Di v s.1 s.2) (0,[48])=some x∧x=48::Mp v.B:=by
 refine Bm (f:=fun(s:Int×List UInt8)=>Di v s.1 s.2) v.B.length (fun k s=>s=((k:Int),48::Mp (v.B.take k))) _ (by omega) ?_ ?_ (v0:=(0,[48])) rfl
 ·rintro k s hk rfl;have hl:=Tf v.B k;have r:InR (k:Int) v.B.length:=⟨by omega,by omega⟩;refine⟨_,?_,rfl⟩;show Di v (k:Int) _=_;unfold Di;rw[AsU (by simp;omega),JK (by omega),Aec hk];refine(A4 (a:=48::(if nth v.B k=0 then Mp (v.B.take k)++[0,255]else Mp (v.B.take k)++[nth v.B k])) ?_).trans rfl;rw[AsU r,AsU (GK (by simp only[Ati];omega))];simp only[lt1,As1];rw[AsU r];by_cases h0:nth v.B k=0
  ·rw[AsU (by simpa using h0),AsU (GK (by simp only[Ate,Ati,Atr];omega)),AsU h0,h0];simp
  ·rw[AsX (by simpa using h0),AsX h0];simp
 ·rintro s rfl;refine⟨_,?_,rfl⟩;show Di v (v.B.length:Int) _=_;unfold Di;rw[AsX (by simp),AtP]
theorem ZW(v:AsP)(rec_:AsP→Option (List UInt8))(hr:∀x∈v.L,rec_ x=some (VP x))(hs:szV v≤1099511627776):∃x,Ax (fun(s:Int×List UInt8)=>Db v rec_ s.1 s.2) (0,[64])=some x∧x=64::NE v.L:=by
 have hsz:=szV_eq v;have hlen:=Jt v.L;refine Bm (f:=fun(s:Int×List UInt8)=>Db v rec_ s.1 s.2) v.L.length (fun k s=>s=((k:Int),64::NE (v.L.take k))) _ (by omega) ?_ ?_ (v0:=(0,[64])) (by simp[NE])
 ·rintro k s hk rfl;have hl:=AdQ v.L k;have hm:nth v.L k∈v.L:=by rw[HL hk];exact AtL hk
  have h1:=encV_len (nth v.L k);have h2:=EC hm;refine⟨_,?_,rfl⟩;show Db v rec_ (k:Int) _=_;unfold Db;rw[AsU (by simp;omega),JK (by omega),AaS hk,AsU (show InR (k:Int) v.L.length from⟨by omega,by omega⟩),As1,hr _ hm];refine(A4 rfl).trans ?_;rw[AsU (GK (by simp only[Ati];omega))];simp[lt1]
 ·rintro s rfl;refine⟨_,?_,rfl⟩;show Db v rec_ (v.L.length:Int) _=_;unfold Db;rw[AsX (by simp),AtP]
theorem YV:∀(n:Nat) (v:AsP),szV v<n→szV v≤100000000000→okV v→Gj n v=some (VP v)
  |0,v,h,_,_=>absurd h (Atw _)
  | n + 1,v,h,hs,hok=>by
    show Hk (Gj n) v=_;have hsz:=szV_eq v;have hlen:=Jt v.L;obtain⟨_,hN,hL⟩:=(okV_eq v).1 hok;have he:=LZ v.B;have hl:=KC v.L;unfold Hk;rw[Ab0];by_cases h1:v.Za=1
    · rw[AsU (show(v.Za==1)=true by simp[h1]),AsU h1]
      exact A4 (AaJ hN)
    · rw[AsX (show ¬(v.Za==1)=true by simp[h1]),AsX h1]
      refine(RV _ _ _ rfl).trans ?_;by_cases h2:v.Za=2
      · obtain⟨x,hx,rfl⟩:=WA v (by omega)
        rw[AsU (show(v.Za==2)=true by simp[h2]),AsU h2];refine(A4 (a:=.inr (48::(Mp v.B++[0,0]))) ?_).trans rfl;rw[AsU (GK (by simp))];refine(RV _ _ _ rfl).trans ?_;refine(A4 (A4 hx)).trans ?_;rw[AsU (GK (by simp only[Ati];omega))];simp[lt1]
      · obtain⟨x,hx,rfl⟩:=ZW v (Gj n) (fun y hy=>YV n y (by have:=EC hy;omega) (by have:=EC hy;omega) (hL y hy)) (by omega)
        rw[AsX (show ¬(v.Za==2)=true by simp[h2]),AsX h2];refine(A4 (a:=(.inl ():Unit⊕List UInt8)) rfl).trans ?_;simp only;rw[AsU (GK (by simp))];refine(RV _ _ _ rfl).trans ?_;refine(A4 (A4 hx)).trans ?_;rw[AsU (GK (by simp only[Ati];omega))];simp[lt1]
theorem Uk(v:AsP)(h:szV v≤100000000000)(hok:okV v):LA v=some (VP v):=YV _ v (by omega) (by omega) hok
theorem AcF(v:AsP)(h:szV v≤100000000000)(hok:okV v):Ko v=some (Enc v).2:=by
 unfold Ko Enc;refine(A4 (Ado v h)).trans ?_;cases h1:(IE v).2
 ·rw[AsU (by simp),AsX (by simp)]
 ·rw[AsX (by simp),AsU rfl,AgG v h,YG v h1];by_cases h2:(IE v).1>16
  ·rw[AsU h2];refine(A4 (a:=true) ((A4 rfl).trans ?_)).trans rfl;rw[AsU (by simpa using h2)]
  ·rw[AsX h2,Uk v h hok];by_cases h3:(VP v).length>65536
   ·rw[AsU h3];refine(A4 (a:=true) ((A4 rfl).trans ?_)).trans rfl;rw[AsX (by simpa using h2)];refine(A4 rfl).trans ?_;simp;omega
   ·rw[AsX h3];refine(A4 (a:=false) ((A4 rfl).trans ?_)).trans rfl;rw[AsX (by simpa using h2)];refine(A4 rfl).trans ?_;simp;omega
theorem encodeR_eq(v:AsP)(h:szV v≤100000000000)(hok:okV v):GZ v=some (Enc v):=by
 unfold GZ;refine(A4 (AcF v h hok)).trans ?_;rw[Uk v h hok];unfold Enc;by_cases h1:(IE v).2=true
 ·rw[AsU h1];by_cases h2:(IE v).1>16
  ·rw[AsU h2];rfl
  ·rw[AsX h2];by_cases h3:(VP v).length>65536
   ·rw[AsU h3];rfl
   ·rw[AsX h3];rfl
 ·rw[AsX h1];rfl
mutual
def AiL:AsP→AsP→Bool
 |.mk k n b l,w=>k==w.Za&&n==w.N&&b==w.B&&Xr l w.L
def Xr:List AsP→List AsP→Bool
 |[],[]=>true
 |x::l,y::m=>AiL x y&&Xr l m
 |[],_::_=>false
 |_::_,[]=>false
end
mutual
theorem AcK:∀v w:AsP,AiL v w=true↔v=w
  | .mk k n b l,.mk k' n' b' l'=>by
    rw[AiL];simp only[Ata,AtW];rw[V3 l _];show((k=k'∧n=n')∧b=b')∧l=l'↔_;constructor
    · rintro⟨⟨⟨rfl,rfl⟩,rfl⟩,rfl⟩;rfl
    · intro h;cases h;exact⟨⟨⟨rfl,rfl⟩,rfl⟩,rfl⟩
theorem V3:∀l m:List AsP,Xr l m=true↔l=m
  |[],[]=>by simp[Xr]
  |[],_::_=>by simp[Xr]
  |_::_,[]=>by simp[Xr]
  | x::l,y::m=>by
    rw[Xr,Ata,AcK x y,V3 l m];simp
end
end Go.Proofs.YtioapcamanmoiaaGreatDoor.Kc
namespace Go.Proofs.YtioapcamanmoiaaGreatDoor
open Go.Rv
set_option maxRecDepth 8000
set_option maxHeartbeats 1000000
theorem UF(tag b:List UInt8)(h1:tag.length≤200)(h2:b.length≤100000):Hb tag b=C0 tag b:=by
 have e1:Mo (tag.length:Int) 255=(tag.length:Int):=by unfold Mo;omega
 have e2:tag.take (Mo (tag.length:Int) 255).toNat=tag:=by rw[e1,As1,AtP]
 have hin:InB (Mo (tag.length:Int) 255) tag.length:=by rw[e1];unfold InB;omega
 unfold C0 Hb K2;rw[AsU hin,AsU hin,e2];simp only[AD];rw[Np [[UInt8.ofInt (tag.length:Int)],tag,b] (by simp) (by simp;omega),AsU (by unfold Cj maxLen Fi;simp;omega),AsU (by unfold Cj maxLen Fi;simp;omega)];simp only[AsY];rw[Aj2 _ (by simp;omega)];simp
theorem AdJ(d:Arr UInt8 32):Iz d=Dk d:=by
 have hl:(d.l.take 8).length=8:=by rw[AuW,d.h];rfl
 have hf:(fun(v:UInt64×Int)=>FW d v.1 v.2)=fun(v:UInt64×Int)=>B6 d v.1 v.2:=by
  funext v;obtain⟨n,t⟩:=v;simp only;unfold FW B6;rw[hl];by_cases h1:t<8
  ·rw[AsU (As9 h1),AsU (As9 (by omega))];by_cases h2:0≤t
   ·rw[AsU (show InR t 32 from⟨h2,by omega⟩),AsU (show InR t 8 from⟨h2,by omega⟩)]
    have e:nth (d.l.take 8) t.toNat=d.get t.toNat:=by
     unfold Arr.get;simp only[nth,As8,Ato];rw[AsU (by omega)]
    simp only[AD,e]
   ·rw[AsX (fun q:InR t 32=>h2 q.1),AsX (fun q:InR t 8=>h2 q.1)]
  ·rw[AsX (by simpa using h1),AsX (by simp;omega)]
 unfold Iz Dk;rw[hf]
theorem UN(n:UInt64):Ie n=some (Gl n):=by
 obtain⟨x,hx,rfl⟩:∃x,Ax (fun(v:Int×List UInt8)=>Fz n v.1 v.2) (56,[])=some x∧x=Gl n:=by
  refine Bm 8 (fun k v=>v=(56-8*(k:Int),(List.range k).map (Yl n))) _ (by omega) ?_ ?_ rfl
  ·rintro k v hk rfl;refine⟨_,?_,rfl⟩;simp only;unfold Fz;rw[AsU (As9 (by omega)),AsU (by unfold Cb;omega),AsU (by unfold Cj maxLen Fi;simp;omega)];simp only[AD];rw[AE (by omega),show(56-8*(k:Int)).toNat=56-8*k by omega,Aup,Auf];congr 3;omega
  ·rintro v rfl;refine⟨_,?_,rfl⟩;simp only;unfold Fz;rw[AsX (by decide)];rfl
 unfold Ie;rw[hx];rfl
theorem Nv(n:UInt64)(l:List UInt8)(h:l.length≤200000):Ax (fun(v:Int×List UInt8)=>BT n v.1 v.2) (0,l)=some (l++Gl n):=by
 obtain⟨x,hx,rfl⟩:∃x,Ax (fun(v:Int×List UInt8)=>BT n v.1 v.2) (0,l)=some x∧x=l++Gl n:=by
  refine Bm 8 (fun k v=>v=((k:Int),l++(List.range k).map (Yl n))) _ (by omega) ?_ ?_ (by simp)
  ·rintro k v hk rfl;refine⟨_,?_,rfl⟩;have e1:w64 (56-w64 (8*(k:Int)))=((56-8*k:Nat):Int):=by rw[AE (x:=8*(k:Int)) (by omega),AE (by omega)];omega
   simp only;unfold BT;rw[AsU (As9 (by omega)),e1,AsU (by unfold Cb;omega),AsU (GK (by simp;omega))];simp only[AD,As1];rw[CG (by omega),Aup,Auf,AtU];rfl
  ·rintro v rfl;refine⟨_,?_,rfl⟩;simp only;unfold BT;rw[AsX (by decide)];rfl
 exact hx
theorem Abw(msg:List UInt8)(a b:UInt64)(h:msg.length≤70000):Ef msg [a,b]=some (Gl a++Gl b++msg):=by
  have hw:∀n,(Gl n).length=8:=fun n=>by simp[Gl]
  have hl:Ax (fun(v:Int×List UInt8)=>BH [a,b] v.1 v.2) (0,[])=some (Gl a++Gl b):=by
    refine NX 2 (fun(v:Int×List UInt8)=>BH [a,b] v.1 v.2) (fun k s=>(k,s)) (fun k=>match k with|0=>[]|1=>Gl a|_=>Gl a++Gl b) id (by omega) (fun k hk=>?_) ?_
    · match k,hk with
      | 0,_=>
        simp only;unfold BH;rw[AsU (As9 (by simp)),AsU (A9 (by simp))];simp only[AD];rw[show nth [a,b] ((0:Nat):Int).toNat=a from rfl,Nv _ _ (by simp)];rfl
      | 1,_=>
        simp only;unfold BH;rw[AsU (As9 (by simp)),AsU (A9 (by simp))];simp only[AD];rw[show nth [a,b] ((1:Nat):Int).toNat=b from rfl,Nv _ _ (by rw[hw];omega)];rfl
      |k+2,h=>omega
    · simp only
      unfold BH;rw[AsX (by simp)];rfl
  unfold Ef
  have e1:w64 (w64 (8*(([a,b]:List UInt64).length:Int))+(msg.length:Int))=((16+msg.length:Nat):Int):=by
    show w64 (w64 16+(msg.length:Int))=_;rw[AE (x:=16) (by omega),AE (by omega)];omega
  rw[e1,AsU (by unfold Mk maxLen Fi;omega)];simp only[AD,List.replicate_zero];rw[hl];simp only[AsY];rw[AsU (GK (by simp only[Ate,hw];omega))]
theorem US(r p:UInt64)(msg:List UInt8)(h:msg.length≤70000):FJ r p msg=CQ r p msg:=by
 have hw:∀n,(Gl n).length=8:=fun n=>by simp[Gl]
 unfold FJ CQ;rw[UN,AsY,UN,AsY,Abw msg r p h,AsY];rw[AsU (by rw[hw,hw];unfold Cj maxLen Fi;omega)];simp only[AD];rw[AsU (GK (by simp only[Ate,hw];omega)),UF _ _ (by simp) (by simp only[Ate,hw];omega)];congr 1;funext d;rw[AdJ]
theorem Yw(b n:UInt64):∃r,Jk b n=some r∧FQ b n=some r∧r.toNat<PN:=by
 obtain⟨r,h1,h2⟩:=TC b n;obtain⟨s,h3,h4⟩:=AbX b n;have e:s=r:=AkE (h4.trans h2.symm);subst e;exact⟨s,h3,h1,by rw[h4];exact AuJ _ (by decide)⟩
theorem AbQ(p:UInt64)(msg:List UInt8)(s:AsL):Ih p msg s=E2 p msg s:=by
 obtain⟨b,hb1,hb2⟩:=Uc p;unfold Ih E2;rw[hb1,hb2];simp only[A2,Ib];by_cases hl:(decide ((msg.length:Int)>65536)||(decide (s.C≥1152921504606845399)||(decide (s.S≥1152921504606845399)||!b)))=true
 ·rw[AsU hl,AsU hl]
 rw[AsX hl,AsX hl]
 have hl':msg.length≤70000:=by
  simp only[Atv,not_or,Atg]at hl;omega
 obtain⟨x,x1,x2,x3⟩:=Yw 4 s.S;obtain⟨y,y1,y2,y3⟩:=Yw p (1152921504606845399-s.C);obtain⟨m,m1,m2⟩:=L8 x y;obtain⟨t,t1,t2⟩:=TR x y x3;have e:t=m:=AkE (t2.trans m2.symm);subst e;unfold Ew;rw[x1,x2,y1,y2];simp only[AsY];rw[t1,m1];simp only[AsY];rw[US _ _ _ hl']
set_option maxRecDepth 100000
def exQ:AsH:=r14_Example.getD default
def Alj:AsK:={ Za:=8,Ref:={ Zb:=0,No:=0 },Zn1:=0,Zb1:=0,Zc:=0,Zo1:=0,Zw:=3,To:=0,Code:=1,Zp1:=0,Zq1:=0,Zr1:=0,Zs1:=0,Zt1:=[],Zu1:=[] }
def Asj:AsK:={ Za:=8,Ref:={ Zb:=0,No:=0 },Zn1:=0,Zb1:=0,Zc:=0,Zo1:=0,Zw:=3,To:=0,Code:=2,Zp1:=0,Zq1:=0,Zr1:=0,Zs1:=0,Zt1:=[],Zu1:=[] }
def Aq0:AsK:={ Za:=14,Ref:={ Zb:=0,No:=1 },Zn1:=0,Zb1:=0,Zc:=0,Zo1:=0,Zw:=0,To:=0,Code:=0,Zp1:=0,Zq1:=0,Zr1:=0,Zs1:=0,Zt1:=[],Zu1:=[] }
def bk0:AsO:={ Zy1:=[],Zz1:=[] }
def Ajf:AsM:={ Zb:=0,No:=1,Zv1:=⟨[(0:UInt8),0,0,0,0,0,0,0,0,0,0,0,0,0,0,0,0,0,0,0,0,0,0,0,0,0,0,0,0,0,0,0],rfl⟩,Zw1:=5,Zx1:=Alj,Sig:={ C:=132576837295297174,S:=235879338771529970 } }
def Aqf:AsM:={ Zb:=0,No:=1,Zv1:=⟨[(0:UInt8),0,0,0,0,0,0,0,0,0,0,0,0,0,0,0,0,0,0,0,0,0,0,0,0,0,0,0,0,0,0,0],rfl⟩,Zw1:=5,Zx1:=Asj,Sig:={ C:=1010642900596539425,S:=208674642754336471 } }
def ArJ:AsM:={ Zb:=0,No:=2,Zv1:=⟨[(20:UInt8),74,221,126,247,131,164,99,193,192,56,34,114,40,146,82,204,54,168,83,74,158,104,72,195,63,51,126,164,162,16,232],rfl⟩,Zw1:=6,Zx1:=Aq0,Sig:={ C:=531156149537135704,S:=378193558781781181 } }
def AqN:AsM:={ Zb:=0,No:=0,Zv1:=(Arr.rep 32 (0:UInt8)),Zw1:=0,Zx1:={ Za:=0,Ref:={ Zb:=0,No:=0 },Zn1:=0,Zb1:=0,Zc:=0,Zo1:=0,Zw:=0,To:=0,Code:=0,Zp1:=0,Zq1:=0,Zr1:=0,Zs1:=0,Zt1:=([]:List UInt8),Zu1:=[] },Sig:={ C:=(0:UInt64),S:=(0:UInt64) } }
def bk1:AsO:={ Zy1:=[[Ajf],[]],Zz1:=[] }
def bk2:AsO:={ Zy1:=[[Ajf],[]],Zz1:=[{ A:=Ajf,B:=Aqf }] }
def bk3:AsO:={ Zy1:=[[Ajf,ArJ],[]],Zz1:=[] }
theorem Ahy{p:AsH}{d1 d2:AsK}{R S T Z1 Z2 Z3:AsM}{b1 b2 b3:AsO}{l1 l2 l3:List AsR}(hp:r14_Example=some p)(h1:CP 1=some d1)(h2:CP 2=some d2) (n1:BL p { Zy1:=[],Zz1:=[] } 0 7 5 d1=some (R,0)) (a1:Bk p { Zy1:=[],Zz1:=[] } R=some (b1,0)) (a2:Bk p b1 R=some (b1,0)) (n2:BL p b1 0 7 4 d1=some (Z1,140)) (n3:BL p { Zy1:=[],Zz1:=[] } 0 7 5 d2=some (S,0)) (a3:Bk p b1 S=some (b2,0)) (n4:BL p { Zy1:=[],Zz1:=[] } 0 8 5 d1=some (Z2,30)) (n5:BL p b1 0 7 6 { Za:=14,Ref:={ Zb:=0,No:=1 },Zn1:=0,Zb1:=0,Zc:=0,Zo1:=0,Zw:=0,To:=0,Code:=0,Zp1:=0,Zq1:=0,Zr1:=0,Zs1:=0,Zt1:=[],Zu1:=[] }=some (T,0)) (a4:Bk p b1 T=some (b3,0)) (n6:BL p { Zy1:=[],Zz1:=[] } 0 7 5 { Za:=14,Ref:={ Zb:=0,No:=1 },Zn1:=0,Zb1:=0,Zc:=0,Zo1:=0,Zw:=0,To:=0,Code:=0,Zp1:=0,Zq1:=0,Zr1:=0,Zs1:=0,Zt1:=[],Zu1:=[] }=some (Z3,110)) (c1:R.No=1) (c2:R.Zv1=⟨[(0:UInt8),0,0,0,0,0,0,0,0,0,0,0,0,0,0,0,0,0,0,0,0,0,0,0,0,0,0,0,0,0,0,0],rfl⟩) (c3:b1.Zy1.length=2) (c4:(nth b1.Zy1 0).length=1) (s1:EY b1 b1=some true) (c5:b2.Zz1.length=1) (f1:DJ b2 0=some 1) (f2:DJ b1 0=some 0) (r1:BP b2=some l1) (q1:l1.length=0) (r2:BP b1=some l2) (q2:l2.length=1) (r3:BP b3=some l3) (q3:l3.length=0):law14_sane=some true:=by
 have k0:InR 0 2:=by decide
 have k1:((2:Nat):Int)=2:=rfl;have k2:((1:Nat):Int)=1:=rfl;have k3:((0:Nat):Int)=0:=rfl;unfold law14_sane;simp only[hp,h1,h2,AsY,n1,a1,a2,n2,n3,a3,n4,n5,a4,n6,c1,c2,c3,c4,s1,c5,f1,f2,r1,q1,r2,q2,r3,q3,k1,k2,k3,beq_self_eq_true,AuA,AsU k0]
theorem e_ex:r14_Example=some exQ:=by kernel_rfl
theorem e_d1:CP 1=some Alj:=rfl
theorem e_d2:CP 2=some Asj:=rfl
theorem e_n1:BL exQ bk0 0 7 5 Alj=some (Ajf,0):=by decide +kernel
theorem e_a1:Bk exQ bk0 Ajf=some (bk1,0):=by decide +kernel
theorem e_a2:Bk exQ bk1 Ajf=some (bk1,0):=by decide +kernel
theorem e_n2:BL exQ bk1 0 7 4 Alj=some (AqN,140):=by decide +kernel
theorem e_n3:BL exQ bk0 0 7 5 Asj=some (Aqf,0):=by decide +kernel
theorem e_a3:Bk exQ bk1 Aqf=some (bk2,0):=by decide +kernel
theorem e_n4:BL exQ bk0 0 8 5 Alj=some (AqN,30):=by decide +kernel
theorem e_n5:BL exQ bk1 0 7 6 Aq0=some (ArJ,0):=by decide +kernel
theorem e_a4:Bk exQ bk1 ArJ=some (bk3,0):=by decide +kernel
theorem e_n6:BL exQ bk0 0 7 5 Aq0=some (AqN,110):=by decide +kernel
theorem e_s1:EY bk1 bk1=some true:=by decide +kernel
theorem e_f1:DJ bk2 0=some 1:=by decide +kernel
theorem e_f2:DJ bk1 0=some 0:=by decide +kernel
theorem e_r1:(BP bk2)=some []:=by decide +kernel
theorem e_r2:(BP bk1).map List.length=some 1:=by decide +kernel
theorem e_r3:(BP bk3)=some []:=by decide +kernel
theorem AhA:law14_sane=some true:=by
 obtain⟨l,hl,hr⟩:∃l,BP bk1=some l∧l.length=1:=by
  have:=e_r2;cases h:BP bk1 with
  |none=>rw[h]at this;cases this
  |some l=>rw[h]at this;exact⟨l,rfl,by simpa using this⟩
 exact Ahy e_ex e_d1 e_d2 e_n1 e_a1 e_a2 e_n2 e_n3 e_a3 e_n4 e_n5 e_a4 e_n6 rfl rfl rfl rfl e_s1 rfl e_f1 e_f2 e_r1 rfl hl hr e_r3 rfl
set_option maxRecDepth 8000
variable{p:AsH}{b:AsO}{r:AsM}
theorem WQ(N:Nat)(L:List (List AsM))(h:L.length≤N):(Abz N L).length=N:=by simp[Abz];omega
theorem AeD(h:0≤r.Zb∧r.Zb<(p.Zk1.length:Int)):nth (AbD p b r).Zy1 r.Zb.toNat=logV b r.Zb++[r]:=by
 unfold AbD;have:r.Zb.toNat<(Abz (max b.Zy1.length p.Zk1.length) b.Zy1).length:=by rw[WQ _ _ (by omega)];omega
 simp[nth,this]
theorem Y6:(AbD p b r).Zy1.length=max b.Zy1.length p.Zk1.length:=by
 unfold AbD;rw[Auw,WQ _ _ (by omega)]
theorem Aax{i:Nat}(h:r.Zb.toNat≠i)(hi:i<max b.Zy1.length p.Zk1.length):nth (AbD p b r).Zy1 i=if i<b.Zy1.length then nth b.Zy1 i else[]:=by
 have hl:i<(Abz (max b.Zy1.length p.Zk1.length) b.Zy1).length:=by rw[WQ _ _ (by omega)];exact hi
 unfold AbD;show((Abz (max b.Zy1.length p.Zk1.length) b.Zy1).set r.Zb.toNat (logV b r.Zb++[r])).getD i default=_;rw[As8,AtF h];unfold Abz;by_cases h1:i<b.Zy1.length
 ·rw[AsU h1,As3 h1];simp[nth]
 ·rw[AsX h1,As0 (by omega),AuB];split<;>rfl
structure Holds(b x:AsO):Prop where
  logs:b.Zy1.length≤x.Zy1.length
  forks:b.Zz1.length≤x.Zz1.length
  row:∀i,i<b.Zy1.length→∃s,nth x.Zy1 i=nth b.Zy1 i++s
variable{r:AsM}{p:AsH}{b:AsO}
theorem AcM{it:AsK}(hp:it.Zu1.length≤2000000):Ax (fun(v:Int×List AsP)=>Ei it v.1 v.2) (0,[])=some (it.Zu1.map KH):=by
 obtain⟨x,hx,rfl⟩:=Bm (f:=fun(v:Int×List AsP)=>Ei it v.1 v.2) it.Zu1.length (fun k v=>v=((k:Int),(it.Zu1.take k).map KH)) (fun x=>x=it.Zu1.map KH) (by omega) (by
   rintro k v hk rfl;refine⟨_,?_,rfl⟩;have hin:InR (k:Int) it.Zu1.length:=⟨by omega,by simpa using hk⟩;unfold Ei;rw[AsU (As9 (by omega)),AsU hin,CG (by omega),map_take _ _ k hk];simp only[As1,AD]
   have e:L6 (nth it.Zu1 k).Zm1=some (iV (if(nth it.Zu1 k).Zm1=true then 1 else 0)):=by
    unfold L6;split<;>rfl
   simp only[AsY,CE,e,FS];rw[AsU (OI (by simp;omega))];rfl) (by
   rintro v rfl;refine⟨_,?_,rfl⟩;unfold Ei;rw[AsX (by simp)];simp) (v0:=(0,[])) (by simp)
 exact hx
theorem Akl{it:AsK}(hp:it.Zu1.length≤2000000):J7 it=some (val it):=by
 unfold J7;simp only[AsY,CE,FS,On,AD,AcM hp];rw[AsU (OI (by simp))];rfl
theorem AgW(n:UInt64):K1 n=some (tV (Gl n)):=by
 have h:Ax (fun(v:Int×List UInt8)=>Fc n v.1 v.2) (0,[])=some (Gl n):=by
  refine NX 8 (fun(v:Int×List UInt8)=>Fc n v.1 v.2) (fun k s=>(k,s)) (fun k=>(List.range k).map (Yl n)) id (by omega) (fun k hk=>?_) ?_
  ·have e1:w64 (56-w64 (8*(k:Int)))=((56-8*k:Nat):Int):=by rw[AE (x:=8*(k:Int)) (by omega),AE (by omega)];omega
   simp only;unfold Fc;rw[AsU (As9 (by omega)),e1,AsU (by unfold Cb;omega),AsU (GK (by simp;omega))];simp only[AD,As1];rw[CG (by omega),Aup,Auf];rfl
  ·simp only;unfold Fc;rw[AsX (by decide)];rfl
 unfold K1;simp only[AD];rw[h];rfl
theorem Su(hp:r.Zx1.Zu1.length≤2000000):K8 r=some (KI r):=by
 unfold K8;rw[AsU (GK (by rw[r.Zv1.h];omega)),Akl hp];rfl
def OkR(r:AsM):Prop:=Kc.okV (Vf r)
theorem AgO(h:OkR r):Kc.okV (lV (KI r)):=by
 obtain⟨h1,h2,h3⟩:=(Kc.okV_eq _).1 h;exact(Kc.okV_eq _).2 ⟨h1,h2,fun x hx=>h3 x (At6 _ hx)⟩
theorem AfE(h:Small r.Zx1)(ho:OkR r):LY r=Hp r:=by
 have h1:=h.text;have h2:=h.parts;rw[Adl h];unfold LY;rw[Su (by omega),AsY];show(some (lV (KI r))).bind _=_;rw[AsY,Kc.encodeR_eq _ (by rw[TY];omega) (AgO ho)];rfl
theorem AaI(h:Small r.Zx1)(ho:OkR r):Ig r=some (Kc.Enc (Vf r)):=by
 have h1:=h.text;have h2:=h.parts
 have hv:JP r=some (Vf r):=by
  unfold JP;rw[AgW,AsY,AgW,AsY];show(some (lV [tV (Gl r.Sig.C),tV (Gl r.Sig.S)])).bind _=_;rw[AsY,Su (by omega),AsY,AsU (OI (by simp[KI]))];rfl
 unfold Ig;rw[hv,AsY,Kc.encodeR_eq _ (by rw[SJ];omega) ho];rfl
theorem Aa4(h:Small r.Zx1)(ho:OkR r):IF r=Dx r:=by
 have h1:=h.text;have h2:=h.parts;have h3:=Adt (Vf r);rw[SJ]at h3;unfold IF Dx;rw[AaI h ho,Sc h,AsY,AsY];by_cases he:((Kc.Enc (Vf r)).2 != 0)=true
 ·rw[AsU he,AsU he,AD];rfl
 ·rw[AsX he,AsX he,UF _ _ (by simp) (by omega)]
theorem AiG(a b c:UInt64):decide (Ab8 a b≥c)=(decide (a≥c)||decide (b≥c)):=by
 rw[Atz];simp only[Atv,Atg];unfold Ab8;have h1:∀x y:UInt64,x≥y↔y.toNat≤x.toNat:=fun x y=>AtD
 split<;>rename_i h<;>simp only[h1]at*<;> first|(have h':=AtJ.1 h;omega)|(have h':=AtD.1 h;omega)|(rw[AtJ]at h;omega)|(rw[AtD]at h;omega)|omega
theorem Ach(h:Few p)(hs:Small r.Zx1)(ho:OkR r):IG p r=Ex p r:=by
 obtain⟨f,hf,hf2,hc⟩:=Uq h;obtain⟨u,_,_,hi,hri⟩:=hc r.Zx1 (by have:=hs.parts;omega);unfold IG Ex;rw[hf,hf2,AsY,AsY];by_cases h0:(f != 0)=true
 ·rw[AsU h0,AsU h0]
 rw[AsX h0,AsX h0];have f0:f=0:=by simpa using h0
 simp only[Ib,A2,AiG];split
 ·rfl
 rename_i h1;rw[hi,hri f0,AsY,AsY];unfold AcS;rw[AsX h0];by_cases h2:okB p r.Zx1 u=true
 case neg=>rw[AsX h2,AsU (by simpa using h2),AsU (by decide)]
 rw[AsU h2,AsX (by simpa using h2),AsX (by decide),AfE hs ho];congr 1;funext y;split
 ·rfl
 split
 ·rw[AbQ]
 ·rfl
theorem Aeu{a b:Arr UInt8 32}:(!(a==b))=!(b==a):=by
 congr 1;rw[Atz];simp only[AtW];exact⟨fun h=>h.symm,fun h=>h.symm⟩
theorem Adr{α β:Type}{o o':Option α}{f g:α→Option β}(h:o=o')(k:∀x,f x=g x):o.bind f=o'.bind g:=by
 rw[h,show f=g from funext k]
theorem Ac0{l:List AsM}(hl:l.length≤10000)(hs:∀x∈l,Small x.Zx1∧OkR x)(hn:1≤r.No):Im l r=D9 l r:=by
  unfold Im D9;simp only[AD,Ib,A2];by_cases h1:r.No>w64 ((l.length:Int)+1)
  · rw[AsU (by simp[h1]),AsU (As9 h1)]
  rw[AsX (show ¬(decide (r.No<1)||decide (r.No>w64 ((l.length:Int)+1)))=true by simp;omega),AsX (c:=decide (r.No>w64 ((l.length:Int)+1))=true) (by simpa using h1)];refine Adr ?_ fun x=>?_
  · by_cases h2:r.No>1
    · rw[AsU (As9 h2),AsU (As9 h2)]
      by_cases hin:InR (w64 (r.No-2)) l.length
      · rw[AsU hin,AsU hin]
        have hx:=hs (nth l (w64 (r.No-2)).toNat) (Ey (by have:=hin.1;have:=hin.2;omega));refine Adr (Aa4 hx.1 hx.2) fun y=>?_
        rw[AsU hin,Ib];rfl
      · rw[AsX hin,AsX hin]
    · rw[AsX (by simpa using h2),AsX (by simpa using h2)]
      rfl
  · cases x with
    |inr z=>rfl
    | inl f=>
      simp only;rw[Aeu];split
      · rfl
      by_cases h3:((r.Zx1.Ref.Zb==0)&&(r.Zx1.Ref.No==0))=true
      · rw[AsU h3,AsX (by rw[h3];simp)];rfl
      · rw[AsX h3,AsU (c:=(!((r.Zx1.Ref.Zb==0)&&(r.Zx1.Ref.No==0)))=true) (by rw[AuK]at h3;rw[h3];rfl)]
def AoF(L:List (List AsM))(r:AsM)(i:Nat):List AsM:=(if i<L.length then nth L i else[])++(if(i:Int)=r.Zb then[r]else[])
theorem Adi(L:List (List AsM))(r:AsM)(m:Nat)(hm:m≤10000)(hL:L.length≤10000)(hr:∀l∈L,l.length≤10000):K9 L r (m:Int)=some ((List.range (max L.length m)).map (AoF L r)):=by
 have h:Ax (fun(v:Int×List (List AsM))=>Fl L r (m:Int) v.1 v.2) (0,[])=some ((List.range (max L.length m)).map (AoF L r)):=by
  refine NX (max L.length m) (fun(v:Int×List (List AsM))=>Fl L r (m:Int) v.1 v.2) (fun k s=>(k,s)) (fun k=>(List.range k).map (AoF L r)) id (by omega) (fun k hk=>?_) ?_
  ·simp only;unfold Fl;rw[Ib,AsY,AsU (by simp;omega)];simp only[AD,AtH,Atr,AtN,As1]
   have e1:(if(decide ((k:Int)<(L.length:Int)))then if InR (k:Int) L.length then if Cj ((nth L k).length) 224 then some (nth L k)else none else none else some []:Option (List AsM))=some (if k<L.length then nth L k else[]):=by
    by_cases h1:k<L.length
    ·rw[AsU (As9 (by omega)),AsU (A9 h1),AsU (by have:=hr _ (Ey h1);unfold Cj maxLen Fi;omega),AsU h1]
    ·rw[AsX (by simp;omega),AsX h1]
   rw[e1,AsY]
   have hlen:(if k<L.length then nth L k else[]:List AsM).length≤10000:=by
    split
    ·exact hr _ (Ey (by assumption))
    ·simp
   have e2:∀q:List AsM,q.length≤10000→(if((k:Int)==r.Zb)then if Cj (q.length+1) 224 then some (q++[r])else none else some q:Option (List AsM))=some (q++(if(k:Int)=r.Zb then[r]else[])):=by
    intro q hq;by_cases h2:(k:Int)=r.Zb
    ·rw[AsU (by simpa using h2),AsU (by unfold Cj maxLen Fi;omega),AsU h2]
    ·rw[AsX (by simpa using h2),AsX h2,At1]
   rw[e2 _ hlen,AsY,AsU (by simp;unfold Cj maxLen Fi;omega),CG (by omega),Aup,Auf];rfl
  ·simp only;unfold Fl;rw[Ib,AsY,AsX (by simp;omega)];rfl
 unfold K9;simp only[AD];rw[h];rfl
theorem Ajy{α:Type}[Inhabited α]{l:List α}{i:Nat}(h:i<l.length):nth l i=l[i]:=by simp[nth,h]
theorem Aht(hp:p.Zk1.length≤10000)(hL:b.Zy1.length≤10000)(hr:∀l∈b.Zy1,l.length≤10000)(h:0≤r.Zb∧r.Zb<(p.Zk1.length:Int)) :K9 b.Zy1 r (p.Zk1.length:Int)=some (AbD p b r).Zy1:=by
 rw[Adi _ _ _ hp hL hr];congr 1;refine List.ext_getElem (by rw[Y6];simp) fun i h1 h2=>?_
 simp only[At5,Auu]at h1;rw[←Ajy h2,List.getElem_map,List.getElem_range];unfold AoF;by_cases h3:r.Zb.toNat=i
 ·subst h3;rw[AeD h,AsU (show((r.Zb.toNat:Nat):Int)=r.Zb by omega)];unfold logV;by_cases h4:r.Zb<(b.Zy1.length:Int)
  ·rw[AsU (show r.Zb.toNat<b.Zy1.length by omega),AsU ⟨h.1,h4⟩]
  ·rw[AsX (show ¬r.Zb.toNat<b.Zy1.length by omega),AsX (fun q=>h4 q.2)]
 ·rw[Aax h3 (by omega),AsX (show ¬(i:Int)=r.Zb by omega),At1]
theorem Afv(l:List AsN)(r:AsM)(hl:l.length≤1000000):J8 l r=some (l.any (Ga r)):=by
 have h:=C2 l (fun v=>Fu l r v) (fun f=>!Ga r f) (.inl ()) (.inr (.inr true)) (by omega) (fun k hk=>?_) ?_
 ·unfold J8;rw[h];have e:(l.all fun f=>!Ga r f)=!l.any (Ga r):=by rw[AuD]
  rw[e];cases l.any (Ga r)<;>rfl
 ·unfold Fu;rw[AsU (As9 (by omega)),AsU (A9 hk),AsU (A9 hk)];simp only[As1];rw[show(if((nth l k).A.Zb==r.Zb)then some ((nth l k).A.No==r.No)else some false:Option Bool)=some (Ga r (nth l k))from Eb _ _,AsY];cases Ga r (nth l k)
  ·rw[AsX (by simp),CG (by omega)];rfl
  ·rfl
 ·unfold Fu;rw[AsX (by simp)]
theorem AaC{n:Nat}(h:Few p)(hm:Mid n b)(hn:n≤10000)(hr:Small r.Zx1)(ho:OkR r)(hob:∀l∈b.Zy1,∀x∈l,OkR x) :∃es ef,Bk p b r=some (Js p b r es ef)∧IB p b r=some (Js p b r es ef)∧(es=0→ef=0→1≤r.No∧r.No≤((logV b r.Zb).length:Int)+1):=by
 obtain⟨es,ef,h1,h2,h3⟩:=Yi h hm hn hr;refine⟨es,ef,h3,?_,fun e e2=>⟨(h2 e).1.no.1,((h2 e).2.2.1 e2).no⟩⟩;unfold IB Js;rw[Ach h hr ho,h1,AsY];by_cases h0:es=0
 case neg=>rw[AsU (by simpa using h0),AsU h0]
 obtain⟨hs,f1,f2⟩:=h2 h0;rw[AsX (show ¬(es != 0)=true by simpa using h0),AsX (show ¬es≠0 from fun q=>q h0),Ano,AsY];obtain⟨l1,l2⟩:=hm.logV r.Zb
 have l3:∀x∈logV b r.Zb,Small x.Zx1∧OkR x:=fun x hx=>⟨l2 x hx,by
  unfold logV at hx;split at hx
  ·exact hob _ (Ey (by omega)) x hx
  ·simp at hx⟩
 have hr1:=hs.rail;generalize hl:logV b r.Zb=l at *;obtain⟨n1,n2⟩:=hs.no;have w1:w64 (r.No-1)=r.No-1:=AE (by omega);have w2:w64 ((l.length:Int)+1)=(l.length:Int)+1:=AE (by omega)
 have hsame:(if(decide (r.No≤(l.length:Int)))then if InR ((w64 (r.No-1))) l.length then(Cu (nth l (((w64 (r.No-1))).toNat)) r).bind fun y=>some y else none else some false:Option Bool)=some (decide (r.No≤(l.length:Int)∧nth l (r.No-1).toNat=r)):=by
  by_cases h3:r.No≤(l.length:Int)
  ·have hk:(r.No-1).toNat<l.length:=by omega
   rw[AsU (As9 h3),w1,AsU (show InR (r.No-1) l.length from⟨by omega,by omega⟩),NZ (by have:=(l2 _ (Ey hk)).parts;omega),AsY];congr 1;simp[h3]
  ·rw[AsX (by simpa using h3),Atx (fun h=>h3 h.1)]
 rw[hsame,AsY];by_cases h4:r.No≤(l.length:Int)∧nth l (r.No-1).toNat=r
 ·rw[AsU (As9 h4),AsU h4]
 rw[AsX (by simpa using h4),AsX h4,Ac0 (by omega) l3 n1,f1,AsY];by_cases h5:ef=0
 case neg=>rw[AsU (by simpa using h5),AsU h5]
 rw[AsX (show ¬(ef != 0)=true by simpa using h5),AsX (show ¬ef≠0 from fun h=>h h5),w2];have hno:=(f2.1 h5).no;by_cases h6:r.No=(l.length:Int)+1
 ·rw[AsU (by simpa using h6),AsU h6,Aht (by have:=h.railways;omega) (by have:=hm.logs;omega) (fun q hq=>by have:=hm.row q hq;omega) hr1];rfl
 ·rw[AsX (by simpa using h6),AsX h6,Afv _ _ (by have:=hm.forks;omega),AsY];unfold XE;by_cases h7:b.Zz1.any (Ga r)=true
  ·rw[AsU h7,AsU h7]
  ·rw[AsX h7,AsX h7,AsU (by have:=hm.forks;unfold Cj maxLen Fi;omega)];simp only[AD,AtH];rw[w1,AsU (show InR (r.No-1) l.length from⟨by omega,by omega⟩),AsU (by have:=hm.forks;unfold Cj maxLen Fi;omega),hl]
theorem MT{y:AsO}(h1:y.Zy1.length≤1000000)(h2:y.Zz1.length≤1000000)(hr:∀l∈y.Zy1,l.length≤1000000∧SN l)(hf:∀f∈y.Zz1,f.A.Zx1.Zu1.length≤1000000∧f.B.Zx1.Zu1.length≤1000000):EY y y=some true:=by
 unfold EY;rw[Ib,AsY,AsX (by simp)];rw[PI y.Zy1 y.Zy1 (fun v=>Gp y y v) rfl (by omega) ?_ ?_]
 ·rw[AsU rfl];simp only[AsY];rw[PI y.Zz1 y.Zz1 (fun v=>Gg y y v) rfl (by omega) ?_ ?_]
  ·rw[AsU rfl];rfl
  ·intro k hk;obtain⟨a,b⟩:=hf _ (Ey hk);unfold Gg;rw[AsU (As9 (by omega)),AsU (A9 hk)];simp only[As1];rw[AsU (A9 hk),NZ a,AsY,As9 rfl,AsX (by simp),AsU (A9 hk),AsU (A9 hk),NZ b,AsY,As9 rfl,AsY,AsX (by simp),AsU trivial,CG (by omega)]
  ·unfold Gg;rw[AsX (by simp)]
 ·intro k hk;obtain⟨a,b⟩:=hr _ (Ey hk);unfold Gp;rw[AsU (As9 (by omega)),AsU (A9 hk),AsU (A9 hk)];simp only[As1];rw[AgP a b,AsY,As9 rfl,AsX (by simp),AsU trivial,CG (by omega)]
 ·unfold Gp;rw[AsX (by simp)]
theorem T6{l:List AsM}(h:∀x∈l,Small x.Zx1):SN l:=fun x hx=>by have:=(h x hx).parts;omega
theorem Afk(h:Few p)(hb:Short b)(hr:Small r.Zx1):EY (AbD p b r) (AbD p b r)=some true:=by
 obtain⟨q1,q2⟩:=hb.mid.logV r.Zb;have hR:=h.railways;have hB:=hb.logs;refine MT (by rw[Y6];omega) (by show b.Zz1.length≤_;have:=hb.forks;omega) (fun l hl=>?_) (fun f hf=>?_)
 ·unfold AbD at hl;simp only at hl;rcases AvN hl with hl|rfl
  ·unfold Abz at hl;rw[Atk]at hl;rcases hl with hl|hl
   ·exact⟨by have:=hb.row l hl;omega,T6 (hb.item l hl)⟩
   ·obtain rfl:=(AvG.1 hl).2;exact⟨by simp,fun x hx=>by simp at hx⟩
  ·refine⟨by simp;omega,T6 fun x hx=>?_⟩;rw[Atk,Aux]at hx;rcases hx with hx|rfl
   ·exact q2 x hx
   ·exact hr
 ·obtain⟨a,b⟩:=hb.fork f hf;have:=a.parts;have:=b.parts;exact⟨by omega,by omega⟩
theorem ME(hb:Short b):EY b b=some true:=by
 refine MT (by have:=hb.logs;omega) (by have:=hb.forks;omega) (fun l hl=>⟨by have:=hb.row l hl;omega,T6 (hb.item l hl)⟩) (fun f hf=>?_);obtain⟨a,b⟩:=hb.fork f hf;have:=a.parts;have:=b.parts;exact⟨by omega,by omega⟩
theorem Adn(hb:Short b)(hr:Small r.Zx1)(hk:(r.No-1).toNat<(logV b r.Zb).length):EY (XE b r) (XE b r)=some true:=by
 obtain⟨q1,q2⟩:=hb.mid.logV r.Zb;refine MT (by show b.Zy1.length≤_;have:=hb.logs;omega) ?_ (fun l hl=>⟨by have:=hb.row l hl;omega,T6 (hb.item l hl)⟩) (fun f hf=>?_)
 ·have:=hb.forks;unfold XE;simp only;split
  ·omega
  ·simp;omega
 ·unfold XE at hf;simp only at hf
  have old:∀f∈b.Zz1,f.A.Zx1.Zu1.length≤1000000∧f.B.Zx1.Zu1.length≤1000000:=fun f hf=>by
   obtain⟨a,b⟩:=hb.fork f hf;have:=a.parts;have:=b.parts;exact⟨by omega,by omega⟩
  split at hf
  ·exact old f hf
  ·rw[Atk,Aux]at hf;rcases hf with hf|rfl
   ·exact old f hf
   ·have:=(q2 _ (Ey hk)).parts;have:=hr.parts;refine⟨?_,?_⟩<;>simp only<;>omega
theorem V9(h:Few p)(hb:Short b)(hr:Small r.Zx1)(es ef:Int)(hn:es=0→ef=0→1≤r.No∧r.No≤((logV b r.Zb).length:Int)+1):EY (Js p b r es ef).1 (Js p b r es ef).1=some true:=by
 have hN:Short noB:=⟨by simp,by simp,fun l hl=>by simp at hl,fun l hl=>by simp at hl,fun f hf=>by simp at hf⟩;unfold Js;by_cases h0:es=0
 case neg=>rw[AsU h0];exact ME hN
 rw[AsX (fun q=>q h0)];split
 ·exact ME hb
 by_cases h1:ef=0
 case neg=>rw[AsU h1];exact ME hN
 rw[AsX (fun q=>q h1)];split
 ·exact Afk h hb hr
 ·have:=hn h0 h1;exact Adn hb hr (by omega)
theorem Aa9(p:AsH)(b:AsO)(r:AsM)(ho:OkR r)(hob:∀l∈b.Zy1,∀x∈l,OkR x):Be p b r=some true:=by
 unfold Be;rw[AhA,AsY,AsX (by simp)];refine Ags (α:=Unit) fun hp hb hr=>?_
 obtain⟨es,ef,h1,h2,h3⟩:=AaC hp.few hb.mid (by omega) hr ho hob;rw[h1,h2,AsY,AsY,AsU (by simp),V9 hp.few hb hr es ef h3];rfl
theorem Ag5{r:AsM}(h:Ea r):OkR r:=by
 obtain⟨a1,a2,_,a3,⟨b1,⟨b2,b3,_⟩,b4,b5,b6,b7,b8,b9,b10,b11,b12,b13,b14,b15,b16,_⟩,_⟩:=h
 have hp:∀l:List AsJ,(∀x∈l,LM x)→∀v∈l.map KH,Kc.okV v:=by
  intro l hl v hv;obtain⟨x,hx,rfl⟩:=Aud.1 hv;obtain⟨c1,c2,_⟩:=hl x hx;have e:Kc.rangeI (if x.Zm1=true then 1 else 0):=by unfold Kc.rangeI;split<;>omega
  simp only[KH,lV,iV,Kc.okV,Kc.okVs,Au9];exact⟨by unfold Kc.rangeI;omega,by unfold Kc.rangeI;omega,⟨by unfold Kc.rangeI;omega,c1⟩,⟨by unfold Kc.rangeI;omega,c2⟩,by unfold Kc.rangeI;omega,e⟩
 have hq:=(Kc.okVs_all _).2 (hp r.Zx1.Zu1 b16.2);have z:∀n:Int,0≤n→n≤3→Kc.rangeI n:=fun n h1 h2=>by unfold Kc.rangeI;omega
 unfold OkR Vf KI val Age;simp only[lV,iV,tV,Kc.okV,Kc.okVs,Atj,AtH,Au9];simp only[show Kc.rangeI 0 from z 0 (by omega) (by omega),show Kc.rangeI 1 from z 1 (by omega) (by omega),show Kc.rangeI 2 from z 2 (by omega) (by omega),show Kc.rangeI 3 from z 3 (by omega) (by omega),Awv,Au9];exact⟨a1,a2,a3,b1,⟨b2,b3⟩,b4,b5,b6,b7,b8,b9,b10,b11,b12,b13,b14,hq⟩
theorem XW{p:AsH}(_:Vc p){b:AsO}(hb:Sz b){r:AsM}(hr:Ea r):Be p b r=some true :=
 Aa9 p b r (Ag5 hr) fun l hl x hx=>Ag5 ((hb.1.2 l hl).2 x hx)
end Go.Proofs.YtioapcamanmoiaaGreatDoor
