/-
  Part 51.
-/
import Derived.Test.YtldngkmkhfddpaaGreatDoorYV50
import Derived.Lib.Bytealg
import Derived.Lib.Join
namespace Go.Proofs.YtldngkmkhfddpaaGreatDoor
open Go.Rv
set_option linter.unusedVariables false
set_option linter.unusedSimpArgs false
variable{k:Nat}{s:List UInt8}{t:AoI}{b x:UInt8}
theorem Ab6{j:Nat}(h:j+k<9223372036854775807):w64 ((j:Int)+(k:Int))=((j+k:Nat):Int):=by rw[Hq (by omega)];omega
theorem R0(h:k+1<9223372036854775807):w64 ((k:Int)+1)=((k+1:Nat):Int):=by rw[Hq (by omega)];omega
def isL(c:UInt8):Bool:=decide ((97:UInt8)<=c)&&decide (c<=(122:UInt8))
def isD(c:UInt8):Bool:=decide ((48:UInt8)<=c)&&decide (c<=(57:UInt8))
def I5(c:UInt8):Bool:=isL c||isD c
def isB(c:UInt8):Bool:=c==32||(c==9||(c==13||c==10))
theorem U1(c:UInt8):G5 c=some (isL c):=by
 unfold G5 isL;cases decide ((97:UInt8)<=c)<;>simp
theorem RE(c:UInt8):GG c=some (isD c):=by
 unfold GG isD;cases decide ((48:UInt8)<=c)<;>simp
theorem AbX(c:UInt8):Hb c=some (I5 c):=by
 unfold Hb I5;rw[U1,RE];cases isL c<;>simp
theorem Afq(p:UInt8->Bool):∀(l:List UInt8) (k:Nat),(k<(l.takeWhile p).length->p (nth l k)=true)/\(k=(l.takeWhile p).length->k<l.length->p (nth l k)=false)
 |[],k=>by simp
 | a::l,k=>by
  rw[Aqo];cases ha:p a with
  |false=>
   simp only[Apu,ApY,Apr,Apb];refine⟨fun h=>absurd h (by omega),fun h _=>?_⟩;subst h;simpa [nth]using ha
  | true=>
   simp only[ApL,Apb];cases k with
   |zero=>exact⟨fun _=>by simpa [nth]using ha,fun h=>absurd h (by omega)⟩
   |succ k=>
    have:=Afq p l k;have e:nth (a::l) (k+1)=nth l k:=by simp[nth]
    rw[e];exact⟨fun h=>this.1 (by omega),fun h1 h2=>this.2 (by omega) (by omega)⟩
theorem Xm(p:UInt8->Bool):∀l:List UInt8,(l.takeWhile p).length<=l.length
 |[]=>by simp
 |a::l=>by
  rw[Aqo];have:=Xm p l;cases p a<;>simp<;>omega
theorem OY(p:UInt8->Bool):∀l:List UInt8,l.take (l.takeWhile p).length=l.takeWhile p
 |[]=>by simp
 |a::l=>by
  rw[Aqo];have:=OY p l;cases p a<;>simp[this]
theorem Abf(s:List UInt8)(f:UInt8->Option Bool)(p:UInt8->Bool)(hf:∀c,f c=some (p c))(hs:s.length<=1000000):IW s f=some ((s.takeWhile p).length:Int):=by
 unfold IW;have hl:=Xm p s
 obtain⟨x,hx,hq⟩:=K5 (f:=fun v:Int=>Dj s f v) (fun v=>∃k:Nat,v=(k:Int)/\k<=(s.takeWhile p).length) (fun v=>s.length-v.toNat)
  (fun x:Unit⊕(Unit⊕Int)=>(match x with|.inl ()=>(s.length:Int)|.inr (.inl ())=>(s.length:Int)|.inr (.inr z)=>z)=((s.takeWhile p).length:Int)) (by
   rintro v ⟨k,rfl,hk⟩;have ht:=Afq p s k;by_cases h1:k<s.length
   ·have e1:decide ((k:Int)<(s.length:Int))=true:=by simp;omega
    by_cases h2:k<(s.takeWhile p).length
    ·left;refine⟨((k+1:Nat):Int),?_,⟨k+1,rfl,by omega⟩,by simp;omega⟩;show Dj s f (k:Int)=_;unfold Dj;rw[Ao4 e1,Ao4 (Au h1),Apc,hf,ht.1 h2,R0 (by omega)];rfl
    right;refine⟨.inr (.inr (k:Int)),?_,?_⟩
    ·show Dj s f (k:Int)=_;unfold Dj;rw[Ao4 e1,Ao4 (Au h1),Apc,hf,ht.2 (by omega) h1];rfl
    show(k:Int)=_;omega
   right;refine⟨.inl (),?_,?_⟩
   ·show Dj s f (k:Int)=_;unfold Dj;rw[Ao6 (by simp;omega)]
   show(s.length:Int)=_;omega) (v0:=(0:Int)) ⟨0,rfl,by omega⟩ (by show s.length-0<_;omega)
 rw[hx];rcases x with u|(u|z)
 ·simpa using hq
 ·simpa using hq
 simpa using hq
def dg(n:Nat)(c:UInt8):Nat:=10*n+(c-48).toNat
def dval(d:List UInt8):Nat:=d.foldl dg 0
theorem Abl(d:List UInt8)(c:UInt8):dval (d++[c])=dg (dval d) c:=by simp[dval]
theorem AhJ(l:List UInt8):∀n,n<=l.foldl dg n:=by
 induction l with
 |nil=>intro n;exact Apf _
 |cons c l ih=>intro n;exact Aqs (by unfold dg;omega) (ih (dg n c))
theorem AeK(a b:List UInt8):dval a<=dval (a++b):=by
 unfold dval;rw[List.foldl_append];exact AhJ b _
theorem AbP(d:List UInt8)(k:Nat):dval (d.take k)<=dval d:=by
 have:=AeK (d.take k) (d.drop k);rwa[Aqf]at this
theorem AeH{α:Type}[Inhabited α]{l:List α}(h:k<l.length):l.take (k+1)=l.take k++[nth l k]:=by
 rw[Apv h];congr 2;simp[nth,h]
theorem AnY(n:Nat)(c:UInt8):dg n c<=10*n+255:=by
 have:=Arl (c-48);unfold dg;omega
def num(d:List UInt8):Int×Int:=if d.length>1/\nth d 0=48 then(0,150)else if 1099511627776<dval d then(0,2)else((dval d:Int),0)
theorem AbV(d:List UInt8)(hd:d.length<=1000000):HD d=some (num d):=by
 unfold HD num
 have h1:(if(decide ((d.length:Int)>1))then if InR 0 d.length then some (((nth d 0)==(48:UInt8)))else none else some false:Option Bool)=some (decide (d.length>1/\nth d 0=48)):=by
  by_cases h:d.length>1
  ·rw[Ao4 (by simp;omega),Ao4 (by unfold InR;omega)];by_cases h2:nth d 0=48<;>simp[h,h2]
  rw[Ao6 (by simp;omega)];simp[h]
 rw[TK h1];by_cases hz:d.length>1/\nth d 0=48
 ·simp[hz]
 rw [Ao6 (by simpa using hz),Ao6 hz]
 obtain⟨x,hx,hq⟩:=K5 (f:=fun v:Int×Int=>Cc d v.1 v.2) (fun v=>∃k:Nat,v=((dval (d.take k):Int),(k:Int))/\k<=d.length/\dval (d.take k)<=1099511627776) (fun v=>d.length-v.2.toNat)
  (fun x:Int⊕(Int⊕(Int×Int))=>(match x with|.inl n=>(n,(0:Int))|.inr (.inl n)=>(n,(0:Int))|.inr (.inr z)=>z)=if 1099511627776<dval d then(0,2)else((dval d:Int),0)) (by
   rintro v ⟨k,rfl,hk,hv⟩;by_cases h1:k<d.length
   ·have e1:decide ((k:Int)<(d.length:Int))=true:=by simp;omega
    have hb:=AnY (dval (d.take k)) (nth d k)
    have e2:w64 ((w64 (10*(dval (d.take k):Int)))+((((nth d k)-(48:UInt8))).toNat:Int))=(dval (d.take (k+1)):Int):=by
     rw[AeH h1,Abl];unfold dg at hb ⊢;have:=Arl (nth d k-48);have e0:w64 (10*(dval (d.take k):Int))=10*(dval (d.take k):Int):=Hq (by omega);rw[e0,Hq (by omega)];omega
    have e3:Cc d (dval (d.take k):Int) (k:Int)=if(decide ((dval (d.take (k+1)):Int)>1099511627776))then some (.inr (.inr (.inr (0,2))))else some (.inl ((dval (d.take (k+1)):Int),((k+1:Nat):Int))):=by
     unfold Cc;rw[Ao4 e1,Ao4 (Au h1),Apc];show(if _ then _ else _)=_;rw[e2,R0 (by omega)];rfl
    by_cases h3:dval (d.take (k+1))<=1099511627776
    ·left;refine⟨((dval (d.take (k+1)):Int),((k+1:Nat):Int)),?_,⟨k+1,rfl,by omega,h3⟩,by simp;omega⟩;show Cc d _ _=_;rw[e3,Ao6 (by simp;omega)]
    right;refine⟨.inr (.inr (0,2)),?_,?_⟩
    ·show Cc d _ _=_;rw[e3,Ao4 (by simp;omega)]
    have:=AbP d (k+1);show((0:Int),(2:Int))=_;rw[Ao4 (by omega)]
   right;have hk':k=d.length:=by omega
   subst hk';rw[Ap0]at hv ⊢;refine⟨.inl (dval d:Int),?_,?_⟩
   ·show Cc d _ _=_;unfold Cc;rw[Ao6 (by simp)]
   show((dval d:Int),(0:Int))=_;rw[Ao6 (by omega)]) (v0:=((0,0):Int×Int)) ⟨0,rfl,by omega,by simp[dval]⟩ (by show d.length-0<_;omega)
 rw[hx];rcases x with n|(n|z)
 ·simpa using hq
 ·simpa using hq
 simpa using hq
def sgn(c:UInt8):List UInt8:=Jd ([]:List UInt8) tab3 c
theorem Tp(s p:List UInt8):Dm s p=some (decide (s.take p.length=p)):=by
 unfold Dm DE;by_cases h:p.length<=s.length
 ·rw[Ao4 (by simp;omega),Ao4 (by unfold InB;omega),Apc];by_cases h2:s.take p.length=p
  ·simp[h2]
  simp[h2]
 rw[Ao6 (by simp;omega)]
 have:¬s.take p.length=p:=fun e=>by
  have:=ApV List.length e;simp at this;omega
 simp[this]
def tok(s:List UInt8):AoI×Int :=
 if isL (nth s 0)=true then
  if 32<(s.takeWhile I5).length then(⟨0,[],0,0⟩,2)else(⟨1,s.takeWhile I5,0,0⟩,0)
 else if isD (nth s 0)=true then(⟨2,s.takeWhile isD,(num (s.takeWhile isD)).1,0⟩,(num (s.takeWhile isD)).2)
 else if sgn (nth s 0)≠[]/\s.take (sgn (nth s 0)).length=sgn (nth s 0)then(⟨3,sgn (nth s 0),0,0⟩,0)
 else(⟨0,[],0,0⟩,150)
theorem X3(s:List UInt8)(h0:0<s.length)(hs:s.length<=1000000):H3 s=some (tok s):=by
 unfold H3 tok;have hR:InR 0 s.length:=by unfold InR;omega
 have hw:=Xm I5 s;have hd:=Xm isD s;rw[Ao4 hR,U1];show(if isL (nth s 0)=true then _ else _)=_;by_cases h1:isL (nth s 0)=true
 ·rw[Ao4 h1,Ao4 h1,TK (Abf s _ I5 AbX hs),Ao4 (Py hw),Apc,OY];by_cases h2:32<(s.takeWhile I5).length
  ·rw[Ao4 (by simp;omega),Ao4 h2]
  rw[Ao6 (by simp;omega),Ao6 h2]
 rw[Ao6 h1,Ao6 h1,RE];show(if isD (nth s 0)=true then _ else _)=_;by_cases h2:isD (nth s 0)=true
 ·rw[Ao4 h2,Ao4 h2,TK (Abf s _ isD RE hs),Ao4 (Py hd),Apc,OY,TK (AbV _ (by omega))]
 rw[Ao6 h2,Ao6 h2,Ao4 hR];show((if(!(sgn (nth s 0)==[]))then(Dm s (sgn (nth s 0))).bind fun y=>some y else some false:Option Bool).bind fun t=>if t then some (({ Za:=3,Zb:=sgn (nth s 0),N:=0,At:=0 }:AoI),(0:Int))else some (({ Za:=0,Zb:=([]:List UInt8),N:=0,At:=0 }:AoI),150))=_;rw[Tp];by_cases h3:sgn (nth s 0)=[]
 ·simp[h3]
 by_cases h4:s.take (sgn (nth s 0)).length=sgn (nth s 0)
 ·simp[h3,h4]
 simp[h3,h4]
theorem Af8:∀n:Fin 256,sgn (UInt8.ofNat n.val)=[]\/(nth (sgn (UInt8.ofNat n.val)) 0=UInt8.ofNat n.val/\isL (UInt8.ofNat n.val)=false/\isD (UInt8.ofNat n.val)=false/\isB (UInt8.ofNat n.val)=false/\UInt8.ofNat n.val≠35/\(sgn (UInt8.ofNat n.val)).length<=2):=by decide +kernel
theorem Afw(c:UInt8)(h:sgn c≠[]):nth (sgn c) 0=c/\isL c=false/\isD c=false/\isB c=false/\c≠35/\(sgn c).length<=2:=by
 have:=Af8 ⟨c.toNat,Arl c⟩;have e:UInt8.ofNat c.toNat=c:=Ari;simp only[e]at this;exact this.resolve_left h
theorem Ad3:∀n:Fin 256,(isL (UInt8.ofNat n.val)=true->isB (UInt8.ofNat n.val)=false/\UInt8.ofNat n.val≠35/\isD (UInt8.ofNat n.val)=false)/\(isD (UInt8.ofNat n.val)=true->isB (UInt8.ofNat n.val)=false/\UInt8.ofNat n.val≠35/\isL (UInt8.ofNat n.val)=false)/\(isB (UInt8.ofNat n.val)=true->I5 (UInt8.ofNat n.val)=false):=by decide +kernel
theorem UA(c:UInt8):(isL c=true->isB c=false/\c≠35/\isD c=false)/\(isD c=true->isB c=false/\c≠35/\isL c=false)/\(isB c=true->I5 c=false):=by
 have:=Ad3 ⟨c.toNat,Arl c⟩;have e:UInt8.ofNat c.toNat=c:=Ari;simpa only[e]using this
def AnQ(k:Int)(x:UInt8):Bool:=if k=1 then I5 x else if k=2 then isD x else false
def Tk(t:AoI):Prop:=t.Zb≠[]/\t.At=0/\((t.Za=1/\isL (nth t.Zb 0)=true/\(∀x∈t.Zb,I5 x=true)/\t.Zb.length<=32/\t.N=0)
 \/ (t.Za=2/\isL (nth t.Zb 0)=false/\isD (nth t.Zb 0)=true/\(∀x∈t.Zb,isD x=true)/\num t.Zb=(t.N,0))
 \/ (t.Za=3/\isL (nth t.Zb 0)=false/\isD (nth t.Zb 0)=false/\t.Zb=sgn (nth t.Zb 0)/\t.N=0))
def AlX(k:Int)(r:List UInt8):Prop:=∀x,r.head?=some x->AnQ k x=false
theorem Th(p:UInt8->Bool):∀l:List UInt8,(∀x∈l.takeWhile p,p x=true)/\∀x,(l.drop (l.takeWhile p).length).head?=some x->p x=false
 |[]=>by simp
 |a::l=>by
  rw[Aqo];have:=Th p l;cases ha:p a with
  |false=>simp[ha]
  |true=>simpa [ha]using this
theorem AbN(p:UInt8->Bool):∀(t r:List UInt8),(∀x∈t,p x=true)->(∀x,r.head?=some x->p x=false)->(t++r).takeWhile p=t
 |[],[],_,_=>rfl
 |[],x::r,_,h=>by
  have:=h x rfl;simp[this]
 |a::t,r,h1,h2=>by
  have h3:=h1 a (by simp);show List.takeWhile p (a::(t++r))=_;rw[Aqo,h3,Ao4 rfl,AbN p t r (fun x hx=>h1 x (by simp[hx])) h2]
theorem AkW(p:UInt8->Bool)(h0:0<s.length)(h:p (nth s 0)=true):s.takeWhile p≠[]/\nth (s.takeWhile p) 0=nth s 0:=by
 cases s with
 |nil=>simp at h0
 |cons a s=>
  have e:nth (a::s) 0=a:=rfl;rw[e]at h ⊢;rw[Aqo,h,Ao4 rfl];exact⟨by simp,rfl⟩
theorem AaF{t:List UInt8}(r:List UInt8)(h:t≠[]):nth (t++r) 0=nth t 0:=by
 cases t with
 |nil=>exact absurd rfl h
 |cons a t=>rfl
theorem Ru(h0:0<s.length)(h:(tok s).2=0):Tk (tok s).1/\s=(tok s).1.Zb++s.drop (tok s).1.Zb.length/\AlX (tok s).1.Za (s.drop (tok s).1.Zb.length)/\nth (tok s).1.Zb 0=nth s 0:=by
 unfold tok at h ⊢;by_cases h1:isL (nth s 0)=true
 ·have hp:I5 (nth s 0)=true:=by unfold I5;rw[h1];rfl
  obtain⟨n1,n2⟩:=AkW I5 h0 hp;by_cases h2:32<(s.takeWhile I5).length
  ·rw[Ao4 h1,Ao4 h2]at h;cases h
  rw[Ao4 h1,Ao6 h2];refine⟨⟨n1,rfl,.inl ⟨rfl,by simpa [n2]using h1,(Th I5 s).1,by simp only;omega,rfl⟩⟩,?_,(Th I5 s).2,n2⟩;show s=s.takeWhile I5++s.drop (s.takeWhile I5).length
  conv=>lhs;rw[<-Aqf (s.takeWhile I5).length s,OY]
 rw[Ao6 h1]at h ⊢;have h1':isL (nth s 0)=false:=by simpa using h1
 by_cases h2:isD (nth s 0)=true
 ·obtain⟨n1,n2⟩:=AkW isD h0 h2;rw[Ao4 h2]at h ⊢;refine⟨⟨n1,rfl,.inr (.inl ⟨rfl,by simpa [n2]using h1',by simpa [n2]using h2,(Th isD s).1,Prod.ext rfl h⟩)⟩,?_,(Th isD s).2,n2⟩;show s=s.takeWhile isD++s.drop (s.takeWhile isD).length
  conv=>lhs;rw[<-Aqf (s.takeWhile isD).length s,OY]
 rw[Ao6 h2]at h ⊢;have h2':isD (nth s 0)=false:=by simpa using h2
 by_cases h3:sgn (nth s 0)≠[]/\s.take (sgn (nth s 0)).length=sgn (nth s 0)
 ·rw[Ao4 h3];have h4:=(Afw _ h3.1).1;refine⟨⟨h3.1,rfl,.inr (.inr ⟨rfl,by simpa [h4]using h1',by simpa [h4]using h2',by simp only[h4],rfl⟩)⟩,?_,fun x _=>rfl,h4⟩;show s=sgn (nth s 0)++s.drop (sgn (nth s 0)).length
  conv=>lhs;rw[<-Aqf (sgn (nth s 0)).length s,h3.2]
 rw[Ao6 h3]at h;cases h
theorem AjD(r:List UInt8)(h:Tk t)(he:AlX t.Za r):tok (t.Zb++r)=(t,0):=by
 obtain⟨k,x,n,a⟩:=t;obtain⟨h1,h2,h3⟩:=h;simp only at h1 h2 h3 he;subst h2;unfold tok;simp only;rw[AaF r h1];rcases h3 with⟨rfl,a1,a2,a3,rfl⟩|⟨rfl,a0,a1,a2,a3⟩|⟨rfl,a0,a1,a2,rfl⟩
 ·rw[AbN I5 x r a2 he,Ao4 a1,Ao6 (by omega)]
 ·rw[AbN isD x r a2 he,a0,Ao6 (by simp),Ao4 a1,a3]
 rw[a0,a1,Ao6 (by simp),Ao6 (by simp),<-a2,Ao4 ⟨h1,by simp⟩]
def gb(c:Bool)(b:UInt8):Option Bool:=if(if b=10 then false else if b=35 then true else c)then some true else if isB b=true then some false else none
theorem QB{c:Bool}(h:gb c b=none):c=false/\isB b=false/\b≠35/\b≠10:=by
 unfold gb at h;by_cases h1:(if b=10 then false else if b=35 then true else c)=true
 ·rw[Ao4 h1]at h;cases h
 rw[Ao6 h1]at h;by_cases h2:isB b=true
 ·rw[Ao4 h2]at h;cases h
 have h2':isB b=false:=by simpa using h2
 by_cases h3:b=10
 ·subst h3;exact absurd h2' (by decide)
 rw[Ao6 h3]at h1;by_cases h4:b=35
 ·rw[Ao4 h4]at h1;exact absurd rfl h1
 rw[Ao6 h4]at h1;exact⟨by simpa using h1,h2',h4,h3⟩
theorem UL(h1:isB b=false)(h2:b≠35):gb false b=none:=by
 unfold gb;have h3:b≠10:=fun e=>by subst e;exact absurd h1 (by decide)
 rw[Ao6 h3,Ao6 h2,Ao6 (by simp),Ao6 (by simp[h1])]
theorem AjZ(c:Bool):gb c 10=some false:=by unfold gb;rw[Ao4 rfl];rfl
theorem AhA(c:Bool):gb c 35=some true:=rfl
theorem ZO(h:b≠10):gb true b=some true:=by unfold gb;rw[Ao6 h];by_cases h2:b=35<;>simp[h2]
theorem Ael(h:isB b=true):gb false b=some false:=by
 unfold gb;have h2:b≠35:=fun e=>by subst e;exact absurd h (by decide)
 by_cases h3:b=10
 ·rw[Ao4 h3,Ao6 (by simp),Ao4 h]
 rw[Ao6 h3,Ao6 h2,Ao6 (by simp),Ao4 h]
inductive Rt:Bool->Nat->List UInt8->List AoI->Option (Nat×Int)->Prop
  |nil (c:Bool) (o:Nat):Rt c o [] [] none
  |skip {c c':Bool} {o:Nat} {b:UInt8} {s:List UInt8} {l:List AoI} {e:Option (Nat×Int)} (h:gb c b=some c') (r:Rt c' (o+1) s l e):Rt c o (b::s) l e
  |tok {c:Bool} {o:Nat} {b:UInt8} {s:List UInt8} {t:AoI} {l:List AoI} {e:Option (Nat×Int)} (h:gb c b=none) (ht:tok (b::s)=(t,0)) (r:Rt false (o+t.Zb.length) ((b::s).drop t.Zb.length) l e):Rt c o (b::s) ({ t with At:=o }::l) e
  |err {c:Bool} {o:Nat} {b:UInt8} {s:List UInt8} {x:Int} (h:gb c b=none) (ht:(tok (b::s)).2=x) (hx:x≠0):Rt c o (b::s) [] (some (o,x))
theorem Ads(h:(tok s).2=0):tok s=((tok s).1,0):=Prod.ext rfl h
theorem Rt.total:∀(n:Nat) (s:List UInt8) (c:Bool) (o:Nat),s.length<=n->∃l e,Rt c o s l e
 |_,[],c,o,_=>⟨_,_,.nil c o⟩
 |0,b::s,c,o,h=>absurd h (by simp)
 | n+1,b::s,c,o,h=>by
  simp only[Apb]at h;cases hg:gb c b with
  |some c'=>
   obtain⟨l,e,hr⟩:=Rt.total n s c' (o+1) (by omega);exact⟨l,e,.skip hg hr⟩
  | none=>
   by_cases hx:(Go.Proofs.YtldngkmkhfddpaaGreatDoor.tok (b::s)).2=0
   ·have hi:=(Ru (by simp) hx).1.1;have hp:=Aqm.2 hi;obtain⟨l,e,hr⟩:=Rt.total n ((b::s).drop (Go.Proofs.YtldngkmkhfddpaaGreatDoor.tok (b::s)).1.Zb.length) false (o+(Go.Proofs.YtldngkmkhfddpaaGreatDoor.tok (b::s)).1.Zb.length) (by simp only[Aql,Apb];omega);exact⟨_,e,.tok hg (Ads hx) hr⟩
   exact⟨[],_,.err hg rfl hx⟩
theorem RC(h:tok (b::s)=(t,0)):0<t.Zb.length/\t.Zb.length<=s.length+1:=by
 have h2:(tok (b::s)).2=0:=by rw[h]
 obtain⟨hk,hs,_⟩:=Ru (by simp) h2;rw[h]at hk hs;have:=ApV List.length hs;simp only[Apb,Ao5]at this;exact⟨Aqm.2 hk.1,by omega⟩
theorem Rt.len{c:Bool}{o:Nat}{s:List UInt8}{l:List AoI}{e:Option (Nat×Int)}(h:Rt c o s l e):l.length<=s.length:=by
 induction h with
 |nil=>simp
 |skip h r ih=>simp only[Apb];omega
 |tok h ht r ih=>
  have:=RC ht;simp only[Aql,Apb]at ih ⊢;omega
 |err=>simp
theorem Rt.comment:∀{s:List UInt8} {o:Nat} {l:List AoI} {e:Option (Nat×Int)},Rt true o s l e->(Lib.indexByte s 10=-1/\l=[]/\e=none)\/∃n:Nat,Lib.indexByte s 10=(n:Int)/\n<s.length/\Rt false (o+(n+1)) (s.drop (n+1)) l e
 |[],o,l,e,h=>by
  cases h;exact .inl ⟨rfl,rfl,rfl⟩
 | b :: s,o,l,e,h=>by
  unfold Lib.indexByte;cases h with
  |tok h ht r=>exact absurd (QB h).1 (by simp)
  |err h ht hx=>exact absurd (QB h).1 (by simp)
  | skip h r=>
   by_cases hb:b=10
   ·subst hb;rw[AjZ]at h;obtain rfl:=Ao1 h;exact .inr ⟨0,by rw[Ao4 (by simp)];rfl,by simp,by simpa using r⟩
   rw[ZO hb]at h;obtain rfl:=Ao1 h;rw[Ao6 (by simpa using hb)];rcases Rt.comment r with⟨h1,h2,h3⟩|⟨n,h1,h2,h3⟩
   ·exact .inl ⟨by rw[h1];rfl,h2,h3⟩
   refine .inr ⟨n+1,?_,by simp only[Apb];omega,?_⟩
   ·rw[h1,Ao6 (show ¬(((n:Int)==-1)=true) by rw[Ap9];omega)];omega
   have e:o+1+(n+1)=o+(n+1+1):=by omega
   rw[e]at h3;exact h3
def res(l:List AoI):Option (Nat×Int)->List AoI×Int×Int
 |none=>(l,0,0)
 |some (o,x)=>([],(o:Int),x)
theorem Me(h:k<s.length):s.drop k=nth s k::s.drop (k+1):=by
 rw[Ap6 h];congr 1;simp[nth,h]
theorem AcC(s:List UInt8):Dl s 10=some (Lib.indexByte s 10):=by
 unfold Dl DG Ej VE Aah;rw[Lib.firstIdx_eq];rfl
theorem ZV(s:List UInt8)(k:Nat):(s.drop k).take (s.length-k)=s.drop k:=ApP (by simp)
theorem Akj(c:UInt8):(if(c==(32:UInt8))then some (c==(32:UInt8))else if(c==(9:UInt8))then some (c==(9:UInt8))else if(c==(13:UInt8))then some (c==(13:UInt8))else some (c==(10:UInt8)):Option Bool)=some (isB c):=by
 unfold isB;cases c==32<;>cases c==9<;>cases c==13<;>simp
theorem Aj3{n:Nat}(h:n<=1000000):FY n 40:=by unfold FY maxLen Hu;omega
theorem Aa6{src:List UInt8}{l:List AoI}{e:Option (Nat×Int)}(h:Rt false 0 src l e)(hs:src.length<=2000):EB src=some (res l e):=by
 unfold EB;rw[Ao6 (by simp;omega)];have hll:=h.len
 obtain ⟨x,hx,hq⟩:=K5 (f:=fun v:Int×List AoI=>Bj src v.1 v.2) (fun v=>∃(k:Nat) (acc l2:List AoI),v=((k:Int),acc)/\k<=src.length/\acc++l2=l/\Rt false k (src.drop k) l2 e) (fun v=>src.length-v.1.toNat)
  (fun x:List AoI⊕(List AoI⊕(List AoI×Int×Int))=>(match x with|.inl n=>(n,(0:Int),(0:Int))|.inr (.inl n)=>(n,(0:Int),(0:Int))|.inr (.inr z)=>z)=res l e) (by
   rintro v ⟨k,acc,l2,rfl,hk,hacc,hr⟩;have hl:=ApV List.length hacc;simp only[Ao5]at hl;by_cases h1:k<src.length
   ·have e1:decide ((k:Int)<(src.length:Int))=true:=by simp;omega
    have hB:InB (k:Int) src.length:=Py hk;rw[Me h1]at hr
    have step:Bj src (k:Int) acc=if isB (nth src k)=true then some (.inl (((k+1:Nat):Int),acc))else if(nth src k==(35:UInt8))then
      (Dl (nth src k::src.drop (k+1)) 10).bind fun y=>if(decide (y<0))then some (.inr (.inl acc))else some (.inl (w64 ((k:Int)+w64 (y+1)),acc))
      else(H3 (nth src k::src.drop (k+1))).bind fun y=>if(y.2 != 0)then some (.inr (.inr (.inr ([],(k:Int),y.2))))else some (.inl (w64 ((k:Int)+(y.1.Zb.length:Int)),acc++[{ y.1 with At:=(k:Int) }])):=by
     unfold Bj;rw[Ao4 e1,Ao4 (Au h1),Apc,TK (Akj _),R0 (by omega),Ao4 hB,ZV,Me h1,Ao4 hB];simp only[Ao4 (show FY (acc.length+1) 40 from Aj3 (by omega))];rfl
    cases hr with
    | skip hg hr=>
     by_cases hb:isB (nth src k)=true
     ·rw[Ael hb]at hg;obtain rfl:=Ao1 hg;left;refine⟨(((k+1:Nat):Int),acc),?_,⟨k+1,acc,l2,rfl,by omega,hacc,hr⟩,by simp;omega⟩;show Bj src (k:Int) acc=_;rw[step,Ao4 hb]
     have hc:nth src k=35:=by
      have h0:=hg;unfold gb at h0;by_cases e10:nth src k=10
      ·rw[e10]at hb;exact absurd (by decide) hb
      rw[Ao6 e10]at h0;by_cases e35:nth src k=35
      ·exact e35
      rw[Ao6 e35,Ao6 (by simp),Ao6 hb]at h0;cases h0
     rw[hc,AhA]at hg;obtain rfl:=Ao1 hg;have hcm:Rt true k (nth src k::src.drop (k+1)) l2 e:=.skip (by rw[hc];exact ZO (by decide)) hr
     have hstep:Bj src (k:Int) acc=if(decide (Lib.indexByte (nth src k::src.drop (k+1)) 10<0))then some (.inr (.inl acc))else some (.inl (w64 ((k:Int)+w64 (Lib.indexByte (nth src k::src.drop (k+1)) 10+1)),acc)):=by
      rw[step,Ao6 hb,Ao4 (by simp[hc]),TK (AcC _)]
     rcases hcm.comment with⟨i1,i2,i3⟩|⟨n,i1,i2,i3⟩
     ·right;subst i2 i3;refine⟨.inl acc,?_,by rw[Ap3]at hacc;rw[hacc];rfl⟩;show Bj src (k:Int) acc=_;rw[hstep,i1,Ao4 (by decide)]
     left;simp only[Apb,Aql]at i2;refine⟨(((k+(n+1):Nat):Int),acc),?_,⟨k+(n+1),acc,l2,rfl,by omega,hacc,?_⟩,by simp;omega⟩
     ·show Bj src (k:Int) acc=_;rw[hstep,i1,Ao6 (by simp),R0 (by omega),Ab6 (by omega)]
     rw[<-Me h1,Asc]at i3;exact i3
    | tok hg ht hr=>
     rename_i t l2;have hb:=QB hg;have hp:=RC ht;simp only[Aql]at hp;left;refine⟨(((k+t.Zb.length:Nat):Int),acc++[{ t with At:=(k:Int) }]),?_,⟨k+t.Zb.length,_,l2,rfl,by omega,by rw[ApZ];exact hacc,?_⟩,by simp;omega⟩
     ·show Bj src (k:Int) acc=_;rw[step,Ao6 (by simp[hb.2.1]),Ao6 (by simp[hb.2.2.1]),TK (X3 _ (by simp) (by simp;omega)),ht];dsimp only;rw[Ao6 (by simp),Ab6 (by omega)]
     rw[<-Me h1,Asc]at hr;exact hr
    |err hg ht hx=>
     rename_i x;have hb:=QB hg;right;refine⟨.inr (.inr ([],(k:Int),x)),?_,rfl⟩;show Bj src (k:Int) acc=_;rw[step,Ao6 (by simp[hb.2.1]),Ao6 (by simp[hb.2.2.1]),TK (X3 _ (by simp) (by simp;omega)),ht,Ao4 (by simpa using hx)]
   right;have hk':k=src.length:=by omega
   subst hk';rw[List.drop_length]at hr;cases hr;refine⟨.inl acc,?_,by rw[Ap3]at hacc;rw[hacc];rfl⟩;show Bj src (src.length:Int) acc=_;unfold Bj;rw[Ao6 (by simp)]) (v0:=((0,[]):Int×List AoI)) ⟨0,[],l,rfl,by omega,rfl,h⟩ (by show src.length-0<_;omega)
 rw[hx];rcases x with n|(n|z)
 ·simpa using hq
 ·simpa using hq
 simpa using hq
theorem W3{src:List UInt8}(hs:2000<src.length):EB src=some ([],0,2):=by
 unfold EB;rw[Ao4 (by simp;omega)]
def chain(c:UInt8):Option Bool :=
 if(c==(123:UInt8))then some ((c==(123:UInt8)))else if(c==(125:UInt8))then some ((c==(125:UInt8)))else if(c==(40:UInt8))then some ((c==(40:UInt8)))else if(c==(41:UInt8))then some ((c==(41:UInt8)))else if(c==(59:UInt8))then some ((c==(59:UInt8)))
 else if(c==(44:UInt8))then some ((c==(44:UInt8)))else if(c==(43:UInt8))then some ((c==(43:UInt8)))else if(c==(45:UInt8))then some ((c==(45:UInt8)))else if(c==(42:UInt8))then some ((c==(42:UInt8)))else some ((c==(60:UInt8)))
theorem Yh{c:UInt8}(h:I5 c=false):isL c=false/\isD c=false:=by
 unfold I5 at h;rwa[Bool.or_eq_false_iff]at h
def er(t:AoI):AoI:={ t with At:=0 }
def sh(k:Nat)(t:AoI):AoI:={ t with At:=t.At+(k:Int) }
theorem AoB(k:Nat)(l:List AoI):(l.map (sh k)).map er=l.map er:=by simp[er,sh,ArM]
def Stop(x:UInt8):Prop:=isB x=true\/x=35
theorem RL(h:Stop x):I5 x=false/\isD x=false:=by
 have h1:I5 x=false:=by
  rcases h with h|rfl
  ·exact(UA x).2.2 h
  decide
 exact⟨h1,(Yh h1).2⟩
theorem Acl(h:Stop x)(k:Int):AnQ k x=false:=by
 unfold AnQ;split
 ·exact(RL h).1
 split
 ·exact(RL h).2
 rfl
theorem AcW:∀n:Fin 256,∀y∈sgn (UInt8.ofNat n.val),isB y=false/\y≠35:=by decide +kernel
theorem Ada{c:UInt8}(h:Stop x):x ∉ sgn c:=fun hx=>by
 have:=AcW ⟨c.toNat,Arl c⟩;have e:UInt8.ofNat c.toNat=c:=Ari;simp only[e]at this;have h2:=this x hx;rcases h with h|h
 ·rw[h2.1]at h;cases h
 exact h2.2 h
theorem Abt(p:UInt8->Bool)(x:UInt8)(r:List UInt8)(hx:p x=false):∀s:List UInt8,(s++x::r).takeWhile p=s.takeWhile p
 |[]=>by simp[hx]
 |a::s=>by
  show List.takeWhile p (a::(s++x::r))=_;rw[Aqo,Aqo,Abt p x r hx s]
theorem AcT{w r:List UInt8}(hx:x ∉ w):((s++x::r).take w.length=w)↔(s.take w.length=w):=by
 by_cases h:w.length<=s.length
 ·rw[Art h]
 constructor
 ·intro h2;refine absurd ?_ hx;rw[<-h2,List.take_append];refine List.mem_append_right _ ?_;obtain⟨j,hj⟩:∃j,w.length-s.length=j+1:=⟨w.length-s.length-1,by omega⟩;rw[hj,Arx];exact Apn
 intro h2;have:=ApV List.length h2;simp only[Aqb]at this;omega
theorem AhR{r:List UInt8}(h0:s≠[])(hx:Stop x):tok (s++x::r)=tok s:=by
 unfold tok;rw[AaF _ h0,Abt I5 x r (RL hx).1,Abt isD x r (RL hx).2];have:=AcT (s:=s) (r:=r) (Ada (c:=nth s 0) hx);simp only[this]
theorem Rt.shift{c:Bool}{o:Nat}{s:List UInt8}{l:List AoI}{e:Option (Nat×Int)}(k:Nat)(h:Rt c o s l e):Rt c (o+k) s (l.map (sh k)) (e.map fun p=>(p.1+k,p.2)):=by
 induction h with
 |nil c o=>exact .nil c (o+k)
 |skip h r ih=>
  rw[Nat.add_right_comm]at ih;exact .skip h ih
 |tok h ht r ih=>
  rw[Nat.add_right_comm]at ih;have:=Rt.tok h ht ih;rw[ApE];exact this
 |err h ht hx=>exact .err h ht hx
theorem Rt.join{b:List UInt8}{m:List AoI}{e:Option (Nat×Int)}{c:Bool}{o:Nat}{a:List UInt8}{l:List AoI}{e0:Option (Nat×Int)}(h:Rt c o a l e0):e0=none->Rt false (o+a.length+1) b m e->Rt c o (a++10::b) (l++m) e:=by
 induction h with
 |nil c o=>exact fun _ h=>.skip (AjZ c) h
 |skip h r ih=>
  intro h0 h2;refine .skip h (ih h0 ?_);rw[Apb]at h2;rw[show ∀a b:Nat,a+1+b+1=a+(b+1)+1 by omega];exact h2
 | tok h ht r ih=>
  intro h0 h2;have hp:=RC ht;rename_i c o b1 s t l e;have e1:(b1::s++10::b).drop t.Zb.length=(b1::s).drop t.Zb.length++10::b:=List.drop_append_of_le_length (by simp only[Apb];omega);refine Rt.tok (s:=s++10::b) h ?_ ?_
  ·rw[<-ht];exact AhR (s:=b1::s) (by simp) (.inl (by decide))
  show Rt false _ ((b1::s++10::b).drop t.Zb.length) _ _;rw[e1];refine ih h0 ?_;rw[Aql,Apb];rw[Apb]at h2;have e2:o+t.Zb.length+(s.length+1-t.Zb.length)+1=o+(s.length+1)+1:=by omega
  rw[e2];exact h2
 |err h ht hx=>exact fun h0=>by cases h0
def Nw:Bool->List UInt8->Option Bool
 |c,[]=>some c
 |c,b::s=>match gb c b with
  |some c'=>Nw c' s
  |none=>none
theorem Rt.gap{s:List UInt8}{l:List AoI}{e:Option (Nat×Int)}{c':Bool}:∀(p:List UInt8) (c:Bool) (o:Nat),Nw c p=some c'->Rt c' (o+p.length) s l e->Rt c o (p++s) l e
 |[],c,o,h,r=>by
  obtain rfl:=Ao1 h;exact r
 | b::p,c,o,h,r=>by
  unfold Nw at h;cases hg:gb c b with
  |none=>rw[hg]at h;cases h
  |some c2=>
   rw[hg]at h;rw[Apb,AqI p.length 1,<-AqB]at r;exact .skip hg (Rt.gap p c2 (o+1) h r)
theorem AgZ(h:Tk t):gb false (nth t.Zb 0)=none:=by
 obtain⟨h1,_,h3⟩:=h;rcases h3 with⟨_,a,_⟩|⟨_,_,a,_⟩|⟨_,_,_,a,_⟩
 ·have:=(UA (nth t.Zb 0)).1 a;exact UL this.1 this.2.1
 ·have:=(UA (nth t.Zb 0)).2.1 a;exact UL this.1 this.2.1
 have:=Afw (nth t.Zb 0) (by rw[<-a];exact h1);exact UL this.2.2.2.1 this.2.2.2.2.1
theorem Rt.tok'{o:Nat}{r:List UInt8}{t:AoI}{l:List AoI}{e:Option (Nat×Int)}(h:Tk t)(he:AlX t.Za r)(hr:Rt false (o+t.Zb.length) r l e):Rt false o (t.Zb++r) ({ t with At:=(o:Int) }::l) e:=by
 have hh:=AgZ h;have ht:=AjD r h he;have hd:(t.Zb++r).drop t.Zb.length=r:=List.drop_left
 obtain⟨b,x,hx⟩:∃b x,t.Zb=b::x:=by
  cases hx:t.Zb with
  |nil=>exact absurd hx h.1
  |cons b x=>exact⟨b,x,rfl⟩
 have e0:t.Zb++r=b::(x++r):=by rw[hx];rfl
 have e1:nth t.Zb 0=b:=by rw[hx];rfl
 rw[e1]at hh;rw[e0]at ht hd ⊢;refine Rt.tok hh ht ?_;rw[hd];exact hr
theorem Rt.sum{c:Bool}{o:Nat}{s:List UInt8}{l:List AoI}{e:Option (Nat×Int)}(h:Rt c o s l e):(l.map fun t=>t.Zb.length).sum<=s.length:=by
 induction h with
 |nil=>simp
 |skip h r ih=>simp only[Apb];omega
 |tok h ht r ih=>
  have:=RC ht;simp only[Aql,Apb,ApE,AqC]at ih ⊢;omega
 |err=>simp
theorem Rt.insert{p:List UInt8}(hp:Nw false p=some false)(hs:∃x r,p=x::r/\Stop x){c:Bool}{o:Nat}{s:List UInt8}{l:List AoI}{e:Option (Nat×Int)}(h:Rt c o s l e) :e=none->∀n,n<l.length->∃k m,(nth l n).At=((o+k:Nat):Int)/\k<=s.length/\Rt c o (s.take k++(p++s.drop k)) m none/\m.map er=l.map er:=by
 induction h with
 |nil c o=>intro _ n hn;simp at hn
 |skip h r ih=>
  intro he n hn;obtain⟨k,m,h1,h2,h3,h4⟩:=ih he n hn;refine⟨k+1,m,by rw[h1];omega,by simp only[Apb];omega,?_,h4⟩;exact .skip h h3
 | tok h ht r ih=>
  intro he n hn;subst he;rename_i c o b s t l;have hi:=Ru (s:=b::s) (by simp) (by rw[ht]);rw[ht]at hi;obtain⟨hk,hsplit,hends,hhead⟩:=hi;obtain rfl:=(QB h).1;cases n with
  |zero=>
   refine⟨0,({ t with At:=(o:Int) }::l).map (sh p.length),rfl,by simp,?_,AoB _ _⟩;show Rt false o (p++b::s) _ none;exact Rt.gap p false o hp ((Rt.tok h ht r).shift p.length)
  | succ n=>
   obtain⟨k,m,h1,h2,h3,h4⟩:=ih rfl n (by simpa using hn);have hlen:=ApV List.length hsplit;simp only[Ao5,Apb]at hlen;refine⟨t.Zb.length+k,{ t with At:=(o:Int) }::m,?_,by simp only[Apb];omega,?_,by rw[ApE,ApE,h4]⟩
   ·show(nth l n).At=_;rw[h1];omega
   have e1:(b::s).take (t.Zb.length+k)++(p++(b::s).drop (t.Zb.length+k))=t.Zb++(((b::s).drop t.Zb.length).take k++(p++((b::s).drop t.Zb.length).drop k)):=by
    rw[Asc,<-ApZ t.Zb];congr 1;rw[List.take_add];congr 1
    conv=>lhs;rw[hsplit]
    exact List.take_left
   rw[e1];refine Rt.tok' hk ?_ h3;intro x hx;cases k with
   |zero=>
    obtain⟨y,q,rfl,hy⟩:=hs;obtain rfl:=Ao1 hx;exact Acl hy _
   | succ k=>
    cases hd:(b::s).drop t.Zb.length with
    |nil=>rw[hd]at h2;simp at h2
    |cons y q=>
     rw[hd]at hx hends;exact hends x hx
 |err h ht hx=>intro he;cases he
theorem Rt.head{c:Bool}{o:Nat}{s:List UInt8}{l:List AoI}{e:Option (Nat×Int)}(h:Rt c o s l e):e=none->match l with
  |[]=>∃c',Nw c s=some c'
  |t::l'=>∃g r,s=g++(t.Zb++r)/\Nw c g=some false/\t.At=((o+g.length:Nat):Int)/\t.Zb≠[]/\Rt false (o+g.length+t.Zb.length) r l' none:=by
 induction h with
 |nil c o=>exact fun _=>⟨c,rfl⟩
 | skip h r ih=>
  intro he;have:=ih he;rename_i c c' o b s l e;cases l with
  |nil=>
   obtain⟨c2,h2⟩:=this;exact⟨c2,by unfold Nw;rw[h];exact h2⟩
  |cons t l=>
   obtain⟨g,q,h1,h2,h3,h4,h5⟩:=this;have e1:∀n,o+1+g.length+n=o+(b::g).length+n:=fun n=>by simp only[Apb];omega
   refine⟨b::g,q,by rw[h1];rfl,by unfold Nw;rw[h];exact h2,?_,h4,?_⟩
   ·rw[h3];simp only[Apb];omega
   rw[<-e1];exact h5
 |tok h ht r ih=>
  intro he;subst he;rename_i c o b s t l;have hi:=Ru (s:=b::s) (by simp) (by rw[ht]);rw[ht]at hi;obtain⟨hk,hsplit,hends,hhead⟩:=hi;exact⟨[],_,hsplit,by rw[(QB h).1];rfl,rfl,hk.1,r⟩
 |err h ht hx=>intro he;cases he
set_option maxRecDepth 8000
def cutLD:List UInt8:=[97,98,99,100,101,102,103,104,105,106,107,108,109,110,111,112,113,114,115,116,117,118,119,120,121,122,48,49,50,51,52,53,54,55,56,57]
theorem XC:(match Cs cutLD with|some (f,b)=>b&&(List.range 256).all (fun n=>f.get n==I5 (UInt8.ofNat n))|none=>false)=true:=by decide +kernel
theorem AmB:∃f:Arr Bool 256,Cs cutLD=some (f,true)/\∀c:UInt8,f.get c.toNat=I5 c:=by
 have h:=XC;cases e:Cs cutLD with
 |none=>rw[e]at h;cases h
 |some y=>
  obtain⟨f,b⟩:=y;rw[e]at h;simp only[Ape,Api,ApK,Ap9]at h;obtain⟨rfl,h⟩:=h;refine⟨f,rfl,fun c=>?_⟩;have:=h c.toNat (by have:=c.toNat_lt;omega);simpa using this
theorem PX(f:Arr Bool 256)(c:UInt8):B0 f c=some (f.get c.toNat,f):=by
 unfold B0;rw[Ao4 (Au (by have:=c.toNat_lt;omega))]
theorem Q1{s:List UInt8}(h:0<s.length):s=s.take (s.length-1)++[nth s (s.length-1)]:=by
 have h1:s.length-1<s.length:=by omega
 have:=Apv h1;rw[show s.length-1+1=s.length by omega,Ap0]at this;rw[BB h1];exact this
theorem XP(f:Arr Bool 256)(hf:∀c:UInt8,f.get c.toNat=I5 c)(s:List UInt8)(hs:s.length<1000000):TP (C5 s f) fun z=>z.2=f/\∃t,s=z.1++t/\(∀c∈t,I5 c=true)/\(z.1=[]\/∃u c,z.1=u++[c]/\I5 c=false):=by
 unfold C5;refine AD (Q:=fun z=>z.2=f/\∃t,s=z.1++t/\(∀c∈t,I5 c=true)/\(z.1=[]\/∃u c,z.1=u++[c]/\I5 c=false)) (AD (Q:=fun z=>z.2=f/\∃t,s=z.1++t/\(∀c∈t,I5 c=true)/\(z.1=[]\/∃u c,z.1=u++[c]/\I5 c=false)) ?_ fun z hz=>Aj hz) fun z hz=>Aj hz
 refine AY (fun v=>v.2=f/\v.1.length<1000000/\∃t,s=v.1++t/\∀c∈t,I5 c=true) (fun v=>v.1.length) ?_ ⟨rfl,hs,[],by simp,by simp⟩ (by simp only;omega);rintro⟨r,g⟩ ⟨hg,hl,t,ht,hc⟩;simp only at hg hl ht hc ⊢;subst hg;unfold CC;refine AB (fun h=>?_) fun h=>Aj ⟨rfl,t,ht,hc,.inl (ApF.1 (by simpa using h))⟩
 have hr:0<r.length:=by simpa using h
 have hw:w64 ((r.length:Int)-1)=((r.length-1:Nat):Int):=by rw[Hq (by omega)];omega
 rw[hw];refine D1 (Au (by omega)) ?_;rw[PX];simp only[Ai,Apc,hf];refine AB (fun hb=>Aj ⟨rfl,t,ht,hc,.inr ⟨_,_,Q1 hr,by simpa using hb⟩⟩) fun hb=>D1 (Py (by omega)) (A9 (Aj ⟨⟨rfl,?_,nth r (r.length-1)::t,?_,?_⟩,?_⟩))
 ·simp only[Aqb];omega
 ·simp only;rw[ht]
  conv=>lhs;rw[Q1 hr]
  simp
 ·intro c hcm;rcases Apq.1 hcm with rfl|hcm
  ·simpa using hb
  exact hc c hcm
 simp only[Aqb];omega
theorem XO(f:Arr Bool 256)(hf:∀c:UInt8,f.get c.toNat=I5 c)(s:List UInt8)(hs:s.length<1000000):TP (CJ s f) fun z=>z.1=[]->∀c∈s,I5 c=true:=by
 unfold CJ;refine AD (Q:=fun z=>z.1=[]->∀c∈s,I5 c=true) (AD (Q:=fun z=>z.1=[]->∀c∈s,I5 c=true) ?_ fun z hz=>Aj hz) fun z hz=>Aj hz
 refine AY (fun v=>v.2=f/\v.1.length<1000000/\∃t,s=t++v.1/\∀c∈t,I5 c=true) (fun v=>v.1.length) ?_ ⟨rfl,hs,[],by simp,by simp⟩ (by simp only;omega);rintro⟨r,g⟩ ⟨hg,hl,t,ht,hc⟩;simp only at hg hl ht hc ⊢;subst hg;unfold CR
 refine AB (fun h=>?_) fun h=>Aj fun e=>by
  simp only at e;rw[ht,e,Ap3];exact hc
 have hr:0<r.length:=by simpa using h
 refine D1 (Au (k:=0) hr) ?_;rw[PX];simp only[Ai,hf];refine AB (fun hb=>Aj fun e=>by simp only at e;rw[e]at hr;simp at hr) fun hb=>D1 (Py (k:=1) (by omega)) (A9 (Aj ⟨⟨rfl,?_,t++[nth r 0],?_,?_⟩,?_⟩))
 ·simp only[Aqb,Aql];omega
 ·match r,hr with
  |c::r,_=>simp[ht,nth]
 ·intro c hcm;rcases Apl.1 hcm with hcm|hcm
  ·exact hc c hcm
  simp only[ApJ]at hcm;subst hcm;simpa using hb
 simp only[Aqb,Aql];omega
def Ae1(s:List UInt8):Prop:=s.length<=32/\s≠[]/\isL (nth s 0)=true/\∀c∈s,I5 c=true
theorem Uy(s:List UInt8):TP (GC s) fun b=>b=true->Ae1 s:=by
 unfold GC;refine AD (Q:=fun b=>b=true->Ae1 s) ?_ fun b hb=>Aj hb
 refine AB (fun h1=>?_) fun _=>Aj fun e=>by cases e
 have hl:s.length<=32:=by simp only[App]at h1;omega
 refine AB (fun h2=>?_) fun _=>Aj fun e=>by cases e
 have h2':s≠[]:=by simpa using h2
 have h0:0<s.length:=Aqm.2 h2';refine D1 (Au (k:=0) h0) (AB (fun h3=>?_) fun _=>Aj fun e=>by cases e);refine D1 (Au (k:=0) h0) (AB (fun h4=>?_) fun _=>Aj fun e=>by cases e);obtain⟨f,hf1,hf2⟩:=AmB;have hcut:([97,98,99,100,101,102,103,104,105,106,107,108,109,110,111,112,113,114,115,116,117,118,119,120,121,122,48,49,50,51,52,53,54,55,56,57]:List UInt8)=cutLD:=rfl;rw[hcut];refine AD (Q:=fun y=>y=[]->∀c∈s,I5 c=true) ?_ fun y hy=>Aj fun e=>⟨hl,h2',?_,hy (by simpa using e)⟩
 ·unfold Ij;rw[Ao6 (by simpa using h2')];have e1:(cutLD==([]:List UInt8))=false:=rfl;rw[e1];simp only[Ai,Apu,ApY];have e2:((cutLD.length:Int)==1)=false:=by decide
  rw[e2];simp only[Ai,Apu,ApY];rw[hf1];simp only[Ai,ApL];refine AD (XP f hf2 s (by omega)) fun z hz=>?_
  obtain⟨hz1,t,ht,hc,hlast⟩:=hz;rw[hz1]
  have hzl:z.1.length<1000000:=by
   have:=ApV List.length ht;simp only[Ao5]at this;omega
  refine AD (XO f hf2 z.1 hzl) fun y hy=>Aj fun e c hcm=>?_
  rw[ht]at hcm;rcases Apl.1 hcm with hcm|hcm
  ·exact hy e c hcm
  exact hc c hcm
 unfold isL;simp only[App]at h3 h4;have h3':(97:UInt8)<=nth s 0:=h3;simp[h3',h4]
theorem Rs(d:Arr Int 4):Yz (Du d):=by
 unfold Du;refine AD (Q:=fun _=>True) (AD (Q:=fun _=>True) ?_ fun z _=>Aj trivial) fun m _=>AD (Q:=fun _=>True) ?_ fun _ _=>Aj trivial
 ·refine AY (fun v=>∃k:Nat,v.1=(k:Int)/\k<=4) (fun v=>(4-v.1).toNat) ?_ ⟨0,rfl,Apx _⟩ (by simp);rintro⟨_,m⟩ ⟨k,rfl,hk⟩;unfold E8;refine AB (fun h=>?_) fun _=>Aj trivial
  have hk':k<4:=by simp only[App]at h;omega
  exact D1 (Au hk') (A9 (Aj ⟨⟨k+1,Bv (by omega),hk'⟩,by simp only;rw[Bv (by omega)];omega⟩))
 refine AB (fun _=>AB (fun _=>Aj trivial) fun _=>Aj trivial) fun _=>Aj trivial
def Mh:Nat->AoM->Prop
 |0,_=>False
 | d+1,x=>1<=x.Op/\x.Op<=11/\0<=x.N/\x.N<=(if x.Op=1 then 1099511627776 else if x.Op=2 then 15 else 0)/\(x.L.length:Int)=(if x.Op=1 then 0 else if x.Op=2 then 0 else if x.Op=11 then 4 else 2) /\
   Du x.Unit=some true/\(x.Op≠1->x.Unit=⟨[0,0,0,0],rfl⟩)/\∀y∈x.L,Mh d y
theorem Z6{f:AoM->Option Bool}{P:AoM->Prop}(s:List AoM)(hs:s.length<1000000)(hf:∀y∈s,TP (f y) fun b=>b=false->P y):TP (Ce s f) fun b=>b=false->∀y∈s,P y:=by
 unfold Ce;refine AD (Q:=fun i=>decide (i≥0)=false->∀y∈s,P y) ?_ fun i hi=>Aj hi
 unfold DT
 refine AD (Q:=fun z=>match z with
  |.inl ()=>∀y∈s,P y
  |.inr r=>0<=r) ?_ fun z hz=>?_
 ·refine AD (Q:=fun z=>match z with
   |.inl ()=>∀y∈s,P y
   |.inr (.inr r)=>0<=r
   |_=>False) ?_ fun z hz=>?_
  ·refine AY (fun i=>∃k:Nat,i=(k:Int)/\k<=s.length/\∀y∈s.take k,P y) (fun i=>((s.length:Int)-i).toNat) ?_ ⟨0,rfl,Apx _,by simp⟩ (by simp;omega);rintro _ ⟨k,rfl,hk,hp⟩;unfold Db;refine AB (fun h=>?_) fun h=>Aj ?_
   ·have hk':k<s.length:=by simpa using h
    refine D1 (Au hk') ?_;simp only[Apc];refine AD (hf _ (AP hk')) fun b hb=>AB (fun _=>Aj (Int.natCast_nonneg k)) fun hn=>Aj ⟨⟨k+1,Bv (by omega),hk',fun y hy=>?_⟩,by rw[Bv (by omega)];omega⟩
    rw[Apv hk',<-BB hk']at hy;rcases Apl.1 hy with hy|hy
    ·exact hp y hy
    simp only[ApJ]at hy;subst hy;exact hb (Apy hn)
   have:k=s.length:=by simp at h;omega
   subst this;rw[Ap0]at hp;exact hp
  match z,hz with
  |.inl (),hz=>exact Aj hz
  |.inr (.inr r),hz=>exact Aj hz
 match z,hz with
 |.inl (),hz=>exact Aj fun _=>hz
 |.inr r,hz=>exact Aj fun e=>by simp at e;omega
theorem PY:∀(d:Nat) (x:AoM) (n:Nat),Dp d x->d<=n->TP (EK n x) fun b=>b=true->Mh d x
 |0,x,n,h,_=>h.elim
 |d+1,x,0,_,h=>by omega
 | d + 1,x,n+1,h,hn=>by
  show TP (EC (EK n) x) _;unfold EC
  refine AD (Q:=fun z=>match z with
   |.inl (most,k)=>(1<=x.Op/\x.Op<=11)/\most=(if x.Op=1 then 1099511627776 else if x.Op=2 then 15 else 0)/\k=(if x.Op=1 then 0 else if x.Op=2 then 0 else if x.Op=11 then 4 else 2)
   |.inr b=>b=false) ?_ fun z hz=>?_
  ·refine AD (Q:=fun z=>match z with
    |.inl k=>x.Op≠1/\x.Op≠2/\k=(if x.Op=11 then 4 else 2)
    |.inr (.inl (most,k))=>(x.Op=1/\most=1099511627776/\k=0)\/(x.Op=2/\most=15/\k=0)
    |.inr (.inr b)=>False) ?_ fun z hz=>?_
   ·refine AB (fun h1=>?_) fun h1=>AB (fun h2=>?_) fun h2=>?_
    ·exact Aj (.inl ⟨by simpa using h1,rfl,rfl⟩)
    ·exact Aj (.inr ⟨by simpa using h2,rfl,rfl⟩)
    refine AB (fun h3=>Aj ?_) fun h3=>Aj ?_
    ·have:x.Op=11:=by simpa using h3
     exact⟨by simpa using h1,by simpa using h2,by rw[Ao4 this]⟩
    have:x.Op≠11:=by simpa using h3
    exact⟨by simpa using h1,by simpa using h2,by rw[Ao6 this]⟩
   match z,hz with
   |.inl k,hz=>
    obtain⟨h1,h2,rfl⟩:=hz;refine AD (Q:=fun b=>b=false->1<=x.Op/\x.Op<=11) (AB (fun _=>Aj fun e=>by cases e) fun ha=>Aj fun e=>?_) fun b hb=>AB (fun _=>Aj rfl) fun hn=>Aj ⟨hb (Apy hn),by rw[Ao6 h1,Ao6 h2],by rw[Ao6 h1,Ao6 h2]⟩
    simp at ha e;omega
   |.inr (.inl (most,k)),hz=>
    refine Aj ?_;rcases hz with⟨h1,rfl,rfl⟩|⟨h1,rfl,rfl⟩
    ·exact⟨by omega,by rw[Ao4 h1],by rw[Ao4 h1]⟩
    exact⟨by omega,by rw[Ao6 (by omega),Ao4 h1],by rw[Ao6 (by omega),Ao4 h1]⟩
  match z,hz with
  |.inr b,hz=>exact Aj fun e=>by rw[hz]at e;cases e
  | .inl (most,k),hz=>
   obtain⟨ho,rfl,rfl⟩:=hz;refine AD (Q:=fun b=>b=false->0<=x.N/\x.N<=(if x.Op=1 then 1099511627776 else if x.Op=2 then 15 else 0)/\(x.L.length:Int)=(if x.Op=1 then 0 else if x.Op=2 then 0 else if x.Op=11 then 4 else 2)/\Du x.Unit=some true/\(x.Op≠1->x.Unit=⟨[0,0,0,0],rfl⟩)) ?_ fun b hb=>?_
   ·refine AB (fun _=>Aj fun e=>by cases e) fun h1=>AB (fun _=>Aj fun e=>by cases e) fun h2=>AB (fun _=>Aj fun e=>by cases e) fun h3=>?_
    obtain⟨wb,hw,_⟩:=Rs x.Unit;rw[hw];simp only[Ai];have h1':0<=x.N:=by simpa using h1
    have h2':x.N<=(if x.Op=1 then 1099511627776 else if x.Op=2 then 15 else 0):=by simpa using h2
    have h3':(x.L.length:Int)=(if x.Op=1 then 0 else if x.Op=2 then 0 else if x.Op=11 then 4 else 2):=by simpa using h3
    refine AB (fun _=>Aj fun e=>by cases e) fun h4=>?_
    have h4':wb=true:=by simpa using h4
    subst h4';refine AB (fun h5=>Aj fun e=>⟨h1',h2',h3',rfl,fun _=>by simpa using e⟩) fun h5=>Aj fun _=>⟨h1',h2',h3',rfl,fun h6=>absurd h6 (by simpa using h5)⟩
   refine AB (fun _=>Aj fun e=>by cases e) fun hn'=>?_
   obtain⟨q1,q2,q3,q4,q5⟩:=hb (Apy hn');refine AD (Z6 (P:=Mh d) x.L (by have:=h.1;omega) fun y hy=>?_) fun b hb=>Aj fun e=>⟨ho.1,ho.2,q1,q2,q3,q4,q5,hb (by simpa using e)⟩
   unfold Gk;exact AD (PY d y n (h.2 y hy) (by omega)) fun b hb=>Aj fun e=>hb (by simpa using e)
structure OkC(c:AoN):Prop where
  word:Ae1 c.Zd
  res:Af4 c.Zd=false
  pay:Mh 900000 c.Pay
  tests:∀w∈c.Ze,(0<=w.Attr/\w.Attr<16)/\(0<=w.Low/\0<=w.Zc)/\w.Low<=1099511627776/\w.Zc<=1099511627776
  few:c.Ze.length<=8
  flat:∃k,DO c.Pay=some k/\k<=24
structure OkT(t:AoO):Prop where
  word:Ae1 t.Zd
  res:Af4 t.Zd=false
  kind:1<=t.For/\t.For<=6
  few:t.Zf.length<=64
  all:∀c∈t.Zf,OkC c
  apart:(t.Zf.map (·.Zd)).Nodup
def Tz(n:Nat)(t:AoO):Prop:=t.Zf.length<=n/\∀c∈t.Zf,c.Ze.length<=8/\Ez 900000 c.Pay
theorem Yg(l:List AoK)(hl:l.length<1000000):TP (Be (fun(v:Int)=>EG l v) 0) fun z=>match z with
  |.inl ()=>∀w∈l,(0<=w.Attr/\w.Attr<16)/\(0<=w.Low/\0<=w.Zc)/\w.Low<=1099511627776/\w.Zc<=1099511627776
  |.inr (.inr (.inr (.inr (.inr (.inr e)))))=>e=1
  |_=>False:=by
 refine AY (fun i=>∃k:Nat,i=(k:Int)/\k<=l.length/\∀w∈l.take k,(0<=w.Attr/\w.Attr<16)/\(0<=w.Low/\0<=w.Zc)/\w.Low<=1099511627776/\w.Zc<=1099511627776) (fun i=>((l.length:Int)-i).toNat) ?_ ⟨0,rfl,Apx _,by simp⟩ (by simp;omega);rintro _ ⟨k,rfl,hk,hp⟩;unfold EG;refine AB (fun h=>?_) fun h=>Aj ?_
 ·have hk':k<l.length:=by simpa using h
  refine D1 (Au hk') (A9 (A9 (A9 ?_)));simp only[Apc];refine AD (Q:=fun b=>b=false->(0<=(nth l k).Attr/\(nth l k).Attr<16)/\(0<=(nth l k).Low/\0<=(nth l k).Zc)/\(nth l k).Low<=1099511627776/\(nth l k).Zc<=1099511627776) ?_ fun b hb=>AB (fun _=>Aj rfl) fun hn=>Aj ⟨⟨k+1,Bv (by omega),hk',fun y hy=>?_⟩,by rw[Bv (by omega)];omega⟩
  ·refine AB (fun _=>Aj fun e=>by cases e) fun h1=>AB (fun _=>Aj fun e=>by cases e) fun h2=>AB (fun _=>Aj fun e=>by cases e) fun h3=>Aj fun e=>?_
   simp only[App]at h1 h2 h3;have h4:¬(Qe (nth l k).Low (nth l k).Zc>1099511627776):=by simpa using e
   unfold Qm at h3;unfold Qe at h4;refine⟨by omega,?_,?_⟩
   ·split at h3<;>omega
   split at h4<;>omega
  rw[Apv hk',<-BB hk']at hy;rcases Apl.1 hy with hy|hy
  ·exact hp y hy
  simp only[ApJ]at hy;subst hy;exact hb (Apy hn)
 have:k=l.length:=by simp at h;omega
 subst this;rw[Ap0]at hp;exact hp
structure Seen(t:AoO)(k:Nat)(named limit:Bool)(m:Nj):Prop where
  map:∀s,(m s).getD false=true↔s∈(t.Zf.take k).map (·.Zd)
  nm:named=false->Af4 t.Zd=false/\(∀c∈t.Zf.take k,Af4 c.Zd=false)/\((t.Zf.take k).map (·.Zd)).Nodup
  lim:limit=false->t.Zf.length<=64/\∀c∈t.Zf.take k,c.Ze.length<=8/\∃k,DO c.Pay=some k/\k<=24
  ok:∀c∈t.Zf.take k,Ae1 c.Zd/\Mh 900000 c.Pay/\∀w∈c.Ze,(0<=w.Attr/\w.Attr<16)/\(0<=w.Low/\0<=w.Zc)/\w.Low<=1099511627776/\w.Zc<=1099511627776
theorem Lu(t:AoO){n:Nat}(ht:Tz n t)(hn:n<1000000):TP (Dg t) fun e=>e=0->OkT t:=by
 unfold Dg;refine AD (Q:=fun b=>b=false->Ae1 t.Zd/\1<=t.For/\t.For<=6) ?_ fun b hb=>?_
 ·refine AD (Uy t.Zd) fun b hb=>AB (fun _=>Aj fun e=>by cases e) fun h1=>AB (fun _=>Aj fun e=>by cases e) fun h2=>Aj fun e=>⟨hb (by simpa using h1),?_⟩
  simp at h2 e;omega
 refine AB (fun _=>Aj fun e=>by cases e) fun hnb=>?_
 obtain⟨w1,w2⟩:=hb (Apy hnb);rw[L6];simp only[Ai];refine A9 ?_
 refine AD (Q:=fun z=>match z with
  |.inl (named,limit)=>named=false->limit=false->OkT t
  |.inr e=>e=1) ?_ fun z hz=>?_
 ·refine AD (Q:=fun z=>match z with
   |.inl (named,limit)=>named=false->limit=false->OkT t
   |.inr (.inr e)=>e=1
   |_=>False) ?_ fun z hz=>?_
  ·refine AY (fun v=>∃k:Nat,v.2.2.1=(k:Int)/\k<=t.Zf.length/\Seen t k v.1 v.2.1 v.2.2.2) (fun v=>((t.Zf.length:Int)-v.2.2.1).toNat) ?_ ⟨0,rfl,Apx _,⟨fun s=>by simp[no2],fun e=>⟨e,by simp,by simp⟩,fun e=>⟨by have:=of_decide_eq_false e;omega,by simp⟩,by simp⟩⟩ (by have:=ht.1;simp;omega);rintro⟨named,limit,_,m⟩ ⟨k,rfl,hk,hS⟩;simp only at hS ⊢;unfold Gx;refine AB (fun h=>?_) fun h=>Aj fun e1 e2=>?_
   ·have hk':k<t.Zf.length:=by simpa using h
    have hmem:=AP hk';have hcl:=ht.1;obtain⟨hw8,hez⟩:=ht.2 _ hmem
    have htk:∀c,c∈t.Zf.take (k+1)↔c∈t.Zf.take k\/c=nth t.Zf k:=by
     intro c;rw[Apv hk',<-BB hk',Apl,ApJ]
    refine AD (Q:=fun z=>match z with
     |.inl (named',limit',m')=>Seen t (k+1) named' limit' m'
     |.inr (.inr (.inr (.inr e)))=>e=1
     |_=>False) ?_ fun z hz=>?_
    ·refine D1 (Au hk') ?_;simp only[Bt,Apc,Ht];refine AD (Q:=fun b=>b=false->Ae1 (nth t.Zf k).Zd/\Mh 900000 (nth t.Zf k).Pay) ?_ fun b hb=>AB (fun _=>Aj rfl) fun hnb=>?_
     ·refine AD (Uy _) fun b hb=>AB (fun _=>Aj fun e=>by cases e) fun h1=>?_
      exact AD (PY 900000 _ _ hez.1 (by omega)) fun b2 hb2=>Aj fun e=>⟨hb (by simpa using h1),hb2 (by simpa using e)⟩
     obtain⟨c1,c2⟩:=hb (Apy hnb)
     refine AD (Q:=fun z=>match z with
      |.inl ()=>∀w∈(nth t.Zf k).Ze,(0<=w.Attr/\w.Attr<16)/\(0<=w.Low/\0<=w.Zc)/\w.Low<=1099511627776/\w.Zc<=1099511627776
      |.inr (.inr (.inr (.inr (.inr e))))=>e=1
      |_=>False) (AD (Yg _ (by omega)) fun z hz=>?_) fun z hz=>?_
     ·match z,hz with
      |.inl (),hz=>exact Aj hz
      |.inr (.inr (.inr (.inr (.inr (.inr e))))),hz=>exact Aj hz
     match z,hz with
     |.inr (.inr (.inr (.inr (.inr e)))),hz=>exact Aj hz
     | .inl (),hz=>
      simp only;refine AD (Q:=fun b=>b=false->named=false/\Af4 (nth t.Zf k).Zd=false/\(m (nth t.Zf k).Zd).getD false=false) ?_ fun named' hn'=>?_
      ·refine AB (fun _=>Aj fun e=>by cases e) fun h1=>?_
       rw[L6];simp only[Ai];exact AB (fun _=>Aj fun e=>by cases e) fun h2=>Aj fun e=>⟨Apy h1,Apy h2,e⟩
      refine AD (Q:=fun b=>b=false->limit=false/\∃k2,DO (nth t.Zf k).Pay=some k2/\k2<=24) ?_ fun limit' hl'=>?_
      ·refine AB (fun _=>Aj fun e=>by cases e) fun h1=>AB (fun _=>Aj fun e=>by cases e) fun h2=>?_
       obtain⟨k2,e2,_⟩:=Kq 900000 (nth t.Zf k).Pay 18446744073709551616 hez.1 (by omega) (by omega);have e3:DO (nth t.Zf k).Pay=some k2:=e2;rw[e3];simp only[Ai];exact Aj fun e=>⟨Apy h1,k2,rfl,by simpa using e⟩
      refine Aj ⟨fun s=>?_,fun e=>?_,fun e=>?_,fun c hc=>?_⟩
      ·rw[Apv hk',<-BB hk',AqN,Apl];simp only[up2,ApE,Aqk,ApJ];by_cases es:s=(nth t.Zf k).Zd
       ·rw[Ao4 es];simp[es]
       rw[Ao6 es,hS.map s];simp[es]
      ·obtain⟨n1,n2,n3⟩:=hn' e;obtain⟨q1,q2,q3⟩:=hS.nm n1;refine⟨q1,fun c hc=>?_,?_⟩
       ·rcases(htk c).1 hc with hc|rfl
        ·exact q2 c hc
        exact n2
       rw[Apv hk',<-BB hk',AqN];refine List.nodup_append.2 ⟨q3,by simp,fun a ha b hb=>?_⟩;simp only[ApE,Aqk,ApJ]at hb;subst hb;intro e;subst e;rw[(hS.map _).2 ha]at n3;cases n3
      ·obtain⟨n1,n2⟩:=hl' e;obtain⟨q1,q2⟩:=hS.lim n1;refine⟨q1,fun c hc=>?_⟩;rcases(htk c).1 hc with hc|rfl
       ·exact q2 c hc
       exact⟨hw8,n2⟩
      rcases(htk c).1 hc with hc|rfl
      ·exact hS.ok c hc
      exact⟨c1,c2,hz⟩
    match z,hz with
    |.inl (named',limit',m'),hz=>exact Aj ⟨⟨k+1,Bv (by omega),hk',hz⟩,by simp only;rw[Bv (by omega)];omega⟩
    |.inr (.inr (.inr (.inr e))),hz=>exact Aj hz
   have:k=t.Zf.length:=by simp at h;omega
   subst this;obtain⟨q1,q2,q3⟩:=hS.nm e1;obtain⟨p1,p2⟩:=hS.lim e2;have ho:=hS.ok;rw[Ap0]at q2 q3 p2 ho;exact⟨w1,q1,w2,p1,fun c hc=>⟨(ho c hc).1,q2 c hc,(ho c hc).2.1,(ho c hc).2.2,(p2 c hc).1,(p2 c hc).2⟩,q3⟩
  match z,hz with
  |.inl (named,limit),hz=>exact Aj hz
  |.inr (.inr e),hz=>exact Aj hz
 match z,hz with
 |.inr e,hz=>exact Aj fun e0=>by rw[hz]at e0;cases e0
 |.inl (named,limit),hz=>
  refine AB (fun _=>Aj fun e=>by cases e) fun h1=>AB (fun _=>Aj fun e=>by cases e) fun h2=>Aj fun _=>hz (Apy h1) (Apy h2)
theorem Uq(s:List Int)(v:Int)(hl:s.length<1000000):Cy s v=some (if s.findIdx (v==·)<s.length then((s.findIdx (v==·):Nat):Int)else -1):=by
 have key:TP (Cy s v) fun r=>r=if s.findIdx (v==·)<s.length then((s.findIdx (v==·):Nat):Int)else -1:=by
  unfold Cy
  refine AD (Q:=fun z=>match z with
   |.inl ()=>s.findIdx (v==·)=s.length
   |.inr r=>s.findIdx (v==·)<s.length/\r=((s.findIdx (v==·):Nat):Int)) ?_ fun z hz=>?_
  ·refine AD (Q:=fun z=>match z with
    |.inl ()=>s.findIdx (v==·)=s.length
    |.inr (.inr r)=>s.findIdx (v==·)<s.length/\r=((s.findIdx (v==·):Nat):Int)
    |_=>False) ?_ fun z hz=>?_
   ·refine AY (fun i=>∃k:Nat,i=(k:Int)/\k<=s.length/\∀j,j<k->(v==nth s j)=false) (fun i=>((s.length:Int)-i).toNat) ?_ ⟨0,rfl,Apx _,fun j h=>by omega⟩ (by simp;omega);rintro _ ⟨k,rfl,hk,hj⟩;unfold Er;refine AB (fun h=>?_) fun h=>Aj ?_
    ·have hk':k<s.length:=by simpa using h
     refine D1 (Au hk') ?_;simp only[Apc];refine AB (fun hv=>?_) fun hv=>Aj ⟨⟨k+1,Bv (by omega),hk',fun j h1=>?_⟩,by rw[Bv (by omega)];omega⟩
     ·have he:s.findIdx (v==·)=k:=by
       rw[List.findIdx_eq hk'];refine⟨by rw[<-BB hk'];exact hv,fun j hjk=>?_⟩;rw[<-BB (by omega)];exact hj j hjk
      refine Aj ⟨by rw[he];exact hk',by rw[he]⟩
     by_cases e:j<k
     ·exact hj j e
     have:j=k:=by omega
     subst this;exact Apy hv
    have:k=s.length:=by simp at h;omega
    subst this;rw[List.findIdx_eq_length];intro x hx;obtain⟨j,hj',rfl⟩:=ApW hx;rw[<-BB hj'];exact hj j hj'
   match z,hz with
   |.inl (),hz=>exact Aj hz
   |.inr (.inr r),hz=>exact Aj hz
  match z,hz with
  |.inl (),hz=>exact Aj (by rw[Ao6 (by omega)])
  |.inr r,hz=>exact Aj (by rw[Ao4 hz.1];exact hz.2)
 obtain⟨r,e,h⟩:=key;rw[e,h]
theorem O4{n k:Nat}(hn:n<=2000000000)(hk:k<=200):FY n k:=by
 refine⟨by unfold maxLen;omega,?_⟩;have:n*k<=2000000000*200:=Nat.mul_le_mul hn hk;unfold Hu;omega
theorem Gz(p:AoV)(ws:List (List UInt8))(h:p.l.length+ws.length<=2000000000):Aq p ws=some ⟨p.l++ws⟩:=by
 unfold Aq;rw[Ao4 (O4 h (by decide)),Bt]
theorem Xc(p:AoV)(n:Int)(h:p.l.length<2000000000)(h0:0<=n)(h1:n<=1099511627776):Bm p n=some ⟨p.l++[Lib.itoa n]⟩:=by
 unfold Bm strconv_Itoa AcL;rw[Ao4 (by omega)];simp only[Ai,Bt];rw[Gz _ _ (by simp;omega)];simp only[Ai]
def per:List UInt8:=[112,101,114]
def pu1(d:Arr Int 4):List (List UInt8):=if d.l.findIdx (1==·)<4 then[nth w_units (d.l.findIdx (1==·))]else[]
def pu2(d:Arr Int 4):List (List UInt8):=if d.l.findIdx ((-1)==·)<4 then[per,nth w_units (d.l.findIdx ((-1)==·))]else[]
def pu(d:Arr Int 4):List (List UInt8):=pu1 d++pu2 d
theorem Ak5(d:Arr Int 4):(pu d).length<=3:=by
 unfold pu pu1 pu2;rw[Ao5];split<;>split<;>simp
theorem AdF(p:AoV)(d:Arr Int 4)(h:p.l.length+10<=2000000000):Ds p d=some ⟨p.l++pu d⟩:=by
 have hd:d.l.length=4:=d.h;unfold Ds;rw[Wo];simp only[Ai]
 have e1:(Cy d.l 1).bind (fun y=>
   if(decide (y≥0))then
    if InR y w_units.length then
     (Aq p (([nth w_units y.toNat]:List (List UInt8)))).bind fun y=>
     lt1 y.l fun(l:List (List UInt8))=>
     some l
    else none
   else
    some p.l:Int->Option (List (List UInt8)))=some (p.l++pu1 d):=by
  rw[Uq _ _ (by omega),hd];simp only[Ai];unfold pu1;by_cases hi:d.l.findIdx (1==·)<4
  ·rw[Ao4 hi,Ao4 hi,Ao4 (by simp),Ao4 (Au (by exact hi)),Apc,Gz _ _ (by simp;omega)];simp only[Ai,Bt]
  rw[Ao6 hi,Ao6 hi,Ao6 (by simp)];simp
 rw[e1];simp only[Ai];have hl1:(pu1 d).length<=1:=by unfold pu1;split<;>simp
 rw[Uq _ _ (by omega),hd];simp only[Ai];unfold pu pu2;by_cases hi:d.l.findIdx ((-1)==·)<4
 ·rw[Ao4 hi,Ao4 hi,Ao4 (by simp),Ao4 (Au (by exact hi)),Apc,Gz _ _ (by simp only[Ao5,Apb,Apr];omega)];simp only[Ai,Bt,ApZ];rfl
 rw[Ao6 hi,Ao6 hi,Ao6 (by simp)];simp
def tg(op:Int):Int:=if op=3 then 1 else if op=4 then 1 else if op=5 then 2 else 3
theorem W7(op:Int):EL op=some (tg op):=by
 unfold EL tg;by_cases h3:op=3
 ·subst h3;rfl
 by_cases h4:op=4
 ·subst h4;rfl
 by_cases h5:op=5
 ·subst h5;rfl
 simp[h3,h4,h5]
def Xg:List (List UInt8):=[[44],[41]]
def WY:List (List UInt8):=[[60],[44],[44],[41]]
def AaR:List (List UInt8):=[[43],[45],[42]]
def NV(f:AoM->List (List UInt8))(l:List AoM)(s:List (List UInt8)):Nat->List (List UInt8)
 |0=>[]
 |k+1=>NV f l s k++(f (nth l k)++[nth s k])
def Afh(f:AoM->List (List UInt8))(x:AoM)(least:Int):List (List UInt8):=if least<=tg x.Op then f x else[40]::(f x++[[41]])
def pw:Nat->AoM->List (List UInt8)
 |0,_=>[]
 |d+1,x=>
  if x.Op=1 then Lib.itoa x.N::pu x.Unit
  else if x.Op=2 then[nth w_attributes x.N.toNat]
  else if x.Op=11 then[105,102]::[40]::NV (pw d) x.L WY 4
  else if x.Op=3\/x.Op=4\/x.Op=5 then Afh (pw d) (nth x.L 0) (tg x.Op)++(nth AaR (x.Op-3).toNat::Afh (pw d) (nth x.L 1) (tg x.Op+1))
  else nth w_calls (x.Op-6).toNat::[40]::NV (pw d) x.L Xg 2
theorem M3{f:AoM->List (List UInt8)}{g:AoM->Nat}{l:List AoM}{s:List (List UInt8)}:∀k,k<=l.length->(∀y∈l,(f y).length<=8*g y)->(NV f l s k).length<=8*((l.take k).map g).sum+k
 |0,_,_=>by simp[NV]
 |k+1,hk,h=>by
  have hk':k<l.length:=hk;have ih:=M3 (s:=s) k (by omega) h;rw[Apv hk',AqN,Ar2];simp only[NV,Ao5,ApE,Aqk,AqC,List.sum_nil,Apb,Apr];have:=h _ (AP hk');rw[BB hk']at this ⊢;omega
theorem RF{f:AoM->List (List UInt8)}{x:AoM}{n:Int}:(Afh f x n).length<=(f x).length+2:=by
 unfold Afh;split<;>simp
theorem AnG{g:AoM->Nat}{l:List AoM}(h:l.length=2):(l.map g).sum=g (nth l 0)+g (nth l 1):=by
 match l,h with
 |[a,b],_=>simp[nth]
theorem Pj:∀(d:Nat) (x:AoM),Mh d x->(pw d x).length<=8*nod d x
 |0,_,h=>h.elim
 | d+1,x,h=>by
  obtain⟨h1,h2,h3,h4,h5,h6,h7,h8⟩:=h;have ih:∀y∈x.L,(pw d y).length<=8*nod d y:=fun y hy=>Pj d y (h8 y hy)
  show(pw (d+1) x).length<=8*(1+(x.L.map (nod d)).sum);unfold pw;by_cases c1:x.Op=1
  ·rw[Ao4 c1];have:=Ak5 x.Unit;simp only[Apb];omega
  rw[Ao6 c1];by_cases c2:x.Op=2
  ·rw[Ao4 c2];simp only[Apb,Apr];omega
  rw[Ao6 c2];by_cases c3:x.Op=11
  ·rw[Ao4 c3];rw[Ao6 c1,Ao6 c2,Ao4 c3]at h5;have:=M3 (s:=WY) (l:=x.L) 4 (by omega) ih;rw[ApP (by omega)]at this;simp only[Apb];omega
  rw[Ao6 c3];rw[Ao6 c1,Ao6 c2,Ao6 c3]at h5;have hl:x.L.length=2:=by omega
  by_cases c4:x.Op=3\/x.Op=4\/x.Op=5
  ·rw[Ao4 c4];have e:=AnG (g:=nod d) hl;have a:=ih _ (AP (show 0<x.L.length by omega));have b:=ih _ (AP (show 1<x.L.length by omega));have p1:=RF (f:=pw d) (x:=nth x.L 0) (n:=tg x.Op);have p2:=RF (f:=pw d) (x:=nth x.L 1) (n:=tg x.Op+1);simp only[Apb,Ao5];omega
  rw[Ao6 c4];have:=M3 (s:=Xg) (l:=x.L) 2 (by omega) ih;rw[ApP (by omega)]at this;simp only[Apb];omega
def Uv(d:Nat)(rec_:AoV->AoM->Option AoV):Prop:=∀(p:AoV) (x:AoM),Mh d x->p.l.length+8*nod d x<=1900000000->rec_ p x=some ⟨p.l++pw d x⟩
theorem Uj{d:Nat}{rec_:AoV->AoM->Option AoV}(hr:Uv d rec_)(name:List UInt8)(signs:List (List UInt8))(p:AoV)(x:AoM)(hl:x.L.length=signs.length)(h4:signs.length<=4)(hf:∀y∈x.L,Mh d y) (hp:p.l.length+8*(1+(x.L.map (nod d)).sum)<=1900000000):BZ rec_ name signs p x=some ⟨p.l++(name::[40]::NV (pw d) x.L signs signs.length)⟩:=by
 unfold BZ;rw[Gz _ _ (by simp;omega)];simp only[Ai,Bt];have:=Mx signs.length (fun(v:Int×List (List UInt8))=>B8 rec_ signs x v.1 v.2) (fun i l=>(i,l)) (fun k=>(p.l++[name,[40]])++NV (pw d) x.L signs k) (fun l=>l) (by omega) (fun k hk=>?_) ?_
 ·have e:(p.l++[name,[40]])++NV (pw d) x.L signs 0=p.l++[name,[40]]:=by simp[NV]
  rw[e]at this;rw[this];simp
 ·have hk':k<x.L.length:=by omega
  have hb:=M3 (f:=pw d) (g:=nod d) (s:=signs) (l:=x.L) k (by omega) fun y hy=>Pj d y (hf y hy)
  have hs:((x.L.take k).map (nod d)).sum+nod d (nth x.L k)<=(x.L.map (nod d)).sum:=by
   conv=>rhs;rw[<-Aqf k x.L]
   rw[AqN,Ar2,Ap6 hk',ApE,AqC,BB hk'];omega
  unfold B8;simp only;rw[Ao4 (by simpa using hk),Ao4 (Au hk),Bt,Ao4 (Au hk')];simp only[Apc];rw[hr _ _ (hf _ (AP hk')) (by simp only[Ao5,Apb,Apr];omega)];simp only[Ai,Bt];have hw:=Pj d _ (hf _ (AP hk'));rw[Gz _ _ (by simp only[Ao5,Apb,Apr];omega)];simp only[Ai,Bt];rw[Bv (by omega)];simp[NV]
 unfold B8;simp only;rw[Ao6 (by simp)]
theorem WW{d:Nat}{rec_:AoV->AoM->Option AoV}(hr:Uv d rec_)(p:AoV)(x:AoM)(least:Int)(hf:Mh d x)(hp:p.l.length+8*nod d x+2<=1900000000):BQ rec_ p x least=some ⟨p.l++Afh (pw d) x least⟩:=by
 unfold BQ Afh;rw[W7];simp only[Ai];by_cases h:least<=tg x.Op
 ·rw[Ao4 (by simpa using h),Ao4 h,hr _ _ hf (by omega)];simp only[Ai,Bt]
 have hw:=Pj d x hf;rw[Ao6 (by simpa using h),Ao6 h,Gz _ _ (by simp;omega)];simp only[Ai,Bt];rw[hr _ _ hf (by simp only[Ao5,Apb,Apr];omega)];simp only[Ai,Bt];rw[Gz _ _ (by simp only[Ao5,Apb,Apr];omega)];simp only[Ai,Bt];simp
theorem AfE{d:Nat}{rec_:AoV->AoM->Option AoV}(hr:Uv d rec_):Uv (d+1) (CH rec_):=by
 intro p x h hp;obtain⟨h1,h2,h3,h4,h5,h6,h7,h8⟩:=h;have hp':p.l.length+8*(1+(x.L.map (nod d)).sum)<=1900000000:=hp;unfold CH pw;by_cases c1:x.Op=1
 ·rw[Ao4 (by simpa using c1),Ao4 c1];rw[Ao4 c1]at h4;rw[Xc _ _ (by omega) h3 h4];simp only[Ai,Bt];rw[AdF _ _ (by simp;omega)];simp only[Ai,Bt];simp
 rw[Ao6 (by simpa using c1),Ao6 c1];rw[Ao6 c1]at h4 h5;by_cases c2:x.Op=2
 ·rw[Ao4 (by simpa using c2),Ao4 c2,HY];rw[Ao4 c2]at h4;simp only[Ai];rw[Ao4 ⟨h3,by have:(w_attributes.length:Int)=16:=rfl;omega⟩,Gz _ _ (by simp;omega)];simp only[Ai,Bt]
 rw[Ao6 (by simpa using c2),Ao6 c2];rw[Ao6 c2]at h4 h5;by_cases c3:x.Op=11
 ·rw[Ao4 (by simpa using c3),Ao4 c3];rw[Ao4 c3]at h5;have:=Uj hr [105,102] WY p x (by show _=4;omega) (by decide) h8 hp';rw[show([([60]:List UInt8),([44]:List UInt8),([44]:List UInt8),([41]:List UInt8)]:List (List UInt8))=WY from rfl,this];simp only[Ai,Bt];rfl
 rw[Ao6 (by simpa using c3),Ao6 c3];rw[Ao6 c3]at h5;have hl:x.L.length=2:=by omega
 have ht:(if(x.Op==3)then some ((x.Op==3))else if(x.Op==4)then some ((x.Op==4))else some ((x.Op==5)):Option Bool)=some (decide (x.Op=3\/x.Op=4\/x.Op=5)):=by
  by_cases a3:x.Op=3
  ·simp[a3]
  by_cases a4:x.Op=4
  ·simp[a4]
  simp[a3,a4];rfl
 rw[ht];simp only[Ai,App];by_cases c4:x.Op=3\/x.Op=4\/x.Op=5
 ·rw[Ao4 c4,Ao4 c4];have e:=AnG (g:=nod d) hl;have m0:=AP (show 0<x.L.length by omega);have m1:=AP (show 1<x.L.length by omega);have a:=Pj d _ (h8 _ m0);have p1:=RF (f:=pw d) (x:=nth x.L 0) (n:=tg x.Op);have hw:w64 (x.Op-3)=x.Op-3:=Hq (by omega);have ht1:1<=tg x.Op/\tg x.Op<=3:=by unfold tg;split<;>(try split)<;>(try split)<;>decide
  have hw2:w64 (tg x.Op+1)=tg x.Op+1:=Hq (by omega);rw[Ao4 (show InR 0 x.L.length from Au (k:=0) (by omega)),W7];simp only[Ai];rw[WW hr _ _ _ (h8 _ m0) (by omega)];simp only[Ai,Bt];rw[hw,Ao4 (show InR (x.Op-3) ([[43],[45],[42]]:List (List UInt8)).length from⟨by omega,by show(x.Op-3).toNat<3;omega⟩),Gz _ _ (by simp only[Ao5,Apb,Apr];omega)];simp only[Ai,Bt];rw[Ao4 (show InR 1 x.L.length from Au (k:=1) (by omega)),hw2,WW hr _ _ _ (h8 _ m1) (by simp only[Ao5,Apb,Apr];omega)];simp only[Ai,Bt];simp[AaR]
 rw[Ao6 c4,Ao6 c4,Aak];simp only[Ai];have hw:w64 (x.Op-6)=x.Op-6:=Hq (by omega);have hwl:w_calls.length=5:=rfl;rw[hw,Ao4 (show InR (x.Op-6) w_calls.length from⟨by omega,by rw[hwl];omega⟩)];have:=Uj hr (nth w_calls (x.Op-6).toNat) Xg p x (by show _=2;omega) (by decide) h8 hp';rw[show([([44]:List UInt8),([41]:List UInt8)]:List (List UInt8))=Xg from rfl,this];simp only[Ai,Bt];rfl
theorem Acp:∀d n,d<=n->Uv d (D8 n)
 |0,_,_=>fun p x h _=>h.elim
 |d+1,0,h=>by omega
 |d+1,n+1,h=>AfE (Acp d n (by omega))
theorem Aem(p:AoV)(x:AoM)(h:Mh 900000 x)(hz:nod 900000 x<=900000)(hp:p.l.length<=1800000000):FP p x=some ⟨p.l++pw 900000 x⟩:=Acp 900000 _ (by omega) p x h (by omega)
def heads2:List (List UInt8):=[[119,104,101,110],[97,110,100]]
def XQ(k:Nat)(t:AoK):List (List UInt8):=nth heads2 (min k 1)::nth w_attributes t.Attr.toNat::(if t.Low=t.Zc then[[105,115],Lib.itoa t.Low]else[[105,110],Lib.itoa t.Low,[46,46],Lib.itoa t.Zc])
def Lh(l:List AoK):Nat->List (List UInt8)
 |0=>[]
 |k+1=>Lh l k++XQ k (nth l k)
def cw(c:AoN):List (List UInt8):=[99,108,97,117,115,101]::c.Zd::(Lh c.Ze c.Ze.length++([112,97,121]::(pw 900000 c.Pay++[[59]])))
theorem AcE{k:Nat}{t:AoK}:(XQ k t).length<=6:=by unfold XQ;simp only[Apb];split<;>simp
theorem KB{l:List AoK}:∀k,(Lh l k).length<=6*k
 |0=>Apf _
 |k+1=>by
  have:=KB (l:=l) k;have:=AcE (k:=k) (t:=nth l k);simp only[Lh,Ao5];omega
theorem AkK{c:AoN}(h:OkC c)(hz:nod 900000 c.Pay<=900000):(cw c).length<=7200060:=by
 have h1:=Pj _ _ h.pay;have h2:=KB (l:=c.Ze) c.Ze.length;have h3:=h.few;simp only[cw,Apb,Ao5,Apr];omega
theorem YA(p:AoV)(c:AoN)(h:OkC c)(hz:nod 900000 c.Pay<=900000)(hp:p.l.length<=1000000000):CG p c=some ⟨p.l++cw c⟩:=by
 have hfew:=h.few;unfold CG;rw[Gz _ _ (by simp;omega)];simp only[Ai,Bt];have:=Mx c.Ze.length (fun(v:Int×List (List UInt8))=>B7 c v.1 v.2) (fun i l=>(i,l)) (fun k=>(p.l++[[99,108,97,117,115,101],c.Zd])++Lh c.Ze k) (fun l=>l) (by omega) (fun k hk=>?_) ?_
 ·have e:(p.l++[[99,108,97,117,115,101],c.Zd])++Lh c.Ze 0=p.l++[[99,108,97,117,115,101],c.Zd]:=by simp[Lh]
  rw[e]at this;rw[this];simp only[Ai];have hl:=KB (l:=c.Ze) c.Ze.length;rw[Gz _ _ (by simp only[Ao5,Apb,Apr];omega)];simp only[Ai,Bt];rw[Aem _ _ h.pay hz (by simp only[Ao5,Apb,Apr];omega)];simp only[Ai,Bt];have hw:=Pj _ _ h.pay;rw[Gz _ _ (by simp only[Ao5,Apb,Apr];omega)];simp only[Ai,Bt];simp[cw]
 ·have hb:=KB (l:=c.Ze) k;obtain⟨⟨a1,a2⟩,⟨b1,b2⟩,b3,b4⟩:=h.tests _ (AP hk);have hm:Qm (k:Int) 1=((min k 1:Nat):Int):=by unfold Qm;split<;>omega
  have hs:([([119,104,101,110]:List UInt8),([97,110,100]:List UInt8)]:List (List UInt8))=heads2:=rfl;have hwl:w_attributes.length=16:=rfl;unfold B7;simp only;rw[Ao4 (by simpa using hk),Ao4 (Au hk)];simp only[Apc,Bt];rw[hm,hs,Ao4 (show InR ((min k 1:Nat):Int) heads2.length from Au (by show _<2;omega)),HY];simp only[Ai];rw[Ao4 (show InR (nth c.Ze k).Attr w_attributes.length from⟨a1,by rw[hwl];omega⟩),Gz _ _ (by simp only[Ao5,Apb,Apr];omega)];simp only[Ai,Apc];by_cases e:(nth c.Ze k).Low=(nth c.Ze k).Zc
  ·rw[Ao4 (by simpa using e),Gz _ _ (by simp only[Ao5,Apb,Apr];omega)];simp only[Ai];rw[Xc _ _ (by simp only[Ao5,Apb,Apr];omega) b1 b3];simp only[Ai];rw[Bv (by omega)];simp only[Lh,XQ,Ao4 e,ApZ,Apo,ApN]
  rw[Ao6 (by simpa using e),Gz _ _ (by simp only[Ao5,Apb,Apr];omega)];simp only[Ai];rw[Xc _ _ (by simp only[Ao5,Apb,Apr];omega) b1 b3];simp only[Ai];rw[Gz _ _ (by simp only[Ao5,Apb,Apr];omega)];simp only[Ai];rw[Xc _ _ (by simp only[Ao5,Apb,Apr];omega) b2 b4];simp only[Ai];rw[Bv (by omega)];simp only[Lh,XQ,Ao6 e,ApZ,Apo,ApN]
 unfold B7;simp only;rw[Ao6 (by simp)]
def cws(l:List AoN):Nat->List (List UInt8)
 |0=>[]
 |k+1=>cws l k++cw (nth l k)
def tw(t:AoO):List (List UInt8):=[116,97,114,105,102,102]::t.Zd::[102,111,114]::nth w_kinds (t.For-1).toNat::[123]::(cws t.Zf t.Zf.length++[[125]])
theorem Vr{l:List AoN}(h:∀c∈l,OkC c/\nod 900000 c.Pay<=900000):∀k,k<=l.length->(cws l k).length<=7200060*k
 |0,_=>Apf _
 |k+1,hk=>by
  have:=Vr h k (by omega);obtain⟨h1,h2⟩:=h _ (AP (show k<l.length by omega));have:=AkK h1 h2;simp only[cws,Ao5];omega
def Sh(w:List UInt8):Prop:=w.length<=40
theorem Abm:∀(k u:Nat),u<10^(k+1)->(Lib.decDigits u).length<=k+1
 |0,u,h=>by rw[Lib.decDigits,dif_pos (by simpa using h)];simp
 | k+1,u,h=>by
  by_cases hu:u<10
  ·rw[Lib.decDigits,dif_pos hu];simp
  rw[Lib.decDigits,dif_neg hu,Ao5];have:=Abm k (u/10) (by rw[Nat.pow_succ]at h;omega);simp only[ApH];omega
theorem AiO{n:Int}(h0:0<=n)(h1:n<=1099511627776):Sh (Lib.itoa n):=by
 unfold Sh Lib.itoa;rw[Ao6 (by omega)];have:=Abm 12 n.toNat (by omega);omega
theorem BW{P:List UInt8->Prop}{x:List UInt8}{l:List (List UInt8)}(h:P x)(k:∀w∈l,P w):∀w∈x::l,P w:=fun w hw=>by
 rcases Apq.1 hw with rfl|hw
 ·exact h
 exact k w hw
theorem Lc{P:List UInt8->Prop}{a b:List (List UInt8)}(h:∀w∈a,P w)(k:∀w∈b,P w):∀w∈a++b,P w:=fun w hw=>(Apl.1 hw).elim (h w) (k w)
theorem HZ{P:List UInt8->Prop}:∀w∈([]:List (List UInt8)),P w:=fun w hw=>by cases hw
structure WordP(P:List UInt8->Prop):Prop where
  num:∀n:Int,0<=n->n<=1099511627776->P (Lib.itoa n)
  un:∀w∈w_units,P w
  at_:∀w∈w_attributes,P w
  call:∀w∈w_calls,P w
  kind:∀w∈w_kinds,P w
  lit:∀w∈([[112,101,114],[105,102],[40],[41],[44],[60],[43],[45],[42],[119,104,101,110],[97,110,100],[105,115],[105,110],[46,46],[99,108,97,117,115,101],[112,97,121],[59],[116,97,114,105,102,102],[102,111,114],[123],[125]]:List (List UInt8)),P w
  word:∀w,Ae1 w->P w
variable {P:List UInt8->Prop}
theorem All(hP:WordP P)(d:Arr Int 4):∀w∈pu d,P w:=by
 unfold pu pu1 pu2;refine Lc ?_ ?_
 ·split
  ·exact BW (hP.un _ (AP (by assumption))) HZ
  exact HZ
 split
 ·exact BW (hP.lit _ (by simp[per])) (BW (hP.un _ (AP (by assumption))) HZ)
 exact HZ
theorem Oy{f:AoM->List (List UInt8)}{l:List AoM}{s:List (List UInt8)}(hs:∀w∈s,P w)(hf:∀y∈l,∀w∈f y,P w):∀k,k<=l.length->k<=s.length->∀w∈NV f l s k,P w
 |0,_,_=>HZ
 |k+1,h1,h2=>Lc (Oy hs hf k (by omega) (by omega)) (Lc (hf _ (AP (by omega))) (BW (hs _ (AP (by omega))) HZ))
theorem Xq(hP:WordP P){f:AoM->List (List UInt8)}{x:AoM}{n:Int}(h:∀w∈f x,P w):∀w∈Afh f x n,P w:=by
 unfold Afh;split
 ·exact h
 exact BW (hP.lit _ (by simp)) (Lc h (BW (hP.lit _ (by simp)) HZ))
theorem AfA(hP:WordP P):∀(d:Nat) (x:AoM),Mh d x->∀w∈pw d x,P w
 |0,_,h=>h.elim
 | d+1,x,h=>by
  obtain⟨h1,h2,h3,h4,h5,h6,h7,h8⟩:=h;have ih:∀y∈x.L,∀w∈pw d y,P w:=fun y hy=>AfA hP d y (h8 y hy)
  unfold pw;by_cases c1:x.Op=1
  ·rw[Ao4 c1];rw[Ao4 c1]at h4;exact BW (hP.num _ h3 h4) (All hP _)
  rw[Ao6 c1];rw[Ao6 c1]at h4 h5;by_cases c2:x.Op=2
  ·rw[Ao4 c2];rw[Ao4 c2]at h4;exact BW (hP.at_ _ (AP (by show _<16;omega))) HZ
  rw[Ao6 c2];rw[Ao6 c2]at h4 h5;by_cases c3:x.Op=11
  ·rw[Ao4 c3];rw[Ao4 c3]at h5;refine BW (hP.lit _ (by simp)) (BW (hP.lit _ (by simp)) (Oy (fun w hw=>hP.lit w ?_) ih 4 (by omega) (by decide)));revert w;decide
  rw[Ao6 c3];rw[Ao6 c3]at h5;have hl:x.L.length=2:=by omega
  by_cases c4:x.Op=3\/x.Op=4\/x.Op=5
  ·rw[Ao4 c4];refine Lc (Xq hP (ih _ (AP (by omega)))) (BW (hP.lit _ ?_) (Xq hP (ih _ (AP (by omega)))));have:∀w∈AaR,w∈([[112,101,114],[105,102],[40],[41],[44],[60],[43],[45],[42],[119,104,101,110],[97,110,100],[105,115],[105,110],[46,46],[99,108,97,117,115,101],[112,97,121],[59],[116,97,114,105,102,102],[102,111,114],[123],[125]]:List (List UInt8)):=by decide
   exact this _ (AP (by show _<3;omega))
  rw[Ao6 c4];refine BW (hP.call _ (AP (by show _<5;omega))) (BW (hP.lit _ (by simp)) (Oy (fun w hw=>hP.lit w ?_) ih 2 (by omega) (by decide)));revert w;decide
theorem Aje(hP:WordP P){c:AoN}(h:OkC c):∀w∈cw c,P w:=by
 unfold cw;refine BW (hP.lit _ (by simp)) (BW (hP.word _ h.word) (Lc ?_ (BW (hP.lit _ (by simp)) (Lc (AfA hP _ _ h.pay) (BW (hP.lit _ (by simp)) HZ)))))
 have key:∀k,k<=c.Ze.length->∀w∈Lh c.Ze k,P w:=by
  intro k
  induction k with
  |zero=>exact fun _=>HZ
  | succ k ih=>
   intro hk;obtain⟨⟨a1,a2⟩,⟨b1,b2⟩,b3,b4⟩:=h.tests _ (AP (show k<c.Ze.length by omega));refine Lc (ih (by omega)) ?_;unfold XQ
   have hh:∀i:Nat,nth heads2 (min i 1)=[119,104,101,110]\/nth heads2 (min i 1)=[97,110,100]:=by
    intro i;rcases(show min i 1=0\/min i 1=1 by omega)with e|e<;>rw[e]
    ·exact .inl rfl
    exact .inr rfl
   refine BW ?_ (BW (hP.at_ _ (AP (by show _<16;omega))) ?_)
   ·rcases hh k with e|e<;>rw[e]<;>exact hP.lit _ (by simp)
   split
   ·exact BW (hP.lit _ (by simp)) (BW (hP.num _ b1 b3) HZ)
   exact BW (hP.lit _ (by simp)) (BW (hP.num _ b1 b3) (BW (hP.lit _ (by simp)) (BW (hP.num _ b2 b4) HZ)))
 exact key _ (Apf _)
theorem Ag8(hP:WordP P){t:AoO}(h:OkT t):∀w∈tw t,P w:=by
 obtain⟨k1,k2⟩:=h.kind;unfold tw;refine BW (hP.lit _ (by simp)) (BW (hP.word _ h.word) (BW (hP.lit _ (by simp)) (BW (hP.kind _ (AP (by show _<6;omega))) (BW (hP.lit _ (by simp)) (Lc ?_ (BW (hP.lit _ (by simp)) HZ))))))
 have key:∀k,k<=t.Zf.length->∀w∈cws t.Zf k,P w:=by
  intro k
  induction k with
  |zero=>exact fun _=>HZ
  |succ k ih=>exact fun hk=>Lc (ih (by omega)) (Aje hP (h.all _ (AP (by omega))))
 exact key _ (Apf _)
theorem Aek:WordP Sh where
 num:=fun n h0 h1=>AiO h0 h1
 un:=by unfold Sh;decide
 at_:=by unfold Sh;decide
 call:=by unfold Sh;decide
 kind:=by unfold Sh;decide
 lit:=by unfold Sh;decide
 word:=fun w h=>by have:=h.1;unfold Sh;omega
theorem Ad9{l:List (List UInt8)}(h:∀w∈l,Sh w):(Lib.join l [32]).length<=41*l.length:=by
 have key:∀l:List (List UInt8),(∀w∈l,Sh w)->Lib.lens l<=40*l.length:=by
  intro l
  induction l with
  |nil=>intro _;simp[Lib.lens]
  |cons x l ih=>
   intro h;have h1:=ih fun w hw=>h w (ApI _ hw)
   have h2:x.length<=40:=h x Apn;simp only[Lib.lens,ApE,AqC,Apb]at h1 ⊢;omega
 cases l with
 |nil=>simp[Lib.join_nil]
 |cons x l=>
  rw[Lib.join_cons,Ao5,Lib.joinTail_length];have h1:=key l fun w hw=>h w (ApI _ hw)
  have h2:x.length<=40:=h x Apn;simp only[Apb,Apr];omega
def pr(t:AoO):List UInt8:=Lib.join (tw t) [32]
theorem Adb{t:AoO}{n:Nat}(hz:Tz n t)(h:OkT t)(hc:Dg t=some 0):Ee t=some (if 2000<(pr t).length then([],2)else(pr t,0)):=by
 obtain⟨k1,k2⟩:=h.kind;have hfew:=h.few;have hall:∀c∈t.Zf,OkC c/\nod 900000 c.Pay<=900000:=fun c hc=>⟨h.all c hc,(hz.2 c hc).2.2⟩
 have hkl:w_kinds.length=6:=rfl;unfold Ee;rw[hc];simp only[Ai];rw[Ao6 (by decide),AaO];simp only[Ai];have hw:w64 (t.For-1)=t.For-1:=Hq (by omega);rw[hw,Ao4 (show InR (t.For-1) w_kinds.length from⟨by omega,by rw[hkl];omega⟩),Gz _ _ (by simp)];simp only[Ai,Bt];have:=Mx t.Zf.length (fun(v:Int×List (List UInt8))=>Eb t v.1 v.2) (fun i l=>(i,l)) (fun k=>[[116,97,114,105,102,102],t.Zd,[102,111,114],nth w_kinds (t.For-1).toNat,[123]]++cws t.Zf k) (fun l=>l) (by omega) (fun k hk=>?_) ?_
 ·have e:[[116,97,114,105,102,102],t.Zd,[102,111,114],nth w_kinds (t.For-1).toNat,[123]]++cws t.Zf 0=[]++[[116,97,114,105,102,102],t.Zd,[102,111,114],nth w_kinds (t.For-1).toNat,[123]]:=by simp[cws]
  rw[e]at this;rw[this];simp only[Ai];have hl:=Vr hall t.Zf.length (Apf _);rw[Gz _ _ (by simp only[Ao5,Apb,Apr];omega)];simp only[Ai,Bt];have et:[[116,97,114,105,102,102],t.Zd,[102,111,114],nth w_kinds (t.For-1).toNat,[123]]++cws t.Zf t.Zf.length++[[125]]=tw t:=by simp[tw]
  rw[et];have hj:=Ad9 (Ag8 Aek h);have hl2:(tw t).length<=500000000:=by rw[<-et];simp only[Ao5,Apb,Apr];omega
  unfold Kh Aej;rw[Ao4 ⟨by omega,by omega⟩];simp only[Ai];show(if decide (((pr t).length:Int)>2000)=true then _ else _)=_;by_cases hb:2000<(pr t).length
  ·rw[Ao4 (by simp only[App];omega),Ao4 hb]
  rw[Ao6 (by simp only[App];omega),Ao6 hb];rfl
 ·obtain⟨o1,o2⟩:=hall _ (AP hk);have hb:=Vr hall k (by omega);unfold Eb;simp only;rw[Ao4 (by simpa using hk),Ao4 (Au hk)];simp only[Apc,Bt,Ht];rw[YA _ _ o1 o2 (by simp only[Ao5,Apb,Apr];omega)];simp only[Ai];rw[Bv (by omega)];simp[cws]
 unfold Eb;simp only;rw[Ao6 (by simp)]
theorem YH{t:AoO}{n:Nat}(hz:Tz n t)(hn:n<1000000):TP (Ee t) fun y=>y.2=0->Dg t=some 0/\OkT t/\y.1=pr t/\(pr t).length<=2000:=by
 obtain⟨e,he,hk⟩:=Lu t hz hn;by_cases h0:e=0
 ·subst h0;rw[Adb hz (hk rfl) he];refine Aj ?_;by_cases hb:2000<(pr t).length
  ·rw[Ao4 hb];intro h;cases h
  rw[Ao6 hb];exact fun _=>⟨he,hk rfl,rfl,by omega⟩
 unfold Ee;rw[he];simp only[Ai];rw[Ao4 (by simpa using h0)];exact Aj fun h=>absurd h h0
def QA:JD:=(ttype_rules).getD no2
theorem Adi:ttype_rules=some QA:=rfl
theorem AgS{op:Int}(h1:3<=op)(h2:op<=11):(op=11/\((QA op).getD ⟨0,0⟩).k=120)\/(op≠11/\(((QA op).getD ⟨0,0⟩).k=119\/((QA op).getD ⟨0,0⟩).k=165)):=by
 rcases(show op=3\/op=4\/op=5\/op=6\/op=7\/op=8\/op=9\/op=10\/op=11 by omega)with rfl|rfl|rfl|rfl|rfl|rfl|rfl|rfl|rfl<;>decide +kernel
theorem UG(l:List (Arr Int 4))(p:Int)(hl:2<=l.length):Yz (Ga l p):=by
 unfold Ga
 refine AD (Q:=fun _=>True) (AD (Q:=fun z=>match z with
  |.inr (.inl _)=>False
  |_=>True) ?_ fun z hz=>?_) fun z _=>?_
 ·refine AY (fun v=>∃k:Nat,v.1=(k:Int)/\k<=4) (fun v=>(4-v.1).toNat) ?_ ⟨0,rfl,Apx _⟩ (by simp);rintro⟨_,f⟩ ⟨k,rfl,hk⟩;unfold FI;refine AB (fun h=>?_) fun _=>Aj trivial
  have hk':k<4:=by simp only[App]at h;omega
  refine D1 (Au (k:=0) (by omega)) (D1 (Au hk') (D1 (Au (k:=1) (by omega)) (D1 (Au hk') (D1 (Au hk') (A9 ?_)))));refine AD (Q:=fun _=>True) (D1 (Au hk') (AB (fun _=>Aj trivial) fun _=>D1 (Au hk') (Aj trivial))) fun b _=>AB (fun _=>A9 (Aj trivial)) fun _=>Aj ⟨⟨k+1,Bv (by omega),hk'⟩,by simp only;rw[Bv (by omega)];omega⟩
 ·match z,hz with
  |.inl f,_=>exact Aj trivial
  |.inr (.inr z),_=>exact Aj trivial
 match z with
 |.inl f=>exact Aj trivial
 |.inr z=>exact Aj trivial
theorem Lk:∀(d:Nat) (x:AoM) (n:Nat),Mh d x->d<=n->Yz (GW n QA x)
 |0,x,n,h,_=>h.elim
 |d+1,x,0,_,h=>by omega
 | d + 1,x,n+1,h,hn=>by
  obtain⟨h1,h2,h3,h4,h5,h6,h7,h8⟩:=h;show Yz (Hd (GW n) QA x);unfold Hd;refine AB (fun _=>Aj trivial) fun c1=>AB (fun c2=>?_) fun c2=>?_
  ·have c1':x.Op≠1:=by simpa using c1
   have c2':x.Op=2:=by simpa using c2
   rw[Ao6 c1',Ao4 c2']at h4;refine AD (Q:=fun _=>True) ?_ fun y _=>D1 ⟨h3,by omega⟩ (A9 (Aj trivial))
   unfold ttype_attributes;exact A9 (A9 (A9 (A9 (Aj trivial))))
  have c1':x.Op≠1:=by simpa using c1
  have c2':x.Op≠2:=by simpa using c2
  rw[Ao6 c1',Ao6 c2']at h5;have h4':x.L.length<=4:=by split at h5<;>omega
  refine AD (Q:=fun z=>match z with
   |.inl l=>l.length=x.L.length
   |.inr _=>True) (AD (Q:=fun z=>match z with
   |.inl l=>l.length=x.L.length
   |.inr (.inl _)=>False
   |.inr (.inr _)=>True) ?_ fun z hz=>?_) fun z hz=>?_
  ·refine AY (fun v=>∃k:Nat,v.1=(k:Int)/\k<=x.L.length/\v.2.length=k) (fun v=>((x.L.length:Int)-v.1).toNat) ?_ ⟨0,rfl,Apx _,rfl⟩ (by simp;omega);rintro⟨_,l⟩ ⟨k,rfl,hk,hl⟩;simp only at hl;unfold Hx;refine AB (fun h=>?_) fun h=>Aj ?_
   ·have hk':k<x.L.length:=by simpa using h
    refine D1 (Au hk') (A9 (A9 (A9 (A9 ?_))));simp only[Apc,Ht];refine AhV (Lk d _ n (h8 _ (AP hk')) (by omega)) fun y=>AB (fun _=>A9 (Aj trivial)) fun _=>D1 (O4 (by omega) (by decide)) (A9 (Aj ⟨⟨k+1,Bv (by omega),hk',by simp only[Ao5,ApH];omega⟩,by simp only;rw[Bv (by omega)];omega⟩))
   simp only[App]at h;show l.length=_;omega
  ·match z,hz with
   |.inl l,hz=>exact Aj hz
   |.inr (.inr z),_=>exact Aj trivial
  match z,hz with
  |.inr z,_=>exact Aj trivial
  | .inl l,hz=>
   have hz':l.length=x.L.length:=hz;rcases AgS (op:=x.Op) (by omega) h2 with⟨e,hr⟩|⟨e,hr|hr⟩
   ·rw[Ao4 e]at h5;simp only[hr];refine AB (fun h=>by cases h) fun _=>AB (fun _=>?_) fun h=>absurd trivial h
    refine AD (Q:=fun _=>True) ?_ fun y _=>AB (fun _=>A9 (Aj trivial)) fun _=>Aj trivial
    unfold Hr;exact AD (Q:=fun _=>True) (D1 (Au (k:=2) (by omega)) (D1 (Au (k:=0) (by omega)) (D1 (Au (k:=1) (by omega)) (AB (fun _=>D1 (Au (k:=2) (by omega)) (D1 (Au (k:=3) (by omega)) (Aj trivial))) fun _=>Aj trivial)))) fun _ _=>Aj trivial
   ·rw[Ao6 e]at h5;simp only[hr];refine AB (fun _=>?_) fun h=>absurd trivial h
    refine AD (Q:=fun _=>True) ?_ fun y _=>AB (fun _=>A9 (Aj trivial)) fun _=>Aj trivial
    unfold Hz;exact D1 (Au (k:=0) (by omega)) (D1 (Au (k:=0) (by omega)) (D1 (Au (k:=1) (by omega)) (Aj trivial)))
   rw[Ao6 e]at h5;simp only[hr];refine AB (fun h=>by cases h) fun _=>AB (fun h=>by cases h) fun _=>AB (fun _=>?_) fun h=>absurd trivial h
   exact AD (UG l _ (by omega)) fun y _=>AB (fun _=>A9 (Aj trivial)) fun _=>Aj trivial
theorem AbK{t:AoO}{n:Nat}(hz:Tz n t)(hn:n<1000000):Yz (HE t):=by
 obtain⟨e,he,hk⟩:=Lu t hz hn;unfold HE;rw[he];simp only[Ai];refine AB (fun _=>Aj trivial) fun h0=>?_
 have hok:=hk (by simpa using h0);have hl:=hok.few;rw[Adi];simp only[Ai]
 refine AD (Q:=fun _=>True) (AD (Q:=fun z=>match z with
  |.inr (.inl _)=>False
  |_=>True) ?_ fun z hz=>?_) fun z _=>?_
 ·refine AY (fun v=>∃k:Nat,v=(k:Int)/\k<=t.Zf.length) (fun v=>((t.Zf.length:Int)-v).toNat) ?_ ⟨0,rfl,Apx _⟩ (by simp;omega);rintro _ ⟨k,rfl,hk⟩;unfold GO;refine AB (fun h=>?_) fun h=>Aj trivial
  have hk':k<t.Zf.length:=by simpa using h
  refine D1 (Au hk') (A9 (A9 (A9 (A9 (A9 (A9 ?_))))));simp only[Apc,Ht];refine AhV (Lk 900000 _ _ (hok.all _ (AP hk')).pay (by omega)) fun y=>AD (Q:=fun _=>True) (AB (fun _=>Aj trivial) fun _=>Aj trivial) fun b _=>AB (fun _=>Aj trivial) fun _=>Aj ⟨⟨k+1,Bv (by omega),hk'⟩,by rw[Bv (by omega)];omega⟩
 ·match z,hz with
  |.inl _,_=>exact Aj trivial
  |.inr (.inr z),_=>exact Aj trivial
 match z with
 |.inl ()=>exact Aj trivial
 |.inr z=>exact Aj trivial
theorem HC(c:AoW)(op n m:Int)(h:c.code.length<2000000000):Ar c op n m=some ((c.code.length:Int),⟨c.code++[⟨op,n,m⟩]⟩):=by
 unfold Ar;rw[Bt,Ao4 (O4 (by omega) (by decide))];rfl
theorem RX(c:AoW)(p:Nat)(h:p<c.code.length):TP (AZ c (p:Int)) fun r=>r.code.length=c.code.length:=by
 unfold AZ;exact D1 (Au h) (A9 (Aj (by simp)))
def Ahs(d:Nat)(rec_:AoW->AoM->Option AoW):Prop:=∀(c:AoW) (x:AoM),Mh d x->c.code.length+4*nod d x<=1900000000->TP (rec_ c x) fun r=>c.code.length<=r.code.length/\r.code.length<=c.code.length+4*nod d x
theorem sum4{g:AoM->Nat}{l:List AoM}(h:l.length=4):(l.map g).sum=g (nth l 0)+(g (nth l 1)+(g (nth l 2)+g (nth l 3))):=by
 match l,h with
 |[a,b,c,d],_=>simp[nth]
theorem AgJ{d:Nat}{rec_:AoW->AoM->Option AoW}(hr:Ahs d rec_):Ahs (d+1) (BA rec_):=by
 intro c x h hp;obtain⟨h1,h2,h3,h4,h5,h6,h7,h8⟩:=h;have hp':c.code.length+4*(1+(x.L.map (nod d)).sum)<=1900000000:=hp;show TP _ fun r:AoW=>_/\r.code.length<=c.code.length+4*(1+(x.L.map (nod d)).sum)
 unfold BA;refine AB (fun _=>?_) fun c1=>AB (fun _=>?_) fun c2=>AB (fun c3=>?_) fun c3=>?_
 ·rw[HC _ _ _ _ (by omega)];simp only[Ai,Bt];exact Aj (by simp;omega)
 ·rw[HC _ _ _ _ (by omega)];simp only[Ai,Bt];exact Aj (by simp;omega)
 ·have c1':x.Op≠1:=by simpa using c1
  have c2':x.Op≠2:=by simpa using c2
  have c3':x.Op=11:=by simpa using c3
  rw[Ao6 c1',Ao6 c2',Ao4 c3']at h5;have hl:x.L.length=4:=by omega
  rw[sum4 hl]at hp' ⊢;refine D1 (Au (k:=0) (by omega)) (AD (hr _ _ (h8 _ (AP (by omega))) (by omega)) fun r0 b0=>A9 (D1 (Au (k:=1) (by omega)) ?_));refine AD (hr _ _ (h8 _ (AP (by omega))) (by simp only;omega)) fun r1 b1=>A9 ?_
  simp only at b1;rw[HC _ _ _ _ (by simp only;omega)];simp only[Ai,Bt];rw[HC _ _ _ _ (by simp only[Ao5,ApH];omega)];simp only[Ai,Bt,Ao5,ApH];refine D1 (Au (k:=2) (by omega)) (AD (hr _ _ (h8 _ (AP (by omega))) (by simp only[Ao5,ApH];omega)) fun r2 b2=>?_);simp only[Ao5,ApH]at b2;rw[HC _ _ _ _ (by simp only;omega)];simp only[Ai];refine AD (RX _ _ (by simp only[Ao5,ApH];omega)) fun r3 b3=>?_
  simp only[Ao5,ApH]at b3;refine D1 (Au (k:=3) (by omega)) (AD (hr _ _ (h8 _ (AP (by omega))) (by simp only;omega)) fun r4 b4=>?_);simp only at b4;refine AD (RX _ _ (by simp only;omega)) fun r5 b5=>Aj ?_
  simp only at b5 ⊢;omega
 have c1':x.Op≠1:=by simpa using c1
 have c2':x.Op≠2:=by simpa using c2
 have c3':x.Op≠11:=by simpa using c3
 rw[Ao6 c1',Ao6 c2',Ao6 c3']at h5;have hl:x.L.length=2:=by omega
 rw[AnG hl]at hp' ⊢;refine D1 (Au (k:=0) (by omega)) (AD (hr _ _ (h8 _ (AP (by omega))) (by omega)) fun r0 b0=>A9 (D1 (Au (k:=1) (by omega)) ?_));refine AD (hr _ _ (h8 _ (AP (by omega))) (by simp only;omega)) fun r1 b1=>A9 ?_
 simp only at b1;rw[HC _ _ _ _ (by simp only;omega)];simp only[Ai,Bt];refine Aj ?_;simp only[Ao5,ApH];omega
theorem Aba:∀d n,d<=n->Ahs d (Cg n)
 |0,_,_=>fun c x h _=>h.elim
 |d+1,0,h=>by omega
 |d+1,n+1,h=>AgJ (Aba d n (by omega))
theorem Nu:∀(l:List AoK) (c:AoW) (ats:List Int),c.code.length+3*l.length<=1900000000->(∀a∈ats,∃k:Nat,a=(k:Int)/\k<c.code.length) ->TP (BO l c ats) fun s=>s.1.code.length=c.code.length+3*l.length/\∀a∈s.2,∃k:Nat,a=(k:Int)/\k<s.1.code.length
 |[],c,ats,_,h=>Aj ⟨by simp,h⟩
 | t::l,c,ats,hl,h=>by
  simp only[Apb]at hl;unfold BO;rw[HC _ _ _ _ (by omega)];simp only[Ai];rw[HC _ _ _ _ (by simp;omega)];simp only[Ai];rw[HC _ _ _ _ (by simp;omega)];simp only[Ai];refine Ami (Nu l _ _ (by simp only[Ao5,ApH];omega) fun a ha=>?_) fun s hs=>?_
  ·rcases Apq.1 ha with rfl|ha
   ·exact⟨_,rfl,by simp⟩
   obtain⟨k,e,hk⟩:=h a ha;exact⟨k,e,by simp only[Ao5,ApH];omega⟩
  simp only[Ao5,ApH,Apb,Apr]at hs ⊢;exact⟨by omega,hs.2⟩
theorem Q3:∀(l:List Int) (c:AoW),(∀a∈l,∃k:Nat,a=(k:Int)/\k<c.code.length)->TP (Cn l c) fun r=>r.code.length=c.code.length
 |[],c,_=>Aj rfl
 |a::l,c,h=>by
  obtain⟨k,rfl,hk⟩:=h a Apn;unfold Cn;refine AD (RX c k hk) fun r hr=>Ami (Q3 l r fun a ha=>?_) fun s hs=>hs.trans hr
  rw[hr];exact h a (ApI _ ha)
theorem TX(c:AoW)(x:AoN)(i:Int)(h:OkC x)(hz:nod 900000 x.Pay<=900000)(hc:c.code.length<=1000000000):TP (CF c x i) fun r=>r.code.length<=c.code.length+3600030:=by
 have hf:=h.few;unfold CF;refine D1 (by omega) (AD (Nu _ _ _ (by omega) (by simp)) fun s hs=>AD (Aba 900000 _ (by omega) s.1 x.Pay h.pay (by omega)) fun c1 h1=>?_);rw[HC _ _ _ _ (by omega)];simp only[Ai];refine Ami (Q3 _ _ fun a ha=>?_) fun r hr=>?_
 ·obtain⟨k,e,hk⟩:=hs.2 a ha;exact⟨k,e,by simp only[Ao5,ApH];omega⟩
 rw[hr];simp only[Ao5,ApH];omega
theorem Adj:((List.range 4097).all fun n=>decide (M1 1 (UInt64.ofInt (n:Int))=some (0,UInt64.ofInt (n:Int))/\(UInt64.ofInt (n:Int)).toNat=n/\¬UInt64.ofInt (n:Int)>9223372036854775807))=true:=by decide +kernel
theorem Vu(n:Nat)(h1:1<=n)(h2:n<=4096):TP (Eu [-1] (n:Int)) fun l=>l.length=n:=by
 have hb:=Adj;rw[Api]at hb;obtain⟨m1,m2,m3⟩:=Aqq (hb n (ApK.2 (by omega)));have hw:w64 (n:Int)=(n:Int):=AgL (by omega);unfold Eu;rw[Ao6 (by simp)];show TP ((M1 (UInt64.ofInt 1) (UInt64.ofInt (n:Int))).bind _) _;rw[show UInt64.ofInt 1=1 from rfl,m1];simp only[Ai];rw[m2,hw];refine AD (Q:=fun b=>b=false) ?_ fun b hb=>?_
 ·exact AB (fun h=>by simp at h) fun _=>Aj (by simpa using m3)
 subst hb;refine AB (fun h=>by cases h) fun _=>D1 ⟨by omega,Int.le_refl _,by unfold maxLen;omega,by unfold Hu;omega⟩ (A9 (A9 (A9 ?_)))
 simp only[Apc];have e0:(ovl (List.replicate n (0:Int)) (([-1]:List Int).take (min ([-1]:List Int).length (List.replicate n (0:Int)).length)) 0).length=n:=by rw[Abx];simp
 have e1:min ([-1]:List Int).length (List.replicate n (0:Int)).length=1:=by simp;omega
 rw[e1]at e0 ⊢;refine AD (Q:=fun l=>l.length=n) (AD (Q:=fun l=>l.length=n) ?_ fun l hl=>Aj hl) fun l hl=>Aj hl
 refine AY (fun v=>∃k:Nat,v.1=(k:Int)/\1<=k/\k<=n/\v.2.length=n) (fun v=>((n:Int)-v.1).toNat) ?_ ⟨1,rfl,by omega,h1,e0⟩ (by simp only;omega);rintro⟨_,l⟩ ⟨k,rfl,hk1,hk,hl⟩;simp only at hl ⊢;unfold Eo;refine AB (fun h=>?_) fun h=>Aj hl
 have hk':k<l.length:=by simpa using h
 have em:min (l.take (k:Int).toNat).length (l.length-(k:Int).toNat)=min k (l.length-k):=by simp only[Apc,Aqb];omega
 refine D1 (Py (by omega)) (D1 (Py (by omega)) (A9 (A9 (Aj ⟨⟨k+min k (l.length-k),?_,by omega,by omega,?_⟩,?_⟩))))
 ·rw[em,Hq (by omega)];omega
 ·simp only;rw[Xj];exact hl
 simp only;rw[em,Hq (by omega)];omega
theorem XA{f:AoU->Option Bool}(s:List AoU)(hs:s.length<1000000)(hf:∀y∈s,Yz (f y)):Yz (C4 s f):=by
 unfold C4;refine AD (Q:=fun _=>True) ?_ fun i _=>Aj trivial
 unfold DQ
 refine AD (Q:=fun _=>True) (AD (Q:=fun z=>match z with
  |.inr (.inl _)=>False
  |_=>True) ?_ fun z hz=>?_) fun z _=>?_
 ·refine AY (fun i=>∃k:Nat,i=(k:Int)/\k<=s.length) (fun i=>((s.length:Int)-i).toNat) ?_ ⟨0,rfl,Apx _⟩ (by simp;omega);rintro _ ⟨k,rfl,hk⟩;unfold CY;refine AB (fun h=>?_) fun h=>Aj trivial
  have hk':k<s.length:=by simpa using h
  refine D1 (Au hk') ?_;simp only[Apc];refine AD (hf _ (AP hk')) fun b _=>AB (fun _=>Aj trivial) fun _=>Aj ⟨⟨k+1,Bv (by omega),hk'⟩,by rw[Bv (by omega)];omega⟩
 ·match z,hz with
  |.inl (),_=>exact Aj trivial
  |.inr (.inr r),_=>exact Aj trivial
 match z with
 |.inl ()=>exact Aj trivial
 |.inr r=>exact Aj trivial
theorem ZZ(op:Int):Yz (EM op):=by
 unfold EM;refine AD (Q:=fun _=>True) ?_ fun b _=>AB (fun _=>Aj trivial) fun _=>AB (fun _=>Aj trivial) fun _=>AB (fun _=>Aj trivial) fun _=>Aj trivial
 exact AB (fun _=>Aj trivial) fun _=>AB (fun _=>Aj trivial) fun _=>AB (fun _=>Aj trivial) fun _=>Aj trivial
theorem VK(op:Int):Yz (Hc op):=by
 unfold Hc;refine AD (Q:=fun _=>True) (AB (fun _=>Aj trivial) fun _=>Aj trivial) fun b _=>AB (fun _=>Aj trivial) fun _=>AB (fun _=>Aj trivial) fun _=>?_
 refine AD (Q:=fun _=>True) (AB (fun _=>Aj trivial) fun _=>Aj trivial) fun b _=>AB (fun _=>Aj trivial) fun _=>?_
 exact AD (Q:=fun _=>True) (AB (fun _=>Aj trivial) fun _=>Aj trivial) fun b _=>AB (fun _=>Aj trivial) fun _=>Aj trivial
theorem U4(x:AoU):Yz (F6 x):=by
 unfold F6;refine AD (Q:=fun _=>True) ?_ fun b _=>Aj trivial
 unfold Ix;refine AD (Q:=fun _=>True) (AB (fun _=>Aj trivial) fun _=>Aj trivial) fun b _=>AB (fun _=>Aj trivial) fun _=>AhV (ZZ _) fun y=>?_
 refine AD (Q:=fun _=>True) (AB (fun _=>Aj trivial) fun _=>Aj trivial) fun _ _=>AD (Q:=fun _=>True) (AB (fun _=>Aj trivial) fun _=>Aj trivial) fun _ _=>?_
 exact AD (Q:=fun _=>True) (AB (fun _=>AB (fun _=>Aj trivial) fun _=>Aj trivial) fun _=>Aj trivial) fun _ _=>Aj trivial
theorem PK{α:Type}{l:List α}{i:Nat}{x:α}:(l.set i x).length=l.length:=by simp
theorem T5(c:List AoU)(i:Nat)(hi:i<c.length)(hc:c.length<=4096)(after:Int)(ts:List Int)(hts:ts.length<=2)(l:List Int)(hl:l.length=c.length):TP (Be (fun(v:Int×List Int)=>EI c (i:Int) after ts v.1 v.2) (0,l)) fun z=>match z with
 |.inl l'=>l'.length=c.length
 |.inr (.inr (.inr (.inr (.inr z))))=>True
 |_=>False:=by
 refine AY (fun v=>∃k:Nat,v.1=(k:Int)/\k<=ts.length/\v.2.length=c.length) (fun v=>((ts.length:Int)-v.1).toNat) ?_ ⟨0,rfl,Apx _,hl⟩ (by simp;omega);rintro⟨_,l⟩ ⟨k,rfl,hk,hl⟩;simp only at hl;unfold EI;refine AB (fun h=>?_) fun h=>Aj hl
 have hk':k<ts.length:=by simpa using h
 refine D1 (Au hk') ?_;simp only[Apc];refine AD (Q:=fun b=>b=false->InR (nth ts k) l.length) ?_ fun b hb=>AB (fun _=>Aj trivial) fun hn=>D1 (hb (Apy hn)) (A9 (Aj ⟨⟨k+1,Bv (by omega),hk',by simp only;rw[PK];exact hl⟩,by simp only;rw[Bv (by omega)];omega⟩))
 refine AB (fun _=>Aj fun e=>by cases e) fun h1=>AB (fun _=>Aj fun e=>by cases e) fun h2=>?_
 simp only[App]at h1 h2;have hin:InR (nth ts k) l.length:=⟨by omega,by omega⟩;exact D1 hin (AB (fun _=>D1 hin (Aj fun _=>hin)) fun _=>Aj fun _=>hin)
theorem UW(c:List AoU):Yz (GX c):=by
 unfold GX;refine AB (fun _=>Aj trivial) fun h=>?_
 have hc:c.length<=4096:=by simp only[App]at h;omega
 refine AD (Q:=fun b=>b=false->c.length≠0) ?_ fun b hb=>AB (fun _=>Aj trivial) fun hn=>?_
 ·refine AB (fun _=>Aj fun e=>by cases e) fun h=>?_
  have h':c.length≠0:=by simpa using h
  exact AhV (XA c (by omega) fun y _=>U4 y) fun b=>Aj fun _=>h'
 have h0:=hb (Apy hn);refine AD (Vu c.length (by omega) hc) fun l hl=>D1 (Au (k:=0) (by omega)) (A9 ?_)
 refine AD (Q:=fun _=>True) (AD (Q:=fun z=>match z with
  |.inr (.inl _)=>False
  |_=>True) ?_ fun z hz=>?_) fun z _=>?_
 ·refine AY (fun v=>∃k:Nat,v.2.1=(k:Int)/\k<=c.length/\v.2.2.length=c.length) (fun v=>((c.length:Int)-v.2.1).toNat) ?_ ⟨0,rfl,Apx _,by rw[PK];exact hl⟩ (by simp;omega);rintro⟨st,_,l⟩ ⟨k,rfl,hk,hl⟩;simp only at hl;unfold Gv;refine AB (fun h=>?_) fun h=>Aj trivial
  have hk':k<c.length:=by simpa using h
  have fin:∀z:Int×List Int,z.2.length=c.length->TP (some (.inl (z.1,w64 ((k:Int)+1),z.2)):Option ((Int×Int×List Int)⊕(Int⊕(Int⊕(Int×Int))))) fun y=>match y with
   |.inl v'=>(∃k:Nat,v'.2.1=(k:Int)/\k<=c.length/\v'.2.2.length=c.length)/\((c.length:Int)-v'.2.1).toNat<((c.length:Int)-(k:Int)).toNat
   |.inr (.inr (.inl _))=>False
   |.inr _=>True:=fun z hz=>Aj ⟨⟨k+1,Bv (by omega),hk',hz⟩,by simp only;rw[Bv (by omega)];omega⟩
  refine AD (Q:=fun z=>match z with
   |.inl z=>z.2.length=c.length
   |.inr (.inr (.inr (.inr z)))=>True
   |_=>False) ?_ fun z hz=>?_
  ·refine D1 (Au hk') (A9 (A9 (A9 (D1 (Au (show k<l.length by omega)) (AB (fun _=>Aj hl) fun _=>?_)))));refine AhV (VK _) fun y=>A9 (A9 ?_)
   refine AD (Q:=fun _=>True) ?_ fun b _=>AB (fun _=>Aj trivial) fun _=>?_
   ·refine AB (fun _=>Aj trivial) fun _=>AB (fun _=>AB (fun _=>Aj trivial) fun _=>AB (fun _=>Aj trivial) fun _=>Aj trivial) fun _=>AB (fun _=>Aj trivial) fun _=>Aj trivial
   refine AD (Q:=fun l:List Int=>l.length<=1) (AD (Q:=fun _=>True) (AB (fun _=>Aj trivial) fun _=>Aj trivial) fun b _=>AB (fun _=>A9 (Aj (by simp))) fun _=>Aj (by simp)) fun l1 hl1=>?_
   refine AD (Q:=fun l:List Int=>l.length<=2) (AD (Q:=fun _=>True) (AB (fun _=>AB (fun _=>Aj trivial) fun _=>Aj trivial) fun _=>Aj trivial) fun b _=>AB (fun _=>D1 (O4 (by omega) (by decide)) (A9 (Aj (by simp;omega)))) fun _=>Aj (by omega)) fun l2 hl2=>?_
   refine AD (T5 c k hk' hc _ l2 hl2 l hl) fun z hz=>?_
   match z,hz with
   |.inl l',hz=>exact Aj hz
   |.inr (.inr (.inr (.inr (.inr z)))),_=>exact Aj trivial
  match z,hz with
  |.inl (st',l'),hz=>exact Aj ⟨⟨k+1,Bv (by omega),hk',hz⟩,by simp only;rw[Bv (by omega)];omega⟩
  |.inr (.inr (.inr (.inr z))),_=>exact Aj trivial
 ·match z,hz with
  |.inl _,_=>exact Aj trivial
  |.inr (.inr z),_=>exact Aj trivial
 match z with
 |.inl st=>exact AB (fun _=>Aj trivial) fun _=>Aj trivial
 |.inr z=>exact Aj trivial
theorem TF{t:AoO}{n:Nat}(hz:Tz n t)(hn:n<1000000):Yz (Fk t):=by
 obtain⟨e,he,hk⟩:=Lu t hz hn;unfold Fk;rw[he];simp only[Ai];refine AB (fun _=>Aj trivial) fun h0=>?_
 have hok:=hk (by simpa using h0);have hl:=hok.few;refine AD (Q:=fun l=>l.length<=3600030*64) (AD (Q:=fun l=>l.length<=3600030*64) ?_ fun z hz=>Aj hz) fun l hl=>?_
 ·refine AY (fun v=>∃k:Nat,v.1=(k:Int)/\k<=t.Zf.length/\v.2.length<=3600030*k) (fun v=>((t.Zf.length:Int)-v.1).toNat) ?_ ⟨0,rfl,Apx _,by simp⟩ (by simp;omega);rintro⟨_,l⟩ ⟨k,rfl,hk,hc⟩;simp only at hc;unfold FF;refine AB (fun h=>?_) fun h=>Aj (show l.length<=_ by omega)
  have hk':k<t.Zf.length:=by simpa using h
  refine D1 (Au hk') (A9 (A9 (A9 (A9 (A9 (A9 ?_))))));simp only[Apc,Fa];have hm:=AP hk';refine AD (TX _ _ _ (hok.all _ hm) (hz.2 _ hm).2.2 (by simp only;omega)) fun r hr=>A9 (Aj ⟨⟨k+1,Bv (by omega),hk',?_⟩,by simp only;rw[Bv (by omega)];omega⟩)
  simp only at hr ⊢;omega
 rw[HC _ _ _ _ (by simp only;omega)];simp only[Ai,Bt];exact AhV (UW _) fun y=>AB (fun _=>Aj trivial) fun _=>Aj trivial
theorem AbA(p:Ps)(before:Int):TP (D7 p before) fun r=>∀t q,r=.inl (t,q)->q.l.length<p.l.length/\before≠8:=by
 unfold D7;rw[MH];simp only[Ai];rw[S9 p HY (by decide)];simp only[Ai];cases hm:U3 p w_attributes with
 |inr e=>exact Aj fun t q h=>by cases h
 | inl a=>
  obtain⟨i,q⟩:=a;obtain⟨h1,_⟩:=My hm;simp only;refine AB (fun _=>Aj fun t q h=>by cases h) fun hb=>?_
  have hb':before≠8:=by simpa using hb
  rw[ER];simp only[Ai];refine AB (fun h=>?_) fun h=>?_
  ·have h2:=Lj h;rw[KH];simp only[Ai];cases hi:Ae6 (O6 q [105,115]).2 with
   |inr e=>exact Aj fun t q h=>by cases h
   |inl a=>
    obtain⟨n,q2⟩:=a;have h3:=Ow hi;refine Aj fun t q' hh=>?_
    cases hh;exact⟨by simp only;omega,hb'⟩
  rw [NB h,EV];simp only[Ai];cases he:US q [105,110]with
  |inr e=>exact Aj fun t q h=>by cases h
  | inl q1=>
   have h2:=GN he;simp only[KH,Ai];cases hi:Ae6 q1 with
   |inr e=>exact Aj fun t q h=>by cases h
   | inl a=>
    obtain⟨n,q2⟩:=a;have h3:=Ow hi;simp only[EV,Ai];cases he2:US q2 [46,46]with
    |inr e=>exact Aj fun t q h=>by cases h
    | inl q3=>
     have h4:=GN he2;simp only[KH,Ai];cases hi2:Ae6 q3 with
     |inr e=>exact Aj fun t q h=>by cases h
     |inl a=>
      obtain⟨n2,q4⟩:=a;have h5:=Ow hi2;refine Aj fun t q' hh=>?_
      cases hh;exact⟨by simp only;omega,hb'⟩
theorem WX{α:Type}{p:α->Bool}{l:List α}{k:Nat}(h:k<l.length):(l.take (k+1)).any p=((l.take k).any p||p l[k]):=by
 rw[Apv h,List.any_append,List.any_cons,List.any_nil,Bool.or_false]
theorem RU(s:List AoN)(f:AoN)(hs:s.length<1000000):TP (Bz s f) fun y=>y.1=(s.any fun b=>b.Zd==f.Zd)/\y.2.Zd=f.Zd:=by
 unfold Bz;refine AD (Q:=fun y=>(decide (y.1≥0)=s.any fun b=>b.Zd==f.Zd)/\y.2.Zd=f.Zd) ?_ fun y hy=>Aj hy
 unfold C0
 refine AD (Q:=fun z=>match z with
  |.inl z=>(s.any fun b=>b.Zd==f.Zd)=false/\z.1=f.Zd
  |.inr y=>(decide (y.1≥0)=s.any fun b=>b.Zd==f.Zd)/\y.2.Zd=f.Zd) ?_ fun z hz=>?_
 ·refine AD (Q:=fun z=>match z with
   |.inl z=>(s.any fun b=>b.Zd==f.Zd)=false/\z.1=f.Zd
   |.inr (.inr y)=>(decide (y.1≥0)=s.any fun b=>b.Zd==f.Zd)/\y.2.Zd=f.Zd
   |_=>False) ?_ fun z hz=>?_
  ·refine AY (fun v=>v.2.1=f.Zd/\∃k:Nat,v.1=(k:Int)/\k<=s.length/\((s.take k).any fun b=>b.Zd==f.Zd)=false) (fun v=>((s.length:Int)-v.1).toNat) ?_ ⟨rfl,0,rfl,Apx _,rfl⟩ (by simp;omega);rintro⟨_,n,a,b,c⟩ ⟨hn,k,rfl,hk,ha⟩;simp only at hn ⊢;subst hn;unfold BV;refine AB (fun h=>?_) fun h=>Aj ?_
   ·have hk':k<s.length:=by simpa using h
    simp only[Ao4 (Au hk'),Apc,Dy,Ai];refine AB (fun hb=>Aj ⟨?_,rfl⟩) fun hb=>Aj ⟨⟨rfl,k+1,Bv (by omega),hk',?_⟩,by simp only;rw[Bv (by omega)];omega⟩
    ·have:(s.any fun b=>b.Zd==f.Zd)=true:=Ars.2 ⟨_,AP hk',hb⟩;rw[this];simp
    rw[WX hk',ha,<-BB hk'];simpa using hb
   have:k=s.length:=by simp at h;omega
   subst this;rw[Ap0]at ha;exact⟨ha,rfl⟩
  match z,hz with
  |.inl z,hz=>exact Aj hz
  |.inr (.inr z),hz=>exact Aj hz
 match z,hz with
 |.inl (a,b,c,d),hz=>exact Aj ⟨by rw[hz.1];rfl,hz.2⟩
 |.inr z,hz=>exact Aj hz
theorem Wl(p:Ps)(before:List AoN)(hp:p.l.length<900000)(hb:before.length<1000000):TP (CT p before) fun r=>∀c q,r=.inl (c,q)->q.l.length<p.l.length/\c.Ze.length<=8/\Ez 900000 c.Pay:=by
 unfold CT;rw[MH];simp only[Ai,Aa9];cases hn:YY p with
 |inr e=>exact Aj fun c q h=>by cases h
 | inl a=>
  obtain⟨nm,q0⟩:=a;have h0:=SV hn;simp only;refine AD (RU before _ hb) fun y hy=>AB (fun _=>Aj fun c q h=>by cases h) fun _=>?_
  refine AD (Q:=fun z=>match z with
   |.inl z=>z.1.length<=q0.l.length/\z.2.2.length<=8
   |.inr (.inl _)=>False
   |.inr (.inr _)=>True) ?_ fun z hz=>?_
  ·rw [ER];simp only[Ai]
   refine AD (Q:=fun z=>match z with
    |.inl z=>z.1.length<=q0.l.length/\z.2.2.length<=8
    |.inr (.inr (.inr _))=>True
    |_=>False) ?_ fun z hz=>?_
   ·refine AY (fun v=>v.2.1.length<=q0.l.length/\v.2.2.2.length<=8) (fun v=>v.2.1.length+(if v.1=true then 1 else 0)) ?_ ⟨P7,by simp⟩ ?_
    ·rintro⟨more,l,e,ts⟩ ⟨hl,ht⟩;simp only at hl ht ⊢;unfold CZ;refine AB (fun hm=>?_) fun hm=>Aj ⟨hl,ht⟩
     refine AD (AbA _ _) fun r hr=>?_
     cases r with
     |inr e=>exact Aj trivial
     | inl a=>
      obtain⟨t,q⟩:=a;obtain⟨r1,r2⟩:=hr t q rfl;have r1':q.l.length<l.length:=r1;have hlt:ts.length<8:=by omega
      refine D1 ⟨by unfold maxLen;omega,by unfold Hu;omega⟩ (A9 ?_);rw[ER];simp only[Ai];refine Aj ⟨⟨?_,by simp only[Ao5,ApH];omega⟩,?_⟩
      ·have:=P7 (p:=q) (s:=[97,110,100]);simp only;omega
      simp only;rw[Ao4 hm];by_cases ha:(O6 q [97,110,100]).1=true
      ·have:=Lj ha;rw[Ao4 ha];omega
      rw[Ao6 ha,NB ha];omega
    have:=P7 (p:=q0) (s:=[119,104,101,110]);simp only;split<;>omega
   match z,hz with
   |.inl z,hz=>exact Aj hz
   |.inr (.inr (.inr z)),hz=>exact Aj hz
  match z,hz with
  |.inr (.inr z),hz=>exact Aj fun c q h=>by cases h
  | .inl (l,e,ts),hz=>
   obtain⟨hl,ht⟩:=hz;simp only at hl ht ⊢;rw[EV];simp only[Ai];cases he:US ⟨l,e⟩ [112,97,121]with
   |inr e=>exact Aj fun c q h=>by cases h
   | inl q1=>
    have h1:=GN he;have h1':q1.l.length+1=l.length:=h1;simp only[MH,Ai];refine AD (AcQ q1 (by omega)) fun r hr=>?_
    cases r with
    |inr e=>exact Aj fun c q h=>by cases h
    | inl a=>
     obtain⟨x,q2⟩:=a;obtain⟨r1,r2⟩:=hr x q2 rfl;simp only;refine AD (Kq _ x _ r2.1 (by omega) (by omega)) fun k hk=>AB (fun _=>Aj fun c q h=>by cases h) fun _=>?_
     rw[EV];simp only[Ai];cases he2:US q2 [59]with
     |inr e=>exact Aj fun c q h=>by cases h
     |inl q3=>
      have h2:=GN he2;refine Aj fun c q h=>?_
      cases h;exact⟨by omega,ht,r2.mono (by omega)⟩
theorem ZG(toks:List AoI)(e:Int)(at0:Int)(h:toks.length<900000):TP (Be (fun(v:Int×List AoI×Int×List AoN)=>EP v.1 v.2.1 v.2.2.1 v.2.2.2) (at0,toks,e,[])) fun z=>match z with
  |.inl z=>z.2.2.length<=64/\(∀c∈z.2.2,c.Ze.length<=8/\Ez 900000 c.Pay)/\z.1.length<900000
  |.inr (.inr y)=>y.1.Zf=[]
  |_=>False:=by
 refine AY (fun v=>v.2.1.length<900000/\v.2.2.2.length<=64/\∀c∈v.2.2.2,c.Ze.length<=8/\Ez 900000 c.Pay) (fun v=>v.2.1.length) ?_ ⟨h,by simp,by simp⟩ (by simp only;omega);rintro⟨a,l,e,cs⟩ ⟨hl,hc,hw⟩;simp only at hl hc hw ⊢;unfold EP;rw[ER];simp only[Ai];refine AB (fun ha=>?_) fun ha=>Aj ⟨hc,hw,?_⟩
 ·have h1:=Lj ha;have h1':(O6 ⟨l,e⟩ [99,108,97,117,115,101]).2.l.length+1=l.length:=h1;refine AB (fun _=>Aj rfl) fun h64=>?_
  have hc':cs.length≠64:=by
   intro e0;rw[e0]at h64;exact h64 rfl
  refine AD (Wl _ cs (by omega) (by omega)) fun r hr=>?_
  cases r with
  |inr e=>exact Aj rfl
  | inl b=>
   obtain⟨c,q⟩:=b;obtain⟨r1,r2⟩:=hr c q rfl;refine D1 ⟨by unfold maxLen;omega,by unfold Hu;omega⟩ (A9 ?_);rw[MH];simp only[Ai];refine Aj ⟨⟨by simp only;omega,by simp only[Ao5,ApH];omega,fun c' hc'=>?_⟩,by simp only;omega⟩;simp only at hc';rcases Apl.1 hc' with hh|hh
   ·exact hw c' hh
   simp only[ApJ]at hh;subst hh;exact r2
 have:=P7 (p:=⟨l,e⟩) (s:=[99,108,97,117,115,101]);have h1':(O6 ⟨l,e⟩ [99,108,97,117,115,101]).2.l.length<=l.length:=this;simp only;omega
theorem FC{y:AoO}(h:y.Zf=[]):Tz 64 y:=⟨by rw[h];simp,by rw[h];simp⟩
theorem V4(src:List UInt8)(hs:src.length<=2000):TP (ED src) fun y=>Tz 64 y.1:=by
 obtain⟨l,e,ht⟩:=Rt.total src.length src false 0 (Apf _);have htok:=Aa6 ht hs;have hlen:=ht.len;unfold ED
 have key:∀r,CD src=some r->Tz 64 r.1:=by
  intro r hr;unfold CD at hr;rw[htok]at hr;simp only[Ai]at hr;split at hr
  ·cases hr;exact FC rfl
  cases hr
 cases he:CD src with
 |some r=>exact Aj (key r he)
 | none =>
  have he':¬((res l e).2.2 != 0)=true:=by
   intro hc;unfold CD at he;rw[htok]at he;simp only[Ai]at he;rw[Ao4 hc]at he;cases he
  have hl:(res l e).1.length<900000:=by
   cases e with
   |none=>show l.length<_;omega
   |some q=>show([]:List AoI).length<_;simp
  show TP (F9 src) _;unfold F9;rw[htok];simp only[Ai];rw[Ao6 he',EV];simp only[Ai];cases h1:US ⟨(res l e).1,(src.length:Int)⟩ [116,97,114,105,102,102]with
  |inr e=>exact Aj (FC rfl)
  | inl q1 =>
   have g1:=GN h1;have g1':q1.l.length+1=(res l e).1.length:=g1;simp only[Aa9,Ai];cases h2:YY q1 with
   |inr e=>exact Aj (FC rfl)
   | inl a =>
    obtain⟨nm,q2⟩:=a;have g2:=SV h2;simp only[EV,Ai];cases h3:US q2 [102,111,114]with
    |inr e=>exact Aj (FC rfl)
    | inl q3=>
     have g3:=GN h3;simp only;rw[S9 q3 AaO (by decide)];simp only[Ai];cases h4:U3 q3 w_kinds with
     |inr e=>exact Aj (FC rfl)
     | inl a=>
      obtain⟨i,q4⟩:=a;have g4:=My h4;simp only[EV,Ai];cases h5:US q4 [123]with
      |inr e=>exact Aj (FC rfl)
      | inl q5=>
       have g5:=GN h5;simp only[MH,Ai]
       refine AD (Q:=fun z=>match z with
        |.inl z=>z.2.2.length<=64/\(∀c∈z.2.2,c.Ze.length<=8/\Ez 900000 c.Pay)/\z.1.length<900000
        |.inr y=>y.1.Zf=[]) (AD (ZG q5.l q5.end_ _ (by omega)) fun z hz=>?_) fun z hz=>?_
       ·match z,hz with
        |.inl z,hz=>exact Aj hz
        |.inr (.inr z),hz=>exact Aj hz
       match z,hz with
       |.inr z,hz=>exact Aj (FC hz)
       | .inl (l6,e6,cs),hz=>
        simp only[EV,Ai];cases h6:US ⟨l6,e6⟩ [125]with
        |inr e=>exact Aj (FC rfl)
        | inl q7=>
         simp only
         refine AD (Q:=fun z=>match z with
          |.inl ()=>True
          |.inr y=>y.1.Zf=[]) (AB (fun _=>?_) fun _=>Aj trivial) fun z hz'=>?_
         ·rw[Mw];exact Aj rfl
         match z,hz' with
         |.inl (),_=>exact Aj ⟨hz.1,hz.2.1⟩
         |.inr z,hz'=>exact Aj (FC hz')
theorem XX(src:List UInt8):TP (ED src) fun y=>Tz 64 y.1:=by
 by_cases hs:src.length<=2000
 ·exact V4 src hs
 have htok:=W3 (src:=src) (by omega);unfold ED
 have he:CD src=some ({ Zd:=[],For:=0,Zf:=[] },0,2):=by
  unfold CD;rw[htok];rfl
 rw[he];exact Aj (FC rfl)
theorem MT{α:Type}[Inhabited α]{n:Nat}{a:Arr α n}{i j:Nat}{x:α}(hj:j<n):(a.set i x).get j=if i=j then x else a.get j:=by
 have h:j<a.l.length:=by rw[a.h];exact hj
 simp only[Arr.get,Arr.set,nth];rw[Apm,ApO];by_cases e:i=j
 ·subst e;simp[h]
 simp[e,Apm]
def Fx(lo hi V:Arr Int 16):Prop:=∀a,a<16->lo.get a<=V.get a/\V.get a<=hi.get a
theorem ZR{lo hi V:Arr Int 16}{k:Nat}{a b:Int}(hk:k<16):Fx (lo.set k (Qe (lo.get k) a)) (hi.set k (Qm (hi.get k) b)) V↔Fx lo hi V/\(a<=V.get k/\V.get k<=b):=by
 constructor
 ·intro h;have hk':=h k hk;rw[MT hk,MT hk,Ao4 rfl,Ao4 rfl]at hk';unfold Qe Qm at hk';refine⟨fun j hj=>?_,by split at hk'<;>split at hk'<;>omega⟩;by_cases e:k=j
  ·subst e;split at hk'<;>split at hk'<;>omega
  have:=h j hj;rw[MT hj,MT hj,Ao6 e,Ao6 e]at this;exact this
 rintro⟨h,h1,h2⟩ j hj;rw[MT hj,MT hj];by_cases e:k=j
 ·subst e;rw[Ao4 rfl,Ao4 rfl];have:=h k hk;unfold Qe Qm;split<;>split<;>omega
 rw[Ao6 e,Ao6 e];exact h j hj
def boxAll:AoJ:=⟨Arr.rep 16 0,Arr.rep 16 9007199254740992⟩
theorem Akl:tbox_all=some boxAll:=by decide +kernel
theorem AiE(b:AoJ)(t:AoK)(h0:0<=t.Attr)(h1:t.Attr<16):GQ b t=some ⟨b.low.set t.Attr.toNat (Qe (b.low.get t.Attr.toNat) t.Low),b.high.set t.Attr.toNat (Qm (b.high.get t.Attr.toNat) t.Zc)⟩:=by
 have hi:InR t.Attr 16:=⟨h0,by omega⟩;unfold GQ;simp only[Ao4 hi,Bt]
theorem Ue(b c:AoJ):TP (Fi b c) fun r=>(∀V,Fx r.1.low r.1.high V↔Fx b.low b.high V/\Fx c.low c.high V)/\(r.2=false->∀V,¬(Fx b.low b.high V/\Fx c.low c.high V)):=by
 unfold Fi;refine AD (Q:=fun q=>(∀V,Fx q.2.1 q.2.2 V↔Fx b.low b.high V/\Fx c.low c.high V)/\(q.1=false->∀V,¬(Fx b.low b.high V/\Fx c.low c.high V))) ?_ fun q hq=>Aj hq
 refine AD (Q:=fun q=>(∀V,Fx q.2.1 q.2.2 V↔Fx b.low b.high V/\Fx c.low c.high V)/\(q.1=false->∀V,¬(Fx b.low b.high V/\Fx c.low c.high V))) ?_ fun q hq=>Aj hq
 refine AY (fun v=>∃k:Nat,v.2.1=(k:Int)/\k<=16/\(∀V,Fx v.2.2.1 v.2.2.2 V↔Fx b.low b.high V/\∀a,a<k->c.low.get a<=V.get a/\V.get a<=c.high.get a)/\(v.1=false->∀V,¬Fx v.2.2.1 v.2.2.2 V)) (fun v=>(16-v.2.1).toNat) ?_ ⟨0,rfl,by omega,fun V=>⟨fun h=>⟨h,fun a ha=>by omega⟩,fun h=>h.1⟩,fun e=>by cases e⟩ (by simp);rintro⟨s,_,lo,hi⟩ ⟨k,rfl,hk,hV,hs⟩;simp only at hV hs ⊢;unfold FH;refine AB (fun h=>?_) fun h=>Aj ?_
 ·have hk':k<16:=by simp at h;omega
  have hin:InR (k:Int) 16:=Au hk';simp only[Ao4 hin,Bt,Apc];refine AD (Q:=fun s'=>s'=(s&&decide ((lo.set k (Qe (lo.get k) (c.low.get k))).get k<=(hi.set k (Qm (hi.get k) (c.high.get k))).get k))) ?_ fun s' hs'=>Aj ⟨⟨k+1,Bv (by omega),hk',fun V=>?_,fun e V hin=>?_⟩,?_⟩
  ·cases s with
   |true=>exact AB (fun _=>Aj (by simp)) fun h=>(h rfl).elim
   |false=>exact AB (fun h=>by cases h) fun _=>Aj rfl
  ·simp only;rw[ZR hk',hV];constructor
   ·rintro⟨⟨h1,h2⟩,h3⟩;refine⟨h1,fun a ha=>?_⟩;by_cases e:a<k
    ·exact h2 a e
    have:a=k:=by omega
    subst this;exact h3
   rintro⟨h1,h2⟩;exact⟨⟨h1,fun a ha=>h2 a (by omega)⟩,h2 k (by omega)⟩
  ·simp only at e hin;rw[hs']at e;cases s with
   |false=>exact hs rfl V ((ZR hk').1 hin).1
   |true=>
    have h1:=hin k hk';simp at e;omega
  simp only;rw[Bv (by omega)];omega
 have:k=16:=by simp at h;omega
 subst this;refine⟨fun V=>(hV V).trans ⟨fun h=>⟨h.1,fun a ha=>h.2 a ha⟩,fun h=>⟨h.1,fun a ha=>h.2 a ha⟩⟩,fun e V hh=>hs e V ((hV V).2 ⟨hh.1,fun a ha=>hh.2 a ha⟩)⟩
def QK(c:AoN)(V:Arr Int 16):Prop:=∀t∈c.Ze,t.Low<=V.get t.Attr.toNat/\V.get t.Attr.toNat<=t.Zc
def O0(c:AoN):Prop:=∀t∈c.Ze,0<=t.Attr/\t.Attr<16
abbrev OfP(c:AoN)(r:AoJ×Bool):Prop:=r.2=true->O0 c/\∀V,Fx r.1.low r.1.high V↔Fx boxAll.low boxAll.high V/\QK c V
theorem Aa0(c:AoN)(hl:c.Ze.length<1000000):TP (HP c) (OfP c):=by
 unfold HP;rw[Akl];show TP (((Be _ _).bind _:Option _).bind _) _
 refine AD (Q:=fun z=>match z with
  |.inl (lo,hi)=>O0 c/\∀V,Fx lo hi V↔Fx boxAll.low boxAll.high V/\QK c V
  |.inr r=>r.2=false) ?_ fun z hz=>?_
 ·refine AD (Q:=fun z=>match z with
   |.inl (lo,hi)=>O0 c/\∀V,Fx lo hi V↔Fx boxAll.low boxAll.high V/\QK c V
   |.inr (.inl _)=>False
   |.inr (.inr r)=>r.2=false) ?_ fun z hz=>?_
  ·refine AY (fun v=>∃k:Nat,v.1=(k:Int)/\k<=c.Ze.length/\(∀t∈c.Ze.take k,0<=t.Attr/\t.Attr<16)/\∀V,Fx v.2.1 v.2.2 V↔Fx boxAll.low boxAll.high V/\∀t∈c.Ze.take k,t.Low<=V.get t.Attr.toNat/\V.get t.Attr.toNat<=t.Zc) (fun v=>((c.Ze.length:Int)-v.1).toNat) ?_
    ⟨0,rfl,Apx _,by simp,fun V=>⟨fun h=>⟨h,by simp⟩,fun h=>h.1⟩⟩ (by simp;omega)
   rintro⟨_,lo,hi⟩ ⟨k,rfl,hk,hA,hV⟩;simp only at hV ⊢;unfold K0;refine AB (fun h=>?_) fun h=>Aj ?_
   ·have hk':k<c.Ze.length:=by simpa using h
    simp only[Ao4 (Au hk'),Bt,Apc];generalize ht:nth c.Ze k=t;have htk:c.Ze.take (k+1)=c.Ze.take k++[t]:=by rw[Apv hk',<-BB hk',ht]
    refine AD (Q:=fun b=>b=false->0<=t.Attr/\t.Attr<16) (AB (fun _=>Aj fun e=>by cases e) fun h=>Aj fun e=>?_) fun b hb=>AB (fun h=>Aj rfl) fun h=>?_
    ·simp at h e;omega
    obtain⟨h0,h1⟩:=hb (by simpa using h);rw[AiE _ _ h0 h1];refine Aj ⟨⟨k+1,Bv (by omega),hk',?_,fun V=>?_⟩,by simp only;rw[Bv (by omega)];omega⟩
    ·intro t' ht';rw[htk]at ht';rcases Apl.1 ht' with h|h
     ·exact hA t' h
     simp only[ApJ]at h;subst h;exact⟨h0,h1⟩
    simp only;rw[ZR (by omega),hV,htk];simp only[Apl,ApJ];constructor
    ·rintro⟨⟨a1,a2⟩,a3⟩;refine⟨a1,fun t' h=>?_⟩;rcases h with h|rfl
     ·exact a2 t' h
     exact a3
    rintro⟨a1,a2⟩;exact⟨⟨a1,fun t' h=>a2 t' (.inl h)⟩,a2 t (.inr rfl)⟩
   have:k=c.Ze.length:=by simp at h;omega
   subst this;rw[Ap0]at hA hV;exact⟨hA,hV⟩
  match z,hz with
  |.inl (lo,hi),hz=>exact Aj hz
  |.inr (.inr r),hz=>exact Aj hz
 match z,hz with
 |.inl (lo,hi),hz=>
  refine AD (Ue _ _) fun r hr=>AB (fun _=>Aj fun _=>⟨hz.1,fun V=>?_⟩) fun _=>Aj fun e=>by cases e
  rw[hr.1];exact⟨fun h=>(hz.2 V).1 h.1,fun h=>⟨(hz.2 V).2 h,(hz.2 V).2 h⟩⟩
 |.inr r,hz=>exact Aj fun e=>by rw[hz]at e;cases e
theorem Afu(c:AoN):({ Zd:=c.Zd,Ze:=c.Ze,Pay:=AoM.mk c.Pay.Op c.Pay.N c.Pay.Unit c.Pay.L }:AoN)=c:=Fa c
abbrev Ack(c:AoN)(r:AoJ×Bool):Prop:=HP c=some r/\OfP c r
theorem Aed(c:AoN)(hl:c.Ze.length<1000000):TP (HP c) (Ack c):=by
 obtain⟨r,e,h⟩:=Aa0 c hl;exact⟨r,e,e,h⟩
abbrev Aen(t:AoO):Prop:=t.Zf.length<=64/\∀c∈t.Zf,c.Ze.length<1000000
theorem Yp(t:AoO)(hs:Aen t)(l1:List AoJ)(l2:List Bool)(h1:l1.length=t.Zf.length)(h2:l2.length=t.Zf.length) :TP (Be (fun(v:Int×List AoJ×List Bool)=>ET t v.1 v.2.1 v.2.2) (0,l1,l2)) fun r=>r.1.length=t.Zf.length/\r.2.length=t.Zf.length/\∀k,k<t.Zf.length->Ack (nth t.Zf k) (nth r.1 k,nth r.2 k):=by
 refine AY (fun v=>∃k:Nat,v.1=(k:Int)/\k<=t.Zf.length/\v.2.1.length=t.Zf.length/\v.2.2.length=t.Zf.length/\∀j,j<k->Ack (nth t.Zf j) (nth v.2.1 j,nth v.2.2 j)) (fun v=>((t.Zf.length:Int)-v.1).toNat) ?_ ⟨0,rfl,Apx _,h1,h2,fun j hj=>by omega⟩ (by have:=hs.1;simp;omega);rintro⟨_,m1,m2⟩ ⟨k,rfl,hk,e1,e2,hj⟩;simp only at e1 e2 hj ⊢;unfold ET;have h64:=hs.1;refine AB (fun h=>?_) fun h=>Aj ?_
 ·have hk':k<t.Zf.length:=by simpa using h
  simp only[Ao4 (Au hk'),Bt,Apc,Afu];refine AD (Aed _ (hs.2 _ (AP hk'))) fun r hr=>D1 (Au (by omega)) (D1 (Au (by omega)) (Aj ⟨⟨k+1,Bv (by omega),hk',by simp[e1],by simp[e2],fun j hj'=>?_⟩,by simp only;rw[Bv (by omega)];omega⟩))
  by_cases e:k=j
  ·subst e;have q1:nth (m1.set k r.1) k=r.1:=by simp[nth,e1,hk']
   have q2:nth (m2.set k r.2) k=r.2:=by simp[nth,e2,hk']
   rw[q1,q2];exact hr
  have q1:nth (m1.set k r.1) j=nth m1 j:=by simp[nth,ApO,e]
  have q2:nth (m2.set k r.2) j=nth m2 j:=by simp[nth,ApO,e]
  rw[q1,q2];exact hj j (by omega)
 have:k=t.Zf.length:=by simp at h;omega
 subst this;exact⟨e1,e2,hj⟩
abbrev Ph(l1:List AoJ)(l2:List Bool)(i j:Nat):Prop:=nth l2 i=true->nth l2 j=true->∀V,¬(Fx (nth l1 i).low (nth l1 i).high V/\Fx (nth l1 j).low (nth l1 j).high V)
theorem Yi(l1:List AoJ)(l2:List Bool)(n:Nat)(hn:n<=64)(e1:l1.length=n)(e2:l2.length=n)(i:Nat)(hi:i<n) :TP (Be (fun(v:Int)=>EA l1 l2 (i:Int) v) ((i+1:Nat):Int)) fun z=>match z with
   |.inl ()=>∀j,i<j->j<n->Ph l1 l2 i j
   |.inr (.inr (.inr (.inr (.inr r))))=>r.2.2.2=true
   |_=>False:=by
 refine AY (fun v=>∃k:Nat,v=(k:Int)/\k<=n/\∀j,i<j->j<k->Ph l1 l2 i j) (fun v=>((n:Int)-v).toNat) ?_ ⟨i+1,rfl,hi,fun j h1 h2=>by omega⟩ (by omega);rintro _ ⟨k,rfl,hk,hj⟩;unfold EA;refine AB (fun h=>?_) fun h=>Aj ?_
 ·have hk':k<n:=by simp at h;omega
  refine D1 (Au (by omega)) (D1 (Au (by omega)) (AD (Ue _ _) fun r hr=>?_));simp only[Apc]at hr ⊢;refine AD (Q:=fun b=>b=(r.2&&(nth l2 i&&nth l2 k))) ?_ fun b hb=>?_
  ·refine AB (fun h=>D1 (Au (by omega)) (AB (fun h'=>D1 (Au (by omega)) (Aj ?_)) fun h'=>Aj ?_)) fun h=>Aj ?_
   ·rw[h,h'];simp
   ·rw[h,Apy h'];simp
   rw[Apy h];simp
  refine AB (fun _=>?_) fun hnb=>?_
  ·exact Aj rfl
  refine Aj ⟨⟨k+1,Bv (by omega),hk',fun j h1 h2=>?_⟩,by rw[Bv (by omega)];omega⟩;by_cases e:j<k
  ·exact hj j h1 e
  have:j=k:=by omega
  subst this;intro s1 s2 V hV;have hbf:b=false:=Apy hnb;rw[hb,s1,s2]at hbf;simp at hbf;exact hr.2 hbf V hV
 have:k=n:=by simp at h;omega
 subst this;exact hj
theorem TA(t:AoO)(hs:Aen t):TP (GT t) fun r=>r.2.2.2=false->∃l1 l2,(∀k,k<t.Zf.length->Ack (nth t.Zf k) (nth l1 k,nth l2 k))/\∀i j,i<j->j<t.Zf.length->Ph l1 l2 i j:=by
 unfold GT;have h64:=hs.1;refine D1 ⟨by omega,by omega,by unfold maxLen;omega,by unfold Hu;omega⟩ (A9 (D1 ⟨by omega,by omega,by unfold maxLen;omega,by unfold Hu;omega⟩ (A9 ?_)));refine AD (Q:=fun r=>r.1.length=t.Zf.length/\r.2.length=t.Zf.length/\∀k,k<t.Zf.length->Ack (nth t.Zf k) (nth r.1 k,nth r.2 k)) (AD (Yp t hs _ _ (by simp) (by simp)) fun r hr=>Aj hr) ?_;rintro⟨l1,l2⟩ ⟨e1,e2,hk⟩;simp only at e1 e2 hk ⊢
 refine AD (Q:=fun z=>match z with
  |.inl ()=>∀i j,i<j->j<t.Zf.length->Ph l1 l2 i j
  |.inr r=>r.2.2.2=true) ?_ fun z hz=>?_
 ·refine AD (Q:=fun z=>match z with
   |.inl ()=>∀i j,i<j->j<t.Zf.length->Ph l1 l2 i j
   |.inr (.inr r)=>r.2.2.2=true
   |_=>False) ?_ fun z hz=>?_
  ·refine AY (fun v=>∃k:Nat,v=(k:Int)/\k<=t.Zf.length/\∀i j,i<k->i<j->j<t.Zf.length->Ph l1 l2 i j) (fun v=>((t.Zf.length:Int)-v).toNat) ?_ ⟨0,rfl,Apx _,fun i j h=>by omega⟩ (by simp;omega);rintro _ ⟨k,rfl,hkk,hij⟩;unfold Gg;refine AB (fun h=>?_) fun h=>Aj ?_
   ·have hk':k<t.Zf.length:=by simp at h;omega
    rw[Bv (by omega)]
    refine AD (Q:=fun z=>match z with
     |.inl ()=>∀j,k<j->j<t.Zf.length->Ph l1 l2 k j
     |.inr (.inr (.inr (.inr r)))=>r.2.2.2=true
     |_=>False) (AD (Yi l1 l2 _ h64 e1 e2 k hk') fun z hz=>?_) fun z hz=>?_
    ·match z,hz with
     |.inl (),hz=>exact Aj hz
     |.inr (.inr (.inr (.inr (.inr r)))),hz=>exact Aj hz
    match z,hz with
    | .inl (),hz=>
     refine Aj ⟨⟨k+1,rfl,hk',fun i j h1 h2 h3=>?_⟩,by omega⟩;by_cases e:i<k
     ·exact hij i j e h2 h3
     have:i=k:=by omega
     subst this;exact hz j h2 h3
    |.inr (.inr (.inr (.inr r))),hz=>exact Aj hz
   have:k=t.Zf.length:=by simp at h;omega
   subst this;exact fun i j h1 h2=>hij i j (by omega) h1 h2
  match z,hz with
  |.inl (),hz=>exact Aj hz
  |.inr (.inr r),hz=>exact Aj hz
 match z,hz with
 |.inl (),hz=>exact Aj fun _=>⟨l1,l2,hk,hz⟩
 |.inr r,hz=>exact Aj fun e=>by rw[hz]at e;cases e
theorem Yd(t:AoO)(hs:Aen t):TP (E4 t) fun e=>e=0->(∀c∈t.Zf,O0 c)/\∀i j,i<j->j<t.Zf.length->∀V,Fx boxAll.low boxAll.high V->¬(QK (nth t.Zf i) V/\QK (nth t.Zf j) V):=by
 unfold E4;have h64:=hs.1
 refine AD (Q:=fun z=>match z with
  |.inl ()=>∀c∈t.Zf,∃b,HP c=some (b,true)
  |.inr e=>e=190) ?_ fun z hz=>?_
 ·refine AD (Q:=fun z=>match z with
   |.inl ()=>∀c∈t.Zf,∃b,HP c=some (b,true)
   |.inr (.inr e)=>e=190
   |_=>False) ?_ fun z hz=>?_
  ·refine AY (fun v=>∃k:Nat,v=(k:Int)/\k<=t.Zf.length/\∀c∈t.Zf.take k,∃b,HP c=some (b,true)) (fun v=>((t.Zf.length:Int)-v).toNat) ?_ ⟨0,rfl,Apx _,by simp⟩ (by simp;omega);rintro _ ⟨k,rfl,hk,hc⟩;unfold Hy;refine AB (fun h=>?_) fun h=>Aj ?_
   ·have hk':k<t.Zf.length:=by simpa using h
    simp only[Ao4 (Au hk'),Bt,Apc,Afu];obtain⟨r,er,_⟩:=Aa0 _ (hs.2 _ (AP hk'));rw[er];refine AB (fun h=>Aj rfl) fun h=>Aj ⟨⟨k+1,Bv (by omega),hk',fun c hc'=>?_⟩,by rw[Bv (by omega)];omega⟩
    rw[Apv hk',<-BB hk']at hc';rcases Apl.1 hc' with h'|h'
    ·exact hc c h'
    simp only[ApJ]at h';subst h';have:r.2=true:=by simpa using h
    exact⟨r.1,by rw[er,<-this]⟩
   have:k=t.Zf.length:=by simp at h;omega
   subst this;rw[Ap0]at hc;exact hc
  match z,hz with
  |.inl (),hz=>exact Aj hz
  |.inr (.inr r),hz=>exact Aj hz
 match z,hz with
 |.inr e,hz=>exact Aj fun e0=>by rw[hz]at e0;cases e0
 | .inl (),hz=>
  refine AD (TA t hs) fun r hr=>AB (fun _=>Aj fun e=>by cases e) fun h=>Aj fun _=>?_
  obtain⟨l1,l2,hof,hap⟩:=hr (Apy h)
  have key:∀k,k<t.Zf.length->nth l2 k=true/\O0 (nth t.Zf k)/\∀V,Fx (nth l1 k).low (nth l1 k).high V↔Fx boxAll.low boxAll.high V/\QK (nth t.Zf k) V:=by
   intro k hk;obtain⟨b,hb⟩:=hz _ (AP hk);obtain⟨e,ho⟩:=hof k hk;rw[hb]at e;have e2:=ApV Prod.snd (Ao1 e);exact⟨e2.symm,ho e2.symm⟩
  refine⟨fun c hc=>?_,fun i j hij hj V hV hh=>?_⟩
  ·obtain⟨k,hk,rfl⟩:=ApW hc;rw[<-BB hk];exact(key k hk).2.1
  obtain⟨s1,_,i1⟩:=key i (by omega);obtain⟨s2,_,i2⟩:=key j hj;exact hap i j hij hj s1 s2 V ⟨(i1 V).2 ⟨hV,hh.1⟩,(i2 V).2 ⟨hV,hh.2⟩⟩
structure Ok(t:AoO):Prop where
  all:BC t=some 0
  chk:Dg t=some 0
  form:OkT t
  prt:Ee t=some (pr t,0)
  short:(pr t).length<=2000
  box:E4 t=some 0
  comp:∃c,Fk t=some (c,0)
theorem Rx{t:AoO}{n:Nat}(hz:Tz n t)(hn:n<1000000):TP (BC t) fun e=>e=0->Ok t:=by
 obtain⟨⟨s,e1⟩,p1,p2⟩:=YH hz hn;obtain⟨⟨k,e2⟩,q1,_⟩:=AbK hz hn;obtain⟨⟨c,e4⟩,r1,_⟩:=TF hz hn;simp only at p2
 have hf:TP (BC t) fun e=>e=0->e1=0/\BC t=some 0/\E4 t=some 0/\e4=0:=by
  have hg:TP (BC t) fun e=>e=0->e1=0/\E4 t=some 0/\e4=0:=by
   unfold BC BT FG FE FJ FM;rw[p1,q1,r1];simp only[Ai]
   refine AD (Q:=fun e=>e=0->e1=0/\E4 t=some 0/\e4=0) (AD (Q:=fun z=>match z with
    |.inl ()=>e1=0/\E4 t=some 0/\e4=0
    |.inr e=>e≠0) ?_ fun z hz=>?_) fun z hz=>Aj hz
   ·refine AB (fun h=>Aj (by simpa using h)) fun h1=>?_
    have h1':e1=0:=by simpa using h1
    obtain⟨p3,p4,p5,p6⟩:=p2 h1';refine AB (fun h=>Aj (by simpa using h)) fun h2=>?_
    have hsm:Aen t:=⟨p4.few,fun c hc=>by have:=(p4.all c hc).few;omega⟩;obtain⟨e3,b1,_⟩:=Yd t hsm;rw[b1];simp only[Ai];refine AB (fun h=>Aj (by simpa using h)) fun h3=>?_
    have h3':e3=0:=by simpa using h3
    subst h3';refine AB (fun h=>Aj (by simpa using h)) fun h4=>Aj ⟨h1',rfl,by simpa using h4⟩
   match z,hz with
   |.inl (),hz=>exact Aj fun _=>hz
   |.inr e,hz=>exact Aj fun h=>absurd h hz
  obtain⟨e,he,hk⟩:=hg;refine⟨e,he,fun h0=>?_⟩;obtain⟨k1,k2,k3⟩:=hk h0;exact⟨k1,by rw[he,h0],k2,k3⟩
 obtain⟨e,he,hk⟩:=hf;refine⟨e,he,fun h0=>?_⟩;obtain⟨k1,k2,k3,k4⟩:=hk h0;obtain⟨p3,p4,p5,p6⟩:=p2 k1;exact⟨k2,p3,p4,by rw[p1,p5,k1],p6,k3,c,by rw[r1,k4]⟩
def tz0:AoO:={ Zd:=[],For:=0,Zf:=[] }
theorem HG{n:Nat}:Tz n tz0:=⟨Apx _,by simp[tz0]⟩
def AmU(kind:Int)(y:AoO×Int):Prop:=Tz 64 y.1/\(y.2=0->Ok y.1/\y.1.For=kind/\1<=kind/\kind<=6)
theorem Mz(src:List UInt8)(kind:Int):TP (DC src kind) (AmU kind):=by
 unfold DC;refine AD (Q:=fun b=>b=false->1<=kind/\kind<=6) ?_ fun b hb=>AB (fun _=>Aj ⟨HG,fun h=>by cases h⟩) fun hn=>?_
 ·refine AB (fun _=>Aj fun e=>by cases e) fun h=>Aj fun e=>?_
  simp only[App,Aps]at h e;omega
 have hk:=hb (Apy hn);refine AD (XX src) fun y hy=>?_
 refine AD (Q:=fun e=>e=0->y.1.For=kind) ?_ fun e he=>?_
 ·refine AD (Q:=fun b=>b=false->y.2.2=0->y.1.For=kind) ?_ fun b hb=>AB (fun _=>Aj fun e=>by cases e) fun hn=>Aj fun e=>hb (Apy hn) e
  exact AB (fun _=>Aj fun e _=>by simpa using e) fun h=>Aj fun _ e=>absurd e (by simpa using h)
 refine AD (Q:=fun e=>e=0->Ok y.1/\y.1.For=kind) ?_ fun e2 he2=>AB (fun _=>Aj ⟨HG,fun h=>?_⟩) fun hn=>Aj ⟨hy,fun _=>⟨(he2 (by simpa using hn)).1,(he2 (by simpa using hn)).2,hk⟩⟩
 ·refine AB (fun h=>AD (Rx hy (by omega)) fun e3 h3=>Aj fun h0=>⟨h3 h0,he (by simpa using h)⟩) fun h=>Aj fun h0=>absurd h0 (by simpa using h)
 rename_i hne;exact absurd h (by simpa using hne)
theorem JX(x y:Int):TP (DL x y) fun r=>(x<y->r=-1)/\(y<x->r=1):=by
 unfold DL Hf;simp only[Ai,bne_self_eq_false,Apu,ApY];refine AB (fun h=>Aj ?_) fun h=>AB (fun h2=>Aj ?_) fun h2=>Aj ?_
 ·simp only[App]at h;exact⟨fun _=>rfl,fun _=>by omega⟩
 ·simp only[App]at h h2;exact⟨fun _=>by omega,fun _=>rfl⟩
 simp only[App]at h h2;exact⟨fun _=>by omega,fun _=>by omega⟩
theorem AfH(a b c:Int):TP (JY [a,b,c]) fun r=>a≠0->r=a:=by
 unfold JY
 refine AD (Q:=fun z=>match z with
  |.inl ()=>a=0
  |.inr r=>a≠0->r=a) (AD (Q:=fun z=>match z with
  |.inl ()=>a=0
  |.inr (.inr r)=>a≠0->r=a
  |_=>False) ?_ fun z hz=>?_) fun z hz=>?_
 ·refine AY (fun i=>∃k:Nat,i=(k:Int)/\k<=3/\(0<k->a=0)) (fun i=>(3-i).toNat) ?_ ⟨0,rfl,by omega,fun h=>by omega⟩ (by simp);rintro _ ⟨k,rfl,hk,ha⟩;unfold HX;have hl:([a,b,c]:List Int).length=3:=rfl;rw[hl];refine AB (fun h=>?_) fun h=>Aj ?_
  ·have hk':k<3:=by simp only[App]at h;omega
   refine D1 (Au hk') ?_;simp only[Apc];refine AB (fun hv=>Aj fun h0=>?_) fun hv=>Aj ⟨⟨k+1,Bv (by omega),hk',fun _=>?_⟩,by rw[Bv (by omega)];omega⟩
   ·have:k=0:=by
     by_cases e:0<k
     ·exact absurd (ha e) h0
     omega
    subst this;rfl
   by_cases e:0<k
   ·exact ha e
   have:k=0:=by omega
   subst this;simpa [nth]using hv
  simp only[App]at h;exact ha (by omega)
 ·match z,hz with
  |.inl (),hz=>exact Aj hz
  |.inr (.inr r),hz=>exact Aj hz
 match z,hz with
 |.inl (),hz=>exact Aj fun h=>absurd hz h
 |.inr r,hz=>exact Aj hz
theorem Oh(a b:AoT):TP (BX a b) fun r=>(a.Zu.Zn<b.Zu.Zn->r=-1)/\(b.Zu.Zn<a.Zu.Zn->r=1):=by
 unfold BX;refine AD (JX _ _) fun r1 h1=>AD (JX _ _) fun r2 _=>AD (JX _ _) fun r3 _=>AD (AfH _ _ _) fun r hr=>Aj ⟨fun h=>?_,fun h=>?_⟩
 ·rw[hr (by rw[h1.1 h];decide),h1.1 h]
 rw[hr (by rw[h1.2 h];decide),h1.2 h]
def Ab5(a b:AoT):Bool:=decide ((BX a b).getD 0<0)
theorem Aga(a b:AoT):∃y,BX a b=some y/\decide (y<0)=Ab5 a b:=by
 obtain⟨y,e,_⟩:=Oh a b;exact⟨y,e,by unfold Ab5;rw[e];rfl⟩
theorem Ajk{a b:AoT}(h:Ab5 a b=true):a.Zu.Zn<=b.Zu.Zn:=by
 obtain⟨y,e,h1,h2⟩:=Oh a b;unfold Ab5 at h;rw[e]at h;by_cases c:b.Zu.Zn<a.Zu.Zn
 ·rw[h2 c]at h;simp at h
 omega
theorem Akk{a b:AoT}(h:Ab5 a b=false):b.Zu.Zn<=a.Zu.Zn:=by
 obtain⟨y,e,h1,h2⟩:=Oh a b;unfold Ab5 at h;rw[e]at h;by_cases c:a.Zu.Zn<b.Zu.Zn
 ·rw[h1 c]at h;simp at h
 omega
def Ol(x:AoT):List AoT->List AoT
 |[]=>[x]
 |y::t=>if Ab5 x y=true then y::Ol x t else x::y::t
def J3(l:List AoT):List AoT:=l.foldl (fun acc x=>Ol x acc) []
theorem Qw(l:List AoT)(x:AoT):J3 (l++[x])=Ol x (J3 l):=by simp[J3]
theorem Xy(x:AoT):∀l,(Ol x l).length=l.length+1
 |[]=>rfl
 |y::t=>by
  unfold Ol;split
  ·simp[Xy x t]
  simp
theorem insV_mem{x:AoT}:∀{l:List AoT} {z:AoT},z∈Ol x l↔z=x\/z∈l
 |[],z=>by simp[Ol]
 | y::t,z=>by
  unfold Ol;split
  ·rw[Apq,insV_mem,Apq];constructor<;>rintro(h|h|h)<;>simp[h]
  simp[Apq]
theorem M4(l:List AoT):(J3 l).length=l.length:=by
 have key:∀(l a:List AoT),(l.foldl (fun acc x=>Ol x acc) a).length=a.length+l.length:=by
  intro l
  induction l with
  |nil=>intro a;rfl
  |cons x l ih=>intro a;rw[ArT,ih,Xy,Apb];omega
 rw[J3,key];simp
theorem ZE{l:List AoT}{z:AoT}:z∈J3 l↔z∈l:=by
 have key:∀(l a:List AoT),z∈(l.foldl (fun acc x=>Ol x acc) a)↔z∈a\/z∈l:=by
  intro l
  induction l with
  |nil=>intro a;simp
  |cons x l ih=>
   intro a;rw[ArT,ih,insV_mem,Apq];constructor
   ·rintro((h|h)|h)<;>simp[h]
   rintro(h|h|h)<;>simp[h]
 rw[J3,key];simp
def Alm(l:List AoT):Prop:=l.Pairwise fun a b=>b.Zu.Zn<=a.Zu.Zn
theorem Tq{x:AoT}:∀{l:List AoT},Alm l->Alm (Ol x l)
 |[],_=>List.pairwise_singleton _ _
 | y::t,h=>by
  obtain⟨h1,h2⟩:=AqJ.1 h;unfold Ol;by_cases c:Ab5 x y=true
  ·rw[Ao4 c];refine AqJ.2 ⟨fun z hz=>?_,Tq h2⟩;rcases insV_mem.1 hz with rfl|hz
   ·exact Ajk c
   exact h1 z hz
  rw[Ao6 c];have hx:=Akk (Apy c);refine AqJ.2 ⟨fun z hz=>?_,h⟩;rcases Apq.1 hz with rfl|hz
  ·exact hx
  exact Int.le_trans (h1 z hz) hx
theorem YQ(l:List AoT):Alm (J3 l):=by
 have key:∀(l a:List AoT),Alm a->Alm (l.foldl (fun acc x=>Ol x acc) a):=by
  intro l
  induction l with
  |nil=>intro a h;exact h
  |cons x l ih=>intro a h;exact ih _ (Tq h)
 exact key l [] List.Pairwise.nil
theorem Xp{V X:Type}{f:V->Option (V⊕X)}{v:V}{x:X}(h:f v=some (.inr x)):Be f v=some x :=
 Mx 0 f (fun _ _=>v) (fun _=>()) (fun _=>x) (by omega) (fun k hk=>by omega) h
theorem Aaj{α:Type}[Inhabited α](x:α)(r:List α):∀q:List α,nth (q++x::r) q.length=x
 |[]=>rfl
 |a::q=>by
  simp[nth]
theorem AgU{α:Type}[Inhabited α](y x:α)(r:List α)(q:List α):nth (q++y::x::r) (q.length+1)=x:=by
 have:=Aaj x r (q++[y]);simpa using this
theorem Aa3{α:Type}(y x:α)(r:List α):∀q:List α,((q++y::x::r).set (q.length+1) y).set q.length x=q++x::y::r
 |[]=>rfl
 |a::q=>by simp[Aa3 y x r q]
theorem Abu(x:AoT)(p r:List AoT)(hp:(p++x::r).length<1000000):Be (fun(v:Int×List AoT)=>Az 0 v.1 v.2) ((p.length:Int),p++x::r)=some ((Ol x p.reverse).reverse++r):=by
 have key:TP (Be (fun(v:Int×List AoT)=>Az 0 v.1 v.2) ((p.length:Int),p++x::r)) fun z=>z=(Ol x p.reverse).reverse++r:=by
  refine AY (fun v=>∃q s,v.2=q++x::s/\v.1=(q.length:Int)/\v.2.length<1000000/\(Ol x q.reverse).reverse++s=(Ol x p.reverse).reverse++r) (fun v=>v.1.toNat) ?_ ⟨p,r,rfl,rfl,hp,rfl⟩ (by simp only[Ao5,Apb]at hp;simp only;omega);rintro⟨_,_⟩ ⟨q,s,rfl,rfl,hl,ht⟩;simp only at hl ⊢;unfold Az;rcases List.eq_nil_or_concat q with rfl|⟨q,y,rfl⟩
  ·refine AD (Q:=fun b=>b=false) (AB (fun h=>by simp at h) fun _=>Aj rfl) fun b hb=>AB (fun h=>by rw[hb]at h;cases h) fun _=>Aj ?_
   rw[<-ht];rfl
  simp only[List.concat_eq_append]at hl ht ⊢;have e0:(q++[y])++x::s=q++y::x::s:=by simp
  have hlen:((q++[y]).length:Int)=((q.length+1:Nat):Int):=by simp
  have hw:w64 (((q.length+1:Nat):Int)-1)=(q.length:Int):=by
   simp only[Ao5,Apb]at hl;rw[Hq (by omega)];omega
  rw[e0];rw[hlen,hw];have i1:InR ((q.length+1:Nat):Int) (q++y::x::s).length:=Au (by simp);have i2:InR (q.length:Int) (q++y::x::s).length:=Au (by simp);rw[e0]at hl;simp only[Apc,Aaj,AgU];obtain⟨z,hz,hless⟩:=Aga x y;rw[hz];refine AD (Q:=fun b=>b=Ab5 x y) (AB (fun _=>D1 i1 (D1 i2 ?_)) fun h=>?_) fun b hb=>?_
  ·simp only[Ai];exact Aj hless
  ·simp only[App]at h;omega
  subst hb;refine AB (fun hb=>D1 i2 (D1 i1 (D1 i1 (D1 (by rw[PK];exact i2) (A9 (Aj ⟨⟨q,y::s,Aa3 y x s q,rfl,?_,?_⟩,?_⟩)))))) fun hb=>Aj ?_
  ·simp only[PK];exact hl
  ·rw[<-ht];simp only[List.reverse_append,List.reverse_cons,List.reverse_nil,ApN,Arm,Ol,Ao4 hb,ApZ,Apo]
  ·simp only;omega
  rw[<-ht];simp only[List.reverse_append,List.reverse_cons,List.reverse_nil,ApN,Arm,Ol,Ao6 hb,ApZ,Apo,List.reverse_reverse]
 obtain⟨z,e,h⟩:=key;rw[e,h]
theorem AcP(d:List AoT)(hd:d.length<1000000):Aw d 0 (d.length:Int)=some (J3 d).reverse:=by
 have key:TP (Aw d 0 (d.length:Int)) fun z=>z=(J3 d).reverse:=by
  unfold Aw;refine AD (Q:=fun z=>z=(J3 d).reverse) ?_ fun z hz=>Aj hz
  have hw:w64 (0+1)=((1:Nat):Int):=by decide
  rw[hw];refine AY (fun v=>∃k:Nat,v.1=(k:Int)/\1<=k/\(k<=d.length\/d=[])/\v.2=(J3 (d.take k)).reverse++d.drop k) (fun v=>((d.length:Int)-v.1).toNat) ?_ ⟨1,rfl,by omega,?_,?_⟩ (by simp only;omega)
  ·rintro⟨_,_⟩ ⟨k,rfl,h1,hk,rfl⟩;simp only;unfold AW;refine AB (fun h=>?_) fun h=>Aj ?_
   ·have hk':k<d.length:=by simpa using h
    have hsl:(J3 (d.take k)).reverse.length=k:=by rw[Arb,M4,Aqb];omega
    have ed:d.drop k=nth d k::d.drop (k+1):=by rw[Ap6 hk',BB hk']
    have:=Abu (nth d k) (J3 (d.take k)).reverse (d.drop (k+1)) (by simp only[Ao5,Apb,hsl,Aql];omega);rw[hsl]at this;rw[ed,this];simp only[Ai];refine Aj ⟨⟨k+1,Bv (by omega),by omega,.inl hk',?_⟩,by simp only;rw[Bv (by omega)];omega⟩;simp only;rw[List.reverse_reverse,Apv hk',Qw,BB hk']
   have:d.length<=k:=by simp at h;omega
   rw[ApP this,List.drop_of_length_le this,Ap3]
  ·cases d with
   |nil=>exact .inr rfl
   |cons a d=>exact .inl (by simp)
  cases d with
  |nil=>rfl
  |cons a d=>rfl
 obtain⟨z,e,h⟩:=key;rw[e,h]
theorem Agv(d:List AoT)(hd:d.length<=19):Bg d=some (J3 d).reverse:=by
 have hl:((J3 d).reverse).length=d.length:=by rw[Arb,M4]
 unfold Bg BH
 have e1:Be (fun(v:Int×Int×List AoT)=>AF (d.length:Int) v.1 v.2.1 v.2.2) (0,20,d)=some (0,d):=Xp (by
  show AF _ _ _ _=_;unfold AF;rw[Ao6 (by simp only[App];omega)])
 have e3:Be (fun(v:Int)=>AE (d.length:Int) v) 20=some ():=Xp (by
  show AE _ _=_;unfold AE;rw[Ao6 (by simp only[App];omega)])
 rw[e1];simp only[Ai];rw[AcP d (by omega)];simp only[Ai];rw[Ao4 hl.symm,e3];simp only[Ai];rw[Ao4 hl.symm]
def N3(railway kind:Int)(r:AoT):Bool:=decide (r.Ref.Zg=railway/\r.Zu.Zm=kind/\(r.Zu.Za=11\/r.Zu.Za=12\/r.Zu.Za=13))
def ed(l:List AoT)(railway kind:Int):List AoT:=(J3 (l.filter (N3 railway kind))).reverse
theorem U8(l:List AoT)(railway kind:Int)(hl:l.length<=19):DZ l railway kind=some (ed l railway kind):=by
 unfold DZ;have:=Mx l.length (fun(v:Int×List AoT)=>Cp l railway kind v.1 v.2) (fun i s=>(i,s)) (fun k=>(l.take k).filter (N3 railway kind)) (fun s=>s) (by omega) (fun k hk=>?_) ?_
 ·rw[Asa,ArA,Ap0]at this;rw[this];simp only[Ai];have h1:=Arq (N3 railway kind) l;rw[Agv _ (by omega)];simp only[Ai];rw[Ao4 (by rw[Arb,M4])];rfl
 ·have h1:=Arq (N3 railway kind) (l.take k);have h2:(l.take k).length<=k:=by rw[Aqb];omega
  have e:(l.take (k+1)).filter (N3 railway kind)=(l.take k).filter (N3 railway kind)++(if N3 railway kind (nth l k)=true then[nth l k]else[]):=by
   rw[Apv hk,ArG,<-BB hk,AqW,ArA]
  unfold Cp;simp only;rw[Ao4 (by simpa using hk),Ao4 (Au hk),e];simp only[Apc,Bt];rw[Bv (by omega)];by_cases c1:(nth l k).Ref.Zg=railway
  ·by_cases c2:(nth l k).Zu.Zm=kind
   ·by_cases c3:(nth l k).Zu.Za=11\/(nth l k).Zu.Za=12\/(nth l k).Zu.Za=13
    ·have hc:N3 railway kind (nth l k)=true:=decide_eq_true ⟨c1,c2,c3⟩
     have hb:(if((nth l k).Zu.Za==11)then some true else if((nth l k).Zu.Za==12)then some true else some ((nth l k).Zu.Za==13):Option Bool)=some true:=by
      rcases c3 with c3|c3|c3<;>rw[c3]<;>rfl
     rw[Ao4 hc,Ao6 (by simpa using c1)];simp only[Ai];rw[Ao6 (by simpa using c2),hb];simp only[Ai,ApL];rw[Ao4 (O4 (by omega) (by decide))];simp only[Ai]
    have hc:¬N3 railway kind (nth l k)=true:=fun h=>c3 (Aqq h).2.2
    have hb:(if((nth l k).Zu.Za==11)then some true else if((nth l k).Zu.Za==12)then some true else some ((nth l k).Zu.Za==13):Option Bool)=some false:=by
     rw[Ao6 (by simp;omega),Ao6 (by simp;omega)];simp;omega
    rw[Ao6 hc,Ao6 (by simpa using c1)];simp only[Ai];rw[Ao6 (by simpa using c2),hb];simp only[Ai,Apu,ApY,Ap3]
   have hc:¬N3 railway kind (nth l k)=true:=fun h=>c2 (Aqq h).2.1
   rw[Ao6 hc,Ao6 (by simpa using c1)];simp only[Ai];rw[Ao4 (by simpa using c2)];simp only[Ai,Ap3]
  have hc:¬N3 railway kind (nth l k)=true:=fun h=>c1 (Aqq h).1
  rw[Ao6 hc,Ao4 (by simpa using c1)];simp only[Ai,ApL,Ap3]
 unfold Cp;simp only;rw[Ao6 (by simp),Ap0]
structure AmP(t a r:AoO):Prop where
  name:r.Zd=t.Zd
  kind:r.For=t.For
  more:t.Zf.length<=r.Zf.length
  most:r.Zf.length<=t.Zf.length+a.Zf.length
  all:∀c∈r.Zf,c∈a.Zf\/(c∈t.Zf/\∀b∈a.Zf,b.Zd≠c.Zd)
theorem KF{α:Type}[Inhabited α]{l:List α}{k:Nat}(hk:k<l.length){x:α}:x∈l.take (k+1)↔x∈l.take k\/x=nth l k:=by
 rw[Apv hk,<-BB hk,Apl,ApJ]
theorem Abc{α:Type}[Inhabited α]{l:List α}{i j:Nat}{x:α}(hj:j<l.length):nth (l.set i x) j=if i=j then x else nth l j:=by
 rw[BB (by simpa using hj),BB hj,List.getElem_set]
theorem XB{l:List (List UInt8)}(h:l.Nodup){k:Nat}(hk:k<l.length):nth l k ∉ l.take k:=by
 intro hm;have hd:(l.take k++l.drop k).Nodup:=by rw[Aqf];exact h
 exact(List.nodup_append.1 hd).2.2 _ hm _ (by rw[Ap6 hk,BB hk];exact Apn) rfl
theorem Q6(t a:AoO)(ht:t.Zf.length<=1000)(ha:a.Zf.length<=1000)(hn:(t.Zf.map (·.Zd)).Nodup):TP (DK t a) (AmP t a):=by
 unfold DK;refine AD (Q:=fun m=>(∀s c,m s=some c->c∈a.Zf/\c.Zd=s)/\∀c∈a.Zf,(m c.Zd).isSome=true) (AD (Q:=fun m=>(∀s c,m s=some c->c∈a.Zf/\c.Zd=s)/\∀c∈a.Zf,(m c.Zd).isSome=true) ?_ fun z hz=>Aj hz) fun m0 hm=>?_
 ·refine AY (fun v=>∃k:Nat,v.1=(k:Int)/\k<=a.Zf.length/\(∀s c,v.2 s=some c->c∈a.Zf/\c.Zd=s)/\∀c∈a.Zf.take k,(v.2 c.Zd).isSome=true) (fun v=>((a.Zf.length:Int)-v.1).toNat) ?_ ⟨0,rfl,Apx _,fun s c h=>(by cases h),by simp⟩ (by simp;omega);rintro⟨_,m⟩ ⟨k,rfl,hk,h1,h2⟩;simp only at h1 h2;unfold Ff;refine AB (fun h=>?_) fun h=>Aj ?_
  ·have hk':k<a.Zf.length:=by simpa using h
   refine D1 (Au hk') (A9 (A9 (A9 (A9 (A9 (A9 (A9 (Aj ⟨⟨k+1,Bv (by omega),hk',fun s c e=>?_,fun c hc=>?_⟩,by simp only;rw[Bv (by omega)];omega⟩))))))))
   ·simp only[Apc,Fa,up2]at e;by_cases es:s=(nth a.Zf k).Zd
    ·rw[Ao4 es]at e;cases e;exact⟨AP hk',es.symm⟩
    rw[Ao6 es]at e;exact h1 s c e
   simp only[Apc,Fa,up2];by_cases es:c.Zd=(nth a.Zf k).Zd
   ·rw[Ao4 es];rfl
   rw[Ao6 es];rcases(KF hk').1 hc with hc|rfl
   ·exact h2 c hc
   exact absurd rfl es
  have:k=a.Zf.length:=by simp at h;omega
  subst this;rw[Ap0]at h2;exact⟨h1,h2⟩
 obtain⟨hm1,hm2⟩:=hm
 have hcl:EN t.Zf=some t.Zf:=by
  unfold EN;rw[Ao4 (O4 (by omega) (by decide)),Bt,ApN]
 rw[hcl];simp only[Ai];refine AD (Q:=fun z=>(∀s c,z.1 s=some c->m0 s=some c)/\z.2.length=t.Zf.length/\∀c∈z.2,c∈a.Zf\/(c∈t.Zf/\m0 c.Zd=none)) (AD (Q:=fun z=>(∀s c,z.1 s=some c->m0 s=some c)/\z.2.length=t.Zf.length/\∀c∈z.2,c∈a.Zf\/(c∈t.Zf/\m0 c.Zd=none)) ?_ fun z hz=>Aj hz) fun z hz=>?_
 ·refine AY (fun v=>∃k:Nat,v.1=(k:Int)/\k<=t.Zf.length/\(∀s c,v.2.1 s=some c->m0 s=some c)/\(∀s,v.2.1 s=none->m0 s=none\/s∈(t.Zf.map (·.Zd)).take k)/\v.2.2.length=t.Zf.length /\
    (∀j,k<=j->j<t.Zf.length->nth v.2.2 j=nth t.Zf j)/\∀j,j<k->nth v.2.2 j∈a.Zf\/(nth v.2.2 j∈t.Zf/\m0 (nth v.2.2 j).Zd=none)) (fun v=>((t.Zf.length:Int)-v.1).toNat) ?_ ⟨0,rfl,Apx _,fun s c h=>h,fun s h=>.inl h,rfl,fun j _ _=>rfl,fun j h=>by omega⟩ (by simp;omega)
  rintro⟨_,m,l⟩ ⟨k,rfl,hk,h1,h2,h3,h4,h5⟩;simp only at h1 h2 h3 h4 h5;unfold Fl;refine AB (fun h=>?_) fun h=>Aj ?_
  ·have hk':k<t.Zf.length:=by simpa using h
   have hkl:k<l.length:=by omega
   have hel:nth l k=nth t.Zf k:=h4 k (Apf _) hk';have hnm:nth (t.Zf.map (·.Zd)) k=(nth t.Zf k).Zd:=by rw[BB (by simpa using hk'),List.getElem_map,BB hk']
   have hnot:(nth t.Zf k).Zd ∉ (t.Zf.map (·.Zd)).take k:=by rw[<-hnm];exact XB hn (by simpa using hk')
   have hex:∀s,s∈(t.Zf.map (·.Zd)).take k->s∈(t.Zf.map (·.Zd)).take (k+1):=fun s hs=>(KF (by simpa using hk')).2 (.inl hs)
   refine AD (Q:=fun z=>(∀s c,z.1 s=some c->m0 s=some c)/\(∀s,z.1 s=none->m0 s=none\/s∈(t.Zf.map (·.Zd)).take (k+1))/\z.2.length=t.Zf.length/\(∀j,k+1<=j->j<t.Zf.length->nth z.2 j=nth t.Zf j) /\
     ∀j,j<k+1->nth z.2 j∈a.Zf\/(nth z.2 j∈t.Zf/\m0 (nth z.2 j).Zd=none)) ?_ fun z hz=>?_
   ·refine D1 (Au hkl) (A9 (A9 (A9 (A9 (A9 (A9 (A9 (A9 (A9 (A9 (A9 (A9 ?_))))))))))));simp only[Apc,Fa,hel];refine AB (fun hs=>D1 (Au hkl) (A9 (A9 (Aj ⟨fun s c e=>?_,fun s e=>?_,by rw[PK];exact h3,fun j j1 j2=>?_,fun j j1=>?_⟩)))) fun hs=>Aj ⟨h1,fun s e=>(h2 s e).imp id (hex s),h3,fun j j1 j2=>h4 j (by omega) j2,fun j j1=>?_⟩
    ·simp only[up2]at e;by_cases es:s=(nth t.Zf k).Zd
     ·rw[Ao4 es]at e;cases e
     rw[Ao6 es]at e;exact h1 s c e
    ·simp only[up2]at e;by_cases es:s=(nth t.Zf k).Zd
     ·exact .inr ((KF (by simpa using hk')).2 (.inr (by rw[es,hnm])))
     rw[Ao6 es]at e;exact(h2 s e).imp id (hex s)
    ·simp only;rw[Abc (by omega),Ao6 (by omega)];exact h4 j (by omega) j2
    ·simp only;rw[Abc (by omega)];by_cases ej:k=j
     ·rw[Ao4 ej];obtain⟨c,hc⟩:=AqL.1 hs;rw[hc];exact .inl (hm1 _ _ (h1 _ _ hc)).1
     rw[Ao6 ej];exact h5 j (by omega)
    simp only;by_cases ej:j=k
    ·subst ej;rw[hel]
     have hnone:m (nth t.Zf j).Zd=none:=by
      cases e:m (nth t.Zf j).Zd with
      |none=>rfl
      |some c=>rw[e]at hs;exact absurd rfl hs
     rcases h2 _ hnone with h0|h0
     ·exact .inr ⟨AP hk',h0⟩
     exact absurd h0 hnot
    exact h5 j (by omega)
   obtain⟨z1,z2⟩:=z;obtain⟨g1,g2,g3,g4,g5⟩:=hz;exact Aj ⟨⟨k+1,Bv (by omega),hk',g1,g2,g3,g4,g5⟩,by simp only;rw[Bv (by omega)];omega⟩
  have:k=t.Zf.length:=by simp at h;omega
  subst this;refine⟨h1,h3,fun c hc=>?_⟩;obtain⟨j,hj,rfl⟩:=ApW hc;have:=h5 j (by simpa [h3]using hj);rw[BB hj]at this;exact this
 obtain⟨m1,l1⟩:=z;obtain⟨g1,g2,g3⟩:=hz;simp only at g1 g2 g3 ⊢;refine AD (Q:=fun l=>t.Zf.length<=l.length/\l.length<=t.Zf.length+a.Zf.length/\∀c∈l,c∈a.Zf\/(c∈t.Zf/\m0 c.Zd=none)) (AD (Q:=fun l=>t.Zf.length<=l.length/\l.length<=t.Zf.length+a.Zf.length/\∀c∈l,c∈a.Zf\/(c∈t.Zf/\m0 c.Zd=none)) ?_ fun z hz=>Aj hz) fun l hl=>Aj ⟨rfl,rfl,hl.1,hl.2.1,fun c hc=>(hl.2.2 c hc).imp id fun h=>⟨h.1,fun b hb e=>?_⟩⟩
 ·refine AY (fun v=>∃k:Nat,v.1=(k:Int)/\k<=a.Zf.length/\t.Zf.length<=v.2.length/\v.2.length<=t.Zf.length+k/\∀c∈v.2,c∈a.Zf\/(c∈t.Zf/\m0 c.Zd=none)) (fun v=>((a.Zf.length:Int)-v.1).toNat) ?_ ⟨0,rfl,Apx _,by simp only;omega,by simp only;omega,g3⟩ (by simp;omega);rintro⟨_,l⟩ ⟨k,rfl,hk,h1,h2,h3⟩;simp only at h1 h2 h3 ⊢;have h2':l.length<=t.Zf.length+a.Zf.length:=by omega
  have h2'':l.length<=t.Zf.length+(k+1):=by omega
  unfold Fj;refine AB (fun h=>?_) fun h=>Aj ⟨h1,h2',h3⟩
  have hk':k<a.Zf.length:=by simpa using h
  refine AD (Q:=fun z=>t.Zf.length<=z.length/\z.length<=t.Zf.length+(k+1)/\∀c∈z,c∈a.Zf\/(c∈t.Zf/\m0 c.Zd=none)) ?_ fun z hz=>Aj ⟨⟨k+1,Bv (by omega),hk',hz⟩,by simp only;rw[Bv (by omega)];omega⟩
  refine D1 (Au hk') (A9 (A9 (A9 (A9 (A9 (A9 (A9 (A9 (A9 (A9 (A9 (A9 ?_))))))))))));refine AB (fun _=>D1 (O4 (by omega) (by decide)) (A9 (Aj ⟨by simp;omega,by simp;omega,fun c hc=>?_⟩))) fun _=>Aj ⟨h1,h2'',h3⟩
  simp only[Apc,Fa]at hc;rcases Apl.1 hc with hc|hc
  ·exact h3 c hc
  simp only[ApJ]at hc;subst hc;exact .inl (AP hk')
 have:=hm2 b hb;rw[e,h.2]at this;cases this
abbrev Fs:=Bool×AoO
def PS(kind:Int)(s:Fs)(r:AoT):Option Fs :=
 if(r.Zu.Za==13)then some (false,tz0)
 else(DC r.Zu.Zb kind).bind fun y=>
  if(y.2 != 0)then some s
  else if(r.Zu.Za==11)then some (true,y.1)
  else if s.1=true then(DK s.2 y.1).bind fun a=>(BC a).bind fun e=>if(e==0)then some (s.1,a)else some s
  else some s
def Inv(kind:Int)(s:Fs):Prop:=Tz 64 s.2/\(s.1=true->Ok s.2/\s.2.For=kind)
theorem Sd{t a r:AoO}(h:AmP t a r)(ht:Tz 64 t)(ha:Tz 64 a):Tz 128 r:=by
 have:=h.most;have:=ht.1;have:=ha.1;exact⟨by omega,fun c hc=>(h.all c hc).elim (ha.2 c) fun q=>ht.2 c q.1⟩
theorem Aop{t:AoO}{n:Nat}(h:Tz n t)(k:Ok t):Tz 64 t:=⟨k.form.few,h.2⟩
theorem Aar{kind:Int}{s:Fs}(h:Inv kind s)(r:AoT):TP (PS kind s r) (Inv kind):=by
 unfold PS;refine AB (fun _=>Aj ⟨HG,fun e=>by cases e⟩) fun _=>?_
 refine AD (Mz _ _) fun y hy=>AB (fun _=>Aj h) fun h0=>?_
 have hy2:=hy.2 (by simpa using h0);refine AB (fun _=>Aj ⟨hy.1,fun _=>⟨hy2.1,hy2.2.1⟩⟩) fun _=>AB (fun hs=>?_) fun _=>Aj h
 obtain⟨k1,k2⟩:=h.2 hs;have:=h.1.1;have:=hy.1.1;refine AD (Q6 s.2 y.1 (by omega) (by omega) k1.form.apart) fun a ha=>?_
 have hz:=Sd ha h.1 hy.1;refine AD (Rx hz (by omega)) fun e he=>AB (fun e0=>?_) fun _=>Aj h
 have hok:=he (by simpa using e0);exact Aj ⟨Aop hz hok,fun _=>⟨hok,by show a.For=kind;rw[ha.kind];exact k2⟩⟩
def step(kind:Int)(s:Fs)(r:AoT):Fs:=(PS kind s r).getD s
theorem UP{kind:Int}{s:Fs}(h:Inv kind s)(r:AoT):PS kind s r=some (step kind s r)/\Inv kind (step kind s r):=by
 obtain⟨z,e,hz⟩:=Aar h r;unfold step;rw[e];exact⟨rfl,hz⟩
def UR(kind:Int)(l:List AoT):Fs:=l.foldl (step kind) (false,tz0)
theorem Ri(kind:Int)(l:List AoT):Inv kind (UR kind l):=by
 have key:∀(l:List AoT) (s:Fs),Inv kind s->Inv kind (l.foldl (step kind) s):=by
  intro l
  induction l with
  |nil=>intro s h;exact h
  |cons x l ih=>intro s h;exact ih _ (UP h x).2
 exact key l _ ⟨HG,fun e=>by cases e⟩
theorem O3(kind:Int)(l:List AoT)(x:AoT):UR kind (l++[x])=step kind (UR kind l) x:=by simp[UR]
def upto(at_:Int)(l:List AoT):List AoT:=l.takeWhile fun r=>decide (r.Zu.Zn<=at_)
def ans(s:Fs):AoO×Int:=if s.1=true then(s.2,0)else(tz0,220)
def PA(railway kind at_:Int):Prop:=0<=railway/\railway<16/\1<=kind/\kind<=6/\0<=at_/\at_<=1073741824
instance (a b c:Int):Decidable (PA a b c):=inferInstanceAs (Decidable (_/\_))
theorem AdM(railway kind:Int):F7 railway kind=some (decide (0<=railway/\railway<16/\1<=kind/\kind<=6)):=by
 unfold F7;by_cases h1:0<=railway<;>by_cases h2:railway<16<;>by_cases h3:1<=kind<;>by_cases h4:kind<=6<;>simp[h1,h2,h3,h4]
theorem Afj{α:Type}(p:α->Bool):∀(l:List α) (x:α),x∈l.takeWhile p->p x=true
 |[],x,h=>by simp at h
 | y::l,x,h=>by
  by_cases hy:p y=true
  ·rw[Aq6 hy]at h;rcases Apq.1 h with rfl|h
   ·exact hy
   exact Afj p l x h
  rw[Aq7 hy]at h;simp at h
theorem Aa4{α:Type}(p:α->Bool):∀l:List α,¬((l.drop (l.takeWhile p).length).head?.any p)=true
 |[]=>by simp
 | x::l=>by
  by_cases h:p x=true
  ·rw[Aq6 h];simpa using Aa4 p l
  rw[Aq7 h];simp[h]
theorem QT(l:List AoT)(railway kind at_:Int)(hl:l.length<=19):BU l railway kind at_=some (if PA railway kind at_ then ans (UR kind (upto at_ (ed l railway kind)))else(tz0,1)):=by
 have key : TP (BU l railway kind at_) fun z=>z=if PA railway kind at_ then ans (UR kind (upto at_ (ed l railway kind)))else(tz0,1):=by
  unfold BU;rw[AdM];simp only[Ai];refine AD (Q:=fun b=>b=true↔¬PA railway kind at_) ?_ fun b hb=>AB (fun h=>?_) fun h=>?_
  ·refine AB (fun h=>Aj ?_) fun h=>AB (fun h2=>Aj ?_) fun h2=>Aj ?_
   ·simp only[Aqj,Aps]at h;exact⟨fun _ k=>h ⟨k.1,k.2.1,k.2.2.1,k.2.2.2.1⟩,fun _=>rfl⟩
   ·simp only[App]at h2;exact⟨fun _ k=>by have:=k.2.2.2.2.1;omega,fun _=>rfl⟩
   simp only[Aqj,Aps,Arj,App]at h h2 ⊢
   exact⟨fun e k=>by have:=k.2.2.2.2.2;omega,fun k=>by
    by_cases e:at_>1073741824
    ·exact e
    exact absurd ⟨h.1,h.2.1,h.2.2.1,h.2.2.2,by omega,by omega⟩ k⟩
  ·rw[Ao6 (hb.1 h)];exact Aj rfl
  have hok:PA railway kind at_:=ArJ fun k=>h (hb.2 k)
  rw[Ao4 hok,U8 l railway kind hl];simp only[Ai];generalize hd:ed l railway kind=d
  have hdl:d.length<=19:=by
   have:=Arq (N3 railway kind) l;rw[<-hd,ed,Arb,M4];omega
  have hu:upto at_ d=d.take (upto at_ d).length:=(List.prefix_iff_eq_take.1 (List.takeWhile_prefix _));have hul:(upto at_ d).length<=d.length:=(List.takeWhile_prefix _).length_le;refine AD (Q:=fun z=>(z.1,({ Zd:=z.2.1,For:=z.2.2.1,Zf:=z.2.2.2 }:AoO))=UR kind (upto at_ d)) (AD (Q:=fun z=>(z.1,({ Zd:=z.2.1,For:=z.2.2.1,Zf:=z.2.2.2 }:AoO))=UR kind (upto at_ d)) ?_ fun z hz=>Aj hz) fun z hz=>?_
  ·refine AY (fun v=>∃k:Nat,v.2.1=(k:Int)/\k<=(upto at_ d).length/\(v.1,({ Zd:=v.2.2.1,For:=v.2.2.2.1,Zf:=v.2.2.2.2 }:AoO))=UR kind (d.take k)) (fun v=>((d.length:Int)-v.2.1).toNat) ?_ ⟨0,rfl,Apx _,rfl⟩ (by simp;omega);rintro⟨th,_,f1,f2,f3⟩ ⟨k,rfl,hk,hs⟩;simp only at hs;have hI:=Ri kind (d.take k);unfold En;refine AB (fun h=>?_) fun h=>Aj ?_
   ·have hk':k<d.length:=by simpa using h
    by_cases hkk:k<(upto at_ d).length
    ·have hfrom:(nth d k).Zu.Zn<=at_:=by
      have h1:nth (upto at_ d) k∈upto at_ d:=AP hkk
      have h2:nth (upto at_ d) k=nth d k:=by
       rw[hu,BB (by rw[Aqb];omega),BB hk',List.getElem_take]
      rw[h2]at h1;have:=Afj _ d _ h1;simpa using this
     have hst:=UP hI (nth d k);have hnext:UR kind (d.take (k+1))=step kind (UR kind (d.take k)) (nth d k):=by rw[Apv hk',<-BB hk',O3]
     refine AD (Q:=fun z=>match z with
      |.inl z=>(z.1,({ Zd:=z.2.1,For:=z.2.2.1,Zf:=z.2.2.2 }:AoO))=UR kind (d.take (k+1))
      |.inr _=>False) ?_ fun z hz=>?_
     ·refine D1 (Au hk') (A9 (A9 (A9 (A9 (A9 (A9 (A9 (A9 (A9 (A9 (A9 (A9 (A9 (A9 (A9 (A9 (A9 (A9 (A9 (A9 (A9 ?_)))))))))))))))))))));simp only[Apc];rw[Ao6 (by simp only[App];omega),hnext];obtain⟨he,_⟩:=hst;rw[<-hs]at he hI ⊢;generalize hF:step kind (th,({ Zd:=f1,For:=f2,Zf:=f3 }:AoO)) (nth d k)=F at he ⊢;unfold PS at he;obtain⟨y,hy,_⟩:=Mz (nth d k).Zu.Zb kind;by_cases c1:((nth d k).Zu.Za==13)=true
      ·rw[Ao4 c1]at he ⊢;cases he;exact Aj rfl
      rw[Ao6 c1]at he ⊢;rw[hy]at he ⊢;simp only[Ai]at he ⊢;by_cases c2:(y.2 != 0)=true
      ·rw[Ao4 c2]at he ⊢;cases he;exact Aj rfl
      rw[Ao6 c2]at he ⊢;by_cases c3:((nth d k).Zu.Za==11)=true
      ·rw[Ao4 c3]at he ⊢;cases he;exact Aj rfl
      rw[Ao6 c3]at he ⊢;by_cases c4:th=true
      ·rw [Ao4 c4]at he ⊢;cases ea:DK ({ Zd:=f1,For:=f2,Zf:=f3 }:AoO) y.1 with
       |none=>rw[ea]at he;cases he
       | some a=>
        rw[ea]at he;simp only[Ai]at he ⊢;cases ec:BC a with
        |none=>rw[ec]at he;cases he
        | some e=>
         rw[ec]at he;simp only[Ai]at he ⊢;by_cases c5:(e==0)=true
         ·rw[Ao4 c5]at he ⊢;cases he;exact Aj rfl
         rw[Ao6 c5]at he ⊢;cases he;exact Aj rfl
      rw[Ao6 c4]at he ⊢;cases he;exact Aj rfl
     match z,hz with
     |.inl (th',g1,g2,g3),hz=>exact Aj ⟨⟨k+1,Bv (by omega),hkk,hz⟩,by simp only;rw[Bv (by omega)];omega⟩
    have hke:k=(upto at_ d).length:=by omega
    have hfrom:at_<(nth d k).Zu.Zn:=by
     have h1:¬((d.drop k).head?.any fun r=>decide (r.Zu.Zn<=at_))=true:=by
      intro hc;have h3:=Aa4 (fun r:AoT=>decide (r.Zu.Zn<=at_)) d;rw[hke]at hc;exact h3 hc
     rw[Ap6 hk',<-BB hk']at h1;simp only[List.head?_cons,Option.any_some,App]at h1;omega
    refine AD (Q:=fun z=>match z with
     |.inl _=>False
     |.inr (.inl _)=>False
     |.inr (.inr z)=>(z.1,({ Zd:=z.2.1,For:=z.2.2.1,Zf:=z.2.2.2 }:AoO))=UR kind (upto at_ d)) ?_ fun z hz=>?_
    ·refine D1 (Au hk') (A9 (A9 (A9 (A9 (A9 (A9 (A9 (A9 (A9 (A9 (A9 (A9 (A9 (A9 (A9 (A9 (A9 (A9 (A9 (A9 (A9 ?_)))))))))))))))))))));simp only[Apc];rw[Ao4 (by simp only[App];omega)];refine Aj ?_;rw[hke,<-hu]at hs;exact hs
    match z,hz with
    |.inr (.inr z),hz=>exact Aj hz
   have hkd:d.length<=k:=by simp at h;omega
   have hke:k=(upto at_ d).length:=by omega
   show(th,({ Zd:=f1,For:=f2,Zf:=f3 }:AoO))=_;rw[hke,<-hu]at hs;exact hs
  obtain⟨th,f1,f2,f3⟩:=z;simp only at hz ⊢;rw[<-hz];unfold ans;cases th
  ·exact Aj rfl
  exact Aj rfl
 obtain⟨z,e,h⟩:=key;rw[e,h]
theorem Adr{f:AoM->AoM->Option Bool}(a b:List AoM)(ha:a.length<1000000)(hf:∀k,k<a.length->TP (f (nth a k) (nth b k)) fun r=>nth a k=nth b k->r=true):TP (Dt a b f) fun r=>a=b->r=true:=by
 unfold Dt;refine AB (fun h=>Aj fun e=>?_) fun h=>?_
 ·subst e;simp at h
 have hl:a.length=b.length:=by
  simp only[Aq5,ne_eq,Arj]at h;omega
 refine AD (Q:=fun z=>match z with
  |.inl ()=>True
  |.inr r=>a=b->r=true) (AD (Q:=fun z=>match z with
  |.inl ()=>True
  |.inr (.inr r)=>a=b->r=true
  |_=>False) ?_ fun z hz=>?_) fun z hz=>?_
 ·refine AY (fun i=>∃k:Nat,i=(k:Int)/\k<=a.length) (fun i=>((a.length:Int)-i).toNat) ?_ ⟨0,rfl,Apx _⟩ (by simp;omega);rintro _ ⟨k,rfl,hk⟩;unfold Dz;refine AB (fun h=>?_) fun h=>Aj trivial
  have hk':k<a.length:=by simpa using h
  refine D1 (Au hk') (A9 (A9 (A9 (A9 (D1 (Au (by omega)) (A9 (A9 (A9 (A9 ?_)))))))));simp only[Apc,Ht];refine AD (hf k hk') fun r hr=>AB (fun hn=>Aj fun e=>?_) fun _=>Aj ⟨⟨k+1,Bv (by omega),hk'⟩,by rw[Bv (by omega)];omega⟩
  subst e;rw[hr rfl]at hn;cases hn
 ·match z,hz with
  |.inl (),_=>exact Aj trivial
  |.inr (.inr r),hz=>exact Aj hz
 match z,hz with
 |.inl (),_=>exact Aj fun _=>rfl
 |.inr r,hz=>exact Aj hz
theorem Qx:∀(d:Nat) (x:AoM) (n:Nat),Dp d x->d<=n->∀y,TP (DX n x y) fun r=>x=y->r=true
 |0,x,n,h,_=>h.elim
 |d+1,x,0,_,h=>by omega
 |d+1,x,n+1,h,hn=>fun y=>by
  show TP (DU (DX n) x y) _;unfold DU;refine AD (Q:=fun r=>x=y->r=true) (AB (fun _=>AB (fun _=>AB (fun _=>?_) fun h=>Aj fun e=>?_) fun h=>Aj fun e=>?_) fun h=>Aj fun e=>?_) fun r hr=>Aj hr
  ·refine AD (Adr x.L y.L (by have:=h.1;omega) fun k hk=>Qx d _ n (h.2 _ (AP hk)) (by omega) _) fun r hr=>Aj fun e=>hr (by rw[e])
  ·subst e;simp at h
  ·subst e;simp at h
  subst e;simp at h
theorem AcR(a b:List AoK)(ha:a.length<1000000):TP (EH a b) fun r=>a=b->r=true:=by
 unfold EH;refine AB (fun h=>Aj fun e=>?_) fun h=>?_
 ·subst e;simp at h
 have hl:a.length=b.length:=by
  simp only[Aq5,ne_eq,Arj]at h;omega
 refine AD (Q:=fun z=>match z with
  |.inl ()=>True
  |.inr r=>a=b->r=true) (AD (Q:=fun z=>match z with
  |.inl ()=>True
  |.inr (.inr r)=>a=b->r=true
  |_=>False) ?_ fun z hz=>?_) fun z hz=>?_
 ·refine AY (fun i=>∃k:Nat,i=(k:Int)/\k<=a.length) (fun i=>((a.length:Int)-i).toNat) ?_ ⟨0,rfl,Apx _⟩ (by simp;omega);rintro _ ⟨k,rfl,hk⟩;unfold E7;refine AB (fun h=>?_) fun h=>Aj trivial
  have hk':k<a.length:=by simpa using h
  refine D1 (Au hk') (D1 (Au (by omega)) (A9 (AB (fun hn=>Aj fun e=>?_) fun _=>Aj ⟨⟨k+1,Bv (by omega),hk'⟩,by rw[Bv (by omega)];omega⟩)));subst e;simp at hn
 ·match z,hz with
  |.inl (),_=>exact Aj trivial
  |.inr (.inr r),hz=>exact Aj hz
 match z,hz with
 |.inl (),_=>exact Aj fun _=>rfl
 |.inr r,hz=>exact Aj hz
def Cz(c:AoN):Prop:=c.Ze.length<=8/\Ez 900000 c.Pay
theorem Yn(c d:AoN)(h:Cz c):TP (Fh c d) fun r=>c=d->r=true:=by
 unfold Fh;refine AD (Q:=fun r=>c=d->r=true) (AB (fun _=>?_) fun h=>Aj fun e=>?_) fun r hr=>Aj hr
 ·refine AD (AcR _ _ (by have:=h.1;omega)) fun r hr=>AB (fun _=>AD (Qx 900000 c.Pay _ h.2.1 (by omega) d.Pay) fun r hr=>Aj fun e=>hr (by rw[e])) fun hn=>Aj fun e=>absurd (hr (by rw[e])) hn
 subst e;simp at h
theorem AdW(a b:List AoN)(ha:a.length<1000000)(hc:∀c∈a,Cz c):TP (Dn a b Fh) fun r=>a=b->r=true:=by
 unfold Dn;refine AB (fun h=>Aj fun e=>?_) fun h=>?_
 ·subst e;simp at h
 have hl:a.length=b.length:=by
  simp only[Aq5,ne_eq,Arj]at h;omega
 refine AD (Q:=fun z=>match z with
  |.inl ()=>True
  |.inr r=>a=b->r=true) (AD (Q:=fun z=>match z with
  |.inl ()=>True
  |.inr (.inr r)=>a=b->r=true
  |_=>False) ?_ fun z hz=>?_) fun z hz=>?_
 ·refine AY (fun i=>∃k:Nat,i=(k:Int)/\k<=a.length) (fun i=>((a.length:Int)-i).toNat) ?_ ⟨0,rfl,Apx _⟩ (by simp;omega);rintro _ ⟨k,rfl,hk⟩;unfold Dx;refine AB (fun h=>?_) fun h=>Aj trivial
  have hk':k<a.length:=by simpa using h
  refine D1 (Au hk') (A9 (A9 (A9 (A9 (A9 (A9 (D1 (Au (by omega)) (A9 (A9 (A9 (A9 (A9 (A9 ?_)))))))))))));simp only[Apc,Fa];refine AD (Yn _ (nth b k) (hc _ (AP hk'))) fun r hr=>AB (fun hn=>Aj fun e=>?_) fun _=>Aj ⟨⟨k+1,Bv (by omega),hk'⟩,by rw[Bv (by omega)];omega⟩
  subst e;rw[hr rfl]at hn;cases hn
 ·match z,hz with
  |.inl (),_=>exact Aj trivial
  |.inr (.inr r),hz=>exact Aj hz
 match z,hz with
 |.inl (),_=>exact Aj fun _=>rfl
 |.inr r,hz=>exact Aj hz
theorem P4{t:AoO}{n:Nat}(h:Tz n t)(hn:n<1000000)(u:AoO):TP (Ch t u) fun r=>t=u->r=true:=by
 unfold Ch;refine AD (Q:=fun r=>t=u->r=true) (AB (fun _=>AB (fun _=>?_) fun h=>Aj fun e=>?_) fun h=>Aj fun e=>?_) fun r hr=>Aj hr
 ·refine AD (AdW _ _ (by have:=h.1;omega) h.2) fun r hr=>Aj fun e=>hr (by rw[e])
 ·subst e;simp at h
 subst e;simp at h
theorem OA{t:AoO}{n:Nat}(h:Tz n t)(hn:n<1000000):Ch t t=some true:=by
 obtain⟨r,e,hr⟩:=P4 h hn t;rw[e,hr rfl]
theorem Aaz(t:AoO)(c:AoN)(ht:t.Zf.length<1000000)(hc:Cz c):TP (Gt t c) fun r=>c∈t.Zf->r=true:=by
 unfold Gt
 refine AD (Q:=fun z=>match z with
  |.inl ()=>c ∉ t.Zf
  |.inr r=>r=true) (AD (Q:=fun z=>match z with
  |.inl ()=>c ∉ t.Zf
  |.inr (.inr r)=>r=true
  |_=>False) ?_ fun z hz=>?_) fun z hz=>?_
 ·refine AY (fun i=>∃k:Nat,i=(k:Int)/\k<=t.Zf.length/\(c∈t.Zf->c∈t.Zf.drop k)) (fun i=>((t.Zf.length:Int)-i).toNat) ?_ ⟨0,rfl,Apx _,fun h=>h⟩ (by simp;omega);rintro _ ⟨k,rfl,hk,hd⟩;unfold FK;refine AB (fun h=>?_) fun h=>Aj ?_
  ·have hk':k<t.Zf.length:=by simpa using h
   refine D1 (Au hk') (A9 (A9 (A9 (A9 (A9 (A9 ?_))))));simp only[Apc,Fa];refine AD (P4 (n:=1) (t:={ Zd:=[],For:=0,Zf:=[c] }) ⟨by simp,fun c' hc'=>by simp only[ApJ]at hc';subst hc';exact hc⟩ (by omega) _) fun r hr=>AB (fun _=>Aj rfl) fun hn=>Aj ⟨⟨k+1,Bv (by omega),hk',fun hm=>?_⟩,by rw[Bv (by omega)];omega⟩
   have h1:=hd hm;rw[Ap6 hk',<-BB hk']at h1;rcases Apq.1 h1 with h1|h1
   ·exact absurd (hr (by rw[<-h1])) hn
   exact h1
  have:k=t.Zf.length:=by simp at h;omega
  subst this;intro hm;have:=hd hm;rw[List.drop_length]at this;cases this
 ·match z,hz with
  |.inl (),hz=>exact Aj hz
  |.inr (.inr r),hz=>exact Aj hz
 match z,hz with
 |.inl (),hz=>exact Aj fun h=>absurd h hz
 |.inr r,hz=>exact Aj fun _=>hz
theorem asc_upto(at_:Int):∀l:List AoT,(l.Pairwise fun a b=>a.Zu.Zn<=b.Zu.Zn)->upto at_ l=l.filter fun r=>decide (r.Zu.Zn<=at_)
 |[],_=>rfl
 | x::l,h=>by
  obtain⟨h1,h2⟩:=AqJ.1 h;unfold upto;by_cases hx:x.Zu.Zn<=at_
  ·rw[Aq6 (by simpa using hx),List.filter_cons_of_pos (by simpa using hx)];congr 1;exact asc_upto at_ l h2
  rw[Aq7 (by simpa using hx),List.filter_cons_of_neg (by simpa using hx),eq_comm,List.filter_eq_nil_iff];intro y hy;have:=h1 y hy;simp;omega
theorem AiP(l:List AoT)(railway kind:Int):(ed l railway kind).Pairwise fun a b=>a.Zu.Zn<=b.Zu.Zn:=by
 unfold ed;rw[List.pairwise_reverse];exact YQ _
theorem SC(at_:Int)(l:List AoT)(railway kind:Int):upto at_ (ed l railway kind)=(ed l railway kind).filter fun r=>decide (r.Zu.Zn<=at_):=asc_upto _ _ (AiP l railway kind)
theorem P5{p:AoT->Bool}{x:AoT}(hx:p x=false):∀l:List AoT,(Ol x l).filter p=l.filter p
 |[]=>by simp[Ol,hx]
 |y::t=>by
  unfold Ol;split
  ·rw[AqW,AqW,P5 hx t]
  rw[AqW,Ao6 (by simp[hx])]
theorem UO(l:List AoT)(x:AoT)(railway kind:Int):ed (l++[x]) railway kind=if N3 railway kind x=true then(Ol x (J3 (l.filter (N3 railway kind)))).reverse else ed l railway kind:=by
 unfold ed;rw[ArG,AqW,ArA];by_cases h:N3 railway kind x=true
 ·rw[Ao4 h,Ao4 h,Qw]
 rw[Ao6 h,Ao6 h,Ap3]
theorem Aab(l:List AoT)(x:AoT)(railway kind at_:Int)(h:N3 railway kind x=false\/at_<x.Zu.Zn):upto at_ (ed (l++[x]) railway kind)=upto at_ (ed l railway kind):=by
 rcases h with h|h
 ·rw[UO,Ao6 (by simp[h])]
 rw[SC,SC,UO];split
 ·unfold ed;rw[List.filter_reverse,List.filter_reverse,P5 (by simp;omega)]
 rfl
theorem SI(l:List AoT)(x:AoT)(railway kind at_:Int)(hc:N3 railway kind x=true)(ha:x.Zu.Zn<=at_)(hl:∀r∈l,N3 railway kind r=true->r.Zu.Zn<x.Zu.Zn):upto at_ (ed (l++[x]) railway kind)=upto at_ (ed l railway kind)++[x]:=by
 have hm:∀r∈ed l railway kind,r.Zu.Zn<x.Zu.Zn:=by
  intro r hr;unfold ed at hr;rw[List.mem_reverse,ZE,List.mem_filter]at hr;exact hl r hr.1 hr.2
 have e:ed (l++[x]) railway kind=ed l railway kind++[x]:=by
  rw[UO,Ao4 hc];unfold ed;cases hs:J3 (l.filter (N3 railway kind))with
  |nil=>rfl
  | cons y t=>
   have hy:y.Zu.Zn<x.Zu.Zn:=hm y (by unfold ed;rw[hs];simp)
   have hls:Ab5 x y=false:=by
    obtain⟨z,e,h1,h2⟩:=Oh x y;unfold Ab5;rw[e,h2 hy];rfl
   rw[Ol,Ao6 (by simp[hls])];simp
 rw[SC,SC,e,ArG,AqW,Ao4 (by simpa using ha),ArA]
theorem Ag3:top_editionsSane=some true:=by decide +kernel
theorem Adm(l:List AoT)(hl:l.length<1152921504606846976):TP (FB l) fun b=>b=true->l.length<=8:=by
 unfold FB;refine AD (Q:=fun _=>True) (AD (Q:=fun _=>True) ?_ fun _ _=>Aj trivial) fun n _=>AD (Q:=fun b=>b=true->l.length<=8) (AB (fun h=>Aj fun _=>?_) fun _=>Aj fun e=>by cases e) fun b hb=>Aj hb
 ·refine AY (fun v=>∃k:Nat,v.2=(k:Int)/\k<=l.length) (fun v=>((l.length:Int)-v.2).toNat) ?_ ⟨0,rfl,Apx _⟩ (by simp;omega);rintro⟨n,_⟩ ⟨k,rfl,hk⟩;unfold Fo;refine AB (fun h=>?_) fun h=>Aj trivial
  have hk':k<l.length:=by simpa using h
  exact D1 (Au hk') (A9 (A9 (A9 (A9 (A9 (A9 (A9 (A9 (A9 (A9 (A9 (A9 (A9 (A9 (A9 (A9 (A9 (A9 (A9 (A9 (A9 (A9 (Aj ⟨⟨k+1,Bv (by omega),hk'⟩,by simp only;rw[Bv (by omega)];omega⟩)))))))))))))))))))))))
 simp only[App]at h;omega
theorem ZU(l:List AoT)(x:AoT)(railway kind:Int)(hl:l.length<1000000):TP (Be (fun(v:Bool×Int)=>CV l x railway kind v.1 v.2) (true,0)) fun b=>b=true->∀r∈l,N3 railway kind r=true->r.Zu.Zn<x.Zu.Zn:=by
 refine AY (fun v=>∃k:Nat,v.2=(k:Int)/\k<=l.length/\(v.1=true->∀r∈l.take k,N3 railway kind r=true->r.Zu.Zn<x.Zu.Zn)) (fun v=>((l.length:Int)-v.2).toNat) ?_ ⟨0,rfl,Apx _,fun _ r h=>by simp at h⟩ (by simp;omega);rintro⟨b,_⟩ ⟨k,rfl,hk,hb⟩;simp only at hb;unfold CV;refine AB (fun h=>?_) fun h=>Aj ?_
 ·have hk':k<l.length:=by simpa using h
  refine D1 (Au hk') (A9 (A9 (A9 (A9 (A9 (A9 (A9 (A9 (A9 (A9 (A9 (A9 (A9 (A9 (A9 (A9 (A9 (A9 (A9 (A9 (A9 ?_)))))))))))))))))))));simp only[Apc];refine AD (Q:=fun z=>z=true->b=true/\(N3 railway kind (nth l k)=true->(nth l k).Zu.Zn<x.Zu.Zn)) (AB (fun h0=>AB (fun h1=>Aj fun _=>⟨h0,fun _=>by simpa using h1⟩) fun h1=>AB (fun h2=>Aj fun _=>⟨h0,fun hc=>?_⟩) fun h2=>Aj fun h3=>⟨h0,fun hc=>?_⟩) fun _=>Aj fun e=>by cases e) fun z hz=>Aj ⟨⟨k+1,Bv (by omega),hk',fun e r hr=>?_⟩,by simp only;rw[Bv (by omega)];omega⟩
  ·have:=(Aqq hc).1;rw[this]at h2;simp at h2
  ·have:=(Aqq hc).2.1;rw[this]at h3;simp at h3
  rcases(KF hk').1 hr with hr|rfl
  ·exact hb (hz e).1 r hr
  exact(hz e).2
 have:k=l.length:=by simp at h;omega
 subst this;rw[Ap0]at hb;exact hb
theorem Acj(y1 y2:AoO×Int)(nm:List UInt8)(hl:y2.1.Zf.length<1000000):TP (Be (fun(v:Int×List UInt8×Int×List AoN)=>CW y2 nm v.1 v.2.1 v.2.2.1 v.2.2.2) (0,y1.1.Zd,y1.1.For,y1.1.Zf)) fun z=>({ Zd:=z.1,For:=z.2.1,Zf:=z.2.2 }:AoO)=if(y2.1.Zf.any fun d=>d.Zd==nm)then y2.1 else y1.1:=by
 refine AY (fun v=>∃k:Nat,v.1=(k:Int)/\k<=y2.1.Zf.length/\({ Zd:=v.2.1,For:=v.2.2.1,Zf:=v.2.2.2 }:AoO)=if((y2.1.Zf.take k).any fun d=>d.Zd==nm)then y2.1 else y1.1) (fun v=>((y2.1.Zf.length:Int)-v.1).toNat) ?_ ⟨0,rfl,Apx _,rfl⟩ (by simp;omega);rintro⟨_,f1,f2,f3⟩ ⟨k,rfl,hk,hf⟩;simp only at hf;unfold CW;refine AB (fun h=>?_) fun h=>Aj ?_
 ·have hk':k<y2.1.Zf.length:=by simpa using h
  refine AD (Q:=fun z=>({ Zd:=z.1,For:=z.2.1,Zf:=z.2.2 }:AoO)=if((y2.1.Zf.take (k+1)).any fun d=>d.Zd==nm)then y2.1 else y1.1) ?_ fun z hz=>Aj ⟨⟨k+1,Bv (by omega),hk',hz⟩,by simp only;rw[Bv (by omega)];omega⟩
  refine D1 (Au hk') (A9 (A9 (A9 (A9 (A9 (A9 ?_))))));simp only[Apc];rw[WX hk',<-BB hk'];refine AB (fun hn=>Aj ?_) fun hn=>Aj ?_
  ·rw[hn,Bool.or_true,Ao4 rfl]
  rw[Apy hn,Bool.or_false];exact hf
 have:k=y2.1.Zf.length:=by simp at h;omega
 subst this;rw[Ap0]at hf;exact hf
theorem TY{t a r:AoO}(h:AmP t a r)(e1 e2 e3:Int)(ht:Tz 64 t)(ha:Tz 64 a):TP (Be (fun(v:Int)=>Cx (t,e1) (r,e2) (a,e3) v) 0) fun z=>z=.inl ():=by
 have hr:=Sd h ht ha;have h1:=hr.1;have h2:=ht.1;have h3:=ha.1;refine AY (fun i=>∃k:Nat,i=(k:Int)/\k<=r.Zf.length) (fun i=>((r.Zf.length:Int)-i).toNat) ?_ ⟨0,rfl,Apx _⟩ (by simp;omega);rintro _ ⟨k,rfl,hk⟩;unfold Cx;refine AB (fun h'=>?_) fun h'=>Aj rfl
 have hk':k<r.Zf.length:=by simpa using h'
 refine AD (Q:=fun z=>z=.inl ()) ?_ fun z hz=>by
  subst hz;exact Aj ⟨⟨k+1,Bv (by omega),hk'⟩,by rw[Bv (by omega)];omega⟩
 refine D1 (Au hk') (A9 (A9 (A9 (A9 (A9 (A9 ?_))))));simp only[Apc,Fa];have hm:=AP hk';refine AD (Q:=fun z=>({ Zd:=z.1,For:=z.2.1,Zf:=z.2.2 }:AoO)=if(a.Zf.any fun d=>d.Zd==(nth r.Zf k).Zd)then a else t) (AD (Acj (t,e1) (a,e3) _ (by simp only;omega)) fun z hz=>Aj hz) fun z hz=>?_
 obtain⟨f1,f2,f3⟩:=z;simp only at hz ⊢;rw[hz]
 have hin:(nth r.Zf k)∈(if(a.Zf.any fun d=>d.Zd==(nth r.Zf k).Zd)then a else t).Zf:=by
  rcases h.all _ hm with hh|⟨hh,hno⟩
  ·rw[Ao4 (Ars.2 ⟨nth r.Zf k,hh,beq_self_eq_true (nth r.Zf k).Zd⟩)];exact hh
  rw[Ao6]
  ·exact hh
  intro hc;obtain⟨b,hb,hbe⟩:=Ars.1 hc;exact hno b hb (eq_of_beq hbe)
 refine AD (Aaz _ _ (by split<;>omega) (hr.2 _ hm)) fun b hb=>AB (fun hn=>?_) fun _=>Aj rfl
 rw[hb hin]at hn;cases hn
theorem AiA{kind:Int}{s:Fs}(h:Inv kind s):Tz 64 (ans s).1:=by
 unfold ans;split
 ·exact h.1
 exact HG
theorem OC{y:AoO×Int}(h:Tz 64 y.1):((if(y.2==y.2)then(Ch y.1 y.1).bind fun y=>some y else some false:Option Bool).bind fun t=>some t)=some true:=by
 rw[Ao4 (beq_self_eq_true _),OA h (by omega)];rfl
theorem Nk(l:List AoT)(x:AoT)(railway kind at_:Int)(h1:FY (0+l.length) 192)(h2:FY (((([]:List AoT))++l).length+1) 192):Fg l x railway kind at_=some true:=by
 have hlen:l.length<1152921504606846976-1:=by
  have:=h1.2;unfold Hu at this;omega
 unfold Fg;rw[Ag3];simp only[Ai,AqV,Apu,ApY];rw[Ao4 h1,Ao4 h2,Bt];simp only[ApN];obtain⟨fb,hfe,hfb⟩:=Adm (l++[x]) (by simp;omega);rw[hfe];simp only[Ai];cases fb with
 |false=>rfl
 | true =>
  have hl9:=hfb rfl;simp only[Ao5,ApH]at hl9;simp only[AqV,Apu,ApY];rw[QT l _ _ _ (by omega),QT (l++[x]) _ _ _ (by simp;omega)];simp only[Ai];have hI:=Ri kind (upto at_ (ed l railway kind));have hI2:=Ri kind (upto at_ (ed (l++[x]) railway kind))
  have hz1:Tz 64 (if PA railway kind at_ then ans (UR kind (upto at_ (ed l railway kind)))else(tz0,1)).1:=by
   split
   ·exact AiA hI
   exact HG
  have hb:(if(x.Ref.Zg != railway)then some true else if(x.Zu.Zm != kind)then some true else if(decide (x.Zu.Zn>at_))then some true else
    if(x.Zu.Za != 11)then if(x.Zu.Za != 12)then some ((x.Zu.Za != 13))else some false else some false:Option Bool)=some (!(N3 railway kind x&&decide (x.Zu.Zn<=at_))):=by
   unfold N3;by_cases c1:x.Ref.Zg=railway
   ·by_cases c2:x.Zu.Zm=kind
    ·by_cases c3:x.Zu.Zn<=at_
     ·by_cases c4:x.Zu.Za=11
      ·simp[c1,c2,c3,c4]
      by_cases c5:x.Zu.Za=12
      ·simp[c1,c2,c3,c4,c5]
      by_cases c6:x.Zu.Za=13
      ·simp[c1,c2,c3,c4,c5,c6]
      simp[c1,c2,c3,c4,c5,c6]
     rw[Ao6 (by simpa using c1),Ao6 (by simpa using c2),Ao4 (by simp;omega)];simp[c3]
    simp[c1,c2]
   simp[c1]
  rw[hb];simp only[Ai];by_cases hcc:(N3 railway kind x&&decide (x.Zu.Zn<=at_))=true
  ·rw [hcc];simp only[AqV,Apu,ApY];rw[Ape,App]at hcc;obtain⟨hc,hat⟩:=hcc;obtain⟨lb,hle,hlb⟩:=ZU l x railway kind (by omega);rw[hle];simp only[Ai];cases lb with
   |false=>rfl
   | true =>
    simp only[AqV,Apu,ApY];rw[SI l x railway kind at_ hc hat (hlb rfl),O3];rw[SI l x railway kind at_ hc hat (hlb rfl),O3]at hI2;generalize hS:UR kind (upto at_ (ed l railway kind))=S at hI hI2 hz1 ⊢;obtain⟨_,_,hk⟩:=Aqq hc;have hst:=(UP hI x).1;by_cases hargs:PA railway kind at_
    ·simp only[Ao4 hargs]at hz1 ⊢;unfold PS at hst;by_cases k13:x.Zu.Za=13
     ·rw[Ao4 (by simpa using k13)]at hst;have hst':step kind S x=(false,tz0):=(Ao1 hst).symm;rw[Ao4 (by simpa using k13),hst'];rfl
     rw[Ao6 (by simpa using k13)]at hst ⊢;obtain⟨y,hy,hyP⟩:=Mz x.Zu.Zb kind;rw[hy]at hst;simp only[Ai]at hst
     have hsame:step kind S x=S->((if((ans S).2==(ans (step kind S x)).2)then(Ch (ans S).1 (ans (step kind S x)).1).bind fun y=>some y else some false:Option Bool).bind fun t=>some t)=some true:=fun e=>by
      rw[e];exact OC hz1
     by_cases k11:x.Zu.Za=11
     ·rw[Ao4 (by simpa using k11),hy];simp only[Ai];by_cases c2:y.2=0
      ·rw[Ao6 (by simpa using c2),Ao4 (by simpa using k11)]at hst;have hst':step kind S x=(true,y.1):=(Ao1 hst).symm;have h1':((ans S).2 != 1)=true:=by unfold ans;split<;>rfl
       rw[Ao4 (by simpa using c2),h1',hst'];simp only[Ai,ApL];show((if((0:Int)==0)then(Ch y.1 y.1).bind fun y=>some y else some false:Option Bool).bind fun t=>some t)=some true;rw[Ao4 (show((0:Int)==0)=true from rfl),OA hyP.1 (by omega)];rfl
      rw[Ao4 (by simpa using c2)]at hst;rw[Ao6 (by simpa using c2)];simp only[Ai,Apu,ApY];exact hsame (Ao1 hst).symm
     have k12:x.Zu.Za=12:=by omega
     rw[Ao6 (by simpa using k11),hy];simp only[Ai];by_cases hs:S.1=true
     ·by_cases c2:y.2=0
      ·rw[Ao6 (by simpa using c2),Ao6 (by simpa using k11),Ao4 hs]at hst;have hyo:=(hyP.2 c2).1;obtain⟨q1,q2⟩:=hI.2 hs;have b1:=hI.1.1;have b2:=hyP.1.1;obtain⟨a,hae,haP⟩:=Q6 S.2 y.1 (by omega) (by omega) q1.form.apart;rw[hae]at hst;simp only[Ai]at hst;have hz:=Sd haP hI.1 hyP.1;obtain⟨e,hee,heP⟩:=Rx hz (by omega);rw[hee]at hst;simp only[Ai]at hst;have hans:ans S=(S.2,0):=by unfold ans;rw[Ao4 hs]
       by_cases c5:e=0
       ·rw[Ao4 (by simpa using c5)]at hst;have hst':step kind S x=(S.1,a):=(Ao1 hst).symm;have hans2:ans (step kind S x)=(a,0):=by rw[hst'];unfold ans;rw[Ao4 hs]
        rw[hans,hans2]
        have hbb:(if((0:Int) != 0)then some true else if(y.2 != 0)then some true else some ((0:Int) != 0):Option Bool)=some false:=by
         rw[Ao6 (by decide),Ao6 (by simpa using c2)];rfl
        simp only[hbb,Ai,Apu,ApY];obtain⟨r,hre,_⟩:=P4 hI.1 (by omega) a;rw[hre];simp only[Ai];cases r with
        |true=>rfl
        |false=>
         simp only[Apu,ApY];obtain⟨z,hze,hzz⟩:=TY haP 0 0 y.2 hI.1 hyP.1;have hze':Be (fun(v:Int)=>Cx (S.2,0) (a,0) y v) 0=some (.inl ()):=by rw[<-hzz];exact hze
         rw[hze'];simp only[Ai,Bt];have:=haP.more;have hd:decide ((a.Zf.length:Int)≥(S.2.Zf.length:Int))=true:=by simp;omega
         rw[hd]
       rw[Ao6 (by simpa using c5)]at hst;have hst':step kind S x=S:=(Ao1 hst).symm;rw[hst',hans]
       have hbb:(if((0:Int) != 0)then some true else if(y.2 != 0)then some true else some ((0:Int) != 0):Option Bool)=some false:=by
        rw[Ao6 (by decide),Ao6 (by simpa using c2)];rfl
       simp only[hbb,Ai,Apu,ApY];rw[OA hI.1 (by omega)];rfl
      rw[Ao4 (by simpa using c2)]at hst;have hans:ans S=(S.2,0):=by unfold ans;rw[Ao4 hs]
      have hbb:(if((ans S).2 != 0)then some true else if(y.2 != 0)then some true else some ((ans (step kind S x)).2 != 0):Option Bool)=some true:=by
       rw[hans,Ao6 (show ¬((0:Int) != 0)=true by decide),Ao4 (by simpa using c2)]
      rw[hbb];simp only[Ai,ApL];exact hsame (Ao1 hst).symm
     have hst':step kind S x=S:=by
      by_cases c2:y.2=0
      ·rw[Ao6 (by simpa using c2),Ao6 (by simpa using k11),Ao6 hs]at hst;exact(Ao1 hst).symm
      rw[Ao4 (by simpa using c2)]at hst;exact(Ao1 hst).symm
     have hans:(ans S).2=220:=by unfold ans;rw[Ao6 hs]
     rw[Ao4 (by rw[hans];decide)];simp only[Ai,ApL];exact hsame hst'
    simp only[Ao6 hargs];by_cases k13:x.Zu.Za=13
    ·rw[Ao4 (by simpa using k13)];rfl
    rw[Ao6 (by simpa using k13)];obtain⟨y,hy,hyP⟩:=Mz x.Zu.Zb kind;have hp:=OC (y:=(tz0,1)) HG;by_cases k11:x.Zu.Za=11
    ·rw[Ao4 (by simpa using k11),hy];simp only[Ai];have hbb:(if(y.2==0)then some ((1:Int) != 1)else some false:Option Bool)=some false:=by split<;>rfl
     rw[hbb];simp only[Ai,Apu,ApY];exact hp
    rw[Ao6 (by simpa using k11),hy];simp only[Ai];rw[Ao4 (by decide)];simp only[Ai,ApL];exact hp
  rw[Apy hcc];simp only[Ark,ApL]
  have hu:upto at_ (ed (l++[x]) railway kind)=upto at_ (ed l railway kind):=by
   refine Aab l x railway kind at_ ?_;rw[Ape,App]at hcc;by_cases hc:N3 railway kind x=true
   ·exact .inr (by have:¬x.Zu.Zn<=at_:=fun h=>hcc ⟨hc,h⟩;omega)
   exact .inl (Apy hc)
  rw[hu];exact OC hz1
end Go.Proofs.YtldngkmkhfddpaaGreatDoor
