/-
  Part 52.
-/
import Derived.Test.YtioapcamanmoiaaGreatDoorYR26
import Derived.Test.YtioapcamanmoiaaGreatDoorYR46
import Derived.Test.YtioapcamanmoiaaGreatDoorYR47
import Derived.Test.YtioapcamanmoiaaGreatDoorYR51
import Derived.KernelRfl
namespace Go.Proofs.YtioapcamanmoiaaGreatDoor
open Go.Rv
set_option linter.unusedVariables false
set_option linter.unusedSimpArgs false
def ror(x:UInt32)(k:Nat):UInt32:=Rq x k ||| SK x (32-k)
theorem Xg(x:UInt32)(k:Nat)(hk:0<k∧k<32):Av x (-(k:Int))=some (ror x k):=by
 have key:∀j:Fin 32,0<j.val→((UInt64.ofInt (-(j.val:Int))) &&& 31).toNat=32-j.val∧((32:UInt64)-((UInt64.ofInt (-(j.val:Int))) &&& 31)).toNat=j.val:=by decide
 obtain⟨h1,h2⟩:=key ⟨k,hk.2⟩ hk.1;unfold Av ror;simp only[lt1];rw[h1,h2,UInt32.or_comm]
theorem Xn(x:UInt32)(k:Nat)(hk:0<k∧k<32):CW x (k:Int)=some (ror x k):=by
 unfold CW ror;have e:w64 (32-(k:Int))=((32-k:Nat):Int):=by rw[Ef (by omega)];omega
 rw[e,AoO (by unfold EX;omega),AoO (by unfold EX;omega)];rfl
theorem l2(x:UInt32):Av x (-2)=some (ror x 2):=Xg x 2 (by decide)
theorem l6(x:UInt32):Av x (-6)=some (ror x 6):=Xg x 6 (by decide)
theorem l11(x:UInt32):Av x (-11)=some (ror x 11):=Xg x 11 (by decide)
theorem l13(x:UInt32):Av x (-13)=some (ror x 13):=Xg x 13 (by decide)
theorem l22(x:UInt32):Av x (-22)=some (ror x 22):=Xg x 22 (by decide)
theorem l25(x:UInt32):Av x (-25)=some (ror x 25):=Xg x 25 (by decide)
theorem rq2(x:UInt32):CW x 2=some (ror x 2):=Xn x 2 (by decide)
theorem rq6(x:UInt32):CW x 6=some (ror x 6):=Xn x 6 (by decide)
theorem rq11(x:UInt32):CW x 11=some (ror x 11):=Xn x 11 (by decide)
theorem rq13(x:UInt32):CW x 13=some (ror x 13):=Xn x 13 (by decide)
theorem rq22(x:UInt32):CW x 22=some (ror x 22):=Xn x 22 (by decide)
theorem rq25(x:UInt32):CW x 25=some (ror x 25):=Xn x 25 (by decide)
theorem consts:Kb=some glob3:=by unfold Kb glob3;rfl
theorem rounds(w:Arr UInt32 64)(i:Int)(f:Arr UInt32 8):Dp w i f=L5 w glob3 i f:=by
 unfold Dp L5;simp only[l6,l11,l25,l2,l13,l22,rq6,rq11,rq25,rq2,rq13,rq22,AoP,lt1]
noncomputable def blk(h:Arr UInt32 8)(b:List UInt8):Arr UInt32 8:=(Gy h b).getD h
set_option maxRecDepth 8000
theorem dd(a n k:Nat):a/2^(n+k)=a/2^n/2^k:=by rw[Nat.pow_add,Are]
end Go.Proofs.YtioapcamanmoiaaGreatDoor
namespace Go.Proofs.YtioapcamanmoiaaGreatDoor.Kc
open Go.Rv
set_option linter.unusedVariables false
set_option linter.unusedSimpArgs false
theorem Au{α β:Type}{o:Option α}{a:α}{f:α→Option β}(h:o=some a):o.bind f=f a:=by rw[h];rfl
theorem AbC{α β:Type}(x y:α)(f:α→Option β)(h:x=y):lt1 x f=f y:=by rw[h];rfl
theorem ZJ(x:UInt64)(n:Nat):(CZ x n).toNat=x.toNat/2^n:=by
 show(x.toBitVec >>> n).toNat=_;rw[ArM,AqZ];rfl
theorem PK{k:Nat}(h:k<9223372036854775807):w64 ((k:Int)+1)=((k+1:Nat):Int):=by
 rw[Ef (by omega)];rfl
theorem value_eta(x:AoG):AoG.mk x.Za x.N x.B x.L=x:=by cases x;rfl
mutual
def szV:AoG→Nat
 |.mk _ _ b l=>b.length+1+szVs l
def szVs:List AoG→Nat
 |[]=>0
 |x::l=>szV x+szVs l
end
theorem AeV(x:AoG):0<szV x:=by
 cases x with
 |mk k n b l=>simp only[szV];omega
theorem szVs_mem{l:List AoG}{x:AoG}(h:x∈l):szV x≤szVs l:=by
  induction l with
  |nil=>cases h
  | cons y l ih=>
    simp only[szVs];rcases Ao9.1 h with rfl|h
    · omega
    · have:=ih h;omega
theorem szVs_len(l:List AoG):l.length≤szVs l:=by
  induction l with
  |nil=>simp[szVs]
  | cons y l ih=>
    have:=AeV y;simp only[szVs,Ape];omega
theorem szV_eq(x:AoG):szV x=x.B.length+1+szVs x.L:=by
 cases x with
 |mk k n b l=>rfl
def nbF:Nat→Nat→Nat
 |0,_=>0
 |f+1,u=>if u=0 then 0 else nbF f (u/256)+1
def nb(u:Nat):Nat:=nbF 8 u
theorem Ag8(f u:Nat):nbF f u≤f:=by
  induction f generalizing u with
  |zero=>exact Ao0 _
  | succ f ih=>
    unfold nbF;split
    · omega
    · have:=ih (u/256);omega
theorem Aja(f u:Nat)(h:u<256^f)(m:Nat):nbF (f+m) u=nbF f u:=by
  induction f generalizing u with
  | zero=>
    have:u=0:=by simpa using h
    subst this;cases m with
    |zero=>rfl
    |succ m=>rw[ApG];unfold nbF;simp
  | succ f ih=>
    rw[show f+1+m=(f+m)+1 by omega];unfold nbF;split
    · rfl
    · rw[ih (u/256) (by rw[Aqi]at h;omega)]
theorem AaK(u:Nat):nb u≤8:=Ag8 8 u
theorem ZS:nb 0=0:=rfl
theorem AeJ(u:Nat)(h:u≠0)(hu:u<256^8):nb u=nb (u/256)+1:=by
 unfold nb;rw[show(8:Nat)=7+1 from rfl];rw[Aja 7 (u/256) (by have:(256:Nat)^8=256^7*256:=rfl;omega) 1]
 conv=>lhs;unfold nbF
 rw[AoQ h]
theorem ZZ(u:UInt64):BG u=some ((nb u.toNat:Nat):Int):=by
 obtain⟨x,hx,hq⟩:=Cr (f:=fun(v:UInt64×Int)=>Bb v.1 v.2)
  (fun v=>∃k:Nat,v.2=(k:Int)∧k+nb v.1.toNat=nb u.toNat) (fun v=>v.1.toNat) (fun x=>x=((nb u.toNat:Nat):Int))
  (by
   rintro⟨u',k'⟩ ⟨k,hk,hkn⟩;simp only at hk hkn;subst hk;have hlt:u'.toNat<256^8:=by have:=u'.toNat_lt;exact this
   by_cases h0:u'.toNat=0
   ·right;refine⟨(k:Int),?_,?_⟩
    ·show Bb u' (k:Int)=_;unfold Bb;rw[AoQ];simp only[Apj,AqP,ApH];show ¬0<u'.toNat;omega
    ·rw[h0,ZS]at hkn;rw[←hkn];rfl
   ·left;have hs:(CZ u' ((8:UInt64)).toNat).toNat=u'.toNat/256:=by rw[ZJ];rfl
    refine⟨(CZ u' ((8:UInt64)).toNat,((k+1:Nat):Int)),?_,⟨k+1,rfl,?_⟩,?_⟩
    ·show Bb u' (k:Int)=_;unfold Bb;have:=AaK u.toNat;rw[AoO,PK (by omega)]
     ·rfl
     ·simp only[Apj,AqP,ApH];show 0<u'.toNat;omega
    ·simp only[hs];have:=AeJ _ h0 hlt;omega
    ·simp only[hs];omega) (v0:=(u,0)) ⟨0,rfl,by simp⟩ (by have:=u.toNat_lt;omega)
 subst hq;unfold BG;exact(Au (Au hx)).trans rfl
def nbI(n:Int):Nat:=if n<0 then nb (~~~(UInt64.ofInt n)).toNat else nb (UInt64.ofInt n).toNat
def Qs(n:Int):UInt8:=if n<0 then UInt8.ofInt (31-(nbI n:Int))else UInt8.ofInt (32+(nbI n:Int))
def Ab4(n:Int)(k i:Nat):UInt8:=(CZ (UInt64.ofInt n) (8*(k-1-i))).toUInt8
def ZQ(n:Int):List UInt8:=Qs n::(List.range (nbI n)).map (Ab4 n (nbI n))
theorem Ady(n:Int):nbI n≤8:=by unfold nbI;split<;>exact AaK _
theorem QH(n:Int):(ZQ n).length=nbI n+1:=by simp[ZQ]
theorem RP(b:List UInt8)(n:Int)(hb:b.length≤1099511627776):Di b n=some (b++ZQ n):=by
 have h8:=Ady n
 have key:∃x,AK (fun(v:Int×List UInt8)=>Bc n ((nbI n:Nat):Int) v.1 v.2) (0,b++[Qs n])=some x∧x=b++ZQ n :=
  FZ (f:=fun(v:Int×List UInt8)=>Bc n ((nbI n:Nat):Int) v.1 v.2) (nbI n)
   (fun k v=>v=((k:Int),b++Qs n::(List.range k).map (Ab4 n (nbI n)))) (fun x=>x=b++ZQ n) (by omega)
   (fun k v hk hv=>by
    subst hv;refine⟨_,?_,rfl⟩;show Bc n ((nbI n:Nat):Int) (k:Int) _=_;unfold Bc;have e1:w64 (((nbI n:Nat):Int)-1)=((nbI n-1:Nat):Int):=by rw[Ef (by omega)];omega
    have e2:w64 (((nbI n-1:Nat):Int)-(k:Int))=((nbI n-1-k:Nat):Int):=by rw[Ef (by omega)];omega
    have e3:w64 (8*((nbI n-1-k:Nat):Int))=((8*(nbI n-1-k):Nat):Int):=by rw[Ef (by omega)];omega
    rw[AoO (by simp;omega),e1,e2,e3,AoO (by unfold EX;omega),AoO (Ow (by simp;omega)),PK (by omega)];simp only[lt1,Arw,Art,Ap1,Aq6,Ap8,Ao5];rfl)
   (fun v hv=>by
    subst hv;refine⟨_,?_,rfl⟩;show Bc n ((nbI n:Nat):Int) ((nbI n:Nat):Int) _=_;unfold Bc;rw[AoQ (by simp)];rfl) (v0:=(0,b++[Qs n])) rfl
 obtain⟨x,hx,rfl⟩:=key
 have hp:(if decide (n<0)=true then
   (BG (~~~UInt64.ofInt n)).bind fun y=>lt1 (UInt8.ofInt (w64 (31-y))) fun(tag:UInt8)=>some (y,tag)
  else some (((nb (UInt64.ofInt n).toNat:Nat):Int),UInt8.ofInt (w64 (32+((nb (UInt64.ofInt n).toNat:Nat):Int)))):Option (Int×UInt8))=some (((nbI n:Nat):Int),Qs n):=by
  by_cases h:n<0
  ·rw[AoO (by simpa using h),ZZ];have e:nbI n=nb (~~~(UInt64.ofInt n)).toNat:=AoO h;rw[←e];show some (((nbI n:Nat):Int),UInt8.ofInt (w64 (31-((nbI n:Nat):Int))))=_;rw[Ef (by omega)];unfold Qs;rw[AoO h]
  ·rw[AoQ (by simpa using h)];have e:nbI n=nb (UInt64.ofInt n).toNat:=AoQ h;rw[←e,Ef (by omega)];unfold Qs;rw[AoQ h]
 unfold Di;refine(Au (ZZ _)).trans ?_;refine(AbC _ _ _ rfl).trans ?_;refine(Au hp).trans ?_;refine(AoO (Ow (by omega))).trans ?_;refine(AbC _ _ _ rfl).trans ?_;exact(Au (Au hx)).trans rfl
mutual
def shpV:AoG→Int×Bool
 |.mk k n b l=>
  if k=1 then(0,b.length==0&&l.length==0)
  else if k=2 then(0,n==0&&l.length==0)
  else if k=3 then(if n=0∧b.length=0 then shpL 0 l else(0,false))
  else(0,false)
def shpL(d:Int):List AoG→Int×Bool
 |[]=>(d+1,true)
 |x::l=>if(shpV x).2=true then shpL (Hn d (shpV x).1) l else(0,false)
end
mutual
theorem Aba:∀v:AoG,0≤(shpV v).1∧(shpV v).1≤szV v
  | .mk k n b l=>by
    have h:=Yx 0 l;unfold shpV szV;split
    · simp;omega
    · split
      · simp;omega
      · split
        · split
          · omega
          · simp;omega
        · simp;omega
theorem Yx:∀(d:Int) (l:List AoG),0≤d→0≤(shpL d l).1∧(shpL d l).1≤max d (szVs l)+1
  |d,[]=>by intro h;simp[shpL,szVs];omega
  | d,x::l=>by
    intro h;have h1:=Aba x;have hm:0≤Hn d (shpV x).1∧Hn d (shpV x).1≤max d (szV x):=by unfold Hn;split<;>omega
    have h2:=Yx (Hn d (shpV x).1) l hm.1;unfold shpL szVs;split
    · omega
    · simp;omega
end
theorem Jz{l:List AoG}{k:Nat}(h:k<l.length):nth l k=l[k]:=by simp[nth,Ao3,h]
theorem Anh{α:Type}(l:List α):((l.length:Int)==0)=(l.length==0):=by
 cases l with
 |nil=>rfl
 |cons a l=>simp;omega
theorem shpL_nil(d:Int):shpL d []=(d+1,true):=by unfold shpL;rfl
theorem shpL_cons(d:Int)(x:AoG)(l:List AoG):shpL d (x::l)=if(shpV x).2=true then shpL (Hn d (shpV x).1) l else(0,false):=by
 conv=>lhs;unfold shpL
theorem WK(v:AoG)(rec_:AoG→Option (Int×Bool))(hr:∀x∈v.L,rec_ x=some (shpV x))(hs:szV v≤1099511627776) :∃x,AK (fun(s:Int×Int)=>BJ v rec_ s.1 s.2) (0,0)=some x ∧((∃d:Int,shpL 0 v.L=(d+1,true)∧0≤d∧d≤1099511627776∧x=.inl d)∨(shpL 0 v.L=(0,false)∧x=.inr (.inr (.inr (0,false))))):=by
 have hsz:=szV_eq v;have hlen:=szVs_len v.L
 refine Cr (f:=fun(s:Int×Int)=>BJ v rec_ s.1 s.2)
  (fun s=>∃k:Nat,s.2=(k:Int)∧k≤v.L.length∧0≤s.1∧s.1≤1099511627776∧shpL 0 v.L=shpL s.1 (v.L.drop k)) (fun s=>v.L.length-s.2.toNat) _ ?_ ⟨0,rfl,Apx _,by simp,by simp,rfl⟩ (by omega)
 rintro⟨d,t⟩ ⟨k,ht,hk,hd0,hd1,hsp⟩;simp only at ht hd0 hd1 hsp;subst ht;by_cases hkl:k<v.L.length
 ·have hx:v.L.drop k=v.L[k]::v.L.drop (k+1):=Apn hkl;have hm:v.L[k]∈v.L:=ApO hkl;have hsx:=szVs_mem hm;have hle:=Aba v.L[k];rw[hx,shpL_cons]at hsp
  have hb:BJ v rec_ d (k:Int)=if(!(shpV v.L[k]).2)then some (.inr (.inr (.inr (.inr (0,false)))))else some (.inl (Hn d (shpV v.L[k]).1,((k+1:Nat):Int))):=by
   unfold BJ;rw[AoO (by simp;omega),AoO (DM hkl)];simp only[Apa,Jz hkl,lt1,value_eta];refine(Au (hr _ hm)).trans ?_;rw[PK (by omega)];rfl
  by_cases hg:(shpV v.L[k]).2=true
  ·left;rw[AoO hg]at hsp;rw[AoQ (by simp[hg])]at hb;refine⟨_,hb,⟨k+1,rfl,hkl,?_,?_,hsp⟩,?_⟩
   ·simp only[Hn];split<;>omega
   ·simp only[Hn];split<;>omega
   ·simp only[Apa];omega
  ·right;rw[AoQ hg]at hsp;rw[AoO (by simp[hg])]at hb;exact⟨_,hb,.inr ⟨hsp,rfl⟩⟩
 ·right;have hkk:k=v.L.length:=by omega
  subst hkk;rw[Aqj,shpL_nil]at hsp;refine⟨.inl d,?_,.inl ⟨d,hsp,hd0,hd1,rfl⟩⟩;show BJ v rec_ d ((v.L.length:Nat):Int)=_;unfold BJ;rw[AoQ (by simp)]
theorem TI : ∀ (n:Nat) (v:AoG),szV v<n→szV v≤1099511627776→D9 n v=some (shpV v)
  |0,v,h,_=>absurd h (Apk _)
  | n + 1,v,h,hs=>by
    show Ei (D9 n) v=_;have hsz:=szV_eq v;obtain⟨x,hx,hq⟩:=WK v (D9 n) (fun y hy=>TI n y (by have:=szVs_mem hy;omega) (by have:=szVs_mem hy;omega)) hs
    have hv:shpV v=if v.Za=1 then(0,v.B.length==0&&v.L.length==0)else if v.Za=2 then(0,v.N==0&&v.L.length==0)else if v.Za=3 then(if v.N=0∧v.B.length=0 then shpL 0 v.L else(0,false))else(0,false):=by
      cases v with
      |mk k n b l=>unfold shpV;rfl
    rw[hv];unfold Ei;by_cases h1:v.Za=1
    · rw[AoO (by simp[h1]),AoO h1]
      rw[Anh,Anh];by_cases hb:v.B.length=0
      · simp[hb]
      · have:(v.B.length==0)=false:=by simpa using hb
        simp[this]
    · rw[AoQ (by simp[h1]),AoQ h1]
      by_cases h2:v.Za=2
      · rw[AoO (by simp[h2]),AoO h2,Anh]
        by_cases hn:v.N=0
        · simp[hn]
        · simp[hn]
      · rw[AoQ (by simp[h2]),AoQ h2]
        by_cases h3:v.Za=3
        · rw[AoO (by simp[h3]),AoO h3]
          by_cases hn:v.N=0
          · by_cases hb:v.B.length=0
            · rw[AoO (show v.N=0∧v.B.length=0 from⟨hn,hb⟩)]
              have e1:(if(v.N != 0)then some true else some ((v.B.length:Int) != 0):Option Bool)=some false:=by simp[hn,hb]
              refine(Au (a:=(.inr (shpL 0 v.L):Unit⊕(Int×Bool))) ?_).trans rfl;refine(Au e1).trans ?_;rw[AoQ (by simp)];rcases hq with⟨d,e,h0,hd,rfl⟩|⟨e,rfl⟩
              · rw[hx,e]
                show some (Sum.inr (w64 (d+1),true))=_;rw[Ef (by omega)]
              · rw[hx,e]
                rfl
            · rw[AoQ (show ¬(v.N=0∧v.B.length=0)from fun h=>hb h.2)]
              have e1:(if(v.N != 0)then some true else some ((v.B.length:Int) != 0):Option Bool)=some true:=by
                rw[AoQ (by simp[hn])];simp;intro e;apply hb;simp[e]
              refine(Au (a:=(.inr (0,false):Unit⊕(Int×Bool))) ?_).trans rfl;exact(Au e1).trans rfl
          · rw[AoQ (show ¬(v.N=0∧v.B.length=0)from fun h=>hn h.1)]
            have e1:(if(v.N != 0)then some true else some ((v.B.length:Int) != 0):Option Bool)=some true:=by simp[hn]
            refine(Au (a:=(.inr (0,false):Unit⊕(Int×Bool))) ?_).trans rfl;exact(Au e1).trans rfl
        · rw[AoQ (by simp[h3]),AoQ h3]
          rfl
def Hy:List UInt8→List UInt8
 |[]=>[]
 |c::l=>if c=0 then 0::255::Hy l else c::Hy l
theorem AcB(a b:List UInt8):Hy (a++b)=Hy a++Hy b:=by
 induction a with
 |nil=>rfl
 |cons c a ih=>simp only[Ao5,Hy];split<;>simp[ih]
theorem Rl(a:List UInt8):(Hy a).length≤2*a.length:=by
 induction a with
 |nil=>simp[Hy]
 |cons c a ih=>simp only[Hy];split<;>simp only[Ape]<;>omega
mutual
def encV:AoG→List UInt8
 |.mk k n b l=>if k=1 then ZQ n else if k=2 then 48::(Hy b++[0,0])else 64::(HZ l++[0])
def HZ:List AoG→List UInt8
 |[]=>[]
 |x::l=>encV x++HZ l
end
theorem NO(v:AoG):encV v=if v.Za=1 then ZQ v.N else if v.Za=2 then 48::(Hy v.B++[0,0])else 64::(HZ v.L++[0]):=by
 cases v with
 |mk k n b l=>unfold encV;rfl
theorem Abx(a b:List AoG):HZ (a++b)=HZ a++HZ b:=by
 induction a with
 |nil=>rfl
 |cons c a ih=>simp only[Ao5,HZ,ih,Ap8]
mutual
theorem encV_len:∀v:AoG,(encV v).length≤9*szV v
  | .mk k n b l=>by
    have h:=Md l;have h1:=QH n;have h2:=Ady n;have h3:=Rl b;unfold encV szV;split
    · omega
    · split
      · simp only[Ape,Ao7,Apr];omega
      · simp only[Ape,Ao7,Apr];omega
theorem Md:∀l:List AoG,(HZ l).length≤9*szVs l
  |[]=>by simp[HZ]
  | x::l=>by
    have h1:=encV_len x;have h2:=Md l;unfold HZ szVs;simp only[Ao7];omega
end
theorem XU(v:AoG)(a:List UInt8)(ha:a.length+2*v.B.length≤100000000000000) :∃x,AK (fun(s:Int×List UInt8)=>AW v s.1 s.2) (0,a)=some x∧x=a++Hy v.B:=by
 refine FZ (f:=fun(s:Int×List UInt8)=>AW v s.1 s.2) v.B.length (fun k s=>s=((k:Int),a++Hy (v.B.take k))) _ (by omega) ?_ ?_ (by simp[Hy])
 ·intro k s hk hs;subst hs;have hx:v.B.take (k+1)=v.B.take k++[v.B[k]]:=by rw[Aqx,AoN hk];rfl
  have hn:nth v.B k=v.B[k]:=by simp[nth,Ao3,hk]
  have hl:=Rl (v.B.take k);rw[ArP]at hl;refine⟨_,?_,rfl⟩;show AW v (k:Int) _=_;unfold AW;rw[AoO (by simp;omega),AoO (DM hk),AoO (Ow (by simp only[Ao7];omega)),PK (by omega)];simp only[Apa,hn,lt1,hx,AcB];by_cases h0:v.B[k]=0
  ·rw[AoO (by simp[h0]),AoO (Ow (by simp only[Ao7,Ape,Apr];omega))];simp[Hy,h0]
  ·rw[AoQ (by simp[h0])];simp[Hy,h0]
 ·intro s hs;subst hs;refine⟨_,?_,rfl⟩;show AW v ((v.B.length:Nat):Int) _=_;unfold AW;rw[AoQ (by simp),AqC]
theorem Z0(v:AoG)(a:List UInt8)(rec_:List UInt8→AoG→Option (List UInt8))(hr:∀x∈v.L,∀b,b.length+9*szV x≤a.length+9*szVs v.L→rec_ b x=some (b++encV x))(hs:szV v≤1099511627776) :∃x,AK (fun(s:Int×List UInt8)=>AX v rec_ s.1 s.2) (0,a)=some x∧x=a++HZ v.L:=by
  have hsz:=szV_eq v;have hlen:=szVs_len v.L;refine FZ (f:=fun(s:Int×List UInt8)=>AX v rec_ s.1 s.2) v.L.length (fun k s=>s=((k:Int),a++HZ (v.L.take k))) _ (by omega) ?_ ?_ (by simp[HZ])
  · intro k s hk hs'
    subst hs';have hx:v.L.take (k+1)=v.L.take k++[v.L[k]]:=by rw[Aqx,AoN hk];rfl
    have hm:v.L[k]∈v.L:=ApO hk
    have hsp:szVs v.L=szVs (v.L.take k)+szVs (v.L.drop k):=by
      have key:∀a b:List AoG,szVs (a++b)=szVs a+szVs b:=by
        intro a b
        induction a with
        |nil=>simp[szVs]
        |cons y a ih=>simp only[Ao5,szVs,ih];omega
      rw[←key,AqD]
    rw[Apn hk]at hsp;simp only[szVs]at hsp;have hl:=Md (v.L.take k);refine⟨_,?_,rfl⟩;show AX v rec_ (k:Int) _=_;unfold AX;rw[AoO (by simp;omega),AoO (DM hk),PK (by omega)];simp only[Apa,Jz hk,lt1,value_eta];refine(Au (hr _ hm _ (by simp only[Ao7];omega))).trans ?_;rw[hx,Abx];simp[HZ]
  · intro s hs'
    subst hs';refine⟨_,?_,rfl⟩;show AX v rec_ ((v.L.length:Nat):Int) _=_;unfold AX;rw[AoQ (by simp),AqC]
theorem Wu:∀(n:Nat) (b:List UInt8) (v:AoG),szV v<n→b.length+9*szV v≤1099511627776→BF n b v=some (b++encV v)
  |0,b,v,h,_=>absurd h (Apk _)
  | n + 1,b,v,h,hs=>by
    show Cc (BF n) b v=_;have hsz:=szV_eq v;rw[NO];unfold Cc;by_cases h1:v.Za=1
    · rw[AoO (by simp[h1]),AoO h1]
      rw[RP b v.N (by omega)];rfl
    · rw[AoQ (by simp[h1]),AoQ h1]
      by_cases h2:v.Za=2
      · rw[AoO (by simp[h2]),AoO h2]
        obtain⟨x,hx,rfl⟩:=XU v (b++[48]) (by simp only[Ao7,Ape,Apr];omega);have hl:=Rl v.B;refine(Au (a:=(.inr (b++48::(Hy v.B++[0,0])):Unit⊕List UInt8)) ?_).trans rfl;refine(AoO (Ow (by omega))).trans ?_;refine(AbC _ _ _ rfl).trans ?_;refine(Au (Au hx)).trans ?_;refine(AoO (Ow (by simp only[Ao7,Ape,Apr];omega))).trans ?_;simp[lt1]
      · rw[AoQ (by simp[h2]),AoQ h2]
        obtain⟨x,hx,rfl⟩:=Z0 v (b++[64]) (BF n) (fun y hy c hc=>Wu n c y (by have:=szVs_mem hy;omega) (by simp only[Ao7,Ape,Apr]at hc;omega)) (by omega);have hl:=Md v.L;refine(Au (a:=(.inl ():Unit⊕List UInt8)) rfl).trans ?_;refine(AoO (Ow (by omega))).trans ?_;refine(AbC _ _ _ rfl).trans ?_;refine(Au (Au hx)).trans ?_;refine(AoO (Ow (by simp only[Ao7,Ape,Apr];omega))).trans ?_;simp[lt1]
def Enc(v:AoG):List UInt8×Int :=
 if(shpV v).2=true then(if(shpV v).1>16 then([],2)else if(encV v).length>65536 then([],2)else(encV v,0))else([],10)
theorem encode_eq(v:AoG)(h:szV v≤100000000000):Ee v=some (Enc v):=by
 unfold Ee EG EF Enc;refine(Au (TI 18446744073709551616 v (by omega) (by omega))).trans ?_;by_cases h1:(shpV v).2=true
 ·rw[AoQ (by simp[h1]),AoO h1];by_cases h2:(shpV v).1>16
  ·rw[AoO (by simpa using h2),AoO h2]
  ·rw[AoQ (by simpa using h2),AoQ h2];refine(Au (Wu 18446744073709551616 [] v (by omega) (by simp;omega))).trans ?_;by_cases h3:(encV v).length>65536
   ·rw[AoO (by simp;omega),AoO h3]
   ·rw[AoQ (by simp;omega),AoQ h3];rfl
 ·rw[AoO (by simp[h1]),AoQ h1]
variable{k:Nat}
def cmpI(a b:Int):Int:=if a<b then -1 else if b<a then 1 else 0
def cmpB:List UInt8→List UInt8→Int
 |[],[]=>0
 |[],_::_=>-1
 |_::_,[]=>1
 |x::l,y::m=>if x=y then cmpB l m else if x<y then -1 else 1
mutual
def cmpV:AoG→AoG→Int
 |.mk k n b l,w=>if k≠w.Za then cmpI k w.Za else if k=1 then cmpI n w.N else if k=2 then cmpB b w.B else if k=3 then cmpL l w.L else 0
def cmpL:List AoG→List AoG→Int
 |[],[]=>0
 |[],_::_=>-1
 |_::_,[]=>1
 |x::l,y::m=>if cmpV x y≠0 then cmpV x y else cmpL l m
end
theorem cmpV_eq(v w:AoG):cmpV v w=if v.Za≠w.Za then cmpI v.Za w.Za else if v.Za=1 then cmpI v.N w.N else if v.Za=2 then cmpB v.B w.B else if v.Za=3 then cmpL v.L w.L else 0:=by
 cases v with
 |mk k n b l=>rw[cmpV];rfl
theorem PD{α:Type}[Inhabited α]{l:List α}(h:k<l.length):nth l k=l[k]:=by simp[nth,Ao3,h]
theorem ZO{a b:List UInt8}(ha:k<a.length)(hb:k<b.length):cmpB (a.drop k) (b.drop k)=if nth a k=nth b k then cmpB (a.drop (k+1)) (b.drop (k+1))else if nth a k<nth b k then -1 else 1:=by
 rw[Apn ha,Apn hb,PD ha,PD hb,cmpB]
theorem Adm{a b:List UInt8}(hk:k≤a.length)(hk':k≤b.length)(h:¬(k<a.length∧k<b.length)):cmpB (a.drop k) (b.drop k)=cmpI (a.length:Int) (b.length:Int):=by
 unfold cmpI;rcases Nat.lt_trichotomy a.length b.length with hl|hl|hl
 ·have hka:k=a.length:=by omega
  rw[AoO (by omega),hka,Aqj,Apn (by omega)];rfl
 ·have hka:k=a.length:=by omega
  rw[AoQ (by omega),AoQ (by omega),hka,Aqj,hl,Aqj];rfl
 ·have hkb:k=b.length:=by omega
  rw[AoQ (by omega),AoO (by omega),hkb,Aqj,Apn (by omega)];rfl
theorem W4{l:List UInt8}{i:Nat}(h:i<l.length):(⟨l.toArray⟩:ByteArray)[i]! = nth l i:=by
 rw[PD h];have h2:i<(⟨l.toArray⟩:ByteArray).size:=by simpa [ByteArray.size]using h
 rw[getElem!_pos (⟨l.toArray⟩:ByteArray) i h2];show l.toArray[i]=_;simp
theorem Wn(a b:List UInt8):∀(m k:Nat),k+m=min a.length b.length →(match(List.range' k m).find? fun i=>(⟨a.toArray⟩:ByteArray)[i]! != (⟨b.toArray⟩:ByteArray)[i]! with
      |some i=>if(⟨a.toArray⟩:ByteArray)[i]!<(⟨b.toArray⟩:ByteArray)[i]! then -1 else 1
      |none=>if(⟨a.toArray⟩:ByteArray).size<(⟨b.toArray⟩:ByteArray).size then(-1:Int)else if(⟨a.toArray⟩:ByteArray).size>(⟨b.toArray⟩:ByteArray).size then 1 else 0)=cmpB (a.drop k) (b.drop k)
  | 0,k,h=>by
    rw[List.range'_zero,List.find?_nil,Adm (by omega) (by omega) (by omega)];have e:∀l:List UInt8,(⟨l.toArray⟩:ByteArray).size=l.length:=fun l=>by simp[ByteArray.size]
    simp only[e,cmpI,Int.ofNat_lt,AqP]
  | m + 1,k,h=>by
    have ha:k<a.length:=by omega
    have hb:k<b.length:=by omega
    rw[Arj,Ar0,ZO ha hb,W4 ha,W4 hb];by_cases he:nth a k=nth b k
    · have:(nth a k != nth b k)=false:=by simp[he]
      rw[this,AoO he];exact Wn a b m (k+1) (by omega)
    · have:(nth a k != nth b k)=true:=by simp[he]
      rw[this,AoQ he];show(if(⟨a.toArray⟩:ByteArray)[k]!<(⟨b.toArray⟩:ByteArray)[k]! then(-1:Int)else 1)=_;rw[W4 ha,W4 hb]
theorem UN(a b:List UInt8):Ms a b=cmpB a b:=by
 have h:=Wn a b (min a.length b.length) 0 (by omega);rw[←ApD]at h;unfold Ms Extern.BytealgCompare.cmp;have e:∀l:List UInt8,(⟨l.toArray⟩:ByteArray).size=l.length:=fun l=>by simp[ByteArray.size]
 rw[e,e];rw[e,e]at h;exact h
theorem M5(a b:List UInt8):E0 a b=some (cmpB a b):=by
 unfold E0 FN NX;rw[UN];rfl
theorem SJ(a b:Int):C8 a b=some (cmpI a b):=by
 unfold C8 El cmpI;by_cases h:a<b
 ·simp[h]
 ·by_cases h2:b<a<;>simp[h,h2]
theorem YB{a b:List AoG}(ha:k<a.length)(hb:k<b.length):cmpL (a.drop k) (b.drop k)=if cmpV (nth a k) (nth b k)≠0 then cmpV (nth a k) (nth b k)else cmpL (a.drop (k+1)) (b.drop (k+1)):=by
 rw[Apn ha,Apn hb,PD ha,PD hb,cmpL]
theorem Wh{a b:List AoG}(hk:k≤a.length)(hk':k≤b.length)(h:¬(k<a.length∧k<b.length)):cmpL (a.drop k) (b.drop k)=cmpI (a.length:Int) (b.length:Int):=by
 unfold cmpI;rcases Nat.lt_trichotomy a.length b.length with hl|hl|hl
 ·have hka:k=a.length:=by omega
  rw[AoO (by omega),hka,Aqj,Apn (by omega),cmpL]
 ·have hka:k=a.length:=by omega
  rw[AoQ (by omega),AoQ (by omega),hka,Aqj,hl,Aqj,cmpL]
 ·have hkb:k=b.length:=by omega
  rw[AoQ (by omega),AoO (by omega),hkb,Aqj,Apn (by omega),cmpL]
theorem Po(a b:List AoG)(f:AoG→AoG→Option Int)(hf:∀x∈a,∀y,f x y=some (cmpV x y))(ha:a.length≤9223372036854775807):BD f a b f=some (cmpL a b):=by
 have key:∃x,AK (fun(v:Int)=>Ba a b f v) 0=some x∧((x=.inl ()∧a.length≤b.length∧cmpL a b=cmpI (a.length:Int) (b.length:Int))∨(x=.inr (.inr (cmpL a b)))):=by
  refine Cr (f:=fun(v:Int)=>Ba a b f v) (fun i=>∃k:Nat,i=(k:Int)∧k≤a.length∧k≤b.length∧cmpL a b=cmpL (a.drop k) (b.drop k)) (fun i=>a.length-i.toNat) _ ?_ ⟨0,rfl,by simp,by simp,rfl⟩ (by omega);rintro _ ⟨k,rfl,hka,hkb,he⟩;show _∨_;unfold Ba;by_cases h1:k<a.length
  ·have r1:InR (k:Int) a.length:=⟨by omega,by omega⟩;rw[AoO (by simp;omega),AoO r1];simp only[lt1,Apa];by_cases h2:k<b.length
   ·have r2:InR (k:Int) b.length:=⟨by omega,by omega⟩;rw[AoQ (by simp;omega),AoO r2];rw[value_eta,value_eta,hf _ (by rw[PD h1];exact ApO h1)];rw[YB h1 h2]at he;by_cases hz:cmpV (nth a k) (nth b k)=0
    ·left;rw[AoQ (by simpa using hz)]at he;refine⟨_,(Au rfl).trans ?_,⟨k+1,rfl,by omega,by omega,he⟩,?_⟩
     ·rw[AoQ (by simp[hz]),PK (by omega)]
     ·simp only[Apa];omega
    ·right;rw[AoO hz]at he;refine⟨_,(Au rfl).trans ?_,.inr rfl⟩;rw[AoO (by simpa using hz),he];rfl
   ·right;rw[AoO (by simp;omega)];refine⟨_,rfl,.inr ?_⟩;rw[he,Wh hka hkb (by omega)];unfold cmpI;rw[AoQ (by omega),AoO (by omega)]
  ·right;rw[AoQ (by simp;omega)];exact⟨_,rfl,.inl ⟨rfl,by omega,by rw[he];exact Wh hka hkb (by omega)⟩⟩
 obtain⟨x,hx,hq⟩:=key;unfold BD;rcases hq with⟨rfl,hl,he⟩|rfl
 ·refine(Au (a:=.inl ()) ((Au hx).trans rfl)).trans ?_;rw[he];unfold cmpI;by_cases h:(a.length:Int)<(b.length:Int)
  ·simp[h]
  ·have:¬(b.length:Int)<(a.length:Int):=by omega
   simp[h,this]
 ·exact(Au (a:=.inr (cmpL a b)) ((Au hx).trans rfl)).trans rfl
theorem RY:∀(n:Nat) (a b:AoG),szV a<n→szV a≤1099511627776→Dj n a b=some (cmpV a b)
  |0,a,b,h,_=>absurd h (Apk _)
  | n + 1,a,b,h,hs=>by
    show Dx (Dj n) a b=_;have hsz:=szV_eq a;have hlen:=szVs_len a.L;unfold Dx;rw[cmpV_eq];refine(Au (SJ _ _)).trans ?_;by_cases hk:a.Za=b.Za
    · have hz:cmpI a.Za b.Za=0:=by unfold cmpI;simp[hk]
      rw[AoQ (show ¬(cmpI a.Za b.Za != 0)=true by simp[hz]),AoQ (show ¬(a.Za≠b.Za) by simpa using hk)];by_cases h1:a.Za=1
      · rw[AoO (show(a.Za==1)=true by simp[h1]),AoO h1];exact Au (SJ _ _)
      · rw[AoQ (show ¬(a.Za==1)=true by simp[h1]),AoQ h1]
        by_cases h2:a.Za=2
        · rw[AoO (show(a.Za==2)=true by simp[h2]),AoO h2];exact Au (M5 _ _)
        · rw[AoQ (show ¬(a.Za==2)=true by simp[h2]),AoQ h2]
          by_cases h3:a.Za=3
          · rw[AoO (show(a.Za==3)=true by simp[h3]),AoO h3]
            exact Au (Po _ _ _ (fun x hx y=>RY n x y (by have:=szVs_mem hx;omega) (by have:=szVs_mem hx;omega)) (by omega))
          · rw[AoQ (show ¬(a.Za==3)=true by simp[h3]),AoQ h3]
    · have hz:cmpI a.Za b.Za≠0:=by
        unfold cmpI;rcases Int.lt_trichotomy a.Za b.Za with h|h|h
        · rw[AoO h];decide
        · exact(hk h).elim
        · rw[AoQ (by omega),AoO h];decide
      rw[AoO (show(cmpI a.Za b.Za != 0)=true by simpa using hz),AoO (show a.Za≠b.Za from hk)]
theorem compare_eq(a b:AoG)(h:szV a≤100000000000):F2 a b=some (cmpV a b):=RY _ a b (by omega) (by omega)
theorem cmpI_refl(a:Int):cmpI a a=0:=by simp[cmpI]
theorem cmpI_zero{a b:Int}:cmpI a b=0↔a=b:=by
 unfold cmpI;by_cases h:a<b
 ·rw[AoO h];constructor
  ·intro h;cases h
  ·intro h;omega
 ·rw[AoQ h];by_cases h2:b<a
  ·rw[AoO h2];constructor
   ·intro h;cases h
   ·intro h;omega
  ·rw[AoQ h2];constructor<;>intros<;>omega
end Go.Proofs.YtioapcamanmoiaaGreatDoor.Kc
namespace Go.Proofs.YtioapcamanmoiaaGreatDoor
open Go.Rv
set_option linter.unusedVariables false
set_option linter.unusedSimpArgs false
set_option maxRecDepth 100000
variable{r:AoD}
theorem Ni{n:Nat}(h:n≤2100000):CM n 64:=⟨Aqn h (by decide),Aqn (AoX 64 h) (by decide)⟩
def iV(n:Int):AoG:=AoG.mk 1 n [] []
def tV(s:List UInt8):AoG:=AoG.mk 2 0 s []
def lV(l:List AoG):AoG:=AoG.mk 3 0 [] l
def GN(x:AoA):AoG:=lV [iV x.Za,iV x.Zl1,iV (if x.Zm1=true then 1 else 0)]
def X1(it:AoB):List AoG:=[iV it.Za,lV [iV it.Ref.Zb,iV it.Ref.No],iV it.Zn1,iV it.Zb1,iV it.Zc,iV it.Zo1,iV it.Zw,iV it.To,iV it.Code,iV it.Zp1,iV it.Zq1,iV it.Zr1,iV it.Zs1]
def val(it:AoB):AoG:=lV (X1 it++[tV it.Zt1,lV (it.Zu1.map GN)])
theorem map_take{α β:Type}[Inhabited α](f:α→β)(l:List α)(k:Nat)(hk:k<l.length):(l.take (k+1)).map f=(l.take k).map f++[f (nth l k)]:=by
 have h:l.take (k+1)=l.take k++[nth l k]:=by
  rw[Aqx,AoN hk];simp[nth,AoN hk]
 rw[h];simp
theorem Ad3{it:AoB}(hp:it.Zu1.length≤2000000):AK (fun(v:Int×List AoG)=>Dr it v.1 v.2) (0,[])=some (it.Zu1.map GN):=by
 obtain⟨x,hx,rfl⟩:=FZ (f:=fun(v:Int×List AoG)=>Dr it v.1 v.2) it.Zu1.length (fun k v=>v=((k:Int),(it.Zu1.take k).map GN)) (fun x=>x=it.Zu1.map GN) (by omega) (by
  rintro k v hk rfl;refine⟨_,?_,rfl⟩;have hin:InR (k:Int) it.Zu1.length:=⟨by omega,by simpa using hk⟩;unfold Dr;rw[AoO (Apo (by omega)),AoO hin,Hm (by omega),map_take _ _ k hk];simp only[Apa,CE];have e:(if(nth it.Zu1 k).Zm1=true then some 1 else some 0:Option Int)=some (if(nth it.Zu1 k).Zm1=true then 1 else 0):=by split<;>rfl
  rw[e];simp only[AoP,AU,DF];rw[AoO (Ni (by simp;omega))];rfl) (by
  rintro v rfl;refine⟨_,?_,rfl⟩;unfold Dr;rw[AoQ (by simp)];simp) (v0:=(0,[])) (by simp)
 exact hx
theorem VC{it:AoB}(hp:it.Zu1.length≤2000000):Ez it=some (val it):=by
 unfold Ez;simp only[AoP,AU,DF,Gt,edi_list_cnil,Mc,CE,Ad3 hp]
 repeat rw[AoO (Ni (by simp))]
 simp only[AoP];rw[AoO (Ni (by simp))];rfl
def Uj(n:UInt64)(k:Nat):UInt8:=(CZ n (56-8*k)).toUInt8
def BC(n:UInt64):List UInt8:=(List.range 8).map (Uj n)
def YJ(n:UInt64)(k:Nat):List UInt8:=(List.range 8).map fun j=>if j<k then Uj n j else 0
theorem Abg(n:UInt64):∀{k:Nat},k<8→(YJ n k).set k (Uj n k)=YJ n (k+1)
 |0,_=>rfl
 |1,_=>rfl
 |2,_=>rfl
 |3,_=>rfl
 |4,_=>rfl
 |5,_=>rfl
 |6,_=>rfl
 |7,_=>rfl
 |k+8,h=>by omega
theorem Rs(n:UInt64):Hg n=some (tV (BC n)):=by
 have h:AK (fun(v:Int×List UInt8)=>Dd n (List.replicate 8 (0:UInt8)) v.1 v.2) (0,List.replicate 8 (0:UInt8))=some (BC n):=by
  refine Ac8 8 (fun(v:Int×List UInt8)=>Dd n (List.replicate 8 (0:UInt8)) v.1 v.2) (fun k s=>(k,s)) (YJ n) id (by omega) (fun k hk=>?_) ?_
  ·have e1:w64 (56-w64 (8*(k:Int)))=((56-8*k:Nat):Int):=by rw[Ef (x:=8*(k:Int)) (by omega),Ef (by omega)];omega
   simp only;unfold Dd;rw[AoO (Apo (by simp;omega)),e1,AoO (by unfold EX;omega),AoO (show InR (k:Int) (YJ n k).length from DM (by simpa [YJ]using hk))];simp only[CE,Apa];rw[Hm (by omega),show(CZ n (56-8*k)).toUInt8=Uj n k from rfl,Abg n hk]
  ·simp only;unfold Dd;rw[AoQ (by simp)];rfl
 unfold Hg;rw[AoO (by unfold Mk maxLen J0;omega)];simp only[CE];rw[h];rfl
def EK(r:AoD):List AoG:=[iV r.Zb,iV r.No,tV r.Zv1.l,iV r.Zw1,val r.Zx1]
def R7(r:AoD):AoG:=lV (EK r++[lV [tV (BC r.Sig.C),tV (BC r.Sig.S)]])
theorem J7(hp:r.Zx1.Zu1.length≤2000000):D5 r=some (EK r):=by
 unfold D5;rw[VC hp];rfl
theorem Aai(n:Int):Kc.szV (iV n)=1:=by rw[Kc.szV_eq];rfl
theorem Kq:Kc.szVs []=0:=rfl
theorem Ep(x:AoG)(l:List AoG):Kc.szVs (x::l)=Kc.szV x+Kc.szVs l:=rfl
theorem VR(a b:List AoG):Kc.szVs (a++b)=Kc.szVs a+Kc.szVs b:=by
 induction a with
 |nil=>rw[ApC,Kq];omega
 |cons x a ih=>rw[Ao5,Ep,Ep,ih];omega
theorem AfW(s:List UInt8):Kc.szV (tV s)=s.length+1:=by rw[Kc.szV_eq];rfl
theorem UM(l:List AoG):Kc.szV (lV l)=1+Kc.szVs l:=by rw[Kc.szV_eq];show 0+1+Kc.szVs l=_;omega
theorem Aac(l:List AoA):Kc.szVs (l.map GN)=4*l.length:=by
  induction l with
  |nil=>rfl
  | cons x l ih=>
    rw[Ap1,Ep,ih];unfold GN;rw[UM,Ep,Ep,Ep,Kq,Aai,Aai,Aai,Ape];omega
theorem U7(it:AoB):Kc.szV (val it)=18+it.Zt1.length+4*it.Zu1.length:=by
 unfold val X1;rw[UM,VR];simp only[Ep,Kq,Aai,UM,AfW,Aac];omega
theorem QP(r:AoD):Kc.szV (lV (EK r))=55+r.Zx1.Zt1.length+4*r.Zx1.Zu1.length:=by
 unfold EK;rw[UM];simp only[Ep,Kq,Aai,AfW,U7,r.Zv1.h];omega
theorem ZR(r:AoD):Kc.szV (R7 r)=74+r.Zx1.Zt1.length+4*r.Zx1.Zu1.length:=by
 have h:=QP r;rw[UM]at h;have hw:∀n,(BC n).length=8:=fun n=>by simp[BC]
 unfold R7;rw[UM,VR];simp only[Ep,Kq,UM,AfW,hw];omega
theorem Y9(h:Small r.Zx1):Fi r=some (Kc.Enc (lV (EK r))):=by
 have h1:=h.text;have h2:=h.parts;unfold Fi;rw[J7 (by omega),AoP];show(some (lV (EK r))).bind _=_;rw[AoP,Kc.encode_eq _ (by rw[QP];omega)];rfl
theorem X6(h:Small r.Zx1):CG r=some (Kc.Enc (R7 r)):=by
 have h1:=h.text;have h2:=h.parts;unfold CG;rw[J7 (by omega),AoP,Rs,AoP,Rs,AoP];show(some (lV [tV (BC r.Sig.C),tV (BC r.Sig.S)])).bind _=_;rw[AoP,AoO (Ni (by simp[EK]))];show(some (R7 r)).bind _=_;rw[AoP,Kc.encode_eq _ (by rw[ZR];omega)];rfl
set_option maxRecDepth 8000
theorem z_i{x y:Int}:Kc.cmpV (iV x) (iV y)=0↔x=y:=by
 rw[Kc.cmpV_eq];show(if(1:Int)≠1 then _ else if(1:Int)=1 then Kc.cmpI x y else _)=0↔_;rw[AoQ (by simp),AoO rfl,Kc.cmpI_zero]
theorem z_b:∀{a b:List UInt8},Kc.cmpB a b=0↔a=b
  |[],[]=>by simp[Kc.cmpB]
  |[],_::_=>by simp[Kc.cmpB]
  |_::_,[]=>by simp[Kc.cmpB]
  | x :: l,y::m=>by
    unfold Kc.cmpB;by_cases h:x=y
    · rw[AoO h,z_b (a:=l) (b:=m),h];simp
    · rw[AoQ h]
      split<;>simp[h]
theorem z_t{a b:List UInt8}:Kc.cmpV (tV a) (tV b)=0↔a=b:=by
 rw[Kc.cmpV_eq];show(if(2:Int)≠2 then _ else if(2:Int)=1 then _ else if(2:Int)=2 then Kc.cmpB a b else _)=0↔_;rw[AoQ (by simp),AoQ (by decide),AoO rfl,z_b]
theorem c_l{a b:List AoG}:Kc.cmpV (lV a) (lV b)=Kc.cmpL a b:=by
 rw[Kc.cmpV_eq];show(if(3:Int)≠3 then _ else if(3:Int)=1 then _ else if(3:Int)=2 then _ else if(3:Int)=3 then Kc.cmpL a b else _)=_;rw[AoQ (by simp),AoQ (by decide),AoQ (by decide),AoO rfl]
theorem z_c{x y:AoG}{l m:List AoG}:Kc.cmpL (x::l) (y::m)=0↔Kc.cmpV x y=0∧Kc.cmpL l m=0:=by
 rw[Kc.cmpL];by_cases h:Kc.cmpV x y=0
 ·rw[AoQ (by simpa using h)];simp[h]
 ·rw[AoO h];simp[h]
theorem z_n:Kc.cmpL [] []=0:=by rw[Kc.cmpL]
theorem z_p{x y:AoA}:Kc.cmpV (GN x) (GN y)=0↔x=y:=by
 unfold GN;rw[c_l,z_c,z_c,z_c,z_i,z_i,z_i];rcases x with⟨a,b,c⟩
 rcases y with⟨d,e,f⟩
 simp only[z_n,Ara,AoA.mk.injEq];cases c<;>cases f<;>simp
theorem z_ps:∀{l m:List AoA},Kc.cmpL (l.map GN) (m.map GN)=0↔l=m
 |[],[]=>by simp[z_n]
 |[],y::m=>by rw[Aq6,Ap1,Kc.cmpL];simp
 |x::l,[]=>by rw[Aq6,Ap1,Kc.cmpL];simp
 |x::l,y::m=>by rw[Ap1,Ap1,z_c,z_p,z_ps];simp
theorem z_val{a b:AoB}:Kc.cmpV (val a) (val b)=0↔a=b:=by
 unfold val X1;simp only[c_l,Ao5,ApC,z_c,z_i,z_t,z_ps,z_n,Ara];rcases a with⟨k,⟨r,n⟩,a1,a2,a3,a4,a5,a6,a7,a8,a9,a10,a11,t,p⟩
 rcases b with⟨k',⟨r',n'⟩,b1,b2,b3,b4,b5,b6,b7,b8,b9,b10,b11,t',p'⟩
 simp only[AoB.mk.injEq,Aoz.mk.injEq]
structure SingleOk(p:Aoy)(r:AoD):Prop where
  pool:CB p=some 0
  rail:0≤r.Zb∧r.Zb<(p.Zk1.length:Int)
  no:1≤r.No∧r.No≤4096
  time:0≤r.Zw1∧r.Zw1≤1073741824
  item:Ky p r.Zx1=some 0
  body:(Kc.Enc (lV (EK r))).2=0
  ver:HN (nth p.Zk1 r.Zb.toNat).Key (Kc.Enc (lV (EK r))).1 r.Sig=some true
def AjI(r:Aoz):Bool:=(r.Zb==0)&&(r.No==0)
structure FollowsOk(l:List AoD)(r:AoD):Prop where
  no:r.No≤(l.length:Int)+1
  prev:1<r.No→FJ (nth l (r.No-2).toNat)=some (r.Zv1,0)∧(nth l (r.No-2).toNat).Zw1≤r.Zw1
  first:¬1<r.No→r.Zv1=Arr.rep 32 (0:UInt8)
  ref:AjI r.Zx1.Ref=true∨(r.Zx1.Ref.Zb=r.Zb∧1≤r.Zx1.Ref.No∧r.Zx1.Ref.No<r.No∧AjI (nth l (r.Zx1.Ref.No-1).toNat).Zx1.Ref=true)
structure Mid(n:Nat)(b:AoF):Prop where
  logs:b.Zy1.length≤n
  forks:b.Zz1.length≤n
  row:∀l∈b.Zy1,l.length≤n
  item:∀l∈b.Zy1,∀r∈l,Small r.Zx1
structure FewP(p:Aoy):Prop where
  few:Few p
  rails:p.Zk1.length≤4
end Go.Proofs.YtioapcamanmoiaaGreatDoor
namespace Go.Proofs.YtioapcamanmoiaaGreatDoor.Kc
open Go.Rv
set_option linter.unusedVariables false
def rangeI(x:Int):Prop:=-9223372036854775808≤x∧x≤9223372036854775807
mutual
def okV:AoG→Prop
 |.mk k n b l=>rangeI k∧rangeI n∧okVs l
def okVs:List AoG→Prop
 |[]=>True
 |x::l=>okV x∧okVs l
end
theorem okVs_all(l:List AoG):okVs l↔∀x∈l,okV x:=by
 induction l with
 |nil=>simp[okVs]
 |cons x l ih=>simp[okVs,ih]
theorem okV_eq(v:AoG):okV v↔rangeI v.Za∧rangeI v.N∧∀x∈v.L,okV x:=by
 rw[←okVs_all];cases v with
 |mk k n b l=>simp only[okV];rfl
set_option linter.unusedSimpArgs false
variable{n:Int}{s:UInt8⊕List AoG}{b:List UInt8}{c:UInt8}{m:Nat}{r:AoG×Int}{v:AoG}{l:List AoG}
theorem revInd{α:Type}{p:List α→Prop}(h0:p [])(hs:∀l c,p l→p (l++[c]))(l:List α):p l:=by
 have:∀l:List α,p l.reverse:=by
  intro l
  induction l with
  |nil=>exact h0
  |cons c l ih=>rw[List.reverse_cons];exact hs _ _ ih
 simpa using this l.reverse
def dig:Nat→Nat→List UInt8
 |0,_=>[]
 |k+1,u=>dig k (u/256)++[UInt8.ofNat u]
def valD(l:List UInt8):Nat:=l.foldl (fun a c=>a*256+c.toNat) 0
theorem dig_len:∀k u,(dig k u).length=k
 |0,_=>rfl
 |k+1,u=>by simp[dig,dig_len k]
theorem valD_app(l:List UInt8)(c:UInt8):valD (l++[c])=valD l*256+c.toNat:=by simp[valD]
theorem toNat_ofNat8(u:Nat):(UInt8.ofNat u).toNat=u%256:=by simp
theorem valD_dig:∀k u,u<256^k→valD (dig k u)=u
  | 0,u,h=>by
    have:u=0:=by simpa using h
    subst this;rfl
  | k+1,u,h=>by
    rw[dig,valD_app,valD_dig k (u/256) (by rw[Aqi]at h;exact Aro (by rw[Ap9];exact h)),toNat_ofNat8];omega
theorem valD_lt(l:List UInt8):valD l<256^l.length:=by
 refine revInd (p:=fun l=>valD l<256^l.length) (by simp[valD]) (fun l c ih=>?_) l
 ·rw[valD_app,Ao7,AqX,Aqi];have:=c.toNat_lt;omega
theorem dig_valD(l:List UInt8):dig l.length (valD l)=l:=by
 refine revInd (p:=fun l=>dig l.length (valD l)=l) rfl (fun l c ih=>?_) l
 ·rw[valD_app,Ao7,AqX,dig];have hc:=c.toNat_lt;have e1:(valD l*256+c.toNat)/256=valD l:=by omega
  have e2:UInt8.ofNat (valD l*256+c.toNat)=c:=by
   apply Aqq.1;rw[toNat_ofNat8];omega
  rw[e1,e2,ih]
def magI(n:Int):Nat:=if n<0 then(-(n+1)).toNat else n.toNat
theorem Vw(h:rangeI n):magI n<9223372036854775808:=by
 unfold magI;obtain⟨h1,h2⟩:=h;split<;>omega
theorem AdX(n:Int):((UInt64.ofInt n).toNat:Int)=n%18446744073709551616:=by rw[UInt64.ofInt,Arv];omega
theorem UL(x:UInt64):(~~~x).toNat=18446744073709551615-x.toNat:=by rw[UInt64.toNat_not];rfl
theorem magU(h:rangeI n):(if n<0 then(~~~(UInt64.ofInt n)).toNat else(UInt64.ofInt n).toNat)=magI n:=by
 obtain⟨h1,h2⟩:=h;unfold magI;by_cases hn:n<0
 ·rw[AoO hn,AoO hn,UL];have:=AdX n;omega
 ·rw[AoQ hn,AoQ hn];have:=AdX n;omega
theorem YR(h:rangeI n):nbI n=nb (magI n):=by
 have:=magU h;unfold nbI;by_cases hn:n<0
 ·rw[AoO hn]at this ⊢;rw[this]
 ·rw[AoQ hn]at this ⊢;rw[this]
theorem dig_get:∀(k u i:Nat),i<k→(dig k u)[i]?=some (UInt8.ofNat (u/256^(k-1-i)))
  |0,_,_,h=>absurd h (Apk _)
  | k + 1,u,i,h=>by
    rw[dig];by_cases hi:i<k
    · rw[AoU (by rw[dig_len];exact hi),dig_get k (u/256) i hi,Are]
      have:k+1-1-i=(k-1-i)+1:=by omega
      rw[this,Aqi,Ap9]
    · have:i=k:=by omega
      subst this;rw[AoS (by rw[dig_len];exact Ao0 _),dig_len];simp
theorem pow2_256(j:Nat):2^(8*j)=256^j:=by rw[Nat.pow_mul]
def Q8(n:Int)(c:UInt8):UInt8:=if n<0 then ~~~c else c
theorem not8(c:UInt8):(~~~c).toNat=255-c.toNat:=by rw[UInt8.toNat_not];rfl
theorem Ac4(h:rangeI n){k i:Nat}(hk:k≤8)(hi:i<k):Ab4 n k i=Q8 n (UInt8.ofNat (magI n/256^(k-1-i))):=by
 have hm:=Vw h;have hu:=magU h;apply Aqq.1;unfold Ab4 Q8;rw[Arn,ZJ,pow2_256];generalize hj:k-1-i=j;have hj8:j<8:=by omega
 by_cases hn:n<0
 ·rw[AoO hn]at hu ⊢;rw[UL]at hu;rw[not8,toNat_ofNat8];have hlt:=(UInt64.ofInt n).toNat_lt;generalize(UInt64.ofInt n).toNat=U at *;generalize magI n=m at *
  match j,hj8 with
  |0,_=>simp;omega
  |1,_=>simp;omega
  |2,_=>simp;omega
  |3,_=>simp;omega
  |4,_=>simp;omega
  |5,_=>simp;omega
  |6,_=>simp;omega
  |7,_=>simp;omega
 ·rw[AoQ hn]at hu ⊢;rw[toNat_ofNat8,hu]
theorem UI(h:rangeI n):ZQ n=Qs n::(dig (nb (magI n)) (magI n)).map (Q8 n):=by
 unfold ZQ;rw[YR h];congr 1;refine ApI fun i=>?_
 by_cases hi:i<nb (magI n)
 ·rw[Ao4,Ao4,ApY hi,dig_get _ _ _ hi];simp only[App];rw[Ac4 h (AaK _) hi]
 ·rw[Apy (by simp;omega),Apy (by simp[dig_len];omega)]
theorem AgA(u:Nat)(h:u<256^8):u<256^nb u:=by
  unfold nb
  have key:∀f u,u<256^f→u<256^nbF f u:=by
    intro f
    induction f with
    |zero=>intro u h;simpa [nbF]using h
    | succ f ih=>
      intro u h;unfold nbF;split
      · rename_i e;subst e;simp
      · rename_i e
        have:=ih (u/256) (by rw[Aqi]at h;exact Aro (by rw[Ap9];exact h));rw[Aqi];omega
  exact key 8 u h
theorem Ajo(u:Nat)(h:u<256^8)(h0:u≠0):256^(nb u-1)≤u:=by
  unfold nb
  have key:∀f u,u<256^f→u≠0→256^(nbF f u-1)≤u∧0<nbF f u:=by
    intro f
    induction f with
    |zero=>intro u h h0;exact absurd (by simpa using h) h0
    | succ f ih=>
      intro u h h0;unfold nbF;rw[AoQ h0];by_cases h1:u/256=0
      · have:nbF f (u/256)=0:=by
          rw[h1];cases f with
          |zero=>rfl
          |succ f=>simp[nbF]
        rw[this];simp;omega
      · obtain⟨i1,i2⟩:=ih (u/256) (by rw[Aqi]at h;exact Aro (by rw[Ap9];exact h)) h1
        obtain⟨m,hm⟩:∃m,nbF f (u/256)=m+1:=⟨nbF f (u/256)-1,by omega⟩;rw[hm]at i1 ⊢;simp only[Arz]at i1 ⊢;refine⟨?_,by omega⟩;rw[Aqi];omega
  exact(key 8 u h h0).1
theorem AfL(h:rangeI n):Qs n=if n<0 then UInt8.ofInt (31-(nb (magI n):Int))else UInt8.ofInt (32+(nb (magI n):Int)):=by
 unfold Qs;rw[YR h]
theorem QM(v:AoG):shpV v=if v.Za=1 then(0,v.B.length==0&&v.L.length==0)else if v.Za=2 then(0,v.N==0&&v.L.length==0)else if v.Za=3 then(if v.N=0∧v.B.length=0 then shpL 0 v.L else(0,false))else(0,false):=by
 cases v with
 |mk k n b l=>unfold shpV;rfl
theorem Rj:∀(l:List AoG) (d:Int),(shpL d l).2=l.all fun x=>(shpV x).2
  |[],d=>by rw[shpL_nil];rfl
  | x::l,d=>by
    rw[shpL_cons,List.all_cons];cases h:(shpV x).2
    · rw[AoQ (by simp)];rfl
    · rw[AoO rfl,Rj l];rfl
mutual
def LV:AoG→Int
 |.mk k n b l=>if k=3 then LI 0 l+1 else LI 0 l
def LI(d:Int):List AoG→Int
 |[]=>d
 |x::l=>LI (Hn d (LV x)) l
end
mutual
theorem AcT:∀v:AoG,0≤LV v∧LV v≤szV v
  | .mk k n b l=>by
    have h:=Wb 0 l;rw[LV,szV];split<;>omega
theorem Wb:∀(d:Int) (l:List AoG),0≤d→0≤LI d l∧LI d l≤max d (szVs l)
  |d,[]=>by intro h;rw[LI];omega
  | d,x::l=>by
    intro h;have h1:=AcT x;have hm:0≤Hn d (LV x)∧Hn d (LV x)≤max d (szV x):=by unfold Hn;split<;>omega
    have h2:=Wb (Hn d (LV x)) l hm.1;rw[LI,szVs];omega
end
mutual
theorem Mj:∀v:AoG,(shpV v).2=true→LV v=(shpV v).1
  | .mk k n b l=>by
    intro h;rw[shpV]at h ⊢;rw[LV];by_cases k1:k=1
    · rw[AoO k1]at h ⊢
      have hl:l.length=0:=by simp at h;simp[h.2]
      have:l=[]:=Ao6.1 hl;subst this;rw[AoQ (by omega),LI]
    · rw[AoQ k1]at h ⊢
      by_cases k2:k=2
      · rw[AoO k2]at h ⊢
        have hl:l.length=0:=by simp at h;simp[h.2]
        have:l=[]:=Ao6.1 hl;subst this;rw[AoQ (by omega),LI]
      · rw[AoQ k2]at h ⊢
        by_cases k3:k=3
        · rw[AoO k3]at h ⊢
          rw[AoO k3];by_cases hc:n=0∧b.length=0
          · rw[AoO hc]at h ⊢
            exact RO l 0 h
          · rw[AoQ hc]at h;cases h
        · rw[AoQ k3]at h;cases h
theorem RO:∀(l:List AoG) (d:Int),(shpL d l).2=true→LI d l+1=(shpL d l).1
  |[],d=>by intro _;rw[shpL_nil,LI]
  | x :: l,d=>by
    intro h;rw[shpL_cons]at h ⊢;by_cases hx:(shpV x).2=true
    · rw[AoO hx]at h ⊢
      rw[LI,Mj x hx];exact RO l _ h
    · rw[AoQ hx]at h;cases h
end
abbrev XY:=(AoG×List UInt8)⊕Int
def Xx(n:Int):AoG:=.mk 1 n [] []
def N3(b:List UInt8):AoG:=.mk 2 0 b []
def JV(l:List AoG):AoG:=.mk 3 0 [] l
def Lu:AoG:=.mk 0 0 [] []
def rdT:List UInt8→List UInt8→XY
 |acc,[]=>.inr 5
 |acc,[c]=>.inr 5
 |acc,c::d::b=>if c≠0 then rdT (acc++[c]) (d::b)else if d=0 then .inl (N3 acc,b)else if d=255 then rdT (acc++[0]) b else .inr 4
def rdN(k:Nat)(fl:Bool):Nat→Nat→List UInt8→(Nat×List UInt8)⊕Int
 |0,u,b=>.inl (u,b)
 |m+1,u,[]=>.inr 5
 |m+1,u,c::b=>if k=m+1∧((if fl then ~~~c else c)=0∨(k=8∧(if fl then ~~~c else c)>127))then .inr 4 else rdN k fl m (u*256+(if fl then ~~~c else c).toNat) b
def R2(t:UInt8):Prop:=23≤t.toNat∧t.toNat≤40
def kOf(t:UInt8):Nat:=if t.toNat<32 then 31-t.toNat else t.toNat-32
def GJ(t:UInt8):Bool:=decide (t.toNat<32)
def rdI(t:UInt8)(b:List UInt8):XY:=match rdN (kOf t) (GJ t) (kOf t) 0 b with
 |.inl (u,r)=>.inl (Xx (if GJ t=true then -(u:Int)-1 else(u:Int)),r)
 |.inr e=>.inr e
inductive Rd:UInt8⊕List AoG→List UInt8→XY→Prop
  |int (t:UInt8) (b:List UInt8) (h:R2 t):Rd (.inl t) b (rdI t b)
  |text (b:List UInt8):Rd (.inl 48) b (rdT [] b)
  |lst (b:List UInt8) (o:XY) (h:Rd (.inr []) b o):Rd (.inl 64) b o
  |bad (t:UInt8) (b:List UInt8) (h:¬R2 t) (h1:t≠48) (h2:t≠64):Rd (.inl t) b (.inr 4)
  |lend (acc:List AoG):Rd (.inr acc) [] (.inr 5)
  |lfin (acc:List AoG) (b:List UInt8):Rd (.inr acc) (0::b) (.inl (JV acc,b))
  |lerr (acc:List AoG) (c:UInt8) (b:List UInt8) (e:Int) (hc:c≠0) (h:Rd (.inl c) b (.inr e)):Rd (.inr acc) (c::b) (.inr e)
  |lstep (acc:List AoG) (c:UInt8) (b:List UInt8) (v:AoG) (b':List UInt8) (o:XY) (hc:c≠0) (h:Rd (.inl c) b (.inl (v,b'))) (h2:Rd (.inr (acc++[v])) b' o):Rd (.inr acc) (c::b) o
theorem Ahn{o:XY}(h:Rd s b o):∀{o':XY},Rd s b o'→o=o':=by
  induction h with
  | int t b h=>
    intro o' h';cases h' with
    |int=>rfl
    |text=>exact absurd h.2 (by decide)
    |lst=>exact absurd h.2 (by decide)
    |bad _ _ h1=>exact(h1 h).elim
  | text b=>
    intro o' h';cases h' with
    |int _ _ h=>exact absurd h.2 (by decide)
    |text=>rfl
    |bad _ _ _ h1=>exact(h1 rfl).elim
  | lst b o h ih=>
    intro o' h';cases h' with
    |int _ _ h=>exact absurd h.2 (by decide)
    |lst _ _ h2=>exact ih h2
    |bad _ _ _ _ h2=>exact(h2 rfl).elim
  | bad t b h h1 h2=>
    intro o' h';cases h' with
    |int _ _ h'=>exact(h h').elim
    |text=>exact(h1 rfl).elim
    |lst=>exact(h2 rfl).elim
    |bad=>rfl
  |lend acc=>intro o' h';cases h';rfl
  | lfin acc b=>
    intro o' h';cases h' with
    |lfin=>rfl
    |lerr _ _ _ _ hc=>exact(hc rfl).elim
    |lstep _ _ _ _ _ _ hc=>exact(hc rfl).elim
  | lerr acc c b e hc h ih=>
    intro o' h';cases h' with
    |lfin=>exact(hc rfl).elim
    |lerr _ _ _ _ _ h2=>exact ApW _ (Sum.inr.inj (ih h2))
    |lstep _ _ _ _ _ _ _ h2=>cases ih h2
  | lstep acc c b v b' o hc h h2 ih ih2=>
    intro o' h';cases h' with
    |lfin=>exact(hc rfl).elim
    |lerr _ _ _ _ _ h3=>cases ih h3
    |lstep _ _ _ _ _ _ _ h3 h4=>cases ih h3;exact ih2 h4
theorem AcN{acc:List UInt8}(hc:c≠0):rdT acc (c::b)=rdT (acc++[c]) b:=by
 cases b with
 |nil=>simp[rdT]
 |cons d b=>rw[rdT,AoO hc]
theorem Vi:∀(a acc r:List UInt8),rdT acc (Hy a++0::0::r)=.inl (N3 (acc++a),r)
  |[],acc,r=>by simp[Hy,rdT]
  | c :: a,acc,r=>by
    by_cases hc:c=0
    · subst hc
      rw[Hy,AoO rfl];show rdT acc (0::255::(Hy a++0::0::r))=_;rw[rdT,AoQ (by simp),AoQ (by decide),AoO rfl,Vi a (acc++[0]) r];simp
    · rw[Hy,AoQ hc]
      show rdT acc (c::(Hy a++0::0::r))=_;rw[AcN hc,Vi a (acc++[c]) r];simp
theorem TU:∀(acc b:List UInt8) {v:AoG} {r:List UInt8},rdT acc b=.inl (v,r)→∃a,v=N3 (acc++a)∧b=Hy a++0::0::r
  |acc,[],v,r,h=>by simp[rdT]at h
  |acc,[c],v,r,h=>by simp[rdT]at h
  | acc,c :: d::b,v,r,h=>by
    rw[rdT]at h;by_cases hc:c=0
    · rw[AoQ (by simp[hc])]at h
      by_cases hd:d=0
      · rw[AoO hd]at h
        cases h;exact⟨[],by simp,by simp[Hy,hc,hd]⟩
      · rw[AoQ hd]at h
        by_cases hd2:d=255
        · rw[AoO hd2]at h
          obtain⟨a,e1,e2⟩:=TU _ b h;exact⟨0::a,by rw[e1];simp,by simp[Hy,hc,hd2,e2]⟩
        · rw[AoQ hd2]at h;cases h
    · rw[AoO hc]at h
      obtain⟨a,e1,e2⟩:=TU _ (d::b) h;exact⟨c::a,by rw[e1];simp,by simp[Hy,hc,e2]⟩
theorem UY:∀(a acc p:List UInt8),p.length<(Hy a).length+2→p <+: Hy a++[0,0]→rdT acc p=.inr 5
  |a,acc,[],_,_=>by simp[rdT]
  |a,acc,[c],_,_=>by simp[rdT]
  | [],acc,c::d::p,hl,_=>by
    simp only[Hy,Ape,Apr]at hl;omega
  | x :: a,acc,c::d::p,hl,hp=>by
    by_cases hx:x=0
    · subst hx
      rw[Hy,AoO rfl]at hl hp;simp only[Ao5,AqY]at hp;obtain⟨rfl,rfl,hp⟩:=hp;rw[rdT,AoQ (by simp),AoQ (by decide),AoO rfl];exact UY a _ p (by simp at hl;omega) hp
    · rw[Hy,AoQ hx]at hl hp
      simp only[Ao5,AqY]at hp;obtain⟨rfl,hp⟩:=hp;rw[rdT,AoO hx];exact UY a _ (d::p) (by simp at hl ⊢;omega) hp
def fl8(fl:Bool)(c:UInt8):UInt8:=if fl then ~~~c else c
theorem Tl(fl:Bool)(c:UInt8):fl8 fl (fl8 fl c)=c:=by cases fl<;>simp[fl8]
theorem Kn{k:Nat}{fl:Bool}{u:Nat}:rdN k fl (m+1) u (c::b)=if k=m+1∧(fl8 fl c=0∨(k=8∧fl8 fl c>127))then .inr 4 else rdN k fl m (u*256+(fl8 fl c).toNat) b:=rfl
theorem Ake(u:Nat):∀d:List UInt8,d.foldl (fun a c=>a*256+c.toNat) u=u*256^d.length+valD d:=by
 intro d;refine revInd (p:=fun d=>d.foldl (fun a c=>a*256+c.toNat) u=u*256^d.length+valD d) (by simp[valD]) (fun l c ih=>?_) d;rw[ArL,Aq8,List.foldl_nil,ih,valD_app,Ao7,AqX,Aqi];have:u*(256^l.length*256)=u*256^l.length*256:=by rw[Arp]
 omega
theorem Aaz{k:Nat}{fl:Bool}:∀(d:List UInt8) (u:Nat) (r:List UInt8),(d.length=k→∀c t,d=c::t→¬(c=0∨(k=8∧c>127)))→d.length≤k →rdN k fl d.length u (d.map (fl8 fl)++r)=.inl (d.foldl (fun a c=>a*256+c.toNat) u,r)
  |[],u,r,_,_=>rfl
  | c::d,u,r,h,hk=>by
    show rdN k fl (d.length+1) u (fl8 fl c::(d.map (fl8 fl)++r))=_;rw[Kn,Tl,AoQ (fun hh=>h (by simpa using hh.1.symm) c d rfl hh.2),Aaz d _ r (fun e=>by simp at hk;omega) (by simp at hk;omega)];rfl
theorem Aa8{k:Nat}{fl:Bool}:∀(m u:Nat) (b:List UInt8) {x:Nat} {r:List UInt8},rdN k fl m u b=.inl (x,r) →∃d:List UInt8,d.length=m∧b=d.map (fl8 fl)++r∧x=d.foldl (fun a c=>a*256+c.toNat) u∧(k=m→∀c t,d=c::t→¬(c=0∨(k=8∧c>127)))
  | 0,u,b,x,r,h=>by
    cases h;exact⟨[],rfl,rfl,rfl,fun _ c t e=>by cases e⟩
  |m+1,u,[],x,r,h=>by cases h
  | m + 1,u,c::b,x,r,h=>by
    rw[Kn]at h;split at h
    · cases h
    · rename_i hc
      obtain⟨d,e1,e2,e3,e4⟩:=Aa8 m _ b h;refine⟨fl8 fl c::d,by simp[e1],by simp[e2,Tl],by simp[e3],fun hk c' t e=>?_⟩;cases e;exact fun hh=>hc ⟨hk,hh⟩
theorem YU{k:Nat}{fl:Bool}:∀(d:List UInt8) (u:Nat) (p:List UInt8),(d.length=k→∀c t,d=c::t→¬(c=0∨(k=8∧c>127)))→d.length≤k→p.length<d.length→p <+: d.map (fl8 fl)→rdN k fl d.length u p=.inr 5
  |[],u,p,_,_,hl,_=>by simp at hl
  |c::d,u,[],_,_,_,_=>rfl
  | c::d,u,x::p,h,hk,hl,hp=>by
    simp only[Ap1,AqY]at hp;obtain⟨rfl,hp⟩:=hp;show rdN k fl (d.length+1) u (fl8 fl c::p)=_;rw[Kn,Tl,AoQ (fun hh=>h (by simpa using hh.1.symm) c d rfl hh.2)];exact YU d _ p (fun e=>by simp at hk;omega) (by simp at hk;omega) (by simpa using hl) hp
theorem T7(h:rangeI n):(Qs n).toNat=if n<0 then 31-nb (magI n)else 32+nb (magI n):=by
 have h8:=AaK (magI n);rw[AfL h];by_cases hn:n<0
 ·rw[AoO hn,AoO hn,UInt8.ofInt,Arb];omega
 ·rw[AoQ hn,AoQ hn,UInt8.ofInt,Arb];omega
theorem T6(h:rangeI n):R2 (Qs n)∧kOf (Qs n)=nb (magI n)∧GJ (Qs n)=decide (n<0):=by
 have h8:=AaK (magI n);have ht:=T7 h;unfold R2 kOf GJ;by_cases hn:n<0
 ·rw[AoO hn]at ht;rw[ht];refine⟨by omega,?_,?_⟩
  ·rw[AoO (by omega)];omega
  ·simp[hn];omega
 ·rw[AoQ hn]at ht;rw[ht];refine⟨by omega,?_,?_⟩
  ·rw[AoQ (by omega)];omega
  ·simp[hn]
theorem ZP:(if n<0 then -((magI n:Nat):Int)-1 else((magI n:Nat):Int))=n:=by
 unfold magI;by_cases hn:n<0
 ·rw[AoO hn,AoO hn];omega
 ·rw[AoQ hn,AoQ hn];omega
theorem QL(n:Int):Q8 n=fl8 (decide (n<0)):=by
 funext c;unfold Q8 fl8;by_cases hn:n<0<;>simp[hn]
theorem Wy{u:Nat}(hu:u<9223372036854775808){t:List UInt8}(h:dig (nb u) u=c::t):¬(c=0∨(nb u=8∧c>127)):=by
 have hu8:u<256^8:=Aqh hu (by decide);have hl:=dig_len (nb u) u;rw[h,Ape]at hl;have hv:=valD_dig (nb u) u (AgA u hu8);rw[h]at hv
 have e:valD (c::t)=c.toNat*256^t.length+valD t:=by
  unfold valD;rw[Aq8,Ake];simp[valD]
 rw[e]at hv;have hvt:=valD_lt t;have h0:u≠0:=fun e=>by rw[e,ZS]at hl;omega
 have hge:=Ajo u hu8 h0;rw[show nb u-1=t.length by omega]at hge;rintro(rfl|⟨h8,hc⟩)
 ·simp at hv;omega
 ·rw[h8]at hl;have ht:t.length=7:=by omega
  rw[ht]at hv;have:c.toNat>127:=by rw[AqP,Aqc]at hc;exact hc
  have h7:(256:Nat)^7=72057594037927936:=by decide
  rw[h7]at hv;omega
theorem Aev(h:rangeI n)(r:List UInt8):rdI (Qs n) ((dig (nb (magI n)) (magI n)).map (Q8 n)++r)=.inl (Xx n,r):=by
 obtain⟨_,hk,hn⟩:=T6 h;have hm:=Vw h;unfold rdI;rw[hk,hn,QL];have:=Aaz (k:=nb (magI n)) (fl:=decide (n<0)) (dig (nb (magI n)) (magI n)) 0 r (fun _ c t e=>Wy hm e) (by rw[dig_len];exact Ao0 _);rw[dig_len]at this;rw[this];simp only;rw[Ake,Aq5,ApG,valD_dig _ _ (AgA _ (Aqh hm (by decide)))];have hb:=ZP (n:=n);by_cases hn0:n<0
 ·rw[AoO hn0]at hb;simp[hn0,hb]
 ·rw[AoQ hn0]at hb;simp[hn0,hb]
theorem AfI(h:rangeI n){p:List UInt8}(hl:p.length<nb (magI n))(hp:p <+: (dig (nb (magI n)) (magI n)).map (Q8 n)):rdI (Qs n) p=.inr 5:=by
 obtain⟨_,hk,hn⟩:=T6 h;have hm:=Vw h;unfold rdI;rw[hk,hn];rw[QL]at hp;have:=YU (k:=nb (magI n)) (fl:=decide (n<0)) (dig (nb (magI n)) (magI n)) 0 p (fun _ c t e=>Wy hm e) (by rw[dig_len];exact Ao0 _) (by rw[dig_len];exact hl) hp;rw[dig_len]at this;rw[this]
theorem Akh{d:List UInt8}(hd:d.length≤8)(h0:∀c t,d=c::t→c≠0):nb (valD d)=d.length:=by
  have hlt:=valD_lt d;have h8:valD d<256^8:=Ap3 hlt (AqG (by decide) hd);cases d with
  |nil=>rfl
  | cons c t=>
    have hc:=h0 c t rfl;have hc':c.toNat≠0:=fun e=>hc (Aqq.1 (by rw[e];rfl))
    have e:valD (c::t)=c.toNat*256^t.length+valD t:=by
      show List.foldl _ _ _=_;rw[Aq8,Ake];simp[valD]
    have hge:256^t.length≤valD (c::t):=by
      rw[e];have:1*256^t.length≤c.toNat*256^t.length:=AoX _ (by omega);omega
    have h1:=AgA _ h8
    have hnz:valD (c::t)≠0:=by
      have:0<256^t.length:=Nat.pow_pos (by decide);omega
    have h2:=Ajo _ h8 hnz;rw[Ape]at hlt ⊢;have a1:t.length<nb (valD (c::t)):=(ArN (by decide:1<256)).1 (Nat.lt_of_le_of_lt hge h1);have a2:nb (valD (c::t))-1<t.length+1:=(ArN (by decide:1<256)).1 (Nat.lt_of_le_of_lt h2 hlt);omega
theorem Aa0{t:UInt8}{r:List UInt8}(ht:R2 t)(h:rdI t b=.inl (v,r)):∃n,rangeI n∧v=Xx n∧t::b=ZQ n++r:=by
  unfold rdI at h;have hk:kOf t≤8:=by unfold kOf;obtain⟨h1,h2⟩:=ht;split<;>omega
  split at h
  case h_2=>cases h
  rename_i u r' hr;cases h;obtain⟨d,hd,hb,hu,hc⟩:=Aa8 _ _ _ hr;rw[Ake,Aq5,ApG]at hu;have hcc:=hc rfl;have hnb:nb (valD d)=d.length:=Akh (by omega) (fun c t e=>fun e0=>hcc c t e (.inl e0));have hlt:=valD_lt d
  have hlt63:valD d<9223372036854775808:=by
    rcases ApF d.length 8 with h7|h8
    · have:(256:Nat)^d.length≤256^7:=AqG (by decide) (by omega)
      have h7':(256:Nat)^7=72057594037927936:=by decide
      omega
    · cases d with
      |nil=>simp at h8
      | cons c t=>
        have h3:=hcc c t rfl;have hl:t.length=7:=by simp at hd h8;omega
        have hcv:¬c>127:=fun hh=>h3 (.inr ⟨by simp at hd;omega,hh⟩)
        have hcn:c.toNat≤127:=by
          rw[AqP,Aqc]at hcv;have:(127:UInt8).toNat=127:=rfl;omega
        have e:valD (c::t)=c.toNat*256^t.length+valD t:=by
          show List.foldl _ _ _=_;rw[Aq8,Ake];simp[valD]
        have hvt:=valD_lt t;have h7':(256:Nat)^7=72057594037927936:=by decide
        rw[hl,h7']at hvt;rw[e,hl,h7'];omega
  subst hu;have hdd:=dig_valD d;rw[←hnb]at hdd;by_cases hneg:GJ t=true
  · rw[AoO hneg]at *
    have h32:t.toNat<32:=by simpa [GJ]using hneg
    refine⟨-(valD d:Int)-1,⟨by omega,by omega⟩,rfl,?_⟩;have hm:magI (-(valD d:Int)-1)=valD d:=by unfold magI;rw[AoO (by omega)];omega
    rw[UI ⟨by omega,by omega⟩,hm,hdd,hb,QL,hneg,Ao5];have e1:decide (-(valD d:Int)-1<0)=true:=by simp;omega
    rw[e1];congr 1;apply Aqq.1;rw[T7 ⟨by omega,by omega⟩,AoO (by omega),hm,hnb,hd];unfold kOf;rw[AoO h32];obtain⟨q1,q2⟩:=ht;omega
  · have hneg':GJ t=false:=by simpa using hneg
    rw[AoQ hneg]at *;have h32:¬t.toNat<32:=by simpa [GJ]using hneg
    refine⟨(valD d:Int),⟨by omega,by omega⟩,rfl,?_⟩;have hm:magI (valD d:Int)=valD d:=by unfold magI;rw[AoQ (by omega)];omega
    rw[UI ⟨by omega,by omega⟩,hm,hdd,hb,QL,hneg',Ao5];have e1:decide ((valD d:Int)<0)=false:=by simp
    rw[e1];congr 1;apply Aqq.1;rw[T7 ⟨by omega,by omega⟩,AoQ (by omega),hm,hnb,hd];unfold kOf;rw[AoQ h32];obtain⟨q1,q2⟩:=ht;omega
def wfV(v:AoG):Prop:=(shpV v).2=true
theorem wf_list:wfV (JV l)↔∀x∈l,wfV x:=by
 unfold wfV JV;rw[QM];show((if(3:Int)=1 then _ else if(3:Int)=2 then _ else if(3:Int)=3 then(if(0:Int)=0∧([]:List UInt8).length=0 then shpL 0 l else(0,false))else(0,false):Int×Bool).2=true)↔_;rw[AoQ (by decide),AoQ (by decide),AoO rfl,AoO ⟨rfl,rfl⟩,Rj,AoZ]
theorem wf_cases(h:wfV v):v=Xx v.N∨v=N3 v.B∨(v=JV v.L∧∀x∈v.L,wfV x):=by
  unfold wfV at h;rw[QM]at h;cases v with
  | mk k n b l=>
    change (if k=1 then((0:Int),b.length==0&&l.length==0)else if k=2 then(0,n==0&&l.length==0)else if k=3 then(if n=0∧b.length=0 then shpL 0 l else(0,false))else(0,false)).2=true at h
    by_cases h1:k=1
    · rw[AoO h1]at h
      simp at h;left;rw[h1,h.1,h.2];rfl
    · rw[AoQ h1]at h
      by_cases h2:k=2
      · rw[AoO h2]at h
        simp at h;right;left;rw[h2,h.1,h.2];rfl
      · rw[AoQ h2]at h
        by_cases h3:k=3
        · rw[AoO h3]at h
          by_cases hc:n=0∧b.length=0
          · rw[AoO hc,Rj,AoZ]at h
            right;right;have hb:b=[]:=Ao6.1 hc.2;subst h3;obtain⟨rfl,_⟩:=hc;subst hb;exact⟨rfl,h⟩
          · rw[AoQ hc]at h;cases h
        · rw[AoQ h3]at h;cases h
theorem AhY(n:Int):wfV (Xx n):=by unfold wfV Xx;rw[QM];rfl
theorem Afr(b:List UInt8):wfV (N3 b):=by unfold wfV N3;rw[QM];rfl
theorem Uh(n:Int):encV (Xx n)=ZQ n:=by rw[NO];rfl
theorem Qz(b:List UInt8):encV (N3 b)=48::(Hy b++[0,0]):=by rw[NO];rfl
theorem QV(l:List AoG):encV (JV l)=64::(HZ l++[0]):=by rw[NO];rfl
theorem Agw(h:okV (JV l)):∀x∈l,okV x:=((okV_eq _).1 h).2.2
theorem rng(n:Nat)(h:n≤10):rangeI (n:Int):=⟨by omega,by omega⟩
theorem Abr(h:∀x∈l,okV x):okV (JV l):=(okV_eq _).2 ⟨rng 3 (by decide),rng 0 (by decide),h⟩
theorem AeO(h:rangeI n):okV (Xx n):=(okV_eq _).2 ⟨rng 1 (by decide),h,fun x hx=>by cases hx⟩
theorem Ack(b:List UInt8):okV (N3 b):=(okV_eq _).2 ⟨rng 2 (by decide),rng 0 (by decide),fun x hx=>by cases hx⟩
theorem AhT(h:okV (Xx n)):rangeI n:=((okV_eq _).1 h).2.1
def AfD(v:AoG):Prop:=∃t tl,encV v=t::tl∧t≠0∧(∀r,Rd (.inl t) (tl++r) (.inl (v,r)))∧∀p,p.length<tl.length→p <+: tl→Rd (.inl t) p (.inr 5)
theorem Ab6(h:rangeI n):AfD (Xx n):=by
 obtain⟨hi,_,_⟩:=T6 h;refine⟨Qs n,(dig (nb (magI n)) (magI n)).map (Q8 n),by rw[Uh,UI h],?_,fun r=>?_,fun p hl hp=>?_⟩
 ·intro e;rw[e]at hi;exact absurd hi.1 (by decide)
 ·have:=Rd.int (Qs n) ((dig (nb (magI n)) (magI n)).map (Q8 n)++r) hi;rwa[Aev h r]at this
 ·have:=Rd.int (Qs n) p hi;rwa[AfI h (by simpa [dig_len]using hl) hp]at this
theorem Aaj(b:List UInt8):AfD (N3 b):=by
 refine⟨48,Hy b++[0,0],Qz b,by decide,fun r=>?_,fun p hl hp=>?_⟩
 ·have:=Rd.text ((Hy b++[0,0])++r);have e:=Vi b [] r;have e2:(Hy b++[0,0])++r=Hy b++0::0::r:=by simp
  rw[e2]at this ⊢;rw[e]at this;exact this
 ·have:=Rd.text p;rwa[UY b [] p (by simpa using hl) hp]at this
theorem PG:∀(l:List AoG),(∀x∈l,AfD x)→(∀acc r,Rd (.inr acc) (HZ l++0::r) (.inl (JV (acc++l),r))) ∧∀acc p,p.length<(HZ l).length+1→p <+: HZ l++[0]→Rd (.inr acc) p (.inr 5)
  |[],_=>⟨fun acc r=>by simpa [HZ]using Rd.lfin acc r,fun acc p hl hp=>by
      have:p=[]:=Ao6.1 (by simp[HZ]at hl;exact hl ▸ rfl);subst this;exact Rd.lend acc⟩
  | x :: l,h=>by
    obtain⟨h1,h2⟩:=PG l (fun y hy=>h y (Api _ hy));obtain⟨t,tl,e,ht,g1,g2⟩:=h x Ao2;constructor
    · intro acc r
      have e2:HZ (x::l)++0::r=t::(tl++(HZ l++0::r)):=by rw[HZ,e];simp
      rw[e2];refine Rd.lstep acc t _ x _ _ ht (g1 _) ?_;have:=h1 (acc++[x]) r;simpa using this
    · intro acc p hl hp
      cases p with
      |nil=>exact Rd.lend acc
      | cons c p=>
        have e2:HZ (x::l)++[0]=t::(tl++(HZ l++[0])):=by rw[HZ,e];simp
        rw[e2,AqY]at hp;obtain⟨rfl,hp⟩:=hp
        have hl2:p.length<tl.length+(HZ l).length+1:=by
          rw[HZ,e]at hl;simp at hl;omega
        by_cases hlt:p.length<tl.length
        · refine Rd.lerr acc c p 5 ht (g2 p hlt ?_)
          exact Arf hp (List.prefix_append _ _) (by omega)
        · have htp:tl <+: p:=Arf (List.prefix_append _ _) hp (by omega)
          obtain⟨q,rfl⟩:=htp;have hq:q <+: HZ l++[0]:=(List.prefix_append_right_inj tl).1 hp;refine Rd.lstep acc c _ x q _ ht (g1 q) ?_;exact h2 _ q (by simp at hl2;omega) hq
theorem Yh(h:∀x∈l,AfD x):AfD (JV l):=by
 obtain⟨h1,h2⟩:=PG l h;refine⟨64,HZ l++[0],QV l,by decide,fun r=>?_,fun p hl hp=>?_⟩
 ·refine Rd.lst _ _ ?_;have:=h1 [] r;simpa using this
 ·exact Rd.lst _ _ (h2 [] p (by simpa using hl) hp)
mutual
theorem Aal:∀v:AoG,wfV v→okV v→AfD v
  | .mk k n b l=>by
    intro h ok;rcases wf_cases h with e|e|⟨e,hl⟩
    · rw[e]at ok ⊢
      exact Ab6 (AhT ok)
    · rw[e]
      exact Aaj _
    · rw[e]at ok ⊢
      exact Yh (VJ l hl (Agw ok))
theorem VJ:∀l:List AoG,(∀x∈l,wfV x)→(∀x∈l,okV x)→∀x∈l,AfD x
  |[]=>fun _ _ x hx=>by cases hx
  | y :: l=>fun h ok x hx=>by
    rcases Ao9.1 hx with hx|hx
    · rw[hx]
      exact Aal y (h y Ao2) (ok y Ao2)
    · exact VJ l (fun z hz=>h z (Api _ hz)) (fun z hz=>ok z (Api _ hz)) x hx
end
def InvR:UInt8⊕List AoG→List UInt8→XY→Prop
 |.inl t,b,.inl (v,r)=>wfV v∧okV v∧t::b=encV v++r
 |.inr acc,b,.inl (v,r)=>∃l,v=JV (acc++l)∧(∀x∈l,wfV x∧okV x)∧b=HZ l++0::r
 |_,_,.inr e=>e=4∨e=5
theorem YO{k:Nat}{fl:Bool}:∀(m u:Nat) (b:List UInt8) {e:Int},rdN k fl m u b=.inr e→e=4∨e=5
  |0,u,b,e,h=>by cases h
  |m+1,u,[],e,h=>by cases h;exact .inr rfl
  | m+1,u,c::b,e,h=>by
    rw[Kn]at h;split at h
    · cases h;exact .inl rfl
    · exact YO m _ b h
theorem Um:∀(acc b:List UInt8) {e:Int},rdT acc b=.inr e→e=4∨e=5
  |acc,[],e,h=>by simp[rdT]at h;exact .inr h.symm
  |acc,[c],e,h=>by simp[rdT]at h;exact .inr h.symm
  | acc,c::d::b,e,h=>by
    rw[rdT]at h;split at h
    · exact Um _ (d::b) h
    · split at h
      · cases h
      · split at h
        · exact Um _ b h
        · cases h;exact .inl rfl
theorem RW{o:XY}(h:Rd s b o):InvR s b o:=by
  induction h with
  | int t b h=>
    cases hr:rdI t b with
    | inl x=>
      obtain⟨v,r⟩:=x;obtain⟨n,hn,rfl,e⟩:=Aa0 h hr;exact⟨AhY n,AeO hn,by rw[Uh];exact e⟩
    | inr e=>
      unfold rdI at hr;split at hr
      · cases hr
      · rename_i e' he;cases hr;exact YO _ _ _ he
  | text b=>
    cases hr:rdT [] b with
    | inl x=>
      obtain⟨v,r⟩:=x;obtain⟨a,rfl,e⟩:=TU _ _ hr;refine⟨Afr _,Ack _,?_⟩;rw[Qz,e];simp
    |inr e=>exact Um _ _ hr
  | lst b o h ih=>
    cases o with
    | inl x=>
      obtain⟨v,r⟩:=x;obtain⟨l,rfl,hl,e⟩:=ih;refine⟨?_,?_,?_⟩
      · exact wf_list.2 (fun x hx=>(hl x (by simpa using hx)).1)
      · exact Abr (fun x hx=>(hl x (by simpa using hx)).2)
      · rw[ApC,QV,e];simp
    |inr e=>exact ih
  |bad=>exact .inl rfl
  |lend=>exact .inr rfl
  |lfin acc b=>exact⟨[],by simp,fun x hx=>(by cases hx),by simp[HZ]⟩
  |lerr acc c b e hc h ih=>exact ih
  | lstep acc c b v b' o hc h h2 ih ih2=>
    cases o with
    | inl x=>
      obtain⟨w,r⟩:=x;obtain⟨l,rfl,hl,e⟩:=ih2;obtain⟨w1,w2,w3⟩:=ih;refine⟨v::l,by simp,fun x hx=>?_,?_⟩
      · rcases Ao9.1 hx with rfl|hx
        · exact⟨w1,w2⟩
        · exact hl x hx
      · rw[w3,HZ,e];simp
    |inr e=>exact ih2
theorem AaB(v:AoG):0<(encV v).length:=by
 rw[NO];split
 ·rw[QH];omega
 ·split<;>simp
theorem LZ:∀(n:Nat) (s:UInt8⊕List AoG) (b:List UInt8),2*b.length+(match s with|.inl _=>1|.inr _=>0)<n→∃o,Rd s b o
  |0,s,b,h=>absurd h (Apk _)
  | n + 1,.inl t,b,h=>by
    by_cases hi:R2 t
    · exact⟨_,Rd.int t b hi⟩
    · by_cases h1:t=48
      · subst h1;exact⟨_,Rd.text b⟩
      · by_cases h2:t=64
        · subst h2
          obtain⟨o,ho⟩:=LZ n (.inr []) b (by simp at h ⊢;omega);exact⟨o,Rd.lst b o ho⟩
        · exact⟨_,Rd.bad t b hi h1 h2⟩
  |n+1,.inr acc,[],h=>⟨_,Rd.lend acc⟩
  | n + 1,.inr acc,c::b,h=>by
    by_cases hc:c=0
    · subst hc;exact⟨_,Rd.lfin acc b⟩
    · obtain⟨o,ho⟩:=LZ n (.inl c) b (by simp at h ⊢;omega)
      cases o with
      |inr e=>exact⟨_,Rd.lerr acc c b e hc ho⟩
      | inl x=>
        obtain⟨v,b'⟩:=x;have hi:c::b=encV v++b':=(RW ho).2.2
        have hl:b.length+1=(encV v).length+b'.length:=by
          have:=ApW List.length hi;simpa using this
        have hp:=AaB v;obtain⟨o2,ho2⟩:=LZ n (.inr (acc++[v])) b' (by simp at h ⊢;omega);exact⟨o2,Rd.lstep acc c b v b' o2 hc ho ho2⟩
abbrev CR:=(AoG×AoJ)⊕(Int×AoJ)
def oc:XY→CR→Prop
 |.inl (v,r),x=>x=.inl (v,⟨r⟩)
 |.inr e,x=>∃d,x=.inr (e,d)
theorem Mg:A7 ⟨[]⟩=some (.inr (5,⟨[]⟩)):=rfl
theorem DQ(c:UInt8)(b:List UInt8):A7 ⟨c::b⟩=some (.inl (c,⟨b⟩)):=by
 unfold A7;rw[AoQ (by simp;omega),AoO (show InR 0 (c::b).length from⟨by decide,by simp⟩),AoO (show InB 1 (c::b).length from⟨by decide,by simp⟩)];simp[lt1,nth]
theorem Kw{V X:Type}{f:V→Option (V⊕X)}{v v':V}(h:f v=some (.inl v')):Iv f (m+1) v=Iv f m v':=by
 rw[Iv,h]
theorem DR{V X:Type}{f:V→Option (V⊕X)}{v:V}{x:X}(h:f v=some (.inr x)):Iv f (m+1) v=some x:=by
 rw[Iv,h]
theorem K3:∀(b acc:List UInt8) (m:Nat),b.length<m→b.length+acc.length≤1000000000→∃x,Iv (fun(v:List UInt8×List UInt8)=>Aw v.1 v.2) m (b,acc)=some x∧oc (rdT acc b) x
  |b,acc,0,h,_=>absurd h (Apk _)
  |[],acc,m+1,_,_=>⟨_,DR (show Aw [] acc=some (.inr (.inr (5,⟨[]⟩)))from rfl),by simp[rdT,oc]⟩
  | [c],acc,m+1,h,hs=>by
    by_cases hc:c=0
    · subst hc
      refine⟨.inr (5,⟨[]⟩),DR ?_,by simp[rdT,oc]⟩;show Aw [0] acc=_;unfold Aw;rw[DQ];refine(Au rfl).trans ?_;simp only;rw[AoQ (by decide),Mg];rfl
    · obtain⟨x,hx,hq⟩:=K3 [] (acc++[c]) m (by simp at h ⊢;omega) (by simp at hs ⊢;omega)
      refine⟨x,(Kw ?_).trans hx,by simpa [rdT]using hq⟩;show Aw [c] acc=_;unfold Aw;rw[DQ];refine(Au rfl).trans ?_;simp only;rw[AoO (by simpa using hc),AoO (Ow (by simp at hs;omega))];rfl
  | c :: d::b,acc,m+1,h,hs=>by
    by_cases hc:c=0
    · have e0:Aw (c::d::b) acc=if(d==0)then some (.inr (.inl (N3 acc,⟨b⟩)))else if(d==255)then some (.inl (b,acc++[0]))else some (.inr (.inr (4,⟨b⟩))):=by
        subst hc;unfold Aw;rw[DQ];refine(Au rfl).trans ?_;simp only;rw[AoQ (by decide),DQ];refine(Au rfl).trans ?_;simp only;by_cases hd:d=0
        · have p:(d==0)=true:=by simp[hd]
          rw[AoO p,AoO p];rfl
        · have p:¬(d==0)=true:=by simpa using hd
          rw[AoQ p,AoQ p];by_cases hd2:d=255
          · have q:(d==255)=true:=by simp[hd2]
            rw[AoO q,AoO q,AoO (Ow (by simp at hs;omega))];rfl
          · have q:¬(d==255)=true:=by simpa using hd2
            rw[AoQ q,AoQ q];rfl
      rw[rdT,AoQ (by simp[hc])];by_cases hd:d=0
      · rw[AoO (by simp[hd])]at e0
        rw[AoO hd];exact⟨_,DR e0,rfl⟩
      · rw[AoQ (by simpa using hd)]at e0
        rw[AoQ hd];by_cases hd2:d=255
        · rw[AoO (by simp[hd2])]at e0
          rw[AoO hd2];obtain⟨x,hx,hq⟩:=K3 b (acc++[0]) m (by simp at h ⊢;omega) (by simp at hs ⊢;omega);exact⟨x,(Kw e0).trans hx,hq⟩
        · rw[AoQ (by simpa using hd2)]at e0
          rw[AoQ hd2];exact⟨_,DR e0,⟨_,rfl⟩⟩
    · rw[rdT,AoO hc]
      obtain⟨x,hx,hq⟩:=K3 (d::b) (acc++[c]) m (by simp at h ⊢;omega) (by simp at hs ⊢;omega);refine⟨x,(Kw ?_).trans hx,hq⟩;show Aw (c::d::b) acc=_;unfold Aw;rw[DQ];refine(Au rfl).trans ?_;simp only;rw[AoO (by simpa using hc),AoO (Ow (by simp at hs;omega))];rfl
def flB(fl:Bool):UInt8:=if fl then 255 else 0
theorem AhF(fl:Bool)(c:UInt8):c ^^^ flB fl=fl8 fl c:=by
 cases fl
 ·simp[flB,fl8]
 ·unfold flB fl8;rw[AoO rfl,AoO rfl];apply UInt8.toBitVec_inj.1;show c.toBitVec ^^^ BitVec.allOnes 8 = ~~~c.toBitVec;exact BitVec.xor_allOnes
theorem shl_or(u:UInt64)(x:UInt8)(h:u.toNat<256^7):(Fs u (8:UInt64).toNat ||| x.toUInt64).toNat=u.toNat*256+x.toNat:=by
 have hx:=x.toNat_lt
 have e1:(Fs u (8:UInt64).toNat).toNat=2^8*u.toNat:=by
  show(u.toBitVec <<< (8:Nat)).toNat=_;rw[BitVec.toNat_shiftLeft,Ari,ApS]
  ·show u.toNat*2^8=_;omega
  ·have:(256:Nat)^7=72057594037927936:=by decide
   show u.toNat*2^8<2^64;omega
 rw[UInt64.toNat_or,e1,UInt8.toNat_toUInt64,←Nat.two_pow_add_eq_or_of_lt (by omega)];omega
abbrev IX:=(UInt64×List UInt8)⊕((UInt64×List UInt8)⊕CR)
def ic:(Nat×List UInt8)⊕Int→IX→Prop
 |.inl (n,r),x=>∃u:UInt64,u.toNat=n∧x=.inl (u,r)
 |.inr e,x=>∃d,x=.inr (.inr (.inr (e,d)))
theorem VK{k:Nat}(hk:k≤8)(fl:Bool):∀(j:Nat) (u:UInt64) (b:List UInt8) (m:Nat),j≤k→j<m→u.toNat<256^(k-j) →∃x,Iv (fun(v:UInt64×Int×List UInt8)=>A2 (k:Int) (flB fl) v.1 v.2.1 v.2.2) m (u,((k-j:Nat):Int),b)=some x∧ic (rdN k fl j u.toNat b) x
  |j,u,b,0,_,h,_=>absurd h (Apk _)
  | 0,u,b,m+1,_,_,_=>by
    refine⟨.inl (u,b),DR ?_,⟨u,rfl,rfl⟩⟩;show A2 (k:Int) (flB fl) u ((k-0:Nat):Int) b=_;unfold A2;rw[AoQ (by simp)]
  | j+1,u,[],m+1,hj,_,_=>by
    refine⟨.inr (.inr (.inr (5,⟨[]⟩))),DR ?_,⟨_,rfl⟩⟩;show A2 (k:Int) (flB fl) u ((k-(j+1):Nat):Int) []=_;unfold A2;rw[AoO (by simp;omega),Mg];rfl
  | j + 1,u,c::b,m+1,hj,hm,hu=>by
    have e0 : A2 (k:Int) (flB fl) u ((k-(j+1):Nat):Int) (c::b)=
        if k=j+1∧(fl8 fl c=0∨(k=8∧fl8 fl c>127))then some (.inr (.inr (.inr (.inr (4,⟨b⟩)))))else some (.inl (Fs u (8:UInt64).toNat ||| (fl8 fl c).toUInt64,((k-j:Nat):Int),b)):=by
      unfold A2;rw[AoO (by simp;omega),DQ];refine(Au rfl).trans ?_;simp only;rw[AhF]
      have hc:(if(((k-(j+1):Nat):Int)==0)then if(fl8 fl c==0)then some true else if((k:Int)==8)then some (decide (fl8 fl c>127))else some false else some false:Option Bool)=
          some (decide (k=j+1∧(fl8 fl c=0∨(k=8∧fl8 fl c>127)))):=by
        by_cases h1:k=j+1
        · rw[AoO (by simp;omega)]
          by_cases h2:fl8 fl c=0
          · rw[AoO (by simpa using h2)];simp[h1,h2]
          · rw[AoQ (by simpa using h2)]
            by_cases h3:k=8
            · rw[AoO (by simp;omega)];simp[h1,h2];omega
            · rw[AoQ (by simp;omega)];simp[h2,h3]
        · rw[AoQ (by simp;omega)];simp[h1]
      refine(Au hc).trans ?_;have ei:w64 (((k-(j+1):Nat):Int)+1)=((k-j:Nat):Int):=by rw[Ef (by omega)];omega
      by_cases hcond:k=j+1∧(fl8 fl c=0∨(k=8∧fl8 fl c>127))
      · rw[AoO (by simpa using hcond),AoO hcond];rfl
      · rw[AoQ (by simpa using hcond),AoQ hcond,ei];rfl
    rw[Kn];by_cases hcond:k=j+1∧(fl8 fl c=0∨(k=8∧fl8 fl c>127))
    · rw[AoO hcond]at e0 ⊢
      exact⟨_,DR e0,⟨_,rfl⟩⟩
    · rw[AoQ hcond]at e0 ⊢
      have hu7:u.toNat<256^7:=Ap3 hu (AqG (by decide) (by omega));have hs:=shl_or u (fl8 fl c) hu7;have hx:=(fl8 fl c).toNat_lt
      obtain⟨x,hx2,hq⟩:=VK hk fl j (Fs u (8:UInt64).toNat ||| (fl8 fl c).toUInt64) b m (by omega) (by omega) (by
        rw[hs,show k-j=(k-(j+1))+1 by omega,Aqi];omega)
      rw[hs]at hq;exact⟨x,(Kw e0).trans hx2,hq⟩
theorem XP{t:UInt8}(ht:R2 t)(b:List UInt8):∃x,B4 ⟨b⟩ (kOf t:Int) (flB (GJ t))=some x∧oc (rdI t b) x:=by
  have hk:kOf t≤8:=by unfold kOf;obtain⟨h1,h2⟩:=ht;split<;>omega
  obtain⟨x,hx,hq⟩:=VK hk (GJ t) (kOf t) 0 b 18446744073709551616 (Ao0 _) (by omega) (by simp);rw[AqF]at hx;have hx':AK (fun(v:UInt64×Int×List UInt8)=>A2 (kOf t:Int) (flB (GJ t)) v.1 v.2.1 v.2.2) (0,0,b)=some x:=hx;have hz:(0:UInt64).toNat=0:=rfl;rw[hz]at hq;unfold B4 rdI;cases hr:rdN (kOf t) (GJ t) (kOf t) 0 b with
  | inr e=>
    rw[hr]at hq;obtain⟨d,rfl⟩:=hq;refine⟨.inr (e,d),?_,⟨d,rfl⟩⟩;refine(Au (a:=.inr (.inr (e,d))) ((Au hx').trans rfl)).trans rfl
  | inl y=>
    obtain⟨n,r⟩:=y;rw[hr]at hq;obtain⟨u,hu,rfl⟩:=hq;have hinv:rdI t b=.inl (Xx (if GJ t=true then -(n:Int)-1 else(n:Int)),r):=by unfold rdI;rw[hr]
    obtain⟨n',hn',e1,_⟩:=Aa0 ht hinv;have e1':(if GJ t=true then -(n:Int)-1 else(n:Int))=n':=ApW AoG.N e1;obtain⟨r1,r2⟩:=hn';refine⟨.inl (Xx (if GJ t=true then -(n:Int)-1 else(n:Int)),⟨r⟩),?_,rfl⟩;refine(Au (a:=.inl (u,r)) ((Au hx').trans rfl)).trans ?_;cases hng:GJ t
    · rw[hng]at e1'
      simp only[Ap4,AqT]at e1';have:flB false=0:=rfl;rw[this];simp only[bne_self_eq_false,Ap4,AqT];refine(Au rfl).trans ?_;rw[hu,Ef (by omega)];rfl
    · rw[hng]at e1'
      simp only[Aqe]at e1';have:flB true=255:=rfl;rw[this,AoO (by decide)];refine(Au rfl).trans ?_
      have e2:w64 ((~~~u).toNat:Int)=-(n:Int)-1:=by
        rw[UL,hu];have hlt:=u.toNat_lt;unfold w64 IntKind.wrap;simp[IntKind.signed,IntKind.bits];split<;>omega
      rw[e2];rfl
abbrev LX:=(List UInt8×List AoG)⊕((List UInt8×List AoG)⊕(Unit⊕CR))
def lc:XY→LX→Prop
 |.inl (v,r),x=>∃l,v=JV l∧x=.inl (r,l)
 |.inr e,x=>∃d,x=.inr (.inr (.inr (.inr (e,d))))
def PC(o:XY):UInt8⊕List AoG→List UInt8→Prop
 |.inl t,b=>∀n,b.length<n→∃x,A1 n ⟨b⟩ t=some x∧oc o x
 |.inr acc,[]=>o=.inr 5
 |.inr acc,c::b=>∀n,b.length<n→acc.length+b.length≤1000000→∀m,b.length<m→∃x,Iv (fun(v:UInt8×List UInt8×List AoG)=>AO (A1 n) v.1 v.2.1 v.2.2) m (c,b,acc)=some x∧lc o x
theorem Ni{n:Nat}(h:n≤2000000):CM n 64:=by unfold CM maxLen J0;omega
theorem rd_codec{o:XY}(h:Rd s b o):b.length≤65536→PC o s b:=by
  induction h with
  | int t b h=>
    intro hb n hn;obtain⟨n,rfl⟩:∃m,n=m+1:=⟨n-1,by omega⟩;show ∃x,AG (A1 n) ⟨b⟩ t=some x∧_;obtain⟨x,hx,hq⟩:=XP h b;refine⟨x,?_,hq⟩;obtain⟨h1,h2⟩:=id h;unfold AG;have hn32:(GJ t=true)=(t.toNat<32):=by unfold GJ;simp
    by_cases h32:t.toNat<32
    · have hc:(if decide (t≥(32:UInt8))=true then some (decide (t≤(40:UInt8)))else some false:Option Bool)=some false:=by
        rw[AoQ (by simp[ApL];omega)]
      have hc2:(if decide (t<(32:UInt8))=true then some (decide (t≥(23:UInt8)))else some false:Option Bool)=some true:=by
        rw[AoO (by simp[Aqc];omega)];simp[ApL];omega
      have hng:GJ t=true:=by rw[hn32];exact h32
      have hk:(((31:UInt8)-t).toNat:Int)=(kOf t:Int):=by
        unfold kOf;rw[AoO h32,ArW];have:(31:UInt8).toNat=31:=rfl;omega
      rw[hng]at hx;have hfl:flB true=255:=rfl;rw[hfl,←hk]at hx;refine(Au (a:=.inr x) ?_).trans rfl;refine(Au hc).trans ?_;rw[AoQ (by simp)];refine(Au hc2).trans ?_;rw[AoO rfl];refine(Au hx).trans ?_;cases x<;>rfl
    · have hc:(if decide (t≥(32:UInt8))=true then some (decide (t≤(40:UInt8)))else some false:Option Bool)=some true:=by
        rw[AoO (by simp[ApL];omega)];simp[ApL];omega
      have hng:GJ t=false:=by cases hh:GJ t;rfl;exact(h32 (hn32 ▸ hh)).elim
      have hk:((t-(32:UInt8)).toNat:Int)=(kOf t:Int):=by
        unfold kOf;rw[AoQ h32,ArW];have:(32:UInt8).toNat=32:=rfl;omega
      rw[hng]at hx;have hfl:flB false=0:=rfl;rw[hfl,←hk]at hx;refine(Au (a:=.inr x) ?_).trans rfl;refine(Au hc).trans ?_;rw[AoO rfl];refine(Au hx).trans ?_;cases x<;>rfl
  | text b=>
    intro hb n hn;obtain⟨n,rfl⟩:∃m,n=m+1:=⟨n-1,by omega⟩;show ∃x,AG (A1 n) ⟨b⟩ 48=some x∧_;obtain⟨x,hx,hq⟩:=K3 b [] 18446744073709551616 (by omega) (by simp;omega);have hx':AK (fun(v:List UInt8×List UInt8)=>Aw v.1 v.2) (b,[])=some x:=hx;refine⟨x,?_,hq⟩;unfold AG CY;rw[hx'];cases x<;>rfl
  | lst b o h ih=>
    intro hb n hn;obtain⟨n,rfl⟩:∃m,n=m+1:=⟨n-1,by omega⟩;show ∃x,AG (A1 n) ⟨b⟩ 64=some x∧_;have hi:=ih hb;cases b with
    | nil=>
      have:o=.inr 5:=hi;subst this;exact⟨.inr (5,⟨[]⟩),rfl,⟨_,rfl⟩⟩
    | cons c b=>
      obtain⟨x,hx,hq⟩:=hi n (by simp at hn;omega) (by simp at hb ⊢;omega) 18446744073709551616 (by simp at hb;omega);have hx':AK (fun(v:UInt8×List UInt8×List AoG)=>AO (A1 n) v.1 v.2.1 v.2.2) (c,b,[])=some x:=hx;unfold AG;cases o with
      | inl y=>
        obtain⟨v,r⟩:=y;obtain⟨l,rfl,rfl⟩:=hq;refine⟨.inl (JV l,⟨r⟩),?_,rfl⟩;refine(Au (a:=.inr (.inl (JV l,⟨r⟩))) ?_).trans rfl;show(((A7 ⟨c::b⟩).bind _).bind _)=_;rw[DQ];refine(Au (a:=.inl (r,l)) ((Au rfl).trans ?_)).trans rfl;exact(Au hx').trans rfl
      | inr e=>
        obtain⟨d,rfl⟩:=hq;refine⟨.inr (e,d),?_,⟨d,rfl⟩⟩;refine(Au (a:=.inr (.inr (e,d))) ?_).trans rfl;show(((A7 ⟨c::b⟩).bind _).bind _)=_;rw[DQ];refine(Au (a:=.inr (.inr (.inr (e,d)))) ((Au rfl).trans ?_)).trans rfl;exact(Au hx').trans rfl
  | bad t b h h1 h2=>
    intro hb n hn;obtain⟨n,rfl⟩:∃m,n=m+1:=⟨n-1,by omega⟩;refine⟨.inr (4,⟨b⟩),?_,⟨_,rfl⟩⟩;show AG (A1 n) ⟨b⟩ t=_;unfold AG;unfold R2 at h
    have hc:(if decide (t≥(32:UInt8))=true then some (decide (t≤(40:UInt8)))else some false:Option Bool)=some false:=by
      by_cases h32:t.toNat<32
      · rw[AoQ (by simp[ApL];omega)]
      · rw[AoO (by simp[ApL];omega)];simp[ApL];omega
    have hc2:(if decide (t<(32:UInt8))=true then some (decide (t≥(23:UInt8)))else some false:Option Bool)=some false:=by
      by_cases h32:t.toNat<32
      · rw[AoO (by simp[Aqc];omega)];simp[ApL];omega
      · rw[AoQ (by simp[Aqc];omega)]
    refine(Au (a:=(.inl ():Unit⊕CR)) ?_).trans rfl;refine(Au hc).trans ?_;rw[AoQ (by simp)];refine(Au hc2).trans ?_;rw[AoQ (by simp),AoQ (by simpa using h1),AoQ (by simpa using h2)]
  |lend acc=>intro _;rfl
  | lfin acc b=>
    intro hb n hn ha m hm;obtain⟨m,rfl⟩:∃k,m=k+1:=⟨m-1,by omega⟩;exact⟨.inl (b,acc),DR rfl,⟨acc,rfl,rfl⟩⟩
  | lerr acc c b e hc h ih=>
    intro hb n hn ha m hm;obtain⟨m,rfl⟩:∃k,m=k+1:=⟨m-1,by omega⟩;obtain⟨x,hx,d,rfl⟩:=ih (by simp at hb;omega) n hn;refine⟨.inr (.inr (.inr (.inr (e,d)))),DR ?_,⟨d,rfl⟩⟩;show AO (A1 n) c b acc=_;unfold AO;rw[AoO (by simpa using hc),hx];rfl
  | lstep acc c b v b' o hc h h2 ih ih2=>
    intro hb n hn ha m hm;obtain⟨m,rfl⟩:∃k,m=k+1:=⟨m-1,by omega⟩;have hb0:b.length≤65536:=by simp at hb;omega
    obtain⟨x,hx,hxe⟩:=ih hb0 n hn;have hxe':x=.inl (v,⟨b'⟩):=hxe;subst hxe';have hinv:c::b=encV v++b':=(RW h).2.2
    have hl:b.length+1=(encV v).length+b'.length:=by
      have:=ApW List.length hinv;simpa using this
    have hp:=AaB v;have hi2:=ih2 (by omega)
    have e0:∀o' , (A7 ⟨b'⟩=o')→AO (A1 n) c b acc=o'.bind fun y=>match y with
        |.inl w=>some (.inl (w.1,w.2.b,acc++[v]))
        |.inr w=>some (.inr (.inr (.inr (.inr (.inr (w.1,w.2)))))):=by
      intro o' ho;unfold AO;rw[AoO (by simpa using hc),hx];refine(Au rfl).trans ?_;simp only;rw[AoO (Ni (by omega)),ho];rfl
    cases b' with
    | nil=>
      have:o=.inr 5:=hi2;subst this;refine⟨.inr (.inr (.inr (.inr (5,⟨[]⟩)))),DR ?_,⟨_,rfl⟩⟩;exact(e0 _ Mg).trans rfl
    | cons c2 b2=>
      obtain⟨x,hx2,hq⟩:=hi2 n (by simp at hl;omega) (by simp at hl ⊢;omega) m (by simp at hl;omega);exact⟨x,(Kw ((e0 _ (DQ c2 b2)).trans rfl)).trans hx2,hq⟩
def Ahb(b:List UInt8)(r:AoG×Int):Prop :=
 (b.length>65536∧r=(Lu,2))∨(b.length≤65536∧((b=[]∧r=(Lu,5))∨∃t b' o,b=t::b'∧Rd (.inl t) b' o ∧
  ((∃e,o=.inr e∧r=(Lu,e))∨∃v rest,o=.inl (v,rest)∧((rest≠[]∧r=(Lu,4))∨(rest=[]∧((LV v>16∧r=(Lu,2))∨(LV v≤16∧r=(v,0))))))))
mutual
theorem sz_enc:∀v:AoG,wfV v→szV v≤(encV v).length
  | .mk k n b l=>by
    intro h;rcases wf_cases h with e|e|⟨e,hl⟩
    · rw[e,Uh,QH]
      simp[Xx,szV,szVs]
    · rw[e,Qz]
      have he:∀b:List UInt8,b.length≤(Hy b).length:=by
        intro b
        induction b with
        |nil=>simp
        |cons c b ih=>simp only[Hy];split<;>simp<;>omega
      have:=he (AoG.mk k n b l).B;simp only[N3,szV,szVs,Ape,Ao7,Apr];omega
    · rw[e,QV]
      have:=Aa4 l hl;simp only[JV,szV,Ape,Ao7,Apr];show([]:List UInt8).length+1+szVs l≤(HZ l).length+1+1;simp;omega
theorem Aa4:∀l:List AoG,(∀x∈l,wfV x)→szVs l≤(HZ l).length
  |[]=>fun _=>by simp[szVs]
  | x::l=>fun h=>by
    have h1:=sz_enc x (h x Ao2);have h2:=Aa4 l (fun y hy=>h y (Api _ hy));rw[szVs,HZ,Ao7];omega
end
theorem AbA(v:AoG)(h:szV v≤100000000000):EG v=some (shpV v):=TI 18446744073709551616 v (by omega) (by omega)
theorem decode_ex(b:List UInt8):∃r,Ahb b r∧BQ b=some r:=by
  by_cases hb:b.length>65536
  · refine⟨_,.inl ⟨hb,rfl⟩,?_⟩
    unfold BQ;rw[AoO (by simp;omega)];rfl
  · have hb':b.length≤65536:=by omega
    have e1 : ∀o,A7 ⟨b⟩=o→BQ b=o.bind fun y=>match y with
        | .inl v=>(CH v.2 v.1).bind fun y=>match y with
          |.inl v=>if(decide ((v.2.b.length:Int)>0))then some (Lu,4)else
              (EG v.1).bind fun y=>if(decide (y.1>16))then some (Lu,2)else some (v.1,0)
          |.inr v=>some (Lu,v.1)
        |.inr v=>some (Lu,v.1):=by
      intro o ho;subst ho;unfold BQ;rw[AoQ (by simp;omega)];rfl
    cases b with
    |nil=>exact⟨_,.inr ⟨hb',.inl ⟨rfl,rfl⟩⟩,(e1 _ Mg).trans rfl⟩
    | cons t b=>
      obtain⟨o,ho⟩:=LZ _ (.inl t) b (Nat.lt_succ_self _);have hbl:b.length≤65536:=by simp at hb';omega
      obtain⟨x,hx,hq⟩:=(rd_codec ho hbl:∀n,b.length<n→∃x,A1 n ⟨b⟩ t=some x∧oc o x) 18446744073709551616 (by omega);have hx':CH ⟨b⟩ t=some x:=hx;have e1:=e1 _ (DQ t b);cases o with
      | inr e=>
        obtain⟨d,rfl⟩:=hq;refine⟨(Lu,e),.inr ⟨hb',.inr ⟨t,b,_,rfl,ho,.inl ⟨e,rfl,rfl⟩⟩⟩,?_⟩;refine e1.trans ((Au rfl).trans ?_);exact(Au hx').trans rfl
      | inl y=>
        obtain⟨v,rest⟩:=y;have hq':x=.inl (v,⟨rest⟩):=hq;subst hq';obtain⟨w1,w2,w3⟩:=RW ho
        have hlen:b.length+1=(encV v).length+rest.length:=by
          have:=ApW List.length w3;simpa using this
        have hsz:=sz_enc v w1;by_cases hr:rest=[]
        · subst hr
          have hsh:=AbA v (by simp at hlen;omega);have hn:=Mj v w1;by_cases hd:LV v>16
          · refine⟨(Lu,2),.inr ⟨hb',.inr ⟨t,b,_,rfl,ho,.inr ⟨v,[],rfl,.inr ⟨rfl,.inl ⟨hd,rfl⟩⟩⟩⟩⟩,?_⟩
            refine e1.trans ((Au rfl).trans ?_);refine(Au hx').trans ?_;simp only;rw[AoQ (by simp),hsh];refine(Au rfl).trans ?_;rw[AoO (by simp;omega)]
          · refine⟨(v,0),.inr ⟨hb',.inr ⟨t,b,_,rfl,ho,.inr ⟨v,[],rfl,.inr ⟨rfl,.inr ⟨by omega,rfl⟩⟩⟩⟩⟩,?_⟩
            refine e1.trans ((Au rfl).trans ?_);refine(Au hx').trans ?_;simp only;rw[AoQ (by simp),hsh];refine(Au rfl).trans ?_;rw[AoQ (by simp;omega)]
        · refine⟨(Lu,4),.inr ⟨hb',.inr ⟨t,b,_,rfl,ho,.inr ⟨v,rest,rfl,.inl ⟨hr,rfl⟩⟩⟩⟩,?_⟩
          refine e1.trans ((Au rfl).trans ?_);refine(Au hx').trans ?_;simp only;have:rest.length≠0:=fun e=>hr (Ao6.1 e)
          rw[AoO (by simp;omega)]
theorem AcQ{r':AoG×Int}(h:Ahb b r)(h':Ahb b r'):r=r':=by
 rcases h with⟨h1,rfl⟩|⟨h1,h⟩<;>rcases h' with⟨h1',rfl⟩|⟨h1',h'⟩
 ·rfl
 ·omega
 ·omega
 ·rcases h with⟨h2,rfl⟩|⟨t,b1,o,h2,h3,h4⟩<;>rcases h' with⟨h2',rfl⟩|⟨t',b1',o',h2',h3',h4'⟩
  ·rfl
  ·rw[h2]at h2';cases h2'
  ·rw[h2']at h2;cases h2
  ·rw [h2]at h2';cases h2';have:=Ahn h3 h3';subst this;rcases h4 with⟨e,rfl,rfl⟩|⟨v,rest,rfl,h4⟩
   ·rcases h4' with⟨e',he,rfl⟩|⟨v',rest',he,_⟩
    ·cases he;rfl
    ·cases he
   ·rcases h4' with⟨e',he,rfl⟩|⟨v',rest',he,h4'⟩
    ·cases he
    ·cases he;rcases h4 with⟨h5,rfl⟩|⟨h5,h4⟩<;>rcases h4' with⟨h5',rfl⟩|⟨h5',h4'⟩
     ·rfl
     ·exact(h5 h5').elim
     ·exact(h5' h5).elim
     ·rcases h4 with⟨h6,rfl⟩|⟨h6,rfl⟩<;>rcases h4' with⟨h6',rfl⟩|⟨h6',rfl⟩
      ·rfl
      ·omega
      ·omega
      ·rfl
theorem Z9(h:Ahb b r):BQ b=some r:=by
 obtain⟨r',h',e⟩:=decode_ex b;rw[e,AcQ h h']
theorem decode_enc(h:wfV v)(ok:okV v)(hd:(shpV v).1≤16)(hl:(encV v).length≤65536):BQ (encV v)=some (v,0):=by
 obtain⟨t,tl,e,_,g1,_⟩:=Aal v h ok;have:=g1 [];rw[Aqf]at this;refine Z9 (.inr ⟨hl,.inr ⟨t,tl,_,e,this,.inr ⟨v,[],rfl,.inr ⟨rfl,.inr ⟨?_,rfl⟩⟩⟩⟩⟩);rw[Mj v h];exact hd
theorem dec_inv(h:Ahb b r):(r.1=Lu∧(r.2=2∨r.2=5∨r.2=4))∨(r.2=0∧wfV r.1∧okV r.1∧b=encV r.1∧(shpV r.1).1≤16∧b.length≤65536):=by
 rcases h with⟨_,rfl⟩|⟨h1,⟨_,rfl⟩|⟨t,b',o,rfl,h2,h3⟩⟩
 ·exact .inl ⟨rfl,.inl rfl⟩
 ·exact .inl ⟨rfl,.inr (.inl rfl)⟩
 ·rcases h3 with⟨e,rfl,rfl⟩|⟨v,rest,rfl,h3⟩
  ·have:e=4∨e=5:=RW h2;rcases this with rfl|rfl
   ·exact .inl ⟨rfl,.inr (.inr rfl)⟩
   ·exact .inl ⟨rfl,.inr (.inl rfl)⟩
  ·rcases h3 with⟨_,rfl⟩|⟨rfl,⟨_,rfl⟩|⟨h4,rfl⟩⟩
   ·exact .inl ⟨rfl,.inr (.inr rfl)⟩
   ·exact .inl ⟨rfl,.inl rfl⟩
   ·obtain⟨w1,w2,w3⟩:=RW h2;rw[Aqf]at w3;exact .inr ⟨rfl,w1,w2,w3,by rw[←Mj v w1];exact h4,h1⟩
instance (t:UInt8):Decidable (R2 t):=inferInstanceAs (Decidable (_∧_))
end Go.Proofs.YtioapcamanmoiaaGreatDoor.Kc
namespace Go.Proofs.YtioapcamanmoiaaGreatDoor
open Go.Rv
set_option linter.unusedVariables false
set_option linter.unusedSimpArgs false
set_option maxRecDepth 100000
variable{v:AoG}
def ent:AoB:={ Za:=0,Ref:={ Zb:=0,No:=0 },Zn1:=0,Zb1:=0,Zc:=0,Zo1:=0,Zw:=0,To:=0,Code:=0,Zp1:=0,Zq1:=0,Zr1:=0,Zs1:=0,Zt1:=[],Zu1:=[] }
theorem Af5(x:AoA):(⟨x.Za,x.Zl1,(if x.Zm1=true then(1:Int)else 0)==1⟩:AoA)=x:=by
 rcases x with⟨a,b,c⟩
 cases c<;>rfl
theorem S4:∀(ps:List AoA) (d:Int),0≤d→d≤1→∃e,Kc.shpL d (ps.map GN)=(e,true)∧1≤e∧e≤2
  |[],d,h0,h1=>⟨d+1,by rw[Aq6,Kc.shpL_nil],by omega,by omega⟩
  | x :: ps,d,h0,h1=>by
    have e:Kc.shpV (GN x)=(1,true):=by
      simp[GN,lV,iV,Kc.shpV,Kc.shpL,Hn]
    rw[Ap1,Kc.shpL_cons,e,AoO rfl];exact S4 ps _ (by simp only[Hn];split<;>omega) (by simp only[Hn];split<;>omega)
theorem UG(it:AoB):∃e,Kc.shpV (val it)=(e,true)∧0≤e∧e≤4:=by
 obtain⟨e,h1,h2,h3⟩:=S4 it.Zu1 0 (by omega) (by omega);have hi:∀n,Kc.shpV (iV n)=(0,true):=fun n=>by simp[iV,Kc.shpV]
 have ht:Kc.shpV (tV it.Zt1)=(0,true):=by simp[tV,Kc.shpV]
 have hr:Kc.shpV (lV [iV it.Ref.Zb,iV it.Ref.No])=(1,true):=by simp[lV,iV,Kc.shpV,Kc.shpL,Hn]
 have hp:Kc.shpV (lV (it.Zu1.map GN))=(e,true):=by
  rw[lV,Kc.shpV,AoQ (by decide),AoQ (by decide),AoO rfl,AoO ⟨rfl,rfl⟩,h1]
 have hv:Kc.shpV (val it)=Kc.shpL 0 (X1 it++[tV it.Zt1,lV (it.Zu1.map GN)]):=by
  unfold val;rw[lV,Kc.shpV,AoQ (by decide),AoQ (by decide),AoO rfl,AoO ⟨rfl,rfl⟩]
 have hk:∀{d:Int} {x:AoG} {l:List AoG},0≤d→Kc.shpV x=(0,true)→Kc.shpL d (x::l)=Kc.shpL d l:=fun{d x l} h0 hx=>by
  rw[Kc.shpL_cons,hx,AoO rfl];have:Hn d 0=d:=by simp only[Hn];split<;>omega
  rw[this]
 rw[hv];unfold X1;simp only[Ao5,ApC];rw[hk (by omega) (hi _),Kc.shpL_cons,hr,AoO rfl,show Hn 0 (1,true).1=1 from rfl];rw[hk (by omega) (hi _),hk (by omega) (hi _),hk (by omega) (hi _),hk (by omega) (hi _),hk (by omega) (hi _),hk (by omega) (hi _),hk (by omega) (hi _),hk (by omega) (hi _),hk (by omega) (hi _),hk (by omega) (hi _),hk (by omega) (hi _),hk (by omega) ht];rw[Kc.shpL_cons,hp,AoO rfl,Kc.shpL_nil];exact⟨_,rfl,by simp only[Hn];split<;>omega,by simp only[Hn];split<;>omega⟩
theorem ZD(l:List UInt8):Kc.cmpB l l=0:=z_b.2 rfl
mutual
theorem MU:∀v:AoG,Kc.cmpV v v=0
  | .mk k n b l=>by
    rw[Kc.cmpV_eq,AoQ (by simp)]
    (repeat' split)
    · exact Kc.cmpI_refl _
    · exact ZD _
    · exact Sg l
    · rfl
theorem Sg:∀l:List AoG,Kc.cmpL l l=0
 |[]=>by rw[Kc.cmpL]
 |x::l=>by rw[Kc.cmpL,AoQ (by rw[MU x];simp)];exact Sg l
end
theorem Adx : ∀ (n:Nat) (w v:AoG),Kc.szV w<n→Kc.szV w≤100000000→∃b,FA n w v=some b∧(b=true→Kc.wfV w→w=v)∧(w=v→b=true)
  |0,w,v,h,_=>absurd h (Apk _)
  | n + 1,w,v,h,hs=>by
    show ∃b,GV (FA n) w v=some b∧_∧_;have hsz:=Kc.szV_eq w;have hlen:=Kc.szVs_len w.L;unfold GV;by_cases h1:w.Za=v.Za
    · rw [AoQ (by simp[h1]),Kc.compare_eq _ _ (by omega),AoP]
      by_cases h2:Kc.cmpV w v=0
      · rw [AoQ (by simp[h2])]
        by_cases h3:w.N=v.N
        · rw[AoQ (by simp[h3])]
          by_cases h4:w.B.length=v.B.length
          · rw[AoQ (by simp[h4]),AoP]
            by_cases h5:w.L.length=v.L.length
            · rw[AoQ (by simp[h5])]
              obtain⟨z,hz,hq⟩:=Cr (f:=fun(i:Int)=>FR w v (FA n) i) (fun i=>∃k:Nat,i=(k:Int)∧k≤w.L.length∧((∀x∈w.L,Kc.wfV x)→w.L.take k=v.L.take k)) (fun i=>w.L.length-i.toNat)
                (fun z=>match z with|.inl ()=>(∀x∈w.L,Kc.wfV x)→w.L=v.L|.inr (.inl ())=>False|.inr (.inr t)=>t=false∧w.L≠v.L) (by
                rintro i ⟨k,rfl,hk,ht⟩;unfold FR;by_cases hlt:k<w.L.length
                · have hlv:k<v.L.length:=by omega
                  rw[AoO (Apo (by omega)),AoO ⟨by omega,by simpa using hlt⟩,AoO ⟨by omega,by simpa using hlv⟩];simp only[Apa];have hm:=Kc.szVs_mem (Jz hlt);obtain⟨b,hb,hb1,hb2⟩:=Adx n (nth w.L k) (nth v.L k) (by omega) (by omega);rw[hb,AoP];have ea:w.L.take (k+1)=w.L.take k++[nth w.L k]:=by rw[Aqx,AoN hlt];simp[nth,AoN hlt]
                  have eb:v.L.take (k+1)=v.L.take k++[nth v.L k]:=by rw[Aqx,AoN hlv];simp[nth,AoN hlv]
                  cases b with
                  | true=>
                    rw[AoQ (by simp),Hm (by omega)];refine .inl ⟨_,rfl,⟨k+1,rfl,by omega,fun hw=>?_⟩,?_⟩
                    · rw[ea,eb,ht hw,hb1 rfl (hw _ (Jz hlt))]
                    · simp only[Apa];omega
                  | false=>
                    rw[AoO (by simp)];refine .inr ⟨_,rfl,rfl,fun he=>?_⟩;have:=hb2 (by rw[he]);simp at this
                · rw[AoQ (by simpa using hlt)]
                  refine .inr ⟨_,rfl,fun hw=>?_⟩;have:=ht hw;rwa[Aps (by omega),Aps (by omega)]at this) (v0:=0) ⟨0,rfl,Apx _,fun _=>rfl⟩ (by simp;omega)
              rw[hz];rcases z with⟨⟩|⟨⟨⟩|t⟩
              · refine⟨true,rfl,fun _ hw=>?_,fun _=>rfl⟩
                have hL:(∀x∈w.L,Kc.wfV x)→w.L=v.L:=hq;rcases Kc.wf_cases hw with e|e|⟨e,hwl⟩
                · have hb:w.B=[]:=by rw[e];rfl
                  have hl:w.L=[]:=by rw[e];rfl
                  have hb':v.B=[]:=Ao6.1 (by rw[←h4,hb];rfl);have hl':v.L=[]:=Ao6.1 (by rw[←h5,hl];rfl);rw[←Kc.value_eta w,←Kc.value_eta v,h1,h3,hb,hl,hb',hl']
                · have hk2:w.Za=2:=by rw[e];rfl
                  have hl:w.L=[]:=by rw[e];rfl
                  have hl':v.L=[]:=Ao6.1 (by rw[←h5,hl];rfl);rw[Kc.cmpV_eq,AoQ (by simp[h1]),AoQ (by rw[hk2];decide),AoO hk2]at h2;rw[←Kc.value_eta w,←Kc.value_eta v,h1,h3,z_b.1 h2,hl,hl']
                · have hb:w.B=[]:=by rw[e];rfl
                  have hb':v.B=[]:=Ao6.1 (by rw[←h4,hb];rfl);rw[←Kc.value_eta w,←Kc.value_eta v,h1,h3,hb,hb',hL hwl]
              · exact hq.elim
              · obtain⟨rfl,h6⟩:=hq
                exact⟨false,rfl,(by intro h;cases h),fun e=>absurd (by rw[e]) h6⟩
            · rw[AoO (by simp;omega)]
              exact⟨false,rfl,(by intro h;cases h),fun e=>absurd (by rw[e]) h5⟩
          · rw[AoO (by simp;omega),AoP,AoO rfl]
            exact⟨false,rfl,(by intro h;cases h),fun e=>absurd (by rw[e]) h4⟩
        · rw[AoO (by simpa using h3),AoP,AoO rfl]
          exact⟨false,rfl,(by intro h;cases h),fun e=>absurd (by rw[e]) h3⟩
      · rw[AoO (by simpa using h2),AoP,AoO rfl]
        exact⟨false,rfl,(by intro h;cases h),fun e=>absurd (by rw[e];exact MU v) h2⟩
    · rw[AoO (by simpa using h1),AoP,AoO rfl]
      exact⟨false,rfl,(by intro h;cases h),fun e=>absurd (by rw[e]) h1⟩
theorem SM{w:AoG}(h:Kc.szV w≤100000000):∃b,Mm w v=some b∧(b=true→Kc.wfV w→w=v)∧(w=v→b=true):=Adx 18446744073709551616 w v (by omega) h
def JF(x:AoG):AoA:=⟨(nth x.L 0).N,(nth x.L 1).N,(nth x.L 2).N==1⟩
def Adu(v:AoG)(ps:List AoA):AoB:={ Za:=(nth v.L 0).N,Ref:={ Zb:=(nth (nth v.L 1).L 0).N,No:=(nth (nth v.L 1).L 1).N },Zn1:=(nth v.L 2).N,Zb1:=(nth v.L 3).N,Zc:=(nth v.L 4).N,Zo1:=(nth v.L 5).N,Zw:=(nth v.L 6).N,To:=(nth v.L 7).N,Code:=(nth v.L 8).N,Zp1:=(nth v.L 9).N,Zq1:=(nth v.L 10).N,Zr1:=(nth v.L 11).N,Zs1:=(nth v.L 12).N,Zt1:=(nth v.L 13).B,Zu1:=ps }
theorem AeU{n:Nat}(h:n≤2100000):CM n 24:=⟨Aqn h (by decide),Aqn (AoX 24 h) (by decide)⟩
theorem ZI(hq:(nth v.L 14).L.length≤2000000):∃R:Option (List AoA),AK (fun(s:Int×List AoA)=>Cp v s.1 s.2) (0,[])=some (match R with|some l=>.inl l|none=>.inr (.inr (ent,10))) ∧(∀l,R=some l→l=(nth v.L 14).L.map JF)∧(R=none→¬∀x∈(nth v.L 14).L,x.L.length=3):=by
 generalize hQ:(nth v.L 14).L=Q at hq
 obtain⟨z,hz,hr⟩:=Cr (f:=fun(s:Int×List AoA)=>Cp v s.1 s.2) (fun s=>∃k:Nat,s=((k:Int),(Q.take k).map JF)∧k≤Q.length) (fun s=>Q.length-s.1.toNat)
  (fun z=>∃R:Option (List AoA),z=(match R with|some l=>.inl l|none=>.inr (.inr (ent,10)))∧(∀l,R=some l→l=Q.map JF)∧(R=none→¬∀x∈Q,x.L.length=3)) (by
  rintro s ⟨k,rfl,hk⟩;unfold Cp;simp only[CE,hQ];by_cases hlt:k<Q.length
  ·rw[AoO (Apo (by omega)),AoO ⟨by omega,by simpa using hlt⟩];simp only[Apa];by_cases h3:(nth Q k).L.length=3
   ·rw[AoQ (by simp[h3]),AoO ⟨by omega,by rw[h3];decide⟩,AoO ⟨by omega,by rw[h3];decide⟩,AoO ⟨by omega,by rw[h3];decide⟩,AoO (AeU (by simp;omega)),Hm (by omega)];refine .inl ⟨_,rfl,⟨k+1,?_,by omega⟩,?_⟩
    ·rw[map_take _ _ k hlt];rfl
    ·simp only[Apa];omega
   ·rw[AoO (by simp;omega)];exact .inr ⟨_,rfl,none,rfl,(by intro l h;cases h),fun _ hh=>h3 (hh _ (Jz hlt))⟩
  ·rw[AoQ (by simpa using hlt)];refine .inr ⟨_,rfl,some _,rfl,fun l h=>?_,by intro h;cases h⟩;obtain rfl:=AoR h;rw[Aps (by omega)]) (v0:=(0,[])) ⟨0,by simp,Apx _⟩ (by simp;omega)
 obtain⟨R,rfl,h1,h2⟩:=hr;exact⟨R,hz,h1,h2⟩
theorem ZG{l:List AoG}{k:Nat}(hk:k<l.length):Kc.szV (nth l k)≤Kc.szVs l:=Kc.szVs_mem (Jz hk)
theorem AaD(hs:Kc.szV v≤2000000):(BW v=some (ent,10)∧¬(v.L.length=15∧(nth v.L 1).L.length=2∧∀x∈(nth v.L 14).L,x.L.length=3)) ∨(BW v=(Mm (val (Adu v ((nth v.L 14).L.map JF))) v).bind (fun b=>if(!b)then some (ent,10)else some (Adu v ((nth v.L 14).L.map JF),0))∧(nth v.L 14).L.length≤2000000∧(nth v.L 13).B.length≤2000000):=by
  have hsz:=Kc.szV_eq v;have hlen:=Kc.szVs_len v.L;unfold BW;by_cases h15:v.L.length=15
  · have hin:∀k:Nat,k<15→InR (k:Int) v.L.length:=fun k hk=>⟨by omega,by rw[h15];simpa using hk⟩
    have i0:InR 0 v.L.length:=hin 0 (by omega);have i1:InR 1 v.L.length:=hin 1 (by omega);have i2:InR 2 v.L.length:=hin 2 (by omega);have i3:InR 3 v.L.length:=hin 3 (by omega);have i4:InR 4 v.L.length:=hin 4 (by omega);have i5:InR 5 v.L.length:=hin 5 (by omega);have i6:InR 6 v.L.length:=hin 6 (by omega);have i7:InR 7 v.L.length:=hin 7 (by omega);have i8:InR 8 v.L.length:=hin 8 (by omega);have i9:InR 9 v.L.length:=hin 9 (by omega);have i10:InR 10 v.L.length:=hin 10 (by omega);have i11:InR 11 v.L.length:=hin 11 (by omega);have i12:InR 12 v.L.length:=hin 12 (by omega);have i13:InR 13 v.L.length:=hin 13 (by omega);have i14:InR 14 v.L.length:=hin 14 (by omega);have q14:=ZG (l:=v.L) (k:=14) (by omega);have q13:=ZG (l:=v.L) (k:=13) (by omega);have r14:=Kc.szV_eq (nth v.L 14);have r13:=Kc.szV_eq (nth v.L 13);have t14:=Kc.szVs_len (nth v.L 14).L;rw[AoQ (by simp[h15]),AoO i1,AoP];by_cases h2:(nth v.L 1).L.length=2
    · have j0:InR 0 (nth v.L 1).L.length:=⟨by omega,by rw[h2];decide⟩
      have j1:InR 1 (nth v.L 1).L.length:=⟨by omega,by rw[h2];decide⟩;obtain⟨R,hloop,hR,hN⟩:=ZI (v:=v) (by omega);rw[AoQ (by simp[h2])];simp only[CE,AoO i0,AoO i1,AoO i2,AoO i3,AoO i4,AoO i5,AoO i6,AoO i7,AoO i8,AoO i9,AoO i10,AoO i11,AoO i12,AoO i13,AoO i14,AoO j0,AoO j1,AoP,hloop]
      match R with
      |none=>exact .inl ⟨rfl,fun h=>hN rfl h.2.2⟩
      | some l=>
        obtain rfl:=hR l rfl;refine .inr ⟨?_,by omega,by omega⟩;simp only[AoP];have hv:Ez (Adu v ((nth v.L 14).L.map JF))=some (val (Adu v ((nth v.L 14).L.map JF))):=VC (by show((nth v.L 14).L.map JF).length≤_;rw[ApP];omega);unfold Adu at hv;rw[hv,AoP];rfl
    · refine .inl ⟨?_,fun h=>h2 h.2.1⟩
      rw[AoO (by simp;omega)];rfl
  · refine .inl ⟨?_,fun h=>h15 h.1⟩
    rw[AoO (by simp;omega),AoP,AoO rfl];rfl
theorem Ako(it:AoB):Kc.wfV (val it):=by
 obtain⟨e,h1,_,_⟩:=UG it;show(Kc.shpV (val it)).2=true;rw[h1]
theorem YA(hs:Kc.szV v≤2000000):BW v=some (ent,10)∨∃it,BW v=some (it,0)∧val it=v∧it.Zu1.length≤2000000∧it.Zt1.length≤2000000:=by
 rcases AaD hs with⟨h,_⟩|⟨h,h1,h2⟩
 ·exact .inl h
 ·have hl:((nth v.L 14).L.map JF).length=(nth v.L 14).L.length:=ApP _
  obtain⟨b,hb,hb1,hb2⟩:=SM (w:=val (Adu v ((nth v.L 14).L.map JF))) (v:=v) (by
   rw[U7];have e1:(Adu v ((nth v.L 14).L.map JF)).Zt1.length=(nth v.L 13).B.length:=rfl;have e2:(Adu v ((nth v.L 14).L.map JF)).Zu1.length=(nth v.L 14).L.length:=hl;omega)
  rw[h,hb,AoP];cases b with
  |false=>exact .inl rfl
  |true=>exact .inr ⟨_,rfl,hb1 rfl (Ako _),by show((nth v.L 14).L.map JF).length≤_;omega,h2⟩
theorem Abz{it:AoB}(ht:it.Zt1.length≤100000)(hp:it.Zu1.length≤100000):BW (val it)=some (it,0):=by
 have hL:(nth (val it).L 14).L=it.Zu1.map GN:=rfl
 have hps:(nth (val it).L 14).L.map JF=it.Zu1:=by
  rw[hL,List.map_map]
  have:(JF ∘ GN)=id:=by
   funext x;exact Af5 x
  rw[this,List.map_id]
 have hc:Adu (val it) it.Zu1=it:=rfl
 have h3:∀x∈(nth (val it).L 14).L,x.L.length=3:=by
  rw[hL];intro x hx;obtain⟨p,_,rfl⟩:=ApT.1 hx;rfl
 have hs:=U7 it;rcases AaD (v:=val it) (by omega)with⟨_,h⟩|⟨h,_,_⟩
 ·exact absurd ⟨rfl,rfl,h3⟩ h
 ·rw[hps,hc]at h;obtain⟨b,hb,_,hb2⟩:=SM (w:=val it) (v:=val it) (by omega);rw[h,hb,hb2 rfl];rfl
def exQ:Aoy:=r14_Example.getD default
def AiG:AoB:={ Za:=8,Ref:={ Zb:=0,No:=0 },Zn1:=0,Zb1:=0,Zc:=0,Zo1:=0,Zw:=3,To:=0,Code:=1,Zp1:=0,Zq1:=0,Zr1:=0,Zs1:=0,Zt1:=[],Zu1:=[] }
def AkP:AoB:={ Za:=8,Ref:={ Zb:=0,No:=0 },Zn1:=0,Zb1:=0,Zc:=0,Zo1:=0,Zw:=3,To:=0,Code:=2,Zp1:=0,Zq1:=0,Zr1:=0,Zs1:=0,Zt1:=[],Zu1:=[] }
def Alb:AoB:={ Za:=14,Ref:={ Zb:=0,No:=1 },Zn1:=0,Zb1:=0,Zc:=0,Zo1:=0,Zw:=0,To:=0,Code:=0,Zp1:=0,Zq1:=0,Zr1:=0,Zs1:=0,Zt1:=[],Zu1:=[] }
def bk0:AoF:={ Zy1:=[],Zz1:=[] }
def Aep:AoD:={ Zb:=0,No:=1,Zv1:=⟨[(0:UInt8),0,0,0,0,0,0,0,0,0,0,0,0,0,0,0,0,0,0,0,0,0,0,0,0,0,0,0,0,0,0,0],rfl⟩,Zw1:=5,Zx1:=AiG,Sig:={ C:=132576837295297174,S:=235879338771529970 } }
def Aln:AoD:={ Zb:=0,No:=1,Zv1:=⟨[(0:UInt8),0,0,0,0,0,0,0,0,0,0,0,0,0,0,0,0,0,0,0,0,0,0,0,0,0,0,0,0,0,0,0],rfl⟩,Zw1:=5,Zx1:=AkP,Sig:={ C:=1010642900596539425,S:=208674642754336471 } }
def Amq:AoD:={ Zb:=0,No:=2,Zv1:=⟨[(20:UInt8),74,221,126,247,131,164,99,193,192,56,34,114,40,146,82,204,54,168,83,74,158,104,72,195,63,51,126,164,162,16,232],rfl⟩,Zw1:=6,Zx1:=Alb,Sig:={ C:=531156149537135704,S:=378193558781781181 } }
def AlL:AoD:={ Zb:=0,No:=0,Zv1:=(Arr.rep 32 (0:UInt8)),Zw1:=0,Zx1:={ Za:=0,Ref:={ Zb:=0,No:=0 },Zn1:=0,Zb1:=0,Zc:=0,Zo1:=0,Zw:=0,To:=0,Code:=0,Zp1:=0,Zq1:=0,Zr1:=0,Zs1:=0,Zt1:=([]:List UInt8),Zu1:=[] },Sig:={ C:=(0:UInt64),S:=(0:UInt64) } }
def bk1:AoF:={ Zy1:=[[Aep],[]],Zz1:=[] }
def bk2:AoF:={ Zy1:=[[Aep],[]],Zz1:=[{ A:=Aep,B:=Aln }] }
def bk3:AoF:={ Zy1:=[[Aep,Amq],[]],Zz1:=[] }
theorem Aeo{p:Aoy}{d1 d2:AoB}{R S T Z1 Z2 Z3:AoD}{b1 b2 b3:AoF}{l1 l2 l3:List AoI}(hp:r14_Example=some p)(h1:BZ 1=some d1)(h2:BZ 2=some d2) (n1:B3 p { Zy1:=[],Zz1:=[] } 0 7 5 d1=some (R,0)) (a1:Bv p { Zy1:=[],Zz1:=[] } R=some (b1,0)) (a2:Bv p b1 R=some (b1,0)) (n2:B3 p b1 0 7 4 d1=some (Z1,140)) (n3:B3 p { Zy1:=[],Zz1:=[] } 0 7 5 d2=some (S,0)) (a3:Bv p b1 S=some (b2,0)) (n4:B3 p { Zy1:=[],Zz1:=[] } 0 8 5 d1=some (Z2,30)) (n5:B3 p b1 0 7 6 { Za:=14,Ref:={ Zb:=0,No:=1 },Zn1:=0,Zb1:=0,Zc:=0,Zo1:=0,Zw:=0,To:=0,Code:=0,Zp1:=0,Zq1:=0,Zr1:=0,Zs1:=0,Zt1:=[],Zu1:=[] }=some (T,0)) (a4:Bv p b1 T=some (b3,0)) (n6:B3 p { Zy1:=[],Zz1:=[] } 0 7 5 { Za:=14,Ref:={ Zb:=0,No:=1 },Zn1:=0,Zb1:=0,Zc:=0,Zo1:=0,Zw:=0,To:=0,Code:=0,Zp1:=0,Zq1:=0,Zr1:=0,Zs1:=0,Zt1:=[],Zu1:=[] }=some (Z3,110)) (c1:R.No=1) (c2:R.Zv1=⟨[(0:UInt8),0,0,0,0,0,0,0,0,0,0,0,0,0,0,0,0,0,0,0,0,0,0,0,0,0,0,0,0,0,0,0],rfl⟩) (c3:b1.Zy1.length=2) (c4:(nth b1.Zy1 0).length=1) (s1:Kh b1 b1=some true) (c5:b2.Zz1.length=1) (f1:CF b2 0=some 1) (f2:CF b1 0=some 0) (r1:Bz b2=some l1) (q1:l1.length=0) (r2:Bz b1=some l2) (q2:l2.length=1) (r3:Bz b3=some l3) (q3:l3.length=0):law14_sane=some true:=by
 have k0:InR 0 2:=by decide
 have k1:((2:Nat):Int)=2:=rfl;have k2:((1:Nat):Int)=1:=rfl;have k3:((0:Nat):Int)=0:=rfl;unfold law14_sane;simp only[hp,h1,h2,AoP,n1,a1,a2,n2,n3,a3,n4,n5,a4,n6,c1,c2,c3,c4,s1,c5,f1,f2,r1,q1,r2,q2,r3,q3,k1,k2,k3,beq_self_eq_true,Aqe,AoO k0]
theorem e_ex:r14_Example=some exQ:=by kernel_rfl
theorem e_d1:BZ 1=some AiG:=rfl
theorem e_d2:BZ 2=some AkP:=rfl
theorem e_n1:B3 exQ bk0 0 7 5 AiG=some (Aep,0):=by decide +kernel
theorem e_a1:Bv exQ bk0 Aep=some (bk1,0):=by decide +kernel
theorem e_a2:Bv exQ bk1 Aep=some (bk1,0):=by decide +kernel
theorem e_n2:B3 exQ bk1 0 7 4 AiG=some (AlL,140):=by decide +kernel
theorem e_n3:B3 exQ bk0 0 7 5 AkP=some (Aln,0):=by decide +kernel
theorem e_a3:Bv exQ bk1 Aln=some (bk2,0):=by decide +kernel
theorem e_n4:B3 exQ bk0 0 8 5 AiG=some (AlL,30):=by decide +kernel
theorem e_n5:B3 exQ bk1 0 7 6 Alb=some (Amq,0):=by decide +kernel
theorem e_a4:Bv exQ bk1 Amq=some (bk3,0):=by decide +kernel
theorem e_n6:B3 exQ bk0 0 7 5 Alb=some (AlL,110):=by decide +kernel
theorem e_s1:Kh bk1 bk1=some true:=by decide +kernel
theorem e_f1:CF bk2 0=some 1:=by decide +kernel
theorem e_f2:CF bk1 0=some 0:=by decide +kernel
theorem e_r1:(Bz bk2)=some []:=by decide +kernel
theorem e_r2:(Bz bk1).map List.length=some 1:=by decide +kernel
theorem e_r3:(Bz bk3)=some []:=by decide +kernel
theorem Aed:law14_sane=some true:=by
 obtain⟨l,hl,hr⟩:∃l,Bz bk1=some l∧l.length=1:=by
  have:=e_r2;cases h:Bz bk1 with
  |none=>rw[h]at this;cases this
  |some l=>rw[h]at this;exact⟨l,rfl,by simpa using this⟩
 exact Aeo e_ex e_d1 e_d2 e_n1 e_a1 e_a2 e_n2 e_n3 e_a3 e_n4 e_n5 e_a4 e_n6 rfl rfl rfl rfl e_s1 rfl e_f1 e_f2 e_r1 rfl hl hr e_r3 rfl
set_option maxHeartbeats 1000000
variable{v:AoG}{r:AoD}
def UE(u:UInt64)(l:List UInt8):UInt64:=l.foldl (fun n b=>Fs n ((8:UInt64)).toNat ||| b.toUInt64) u
theorem RV(l:List UInt8)(h:l.length≤8):(UE 0 l).toNat=Kc.valD l:=by
 revert h;refine Kc.revInd (p:=fun l=>l.length≤8→(UE 0 l).toNat=Kc.valD l) (fun _=>rfl) (fun l c ih h=>?_) l;rw[Ao7,AqX]at h;have h1:=ih (by omega);have h2:=Kc.valD_lt l;have h3:256^l.length≤256^7:=AqG (by decide) (by omega);unfold UE at h1 ⊢;rw[ArL,Kc.valD_app,←h1];exact Kc.shl_or _ c (by rw[h1];omega)
theorem Yo(n:UInt64){k:Nat}(hk:k<8):Uj n k=UInt8.ofNat (n.toNat/256^(7-k)):=by
 apply Aqq.1;unfold Uj;rw[Arn,KM,Kc.toNat_ofNat8,←Kc.pow2_256,show 8*(7-k)=56-8*k by omega]
theorem RI(n:UInt64):BC n=Kc.dig 8 n.toNat:=by
 refine ApI fun i=>?_
 by_cases hi:i<8
 ·rw[Kc.dig_get 8 n.toNat i hi];unfold BC;rw[Ao4,ApY hi];show some (Uj n i)=_;rw[Yo n hi]
 ·rw[Apy (by simp[BC];omega),Apy (by rw[Kc.dig_len];omega)]
theorem PB{l:List UInt8}(h:l.length=8):BC (UE 0 l)=l:=by
 rw[RI,RV l (by omega),←h,Kc.dig_valD]
theorem XI(n:UInt64):UE 0 (BC n)=n:=by
 apply AqO.1;rw[RV _ (by simp[BC]),RI,Kc.valD_dig _ _ n.toNat_lt]
theorem J4(v:AoG)(h:v.B.length≤1000000):DX v=some (UE 0 v.B,(v.Za==2)&&decide ((v.B.length:Int)=8)):=by
 have hl:=JZ v.B (fun(s:UInt64×Int)=>CU v s.1 s.2) (fun k s=>(s,k)) (fun n b=>Fs n ((8:UInt64)).toNat ||| b.toUInt64) id (0:UInt64) (by omega) (fun k s hk=>?_) (fun s=>?_)
 ·unfold DX;rw[hl];simp only[AoP];rw[show(if(v.Za==2)then some ((v.B.length:Int)==8)else some false:Option Bool)=some ((v.Za==2)&&((v.B.length:Int)==8))from AmF _ _,AoP];have e:((v.B.length:Int)==8)=decide ((v.B.length:Int)=8):=by rw[ApK];simp
  rw[e];rfl
 ·simp only;unfold CU;rw[AoO (Apo (by omega)),AoO (DM hk)];simp only[CE,Apa];rw[Hm (by omega)]
 ·simp only;unfold CU;rw[AoQ (by simp)];rfl
theorem Ae4(l:List AoG):Kc.shpV (lV l)=Kc.shpL 0 l:=by
 rw[lV,Kc.shpV,AoQ (by decide),AoQ (by decide),AoO rfl,AoO ⟨rfl,rfl⟩]
theorem Yc(n:Int):Kc.shpV (iV n)=(0,true):=by simp[iV,Kc.shpV]
theorem AbQ(s:List UInt8):Kc.shpV (tV s)=(0,true):=by simp[tV,Kc.shpV]
theorem PA{d:Int}{x:AoG}{l:List AoG}(h0:0≤d)(hx:Kc.shpV x=(0,true)):Kc.shpL d (x::l)=Kc.shpL d l:=by
 rw[Kc.shpL_cons,hx,AoO rfl];have:Hn d 0=d:=by simp only[Hn];split<;>omega
 rw[this]
theorem Ql(r:AoD):∃e,Kc.shpV (lV (EK r))=(e,true)∧e≤6:=by
 obtain⟨e,h1,h2,h3⟩:=UG r.Zx1;rw[Ae4];unfold EK;rw[PA (by omega) (Yc _),PA (by omega) (Yc _),PA (by omega) (AbQ _),PA (by omega) (Yc _),Kc.shpL_cons,h1,AoO rfl,Kc.shpL_nil];exact⟨_,rfl,by simp only[Hn];split<;>omega⟩
theorem Abb(r:AoD):∃e,Kc.shpV (R7 r)=(e,true)∧e≤6:=by
 obtain⟨e,h1,h2,h3⟩:=UG r.Zx1
 have h4:Kc.shpV (lV [tV (BC r.Sig.C),tV (BC r.Sig.S)])=(1,true):=by
  rw[Ae4,PA (by omega) (AbQ _),PA (by omega) (AbQ _),Kc.shpL_nil];rfl
 unfold R7;rw[Ae4];unfold EK;simp only[Ao5,ApC];rw[PA (by omega) (Yc _),PA (by omega) (Yc _),PA (by omega) (AbQ _),PA (by omega) (Yc _),Kc.shpL_cons,h1,AoO rfl,Kc.shpL_cons,h4,AoO rfl,Kc.shpL_nil];exact⟨_,rfl,by simp only[Hn];split<;>split<;>omega⟩
theorem AdH{e:Int}(h1:Kc.shpV v=(e,true))(h2:e≤6)(h3:(Kc.encV v).length≤65536):Kc.Enc v=(Kc.encV v,0):=by
 unfold Kc.Enc;rw[h1,AoO rfl,AoQ (by simp only;omega),AoQ (by omega)]
theorem AeL{w:AoG}(hv:∃e,Kc.shpV v=(e,true)∧e≤6)(hw:∃e,Kc.shpV w=(e,true)∧e≤6)(ov:Kc.okV v)(ow:Kc.okV w)(h3:(Kc.encV v).length≤65536)(h:Kc.encV v=Kc.encV w):v=w:=by
 obtain⟨e,a1,a2⟩:=hv;obtain⟨f,b1,b2⟩:=hw;have d1:=Kc.decode_enc (show Kc.wfV v by unfold Kc.wfV;rw[a1]) ov (by rw[a1];simp only;omega) h3;have d2:=Kc.decode_enc (show Kc.wfV w by unfold Kc.wfV;rw[b1]) ow (by rw[b1];simp only;omega) (by rw[←h];exact h3);rw[h,d2]at d1;exact(ApW Prod.fst (AoR d1)).symm
theorem Kd(h:Small r.Zx1):(Kc.encV (lV (EK r))).length≤65536∧(Kc.encV (R7 r)).length≤65536:=by
 have h1:=h.text;have h2:=h.parts;have h3:=Kc.encV_len (lV (EK r));have h4:=Kc.encV_len (R7 r);rw[QP]at h3;rw[ZR]at h4;exact⟨by omega,by omega⟩
theorem V7(h:Small r.Zx1):Kc.Enc (lV (EK r))=(Kc.encV (lV (EK r)),0):=by
 obtain⟨e,h1,h2⟩:=Ql r;exact AdH h1 h2 (Kd h).1
theorem Ae1(h:Small r.Zx1):Kc.Enc (R7 r)=(Kc.encV (R7 r),0):=by
 obtain⟨e,h1,h2⟩:=Abb r;exact AdH h1 h2 (Kd h).2
def OkR(r:AoD):Prop:=Kc.okV (R7 r)
theorem Wz(h:OkR r):Kc.okV (lV (EK r)):=by
 obtain⟨h1,h2,h3⟩:=(Kc.okV_eq _).1 h;exact(Kc.okV_eq _).2 ⟨h1,h2,fun x hx=>h3 x (ApU _ hx)⟩
theorem Afv{a b:AoB}(h:val a=val b):a=b:=z_val.1 (by rw[h];exact MU _)
theorem Abs{s:AoD}(h:lV (EK r)=lV (EK s))(hs:r.Sig=s.Sig):r=s:=by
 unfold EK at h;simp only[lV,iV,tV,AoG.mk.injEq,Arx,true_and,Ara]at h;obtain⟨h1,h2,h3,h4,h5⟩:=h;have h6:=Afv h5;rcases r with⟨a1,a2,⟨a3,a3h⟩,a4,a5,a6⟩
 rcases s with⟨b1,b2,⟨b3,b3h⟩,b4,b5,b6⟩
 simp only at h1 h2 h3 h4 h6 hs;subst h1 h2 h3 h4 h6 hs;rfl
def AbY:AoD:={ Zb:=0,No:=0,Zv1:=(Arr.rep 32 (0:UInt8)),Zw1:=0,Zx1:={ Za:=0,Ref:={ Zb:=0,No:=0 },Zn1:=0,Zb1:=0,Zc:=0,Zo1:=0,Zw:=0,To:=0,Code:=0,Zp1:=0,Zq1:=0,Zr1:=0,Zs1:=0,Zt1:=([]:List UInt8),Zu1:=[] },Sig:={ C:=0,S:=0 } }
theorem AfH(h:Kc.wfV v)(k:v.Za=1):v=iV v.N:=by
 rcases Kc.wf_cases h with e|e|⟨e,_⟩
 ·exact e
 ·rw[e]at k;exact absurd k (show ¬(2:Int)=1 by decide)
 ·rw[e]at k;exact absurd k (show ¬(3:Int)=1 by decide)
theorem AeI(h:Kc.wfV v)(k:v.Za=2):v=tV v.B:=by
 rcases Kc.wf_cases h with e|e|⟨e,_⟩
 ·rw[e]at k;exact absurd k (show ¬(1:Int)=2 by decide)
 ·exact e
 ·rw[e]at k;exact absurd k (show ¬(3:Int)=2 by decide)
theorem Ah8(h:Kc.wfV v)(k:v.L≠[]):v=lV v.L∧∀x∈v.L,Kc.wfV x:=by
 rcases Kc.wf_cases h with e|e|⟨e,w⟩
 ·rw[e]at k;exact absurd rfl k
 ·rw[e]at k;exact absurd rfl k
 ·exact⟨e,w⟩
theorem len6{α:Type}:∀{l:List α},l.length=6→∃a b c d e f,l=[a,b,c,d,e,f]
 |[a,b,c,d,e,f],_=>⟨a,b,c,d,e,f,rfl⟩
theorem len2{α:Type}:∀{l:List α},l.length=2→∃a b,l=[a,b]
 |[a,b],_=>⟨a,b,rfl⟩
theorem AbJ{b:List UInt8}(hd:BQ b=some (v,0))(hw:Kc.wfV v)(hs:Kc.szV v≤1000000) :Ch b=some (AbY,10)∨∃y,Ch b=some (y,0)∧R7 y=v∧y.Zx1.Zu1.length≤2000000∧y.Zx1.Zt1.length≤2000000:=by
 have hsz:=Kc.szV_eq v;unfold Ch;rw[hd,AoP,AoQ (show ¬((0:Int) != 0)=true by decide)];by_cases h6:v.L.length=6
 case neg=>
  left;rw[AoO (show((v.L.length:Int) != 6)=true by simp;omega),AoP,AoO rfl];rfl
 rw[AoQ (show ¬((v.L.length:Int) != 6)=true by simp[h6])];obtain⟨a,bb,c,d,e,f,hL⟩:=len6 h6;obtain⟨hv1,hv2⟩:=Ah8 hw (by rw[hL];simp);have n0:nth v.L 0=a:=by rw[hL];rfl
 have n1:nth v.L 1=bb:=by rw[hL];rfl
 have n2:nth v.L 2=c:=by rw[hL];rfl
 have n3:nth v.L 3=d:=by rw[hL];rfl
 have n4:nth v.L 4=e:=by rw[hL];rfl
 have n5:nth v.L 5=f:=by rw[hL];rfl
 have hin:∀k:Nat,k<6→InR (k:Int) v.L.length:=fun k hk=>⟨by omega,by rw[h6];simpa using hk⟩
 have i0:InR 0 v.L.length:=hin 0 (by omega);have i1:InR 1 v.L.length:=hin 1 (by omega);have i2:InR 2 v.L.length:=hin 2 (by omega);have i3:InR 3 v.L.length:=hin 3 (by omega);have i4:InR 4 v.L.length:=hin 4 (by omega);have i5:InR 5 v.L.length:=hin 5 (by omega);simp only[AoO i0,AoO i1,AoO i2,AoO i3,AoO i4,AoO i5,n0,n1,n2,n3,n4,n5,YN,EW,CE];by_cases hc:(a.Za != 1||(bb.Za != 1||(c.Za != 2||((c.B.length:Int) != 32||(d.Za != 1||(f.L.length:Int) != 2)))))=true
 ·rw[AoO hc];left;rfl
 rw[AoQ hc];simp only[Apu,not_or,Ars,ne_eq,Decidable.not_not]at hc;obtain⟨c1,c2,c3,c4,c5,c6⟩:=hc;have hm:∀x∈v.L,Kc.szV x≤1000000:=fun x hx=>by have:=Kc.szVs_mem hx;omega
 have w:∀x∈[a,bb,c,d,e,f],Kc.wfV x∧Kc.szV x≤1000000:=by rw[←hL];exact fun x hx=>⟨hv2 x hx,hm x hx⟩
 obtain⟨g,g',hf⟩:=len2 (l:=f.L) (by omega);have m0:nth f.L 0=g:=by rw[hf];rfl
 have m1:nth f.L 1=g':=by rw[hf];rfl
 have j0:InR 0 f.L.length:=⟨by omega,by rw[hf];simp⟩;have j1:InR 1 f.L.length:=⟨by omega,by rw[hf];simp⟩;obtain⟨wf1,wf2⟩:=Ah8 (w f (by simp)).1 (by rw[hf];simp);have hszf:=Kc.szV_eq f
 have sf:∀x∈f.L,x.B.length≤1000000:=fun x hx=>by
  have h1:=Kc.szVs_mem hx;have h2:=(w f (by simp)).2;have h3:=Kc.szV_eq x;omega
 have u1:=J4 g (sf g (by rw[hf];simp));have u2:=J4 g' (sf g' (by rw[hf];simp));have ib:InB 32 c.B.length:=⟨by omega,by omega⟩;simp only[AoO j0,AoO j1,m0,m1,AoO ib];rcases YA (v:=e) (by have:=(w e (by simp)).2;omega)with hF|⟨it,hF,hv4,hp,ht⟩
 ·left;rw[hF,AoP,u1,AoP,u2,AoP,AoO (by simp)];rfl
 rw[hF,AoP,u1,AoP,u2,AoP];by_cases hg:g.Za=2∧g.B.length=8∧g'.Za=2∧g'.B.length=8
 case neg=>
  left;rw[AoO (by simp only[Apu,Ars,ne_eq,AqJ,Ap7,Aql,ApJ];omega)];rfl
 obtain⟨g1,g2,g3,g4⟩:=hg;right;rw[AoQ (by simp[g1,g2,g3,g4])];refine⟨_,rfl,?_,hp,ht⟩;have e0:=AfH (w a (by simp)).1 c1;have e1:=AfH (w bb (by simp)).1 c2;have e2:=AeI (w c (by simp)).1 c3;have e3:=AfH (w d (by simp)).1 c5;have e5:=AeI (wf2 g (by rw[hf];simp)) g1;have e6:=AeI (wf2 g' (by rw[hf];simp)) g3
 have ea:(S8 32 (0:UInt8) c.B).l=c.B:=by
  rw[Tu (by omega),Aps (by omega)]
 unfold R7 EK;simp only[Ao5,ApC];rw[hv4,PB g2,PB g4,ea,←e0,←e1,←e2,←e3,←e5,←e6,←hf,←wf1,←hL];exact hv1.symm
theorem Abt(b:List UInt8):∃v e,BQ b=some (v,e)∧(e≠0∨(e=0∧Kc.wfV v∧Kc.okV v∧b=Kc.encV v∧(Kc.shpV v).1≤16∧b.length≤65536)):=by
 obtain⟨⟨v,e⟩,h1,h2⟩:=Kc.decode_ex b;refine⟨v,e,h2,?_⟩;rcases Kc.dec_inv h1 with⟨_,h⟩|h
 ·left;simp only at h;omega
 ·exact .inr h
theorem Adf(h:Small r.Zx1)(ho:OkR r):Ch (Kc.encV (R7 r))=some (r,0):=by
 obtain⟨e,a1,a2⟩:=Abb r;have hd:=Kc.decode_enc (show Kc.wfV (R7 r) by unfold Kc.wfV;rw[a1]) ho (by rw[a1];simp only;omega) (Kd h).2;have h1:=h.text;have h2:=h.parts;have hF:=Abz (it:=r.Zx1) (by omega) (by omega);have hw:∀n,(BC n).length=8:=fun n=>by simp[BC]
 have u:∀n,DX (tV (BC n))=some (n,true):=fun n=>by
  rw[J4 _ (by show(BC n).length≤_;rw[hw];omega)];show some (UE 0 (BC n),(true&&decide (((BC n).length:Int)=8)))=_;rw[XI,hw];rfl
 have ea:S8 32 (0:UInt8) r.Zv1.l=r.Zv1:=by
  have:(S8 32 (0:UInt8) r.Zv1.l).l=r.Zv1.l:=by rw[Tu (by rw[r.Zv1.h];omega),Aps (by rw[r.Zv1.h];omega)]
  generalize S8 32 (0:UInt8) r.Zv1.l=z at this;rcases z with⟨z,hz⟩
  rcases hp:r.Zv1 with⟨q,hq⟩
  rw[hp]at this;simp only at this;subst this;rfl
 have hB:InB 32 r.Zv1.l.length:=⟨by omega,by rw[r.Zv1.h];decide⟩;unfold Ch;rw[hd,AoP,AoQ (show ¬((0:Int) != 0)=true by decide)];have hL:(R7 r).L=[iV r.Zb,iV r.No,tV r.Zv1.l,iV r.Zw1,val r.Zx1,lV [tV (BC r.Sig.C),tV (BC r.Sig.S)]]:=rfl;simp only[hL];have i:∀k:Nat,k<6→InR (k:Int) ([iV r.Zb,iV r.No,tV r.Zv1.l,iV r.Zw1,val r.Zx1,lV [tV (BC r.Sig.C),tV (BC r.Sig.S)]]:List AoG).length:=fun k hk=>⟨by omega,by simpa using hk⟩
 rw[AoQ (by simp)];have i0:=i 0 (by omega);have i1:=i 1 (by omega);have i2:=i 2 (by omega);have i3:=i 3 (by omega);have i4:=i 4 (by omega);have i5:=i 5 (by omega);have n0:nth [iV r.Zb,iV r.No,tV r.Zv1.l,iV r.Zw1,val r.Zx1,lV [tV (BC r.Sig.C),tV (BC r.Sig.S)]] 0=iV r.Zb:=rfl;have n1:nth [iV r.Zb,iV r.No,tV r.Zv1.l,iV r.Zw1,val r.Zx1,lV [tV (BC r.Sig.C),tV (BC r.Sig.S)]] 1=iV r.No:=rfl;have n2:nth [iV r.Zb,iV r.No,tV r.Zv1.l,iV r.Zw1,val r.Zx1,lV [tV (BC r.Sig.C),tV (BC r.Sig.S)]] 2=tV r.Zv1.l:=rfl;have n3:nth [iV r.Zb,iV r.No,tV r.Zv1.l,iV r.Zw1,val r.Zx1,lV [tV (BC r.Sig.C),tV (BC r.Sig.S)]] 3=iV r.Zw1:=rfl;have n4:nth [iV r.Zb,iV r.No,tV r.Zv1.l,iV r.Zw1,val r.Zx1,lV [tV (BC r.Sig.C),tV (BC r.Sig.S)]] 4=val r.Zx1:=rfl;have n5:nth [iV r.Zb,iV r.No,tV r.Zv1.l,iV r.Zw1,val r.Zx1,lV [tV (BC r.Sig.C),tV (BC r.Sig.S)]] 5=lV [tV (BC r.Sig.C),tV (BC r.Sig.S)]:=rfl;generalize[iV r.Zb,iV r.No,tV r.Zv1.l,iV r.Zw1,val r.Zx1,lV [tV (BC r.Sig.C),tV (BC r.Sig.S)]]=L at *;simp only[Int.ofNat_zero,Int.cast_ofNat_Int]at i0 i1 i2 i3 i4 i5;have j0:InR 0 (lV [tV (BC r.Sig.C),tV (BC r.Sig.S)]).L.length:=⟨by omega,show(0:Nat)<2 by omega⟩;have j1:InR 1 (lV [tV (BC r.Sig.C),tV (BC r.Sig.S)]).L.length:=⟨by omega,show(1:Nat)<2 by omega⟩;have p0:(lV [tV (BC r.Sig.C),tV (BC r.Sig.S)]).L.length=2:=rfl;have q0:nth (lV [tV (BC r.Sig.C),tV (BC r.Sig.S)]).L 0=tV (BC r.Sig.C):=rfl;have q1:nth (lV [tV (BC r.Sig.C),tV (BC r.Sig.S)]).L 1=tV (BC r.Sig.S):=rfl;have k0:∀n,(iV n).Za=1:=fun _=>rfl
 have k2:(tV r.Zv1.l).Za=2:=rfl;have kb:(tV r.Zv1.l).B=r.Zv1.l:=rfl;have kn:∀n,(iV n).N=n:=fun _=>rfl
 simp only[AoO i0,AoO i1,AoO i2,AoO i3,AoO i4,AoO i5,AoO j0,AoO j1,n0,n1,n2,n3,n4,n5,q0,q1,k0,k2,kb,kn,AoO hB,YN,EW,CE,hF,u,ea,p0,r.Zv1.h];rfl
theorem YC(r s:AoD)(m:List UInt8)(hr:OkR r)(hs:OkR s):Ce r s m=some true:=by
 unfold Ce;rw[Aed,AoP,AoQ (by simp),VB,AoP];by_cases h1:Qh r.Zx1=true
 case neg=>rw[AoO (by simpa using h1),AoP,AoO rfl]
 rw[AoQ (by simpa using h1),VB,AoP];by_cases h2:Qh s.Zx1=true
 case neg=>rw[AoO (by simpa using h2),AoP,AoO rfl]
 rw[AoQ (by simpa using h2),AoP];by_cases h3:(m.length:Int)>2000
 ·rw[AoO (Apo h3)]
 rw[AoQ (by simpa using h3)];have sr:=V1 h1;have ss:=V1 h2;have pr:=sr.parts;have ps:=ss.parts;rw[X6 sr,Ae1 sr,AoP,Adf sr hr,AoP,AoQ (by simp),AoQ (by simp),Rk (a:=(r,(0:Int)).1) (by simp only;omega),AoP,Apo rfl,AoP,AoQ (by simp)];rw[Y9 sr,Y9 ss,V7 sr,V7 ss,AoP,AoP,AoQ (by simp),AoQ (by simp),Rk (by omega),AoP,AoP]
 have hq:(if(Kc.encV (lV (EK r))==Kc.encV (lV (EK s)))then some (!(((r.Sig.C==s.Sig.C)&&(r.Sig.S==s.Sig.S))==decide (r=s)))else some (!(false==decide (r=s))):Option Bool)=some false:=by
  by_cases he:r=s
  ·subst he;simp
  ·rw [ApE he];by_cases hb:Kc.encV (lV (EK r))=Kc.encV (lV (EK s))
   ·rw [AoO (by simpa using hb)];have hv:=AeL (Ql r) (Ql s) (Wz hr) (Wz hs) (Kd sr).1 hb;by_cases hg:r.Sig=s.Sig
    ·exact absurd (Abs hv hg) he
    ·have:((r.Sig.C==s.Sig.C)&&(r.Sig.S==s.Sig.S))=false:=by
      rw[Ap7,Aql,Aql];by_cases h4:r.Sig.C=s.Sig.C
      ·refine .inr fun h5=>hg ?_
       rcases h6:r.Sig with⟨x,y⟩
       rcases h7:s.Sig with⟨x',y'⟩
       rw[h6,h7]at h4 h5;simp only at h4 h5;rw[h4,h5]
      ·exact .inl h4
     rw[this];rfl
   ·rw[AoQ (by simpa using hb)];rfl
 rw[hq,AoP,AoQ (by simp)];obtain⟨v,e,d1,d2⟩:=Abt m;have zero_ok:Bj AbY AbY=some true:=by rw[Rk (by show(0:Nat)≤_;omega),Apo rfl]
 rcases d2 with d2|⟨rfl,w1,w2,w3,w4,w5⟩
 ·have hx:Ch m=some (AbY,e):=by
   unfold Ch;rw[d1,AoP,AoO (by simpa using d2)];rfl
  rw[hx,AoP,AoO (by simpa using d2)];exact(ApW (fun o:Option Bool=>o.bind fun y=>some y) zero_ok).trans rfl
 have hsz:=Kc.sz_enc v w1;rw[←w3]at hsz;rcases AbJ d1 w1 (by omega)with hx|⟨y,hx,hy,hp,ht⟩
 ·rw[hx,AoP,AoO (by decide)];exact(ApW (fun o:Option Bool=>o.bind fun y=>some y) zero_ok).trans rfl
 rw[hx,AoP,AoQ (by simp)]
 have hE:CG y=some (m,0):=by
  unfold CG;rw[J7 hp,AoP,Rs,AoP,Rs,AoP];show(some (lV [tV (BC y.Sig.C),tV (BC y.Sig.S)])).bind _=_;rw[AoP,AoO (Ni (by simp[EK]))];show(some (R7 y)).bind _=_;rw[AoP,hy,Kc.encode_eq _ (by omega)];unfold Kc.Enc;rw[AoO (show(Kc.shpV v).2=true from w1),AoQ (by omega),AoQ (by rw[←w3];omega),←w3];rfl
 rw[hE,AoP,AoO (by simp),AoP];simp
theorem AdW{r:AoD}(h:H6 r):OkR r:=by
 obtain⟨a1,a2,_,a3,⟨b1,⟨b2,b3,_⟩,b4,b5,b6,b7,b8,b9,b10,b11,b12,b13,b14,b15,b16,_⟩,_⟩:=h
 have hp:∀l:List AoA,(∀x∈l,Kz x)→∀v∈l.map GN,Kc.okV v:=by
  intro l hl v hv;obtain⟨x,hx,rfl⟩:=ApT.1 hv;obtain⟨c1,c2,_⟩:=hl x hx;have e:Kc.rangeI (if x.Zm1=true then 1 else 0):=by unfold Kc.rangeI;split<;>omega
  simp only[GN,lV,iV,Kc.okV,Kc.okVs,Ara];exact⟨by unfold Kc.rangeI;omega,by unfold Kc.rangeI;omega,⟨by unfold Kc.rangeI;omega,c1⟩,⟨by unfold Kc.rangeI;omega,c2⟩,by unfold Kc.rangeI;omega,e⟩
 have hq:=(Kc.okVs_all _).2 (hp r.Zx1.Zu1 b16.2);have z:∀n:Int,0≤n→n≤3→Kc.rangeI n:=fun n h1 h2=>by unfold Kc.rangeI;omega
 unfold OkR R7 EK val X1;simp only[lV,iV,tV,Kc.okV,Kc.okVs,Ao5,ApC,Ara];simp only[show Kc.rangeI 0 from z 0 (by omega) (by omega),show Kc.rangeI 1 from z 1 (by omega) (by omega),show Kc.rangeI 2 from z 2 (by omega) (by omega),show Kc.rangeI 3 from z 3 (by omega) (by omega),true_and,Ara];exact⟨a1,a2,a3,b1,⟨b2,b3⟩,b4,b5,b6,b7,b8,b9,b10,b11,b12,b13,b14,hq⟩
theorem W8{r:AoD}(hr:H6 r){s:AoD}(hs:H6 s){m:List UInt8}(_:m.length≤maxLen∧∀t∈m,True):Ce r s m=some true:=YC r s m (AdW hr) (AdW hs)
end Go.Proofs.YtioapcamanmoiaaGreatDoor
