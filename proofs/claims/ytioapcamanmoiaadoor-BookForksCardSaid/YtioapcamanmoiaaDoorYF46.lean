/-
  Part 46.
-/
import Derived.Test.YtioapcamanmoiaaDoorYF43
import Derived.Test.YtioapcamanmoiaaDoorYF44
import Derived.Test.YtioapcamanmoiaaDoorYF45
import Derived.KernelRfl
namespace Go.Proofs.YtioapcamanmoiaaDoor
open Go.Rv
set_option linter.unusedVariables false
set_option linter.unusedSimpArgs false
set_option maxRecDepth 100000
variable{r:AkH}
theorem TG{n:Nat}(h:n≤2100000):Dj n 64:=⟨Amm h (by decide),Amm (AkY 64 h) (by decide)⟩
def iV(n:Int):AkK:=AkK.mk 1 n [] []
def tV(s:List UInt8):AkK:=AkK.mk 2 0 s []
def lV(l:List AkK):AkK:=AkK.mk 3 0 [] l
def Np(x:AkE):AkK:=lV [iV x.Za,iV x.Zl1,iV (if x.Zm1=true then 1 else 0)]
def AbM(it:AkF):List AkK:=[iV it.Za,lV [iV it.Ref.Zb,iV it.Ref.No],iV it.Zn1,iV it.Zb1,iV it.Zc,iV it.Zo1,iV it.Zw,iV it.To,iV it.Code,iV it.Zp1,iV it.Zq1,iV it.Zr1,iV it.Zs1]
def val(it:AkF):AkK:=lV (AbM it++[tV it.Zt1,lV (it.Zu1.map Np)])
theorem map_take{α β:Type}[Inhabited α](f:α→β)(l:List α)(k:Nat)(hk:k<l.length):(l.take (k+1)).map f=(l.take k).map f++[f (nth l k)]:=by
 have h:l.take (k+1)=l.take k++[nth l k]:=by
  rw[AmR,AkR hk];simp[nth,AkR hk]
 rw[h];simp
theorem AcZ{it:AkF}(hp:it.Zu1.length≤2000000):A2 (fun(v:Int×List AkK)=>DB it v.1 v.2) (0,[])=some (it.Zu1.map Np):=by
 obtain⟨x,hx,rfl⟩:=E6 (f:=fun(v:Int×List AkK)=>DB it v.1 v.2) it.Zu1.length (fun k v=>v=((k:Int),(it.Zu1.take k).map Np)) (fun x=>x=it.Zu1.map Np) (by omega) (by
  rintro k v hk rfl;refine⟨_,?_,rfl⟩;have hin:InR (k:Int) it.Zu1.length:=⟨by omega,by simpa using hk⟩;unfold DB;rw[AkS (Ak3 (by omega)),AkS hin,Cr (by omega),map_take _ _ k hk];simp only[Ak5,Bv];have e:(if(nth it.Zu1 k).Zm1=true then some 1 else some 0:Option Int)=some (if(nth it.Zu1 k).Zm1=true then 1 else 0):=by split<;>rfl
  rw[e];simp only[AkQ,AL,DO];rw[AkS (TG (by simp;omega))];rfl) (by
  rintro v rfl;refine⟨_,?_,rfl⟩;unfold DB;rw[AkT (by simp)];simp) (v0:=(0,[])) (by simp)
 exact hx
theorem OK{it:AkF}(hp:it.Zu1.length≤2000000):FL it=some (val it):=by
 unfold FL;simp only[AkQ,AL,DO,Gq,edi_list_cnil,L6,Bv,AcZ hp]
 repeat rw[AkS (TG (by simp))]
 simp only[AkQ];rw[AkS (TG (by simp))];rfl
def AaY(n:UInt64)(k:Nat):UInt8:=(Dz n (56-8*k)).toUInt8
def PX(n:UInt64):List UInt8:=(List.range 8).map (AaY n)
def Xq(n:UInt64)(k:Nat):List UInt8:=(List.range 8).map fun j=>if j<k then AaY n j else 0
theorem X4(n:UInt64):∀{k:Nat},k<8→(Xq n k).set k (AaY n k)=Xq n (k+1)
 |0,_=>rfl
 |1,_=>rfl
 |2,_=>rfl
 |3,_=>rfl
 |4,_=>rfl
 |5,_=>rfl
 |6,_=>rfl
 |7,_=>rfl
 |k+8,h=>by omega
theorem XD(n:UInt64):GH n=some (tV (PX n)):=by
 have h:A2 (fun(v:Int×List UInt8)=>DD n (List.replicate 8 (0:UInt8)) v.1 v.2) (0,List.replicate 8 (0:UInt8))=some (PX n):=by
  refine TO 8 (fun(v:Int×List UInt8)=>DD n (List.replicate 8 (0:UInt8)) v.1 v.2) (fun k s=>(k,s)) (Xq n) id (by omega) (fun k hk=>?_) ?_
  ·have e1:w64 (56-w64 (8*(k:Int)))=((56-8*k:Nat):Int):=by rw[B6 (x:=8*(k:Int)) (by omega),B6 (by omega)];omega
   simp only;unfold DD;rw[AkS (Ak3 (by simp;omega)),e1,AkS (by unfold EC;omega),AkS (show InR (k:Int) (Xq n k).length from BH (by simpa [Xq]using hk))];simp only[Bv,Ak5];rw[Cr (by omega),show(Dz n (56-8*k)).toUInt8=AaY n k from rfl,X4 n hk]
  ·simp only;unfold DD;rw[AkT (by simp)];rfl
 unfold GH;rw[AkS (by unfold Mk maxLen Gj;omega)];simp only[Bv];rw[h];rfl
def Lq(r:AkH):List AkK:=[iV r.Zb,iV r.No,tV r.Zv1.l,iV r.Zw1,val r.Zx1]
def W7(r:AkH):AkK:=lV (Lq r++[lV [tV (PX r.Sig.C),tV (PX r.Sig.S)]])
theorem MZ(hp:r.Zx1.Zu1.length≤2000000):DP r=some (Lq r):=by
 unfold DP;rw[OK hp];rfl
theorem XT(n:Int):Kc.szV (iV n)=1:=by rw[Kc.szV_eq];rfl
theorem J3:Kc.szVs []=0:=rfl
theorem EJ(x:AkK)(l:List AkK):Kc.szVs (x::l)=Kc.szV x+Kc.szVs l:=rfl
theorem TV(a b:List AkK):Kc.szVs (a++b)=Kc.szVs a+Kc.szVs b:=by
 induction a with
 |nil=>rw[AlC,J3];omega
 |cons x a ih=>rw[Ale,EJ,EJ,ih];omega
theorem AbU(s:List UInt8):Kc.szV (tV s)=s.length+1:=by rw[Kc.szV_eq];rfl
theorem R3(l:List AkK):Kc.szV (lV l)=1+Kc.szVs l:=by rw[Kc.szV_eq];show 0+1+Kc.szVs l=_;omega
theorem Xt(l:List AkE):Kc.szVs (l.map Np)=4*l.length:=by
  induction l with
  |nil=>rfl
  | cons x l ih=>
    rw[Al6,EJ,ih];unfold Np;rw[R3,EJ,EJ,EJ,J3,XT,XT,XT,Alb];omega
theorem Xg(it:AkF):Kc.szV (val it)=18+it.Zt1.length+4*it.Zu1.length:=by
 unfold val AbM;rw[R3,TV];simp only[EJ,J3,XT,R3,AbU,Xt];omega
theorem Uq(r:AkH):Kc.szV (lV (Lq r))=55+r.Zx1.Zt1.length+4*r.Zx1.Zu1.length:=by
 unfold Lq;rw[R3];simp only[EJ,J3,XT,AbU,Xg,r.Zv1.h];omega
theorem Yn(r:AkH):Kc.szV (W7 r)=74+r.Zx1.Zt1.length+4*r.Zx1.Zu1.length:=by
 have h:=Uq r;rw[R3]at h;have hw:∀n,(PX n).length=8:=fun n=>by simp[PX]
 unfold W7;rw[R3,TV];simp only[EJ,J3,R3,AbU,hw];omega
theorem Yg(h:Small r.Zx1):FP r=some (Kc.Enc (lV (Lq r))):=by
 have h1:=h.text;have h2:=h.parts;unfold FP;rw[MZ (by omega),AkQ];show(some (lV (Lq r))).bind _=_;rw[AkQ,Kc.encode_eq _ (by rw[Uq];omega)];rfl
theorem Vg(h:Small r.Zx1):FV r=some (Kc.Enc (W7 r)):=by
 have h1:=h.text;have h2:=h.parts;unfold FV;rw[MZ (by omega),AkQ,XD,AkQ,XD,AkQ];show(some (lV [tV (PX r.Sig.C),tV (PX r.Sig.S)])).bind _=_;rw[AkQ,AkS (TG (by simp[Lq]))];show(some (W7 r)).bind _=_;rw[AkQ,Kc.encode_eq _ (by rw[Yn];omega)];rfl
theorem Aea(v:AkK):(Kc.Enc v).1.length≤9*Kc.szV v:=by
 unfold Kc.Enc
 repeat' split
 all_goals first|exact Kc.encV_len v|simp
theorem T7(h:Small r.Zx1):∃d,D0 r=some d∧((Kc.Enc (W7 r)).2≠0→d.2=(Kc.Enc (W7 r)).2)∧((Kc.Enc (W7 r)).2=0→d.2=0∧CH [114,101,99,111,114,100] (Kc.Enc (W7 r)).1=some d.1):=by
 have h1:=h.text;have h2:=h.parts;have h3:=Aea (W7 r);rw[Yn]at h3;unfold D0;rw[Vg h,AkQ];by_cases he:(Kc.Enc (W7 r)).2=0
 ·rw[AkT (by simpa using he)];obtain⟨d,hd⟩:=Ku [114,101,99,111,114,100] (Kc.Enc (W7 r)).1 (by simp) (by omega);rw[hd];exact⟨_,rfl,fun h=>absurd he h,fun _=>⟨rfl,rfl⟩⟩
 ·rw[AkS (by simpa using he)];exact⟨_,rfl,fun _=>rfl,fun h=>absurd h he⟩
set_option maxRecDepth 8000
theorem z_i{x y:Int}:Kc.cmpV (iV x) (iV y)=0↔x=y:=by
 rw[Kc.cmpV_eq];show(if(1:Int)≠1 then _ else if(1:Int)=1 then Kc.cmpI x y else _)=0↔_;rw[AkT (by simp),AkS rfl,Kc.cmpI_zero]
theorem z_b:∀{a b:List UInt8},Kc.cmpB a b=0↔a=b
  |[],[]=>by simp[Kc.cmpB]
  |[],_::_=>by simp[Kc.cmpB]
  |_::_,[]=>by simp[Kc.cmpB]
  | x :: l,y::m=>by
    unfold Kc.cmpB;by_cases h:x=y
    · rw[AkS h,z_b (a:=l) (b:=m),h];simp
    · rw[AkT h]
      split<;>simp[h]
theorem z_t{a b:List UInt8}:Kc.cmpV (tV a) (tV b)=0↔a=b:=by
 rw[Kc.cmpV_eq];show(if(2:Int)≠2 then _ else if(2:Int)=1 then _ else if(2:Int)=2 then Kc.cmpB a b else _)=0↔_;rw[AkT (by simp),AkT (by decide),AkS rfl,z_b]
theorem c_l{a b:List AkK}:Kc.cmpV (lV a) (lV b)=Kc.cmpL a b:=by
 rw[Kc.cmpV_eq];show(if(3:Int)≠3 then _ else if(3:Int)=1 then _ else if(3:Int)=2 then _ else if(3:Int)=3 then Kc.cmpL a b else _)=_;rw[AkT (by simp),AkT (by decide),AkT (by decide),AkS rfl]
theorem z_c{x y:AkK}{l m:List AkK}:Kc.cmpL (x::l) (y::m)=0↔Kc.cmpV x y=0∧Kc.cmpL l m=0:=by
 rw[Kc.cmpL];by_cases h:Kc.cmpV x y=0
 ·rw[AkT (by simpa using h)];simp[h]
 ·rw[AkS h];simp[h]
theorem z_n:Kc.cmpL [] []=0:=by rw[Kc.cmpL]
theorem z_p{x y:AkE}:Kc.cmpV (Np x) (Np y)=0↔x=y:=by
 unfold Np;rw[c_l,z_c,z_c,z_c,z_i,z_i,z_i];rcases x with⟨a,b,c⟩
 rcases y with⟨d,e,f⟩
 simp only[z_n,Anq,AkE.mk.injEq];cases c<;>cases f<;>simp
theorem z_ps:∀{l m:List AkE},Kc.cmpL (l.map Np) (m.map Np)=0↔l=m
 |[],[]=>by simp[z_n]
 |[],y::m=>by rw[Anh,Al6,Kc.cmpL];simp
 |x::l,[]=>by rw[Anh,Al6,Kc.cmpL];simp
 |x::l,y::m=>by rw[Al6,Al6,z_c,z_p,z_ps];simp
theorem z_val{a b:AkF}:Kc.cmpV (val a) (val b)=0↔a=b:=by
 unfold val AbM;simp only[c_l,Ale,AlC,z_c,z_i,z_t,z_ps,z_n,Anq];rcases a with⟨k,⟨r,n⟩,a1,a2,a3,a4,a5,a6,a7,a8,a9,a10,a11,t,p⟩
 rcases b with⟨k',⟨r',n'⟩,b1,b2,b3,b4,b5,b6,b7,b8,b9,b10,b11,t',p'⟩
 simp only[AkF.mk.injEq,AkD.mk.injEq]
theorem AdF{a b:AkH}(ha:Small a.Zx1)(hb:Small b.Zx1):GS a b=some (decide (a=b)):=by
 have hz:F8 (val a.Zx1) (val b.Zx1)=some (Kc.cmpV (val a.Zx1) (val b.Zx1)):=Kc.compare_eq _ _ (by rw[Xg];have:=ha.text;have:=ha.parts;omega);unfold GS;by_cases h1:a.Zb=b.Zb
 case neg=>rw[AkT (by simpa using h1),Alo (fun h=>h1 (by rw[h]))];rfl
 by_cases h2:a.No=b.No
 case neg=>rw[AkS (by simpa using h1),AkT (by simpa using h2),Alo (fun h=>h2 (by rw[h]))];rfl
 by_cases h3:a.Zv1=b.Zv1
 case neg=>rw[AkS (by simpa using h1),AkS (by simpa using h2),AkT (by simpa using h3),Alo (fun h=>h3 (by rw[h]))];rfl
 by_cases h4:a.Zw1=b.Zw1
 case neg=>rw[AkS (by simpa using h1),AkS (by simpa using h2),AkS (by simpa using h3),AkT (by simpa using h4),Alo (fun h=>h4 (by rw[h]))];rfl
 rw[AkS (by simpa using h1),AkS (by simpa using h2),AkS (by simpa using h3),AkS (by simpa using h4),AkQ];by_cases h5:((a.Sig.C==b.Sig.C)&&(a.Sig.S==b.Sig.S))=true
 case neg=>
  rw[AkT h5,Alo (fun h=>h5 (by rw[h];simp))];rfl
 rw[AkS h5,OK (by have:=ha.parts;omega),AkQ,OK (by have:=hb.parts;omega),AkQ,hz];simp only[AkQ];simp only[Ak6,AlX]at h5;by_cases h6:a.Zx1=b.Zx1
 ·rw[Ak3 (X1 h1 h2 h3 h4 h5.1 h5.2 h6),h6,z_val.2 rfl];rfl
 ·rw[Alo (fun h=>h6 (by rw[h]))];congr 1;simp only[Amz,ne_eq];exact fun h=>h6 (z_val.1 h)
def H2(r:AkH)(f:AkI):Bool:=(f.A.Zb==r.Zb)&&(f.A.No==r.No)
theorem acc1(f:AkI)(r:AkH):E5 f r=some (H2 r f,r):=by
 unfold E5 H2;by_cases h:f.A.Zb=r.Zb<;>simp[h]
theorem Sy(l:List AkI)(r:AkH)(hl:l.length≤1000000):AY l r=some (l.any (H2 r),r):=by
 unfold AY BG;generalize hF:(fun(v:Int×Int×Int×Arr UInt8 32×Int×Int×Int×Int×Int×Int×Int×Int×Int×Int×Int×Int×Int×Int×Int×List UInt8×List AkE×UInt64×UInt64)=>AH l v.1 v.2.1 v.2.2.1 v.2.2.2.1 v.2.2.2.2.1 v.2.2.2.2.2.1 v.2.2.2.2.2.2.1 v.2.2.2.2.2.2.2.1 v.2.2.2.2.2.2.2.2.1 v.2.2.2.2.2.2.2.2.2.1 v.2.2.2.2.2.2.2.2.2.2.1 v.2.2.2.2.2.2.2.2.2.2.2.1 v.2.2.2.2.2.2.2.2.2.2.2.2.1 v.2.2.2.2.2.2.2.2.2.2.2.2.2.1 v.2.2.2.2.2.2.2.2.2.2.2.2.2.2.1 v.2.2.2.2.2.2.2.2.2.2.2.2.2.2.2.1 v.2.2.2.2.2.2.2.2.2.2.2.2.2.2.2.2.1 v.2.2.2.2.2.2.2.2.2.2.2.2.2.2.2.2.2.1 v.2.2.2.2.2.2.2.2.2.2.2.2.2.2.2.2.2.2.1 v.2.2.2.2.2.2.2.2.2.2.2.2.2.2.2.2.2.2.2.1 v.2.2.2.2.2.2.2.2.2.2.2.2.2.2.2.2.2.2.2.2.1 v.2.2.2.2.2.2.2.2.2.2.2.2.2.2.2.2.2.2.2.2.2.1 v.2.2.2.2.2.2.2.2.2.2.2.2.2.2.2.2.2.2.2.2.2.2)=F
 have hs:∀k:Nat,F ((k:Int),r.Zb,r.No,r.Zv1,r.Zw1,r.Zx1.Za,r.Zx1.Ref.Zb,r.Zx1.Ref.No,r.Zx1.Zn1,r.Zx1.Zb1,r.Zx1.Zc,r.Zx1.Zo1,r.Zx1.Zw,r.Zx1.To,r.Zx1.Code,r.Zx1.Zp1,r.Zx1.Zq1,r.Zx1.Zr1,r.Zx1.Zs1,r.Zx1.Zt1,r.Zx1.Zu1,r.Sig.C,r.Sig.S)=
   AH l (k:Int) r.Zb r.No r.Zv1 r.Zw1 r.Zx1.Za r.Zx1.Ref.Zb r.Zx1.Ref.No r.Zx1.Zn1 r.Zx1.Zb1 r.Zx1.Zc r.Zx1.Zo1 r.Zx1.Zw r.Zx1.To r.Zx1.Code r.Zx1.Zp1 r.Zx1.Zq1 r.Zx1.Zr1 r.Zx1.Zs1 r.Zx1.Zt1 r.Zx1.Zu1 r.Sig.C r.Sig.S:=fun k=>by rw[←hF]
 have hlp:=CC (f:=F) (fun v=>∃k:Nat,k≤l.length∧(l.take k).any (H2 r)=false∧v=((k:Int),r.Zb,r.No,r.Zv1,r.Zw1,r.Zx1.Za,r.Zx1.Ref.Zb,r.Zx1.Ref.No,r.Zx1.Zn1,r.Zx1.Zb1,r.Zx1.Zc,r.Zx1.Zo1,r.Zx1.Zw,r.Zx1.To,r.Zx1.Code,r.Zx1.Zp1,r.Zx1.Zq1,r.Zx1.Zr1,r.Zx1.Zs1,r.Zx1.Zt1,r.Zx1.Zu1,r.Sig.C,r.Sig.S)) (fun v=>(l.length-v.1).toNat)
  (fun x=>(l.any (H2 r)=false∧x=.inl (r.Zb,r.No,r.Zv1,r.Zw1,r.Zx1.Za,r.Zx1.Ref.Zb,r.Zx1.Ref.No,r.Zx1.Zn1,r.Zx1.Zb1,r.Zx1.Zc,r.Zx1.Zo1,r.Zx1.Zw,r.Zx1.To,r.Zx1.Code,r.Zx1.Zp1,r.Zx1.Zq1,r.Zx1.Zr1,r.Zx1.Zs1,r.Zx1.Zt1,r.Zx1.Zu1,r.Sig.C,r.Sig.S))∨(l.any (H2 r)=true∧∃k:Nat,x=.inr (.inr ((k:Int),r)))) ?_ ⟨0,by omega,rfl,rfl⟩ (by simp;omega)
 ·obtain⟨x,hx,hq⟩:=hlp;show((((A2 F ((0:Int),r.Zb,r.No,r.Zv1,r.Zw1,r.Zx1.Za,r.Zx1.Ref.Zb,r.Zx1.Ref.No,r.Zx1.Zn1,r.Zx1.Zb1,r.Zx1.Zc,r.Zx1.Zo1,r.Zx1.Zw,r.Zx1.To,r.Zx1.Code,r.Zx1.Zp1,r.Zx1.Zq1,r.Zx1.Zr1,r.Zx1.Zs1,r.Zx1.Zt1,r.Zx1.Zu1,r.Sig.C,r.Sig.S)).bind _).bind _).bind _)=_;rw[show A2 F ((0:Int),r.Zb,r.No,r.Zv1,r.Zw1,r.Zx1.Za,r.Zx1.Ref.Zb,r.Zx1.Ref.No,r.Zx1.Zn1,r.Zx1.Zb1,r.Zx1.Zc,r.Zx1.Zo1,r.Zx1.Zw,r.Zx1.To,r.Zx1.Code,r.Zx1.Zp1,r.Zx1.Zq1,r.Zx1.Zr1,r.Zx1.Zs1,r.Zx1.Zt1,r.Zx1.Zu1,r.Sig.C,r.Sig.S)=some x from hx];rcases hq with⟨h1,rfl⟩|⟨h1,k,rfl⟩
  ·rw[h1];rfl
  ·rw[h1];simp only[AkQ];rw[Ak3 (by omega)]
 ·rintro v ⟨k,hk,ht,rfl⟩;rw[hs];unfold AH;by_cases h1:k<l.length
  ·rw[AkS (Ak3 (by omega)),AkS (BH h1)];simp only[Ak5];rw[acc1,AkQ];show(∃v',(if H2 r (nth l k)=true then _ else _)=_∧_)∨_;have hn:nth l k=l[k]:=by simp[nth,h1]
   by_cases h2:H2 r (nth l k)=true
   ·right;refine⟨_,by rw[AkS h2];rfl,.inr ⟨?_,k,rfl⟩⟩;rw[Ans];exact⟨_,ED h1,h2⟩
   ·left;refine⟨_,by rw[AkT h2],⟨k+1,by omega,?_,by rw[Cr (by omega)]⟩,?_⟩
    ·rw[Amr h1,List.any_append,ht,←hn];simpa using h2
    ·show((l.length:Int)-w64 ((k:Int)+1)).toNat<((l.length:Int)-(k:Int)).toNat;rw[Cr (by omega)];omega
  ·have:k=l.length:=by omega
   subst this;rw[AlY]at ht;right;exact⟨_,by rw[AkT (by simp)],.inl ⟨ht,rfl⟩⟩
variable{r:AkH}
structure SingleOk(p:AkC)(r:AkH):Prop where
  pool:BB p=some 0
  rail:0≤r.Zb∧r.Zb<(p.Zk1.length:Int)
  no:1≤r.No∧r.No≤4096
  time:0≤r.Zw1∧r.Zw1≤1073741824
  item:FK p r.Zx1=some 0
  body:(Kc.Enc (lV (Lq r))).2=0
  ver:Ek (nth p.Zk1 r.Zb.toNat).Key (Kc.Enc (lV (Lq r))).1 r.Sig=some true
theorem RD{p:AkC}(h:Few p)(hs:Small r.Zx1):∃e,Eh p r=some e∧(e=0→SingleOk p r):=by
 obtain⟨f,hf,hc⟩:=Ol h;obtain⟨u,hi⟩:=hc r.Zx1 (by have:=hs.parts;omega);unfold Eh;rw[hf,AkQ];by_cases h0:(f != 0)=true
 ·rw[AkS h0];exact⟨f,rfl,fun e=>by subst e;exact absurd h0 (by decide)⟩
 rw[AkT h0];have f0:f=0:=by simpa using h0
 simp only[Aar,HZ];split
 ·exact⟨_,rfl,fun e=>absurd e (by decide)⟩
 rename_i h1;simp only[Alz,not_or,Ald]at h1;obtain⟨a1,a2,a3,a4,a5,a6,a7⟩:=h1;rw[hi,AkQ];by_cases h2:(u != 0)=true
 ·rw[AkS h2];exact⟨_,rfl,fun e=>by rw[e]at h2;exact absurd h2 (by decide)⟩
 rw[AkT h2,Yg hs,AkQ];by_cases h3:((Kc.Enc (lV (Lq r))).2 != 0)=true
 ·rw[AkS h3];exact⟨_,rfl,fun e=>by rw[e]at h3;exact absurd h3 (by decide)⟩
 rw[AkT h3,AkS (show InR r.Zb p.Zk1.length from⟨by omega,by omega⟩)];obtain⟨b,hb⟩:=SS (nth p.Zk1 r.Zb.toNat).Key (Kc.Enc (lV (Lq r))).1 r.Sig;rw[hb,AkQ];cases b
 ·exact⟨31,rfl,fun e=>absurd e (by decide)⟩
 ·refine⟨0,rfl,fun _=>⟨by rw[hf,f0],⟨by omega,by omega⟩,⟨by omega,by omega⟩,⟨by omega,by omega⟩,?_,by simpa using h3,hb⟩⟩;rw[hi];congr 1;simpa using h2
def V3(r:AkD):Bool:=(r.Zb==0)&&(r.No==0)
structure FollowsOk(l:List AkH)(r:AkH):Prop where
  no:r.No≤(l.length:Int)+1
  prev:1<r.No→D0 (nth l (r.No-2).toNat)=some (r.Zv1,0)∧(nth l (r.No-2).toNat).Zw1≤r.Zw1
  first:¬1<r.No→r.Zv1=Arr.rep 32 (0:UInt8)
  ref:V3 r.Zx1.Ref=true∨(r.Zx1.Ref.Zb=r.Zb∧1≤r.Zx1.Ref.No∧r.Zx1.Ref.No<r.No∧V3 (nth l (r.Zx1.Ref.No-1).toNat).Zx1.Ref=true)
theorem Oj(h:Small r.Zx1):∃d,D0 r=some d:=by
 obtain⟨d,h1,_⟩:=T7 h;exact⟨d,h1⟩
theorem QN{l:List AkH}(hl:l.length≤10000)(hs:∀x∈l,Small x.Zx1)(hn:1≤r.No):∃e,Fk l r=some e∧(e=0↔FollowsOk l r):=by
 have w1:w64 ((l.length:Int)+1)=(l.length:Int)+1:=B6 (by omega);unfold Fk;rw[w1];by_cases h1:r.No>(l.length:Int)+1
 ·rw[AkS (Ak3 h1)];exact⟨140,rfl,⟨fun e=>absurd e (by decide),fun h=>by have:=h.no;omega⟩⟩
 rw[AkT (by simpa using h1)];have w2:w64 (r.No-2)=r.No-2:=B6 (by omega)
 have tail:∀d:Arr UInt8 32,∃e,(if(!(d==r.Zv1))then some 140 else
    (if (!((r.Zx1.Ref.Zb==0)&&(r.Zx1.Ref.No==0)))then
     if(r.Zx1.Ref.Zb != r.Zb)then some true
     else
      if(decide (r.Zx1.Ref.No<1))then some true
      else
       if(decide (r.Zx1.Ref.No≥r.No))then some true
       else
        if InR ((w64 (r.Zx1.Ref.No-1))) l.length then
         some ((!(((((nth l (((w64 (r.Zx1.Ref.No-1))).toNat)).Zx1).Ref).Zb==0)&&((((nth l (((w64 (r.Zx1.Ref.No-1))).toNat)).Zx1).Ref).No==0))))
        else none
    else some false:Option (Bool)).bind fun t=>if t then some 110 else some 0:Option Int)=some e ∧
   (e=0↔d=r.Zv1∧(V3 r.Zx1.Ref=true∨(r.Zx1.Ref.Zb=r.Zb∧1≤r.Zx1.Ref.No∧r.Zx1.Ref.No<r.No∧V3 (nth l (r.Zx1.Ref.No-1).toNat).Zx1.Ref=true))):=by
  intro d;by_cases h2:d=r.Zv1
  case neg=>rw[AkS (by simpa using h2)];exact⟨140,rfl,⟨fun e=>absurd e (by decide),fun h=>absurd h.1 h2⟩⟩
  rw[AkT (by simpa using h2)];by_cases h3:V3 r.Zx1.Ref=true
  ·have h3':(!((r.Zx1.Ref.Zb==0)&&(r.Zx1.Ref.No==0)))=false:=by rw[show((r.Zx1.Ref.Zb==0)&&(r.Zx1.Ref.No==0))=true from h3];rfl
   rw[h3',AkT (by simp)];exact⟨0,rfl,⟨fun _=>⟨h2,.inl h3⟩,fun _=>rfl⟩⟩
  have h3':(!((r.Zx1.Ref.Zb==0)&&(r.Zx1.Ref.No==0)))=true:=by
   rw[Am4]at h3;rw[show((r.Zx1.Ref.Zb==0)&&(r.Zx1.Ref.No==0))=false from h3];rfl
  rw[AkS h3'];by_cases h4:r.Zx1.Ref.Zb=r.Zb
  case neg=>rw[AkS (by simpa using h4)];exact⟨110,rfl,⟨fun e=>absurd e (by decide),fun h=>(h.2.resolve_left h3).1 |> fun q=>absurd q h4⟩⟩
  rw[AkT (by simpa using h4)];by_cases h5:r.Zx1.Ref.No<1
  ·rw[AkS (Ak3 h5)];exact⟨110,rfl,⟨fun e=>absurd e (by decide),fun h=>by have:=(h.2.resolve_left h3).2.1;omega⟩⟩
  rw[AkT (by simpa using h5)];by_cases h6:r.Zx1.Ref.No≥r.No
  ·rw[AkS (Ak3 h6)];exact⟨110,rfl,⟨fun e=>absurd e (by decide),fun h=>by have:=(h.2.resolve_left h3).2.2.1;omega⟩⟩
  rw[AkT (by simpa using h6)];have w3:w64 (r.Zx1.Ref.No-1)=r.Zx1.Ref.No-1:=B6 (by omega);rw[w3,AkS (show InR (r.Zx1.Ref.No-1) l.length from⟨by omega,by omega⟩),AkQ];by_cases h7:V3 (nth l (r.Zx1.Ref.No-1).toNat).Zx1.Ref=true
  ·have h7':(!((((nth l (r.Zx1.Ref.No-1).toNat).Zx1.Ref.Zb==0)&&((nth l (r.Zx1.Ref.No-1).toNat).Zx1.Ref.No==0))))=false:=by
    rw[show(((nth l (r.Zx1.Ref.No-1).toNat).Zx1.Ref.Zb==0)&&((nth l (r.Zx1.Ref.No-1).toNat).Zx1.Ref.No==0))=true from h7];rfl
   rw[h7',AkT (by simp)];exact⟨0,rfl,⟨fun _=>⟨h2,.inr ⟨h4,by omega,by omega,h7⟩⟩,fun _=>rfl⟩⟩
  ·have h7':(!((((nth l (r.Zx1.Ref.No-1).toNat).Zx1.Ref.Zb==0)&&((nth l (r.Zx1.Ref.No-1).toNat).Zx1.Ref.No==0))))=true:=by
    rw[Am4]at h7;rw[show(((nth l (r.Zx1.Ref.No-1).toNat).Zx1.Ref.Zb==0)&&((nth l (r.Zx1.Ref.No-1).toNat).Zx1.Ref.No==0))=false from h7];rfl
   rw[h7',AkS rfl];exact⟨110,rfl,⟨fun e=>absurd e (by decide),fun h=>absurd (h.2.resolve_left h3).2.2.2 h7⟩⟩
 by_cases h2:r.No>1
 ·rw[AkS (Ak3 h2),w2];have hin:InR (r.No-2) l.length:=⟨by omega,by omega⟩;rw[AkS hin];have hk:(r.No-2).toNat<l.length:=by omega
  obtain⟨d,hd⟩:=Oj (hs _ (ED hk));rw[hd,AkQ];by_cases h3:d.2=0
  case neg=>
   rw[AkS (by simpa using h3)];refine⟨140,rfl,⟨fun e=>absurd e (by decide),fun h=>?_⟩⟩;have:=(h.prev h2).1;rw[hd]at this;exact absurd (Ame Prod.snd (Alm this)) h3
  rw[AkT (by simpa using h3),AkS hin,AkQ];by_cases h4:r.Zw1<(nth l (r.No-2).toNat).Zw1
  ·rw[AkS (Ak3 h4)];exact⟨140,rfl,⟨fun e=>absurd e (by decide),fun h=>by have:=(h.prev h2).2;omega⟩⟩
  rw[AkT (by simpa using h4),AkQ];obtain⟨e,he,hq⟩:=tail d.1;refine⟨e,he,hq.trans ⟨fun h=>⟨by omega,fun _=>⟨?_,by omega⟩,fun h5=>absurd h2 h5,h.2⟩,fun h=>⟨?_,h.ref⟩⟩⟩
  ·rw[hd,←h.1,←h3]
  ·have:=(h.prev h2).1;rw[hd]at this;exact Ame Prod.fst (Alm this)
 ·rw[AkT (by simpa using h2),AkQ];obtain⟨e,he,hq⟩:=tail (Arr.rep 32 (0:UInt8));exact⟨e,he,hq.trans ⟨fun h=>⟨by omega,fun h5=>absurd h5 h2,fun _=>h.1.symm,h.2⟩,fun h=>⟨(h.first h2).symm,h.ref⟩⟩⟩
structure Mid(n:Nat)(b:AkJ):Prop where
  logs:b.Zy1.length≤n
  forks:b.Zz1.length≤n
  row:∀l∈b.Zy1,l.length≤n
  item:∀l∈b.Zy1,∀r∈l,Small r.Zx1
theorem Short.mid{b:AkJ}(h:Short b):Mid 12 b:=⟨by have:=h.logs;omega,by have:=h.forks;omega,h.row,h.item⟩
def logV(b:AkJ)(rw:Int):List AkH:=if 0≤rw∧rw<(b.Zy1.length:Int)then nth b.Zy1 rw.toNat else[]
theorem UC{b:AkJ}{rw:Int}(h:0≤rw):FI b rw=some (logV b rw):=by
 unfold FI logV;by_cases h1:rw<(b.Zy1.length:Int)
 ·rw[AkT (by simp;omega),AkS (show InR rw b.Zy1.length from⟨h,by omega⟩),AkS ⟨h,h1⟩]
 ·rw[AkS (by simp;omega),AkT (fun h2=>h1 h2.2)]
theorem Aa8(b:AkJ)(rw:Int):Ky b rw=some (logV b rw):=by
 unfold Ky logV;rw[Aar,AkQ];by_cases h:0≤rw∧rw<(b.Zy1.length:Int)
 ·rw[AkT (by simp;omega),AkS (show InR rw b.Zy1.length from⟨h.1,by omega⟩),AkS h]
 ·rw[AkS (by simp;omega),AkT h]
theorem Mid.logV{n:Nat}{b:AkJ}(h:Mid n b)(rw:Int):(logV b rw).length≤n∧∀r∈Proofs.YtioapcamanmoiaaDoor.logV b rw,Small r.Zx1:=by
 unfold Proofs.YtioapcamanmoiaaDoor.logV;split
 ·rename_i h1;have hk:rw.toNat<b.Zy1.length:=by omega
  exact⟨h.row _ (ED hk),h.item _ (ED hk)⟩
 ·exact⟨by simp,fun r hr=>by simp at hr⟩
def VD(N:Nat)(L:List (List AkH)):List (List AkH):=L++List.replicate (N-L.length) []
theorem Abx(N:Nat)(L:List (List AkH))(h:L.length≤N):ovl (List.replicate N ([]:List AkH)) (L.take (min L.length (List.replicate N ([]:List AkH)).length)) 0=VD N L:=by
 unfold ovl VD;rw[AmK,AmJ h,AlY];simp
def KQ(p:AkC)(b:AkJ)(r:AkH):AkJ:={ Zy1:=(VD (max b.Zy1.length p.Zk1.length) b.Zy1).set r.Zb.toNat (logV b r.Zb++[r]),Zz1:=b.Zz1 }
def Abr(b:AkJ)(r:AkH):AkJ:={ Zy1:=b.Zy1,Zz1:=if b.Zz1.any (H2 r)=true then b.Zz1 else b.Zz1++[{ A:=nth (logV b r.Zb) (r.No-1).toNat,B:=r }] }
abbrev noB:AkJ:={ Zy1:=[],Zz1:=[] }
def G0(p:AkC)(b:AkJ)(r:AkH)(es ef:Int):AkJ×Int :=
 if es≠0 then(noB,es)else if r.No≤((logV b r.Zb).length:Int)∧nth (logV b r.Zb) (r.No-1).toNat=r then(b,0)
 else if ef≠0 then(noB,ef)else if r.No=((logV b r.Zb).length:Int)+1 then(KQ p b r,0)else(Abr b r,0)
theorem AdN{l:List AkH}(h:l.length≤100000):D5 l=some l:=by
 unfold D5;rw[AkS (by unfold Dj maxLen Gj;omega)];simp only[Bv,AlC]
theorem AbF{l:List AkI}(h:l.length≤100000):DI l=some l:=by
 unfold DI;rw[AkS (by unfold Dj maxLen Gj;omega)];simp only[Bv,AlC]
theorem QC{p:AkC}{b:AkJ}{r:AkH}{n:Nat}(h:Few p)(hm:Mid n b)(hn:n≤10000)(hr:Small r.Zx1) :∃es ef,Eh p r=some es∧(es=0→SingleOk p r∧(ef=0↔FollowsOk (logV b r.Zb) r))∧AA p b r=some (G0 p b r es ef):=by
 obtain⟨es,h1,h2⟩:=RD h hr;by_cases h0:es=0
 case neg=>
  refine⟨es,0,h1,fun e=>absurd e h0,?_⟩;unfold AA G0;rw[h1,AkQ,AkS (by simpa using h0),AkS h0]
 have hs:=h2 h0;obtain⟨l1,l2⟩:=hm.logV r.Zb;obtain⟨ef,f1,f2⟩:=QN (l:=logV b r.Zb) (r:=r) (by omega) l2 hs.no.1;refine⟨es,ef,h1,fun _=>⟨hs,f2⟩,?_⟩;unfold AA G0;rw[h1,AkQ,AkT (show ¬(es != 0)=true by simpa using h0),UC hs.rail.1,AkQ,AkT (show ¬es≠0 from fun h=>h h0)];generalize hl:logV b r.Zb=l at *;obtain⟨n1,n2⟩:=hs.no;have w1:w64 (r.No-1)=r.No-1:=B6 (by omega);have w2:w64 ((l.length:Int)+1)=(l.length:Int)+1:=B6 (by omega)
 have hsame:(if(decide (r.No≤(l.length:Int)))then if InR ((w64 (r.No-1))) l.length then(GS (nth l (((w64 (r.No-1))).toNat)) r).bind fun y=>some y else none else some false:Option Bool)=some (decide (r.No≤(l.length:Int)∧nth l (r.No-1).toNat=r)):=by
  by_cases h3:r.No≤(l.length:Int)
  ·have hk:(r.No-1).toNat<l.length:=by omega
   rw[AkS (Ak3 h3),w1,AkS (show InR (r.No-1) l.length from⟨by omega,by omega⟩),AdF (l2 _ (ED hk)) hr,AkQ];congr 1;simp[h3]
  ·rw[AkT (by simpa using h3),Alo (fun h=>h3 h.1)]
 rw[hsame,AkQ];by_cases h4:r.No≤(l.length:Int)∧nth l (r.No-1).toNat=r
 ·rw[AkS (Ak3 h4),AkS h4]
 rw[AkT (by simpa using h4),AkT h4,f1,AkQ];by_cases h5:ef=0
 case neg=>rw[AkS (by simpa using h5),AkS h5]
 rw[AkT (show ¬(ef != 0)=true by simpa using h5),AkT (show ¬ef≠0 from fun h=>h h5),w2];have hno:=(f2.1 h5).no;by_cases h6:r.No=(l.length:Int)+1
 ·have hmx:Lv (b.Zy1.length:Int) (p.Zk1.length:Int)=((max b.Zy1.length p.Zk1.length:Nat):Int):=by unfold Lv;split<;>omega
  have hb:=hm.logs;have hp:=h.railways;rw[AkS (by simpa using h6),AkS h6,hmx,AkS (by unfold Mk maxLen Gj;omega)];simp only[Bv,Ak5];rw[Abx _ _ (by omega),AdN (by omega),AkQ,AkS (by unfold Dj maxLen Gj;omega)];have hlen:(VD (max b.Zy1.length p.Zk1.length) b.Zy1).length=max b.Zy1.length p.Zk1.length:=by simp[VD];omega
  rw[AkS (show InR r.Zb (VD (max b.Zy1.length p.Zk1.length) b.Zy1).length by
   rw[hlen];have r1:=hs.rail.1;have r2:=hs.rail.2;exact⟨r1,by omega⟩)]
  unfold KQ;rw[hl]
 ·rw[AkT (by simpa using h6),AkT h6,Sy _ _ (by have:=hm.forks;omega),AkQ];unfold Abr;have hk:(r.No-1).toNat<l.length:=by omega
  by_cases h7:b.Zz1.any (H2 r)=true
  ·rw[AkT (by simpa using h7),AkS h7];rfl
  ·rw[AkS (by simpa using h7),AkT h7,AbF (by have:=hm.forks;omega),AkQ,w1,AkS (show InR (r.No-1) l.length from⟨by omega,by omega⟩),AkS (by have:=hm.forks;unfold Dj maxLen Gj;omega)];simp only[Bv,AkQ];rw[hl]
set_option maxRecDepth 100000
def exQ:AkC:=r14_Example.getD default
def AfI:AkF:={ Za:=8,Ref:={ Zb:=0,No:=0 },Zn1:=0,Zb1:=0,Zc:=0,Zo1:=0,Zw:=3,To:=0,Code:=1,Zp1:=0,Zq1:=0,Zr1:=0,Zs1:=0,Zt1:=[],Zu1:=[] }
def Aiu:AkF:={ Za:=8,Ref:={ Zb:=0,No:=0 },Zn1:=0,Zb1:=0,Zc:=0,Zo1:=0,Zw:=3,To:=0,Code:=2,Zp1:=0,Zq1:=0,Zr1:=0,Zs1:=0,Zt1:=[],Zu1:=[] }
def AiV:AkF:={ Za:=14,Ref:={ Zb:=0,No:=1 },Zn1:=0,Zb1:=0,Zc:=0,Zo1:=0,Zw:=0,To:=0,Code:=0,Zp1:=0,Zq1:=0,Zr1:=0,Zs1:=0,Zt1:=[],Zu1:=[] }
def bk0:AkJ:={ Zy1:=[],Zz1:=[] }
def Acs:AkH:={ Zb:=0,No:=1,Zv1:=⟨[(0:UInt8),0,0,0,0,0,0,0,0,0,0,0,0,0,0,0,0,0,0,0,0,0,0,0,0,0,0,0,0,0,0,0],rfl⟩,Zw1:=5,Zx1:=AfI,Sig:={ C:=132576837295297174,S:=235879338771529970 } }
def Ahg:AkH:={ Zb:=0,No:=1,Zv1:=⟨[(0:UInt8),0,0,0,0,0,0,0,0,0,0,0,0,0,0,0,0,0,0,0,0,0,0,0,0,0,0,0,0,0,0,0],rfl⟩,Zw1:=5,Zx1:=Aiu,Sig:={ C:=1010642900596539425,S:=208674642754336471 } }
def AiY:AkH:={ Zb:=0,No:=2,Zv1:=⟨[(20:UInt8),74,221,126,247,131,164,99,193,192,56,34,114,40,146,82,204,54,168,83,74,158,104,72,195,63,51,126,164,162,16,232],rfl⟩,Zw1:=6,Zx1:=AiV,Sig:={ C:=531156149537135704,S:=378193558781781181 } }
def Ajb:AkH:={ Zb:=0,No:=0,Zv1:=(Arr.rep 32 (0:UInt8)),Zw1:=0,Zx1:={ Za:=0,Ref:={ Zb:=0,No:=0 },Zn1:=0,Zb1:=0,Zc:=0,Zo1:=0,Zw:=0,To:=0,Code:=0,Zp1:=0,Zq1:=0,Zr1:=0,Zs1:=0,Zt1:=([]:List UInt8),Zu1:=[] },Sig:={ C:=(0:UInt64),S:=(0:UInt64) } }
def bk1:AkJ:={ Zy1:=[[Acs],[]],Zz1:=[] }
def bk2:AkJ:={ Zy1:=[[Acs],[]],Zz1:=[{ A:=Acs,B:=Ahg }] }
def bk3:AkJ:={ Zy1:=[[Acs,AiY],[]],Zz1:=[] }
theorem AbJ{p:AkC}{d1 d2:AkF}{R S T Z1 Z2 Z3:AkH}{b1 b2 b3:AkJ}{l1 l2 l3:List AkM}(hp:r14_Example=some p)(h1:Cu 1=some d1)(h2:Cu 2=some d2) (n1:Bc p { Zy1:=[],Zz1:=[] } 0 7 5 d1=some (R,0)) (a1:AA p { Zy1:=[],Zz1:=[] } R=some (b1,0)) (a2:AA p b1 R=some (b1,0)) (n2:Bc p b1 0 7 4 d1=some (Z1,140)) (n3:Bc p { Zy1:=[],Zz1:=[] } 0 7 5 d2=some (S,0)) (a3:AA p b1 S=some (b2,0)) (n4:Bc p { Zy1:=[],Zz1:=[] } 0 8 5 d1=some (Z2,30)) (n5:Bc p b1 0 7 6 { Za:=14,Ref:={ Zb:=0,No:=1 },Zn1:=0,Zb1:=0,Zc:=0,Zo1:=0,Zw:=0,To:=0,Code:=0,Zp1:=0,Zq1:=0,Zr1:=0,Zs1:=0,Zt1:=[],Zu1:=[] }=some (T,0)) (a4:AA p b1 T=some (b3,0)) (n6:Bc p { Zy1:=[],Zz1:=[] } 0 7 5 { Za:=14,Ref:={ Zb:=0,No:=1 },Zn1:=0,Zb1:=0,Zc:=0,Zo1:=0,Zw:=0,To:=0,Code:=0,Zp1:=0,Zq1:=0,Zr1:=0,Zs1:=0,Zt1:=[],Zu1:=[] }=some (Z3,110)) (c1:R.No=1) (c2:R.Zv1=⟨[(0:UInt8),0,0,0,0,0,0,0,0,0,0,0,0,0,0,0,0,0,0,0,0,0,0,0,0,0,0,0,0,0,0,0],rfl⟩) (c3:b1.Zy1.length=2) (c4:(nth b1.Zy1 0).length=1) (s1:JH b1 b1=some true) (c5:b2.Zz1.length=1) (f1:BM b2 0=some 1) (f2:BM b1 0=some 0) (r1:B2 b2=some l1) (q1:l1.length=0) (r2:B2 b1=some l2) (q2:l2.length=1) (r3:B2 b3=some l3) (q3:l3.length=0):law14_sane=some true:=by
 have k0:InR 0 2:=by decide
 have k1:((2:Nat):Int)=2:=rfl;have k2:((1:Nat):Int)=1:=rfl;have k3:((0:Nat):Int)=0:=rfl;unfold law14_sane;simp only[hp,h1,h2,AkQ,n1,a1,a2,n2,n3,a3,n4,n5,a4,n6,c1,c2,c3,c4,s1,c5,f1,f2,r1,q1,r2,q2,r3,q3,k1,k2,k3,beq_self_eq_true,Amq,AkS k0]
theorem e_ex:r14_Example=some exQ:=by kernel_rfl
theorem e_d1:Cu 1=some AfI:=rfl
theorem e_d2:Cu 2=some Aiu:=rfl
theorem e_n1:Bc exQ bk0 0 7 5 AfI=some (Acs,0):=by decide +kernel
theorem e_a1:AA exQ bk0 Acs=some (bk1,0):=by decide +kernel
theorem e_a2:AA exQ bk1 Acs=some (bk1,0):=by decide +kernel
theorem e_n2:Bc exQ bk1 0 7 4 AfI=some (Ajb,140):=by decide +kernel
theorem e_n3:Bc exQ bk0 0 7 5 Aiu=some (Ahg,0):=by decide +kernel
theorem e_a3:AA exQ bk1 Ahg=some (bk2,0):=by decide +kernel
theorem e_n4:Bc exQ bk0 0 8 5 AfI=some (Ajb,30):=by decide +kernel
theorem e_n5:Bc exQ bk1 0 7 6 AiV=some (AiY,0):=by decide +kernel
theorem e_a4:AA exQ bk1 AiY=some (bk3,0):=by decide +kernel
theorem e_n6:Bc exQ bk0 0 7 5 AiV=some (Ajb,110):=by decide +kernel
theorem e_s1:JH bk1 bk1=some true:=by decide +kernel
theorem e_f1:BM bk2 0=some 1:=by decide +kernel
theorem e_f2:BM bk1 0=some 0:=by decide +kernel
theorem e_r1:(B2 bk2)=some []:=by decide +kernel
theorem e_r2:(B2 bk1).map List.length=some 1:=by decide +kernel
theorem e_r3:(B2 bk3)=some []:=by decide +kernel
theorem Ac7:law14_sane=some true:=by
 obtain⟨l,hl,hr⟩:∃l,B2 bk1=some l∧l.length=1:=by
  have:=e_r2;cases h:B2 bk1 with
  |none=>rw[h]at this;cases this
  |some l=>rw[h]at this;exact⟨l,rfl,by simpa using this⟩
 exact AbJ e_ex e_d1 e_d2 e_n1 e_a1 e_a2 e_n2 e_n3 e_a3 e_n4 e_n5 e_a4 e_n6 rfl rfl rfl rfl e_s1 rfl e_f1 e_f2 e_r1 rfl hl hr e_r3 rfl
set_option maxRecDepth 8000
structure FewP(p:AkC):Prop where
  few:Few p
  rails:p.Zk1.length≤4
theorem YP(p:AkC):∃b,GX p=some b∧(b=true→FewP p):=by
 obtain⟨x,hx,hq⟩:∃x,A2 (fun(v:Int)=>Fp p v) 0=some x∧(x=.inr (.inr false)∨(x=.inl ()∧∀j,j<p.Zk1.length→j<5→(nth p.Zk1 j).Zf1.Ze1.length≤5)):=by
  refine CC (fun v=>∃k:Nat,v=(k:Int)∧k≤5∧k≤p.Zk1.length∧∀j,j<k→(nth p.Zk1 j).Zf1.Ze1.length≤5) (fun v=>(5-v).toNat) _ ?_ ⟨0,rfl,by omega,by omega,fun j hj=>by omega⟩ (by simp);rintro v ⟨k,rfl,h1,h2,h3⟩;unfold Fp;simp only[AfH,HZ];by_cases hk:k<p.Zk1.length∧k<5
  ·rw[AkS (by simp;omega),AkS (BH hk.1)];simp only[Bv,Ak5,Cr (k:=k) (by omega)];by_cases hd:(nth p.Zk1 k).Zf1.Ze1.length≤5
   ·left;rw[AkT (by simp;omega)];refine⟨_,rfl,⟨k+1,rfl,by omega,by omega,fun j hj=>?_⟩,by omega⟩;by_cases e:j=k
    ·subst e;exact hd
    ·exact h3 j (by omega)
   ·right;rw[AkS (by simp;omega)];exact⟨_,rfl,.inl rfl⟩
  ·right;rw[AkT (by simp;omega)];exact⟨_,rfl,.inr ⟨rfl,fun j hj hj2=>h3 j (by omega)⟩⟩
 unfold GX;rw[hx];rcases hq with rfl|⟨rfl,hall⟩
 ·exact⟨false,rfl,fun e=>by cases e⟩
 ·simp only[HZ,AfH];refine⟨_,rfl,fun e=>?_⟩;simp only[Ak6,Ald]at e;obtain⟨⟨a1,a2⟩,⟨b1,b2,b3,b4⟩,c1,c2,c3⟩:=e;exact⟨⟨by omega,by omega,by omega,by omega,by omega,by omega,by omega,by omega,by omega,fun k hk=>by have:=hall k hk (by omega);omega⟩,by omega⟩
theorem TL{it:AkF}(h:Small it):it.Zu1.length≤1000000:=by have:=h.parts;omega
theorem NZ{p:AkC}{b:AkJ}{r:AkH}{es ef:Int}(h:(G0 p b r es ef).2=0):es=0:=by
 unfold G0 at h;split at h
 ·exact h
 ·rename_i h';exact Decidable.not_not.1 h'
set_option maxHeartbeats 1000000
variable{p:AkC}{b:AkJ}{r:AkH}
def XR:AkH:={ Zb:=0,No:=0,Zv1:=Arr.rep 32 (0:UInt8),Zw1:=0,Zx1:={ Za:=0,Ref:={ Zb:=0,No:=0 },Zn1:=0,Zb1:=0,Zc:=0,Zo1:=0,Zw:=0,To:=0,Code:=0,Zp1:=0,Zq1:=0,Zr1:=0,Zs1:=0,Zt1:=[],Zu1:=[] },Sig:={ C:=0,S:=0 } }
structure NextOk(p:AkC)(b:AkJ)(rw:Int)(tm:Int)(it:AkF)(r:AkH):Prop where
  rail:r.Zb=rw
  rng:0≤rw∧rw<(p.Zk1.length:Int)
  no:r.No=((logV b rw).length:Int)+1
  time:r.Zw1=tm
  item:r.Zx1=it
  single0:Eh p r=some 0
  single:SingleOk p r
  foll:FollowsOk (logV b rw) r
  acc:AA p b r=some (KQ p b r,0)
theorem T8{es ef:Int}(hn:r.No=((logV b r.Zb).length:Int)+1)(h:(G0 p b r es ef).2=0):es=0∧ef=0∧G0 p b r es ef=(KQ p b r,0):=by
 have h0:=NZ h;refine⟨h0,?_⟩;unfold G0 at h ⊢;have h1:¬(r.No≤((logV b r.Zb).length:Int)∧nth (logV b r.Zb) (r.No-1).toNat=r):=fun q=>by have:=q.1;omega
 rw[AkT (fun h=>h h0),AkT h1]at h ⊢;by_cases h2:ef=0
 ·refine⟨h2,?_⟩;rw[AkT (fun h=>h h2),AkS hn]
 ·rw[AkS h2]at h;exact absurd h h2
theorem Qv{rw:Int}{sec:UInt64}{tm:Int}{it:AkF}{n:Nat}(h:Few p)(hm:Mid n b)(hn:n≤4000)(hi:Small it) :∃r e,Bc p b rw sec tm it=some (r,e)∧(e≠0→r=XR)∧(e=0→NextOk p b rw tm it r):=by
 obtain⟨f,hf,_⟩:=Ol h;unfold Bc;rw[hf,AkQ];by_cases h0:(f != 0)=true
 ·rw[AkS h0];exact⟨_,_,rfl,fun _=>rfl,fun e=>by subst e;exact absurd h0 (by decide)⟩
 rw[AkT h0,Aar,AkQ];by_cases h1:(decide (rw<0)||decide (rw≥(p.Zk1.length:Int)))=true
 ·rw[AkS h1];exact⟨_,_,rfl,fun _=>rfl,fun e=>absurd e (by decide)⟩
 rw[AkT h1];simp only[Alz,not_or,Ald]at h1;obtain⟨k,hk⟩:=MP sec;rw[hk,AkQ];by_cases h2:(k.2 != 0)=true
 ·rw[AkS h2];exact⟨_,_,rfl,fun _=>rfl,fun e=>by rw[e]at h2;exact absurd h2 (by decide)⟩
 rw[AkT h2,AkS (show InR rw p.Zk1.length from⟨by omega,by omega⟩)];by_cases h3:(k.1 != (nth p.Zk1 rw.toNat).Key)=true
 ·rw[AkS h3];exact⟨_,_,rfl,fun _=>rfl,fun e=>absurd e (by decide)⟩
 rw[AkT h3,UC (by omega),AkQ];simp only[Bv];obtain⟨l1,l2⟩:=hm.logV rw;have w1:w64 (((logV b rw).length:Int)+1)=((logV b rw).length:Int)+1:=B6 (by omega);have w2:w64 (((logV b rw).length:Int)-1)=((logV b rw).length:Int)-1:=B6 (by omega);rw[w1,w2]
 have tail:∀d:Arr UInt8 32,∃r e,((FP { Zb:=rw,No:=((logV b rw).length:Int)+1,Zv1:=d,Zw1:=tm,Zx1:=it,Sig:={ C:=0,S:=0 } }).bind fun y=>
   if(y.2 != 0)then some (XR,y.2)else(Ga sec y.1).bind fun z=>
    if(z.2 != 0)then some (XR,z.2)else(AA p b { Zb:=rw,No:=((logV b rw).length:Int)+1,Zv1:=d,Zw1:=tm,Zx1:=it,Sig:=z.1 }).bind fun u=>
     if(u.2 != 0)then some (XR,u.2)else some (({ Zb:=rw,No:=((logV b rw).length:Int)+1,Zv1:=d,Zw1:=tm,Zx1:=it,Sig:=z.1 }:AkH),(0:Int)):Option (AkH×Int))=some (r,e)∧(e≠0→r=XR)∧(e=0→NextOk p b rw tm it r):=by
  intro d;rw[Yg (r:={ Zb:=rw,No:=((logV b rw).length:Int)+1,Zv1:=d,Zw1:=tm,Zx1:=it,Sig:={ C:=0,S:=0 } }) hi,AkQ];generalize Kc.Enc (lV (Lq { Zb:=rw,No:=((logV b rw).length:Int)+1,Zv1:=d,Zw1:=tm,Zx1:=it,Sig:={ C:=0,S:=0 } }))=y;by_cases h4:(y.2 != 0)=true
  ·rw[AkS h4];exact⟨_,_,rfl,fun _=>rfl,fun e=>by rw[e]at h4;exact absurd h4 (by decide)⟩
  rw[AkT h4];obtain⟨z,hz⟩:=Xl sec y.1;rw[hz,AkQ];by_cases h5:(z.2 != 0)=true
  ·rw[AkS h5];exact⟨_,_,rfl,fun _=>rfl,fun e=>by rw[e]at h5;exact absurd h5 (by decide)⟩
  rw[AkT h5];obtain⟨es,ef,q1,q2,q3⟩:=QC (r:={ Zb:=rw,No:=((logV b rw).length:Int)+1,Zv1:=d,Zw1:=tm,Zx1:=it,Sig:=z.1 }) h hm (by omega) hi;rw[q3,AkQ];by_cases h6:((G0 p b { Zb:=rw,No:=((logV b rw).length:Int)+1,Zv1:=d,Zw1:=tm,Zx1:=it,Sig:=z.1 } es ef).2 != 0)=true
  ·rw[AkS h6];exact⟨_,_,rfl,fun _=>rfl,fun e=>by rw[e]at h6;exact absurd h6 (by decide)⟩
  rw[AkT h6];obtain⟨e1,e2,e3⟩:=T8 (r:={ Zb:=rw,No:=((logV b rw).length:Int)+1,Zv1:=d,Zw1:=tm,Zx1:=it,Sig:=z.1 }) rfl (by simpa using h6);obtain⟨s1,s2⟩:=q2 e1;exact⟨_,_,rfl,fun e=>absurd rfl e,fun _=>⟨rfl,⟨by omega,by omega⟩,rfl,rfl,rfl,by rw[q1,e1],s1,s2.1 e2,by rw[q3,e3]⟩⟩
 by_cases h4:((logV b rw).length:Int)>0
 ·rw[AkS (Ak3 h4)];have hk:(((logV b rw).length:Int)-1).toNat<(logV b rw).length:=by omega
  rw[AkS (show InR (((logV b rw).length:Int)-1) (logV b rw).length from⟨by omega,by omega⟩)];obtain⟨d,hd⟩:=Oj (l2 _ (ED hk));rw[hd,AkQ];by_cases h5:(d.2 != 0)=true
  ·rw[AkS h5];exact⟨_,_,rfl,fun _=>rfl,fun e=>by rw[e]at h5;exact absurd h5 (by decide)⟩
  rw[AkT h5,AkQ];obtain⟨r,e,t1,t2,t3⟩:=tail d.1;exact⟨r,e,t1,t2,t3⟩
 ·rw[AkT (by simpa using h4),AkQ];obtain⟨r,e,t1,t2,t3⟩:=tail (Arr.rep 32 (0:UInt8));exact⟨r,e,t1,t2,t3⟩
theorem RM(N:Nat)(L:List (List AkH))(h:L.length≤N):(VD N L).length=N:=by simp[VD];omega
theorem Uh(h:0≤r.Zb∧r.Zb<(p.Zk1.length:Int)):nth (KQ p b r).Zy1 r.Zb.toNat=logV b r.Zb++[r]:=by
 unfold KQ;have:r.Zb.toNat<(VD (max b.Zy1.length p.Zk1.length) b.Zy1).length:=by rw[RM _ _ (by omega)];omega
 simp[nth,this]
theorem P7:(KQ p b r).Zy1.length=max b.Zy1.length p.Zk1.length:=by
 unfold KQ;rw[Al8,RM _ _ (by omega)]
set_option maxRecDepth 4000
def Aff(r:AkH):Bool:=!((r.Zx1.Ref.Zb==0)&&(r.Zx1.Ref.No==0))
def Ahq(r:AkH)(i k:Int):AkM:={ Ref:=r.Zx1.Ref,By:={ Zb:=i,No:=k },Zw1:=r.Zw1,Zx1:=r.Zx1 }
def bare(it:AkF):AkF:={ it with Ref:={ Zb:=0,No:=0 } }
def Aie(o:Option AkM)(i k:Int)(r:AkH):Option AkM :=
 if Aff r=true then none else match o with
 |none=>some { Ref:={ Zb:=i,No:=k },By:={ Zb:=i,No:=k },Zw1:=r.Zw1,Zx1:=bare r.Zx1 }
 |some p=>if(p.Zx1.Za==14)then none else some { p with Zx1:=bare p.Zx1 }
def Abm(row:List AkH)(i n:Int):Nat→Option AkM
 |0=>none
 |k+1=>if(nth row k).Zx1.Ref={ Zb:=i,No:=n }then some (Ahq (nth row k) i ((k+1:Nat):Int))else Abm row i n k
def rep(row:List AkH)(i:Nat)(k:Nat):Option AkM:=Aie (Abm row (i:Int) ((k+1:Nat):Int) row.length) (i:Int) ((k+1:Nat):Int) (nth row k)
structure SB(b:AkJ):Prop where
  logs:b.Zy1.length≤4
  forks:b.Zz1.length≤6
  row:∀l∈b.Zy1,l.length≤12
  ref:∀l∈b.Zy1,∀r∈l,I64 r.Zx1.Ref.Zb∧I64 r.Zx1.Ref.No
  parts:∀l∈b.Zy1,∀r∈l,r.Zx1.Zu1.length≤20
  fno:∀f∈b.Zz1,I64 f.A.No
structure BookInts(b:AkJ):Prop where
  ref:∀l∈b.Zy1,∀r∈l,I64 r.Zx1.Ref.Zb∧I64 r.Zx1.Ref.No
  fno:∀f∈b.Zz1,I64 f.A.No
set_option maxRecDepth 8000
variable{p:AkC}{b:AkJ}{r s:AkH}
theorem Xi{one two:AkF}{X:Option Bool}(hX:FewP p→Short b→Small one→Small two→X=some true) :(((GX p).bind fun y=>if(!y)then some true else(EO b).bind fun y=>if(!y)then some true else(C3 one).bind fun y=>if(!y)then some true else(C3 two).bind fun y=>some (!y):Option Bool).bind fun t=>if t then some true else X)=some true:=by
 obtain⟨f,hf,hq⟩:=YP p;rw[hf,AkQ];cases f
 ·rfl
 rw[AkT (by simp),ZA,AkQ];by_cases hs:JC b=true
 case neg=>rw[AkS (by simpa using hs)];rfl
 rw[AkT (by simpa using hs),L8,AkQ];by_cases hi:FO one=true
 case neg=>rw[AkS (by simpa using hi)];rfl
 rw[AkT (by simpa using hi),L8,AkQ,AkQ];by_cases hj:FO two=true
 case neg=>rw[AkS (by simpa using hj)]
 rw[AkT (by simpa using hj)];exact hX (hq rfl) (AaC hs) (JG hi) (JG hj)
theorem V4(rw:Int)(h:b.Zz1.length≤1000000):GP b rw=some (Cn b rw):=by
 have hl:A2 (fun(v:Int×Int)=>CT b rw v.1 v.2) (0,0)=some (Cn b rw):=by
  refine Q0 b.Zz1 (fun(v:Int×Int)=>CT b rw v.1 v.2) (fun k s=>(s,k)) (CE rw) id 0 (by omega) (fun k s hk=>?_) (fun s=>?_)
  ·simp only;unfold CT;rw[AkS (Ak3 (by simp;omega)),AkS (BH hk)];simp only[Bv,Ak5];unfold CE;by_cases h1:(nth b.Zz1 k).A.Zb=rw
   ·by_cases h2:(nth b.Zz1 k).A.No≥1
    ·by_cases h3:s=0
     ·simp[h1,h2,h3,Cr (k:=k) (by omega)]
     ·by_cases h4:(nth b.Zz1 k).A.No<s<;>simp[h1,h2,h3,h4,Cr (k:=k) (by omega)]
    ·simp[h1,h2,Cr (k:=k) (by omega)]
   ·simp[h1,Cr (k:=k) (by omega)]
  ·simp only;unfold CT;rw[AkT (by simp)];rfl
 unfold GP;rw[hl];rfl
theorem Qo{rw:Int}:∀(l:List AkI) (no:Int),0≤no→l.foldl (CE rw) no=0→no=0∧∀f∈l,¬(f.A.Zb=rw∧1≤f.A.No)
  |[],no,_,h=>⟨h,fun f hf=>by simp at hf⟩
  | f :: l,no,h0,h=>by
    have hge:0≤CE rw no f:=by
      unfold CE;split
      · rename_i h1
        simp only[Ak6,Ald]at h1;omega
      · exact h0
    obtain⟨h1,h2⟩:=Qo l (CE rw no f) hge h
    have hf:¬(f.A.Zb=rw∧1≤f.A.No)∧no=0:=by
      unfold CE at h1;split at h1
      · rename_i h3
        simp only[Ak6,Ald]at h3;omega
      · rename_i h3
        refine⟨fun h4=>h3 ?_,h1⟩;subst h1;simp[h4.1,h4.2]
    refine⟨hf.2,fun g hg=>?_⟩;rcases Alk.1 hg with rfl|hg
    · exact hf.1
    · exact h2 g hg
def JW(p:AkC)(b:AkJ)(r s:AkH):AkJ:={ Zy1:=(KQ p b r).Zy1,Zz1:=b.Zz1++[{ A:=r,B:=s }] }
theorem Jh(b:AkJ)(i:Nat):logV b (i:Int)=if i<b.Zy1.length then nth b.Zy1 i else[]:=by
 unfold logV;by_cases h:i<b.Zy1.length
 ·rw[AkS ⟨by omega,by omega⟩,AkS h];rfl
 ·rw[AkT (fun q=>h (by omega)),AkT h]
theorem Vk{i:Nat}(h:r.Zb.toNat≠i)(hi:i<max b.Zy1.length p.Zk1.length):nth (KQ p b r).Zy1 i=if i<b.Zy1.length then nth b.Zy1 i else[]:=by
 have hl:i<(VD (max b.Zy1.length p.Zk1.length) b.Zy1).length:=by rw[RM _ _ (by omega)];exact hi
 unfold KQ;show((VD (max b.Zy1.length p.Zk1.length) b.Zy1).set r.Zb.toNat (logV b r.Zb++[r])).getD i default=_;rw[Ak1,Alt h];unfold VD;by_cases h1:i<b.Zy1.length
 ·rw[AkS h1,AkW h1];simp[nth]
 ·rw[AkT h1,AkU (by omega),Amf];split<;>rfl
theorem YG(h:0≤r.Zb∧r.Zb<(p.Zk1.length:Int)):logV (KQ p b r) r.Zb=logV b r.Zb++[r]:=by
 have h1:=Uh (b:=b) h;rw[show logV (KQ p b r) r.Zb=logV (KQ p b r) ((r.Zb.toNat:Nat):Int) by rw[Amh h.1],Jh,AkS (by rw[P7];omega),h1]
theorem Kw{L:List (List AkH)}{f:AkI}(rw:Int):Cn { Zy1:=L,Zz1:=b.Zz1++[f] } rw=CE rw (Cn b rw) f:=by
 unfold Cn;rw[List.foldl_append];rfl
theorem LM{rw:Int}(hr:r.Zb=rw)(hrng:0≤rw∧rw<(p.Zk1.length:Int))(hno:r.No=((logV b rw).length:Int)+1)(h0:Cn b rw=0)(i:Nat) :logV (CS (JW p b r s)) (i:Int)=logV (CS b) (i:Int):=by
 have hf:Cn (JW p b r s) rw=r.No:=by
  unfold JW;rw[Kw,h0];unfold CE;rw[AkS (by simp[hr];omega)]
 have hlen:(JW p b r s).Zy1.length=max b.Zy1.length p.Zk1.length:=P7;rw[Jh,Jh,Fj,Fj,hlen];by_cases h1:i=rw.toNat
 ·subst h1;rw[AkS (by omega),Ht (by rw[hlen];omega)]
  have hl:C8 (JW p b r s) rw.toNat=logV b rw:=by
   have hrow:nth (JW p b r s).Zy1 rw.toNat=logV b rw++[r]:=by
    have:=Uh (b:=b) (r:=r) (by rw[hr];exact hrng);rw[hr]at this;exact this
   unfold C8;rw[Amh hrng.1,hf,AkS (by omega),hrow,show(r.No-1).toNat=(logV b rw).length by omega,List.take_left]
  rw[hl];have hb:logV b rw=logV b ((rw.toNat:Nat):Int):=by rw[Amh hrng.1]
  rw[hb,Jh];by_cases h2:rw.toNat<b.Zy1.length
  ·rw[AkS h2,AkS h2,Ht h2];unfold C8;rw[Amh hrng.1,h0,AkT (by omega)]
  ·rw[AkT h2,AkT h2]
 ·by_cases h2:i<max b.Zy1.length p.Zk1.length
  ·rw[AkS h2,Ht (by rw[hlen];exact h2)]
   have hfi:Cn (JW p b r s) (i:Int)=Cn b (i:Int):=by
    unfold JW;rw[Kw];unfold CE;rw[AkT (by simp[hr];omega)]
   have hrow:nth (JW p b r s).Zy1 i=if i<b.Zy1.length then nth b.Zy1 i else[]:=Vk (by rw[hr];omega) h2
   unfold C8;rw[hfi,hrow];by_cases h3:i<b.Zy1.length
   ·rw[AkS h3,AkS h3,Ht h3];rfl
   ·rw[AkT h3,AkT h3];split<;>simp
  ·rw[AkT h2,AkT (by omega)]
theorem Qn{a:AkJ}(hla:a.Zy1.length≤100000)(hlb:b.Zy1.length≤100000)(hr:∀l∈a.Zy1,l.length≤1000000∧L9 l)(he:∀i:Nat,logV a (i:Int)=logV b (i:Int)):Et a b=some true:=by
 have hrow:∀i:Nat,(logV a (i:Int)).length≤1000000∧L9 (logV a (i:Int)):=by
  intro i;rw[Jh];split
  ·exact hr _ (ED (by assumption))
  ·exact⟨by simp,fun x hx=>by simp at hx⟩
 obtain⟨x,hx,rfl⟩:∃x,A2 (fun(v:Int)=>CR a b v) 0=some x∧x=.inl ():=by
  refine E6 (max a.Zy1.length b.Zy1.length) (fun k v=>v=(k:Int)) _ (by omega) ?_ ?_ rfl
  ·rintro k v hk rfl;refine⟨_,?_,rfl⟩;unfold CR;rw[Aar,AkQ,AkS (by simp;omega),Aa8,AkQ,Aa8,AkQ,←he k,AaE (hrow k).1 (hrow k).2,AkQ,AkT (by simp),Cr (by omega)]
  ·rintro v rfl;refine⟨_,?_,rfl⟩;unfold CR;rw[Aar,AkQ,AkT (by simp;omega)]
 unfold Et;rw[hx];rfl
theorem RT(hp:p.Zk1.length≤4)(hb:Mid 12 b)(hr:Small r.Zx1):Mid 13 (KQ p b r):=by
 have hmem:∀l∈(KQ p b r).Zy1,l=logV b r.Zb++[r]∨l∈b.Zy1∨l=[]:=by
  intro l hl;unfold KQ at hl;rcases Anj hl with h|h
  ·unfold VD at h;rcases Alc.1 h with h|h
   ·exact .inr (.inl h)
   ·exact .inr (.inr (List.eq_of_mem_replicate h))
  ·exact .inl h
 obtain⟨l1,l2⟩:=hb.logV r.Zb;refine⟨by rw[P7];have:=hb.logs;omega,by have:=hb.forks;simp only[KQ];omega,fun l hl=>?_,fun l hl x hx=>?_⟩
 ·rcases hmem l hl with rfl|h|rfl
  ·simp;omega
  ·have:=hb.row l h;omega
  ·simp
 ·rcases hmem l hl with rfl|h|rfl
  ·rcases Alc.1 hx with hx|hx
   ·exact l2 x hx
   ·rw[Amc]at hx;rw[hx];exact hr
  ·exact hb.item l h x hx
  ·simp at hx
theorem Q3{l:List AkH}{k:Nat}(h:k<l.length):nth (l++[r]) k=nth l k:=by simp[nth,AkW h]
theorem RK{l:List AkH}(hs:FollowsOk l s)(h1:1≤s.No):FollowsOk (l++[r]) s:=by
 obtain⟨a,b,c,d⟩:=hs;refine⟨by simp;omega,fun h=>?_,c,?_⟩
 ·rw[Q3 (by omega)];exact b h
 ·rcases d with d|⟨d1,d2,d3,d4⟩
  ·exact .inl d
  ·refine .inr ⟨d1,d2,d3,?_⟩;rw[Q3 (by omega)];exact d4
theorem JK{rw tm:Int}{i1 i2:AkF}(hp:FewP p)(hb:Mid 12 b)(h1:Small i1)(h2:Small i2)(o:NextOk p b rw tm i1 r)(q:NextOk p b rw tm i2 s)(hne:r≠s)(h0:Cn b rw=0) :AA p (KQ p b r) s=some (JW p b r s,0):=by
 have hm:=RT (r:=r) hp.rails hb (by rw[o.item];exact h1);obtain⟨es,ef,a1,a2,a3⟩:=QC (r:=s) hp.few hm (by omega) (by rw[q.item];exact h2)
 have hes:es=0:=by
  rw[q.single0]at a1;exact(Alm a1).symm
 obtain⟨_,b2⟩:=a2 hes
 have hl:logV (KQ p b r) s.Zb=logV b rw++[r]:=by
  rw[q.rail,←o.rail];exact YG (by rw[o.rail];exact o.rng)
 rw[hl]at b2;have hef:ef=0:=b2.2 (RK q.foll (by have:=q.no;omega));rw[a3];congr 1;unfold G0;have hno:=q.no;rw[AkT (fun h=>h hes),hl]
 have hat:nth (logV b rw++[r]) (s.No-1).toNat=r:=by
  rw[show(s.No-1).toNat=(logV b rw).length by omega];simp[nth]
 rw[hat,AkT (fun h=>hne h.2),AkT (fun h=>h hef),AkT (by simp;omega)];unfold Abr JW;rw[hl,hat]
 have hany:¬(KQ p b r).Zz1.any (H2 s)=true:=by
  intro h;rw[Ans]at h;obtain⟨f,hf,hq⟩:=h;simp only[H2,Ak6,AlX]at hq;have:=(Qo b.Zz1 0 (by omega) h0).2 f hf;exact this ⟨by rw[hq.1,q.rail],by rw[hq.2];omega⟩
 rw[AkT hany];rfl
theorem OP(p:AkC)(b:AkJ)(hbi:BookInts b)(rw:Int)(sec:UInt64)(tm:Int)(one two:AkF):D6 p b rw sec tm one two=some true:=by
 unfold D6;rw[Ac7,AkQ,AkT (by simp)];refine Xi fun hp hb h1 h2=>?_
 obtain⟨r,e,r1,r2,r3⟩:=Qv (rw:=rw) (sec:=sec) (tm:=tm) hp.few hb.mid (by omega) h1;obtain⟨s,f,s1,s2,s3⟩:=Qv (rw:=rw) (sec:=sec) (tm:=tm) hp.few hb.mid (by omega) h2;rw[r1,AkQ,s1,AkQ];by_cases he:e=0
 case neg=>rw[AkS (by simpa using he)];rfl
 by_cases hf:f=0
 case neg=>rw[AkT (by simpa using he),AkS (by simpa using hf)];rfl
 have o:=r3 he;have q:=s3 hf;have hir:Small r.Zx1:=by rw[o.item];exact h1
 have his:Small s.Zx1:=by rw[q.item];exact h2
 rw[AkT (by simpa using he),AkT (by simpa using hf),UJ (TL hir),AkQ];by_cases hne:r=s
 ·rw[AkS (Ak3 hne)];rfl
 rw[AkT (by simpa using hne),V4 _ (by have:=hb.forks;omega),AkQ,AkQ];by_cases h0:Cn b rw=0
 case neg=>rw[AkS (by simpa using h0)]
 rw[AkT (by simpa using h0)];simp only;have y1:=JK hp hb.mid h1 h2 o q hne h0;have y2:=JK hp hb.mid h2 h1 q o (fun h=>hne h.symm) h0;rw[o.acc,AkQ,y1,AkQ,q.acc,AkQ,y2,AkQ];have hfl:=hb.forks;have w1:w64 ((b.Zz1.length:Int)+1)=(b.Zz1.length:Int)+1:=B6 (by omega);rw[AkT (by simp),AkT (by simp),AkT (by simp),AkT (by simp),w1,AkT (by simp[JW]),AkQ,AkT (by simp[JW])];have hlen:∀u v:AkH,(JW p b u v).Zz1.length≤1000000:=fun u v=>by simp[JW];omega
 have hfk:∀u v:AkH,u.Zb=rw→u.No=((logV b rw).length:Int)+1→Cn (JW p b u v) rw=u.No:=by
  intro u v e1 e2;unfold JW;rw[Kw,h0];unfold CE;rw[AkS (by simp[e1];omega)]
 rw[Mq _ (hlen _ _),AkQ,hfk r s o.rail o.no,AkS (by simp),Mq _ (hlen _ _),AkQ,hfk s r q.rail q.no,AkS (by rw[q.no,o.no];simp)];obtain⟨l1,l2⟩:=hb.mid.logV rw
 have hints:∀u v:AkH,u.No=((logV b rw).length:Int)+1→∀g∈(JW p b u v).Zz1,I64 g.A.No:=by
  intro u v e2 g hg;rcases Alc.1 (show g∈b.Zz1++[{ A:=u,B:=v }]from hg)with hg|hg
  ·exact hbi.fno g hg
  ·rw[Amc]at hg;rw[hg];exact⟨by show _≤u.No;omega,by show u.No≤_;omega⟩
 have mr:=RT (p:=p) (r:=r) hp.rails hb.mid hir;have ms:=RT (p:=p) (r:=s) hp.rails hb.mid his;have cr:BE (JW p b r s)=some (CS (JW p b r s)):=KA (hlen _ _) (by have:=mr.logs;show(KQ p b r).Zy1.length≤_;omega) (fun l hl=>by have:=mr.row l hl;omega) (hints r s o.no);have cs:BE (JW p b s r)=some (CS (JW p b s r)):=KA (hlen _ _) (by have:=ms.logs;show(KQ p b s).Zy1.length≤_;omega) (fun l hl=>by have:=ms.row l hl;omega) (hints s r q.no);have cb:BE b=some (CS b):=KA (by omega) (by have:=hb.logs;omega) (fun l hl=>by have:=hb.row l hl;omega) hbi.fno;have er:=LM (p:=p) (b:=b) (r:=r) (s:=s) o.rail o.rng o.no h0;have es:=LM (p:=p) (b:=b) (r:=s) (s:=r) q.rail q.rng q.no h0
 have hrows:∀l∈(CS (JW p b r s)).Zy1,l.length≤1000000∧L9 l:=by
  intro l hl;simp only[CS,AlW,AlF]at hl;obtain⟨i,hi,rfl⟩:=hl;have hm:nth (JW p b r s).Zy1 i∈(KQ p b r).Zy1:=ED hi;refine⟨?_,fun x hx=>TL (mr.item _ hm x (Q1 x hx))⟩;have:=mr.row _ hm;have:=Q9 (b:=JW p b r s) (i:=i);omega
 have lr:(CS (JW p b r s)).Zy1.length≤100000:=by rw[Fj];have:=mr.logs;show(KQ p b r).Zy1.length≤_;omega
 have ls:(CS (JW p b s r)).Zy1.length≤100000:=by rw[Fj];have:=ms.logs;show(KQ p b s).Zy1.length≤_;omega
 have lb:(CS b).Zy1.length≤100000:=by rw[Fj];have:=hb.logs;omega
 rw[cr,AkQ,cs,AkQ,Qn lr ls hrows (fun i=>(er i).trans (es i).symm),AkQ,AkS rfl,AkQ,cb,AkQ,Qn lr lb hrows er];rfl
theorem VU{b:AkJ}(h:K1 b):BookInts b:=by
 obtain⟨h1,h2,_⟩:=h;refine⟨fun l hl r hr=>?_,fun f hf=>?_⟩
 ·obtain⟨_,_,_,_,h3,_⟩:=(h1.2 l hl).2 r hr;obtain⟨_,⟨h4,h5,_⟩,_⟩:=h3;exact⟨h4,h5⟩
 ·obtain⟨⟨_,h3,_⟩,_⟩:=h2.2 f hf;exact h3
theorem NI{p:AkC}(_:Q4 p){b:AkJ}(hb:K1 b){rw:Int}(_:I64 rw){s:UInt64}(_:True){t:Int}(_:I64 t){one:AkF}(_:JF one){two:AkF}(_:JF two):D6 p b rw s t one two=some true:=OP p b (VU hb) rw s t one two
end Go.Proofs.YtioapcamanmoiaaDoor
