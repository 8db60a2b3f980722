/-
  Part 46.
-/
import Derived.Test.YtioapcamanmoiaaDoorYF443
import Derived.Test.YtioapcamanmoiaaDoorYF444
import Derived.Test.YtioapcamanmoiaaDoorYF445
import Derived.KernelRfl
namespace Go.Proofs.YtioapcamanmoiaaDoor
open Go.Rv
set_option linter.unusedVariables false
set_option linter.unusedSimpArgs false
set_option maxRecDepth 100000
variable{r:AkF}
theorem TF{n:Nat}(h:n≤2100000):Dj n 64:=⟨Amo h (by decide),Amo (AkU 64 h) (by decide)⟩
def iV(n:Int):AkI:=AkI.mk 1 n [] []
def tV(s:List UInt8):AkI:=AkI.mk 2 0 s []
def lV(l:List AkI):AkI:=AkI.mk 3 0 [] l
def Mw(x:AkC):AkI:=lV [iV x.Za,iV x.Zl1,iV (if x.Zm1=true then 1 else 0)]
def AbI(it:AkD):List AkI:=[iV it.Za,lV [iV it.Ref.Zb,iV it.Ref.No],iV it.Zn1,iV it.Zb1,iV it.Zc,iV it.Zo1,iV it.Zw,iV it.To,iV it.Code,iV it.Zp1,iV it.Zq1,iV it.Zr1,iV it.Zs1]
def val(it:AkD):AkI:=lV (AbI it++[tV it.Zt1,lV (it.Zu1.map Mw)])
theorem map_take{α β:Type}[Inhabited α](f:α→β)(l:List α)(k:Nat)(hk:k<l.length):(l.take (k+1)).map f=(l.take k).map f++[f (nth l k)]:=by
 have h:l.take (k+1)=l.take k++[nth l k]:=by
  rw[AmU,AkP hk];simp[nth,AkP hk]
 rw[h];simp
theorem AdI{it:AkD}(hp:it.Zu1.length≤2000000):A3 (fun(v:Int×List AkI)=>D4 it v.1 v.2) (0,[])=some (it.Zu1.map Mw):=by
 obtain⟨x,hx,rfl⟩:=E5 (f:=fun(v:Int×List AkI)=>D4 it v.1 v.2) it.Zu1.length (fun k v=>v=((k:Int),(it.Zu1.take k).map Mw)) (fun x=>x=it.Zu1.map Mw) (by omega) (by
  rintro k v hk rfl;refine⟨_,?_,rfl⟩;have hin:InR (k:Int) it.Zu1.length:=⟨by omega,by simpa using hk⟩;unfold D4;rw[if_pos (AkZ (by omega)),if_pos hin,Cq (by omega),map_take _ _ k hk];simp only[Ak2,Bv];have e:(if(nth it.Zu1 k).Zm1=true then some 1 else some 0:Option Int)=some (if(nth it.Zu1 k).Zm1=true then 1 else 0):=by split<;>rfl
  rw[e];simp only[AkO,AL,DU];rw[if_pos (TF (by simp;omega))];rfl) (by;rintro v rfl;refine⟨_,?_,rfl⟩;unfold D4;rw[if_neg (by simp)];simp) (v0:=(0,[])) (by simp)
 exact hx
theorem PA{it:AkD}(hp:it.Zu1.length≤2000000):FK it=some (val it):=by
 unfold FK;simp only[AkO,AL,DU,Gq,edi_list_cnil,L9,Bv,AdI hp]
 repeat rw[if_pos (TF (by simp))]
 simp only[AkO];rw[if_pos (TF (by simp))];rfl
def AaJ(n:UInt64)(k:Nat):UInt8:=(Dz n (56-8*k)).toUInt8
def PL(n:UInt64):List UInt8:=(List.range 8).map (AaJ n)
def XR(n:UInt64)(k:Nat):List UInt8:=(List.range 8).map fun j=>if j<k then AaJ n j else 0
theorem XZ(n:UInt64):∀{k:Nat},k<8→(XR n k).set k (AaJ n k)=XR n (k+1)
 |0,_=>rfl
 |1,_=>rfl
 |2,_=>rfl
 |3,_=>rfl
 |4,_=>rfl
 |5,_=>rfl
 |6,_=>rfl
 |7,_=>rfl
 |k+8,h=>by omega
theorem Xb(n:UInt64):GO n=some (tV (PL n)):=by
 have h:A3 (fun(v:Int×List UInt8)=>DE n (List.replicate 8 (0:UInt8)) v.1 v.2) (0,List.replicate 8 (0:UInt8))=some (PL n):=by
  refine Uj 8 (fun(v:Int×List UInt8)=>DE n (List.replicate 8 (0:UInt8)) v.1 v.2) (fun k s=>(k,s)) (XR n) id (by omega) (fun k hk=>?_) ?_
  ·have e1:w64 (56-w64 (8*(k:Int)))=((56-8*k:Nat):Int):=by rw[B6 (x:=8*(k:Int)) (by omega),B6 (by omega)];omega
   simp only;unfold DE;rw[if_pos (AkZ (by simp;omega)),e1,if_pos (by unfold EB;omega),if_pos (show InR (k:Int) (XR n k).length from BH (by simpa [XR]using hk))];simp only[Bv,Ak2];rw[Cq (by omega),show(Dz n (56-8*k)).toUInt8=AaJ n k from rfl,XZ n hk]
  ·simp only;unfold DE;rw[if_neg (by simp)];rfl
 unfold GO;rw[if_pos (by unfold Mk maxLen Gj;omega)];simp only[Bv];rw[h];rfl
def Ll(r:AkF):List AkI:=[iV r.Zb,iV r.No,tV r.Zv1.l,iV r.Zw1,val r.Zx1]
def WD(r:AkF):AkI:=lV (Ll r++[lV [tV (PL r.Sig.C),tV (PL r.Sig.S)]])
theorem Mq(hp:r.Zx1.Zu1.length≤2000000):DM r=some (Ll r):=by
 unfold DM;rw[PA hp];rfl
theorem Yc(n:Int):Kc.szV (iV n)=1:=by rw[Kc.szV_eq];rfl
theorem JB:Kc.szVs []=0:=rfl
theorem EH(x:AkI)(l:List AkI):Kc.szVs (x::l)=Kc.szV x+Kc.szVs l:=rfl
theorem T9(a b:List AkI):Kc.szVs (a++b)=Kc.szVs a+Kc.szVs b:=by
 induction a with
 |nil=>rw[AlB,JB];omega
 |cons x a ih=>rw[Alc,EH,EH,ih];omega
theorem Ace(s:List UInt8):Kc.szV (tV s)=s.length+1:=by rw[Kc.szV_eq];rfl
theorem R9(l:List AkI):Kc.szV (lV l)=1+Kc.szVs l:=by rw[Kc.szV_eq];show 0+1+Kc.szVs l=_;omega
theorem Yd(l:List AkC):Kc.szVs (l.map Mw)=4*l.length:=by
  induction l with
  |nil=>rfl
  | cons x l ih=>
    rw[Al7,EH,ih];unfold Mw;rw[R9,EH,EH,EH,JB,Yc,Yc,Yc,Ak9];omega
theorem XJ(it:AkD):Kc.szV (val it)=18+it.Zt1.length+4*it.Zu1.length:=by
 unfold val AbI;rw[R9,T9];simp only[EH,JB,Yc,R9,Ace,Yd];omega
theorem Uy(r:AkF):Kc.szV (lV (Ll r))=55+r.Zx1.Zt1.length+4*r.Zx1.Zu1.length:=by
 unfold Ll;rw[R9];simp only[EH,JB,Yc,Ace,XJ,r.Zv1.h];omega
theorem XM(r:AkF):Kc.szV (WD r)=74+r.Zx1.Zt1.length+4*r.Zx1.Zu1.length:=by
 have h:=Uy r;rw[R9]at h;have hw:∀n,(PL n).length=8:=fun n=>by simp[PL]
 unfold WD;rw[R9,T9];simp only[EH,JB,R9,Ace,hw];omega
theorem XV(h:Small r.Zx1):Gd r=some (Kc.Enc (lV (Ll r))):=by
 have h1:=h.text;have h2:=h.parts;unfold Gd;rw[Mq (by omega),AkO];show(some (lV (Ll r))).bind _=_;rw[AkO,Kc.encode_eq _ (by rw[Uy];omega)];rfl
theorem Ve(h:Small r.Zx1):FR r=some (Kc.Enc (WD r)):=by
 have h1:=h.text;have h2:=h.parts;unfold FR;rw[Mq (by omega),AkO,Xb,AkO,Xb,AkO];show(some (lV [tV (PL r.Sig.C),tV (PL r.Sig.S)])).bind _=_;rw[AkO,if_pos (TF (by simp[Ll]))];show(some (WD r)).bind _=_;rw[AkO,Kc.encode_eq _ (by rw[XM];omega)];rfl
theorem AbA(v:AkI):(Kc.Enc v).1.length≤9*Kc.szV v:=by
 unfold Kc.Enc
 repeat' split
 all_goals first|exact Kc.encV_len v|simp
theorem Tk(h:Small r.Zx1):∃d,D0 r=some d∧((Kc.Enc (WD r)).2≠0→d.2=(Kc.Enc (WD r)).2)∧((Kc.Enc (WD r)).2=0→d.2=0∧CF [114,101,99,111,114,100] (Kc.Enc (WD r)).1=some d.1):=by
 have h1:=h.text;have h2:=h.parts;have h3:=AbA (WD r);rw[XM]at h3;unfold D0;rw[Ve h,AkO];by_cases he:(Kc.Enc (WD r)).2=0
 ·rw[if_neg (by simpa using he)];obtain⟨d,hd⟩:=Ks [114,101,99,111,114,100] (Kc.Enc (WD r)).1 (by simp) (by omega);rw[hd];exact⟨_,rfl,fun h=>absurd he h,fun _=>⟨rfl,rfl⟩⟩
 ·rw[if_pos (by simpa using he)];exact⟨_,rfl,fun _=>rfl,fun h=>absurd h he⟩
set_option maxRecDepth 8000
theorem z_i{x y:Int}:Kc.cmpV (iV x) (iV y)=0↔x=y:=by
 rw[Kc.cmpV_eq];show(if(1:Int)≠1 then _ else if(1:Int)=1 then Kc.cmpI x y else _)=0↔_;rw[if_neg (by simp),if_pos rfl,Kc.cmpI_zero]
theorem z_b:∀{a b:List UInt8},Kc.cmpB a b=0↔a=b
  |[],[]=>by simp[Kc.cmpB]
  |[],_::_=>by simp[Kc.cmpB]
  |_::_,[]=>by simp[Kc.cmpB]
  | x :: l,y::m=>by
    unfold Kc.cmpB;by_cases h:x=y
    · rw[if_pos h,z_b (a:=l) (b:=m),h];simp
    · rw[if_neg h]
      split<;>simp[h]
theorem z_t{a b:List UInt8}:Kc.cmpV (tV a) (tV b)=0↔a=b:=by
 rw[Kc.cmpV_eq];show(if(2:Int)≠2 then _ else if(2:Int)=1 then _ else if(2:Int)=2 then Kc.cmpB a b else _)=0↔_;rw[if_neg (by simp),if_neg (by decide),if_pos rfl,z_b]
theorem c_l{a b:List AkI}:Kc.cmpV (lV a) (lV b)=Kc.cmpL a b:=by
 rw[Kc.cmpV_eq];show(if(3:Int)≠3 then _ else if(3:Int)=1 then _ else if(3:Int)=2 then _ else if(3:Int)=3 then Kc.cmpL a b else _)=_;rw[if_neg (by simp),if_neg (by decide),if_neg (by decide),if_pos rfl]
theorem z_c{x y:AkI}{l m:List AkI}:Kc.cmpL (x::l) (y::m)=0↔Kc.cmpV x y=0∧Kc.cmpL l m=0:=by
 rw[Kc.cmpL];by_cases h:Kc.cmpV x y=0
 ·rw[if_neg (by simpa using h)];simp[h]
 ·rw[if_pos h];simp[h]
theorem z_n:Kc.cmpL [] []=0:=by rw[Kc.cmpL]
theorem z_p{x y:AkC}:Kc.cmpV (Mw x) (Mw y)=0↔x=y:=by
 unfold Mw;rw[c_l,z_c,z_c,z_c,z_i,z_i,z_i];rcases x with⟨a,b,c⟩
 rcases y with⟨d,e,f⟩
 simp only[z_n,Anz,AkC.mk.injEq];cases c<;>cases f<;>simp
theorem z_ps:∀{l m:List AkC},Kc.cmpL (l.map Mw) (m.map Mw)=0↔l=m
 |[],[]=>by simp[z_n]
 |[],y::m=>by rw[Anr,Al7,Kc.cmpL];simp
 |x::l,[]=>by rw[Anr,Al7,Kc.cmpL];simp
 |x::l,y::m=>by rw[Al7,Al7,z_c,z_p,z_ps];simp
theorem z_val{a b:AkD}:Kc.cmpV (val a) (val b)=0↔a=b:=by
 unfold val AbI;simp only[c_l,Alc,AlB,z_c,z_i,z_t,z_ps,z_n,Anz];rcases a with⟨k,⟨r,n⟩,a1,a2,a3,a4,a5,a6,a7,a8,a9,a10,a11,t,p⟩
 rcases b with⟨k',⟨r',n'⟩,b1,b2,b3,b4,b5,b6,b7,b8,b9,b10,b11,t',p'⟩
 simp only[AkD.mk.injEq,AkB.mk.injEq]
theorem Ad4{a b:AkF}(ha:Small a.Zx1)(hb:Small b.Zx1):GL a b=some (decide (a=b)):=by
 have hz:FA (val a.Zx1) (val b.Zx1)=some (Kc.cmpV (val a.Zx1) (val b.Zx1)):=Kc.compare_eq _ _ (by rw[XJ];have:=ha.text;have:=ha.parts;omega);unfold GL;by_cases h1:a.Zb=b.Zb
 case neg=>rw[if_neg (by simpa using h1),Alm (fun h=>h1 (by rw[h]))];rfl
 by_cases h2:a.No=b.No
 case neg=>rw[if_pos (by simpa using h1),if_neg (by simpa using h2),Alm (fun h=>h2 (by rw[h]))];rfl
 by_cases h3:a.Zv1=b.Zv1
 case neg=>rw[if_pos (by simpa using h1),if_pos (by simpa using h2),if_neg (by simpa using h3),Alm (fun h=>h3 (by rw[h]))];rfl
 by_cases h4:a.Zw1=b.Zw1
 case neg=>rw[if_pos (by simpa using h1),if_pos (by simpa using h2),if_pos (by simpa using h3),if_neg (by simpa using h4),Alm (fun h=>h4 (by rw[h]))];rfl
 rw[if_pos (by simpa using h1),if_pos (by simpa using h2),if_pos (by simpa using h3),if_pos (by simpa using h4),AkO];by_cases h5:((a.Sig.C==b.Sig.C)&&(a.Sig.S==b.Sig.S))=true
 case neg=>
  rw[if_neg h5,Alm (fun h=>h5 (by rw[h];simp))];rfl
 rw[if_pos h5,PA (by have:=ha.parts;omega),AkO,PA (by have:=hb.parts;omega),AkO,hz];simp only[AkO];simp only[Ak3,AlW]at h5;by_cases h6:a.Zx1=b.Zx1
 ·rw[AkZ (XA h1 h2 h3 h4 h5.1 h5.2 h6),h6,z_val.2 rfl];rfl
 ·rw[Alm (fun h=>h6 (by rw[h]))];congr 1;simp only[AmA,ne_eq];exact fun h=>h6 (z_val.1 h)
def H0(r:AkF)(f:AkG):Bool:=(f.A.Zb==r.Zb)&&(f.A.No==r.No)
theorem acc1(f:AkG)(r:AkF):E9 f r=some (H0 r f,r):=by
 unfold E9 H0;by_cases h:f.A.Zb=r.Zb<;>simp[h]
theorem RY(l:List AkG)(r:AkF)(hl:l.length≤1000000):AX l r=some (l.any (H0 r),r):=by
 unfold AX BG;generalize hF:(fun(v:Int×Int×Int×Arr UInt8 32×Int×Int×Int×Int×Int×Int×Int×Int×Int×Int×Int×Int×Int×Int×Int×List UInt8×List AkC×UInt64×UInt64)=>AH l v.1 v.2.1 v.2.2.1 v.2.2.2.1 v.2.2.2.2.1 v.2.2.2.2.2.1 v.2.2.2.2.2.2.1 v.2.2.2.2.2.2.2.1 v.2.2.2.2.2.2.2.2.1 v.2.2.2.2.2.2.2.2.2.1 v.2.2.2.2.2.2.2.2.2.2.1 v.2.2.2.2.2.2.2.2.2.2.2.1 v.2.2.2.2.2.2.2.2.2.2.2.2.1 v.2.2.2.2.2.2.2.2.2.2.2.2.2.1 v.2.2.2.2.2.2.2.2.2.2.2.2.2.2.1 v.2.2.2.2.2.2.2.2.2.2.2.2.2.2.2.1 v.2.2.2.2.2.2.2.2.2.2.2.2.2.2.2.2.1 v.2.2.2.2.2.2.2.2.2.2.2.2.2.2.2.2.2.1 v.2.2.2.2.2.2.2.2.2.2.2.2.2.2.2.2.2.2.1 v.2.2.2.2.2.2.2.2.2.2.2.2.2.2.2.2.2.2.2.1 v.2.2.2.2.2.2.2.2.2.2.2.2.2.2.2.2.2.2.2.2.1 v.2.2.2.2.2.2.2.2.2.2.2.2.2.2.2.2.2.2.2.2.2.1 v.2.2.2.2.2.2.2.2.2.2.2.2.2.2.2.2.2.2.2.2.2.2)=F
 have hs:∀k:Nat,F ((k:Int),r.Zb,r.No,r.Zv1,r.Zw1,r.Zx1.Za,r.Zx1.Ref.Zb,r.Zx1.Ref.No,r.Zx1.Zn1,r.Zx1.Zb1,r.Zx1.Zc,r.Zx1.Zo1,r.Zx1.Zw,r.Zx1.To,r.Zx1.Code,r.Zx1.Zp1,r.Zx1.Zq1,r.Zx1.Zr1,r.Zx1.Zs1,r.Zx1.Zt1,r.Zx1.Zu1,r.Sig.C,r.Sig.S)=
   AH l (k:Int) r.Zb r.No r.Zv1 r.Zw1 r.Zx1.Za r.Zx1.Ref.Zb r.Zx1.Ref.No r.Zx1.Zn1 r.Zx1.Zb1 r.Zx1.Zc r.Zx1.Zo1 r.Zx1.Zw r.Zx1.To r.Zx1.Code r.Zx1.Zp1 r.Zx1.Zq1 r.Zx1.Zr1 r.Zx1.Zs1 r.Zx1.Zt1 r.Zx1.Zu1 r.Sig.C r.Sig.S:=fun k=>by rw[←hF]
 have hlp:=CC (f:=F) (fun v=>∃k:Nat,k≤l.length∧(l.take k).any (H0 r)=false∧v=((k:Int),r.Zb,r.No,r.Zv1,r.Zw1,r.Zx1.Za,r.Zx1.Ref.Zb,r.Zx1.Ref.No,r.Zx1.Zn1,r.Zx1.Zb1,r.Zx1.Zc,r.Zx1.Zo1,r.Zx1.Zw,r.Zx1.To,r.Zx1.Code,r.Zx1.Zp1,r.Zx1.Zq1,r.Zx1.Zr1,r.Zx1.Zs1,r.Zx1.Zt1,r.Zx1.Zu1,r.Sig.C,r.Sig.S)) (fun v=>(l.length-v.1).toNat)
  (fun x=>(l.any (H0 r)=false∧x=.inl (r.Zb,r.No,r.Zv1,r.Zw1,r.Zx1.Za,r.Zx1.Ref.Zb,r.Zx1.Ref.No,r.Zx1.Zn1,r.Zx1.Zb1,r.Zx1.Zc,r.Zx1.Zo1,r.Zx1.Zw,r.Zx1.To,r.Zx1.Code,r.Zx1.Zp1,r.Zx1.Zq1,r.Zx1.Zr1,r.Zx1.Zs1,r.Zx1.Zt1,r.Zx1.Zu1,r.Sig.C,r.Sig.S))∨(l.any (H0 r)=true∧∃k:Nat,x=.inr (.inr ((k:Int),r)))) ?_ ⟨0,by omega,rfl,rfl⟩ (by simp;omega)
 ·obtain⟨x,hx,hq⟩:=hlp;show((((A3 F ((0:Int),r.Zb,r.No,r.Zv1,r.Zw1,r.Zx1.Za,r.Zx1.Ref.Zb,r.Zx1.Ref.No,r.Zx1.Zn1,r.Zx1.Zb1,r.Zx1.Zc,r.Zx1.Zo1,r.Zx1.Zw,r.Zx1.To,r.Zx1.Code,r.Zx1.Zp1,r.Zx1.Zq1,r.Zx1.Zr1,r.Zx1.Zs1,r.Zx1.Zt1,r.Zx1.Zu1,r.Sig.C,r.Sig.S)).bind _).bind _).bind _)=_;rw[show A3 F ((0:Int),r.Zb,r.No,r.Zv1,r.Zw1,r.Zx1.Za,r.Zx1.Ref.Zb,r.Zx1.Ref.No,r.Zx1.Zn1,r.Zx1.Zb1,r.Zx1.Zc,r.Zx1.Zo1,r.Zx1.Zw,r.Zx1.To,r.Zx1.Code,r.Zx1.Zp1,r.Zx1.Zq1,r.Zx1.Zr1,r.Zx1.Zs1,r.Zx1.Zt1,r.Zx1.Zu1,r.Sig.C,r.Sig.S)=some x from hx];rcases hq with⟨h1,rfl⟩|⟨h1,k,rfl⟩
  ·rw[h1];rfl
  ·rw[h1];simp only[AkO];rw[AkZ (by omega)]
 ·rintro v ⟨k,hk,ht,rfl⟩;rw[hs];unfold AH;by_cases h1:k<l.length
  ·rw[if_pos (AkZ (by omega)),if_pos (BH h1)];simp only[Ak2];rw[acc1,AkO];show(∃v',(if H0 r (nth l k)=true then _ else _)=_∧_)∨_;have hn:nth l k=l[k]:=by simp[nth,h1]
   by_cases h2:H0 r (nth l k)=true
   ·right;refine⟨_,by rw[if_pos h2];rfl,.inr ⟨?_,k,rfl⟩⟩;rw[List.any_eq_true];exact⟨_,E6 h1,h2⟩
   ·left;refine⟨_,by rw[if_neg h2],⟨k+1,by omega,?_,by rw[Cq (by omega)]⟩,?_⟩
    ·rw[Amt h1,List.any_append,ht,←hn];simpa using h2
    ·show((l.length:Int)-w64 ((k:Int)+1)).toNat<((l.length:Int)-(k:Int)).toNat;rw[Cq (by omega)];omega
  ·have:k=l.length:=by omega
   subst this;rw[AlZ]at ht;right;exact⟨_,by rw[if_neg (by simp)],.inl ⟨ht,rfl⟩⟩
variable{r:AkF}
structure SingleOk(p:AkA)(r:AkF):Prop where
  pool:B8 p=some 0
  rail:0≤r.Zb∧r.Zb<(p.Zk1.length:Int)
  no:1≤r.No∧r.No≤4096
  time:0≤r.Zw1∧r.Zw1≤1073741824
  item:FO p r.Zx1=some 0
  body:(Kc.Enc (lV (Ll r))).2=0
  ver:El (nth p.Zk1 r.Zb.toNat).Key (Kc.Enc (lV (Ll r))).1 r.Sig=some true
theorem RR{p:AkA}(h:Few p)(hs:Small r.Zx1):∃e,Ef p r=some e∧(e=0→SingleOk p r):=by
 obtain⟨f,hf,hc⟩:=Oy h;obtain⟨u,hi⟩:=hc r.Zx1 (by have:=hs.parts;omega);unfold Ef;rw[hf,AkO];by_cases h0:(f != 0)=true
 ·rw[if_pos h0];exact⟨f,rfl,fun e=>by subst e;exact absurd h0 (by decide)⟩
 rw[if_neg h0];have f0:f=0:=by simpa using h0
 simp only[ZV,HH];split
 ·exact⟨_,rfl,fun e=>absurd e (by decide)⟩
 rename_i h1;simp only[Aly,not_or,Alb]at h1;obtain⟨a1,a2,a3,a4,a5,a6,a7⟩:=h1;rw[hi,AkO];by_cases h2:(u != 0)=true
 ·rw[if_pos h2];exact⟨_,rfl,fun e=>by rw[e]at h2;exact absurd h2 (by decide)⟩
 rw[if_neg h2,XV hs,AkO];by_cases h3:((Kc.Enc (lV (Ll r))).2 != 0)=true
 ·rw[if_pos h3];exact⟨_,rfl,fun e=>by rw[e]at h3;exact absurd h3 (by decide)⟩
 rw[if_neg h3,if_pos (show InR r.Zb p.Zk1.length from⟨by omega,by omega⟩)];obtain⟨b,hb⟩:=R2 (nth p.Zk1 r.Zb.toNat).Key (Kc.Enc (lV (Ll r))).1 r.Sig;rw[hb,AkO];cases b
 ·exact⟨31,rfl,fun e=>absurd e (by decide)⟩
 ·refine⟨0,rfl,fun _=>⟨by rw[hf,f0],⟨by omega,by omega⟩,⟨by omega,by omega⟩,⟨by omega,by omega⟩,?_,by simpa using h3,hb⟩⟩;rw[hi];congr 1;simpa using h2
def Vo(r:AkB):Bool:=(r.Zb==0)&&(r.No==0)
structure FollowsOk(l:List AkF)(r:AkF):Prop where
  no:r.No≤(l.length:Int)+1
  prev:1<r.No→D0 (nth l (r.No-2).toNat)=some (r.Zv1,0)∧(nth l (r.No-2).toNat).Zw1≤r.Zw1
  first:¬1<r.No→r.Zv1=Arr.rep 32 (0:UInt8)
  ref:Vo r.Zx1.Ref=true∨(r.Zx1.Ref.Zb=r.Zb∧1≤r.Zx1.Ref.No∧r.Zx1.Ref.No<r.No∧Vo (nth l (r.Zx1.Ref.No-1).toNat).Zx1.Ref=true)
theorem O5(h:Small r.Zx1):∃d,D0 r=some d:=by
 obtain⟨d,h1,_⟩:=Tk h;exact⟨d,h1⟩
theorem Qk{l:List AkF}(hl:l.length≤10000)(hs:∀x∈l,Small x.Zx1)(hn:1≤r.No):∃e,Fm l r=some e∧(e=0↔FollowsOk l r):=by
 have w1:w64 ((l.length:Int)+1)=(l.length:Int)+1:=B6 (by omega);unfold Fm;rw[w1];by_cases h1:r.No>(l.length:Int)+1
 ·rw[if_pos (AkZ h1)];exact⟨140,rfl,⟨fun e=>absurd e (by decide),fun h=>by have:=h.no;omega⟩⟩
 rw[if_neg (by simpa using h1)];have w2:w64 (r.No-2)=r.No-2:=B6 (by omega)
 have tail:∀d:Arr UInt8 32,∃e,(if(!(d==r.Zv1))then some 140 else
    (if (!((r.Zx1.Ref.Zb==0)&&(r.Zx1.Ref.No==0)))then
     if(r.Zx1.Ref.Zb != r.Zb)then some true
     else
      if(decide (r.Zx1.Ref.No<1))then some true
      else
       if(decide (r.Zx1.Ref.No≥r.No))then some true
       else
        if InR ((w64 (r.Zx1.Ref.No-1))) l.length then
         some ((!(((((nth l (((w64 (r.Zx1.Ref.No-1))).toNat)).Zx1).Ref).Zb==0)&&((((nth l (((w64 (r.Zx1.Ref.No-1))).toNat)).Zx1).Ref).No==0))))
        else none
    else some false:Option (Bool)).bind fun t=>if t then some 110 else some 0:Option Int)=some e ∧
   (e=0↔d=r.Zv1∧(Vo r.Zx1.Ref=true∨(r.Zx1.Ref.Zb=r.Zb∧1≤r.Zx1.Ref.No∧r.Zx1.Ref.No<r.No∧Vo (nth l (r.Zx1.Ref.No-1).toNat).Zx1.Ref=true))):=by
  intro d;by_cases h2:d=r.Zv1
  case neg=>rw[if_pos (by simpa using h2)];exact⟨140,rfl,⟨fun e=>absurd e (by decide),fun h=>absurd h.1 h2⟩⟩
  rw[if_neg (by simpa using h2)];by_cases h3:Vo r.Zx1.Ref=true
  ·have h3':(!((r.Zx1.Ref.Zb==0)&&(r.Zx1.Ref.No==0)))=false:=by rw[show((r.Zx1.Ref.Zb==0)&&(r.Zx1.Ref.No==0))=true from h3];rfl
   rw[h3',if_neg (by simp)];exact⟨0,rfl,⟨fun _=>⟨h2,.inl h3⟩,fun _=>rfl⟩⟩
  have h3':(!((r.Zx1.Ref.Zb==0)&&(r.Zx1.Ref.No==0)))=true:=by
   rw[Anb]at h3;rw[show((r.Zx1.Ref.Zb==0)&&(r.Zx1.Ref.No==0))=false from h3];rfl
  rw[if_pos h3'];by_cases h4:r.Zx1.Ref.Zb=r.Zb
  case neg=>rw[if_pos (by simpa using h4)];exact⟨110,rfl,⟨fun e=>absurd e (by decide),fun h=>(h.2.resolve_left h3).1 |> fun q=>absurd q h4⟩⟩
  rw[if_neg (by simpa using h4)];by_cases h5:r.Zx1.Ref.No<1
  ·rw[if_pos (AkZ h5)];exact⟨110,rfl,⟨fun e=>absurd e (by decide),fun h=>by have:=(h.2.resolve_left h3).2.1;omega⟩⟩
  rw[if_neg (by simpa using h5)];by_cases h6:r.Zx1.Ref.No≥r.No
  ·rw[if_pos (AkZ h6)];exact⟨110,rfl,⟨fun e=>absurd e (by decide),fun h=>by have:=(h.2.resolve_left h3).2.2.1;omega⟩⟩
  rw[if_neg (by simpa using h6)];have w3:w64 (r.Zx1.Ref.No-1)=r.Zx1.Ref.No-1:=B6 (by omega);rw[w3,if_pos (show InR (r.Zx1.Ref.No-1) l.length from⟨by omega,by omega⟩),AkO];by_cases h7:Vo (nth l (r.Zx1.Ref.No-1).toNat).Zx1.Ref=true
  ·have h7':(!((((nth l (r.Zx1.Ref.No-1).toNat).Zx1.Ref.Zb==0)&&((nth l (r.Zx1.Ref.No-1).toNat).Zx1.Ref.No==0))))=false:=by
    rw[show(((nth l (r.Zx1.Ref.No-1).toNat).Zx1.Ref.Zb==0)&&((nth l (r.Zx1.Ref.No-1).toNat).Zx1.Ref.No==0))=true from h7];rfl
   rw[h7',if_neg (by simp)];exact⟨0,rfl,⟨fun _=>⟨h2,.inr ⟨h4,by omega,by omega,h7⟩⟩,fun _=>rfl⟩⟩
  ·have h7':(!((((nth l (r.Zx1.Ref.No-1).toNat).Zx1.Ref.Zb==0)&&((nth l (r.Zx1.Ref.No-1).toNat).Zx1.Ref.No==0))))=true:=by
    rw[Anb]at h7;rw[show(((nth l (r.Zx1.Ref.No-1).toNat).Zx1.Ref.Zb==0)&&((nth l (r.Zx1.Ref.No-1).toNat).Zx1.Ref.No==0))=false from h7];rfl
   rw[h7',if_pos rfl];exact⟨110,rfl,⟨fun e=>absurd e (by decide),fun h=>absurd (h.2.resolve_left h3).2.2.2 h7⟩⟩
 by_cases h2:r.No>1
 ·rw[if_pos (AkZ h2),w2];have hin:InR (r.No-2) l.length:=⟨by omega,by omega⟩;rw[if_pos hin];have hk:(r.No-2).toNat<l.length:=by omega
  obtain⟨d,hd⟩:=O5 (hs _ (E6 hk));rw[hd,AkO];by_cases h3:d.2=0
  case neg=>
   rw[if_pos (by simpa using h3)];refine⟨140,rfl,⟨fun e=>absurd e (by decide),fun h=>?_⟩⟩;have:=(h.prev h2).1;rw[hd]at this;exact absurd (Amf Prod.snd (Alk this)) h3
  rw[if_neg (by simpa using h3),if_pos hin,AkO];by_cases h4:r.Zw1<(nth l (r.No-2).toNat).Zw1
  ·rw[if_pos (AkZ h4)];exact⟨140,rfl,⟨fun e=>absurd e (by decide),fun h=>by have:=(h.prev h2).2;omega⟩⟩
  rw[if_neg (by simpa using h4),AkO];obtain⟨e,he,hq⟩:=tail d.1;refine⟨e,he,hq.trans ⟨fun h=>⟨by omega,fun _=>⟨?_,by omega⟩,fun h5=>absurd h2 h5,h.2⟩,fun h=>⟨?_,h.ref⟩⟩⟩
  ·rw[hd,←h.1,←h3]
  ·have:=(h.prev h2).1;rw[hd]at this;exact Amf Prod.fst (Alk this)
 ·rw[if_neg (by simpa using h2),AkO];obtain⟨e,he,hq⟩:=tail (Arr.rep 32 (0:UInt8));exact⟨e,he,hq.trans ⟨fun h=>⟨by omega,fun h5=>absurd h5 h2,fun _=>h.1.symm,h.2⟩,fun h=>⟨(h.first h2).symm,h.ref⟩⟩⟩
structure Mid(n:Nat)(b:AkH):Prop where
  logs:b.Zy1.length≤n
  forks:b.Zz1.length≤n
  row:∀l∈b.Zy1,l.length≤n
  item:∀l∈b.Zy1,∀r∈l,Small r.Zx1
theorem Short.mid{b:AkH}(h:Short b):Mid 12 b:=⟨by have:=h.logs;omega,by have:=h.forks;omega,h.row,h.item⟩
def logV(b:AkH)(rw:Int):List AkF:=if 0≤rw∧rw<(b.Zy1.length:Int)then nth b.Zy1 rw.toNat else[]
theorem T7{b:AkH}{rw:Int}(h:0≤rw):FI b rw=some (logV b rw):=by
 unfold FI logV;by_cases h1:rw<(b.Zy1.length:Int)
 ·rw[if_neg (by simp;omega),if_pos (show InR rw b.Zy1.length from⟨h,by omega⟩),if_pos ⟨h,h1⟩]
 ·rw[if_pos (by simp;omega),if_neg (fun h2=>h1 h2.2)]
theorem Abi(b:AkH)(rw:Int):Kz b rw=some (logV b rw):=by
 unfold Kz logV;rw[ZV,AkO];by_cases h:0≤rw∧rw<(b.Zy1.length:Int)
 ·rw[if_neg (by simp;omega),if_pos (show InR rw b.Zy1.length from⟨h.1,by omega⟩),if_pos h]
 ·rw[if_pos (by simp;omega),if_neg h]
theorem Mid.logV{n:Nat}{b:AkH}(h:Mid n b)(rw:Int):(logV b rw).length≤n∧∀r∈Proofs.YtioapcamanmoiaaDoor.logV b rw,Small r.Zx1:=by
 unfold Proofs.YtioapcamanmoiaaDoor.logV;split
 ·rename_i h1;have hk:rw.toNat<b.Zy1.length:=by omega
  exact⟨h.row _ (E6 hk),h.item _ (E6 hk)⟩
 ·exact⟨by simp,fun r hr=>by simp at hr⟩
def VP(N:Nat)(L:List (List AkF)):List (List AkF):=L++List.replicate (N-L.length) []
theorem AcU(N:Nat)(L:List (List AkF))(h:L.length≤N):ovl (List.replicate N ([]:List AkF)) (L.take (min L.length (List.replicate N ([]:List AkF)).length)) 0=VP N L:=by
 unfold ovl VP;rw[AmM,AmL h,AlZ];simp
def KR(p:AkA)(b:AkH)(r:AkF):AkH:={ Zy1:=(VP (max b.Zy1.length p.Zk1.length) b.Zy1).set r.Zb.toNat (logV b r.Zb++[r]),Zz1:=b.Zz1 }
def Adn(b:AkH)(r:AkF):AkH:={ Zy1:=b.Zy1,Zz1:=if b.Zz1.any (H0 r)=true then b.Zz1 else b.Zz1++[{ A:=nth (logV b r.Zb) (r.No-1).toNat,B:=r }] }
abbrev noB:AkH:={ Zy1:=[],Zz1:=[] }
def G6(p:AkA)(b:AkH)(r:AkF)(es ef:Int):AkH×Int :=
 if es≠0 then(noB,es)else if r.No≤((logV b r.Zb).length:Int)∧nth (logV b r.Zb) (r.No-1).toNat=r then(b,0)
 else if ef≠0 then(noB,ef)else if r.No=((logV b r.Zb).length:Int)+1 then(KR p b r,0)else(Adn b r,0)
theorem AdW{l:List AkF}(h:l.length≤100000):DL l=some l:=by
 unfold DL;rw[if_pos (by unfold Dj maxLen Gj;omega)];simp only[Bv,AlB]
theorem AdT{l:List AkG}(h:l.length≤100000):DF l=some l:=by
 unfold DF;rw[if_pos (by unfold Dj maxLen Gj;omega)];simp only[Bv,AlB]
theorem Qq{p:AkA}{b:AkH}{r:AkF}{n:Nat}(h:Few p)(hm:Mid n b)(hn:n≤10000)(hr:Small r.Zx1) :∃es ef,Ef p r=some es∧(es=0→SingleOk p r∧(ef=0↔FollowsOk (logV b r.Zb) r))∧AA p b r=some (G6 p b r es ef):=by
 obtain⟨es,h1,h2⟩:=RR h hr;by_cases h0:es=0
 case neg=>
  refine⟨es,0,h1,fun e=>absurd e h0,?_⟩;unfold AA G6;rw[h1,AkO,if_pos (by simpa using h0),if_pos h0]
 have hs:=h2 h0;obtain⟨l1,l2⟩:=hm.logV r.Zb;obtain⟨ef,f1,f2⟩:=Qk (l:=logV b r.Zb) (r:=r) (by omega) l2 hs.no.1;refine⟨es,ef,h1,fun _=>⟨hs,f2⟩,?_⟩;unfold AA G6;rw[h1,AkO,if_neg (show ¬(es != 0)=true by simpa using h0),T7 hs.rail.1,AkO,if_neg (show ¬es≠0 from fun h=>h h0)];generalize hl:logV b r.Zb=l at *;obtain⟨n1,n2⟩:=hs.no;have w1:w64 (r.No-1)=r.No-1:=B6 (by omega);have w2:w64 ((l.length:Int)+1)=(l.length:Int)+1:=B6 (by omega)
 have hsame:(if(decide (r.No≤(l.length:Int)))then if InR ((w64 (r.No-1))) l.length then(GL (nth l (((w64 (r.No-1))).toNat)) r).bind fun y=>some y else none else some false:Option Bool)=some (decide (r.No≤(l.length:Int)∧nth l (r.No-1).toNat=r)):=by
  by_cases h3:r.No≤(l.length:Int)
  ·have hk:(r.No-1).toNat<l.length:=by omega
   rw[if_pos (AkZ h3),w1,if_pos (show InR (r.No-1) l.length from⟨by omega,by omega⟩),Ad4 (l2 _ (E6 hk)) hr,AkO];congr 1;simp[h3]
  ·rw[if_neg (by simpa using h3),Alm (fun h=>h3 h.1)]
 rw[hsame,AkO];by_cases h4:r.No≤(l.length:Int)∧nth l (r.No-1).toNat=r
 ·rw[if_pos (AkZ h4),if_pos h4]
 rw[if_neg (by simpa using h4),if_neg h4,f1,AkO];by_cases h5:ef=0
 case neg=>rw[if_pos (by simpa using h5),if_pos h5]
 rw[if_neg (show ¬(ef != 0)=true by simpa using h5),if_neg (show ¬ef≠0 from fun h=>h h5),w2];have hno:=(f2.1 h5).no;by_cases h6:r.No=(l.length:Int)+1
 ·have hmx:L8 (b.Zy1.length:Int) (p.Zk1.length:Int)=((max b.Zy1.length p.Zk1.length:Nat):Int):=by unfold L8;split<;>omega
  have hb:=hm.logs;have hp:=h.railways;rw[if_pos (by simpa using h6),if_pos h6,hmx,if_pos (by unfold Mk maxLen Gj;omega)];simp only[Bv,Ak2];rw[AcU _ _ (by omega),AdW (by omega),AkO,if_pos (by unfold Dj maxLen Gj;omega)];have hlen:(VP (max b.Zy1.length p.Zk1.length) b.Zy1).length=max b.Zy1.length p.Zk1.length:=by simp[VP];omega
  rw[if_pos (show InR r.Zb (VP (max b.Zy1.length p.Zk1.length) b.Zy1).length by
   rw[hlen];have r1:=hs.rail.1;have r2:=hs.rail.2;exact⟨r1,by omega⟩)]
  unfold KR;rw[hl]
 ·rw[if_neg (by simpa using h6),if_neg h6,RY _ _ (by have:=hm.forks;omega),AkO];unfold Adn;have hk:(r.No-1).toNat<l.length:=by omega
  by_cases h7:b.Zz1.any (H0 r)=true
  ·rw[if_neg (by simpa using h7),if_pos h7];rfl
  ·rw[if_pos (by simpa using h7),if_neg h7,AdT (by have:=hm.forks;omega),AkO,w1,if_pos (show InR (r.No-1) l.length from⟨by omega,by omega⟩),if_pos (by have:=hm.forks;unfold Dj maxLen Gj;omega)];simp only[Bv,AkO];rw[hl]
set_option maxRecDepth 100000
def exQ:AkA:=r14_Example.getD default
def AeA:AkD:={ Za:=8,Ref:={ Zb:=0,No:=0 },Zn1:=0,Zb1:=0,Zc:=0,Zo1:=0,Zw:=3,To:=0,Code:=1,Zp1:=0,Zq1:=0,Zr1:=0,Zs1:=0,Zt1:=[],Zu1:=[] }
def Akf:AkD:={ Za:=8,Ref:={ Zb:=0,No:=0 },Zn1:=0,Zb1:=0,Zc:=0,Zo1:=0,Zw:=3,To:=0,Code:=2,Zp1:=0,Zq1:=0,Zr1:=0,Zs1:=0,Zt1:=[],Zu1:=[] }
def Ai8:AkD:={ Za:=14,Ref:={ Zb:=0,No:=1 },Zn1:=0,Zb1:=0,Zc:=0,Zo1:=0,Zw:=0,To:=0,Code:=0,Zp1:=0,Zq1:=0,Zr1:=0,Zs1:=0,Zt1:=[],Zu1:=[] }
def bk0:AkH:={ Zy1:=[],Zz1:=[] }
def Abu:AkF:={ Zb:=0,No:=1,Zv1:=⟨[(0:UInt8),0,0,0,0,0,0,0,0,0,0,0,0,0,0,0,0,0,0,0,0,0,0,0,0,0,0,0,0,0,0,0],rfl⟩,Zw1:=5,Zx1:=AeA,Sig:={ C:=132576837295297174,S:=235879338771529970 } }
def Aih:AkF:={ Zb:=0,No:=1,Zv1:=⟨[(0:UInt8),0,0,0,0,0,0,0,0,0,0,0,0,0,0,0,0,0,0,0,0,0,0,0,0,0,0,0,0,0,0,0],rfl⟩,Zw1:=5,Zx1:=Akf,Sig:={ C:=1010642900596539425,S:=208674642754336471 } }
def Aj7:AkF:={ Zb:=0,No:=2,Zv1:=⟨[(20:UInt8),74,221,126,247,131,164,99,193,192,56,34,114,40,146,82,204,54,168,83,74,158,104,72,195,63,51,126,164,162,16,232],rfl⟩,Zw1:=6,Zx1:=Ai8,Sig:={ C:=531156149537135704,S:=378193558781781181 } }
def Ajw:AkF:={ Zb:=0,No:=0,Zv1:=(Arr.rep 32 (0:UInt8)),Zw1:=0,Zx1:={ Za:=0,Ref:={ Zb:=0,No:=0 },Zn1:=0,Zb1:=0,Zc:=0,Zo1:=0,Zw:=0,To:=0,Code:=0,Zp1:=0,Zq1:=0,Zr1:=0,Zs1:=0,Zt1:=([]:List UInt8),Zu1:=[] },Sig:={ C:=(0:UInt64),S:=(0:UInt64) } }
def bk1:AkH:={ Zy1:=[[Abu],[]],Zz1:=[] }
def bk2:AkH:={ Zy1:=[[Abu],[]],Zz1:=[{ A:=Abu,B:=Aih }] }
def bk3:AkH:={ Zy1:=[[Abu,Aj7],[]],Zz1:=[] }
theorem Aca{p:AkA}{d1 d2:AkD}{R S T Z1 Z2 Z3:AkF}{b1 b2 b3:AkH}{l1 l2 l3:List AkK}(hp:r14_Example=some p)(h1:Cv 1=some d1)(h2:Cv 2=some d2) (n1:Bc p { Zy1:=[],Zz1:=[] } 0 7 5 d1=some (R,0)) (a1:AA p { Zy1:=[],Zz1:=[] } R=some (b1,0)) (a2:AA p b1 R=some (b1,0)) (n2:Bc p b1 0 7 4 d1=some (Z1,140)) (n3:Bc p { Zy1:=[],Zz1:=[] } 0 7 5 d2=some (S,0)) (a3:AA p b1 S=some (b2,0)) (n4:Bc p { Zy1:=[],Zz1:=[] } 0 8 5 d1=some (Z2,30)) (n5:Bc p b1 0 7 6 { Za:=14,Ref:={ Zb:=0,No:=1 },Zn1:=0,Zb1:=0,Zc:=0,Zo1:=0,Zw:=0,To:=0,Code:=0,Zp1:=0,Zq1:=0,Zr1:=0,Zs1:=0,Zt1:=[],Zu1:=[] }=some (T,0)) (a4:AA p b1 T=some (b3,0)) (n6:Bc p { Zy1:=[],Zz1:=[] } 0 7 5 { Za:=14,Ref:={ Zb:=0,No:=1 },Zn1:=0,Zb1:=0,Zc:=0,Zo1:=0,Zw:=0,To:=0,Code:=0,Zp1:=0,Zq1:=0,Zr1:=0,Zs1:=0,Zt1:=[],Zu1:=[] }=some (Z3,110)) (c1:R.No=1) (c2:R.Zv1=⟨[(0:UInt8),0,0,0,0,0,0,0,0,0,0,0,0,0,0,0,0,0,0,0,0,0,0,0,0,0,0,0,0,0,0,0],rfl⟩) (c3:b1.Zy1.length=2) (c4:(nth b1.Zy1 0).length=1) (s1:Jc b1 b1=some true) (c5:b2.Zz1.length=1) (f1:BM b2 0=some 1) (f2:BM b1 0=some 0) (r1:B2 b2=some l1) (q1:l1.length=0) (r2:B2 b1=some l2) (q2:l2.length=1) (r3:B2 b3=some l3) (q3:l3.length=0):law14_sane=some true:=by
 have k0:InR 0 2:=by decide
 have k1:((2:Nat):Int)=2:=rfl;have k2:((1:Nat):Int)=1:=rfl;have k3:((0:Nat):Int)=0:=rfl;unfold law14_sane;simp only[hp,h1,h2,AkO,n1,a1,a2,n2,n3,a3,n4,n5,a4,n6,c1,c2,c3,c4,s1,c5,f1,f2,r1,q1,r2,q2,r3,q3,k1,k2,k3,beq_self_eq_true,Ams,if_pos k0]
theorem e_ex:r14_Example=some exQ:=by kernel_rfl
theorem e_d1:Cv 1=some AeA:=rfl
theorem e_d2:Cv 2=some Akf:=rfl
theorem e_n1:Bc exQ bk0 0 7 5 AeA=some (Abu,0):=by decide +kernel
theorem e_a1:AA exQ bk0 Abu=some (bk1,0):=by decide +kernel
theorem e_a2:AA exQ bk1 Abu=some (bk1,0):=by decide +kernel
theorem e_n2:Bc exQ bk1 0 7 4 AeA=some (Ajw,140):=by decide +kernel
theorem e_n3:Bc exQ bk0 0 7 5 Akf=some (Aih,0):=by decide +kernel
theorem e_a3:AA exQ bk1 Aih=some (bk2,0):=by decide +kernel
theorem e_n4:Bc exQ bk0 0 8 5 AeA=some (Ajw,30):=by decide +kernel
theorem e_n5:Bc exQ bk1 0 7 6 Ai8=some (Aj7,0):=by decide +kernel
theorem e_a4:AA exQ bk1 Aj7=some (bk3,0):=by decide +kernel
theorem e_n6:Bc exQ bk0 0 7 5 Ai8=some (Ajw,110):=by decide +kernel
theorem e_s1:Jc bk1 bk1=some true:=by decide +kernel
theorem e_f1:BM bk2 0=some 1:=by decide +kernel
theorem e_f2:BM bk1 0=some 0:=by decide +kernel
theorem e_r1:(B2 bk2)=some []:=by decide +kernel
theorem e_r2:(B2 bk1).map List.length=some 1:=by decide +kernel
theorem e_r3:(B2 bk3)=some []:=by decide +kernel
theorem AbW:law14_sane=some true:=by
 obtain⟨l,hl,hr⟩:∃l,B2 bk1=some l∧l.length=1:=by
  have:=e_r2;cases h:B2 bk1 with
  |none=>rw[h]at this;cases this
  |some l=>rw[h]at this;exact⟨l,rfl,by simpa using this⟩
 exact Aca e_ex e_d1 e_d2 e_n1 e_a1 e_a2 e_n2 e_n3 e_a3 e_n4 e_n5 e_a4 e_n6 rfl rfl rfl rfl e_s1 rfl e_f1 e_f2 e_r1 rfl hl hr e_r3 rfl
set_option maxRecDepth 8000
structure FewP(p:AkA):Prop where
  few:Few p
  rails:p.Zk1.length≤4
theorem Aah(p:AkA):∃b,GI p=some b∧(b=true→FewP p):=by
 obtain⟨x,hx,hq⟩:∃x,A3 (fun(v:Int)=>Fs p v) 0=some x∧(x=.inr (.inr false)∨(x=.inl ()∧∀j,j<p.Zk1.length→j<5→(nth p.Zk1 j).Zf1.Ze1.length≤5)):=by
  refine CC (fun v=>∃k:Nat,v=(k:Int)∧k≤5∧k≤p.Zk1.length∧∀j,j<k→(nth p.Zk1 j).Zf1.Ze1.length≤5) (fun v=>(5-v).toNat) _ ?_ ⟨0,rfl,by omega,by omega,fun j hj=>by omega⟩ (by simp);rintro v ⟨k,rfl,h1,h2,h3⟩;unfold Fs;simp only[Agh,HH];by_cases hk:k<p.Zk1.length∧k<5
  ·rw[if_pos (by simp;omega),if_pos (BH hk.1)];simp only[Bv,Ak2,Cq (k:=k) (by omega)];by_cases hd:(nth p.Zk1 k).Zf1.Ze1.length≤5
   ·left;rw[if_neg (by simp;omega)];refine⟨_,rfl,⟨k+1,rfl,by omega,by omega,fun j hj=>?_⟩,by omega⟩;by_cases e:j=k
    ·subst e;exact hd
    ·exact h3 j (by omega)
   ·right;rw[if_pos (by simp;omega)];exact⟨_,rfl,.inl rfl⟩
  ·right;rw[if_neg (by simp;omega)];exact⟨_,rfl,.inr ⟨rfl,fun j hj hj2=>h3 j (by omega)⟩⟩
 unfold GI;rw[hx];rcases hq with rfl|⟨rfl,hall⟩
 ·exact⟨false,rfl,fun e=>by cases e⟩
 ·simp only[HH,Agh];refine⟨_,rfl,fun e=>?_⟩;simp only[Ak3,Alb]at e;obtain⟨⟨a1,a2⟩,⟨b1,b2,b3,b4⟩,c1,c2,c3⟩:=e;exact⟨⟨by omega,by omega,by omega,by omega,by omega,by omega,by omega,by omega,by omega,fun k hk=>by have:=hall k hk (by omega);omega⟩,by omega⟩
theorem UB{it:AkD}(h:Small it):it.Zu1.length≤1000000:=by have:=h.parts;omega
theorem NP{p:AkA}{b:AkH}{r:AkF}{es ef:Int}(h:(G6 p b r es ef).2=0):es=0:=by
 unfold G6 at h;split at h
 ·exact h
 ·rename_i h';exact Decidable.not_not.1 h'
set_option maxHeartbeats 1000000
variable{p:AkA}{b:AkH}{r:AkF}
def Ye:AkF:={ Zb:=0,No:=0,Zv1:=Arr.rep 32 (0:UInt8),Zw1:=0,Zx1:={ Za:=0,Ref:={ Zb:=0,No:=0 },Zn1:=0,Zb1:=0,Zc:=0,Zo1:=0,Zw:=0,To:=0,Code:=0,Zp1:=0,Zq1:=0,Zr1:=0,Zs1:=0,Zt1:=[],Zu1:=[] },Sig:={ C:=0,S:=0 } }
structure NextOk(p:AkA)(b:AkH)(rw:Int)(tm:Int)(it:AkD)(r:AkF):Prop where
  rail:r.Zb=rw
  rng:0≤rw∧rw<(p.Zk1.length:Int)
  no:r.No=((logV b rw).length:Int)+1
  time:r.Zw1=tm
  item:r.Zx1=it
  single0:Ef p r=some 0
  single:SingleOk p r
  foll:FollowsOk (logV b rw) r
  acc:AA p b r=some (KR p b r,0)
theorem Rt{es ef:Int}(hn:r.No=((logV b r.Zb).length:Int)+1)(h:(G6 p b r es ef).2=0):es=0∧ef=0∧G6 p b r es ef=(KR p b r,0):=by
 have h0:=NP h;refine⟨h0,?_⟩;unfold G6 at h ⊢;have h1:¬(r.No≤((logV b r.Zb).length:Int)∧nth (logV b r.Zb) (r.No-1).toNat=r):=fun q=>by have:=q.1;omega
 rw[if_neg (fun h=>h h0),if_neg h1]at h ⊢;by_cases h2:ef=0
 ·refine⟨h2,?_⟩;rw[if_neg (fun h=>h h2),if_pos hn]
 ·rw[if_pos h2]at h;exact absurd h h2
theorem PU{rw:Int}{sec:UInt64}{tm:Int}{it:AkD}{n:Nat}(h:Few p)(hm:Mid n b)(hn:n≤4000)(hi:Small it) :∃r e,Bc p b rw sec tm it=some (r,e)∧(e≠0→r=Ye)∧(e=0→NextOk p b rw tm it r):=by
 obtain⟨f,hf,_⟩:=Oy h;unfold Bc;rw[hf,AkO];by_cases h0:(f != 0)=true
 ·rw[if_pos h0];exact⟨_,_,rfl,fun _=>rfl,fun e=>by subst e;exact absurd h0 (by decide)⟩
 rw[if_neg h0,ZV,AkO];by_cases h1:(decide (rw<0)||decide (rw≥(p.Zk1.length:Int)))=true
 ·rw[if_pos h1];exact⟨_,_,rfl,fun _=>rfl,fun e=>absurd e (by decide)⟩
 rw[if_neg h1];simp only[Aly,not_or,Alb]at h1;obtain⟨k,hk⟩:=LS sec;rw[hk,AkO];by_cases h2:(k.2 != 0)=true
 ·rw[if_pos h2];exact⟨_,_,rfl,fun _=>rfl,fun e=>by rw[e]at h2;exact absurd h2 (by decide)⟩
 rw[if_neg h2,if_pos (show InR rw p.Zk1.length from⟨by omega,by omega⟩)];by_cases h3:(k.1 != (nth p.Zk1 rw.toNat).Key)=true
 ·rw[if_pos h3];exact⟨_,_,rfl,fun _=>rfl,fun e=>absurd e (by decide)⟩
 rw[if_neg h3,T7 (by omega),AkO];simp only[Bv];obtain⟨l1,l2⟩:=hm.logV rw;have w1:w64 (((logV b rw).length:Int)+1)=((logV b rw).length:Int)+1:=B6 (by omega);have w2:w64 (((logV b rw).length:Int)-1)=((logV b rw).length:Int)-1:=B6 (by omega);rw[w1,w2]
 have tail:∀d:Arr UInt8 32,∃r e,((Gd { Zb:=rw,No:=((logV b rw).length:Int)+1,Zv1:=d,Zw1:=tm,Zx1:=it,Sig:={ C:=0,S:=0 } }).bind fun y=>
   if(y.2 != 0)then some (Ye,y.2)else(FV sec y.1).bind fun z=>
    if(z.2 != 0)then some (Ye,z.2)else(AA p b { Zb:=rw,No:=((logV b rw).length:Int)+1,Zv1:=d,Zw1:=tm,Zx1:=it,Sig:=z.1 }).bind fun u=>
     if(u.2 != 0)then some (Ye,u.2)else some (({ Zb:=rw,No:=((logV b rw).length:Int)+1,Zv1:=d,Zw1:=tm,Zx1:=it,Sig:=z.1 }:AkF),(0:Int)):Option (AkF×Int))=some (r,e)∧(e≠0→r=Ye)∧(e=0→NextOk p b rw tm it r):=by
  intro d;rw[XV (r:={ Zb:=rw,No:=((logV b rw).length:Int)+1,Zv1:=d,Zw1:=tm,Zx1:=it,Sig:={ C:=0,S:=0 } }) hi,AkO];generalize Kc.Enc (lV (Ll { Zb:=rw,No:=((logV b rw).length:Int)+1,Zv1:=d,Zw1:=tm,Zx1:=it,Sig:={ C:=0,S:=0 } }))=y;by_cases h4:(y.2 != 0)=true
  ·rw[if_pos h4];exact⟨_,_,rfl,fun _=>rfl,fun e=>by rw[e]at h4;exact absurd h4 (by decide)⟩
  rw[if_neg h4];obtain⟨z,hz⟩:=XX sec y.1;rw[hz,AkO];by_cases h5:(z.2 != 0)=true
  ·rw[if_pos h5];exact⟨_,_,rfl,fun _=>rfl,fun e=>by rw[e]at h5;exact absurd h5 (by decide)⟩
  rw[if_neg h5];obtain⟨es,ef,q1,q2,q3⟩:=Qq (r:={ Zb:=rw,No:=((logV b rw).length:Int)+1,Zv1:=d,Zw1:=tm,Zx1:=it,Sig:=z.1 }) h hm (by omega) hi;rw[q3,AkO];by_cases h6:((G6 p b { Zb:=rw,No:=((logV b rw).length:Int)+1,Zv1:=d,Zw1:=tm,Zx1:=it,Sig:=z.1 } es ef).2 != 0)=true
  ·rw[if_pos h6];exact⟨_,_,rfl,fun _=>rfl,fun e=>by rw[e]at h6;exact absurd h6 (by decide)⟩
  rw[if_neg h6];obtain⟨e1,e2,e3⟩:=Rt (r:={ Zb:=rw,No:=((logV b rw).length:Int)+1,Zv1:=d,Zw1:=tm,Zx1:=it,Sig:=z.1 }) rfl (by simpa using h6);obtain⟨s1,s2⟩:=q2 e1;exact⟨_,_,rfl,fun e=>absurd rfl e,fun _=>⟨rfl,⟨by omega,by omega⟩,rfl,rfl,rfl,by rw[q1,e1],s1,s2.1 e2,by rw[q3,e3]⟩⟩
 by_cases h4:((logV b rw).length:Int)>0
 ·rw[if_pos (AkZ h4)];have hk:(((logV b rw).length:Int)-1).toNat<(logV b rw).length:=by omega
  rw[if_pos (show InR (((logV b rw).length:Int)-1) (logV b rw).length from⟨by omega,by omega⟩)];obtain⟨d,hd⟩:=O5 (l2 _ (E6 hk));rw[hd,AkO];by_cases h5:(d.2 != 0)=true
  ·rw[if_pos h5];exact⟨_,_,rfl,fun _=>rfl,fun e=>by rw[e]at h5;exact absurd h5 (by decide)⟩
  rw[if_neg h5,AkO];obtain⟨r,e,t1,t2,t3⟩:=tail d.1;exact⟨r,e,t1,t2,t3⟩
 ·rw[if_neg (by simpa using h4),AkO];obtain⟨r,e,t1,t2,t3⟩:=tail (Arr.rep 32 (0:UInt8));exact⟨r,e,t1,t2,t3⟩
theorem Rb(N:Nat)(L:List (List AkF))(h:L.length≤N):(VP N L).length=N:=by simp[VP];omega
theorem TA(h:0≤r.Zb∧r.Zb<(p.Zk1.length:Int)):nth (KR p b r).Zy1 r.Zb.toNat=logV b r.Zb++[r]:=by
 unfold KR;have:r.Zb.toNat<(VP (max b.Zy1.length p.Zk1.length) b.Zy1).length:=by rw[Rb _ _ (by omega)];omega
 simp[nth,this]
theorem Py:(KR p b r).Zy1.length=max b.Zy1.length p.Zk1.length:=by
 unfold KR;rw[Al9,Rb _ _ (by omega)]
set_option maxRecDepth 4000
def AfG(r:AkF):Bool:=!((r.Zx1.Ref.Zb==0)&&(r.Zx1.Ref.No==0))
def Ajq(r:AkF)(i k:Int):AkK:={ Ref:=r.Zx1.Ref,By:={ Zb:=i,No:=k },Zw1:=r.Zw1,Zx1:=r.Zx1 }
def bare(it:AkD):AkD:={ it with Ref:={ Zb:=0,No:=0 } }
def AhY(o:Option AkK)(i k:Int)(r:AkF):Option AkK :=
 if AfG r=true then none else match o with
 |none=>some { Ref:={ Zb:=i,No:=k },By:={ Zb:=i,No:=k },Zw1:=r.Zw1,Zx1:=bare r.Zx1 }
 |some p=>if(p.Zx1.Za==14)then none else some { p with Zx1:=bare p.Zx1 }
def AaZ(row:List AkF)(i n:Int):Nat→Option AkK
 |0=>none
 |k+1=>if(nth row k).Zx1.Ref={ Zb:=i,No:=n }then some (Ajq (nth row k) i ((k+1:Nat):Int))else AaZ row i n k
def rep(row:List AkF)(i:Nat)(k:Nat):Option AkK:=AhY (AaZ row (i:Int) ((k+1:Nat):Int) row.length) (i:Int) ((k+1:Nat):Int) (nth row k)
structure SB(b:AkH):Prop where
  logs:b.Zy1.length≤4
  forks:b.Zz1.length≤6
  row:∀l∈b.Zy1,l.length≤12
  ref:∀l∈b.Zy1,∀r∈l,I64 r.Zx1.Ref.Zb∧I64 r.Zx1.Ref.No
  parts:∀l∈b.Zy1,∀r∈l,r.Zx1.Zu1.length≤20
  fno:∀f∈b.Zz1,I64 f.A.No
structure BookInts(b:AkH):Prop where
  ref:∀l∈b.Zy1,∀r∈l,I64 r.Zx1.Ref.Zb∧I64 r.Zx1.Ref.No
  fno:∀f∈b.Zz1,I64 f.A.No
set_option maxRecDepth 8000
variable{p:AkA}{b:AkH}{r s:AkF}
theorem WL{one two:AkD}{X:Option Bool}(hX:FewP p→Short b→Small one→Small two→X=some true) :(((GI p).bind fun y=>if(!y)then some true else(EY b).bind fun y=>if(!y)then some true else(C6 one).bind fun y=>if(!y)then some true else(C6 two).bind fun y=>some (!y):Option Bool).bind fun t=>if t then some true else X)=some true:=by
 obtain⟨f,hf,hq⟩:=Aah p;rw[hf,AkO];cases f
 ·rfl
 rw[if_neg (by simp),Aas,AkO];by_cases hs:JJ b=true
 case neg=>rw[if_pos (by simpa using hs)];rfl
 rw[if_neg (by simpa using hs),LH,AkO];by_cases hi:FZ one=true
 case neg=>rw[if_pos (by simpa using hi)];rfl
 rw[if_neg (by simpa using hi),LH,AkO,AkO];by_cases hj:FZ two=true
 case neg=>rw[if_pos (by simpa using hj)]
 rw[if_neg (by simpa using hj)];exact hX (hq rfl) (YD hs) (J4 hi) (J4 hj)
theorem VE(rw:Int)(h:b.Zz1.length≤1000000):GZ b rw=some (Cn b rw):=by
 have hl:A3 (fun(v:Int×Int)=>CV b rw v.1 v.2) (0,0)=some (Cn b rw):=by
  refine Q1 b.Zz1 (fun(v:Int×Int)=>CV b rw v.1 v.2) (fun k s=>(s,k)) (CG rw) id 0 (by omega) (fun k s hk=>?_) (fun s=>?_)
  ·simp only;unfold CV;rw[if_pos (AkZ (by simp;omega)),if_pos (BH hk)];simp only[Bv,Ak2];unfold CG;by_cases h1:(nth b.Zz1 k).A.Zb=rw
   ·by_cases h2:(nth b.Zz1 k).A.No≥1
    ·by_cases h3:s=0
     ·simp[h1,h2,h3,Cq (k:=k) (by omega)]
     ·by_cases h4:(nth b.Zz1 k).A.No<s<;>simp[h1,h2,h3,h4,Cq (k:=k) (by omega)]
    ·simp[h1,h2,Cq (k:=k) (by omega)]
   ·simp[h1,Cq (k:=k) (by omega)]
  ·simp only;unfold CV;rw[if_neg (by simp)];rfl
 unfold GZ;rw[hl];rfl
theorem Qd{rw:Int}:∀(l:List AkG) (no:Int),0≤no→l.foldl (CG rw) no=0→no=0∧∀f∈l,¬(f.A.Zb=rw∧1≤f.A.No)
  |[],no,_,h=>⟨h,fun f hf=>by simp at hf⟩
  | f :: l,no,h0,h=>by
    have hge:0≤CG rw no f:=by
      unfold CG;split
      · rename_i h1
        simp only[Ak3,Alb]at h1;omega
      · exact h0
    obtain⟨h1,h2⟩:=Qd l (CG rw no f) hge h
    have hf:¬(f.A.Zb=rw∧1≤f.A.No)∧no=0:=by
      unfold CG at h1;split at h1
      · rename_i h3
        simp only[Ak3,Alb]at h3;omega
      · rename_i h3
        refine⟨fun h4=>h3 ?_,h1⟩;subst h1;simp[h4.1,h4.2]
    refine⟨hf.2,fun g hg=>?_⟩;rcases Ali.1 hg with rfl|hg
    · exact hf.1
    · exact h2 g hg
def Kd(p:AkA)(b:AkH)(r s:AkF):AkH:={ Zy1:=(KR p b r).Zy1,Zz1:=b.Zz1++[{ A:=r,B:=s }] }
theorem Jl(b:AkH)(i:Nat):logV b (i:Int)=if i<b.Zy1.length then nth b.Zy1 i else[]:=by
 unfold logV;by_cases h:i<b.Zy1.length
 ·rw[if_pos ⟨by omega,by omega⟩,if_pos h];rfl
 ·rw[if_neg (fun q=>h (by omega)),if_neg h]
theorem VL{i:Nat}(h:r.Zb.toNat≠i)(hi:i<max b.Zy1.length p.Zk1.length):nth (KR p b r).Zy1 i=if i<b.Zy1.length then nth b.Zy1 i else[]:=by
 have hl:i<(VP (max b.Zy1.length p.Zk1.length) b.Zy1).length:=by rw[Rb _ _ (by omega)];exact hi
 unfold KR;show((VP (max b.Zy1.length p.Zk1.length) b.Zy1).set r.Zb.toNat (logV b r.Zb++[r])).getD i default=_;rw[AkX,Alr h];unfold VP;by_cases h1:i<b.Zy1.length
 ·rw[if_pos h1,AkS h1];simp[nth]
 ·rw[if_neg h1,AkQ (by omega),Amg];split<;>rfl
theorem Aai(h:0≤r.Zb∧r.Zb<(p.Zk1.length:Int)):logV (KR p b r) r.Zb=logV b r.Zb++[r]:=by
 have h1:=TA (b:=b) h;rw[show logV (KR p b r) r.Zb=logV (KR p b r) ((r.Zb.toNat:Nat):Int) by rw[Int.toNat_of_nonneg h.1],Jl,if_pos (by rw[Py];omega),h1]
theorem JY{L:List (List AkF)}{f:AkG}(rw:Int):Cn { Zy1:=L,Zz1:=b.Zz1++[f] } rw=CG rw(Cn b rw) f:=by
 unfold Cn;rw[List.foldl_append];rfl
theorem LM{rw:Int}(hr:r.Zb=rw)(hrng:0≤rw∧rw<(p.Zk1.length:Int))(hno:r.No=((logV b rw).length:Int)+1)(h0:Cn b rw=0)(i:Nat) :logV (CS (Kd p b r s)) (i:Int)=logV (CS b) (i:Int):=by
 have hf:Cn (Kd p b r s) rw=r.No:=by
  unfold Kd;rw[JY,h0];unfold CG;rw[if_pos (by simp[hr];omega)]
 have hlen:(Kd p b r s).Zy1.length=max b.Zy1.length p.Zk1.length:=Py;rw[Jl,Jl,Fy,Fy,hlen];by_cases h1:i=rw.toNat
 ·subst h1;rw[if_pos (by omega),Hz (by rw[hlen];omega)]
  have hl:C8 (Kd p b r s) rw.toNat=logV b rw:=by
   have hrow:nth (Kd p b r s).Zy1 rw.toNat=logV b rw++[r]:=by
    have:=TA (b:=b) (r:=r) (by rw[hr];exact hrng);rw[hr]at this;exact this
   unfold C8;rw[Int.toNat_of_nonneg hrng.1,hf,if_pos (by omega),hrow,show(r.No-1).toNat=(logV b rw).length by omega,List.take_left]
  rw[hl];have hb:logV b rw=logV b ((rw.toNat:Nat):Int):=by rw[Int.toNat_of_nonneg hrng.1]
  rw[hb,Jl];by_cases h2:rw.toNat<b.Zy1.length
  ·rw[if_pos h2,if_pos h2,Hz h2];unfold C8;rw[Int.toNat_of_nonneg hrng.1,h0,if_neg (by omega)]
  ·rw[if_neg h2,if_neg h2]
 ·by_cases h2:i<max b.Zy1.length p.Zk1.length
  ·rw[if_pos h2,Hz (by rw[hlen];exact h2)]
   have hfi:Cn (Kd p b r s) (i:Int)=Cn b (i:Int):=by
    unfold Kd;rw[JY];unfold CG;rw[if_neg (by simp[hr];omega)]
   have hrow:nth (Kd p b r s).Zy1 i=if i<b.Zy1.length then nth b.Zy1 i else[]:=VL (by rw[hr];omega) h2
   unfold C8;rw[hfi,hrow];by_cases h3:i<b.Zy1.length
   ·rw[if_pos h3,if_pos h3,Hz h3];rfl
   ·rw[if_neg h3,if_neg h3];split<;>simp
  ·rw[if_neg h2,if_neg (by omega)]
theorem PZ{a:AkH}(hla:a.Zy1.length≤100000)(hlb:b.Zy1.length≤100000)(hr:∀l∈a.Zy1,l.length≤1000000∧LJ l)(he:∀i:Nat,logV a (i:Int)=logV b (i:Int)):Eo a b=some true:=by
 have hrow:∀i:Nat,(logV a (i:Int)).length≤1000000∧LJ (logV a (i:Int)):=by
  intro i;rw[Jl];split
  ·exact hr _ (E6 (by assumption))
  ·exact⟨by simp,fun x hx=>by simp at hx⟩
 obtain⟨x,hx,rfl⟩:∃x,A3 (fun(v:Int)=>CQ a b v) 0=some x∧x=.inl ():=by
  refine E5 (max a.Zy1.length b.Zy1.length) (fun k v=>v=(k:Int)) _ (by omega) ?_ ?_ rfl
  ·rintro k v hk rfl;refine⟨_,?_,rfl⟩;unfold CQ;rw[ZV,AkO,if_pos (by simp;omega),Abi,AkO,Abi,AkO,←he k,YX (hrow k).1 (hrow k).2,AkO,if_neg (by simp),Cq (by omega)]
  ·rintro v rfl;refine⟨_,?_,rfl⟩;unfold CQ;rw[ZV,AkO,if_neg (by simp;omega)]
 unfold Eo;rw[hx];rfl
theorem S9(hp:p.Zk1.length≤4)(hb:Mid 12 b)(hr:Small r.Zx1):Mid 13 (KR p b r):=by
 have hmem:∀l∈(KR p b r).Zy1,l=logV b r.Zb++[r]∨l∈b.Zy1∨l=[]:=by
  intro l hl;unfold KR at hl;rcases List.mem_or_eq_of_mem_set hl with h|h
  ·unfold VP at h;rcases Ala.1 h with h|h
   ·exact .inr (.inl h)
   ·exact .inr (.inr (List.eq_of_mem_replicate h))
  ·exact .inl h
 obtain⟨l1,l2⟩:=hb.logV r.Zb;refine⟨by rw[Py];have:=hb.logs;omega,by have:=hb.forks;simp only[KR];omega,fun l hl=>?_,fun l hl x hx=>?_⟩
 ·rcases hmem l hl with rfl|h|rfl
  ·simp;omega
  ·have:=hb.row l h;omega
  ·simp
 ·rcases hmem l hl with rfl|h|rfl
  ·rcases Ala.1 hx with hx|hx
   ·exact l2 x hx
   ·rw[Amd]at hx;rw[hx];exact hr
  ·exact hb.item l h x hx
  ·simp at hx
theorem Qo{l:List AkF}{k:Nat}(h:k<l.length):nth (l++[r]) k=nth l k:=by simp[nth,AkS h]
theorem Sn{l:List AkF}(hs:FollowsOk l s)(h1:1≤s.No):FollowsOk (l++[r]) s:=by
 obtain⟨a,b,c,d⟩:=hs;refine⟨by simp;omega,fun h=>?_,c,?_⟩
 ·rw[Qo (by omega)];exact b h
 ·rcases d with d|⟨d1,d2,d3,d4⟩
  ·exact .inl d
  ·refine .inr ⟨d1,d2,d3,?_⟩;rw[Qo (by omega)];exact d4
theorem Jy{rw tm:Int}{i1 i2:AkD}(hp:FewP p)(hb:Mid 12 b)(h1:Small i1)(h2:Small i2)(o:NextOk p b rw tm i1 r)(q:NextOk p b rw tm i2 s)(hne:r≠s)(h0:Cn b rw=0) :AA p (KR p b r) s=some (Kd p b r s,0):=by
 have hm:=S9 (r:=r) hp.rails hb (by rw[o.item];exact h1);obtain⟨es,ef,a1,a2,a3⟩:=Qq (r:=s) hp.few hm (by omega) (by rw[q.item];exact h2)
 have hes:es=0:=by
  rw[q.single0]at a1;exact(Alk a1).symm
 obtain⟨_,b2⟩:=a2 hes
 have hl:logV (KR p b r) s.Zb=logV b rw++[r]:=by
  rw[q.rail,←o.rail];exact Aai (by rw[o.rail];exact o.rng)
 rw[hl]at b2;have hef:ef=0:=b2.2 (Sn q.foll (by have:=q.no;omega));rw[a3];congr 1;unfold G6;have hno:=q.no;rw[if_neg (fun h=>h hes),hl]
 have hat:nth (logV b rw++[r]) (s.No-1).toNat=r:=by
  rw[show(s.No-1).toNat=(logV b rw).length by omega];simp[nth]
 rw[hat,if_neg (fun h=>hne h.2),if_neg (fun h=>h hef),if_neg (by simp;omega)];unfold Adn Kd;rw[hl,hat]
 have hany:¬(KR p b r).Zz1.any (H0 s)=true:=by
  intro h;rw[List.any_eq_true]at h;obtain⟨f,hf,hq⟩:=h;simp only[H0,Ak3,AlW]at hq;have:=(Qd b.Zz1 0 (by omega) h0).2 f hf;exact this ⟨by rw[hq.1,q.rail],by rw[hq.2];omega⟩
 rw[if_neg hany];rfl
theorem OJ(p:AkA)(b:AkH)(hbi:BookInts b)(rw:Int)(sec:UInt64)(tm:Int)(one two:AkD):DC p b rw sec tm one two=some true:=by
 unfold DC;rw[AbW,AkO,if_neg (by simp)];refine WL fun hp hb h1 h2=>?_
 obtain⟨r,e,r1,r2,r3⟩:=PU (rw:=rw) (sec:=sec) (tm:=tm) hp.few hb.mid (by omega) h1;obtain⟨s,f,s1,s2,s3⟩:=PU (rw:=rw) (sec:=sec) (tm:=tm) hp.few hb.mid (by omega) h2;rw[r1,AkO,s1,AkO];by_cases he:e=0
 case neg=>rw[if_pos (by simpa using he)];rfl
 by_cases hf:f=0
 case neg=>rw[if_neg (by simpa using he),if_pos (by simpa using hf)];rfl
 have o:=r3 he;have q:=s3 hf;have hir:Small r.Zx1:=by rw[o.item];exact h1
 have his:Small s.Zx1:=by rw[q.item];exact h2
 rw[if_neg (by simpa using he),if_neg (by simpa using hf),Ut (UB hir),AkO];by_cases hne:r=s
 ·rw[if_pos (AkZ hne)];rfl
 rw[if_neg (by simpa using hne),VE _ (by have:=hb.forks;omega),AkO,AkO];by_cases h0:Cn b rw=0
 case neg=>rw[if_pos (by simpa using h0)]
 rw[if_neg (by simpa using h0)];simp only;have y1:=Jy hp hb.mid h1 h2 o q hne h0;have y2:=Jy hp hb.mid h2 h1 q o (fun h=>hne h.symm) h0;rw[o.acc,AkO,y1,AkO,q.acc,AkO,y2,AkO];have hfl:=hb.forks;have w1:w64 ((b.Zz1.length:Int)+1)=(b.Zz1.length:Int)+1:=B6 (by omega);rw[if_neg (by simp),if_neg (by simp),if_neg (by simp),if_neg (by simp),w1,if_neg (by simp[Kd]),AkO,if_neg (by simp[Kd])];have hlen:∀u v:AkF,(Kd p b u v).Zz1.length≤1000000:=fun u v=>by simp[Kd];omega
 have hfk:∀u v:AkF,u.Zb=rw→u.No=((logV b rw).length:Int)+1→Cn (Kd p b u v) rw=u.No:=by
  intro u v e1 e2;unfold Kd;rw[JY,h0];unfold CG;rw[if_pos (by simp[e1];omega)]
 rw[MU _ (hlen _ _),AkO,hfk r s o.rail o.no,if_pos (by simp),MU _ (hlen _ _),AkO,hfk s r q.rail q.no,if_pos (by rw[q.no,o.no];simp)];obtain⟨l1,l2⟩:=hb.mid.logV rw
 have hints:∀u v:AkF,u.No=((logV b rw).length:Int)+1→∀g∈(Kd p b u v).Zz1,I64 g.A.No:=by
  intro u v e2 g hg;rcases Ala.1 (show g∈b.Zz1++[{ A:=u,B:=v }]from hg)with hg|hg
  ·exact hbi.fno g hg
  ·rw[Amd]at hg;rw[hg];exact⟨by show _≤u.No;omega,by show u.No≤_;omega⟩
 have mr:=S9 (p:=p) (r:=r) hp.rails hb.mid hir;have ms:=S9 (p:=p) (r:=s) hp.rails hb.mid his;have cr:BF (Kd p b r s)=some (CS (Kd p b r s)):=Ke (hlen _ _) (by have:=mr.logs;show(KR p b r).Zy1.length≤_;omega) (fun l hl=>by have:=mr.row l hl;omega) (hints r s o.no);have cs:BF (Kd p b s r)=some (CS (Kd p b s r)):=Ke (hlen _ _) (by have:=ms.logs;show(KR p b s).Zy1.length≤_;omega) (fun l hl=>by have:=ms.row l hl;omega) (hints s r q.no);have cb:BF b=some (CS b):=Ke (by omega) (by have:=hb.logs;omega) (fun l hl=>by have:=hb.row l hl;omega) hbi.fno;have er:=LM (p:=p) (b:=b) (r:=r) (s:=s) o.rail o.rng o.no h0;have es:=LM (p:=p) (b:=b) (r:=s) (s:=r) q.rail q.rng q.no h0
 have hrows:∀l∈(CS (Kd p b r s)).Zy1,l.length≤1000000∧LJ l:=by
  intro l hl;simp only[CS,AlV,AlE]at hl;obtain⟨i,hi,rfl⟩:=hl;have hm:nth (Kd p b r s).Zy1 i∈(KR p b r).Zy1:=E6 hi;refine⟨?_,fun x hx=>UB (mr.item _ hm x (PK x hx))⟩;have:=mr.row _ hm;have:=Qy (b:=Kd p b r s) (i:=i);omega
 have lr:(CS (Kd p b r s)).Zy1.length≤100000:=by rw[Fy];have:=mr.logs;show(KR p b r).Zy1.length≤_;omega
 have ls:(CS (Kd p b s r)).Zy1.length≤100000:=by rw[Fy];have:=ms.logs;show(KR p b s).Zy1.length≤_;omega
 have lb:(CS b).Zy1.length≤100000:=by rw[Fy];have:=hb.logs;omega
 rw[cr,AkO,cs,AkO,PZ lr ls hrows (fun i=>(er i).trans (es i).symm),AkO,if_pos rfl,AkO,cb,AkO,PZ lr lb hrows er];rfl
theorem V2{b:AkH}(h:Ko b):BookInts b:=by
 obtain⟨h1,h2,_⟩:=h;refine⟨fun l hl r hr=>?_,fun f hf=>?_⟩
 ·obtain⟨_,_,_,_,h3,_⟩:=(h1.2 l hl).2 r hr;obtain⟨_,⟨h4,h5,_⟩,_⟩:=h3;exact⟨h4,h5⟩
 ·obtain⟨⟨_,h3,_⟩,_⟩:=h2.2 f hf;exact h3
theorem NN{p:AkA}(_:Qv p){b:AkH}(hb:Ko b){rw:Int}(_:I64 rw){s:UInt64}(_:True){t:Int}(_:I64 t){one:AkD}(_:J6 one){two:AkD}(_:J6 two):DC p b rw s t one two=some true:=OJ p b (V2 hb) rw s t one two
end Go.Proofs.YtioapcamanmoiaaDoor
