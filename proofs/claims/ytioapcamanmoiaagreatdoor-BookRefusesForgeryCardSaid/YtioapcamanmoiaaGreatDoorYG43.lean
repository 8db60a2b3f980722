/-
  Part 43.
-/
import Derived.Test.YtioapcamanmoiaaGreatDoorRows
import Derived.Test.YtioapcamanmoiaaGreatDoorYG26
import Derived.Test.YtioapcamanmoiaaGreatDoorYG29
import Derived.Test.YtioapcamanmoiaaGreatDoorYG39
import Derived.Test.YtioapcamanmoiaaGreatDoorYG42
import Derived.WalkKit
import Derived.ProofKit
import Derived.OpenShut
import Derived.JoinedCond
import Derived.LaidMore
import Derived.Lay
import Derived.SevenTiedAt
import Derived.Stop.Joined
import Derived.Lib.Tables
import Derived.KernelRfl
namespace Go.Proofs.YtioapcamanmoiaaGreatDoor
open Go.Rv
set_option linter.unusedVariables false
set_option linter.unusedSimpArgs false
set_option maxRecDepth 4000
variable{α X:Type}
theorem AJ{β:Type}(x:α)(f:α→Option β):lt1 x f=f x:=Asp (eq_self (f x))
theorem CF{k:Nat}(h:k<9223372036854775807):w64 ((k:Int)+1)=((k+1:Nat):Int):=by rw[AH (by omega)];rfl
theorem I7(b c:Bool):(if b then some true else some c)=some (b||c):=by cases b<;>rfl
theorem Ee(b c:Bool):(if b then some c else some false)=some (b&&c):=by cases b<;>rfl
theorem Ay{β:Type}(x:α)(f:α→Option β):(some x).bind f=f x:=Asp (eq_self (f x))
theorem N7(b:Bool)(x y:α):(if b then some x else some y)=some (if b then x else y):=by cases b<;>rfl
theorem Cx[Inhabited α](l:List α)(f:Int→Option (Int⊕X))(p:α→Bool)(good bad:X)(hl:l.length<1152921504606846976) (hs:∀k:Nat,k<l.length→f (k:Int)=some (if p (nth l k)=true then .inl ((k+1:Nat):Int)else .inr bad)) (he:f (l.length:Int)=some (.inr good)) :Ax (fun v=>f v) 0=some (if l.all p=true then good else bad):=by
 obtain⟨x,hx,hq⟩:∃x,Ax (fun v=>f v) 0=some x∧x=(if l.all p=true then good else bad):=by
  refine BR (fun v=>∃k:Nat,v=(k:Int)∧k≤l.length∧(l.take k).all p=true) (fun v=>(l.length-v).toNat) _ ?_ ⟨0,rfl,Aqm _,rfl⟩ (by simp;omega);rintro v ⟨k,rfl,hk,ht⟩;by_cases h1:k<l.length
  ·have hn:nth l k=l[k]:=by simp[nth,h1]
   rw[hs k h1];by_cases hp:p (nth l k)=true
   ·left;refine⟨_,by rw[ApU hp],⟨k+1,rfl,by omega,?_⟩,by omega⟩;rw[AqJ h1,List.all_append,ht,←hn];simp[hp]
   ·right;refine⟨_,by rw[ApV hp],?_⟩;rw[ApV];intro ha;rw[Ap8]at ha;exact hp (by rw[hn];exact ha _ (AqL h1))
  ·right;have:k=l.length:=by omega
   subst this;rw[AqT]at ht;exact⟨_,he,by rw[ApU ht]⟩
 rw[hx,hq]
theorem Ea{V S:Type}[Inhabited α](l:List α)(f:V→Option (V⊕X))(st:Int→S→V)(g:S→α→S)(out:S→X)(s0:S)(hl:l.length<1152921504606846976) (hs:∀(k:Nat) (s:S),k<l.length→f (st (k:Int) s)=some (.inl (st ((k+1:Nat):Int) (g s (nth l k))))) (he:∀s,f (st (l.length:Int) s)=some (.inr (out s))) :Ax f (st 0 s0)=some (out (l.foldl g s0)):=by
 obtain⟨x,hx,hq⟩:∃x,Ax f (st 0 s0)=some x∧x=out (l.foldl g s0):=by
  refine BA l.length (fun k v=>v=st (k:Int) ((l.take k).foldl g s0)) _ (by omega) ?_ ?_ rfl
  ·rintro k v hk rfl;refine⟨_,hs k _ hk,?_⟩;rw[AqJ hk,Asf];simp[nth,hk]
  ·rintro v rfl;exact⟨_,he _,by rw[AqT]⟩
 rw[hx,hq]
theorem AbL{V S:Type}(n:Nat)(f:V→Option (V⊕X))(st:Int→S→V)(F:Nat→S)(out:S→X)(hn:n<1152921504606846976) (hs:∀k:Nat,k<n→f (st (k:Int) (F k))=some (.inl (st ((k+1:Nat):Int) (F (k+1))))) (he:f (st (n:Int) (F n))=some (.inr (out (F n)))) :Ax f (st 0 (F 0))=some (out (F n)):=by
 obtain⟨x,hx,hq⟩:∃x,Ax f (st 0 (F 0))=some x∧x=out (F n):=by
  refine BA n (fun k v=>v=st (k:Int) (F k)) _ (by omega) ?_ ?_ rfl
  ·rintro k v hk rfl;exact⟨_,hs k hk,rfl⟩
  ·rintro v rfl;exact⟨_,he,rfl⟩
 rw[hx,hq]
theorem U4[Inhabited α][DecidableEq α](a b:List α)(f:Int→Option (Int⊕(Unit⊕(Unit⊕Bool))))(hl:a.length=b.length)(hb:a.length<1152921504606846976) (hs:∀k:Nat,k<a.length→f (k:Int)=some (if nth a k=nth b k then .inl ((k+1:Nat):Int)else .inr (.inr (.inr false)))) (he:f (a.length:Int)=some (.inr (.inl ()))) :Ax (fun v=>f v) 0=some (if a=b then .inl ()else .inr (.inr false)):=by
 obtain⟨x,hx,hq⟩:∃x,Ax (fun v=>f v) 0=some x∧x=(if a=b then .inl ()else .inr (.inr false)):=by
  refine BR (fun v=>∃k:Nat,v=(k:Int)∧k≤a.length∧a.take k=b.take k) (fun v=>(a.length-v).toNat) _ ?_ ⟨0,rfl,Aqm _,rfl⟩ (by simp;omega);rintro v ⟨k,rfl,hk,ht⟩;by_cases h1:k<a.length
  ·have h2:k<b.length:=by omega
   rw[hs k h1];have ea:a.take (k+1)=a.take k++[nth a k]:=by rw[Ar4,ApW h1];simp[nth,ApW h1]
   have eb:b.take (k+1)=b.take k++[nth b k]:=by rw[Ar4,ApW h2];simp[nth,ApW h2]
   by_cases hk':nth a k=nth b k
   ·left;exact⟨_,by rw[ApU hk'],⟨k+1,rfl,by omega,by rw[ea,eb,ht,hk']⟩,by omega⟩
   ·right;refine⟨_,by rw[ApV hk'],?_⟩;rw[ApV (fun h=>hk' (by rw[h]))]
  ·right;have:k=a.length:=by omega
   subst this;refine⟨_,he,?_⟩;rw[AqT,Ari (by omega)]at ht;rw[ApU ht]
 rw[hx,hq]
theorem AgN(x y:ApH):(!((x.Za==y.Za)&&((x.Zl1==y.Zl1)&&(x.Zm1==y.Zm1))))=decide (x≠y):=by
 by_cases h:x=y
 ·subst h;simp
 ·rw[Aqf h];rcases x with⟨a,b,c⟩
  rcases y with⟨d,e,f⟩
  simp only[ApH.mk.injEq,not_and]at h;simp only[Arj,Arm,ArP,ne_eq];by_cases h1:a=d
  ·by_cases h2:b=e
   ·exact .inr (.inr (by simpa using h h1 h2))
   ·exact .inr (.inl h2)
  ·exact .inl h1
theorem X7{a b:List ApH}(ha:a.length≤1000000):EY a b=some (decide (a=b)):=by
 unfold EY;by_cases hl:a.length=b.length
 ·rw[ApV (by simp[hl]),U4 a b (fun v=>CG a b v) hl (by omega) ?_ ?_]
  ·by_cases h:a=b<;>simp[h]
  ·intro k hk;unfold CG;rw[ApU (Aqf (by omega)),ApU (A4 hk),ApU (A4 (by omega))];simp only[AJ,Ap1,AgN];by_cases he:nth a k=nth b k
   ·rw[ApV (by simp[he]),ApU he,CF (by omega)]
   ·rw[ApU (by simp[he]),ApV he];rfl
  ·unfold CG;rw[ApV (by simp)]
 ·rw[ApU (by simp;omega),Aqs (fun h=>hl (by rw[h]))]
def Oe(it:ApI):List Int:=[it.Zn1,it.Zb1,it.Zc,it.Zo1,it.Zw,it.To,it.Code,it.Zp1,it.Zq1,it.Zr1,it.Zs1]
theorem W5(it:ApI):∀{k:Nat},k<11→B6 it (nth [119,112,111,110,102,116,99,100,107,103,97] k)=some (nth (Oe it) k)
 |0,_=>rfl
 |1,_=>rfl
 |2,_=>rfl
 |3,_=>rfl
 |4,_=>rfl
 |5,_=>rfl
 |6,_=>rfl
 |7,_=>rfl
 |8,_=>rfl
 |9,_=>rfl
 |10,_=>rfl
 |k+11,h=>by omega
theorem AdH{a b:ApI}(h:Oe a=Oe b)(hk:a.Za=b.Za)(hr1:a.Ref.Zb=b.Ref.Zb)(hr2:a.Ref.No=b.Ref.No)(ht:a.Zt1=b.Zt1)(hp:a.Zu1=b.Zu1):a=b:=by
 rcases a with⟨k,⟨r,n⟩,a1,a2,a3,a4,a5,a6,a7,a8,a9,a10,a11,t,p⟩
 rcases b with⟨k',⟨r',n'⟩,b1,b2,b3,b4,b5,b6,b7,b8,b9,b10,b11,t',p'⟩
 simp only[Oe,List.cons.injEq,Ash]at h;obtain⟨rfl,rfl,rfl,rfl,rfl,rfl,rfl,rfl,rfl,rfl,rfl⟩:=h;simp only at hk hr1 hr2 ht hp;subst hk hr1 hr2 ht hp;rfl
theorem Aat{a b:ApI}(ha:a.Zu1.length≤1000000):JV a b=some (decide (a=b)):=by
 unfold JV;have l11:∀it:ApI,(Oe it).length=11:=fun _=>rfl
 rw[U4 (Oe a) (Oe b) (fun v=>Fz a b v) rfl (by rw[l11];omega) ?_ ?_]
 ·by_cases hn:Oe a=Oe b
  ·simp only[ApU hn,ApX];by_cases h1:a.Za=b.Za
   ·by_cases h2:a.Ref.Zb=b.Ref.Zb
    ·by_cases h3:a.Ref.No=b.Ref.No
     ·by_cases h4:a.Zt1=b.Zt1
      ·rw[ApU (by simpa using h1),ApU (by simp[h2,h3]),ApU (by simpa using h4),X7 ha];by_cases h5:a.Zu1=b.Zu1
       ·rw[Aqf h5,Aqf (AdH hn h1 h2 h3 h4 h5)];rfl
       ·rw[Aqs h5,Aqs (fun h=>h5 (by rw[h]))];rfl
      ·rw[ApU (by simpa using h1),ApU (by simp[h2,h3]),ApV (by simpa using h4),Aqs (fun h=>h4 (by rw[h]))];rfl
     ·rw[ApU (by simpa using h1),ApV (by simp[h3]),Aqs (fun h=>h3 (by rw[h]))];rfl
    ·rw[ApU (by simpa using h1),ApV (by simp[h2]),Aqs (fun h=>h2 (by rw[h]))];rfl
   ·rw[ApV (by simpa using h1),Aqs (fun h=>h1 (by rw[h]))];rfl
  ·rw[Aqs (fun h=>hn (by rw[h])),ApV hn];rfl
 ·intro k hk;rw[l11]at hk;unfold Fz;have hin:InR (k:Int) ([119,112,111,110,102,116,99,100,107,103,97]:List UInt8).length:=⟨by omega,by simpa using hk⟩;rw[ApU (Aqf (by omega)),ApU hin];simp only[Ap1];rw[W5 a hk,ApX,ApU hin,W5 b hk,ApX];by_cases he:nth (Oe a) k=nth (Oe b) k
  ·rw[ApV (by simp[he]),ApU he,CF (by omega)]
  ·rw[ApU (by simpa using he),ApV he];rfl
 ·unfold Fz;rw[l11,ApV (by simp)]
theorem Aar{a b:ApK}(h1:a.Zb=b.Zb)(h2:a.No=b.No)(h3:a.Zv1=b.Zv1)(h4:a.Zw1=b.Zw1)(h5:a.Sig.C=b.Sig.C)(h6:a.Sig.S=b.Sig.S)(h7:a.Zx1=b.Zx1):a=b:=by
 rcases a with⟨a1,a2,a3,a4,a5,c,s⟩
 rcases b with⟨b1,b2,b3,b4,b5,c',s'⟩
 simp only at h1 h2 h3 h4 h5 h6 h7;subst h1 h2 h3 h4 h5 h6 h7;rfl
theorem Adv{a b:ApK}(ha:a.Zx1.Zu1.length≤1000000):CS a b=some (decide (a=b)):=by
 unfold CS;by_cases h1:a.Zb=b.Zb
 case neg=>rw[ApV (by simpa using h1),Aqs (fun h=>h1 (by rw[h]))];rfl
 by_cases h2:a.No=b.No
 case neg=>rw[ApU (by simpa using h1),ApV (by simpa using h2),Aqs (fun h=>h2 (by rw[h]))];rfl
 by_cases h3:a.Zv1=b.Zv1
 case neg=>rw[ApU (by simpa using h1),ApU (by simpa using h2),ApV (by simpa using h3),Aqs (fun h=>h3 (by rw[h]))];rfl
 by_cases h4:a.Zw1=b.Zw1
 case neg=>rw[ApU (by simpa using h1),ApU (by simpa using h2),ApU (by simpa using h3),ApV (by simpa using h4),Aqs (fun h=>h4 (by rw[h]))];rfl
 by_cases h5:a.Sig.C=b.Sig.C
 case neg=>rw[ApU (by simpa using h1),ApU (by simpa using h2),ApU (by simpa using h3),ApU (by simpa using h4),ApV (by simp[h5]),Aqs (fun h=>h5 (by rw[h]))];rfl
 by_cases h6:a.Sig.S=b.Sig.S
 case neg=>rw[ApU (by simpa using h1),ApU (by simpa using h2),ApU (by simpa using h3),ApU (by simpa using h4),ApV (by simp[h6]),Aqs (fun h=>h6 (by rw[h]))];rfl
 rw[ApU (by simpa using h1),ApU (by simpa using h2),ApU (by simpa using h3),ApU (by simpa using h4),ApU (by simp[h5,h6]),Aat ha];by_cases h7:a.Zx1=b.Zx1
 ·rw[Aqf h7,Aqf (Aar h1 h2 h3 h4 h5 h6 h7)];rfl
 ·rw[Aqs h7,Aqs (fun h=>h7 (by rw[h]))];rfl
theorem Gv[Inhabited α]{l:List α}{k:Nat}(h:k<l.length):nth l k∈l:=by
 simp[nth,ApW h]
def AcL(l:List ApK):Prop:=∀r∈l,r.Zx1.Zu1.length≤1000000
theorem Abn{a b:List ApK}(ha:a.length≤1000000)(hp:AcL a):Fq a b=some (decide (a=b)):=by
 unfold Fq;by_cases hl:a.length=b.length
 ·rw[ApV (by simp[hl]),U4 a b (fun v=>D7 a b v) hl (by omega) ?_ ?_]
  ·by_cases h:a=b<;>simp[h]
  ·intro k hk;unfold D7;rw[ApU (Aqf (by omega)),ApU (A4 hk),ApU (A4 (by omega))];simp only[Ap1];rw[Adv (hp _ (Gv hk)),ApX];by_cases he:nth a k=nth b k
   ·rw[ApV (by simp[he]),ApU he,CF (by omega)]
   ·rw[ApU (by simp[he]),ApV he];rfl
  ·unfold D7;rw[ApV (by simp)]
 ·rw[ApU (by simp;omega),Aqs (fun h=>hl (by rw[h]))]
def GE(it:ApI):Bool:=decide (it.Zt1.length≤1000)&&decide (it.Zu1.length≤20)
theorem R5(it:ApI):Dm it=some (GE it):=by
 unfold Dm GE;have e1:decide ((it.Zt1.length:Int)≤1000)=decide (it.Zt1.length≤1000):=by simp;omega
 have e2:decide ((it.Zu1.length:Int)≤20)=decide (it.Zu1.length≤20):=by simp;omega
 rw[e1,e2];by_cases h:it.Zt1.length≤1000<;>simp[h]
structure Small(it:ApI):Prop where
  text:it.Zt1.length≤1000
  parts:it.Zu1.length≤20
theorem Mn{it:ApI}(h:GE it=true):Small it:=by
 simp only[GE,Ap9,Aqd]at h;exact⟨h.1,h.2⟩
def AdW(l:List ApK):Bool:=decide (l.length≤12)&&l.all fun r=>GE r.Zx1
def Vk(f:ApL):Bool:=GE f.A.Zx1&&GE f.B.Zx1
def Ks(b:ApM):Bool:=decide (b.Zy1.length≤4)&&decide (b.Zz1.length≤6)&&b.Zy1.all AdW&&b.Zz1.all Vk
theorem AbF(b:ApM){i:Nat}(hi:i<b.Zy1.length)(hr:(nth b.Zy1 i).length≤12) :Ax (fun(v:Int)=>CT b (i:Int) v) 0=some (if(nth b.Zy1 i).all (fun r=>GE r.Zx1)=true then .inl ()else .inr (.inr (.inr (.inr (.inr false))))):=by
 refine Cx (nth b.Zy1 i) (fun v=>CT b (i:Int) v) (fun r=>GE r.Zx1) _ _ (by omega) (fun k hk=>?_) ?_
 ·unfold CT;simp only[ApU (A4 hi),AJ,Ap1,ApU (A4 hk),R5,ApX];rw[ApU (Aqf (by omega))];by_cases h:GE (nth (nth b.Zy1 i) k).Zx1=true
  ·rw[ApV (by simp[h]),ApU h,CF (by omega)]
  ·rw[ApU (by simpa using h),ApV h]
 ·unfold CT;simp only[ApU (A4 hi),AJ,Ap1];rw[ApV (by simp)]
theorem Acv(b:ApM):F2 b=some (Ks b):=by
 unfold F2;by_cases h1:b.Zy1.length≤4
 case neg=>rw[ApU (by simp;omega)];simp[Ks,h1]
 by_cases h2:b.Zz1.length≤6
 case neg=>rw[ApV (by simp;omega)];simp only[Ay];rw[ApU (by simp;omega)];simp[Ks,h2]
 rw[ApV (by simp;omega)];simp only[Ay];rw[ApV (by simp;omega)];rw[Cx b.Zy1 (fun v=>D4 b v) AdW (.inl ()) (.inr (.inr false)) (by omega) ?_ ?_]
 ·by_cases h3:b.Zy1.all AdW=true
  ·rw[ApU h3];simp only[Ay];rw[Cx b.Zz1 (fun v=>D5 b v) Vk (.inl ()) (.inr (.inr false)) (by omega) ?_ ?_]
   ·by_cases h4:b.Zz1.all Vk=true
    ·rw[ApU h4];simp[Ks,h1,h2,h3,h4]
    ·rw[ApV h4];simp only[Ay];rw[ArR]at h4;simp[Ks,h4]
   ·intro k hk;unfold D5;rw[ApU (Aqf (by omega))];simp only[ApU (A4 hk),Ap1,R5,Ay];by_cases h5:GE (nth b.Zz1 k).A.Zx1=true
    ·by_cases h6:GE (nth b.Zz1 k).B.Zx1=true
     ·simp[h5,h6,Vk,CF (k:=k) (by omega)]
     ·simp[h5,h6,Vk]
    ·simp[h5,Vk]
   ·unfold D5;rw[ApV (by simp)]
  ·rw[ApV h3];simp only[Ay];rw[ArR]at h3;simp[Ks,h3]
 ·intro k hk;unfold D4;rw[ApU (Aqf (by omega))];simp only[ApU (A4 hk),Ap1,AJ];by_cases h5:(nth b.Zy1 k).length≤12
  ·rw[ApV (by simp;omega),AbF b hk h5];by_cases h6:(nth b.Zy1 k).all (fun r=>GE r.Zx1)=true
   ·rw[ApU h6,ApU (by simp only[AdW,h5,decide_true,ArO,h6])];simp only[Ay];rw[CF (by omega)]
   ·rw[ApV h6,ApV (by simp only[AdW,h5,decide_true,ArO];exact h6)];rfl
  ·rw[ApU (by simp;omega),ApV (by simp[AdW,h5])];rfl
 ·unfold D4;rw[ApV (by simp)]
structure Short(b:ApM):Prop where
  logs:b.Zy1.length≤4
  forks:b.Zz1.length≤6
  row:∀l∈b.Zy1,l.length≤12
  item:∀l∈b.Zy1,∀r∈l,Small r.Zx1
  fork:∀f∈b.Zz1,Small f.A.Zx1∧Small f.B.Zx1
theorem AdQ{b:ApM}(h:Ks b=true):Short b:=by
 simp only[Ks,Ap9,Aqd,Ap8]at h;obtain⟨⟨⟨h1,h2⟩,h3⟩,h4⟩:=h;refine⟨h1,h2,fun l hl=>?_,fun l hl r hr=>?_,fun f hf=>?_⟩
 ·have:=h3 l hl;simp only[AdW,Ap9,Aqd]at this;exact this.1
 ·have:=h3 l hl;simp only[AdW,Ap9,Aqd,Ap8]at this;exact Mn (this.2 r hr)
 ·have:=h4 f hf;simp only[Vk,Ap9]at this;exact⟨Mn this.1,Mn this.2⟩
def I64(x:Int):Prop:=-9223372036854775808≤x∧x≤9223372036854775807
open Go.Rv Go.ChangeShapes Go.WideShapes Go.ChangeAt Go.RowKit
theorem W7(H:Type)(l:List (DataW H)):(l.map (Rows.uptoBulk (H:=H))).sum=Rows.uptoBulkAll l:=by
 induction l with
 |nil=>rfl
 |cons x l ih=>simp only[Aru,List.sum_cons,ih,Rows.uptoBulkAll]
theorem AZ:BulkOk (fun H=>Rows.uptoBulk (H:=H)) where
 one:=fun H d=>by
  cases d with
  |lit l=>cases l<;>simp[Rows.uptoBulk]
  |_=>simp[Rows.uptoBulk]
 str:=fun H l=>by simp[Rows.uptoBulk]
 slice:=fun H e s=>by rw[W7];simp only[Rows.uptoBulk];omega
 agg:=fun H p=>by rw[W7];simp only[Rows.uptoBulk];omega
theorem XL{P:Program}{B:∀H:Type,DataW H→Nat}{t:TypeId}{α:Type}{c:α→List AV}{sz sz':α→Nat}{ok ok':α→Prop}(h:Opens P B t c sz ok)(h1:∀x,sz' x≤sz x)(h2:∀x,ok x→ok' x):Opens P B t c sz' ok':=by
 intro H enc W pr hpr fuel cs d ps hd;obtain⟨x,e1,e2,e3,e4⟩:=h H enc W pr hpr fuel cs d ps hd;exact⟨x,e1,ArD (h1 x) e2,h2 x e3,e4⟩
theorem Ky{α:Type}{c:α→List AV}{k:Nat}(hk:∀x,(c x).length=k):∀(l:List α) (j:Nat) (y:AV),(l.flatMap c)[j]?=some y→∃i r x,j=i*k+r∧r<k∧l[i]?=some x∧(c x)[r]?=some y:=by
  intro l
  induction l with
  |nil=>intro j y h;simp at h
  | cons a l ih=>
    intro j y h;rw[List.flatMap_cons]at h;by_cases hj:j<k
    · rw[Ap0 (by rw[hk];exact hj)]at h
      exact⟨0,j,a,by omega,hj,rfl,h⟩
    · rw[ApY (by rw[hk];omega),hk]at h
      obtain⟨i,r,x,e1,e2,e3,e4⟩:=ih _ _ h;exact⟨i+1,r,x,by rw[Aqi,AqB];omega,e2,by simpa using e3,e4⟩
theorem WM{α:Type}{c:α→List AV}{k:Nat}(hk:∀x,(c x).length=k):∀l:List α,(l.flatMap c).length=l.length*k:=by
 intro l
 induction l with
 |nil=>simp
 |cons a l ih=>rw[List.flatMap_cons,Aqe,hk,ih,Aqg,Aqi,AqB,Nat.add_comm]
theorem Acj{α:Type}{c:α→List AV}{k n:Nat}(hk:∀x,(c x).length=k)(a:Arr α n):(a.l.flatMap c).length=n*k:=by rw[WM hk,a.h]
theorem Xo{P:Program}{B:∀H:Type,DataW H→Nat}{t e:TypeId}{n k m:Nat}(ht:P.underlying t=some (.array n e))(hn:P.cellsOf t=m)(h1:P.cellsOf e=k){α:Type}{c:α→List AV}{sz:α→Nat}{ok:α→Prop}(hck:∀x,(c x).length=k) (he:Opens P B e c sz ok) (hm:m=n*k:=by decide):Opens P B t (fun a:Arr α n=>a.l.flatMap c) (fun _=>0) (fun _=>True):=by
  subst hm;intro H enc W pr hpr fuel cs d ps h;cases fuel with
  |zero=>cases h
  | succ fuel=>
    unfold DataW.trod at h;rw[ht]at h;split at h<;>try (rename_i hh;cases hh;done)
    all_goals try (rename_i hh _;cases hh;done)
    all_goals try (cases h;done)
    all_goals try (exfalso;rename ∀(n':Nat) (e':TypeId),some (TypeDesc.array n e)=some (TypeDesc.array n' e')→False=>hh;exact hh _ _ rfl)
    rename_i cs _ _ n' e' hk;cases hk;split at h
    case isFalse=>cases h
    rename_i hl;rw[hn]at hl;rw[ApS]at h;obtain⟨xs,hxs,h⟩:=h;simp only[Ap2]at h;obtain⟨rfl,_⟩:=h;obtain⟨hlen,hget⟩:=K4 hxs;rw[Ary]at hlen
    have hex:∀i,i<n→∃x:α,∀(r:Nat) (y:AV),r<k→(c x)[r]?=some y→Rep W pr [] (cs.getD (i*k+r) undef) y∧one (cs.getD (i*k+r) undef)=true:=by
      intro i hi;obtain⟨i',hi',hf⟩:=hget i (xs[i]'(by omega)) (ApW _);rw[Ark hi]at hi';cases hi';rw[h1]at hf;obtain⟨x,r1,r2,r3,r4⟩:=he H enc W pr hpr fuel _ _ _ hf;refine⟨x,fun r y hr hy=>?_⟩;have:=r4 r y hy
      have ed:((cs.drop (i*k)).take k).getD r undef=cs.getD (i*k+r) undef:=by
        simp only[Ap7,Aqj,Aqk,hr,Arq]
      rwa[ed]at this
    obtain⟨l,hll,hl2⟩:=HW _ n hex;refine⟨⟨l,hll⟩,?_,Aqm _,trivial,fun j y hj=>?_⟩
    · show cs.length=(l.flatMap c).length
      rw[WM hck,hll,hl]
    · obtain⟨i,r,x,e1,e2,e3,e4⟩:=Ky hck l j y hj
      subst e1;exact hl2 i x e3 r y e2 e4
theorem UP:Tryz.prog.cellsOf 40=2:=by kernel_rfl
theorem Vi:Tryz.prog.cellsOf 37=1:=by kernel_rfl
theorem Uq:Tryz.prog.cellsOf 75=1:=by kernel_rfl
theorem HZ:Tryz.prog.cellsOf 52=53:=by kernel_rfl
theorem Au:Tryz.prog.cellsOf 3=1:=by kernel_rfl
theorem Bg:Opens Tryz.prog (fun H=>Rows.uptoBulk (H:=H)) 3 GC (fun _=>1) I64:=AaA AZ Tryz.underlying3
theorem O9:Tryz.prog.cellsOf 42=32:=by kernel_rfl
theorem X3:Tryz.prog.cellsOf 5=1:=by kernel_rfl
theorem Alk:Opens Tryz.prog (fun H=>Rows.uptoBulk (H:=H)) 5 cU8 (fun _=>1) (fun s=>True):=Adj AZ Tryz.underlying5
theorem AeO:Opens Tryz.prog (fun H=>Rows.uptoBulk (H:=H)) 42 (fun a:Arr UInt8 32=>C1 u8 a.l) (fun _=>0) (fun s=>True):=XL (ZT AZ Tryz.underlying42 O9 X3 Alk) (fun _=>Aqm _) (fun _ _=>trivial)
theorem NE:Tryz.prog.cellsOf 47=16:=by kernel_rfl
theorem Nu:Tryz.prog.cellsOf 44=2:=by kernel_rfl
def Wd(s:ApG):Prop:=I64 s.Zb∧I64 s.No∧True
theorem Afm:Opens Tryz.prog (fun H=>Rows.uptoBulk (H:=H)) 44 Wq (fun _=>0) (fun s=>Wd s) :=
 AE AZ Tryz.underlying44 (n:=2) Nu
  (Ao (k:=1) rfl Au (fun _=>rfl) Bg (Ao (k:=1) rfl Au (fun _=>rfl) Bg AQ))
  (fun x=>(⟨x.1,x.2.1⟩:ApG)) (fun _=>rfl) (fun _=>rfl) (fun x=>Aqm _) (fun x h=>h)
theorem Yc:Tryz.prog.cellsOf 9=1:=by kernel_rfl
theorem Ajn:Opens Tryz.prog (fun H=>Rows.uptoBulk (H:=H)) 9 Akz (fun l=>l.length+1) (fun s=>s.length≤maxLen):=YI AZ Tryz.underlying9
theorem UQ:Tryz.prog.cellsOf 45=1:=by kernel_rfl
theorem L6:Tryz.prog.cellsOf 182=3:=by kernel_rfl
theorem Yw:Tryz.prog.cellsOf 4=1:=by kernel_rfl
theorem Ak9:Opens Tryz.prog (fun H=>Rows.uptoBulk (H:=H)) 4 O7 (fun _=>1) (fun s=>True):=Xj AZ Tryz.underlying4
def OE(s:ApH):Prop:=I64 s.Za∧I64 s.Zl1∧True∧True
theorem AdD:Opens Tryz.prog (fun H=>Rows.uptoBulk (H:=H)) 182 Aj (fun _=>0) (fun s=>OE s) :=
 AE AZ Tryz.underlying182 (n:=3) L6
  (Ao (k:=1) rfl Au (fun _=>rfl) Bg (Ao (k:=1) rfl Au (fun _=>rfl) Bg (Ao (k:=1) rfl Yw (fun _=>rfl) Ak9 AQ)))
  (fun x=>(⟨x.1,x.2.1,x.2.2.1⟩:ApH)) (fun _=>rfl) (fun _=>rfl) (fun x=>Aqm _) (fun x h=>h)
theorem AfT:Opens Tryz.prog (fun H=>Rows.uptoBulk (H:=H)) 45 (cSl Aj) (szL (fun _=>0)) (fun s=>(s.length≤maxLen∧∀t∈s,OE t)):=BJ AZ Tryz.underlying45 L6 (fun _=>rfl) AdD
def Th(s:ApI):Prop:=I64 s.Za∧Wd s.Ref∧I64 s.Zn1∧I64 s.Zb1∧I64 s.Zc∧I64 s.Zo1∧I64 s.Zw∧I64 s.To∧I64 s.Code∧I64 s.Zp1∧I64 s.Zq1∧I64 s.Zr1∧I64 s.Zs1∧s.Zt1.length≤maxLen∧(s.Zu1.length≤maxLen∧∀t∈s.Zu1,OE t)∧True
theorem Afe:Opens Tryz.prog (fun H=>Rows.uptoBulk (H:=H)) 47 NY (fun _=>0) (fun s=>Th s) :=
 AE AZ Tryz.underlying47 (n:=16) NE
  (Ao (k:=1) rfl Au (fun _=>rfl) Bg (Ao (k:=2) rfl Nu (fun _=>rfl) Afm (Ao (k:=1) rfl Au (fun _=>rfl) Bg (Ao (k:=1) rfl Au (fun _=>rfl) Bg (Ao (k:=1) rfl Au (fun _=>rfl) Bg (Ao (k:=1) rfl Au (fun _=>rfl) Bg (Ao (k:=1) rfl Au (fun _=>rfl) Bg (Ao (k:=1) rfl Au (fun _=>rfl) Bg (Ao (k:=1) rfl Au (fun _=>rfl) Bg (Ao (k:=1) rfl Au (fun _=>rfl) Bg (Ao (k:=1) rfl Au (fun _=>rfl) Bg (Ao (k:=1) rfl Au (fun _=>rfl) Bg (Ao (k:=1) rfl Au (fun _=>rfl) Bg (Ao (k:=1) rfl Yc (fun _=>rfl) Ajn (Ao (k:=1) rfl UQ (fun _=>rfl) AfT AQ)))))))))))))))
  (fun x=>(⟨x.1,x.2.1,x.2.2.1,x.2.2.2.1,x.2.2.2.2.1,x.2.2.2.2.2.1,x.2.2.2.2.2.2.1,x.2.2.2.2.2.2.2.1,x.2.2.2.2.2.2.2.2.1,x.2.2.2.2.2.2.2.2.2.1,x.2.2.2.2.2.2.2.2.2.2.1,x.2.2.2.2.2.2.2.2.2.2.2.1,x.2.2.2.2.2.2.2.2.2.2.2.2.1,x.2.2.2.2.2.2.2.2.2.2.2.2.2.1,x.2.2.2.2.2.2.2.2.2.2.2.2.2.2.1⟩:ApI)) (fun _=>rfl) (fun _=>rfl) (fun x=>Aqm _) (fun x h=>h)
theorem Nc:Tryz.prog.cellsOf 50=2:=by kernel_rfl
theorem HN:Tryz.prog.cellsOf 48=1:=by kernel_rfl
theorem Q3:Opens Tryz.prog (fun H=>Rows.uptoBulk (H:=H)) 48 R0 (fun _=>1) (fun s=>True):=AaH AZ Tryz.underlying48
def WO(s:ApJ):Prop:=True∧True∧True
theorem Afp:Opens Tryz.prog (fun H=>Rows.uptoBulk (H:=H)) 50 R2 (fun _=>0) (fun s=>WO s) :=
 AE AZ Tryz.underlying50 (n:=2) Nc
  (Ao (k:=1) rfl HN (fun _=>rfl) Q3 (Ao (k:=1) rfl HN (fun _=>rfl) Q3 AQ))
  (fun x=>(⟨x.1,x.2.1⟩:ApJ)) (fun _=>rfl) (fun _=>rfl) (fun x=>Aqm _) (fun x h=>h)
def EA(s:ApK):Prop:=I64 s.Zb∧I64 s.No∧True∧I64 s.Zw1∧Th s.Zx1∧WO s.Sig∧True
theorem W0(x:ApK):(Ak x).length=53:=by
 simp only[Ak,Aqe,Aqg,Aqr,DT,Arr.h]
theorem Rc:Opens Tryz.prog (fun H=>Rows.uptoBulk (H:=H)) 52 Ak (fun _=>0) (fun s=>EA s) :=
 AE AZ Tryz.underlying52 (n:=53) HZ
  (Ao (k:=1) rfl Au (fun _=>rfl) Bg (Ao (k:=1) rfl Au (fun _=>rfl) Bg (Ao (k:=32) rfl O9 (fun a=>by simp[DT,a.h]) AeO (Ao (k:=1) rfl Au (fun _=>rfl) Bg (Ao (k:=16) rfl NE (fun _=>rfl) Afe (Ao (k:=2) rfl Nc (fun _=>rfl) Afp AQ))))))
  (fun x=>(⟨x.1,x.2.1,x.2.2.1,x.2.2.2.1,x.2.2.2.2.1,x.2.2.2.2.2.1⟩:ApK)) (fun x=>by simp only[Ak,NY,R2,Aqh,AqP,AqU,Are,GC,R0,cU8,Akz,O7,cSl]) W0 (fun x=>Aqm _) (fun x h=>h)
theorem Ag8:Opens Tryz.prog (fun H=>Rows.uptoBulk (H:=H)) 75 (cSl Ak) (szL (fun _=>0)) (fun s=>(s.length≤maxLen∧∀t∈s,EA t)):=BJ AZ Tryz.underlying75 HZ W0 Rc
theorem Ahm:Opens Tryz.prog (fun H=>Rows.uptoBulk (H:=H)) 37 (cSl (cSl Ak)) (szL (szL (fun _=>0))) (fun s=>(s.length≤maxLen∧∀t∈s,(t.length≤maxLen∧∀u∈t,EA u))):=BJ AZ Tryz.underlying37 Uq (fun _=>rfl) Ag8
theorem Vz:Tryz.prog.cellsOf 38=1:=by kernel_rfl
theorem Nh:Tryz.prog.cellsOf 88=106:=by kernel_rfl
def NL(s:ApL):Prop:=EA s.A∧EA s.B∧True
theorem Ad4(x:ApL):(An x).length=106:=by
 simp only[An,Aqe,Aqg,Aqr,DT,Arr.h]
theorem Af2:Opens Tryz.prog (fun H=>Rows.uptoBulk (H:=H)) 88 An (fun _=>0) (fun s=>NL s) :=
 AE AZ Tryz.underlying88 (n:=106) Nh
  (Ao (k:=53) rfl HZ W0 Rc (Ao (k:=53) rfl HZ W0 Rc AQ))
  (fun x=>(⟨x.1,x.2.1⟩:ApL)) (fun x=>by simp only[An,Ak,Ak,Aqh,AqP,AqU,Are,GC,R0,cU8,Akz,O7,cSl]) Ad4 (fun x=>Aqm _) (fun x h=>h)
theorem Ahg:Opens Tryz.prog (fun H=>Rows.uptoBulk (H:=H)) 38 (cSl An) (szL (fun _=>0)) (fun s=>(s.length≤maxLen∧∀t∈s,NL t)):=BJ AZ Tryz.underlying38 Nh Ad4 Af2
def Qz(s:ApM):Prop:=(s.Zy1.length≤maxLen∧∀t∈s.Zy1,(t.length≤maxLen∧∀u∈t,EA u))∧(s.Zz1.length≤maxLen∧∀t∈s.Zz1,NL t)∧True
theorem AgO:Opens Tryz.prog (fun H=>Rows.uptoBulk (H:=H)) 40 Qn (fun _=>0) (fun s=>Qz s) :=
 AE AZ Tryz.underlying40 (n:=2) UP
  (Ao (k:=1) rfl Vi (fun _=>rfl) Ahm (Ao (k:=1) rfl Vz (fun _=>rfl) Ahg AQ))
  (fun x=>(⟨x.1,x.2.1⟩:ApM)) (fun _=>rfl) (fun _=>rfl) (fun x=>Aqm _) (fun x h=>h)
theorem Ud:Tryz.prog.cellsOf 36=9:=by kernel_rfl
theorem Od:Tryz.prog.cellsOf 25=2:=by kernel_rfl
theorem V7:Tryz.prog.cellsOf 22=1:=by kernel_rfl
theorem L9:Tryz.prog.cellsOf 120=3:=by kernel_rfl
def KY(s:Aps):Prop:=I64 s.Za∧I64 s.Zb∧I64 s.Zc∧True
theorem Ac2:Opens Tryz.prog (fun H=>Rows.uptoBulk (H:=H)) 120 Ag (fun _=>0) (fun s=>KY s) :=
 AE AZ Tryz.underlying120 (n:=3) L9
  (Ao (k:=1) rfl Au (fun _=>rfl) Bg (Ao (k:=1) rfl Au (fun _=>rfl) Bg (Ao (k:=1) rfl Au (fun _=>rfl) Bg AQ)))
  (fun x=>(⟨x.1,x.2.1,x.2.2.1⟩:Aps)) (fun _=>rfl) (fun _=>rfl) (fun x=>Aqm _) (fun x h=>h)
theorem Ahb:Opens Tryz.prog (fun H=>Rows.uptoBulk (H:=H)) 22 (cSl Ag) (szL (fun _=>0)) (fun s=>(s.length≤maxLen∧∀t∈s,KY t)):=BJ AZ Tryz.underlying22 L9 (fun _=>rfl) Ac2
theorem V2:Tryz.prog.cellsOf 23=1:=by kernel_rfl
theorem L8:Tryz.prog.cellsOf 122=5:=by kernel_rfl
def NI(s:Apt):Prop:=I64 s.A∧I64 s.B∧I64 s.Zb∧I64 s.Zd∧I64 s.Km∧True
theorem Ads:Opens Tryz.prog (fun H=>Rows.uptoBulk (H:=H)) 122 Al (fun _=>0) (fun s=>NI s) :=
 AE AZ Tryz.underlying122 (n:=5) L8
  (Ao (k:=1) rfl Au (fun _=>rfl) Bg (Ao (k:=1) rfl Au (fun _=>rfl) Bg (Ao (k:=1) rfl Au (fun _=>rfl) Bg (Ao (k:=1) rfl Au (fun _=>rfl) Bg (Ao (k:=1) rfl Au (fun _=>rfl) Bg AQ)))))
  (fun x=>(⟨x.1,x.2.1,x.2.2.1,x.2.2.2.1,x.2.2.2.2.1⟩:Apt)) (fun _=>rfl) (fun _=>rfl) (fun x=>Aqm _) (fun x h=>h)
theorem Ag2:Opens Tryz.prog (fun H=>Rows.uptoBulk (H:=H)) 23 (cSl Al) (szL (fun _=>0)) (fun s=>(s.length≤maxLen∧∀t∈s,NI t)):=BJ AZ Tryz.underlying23 L8 (fun _=>rfl) Ads
def LJ(s:Apu):Prop:=(s.Ze.length≤maxLen∧∀t∈s.Ze,KY t)∧(s.Zf.length≤maxLen∧∀t∈s.Zf,NI t)∧True
theorem Agi:Opens Tryz.prog (fun H=>Rows.uptoBulk (H:=H)) 25 LL (fun _=>0) (fun s=>LJ s) :=
 AE AZ Tryz.underlying25 (n:=2) Od
  (Ao (k:=1) rfl V7 (fun _=>rfl) Ahb (Ao (k:=1) rfl V2 (fun _=>rfl) Ag2 AQ))
  (fun x=>(⟨x.1,x.2.1⟩:Apu)) (fun _=>rfl) (fun _=>rfl) (fun x=>Aqm _) (fun x h=>h)
theorem NH:Tryz.prog.cellsOf 31=4:=by kernel_rfl
theorem Vp:Tryz.prog.cellsOf 26=1:=by kernel_rfl
theorem LG:Tryz.prog.cellsOf 124=8:=by kernel_rfl
def GW(s:Apv):Prop:=I64 s.Zg∧I64 s.Zh∧I64 s.Zi∧I64 s.Zj∧I64 s.Zk∧True∧I64 s.Zm∧I64 s.Zn∧True
theorem AbK:Opens Tryz.prog (fun H=>Rows.uptoBulk (H:=H)) 124 Aa (fun _=>0) (fun s=>GW s) :=
 AE AZ Tryz.underlying124 (n:=8) LG
  (Ao (k:=1) rfl Au (fun _=>rfl) Bg (Ao (k:=1) rfl Au (fun _=>rfl) Bg (Ao (k:=1) rfl Au (fun _=>rfl) Bg (Ao (k:=1) rfl Au (fun _=>rfl) Bg (Ao (k:=1) rfl Au (fun _=>rfl) Bg (Ao (k:=1) rfl HN (fun _=>rfl) Q3 (Ao (k:=1) rfl Au (fun _=>rfl) Bg (Ao (k:=1) rfl Au (fun _=>rfl) Bg AQ))))))))
  (fun x=>(⟨x.1,x.2.1,x.2.2.1,x.2.2.2.1,x.2.2.2.2.1,x.2.2.2.2.2.1,x.2.2.2.2.2.2.1,x.2.2.2.2.2.2.2.1⟩:Apv)) (fun _=>rfl) (fun _=>rfl) (fun x=>Aqm _) (fun x h=>h)
theorem Af1:Opens Tryz.prog (fun H=>Rows.uptoBulk (H:=H)) 26 (cSl Aa) (szL (fun _=>0)) (fun s=>(s.length≤maxLen∧∀t∈s,GW t)):=BJ AZ Tryz.underlying26 LG (fun _=>rfl) AbK
theorem UT:Tryz.prog.cellsOf 27=1:=by kernel_rfl
theorem Lw:Tryz.prog.cellsOf 126=5:=by kernel_rfl
def KV(s:Apw):Prop:=I64 s.Zo∧I64 s.Zp∧I64 s.Zq∧I64 s.Zr∧I64 s.Zs∧True
theorem AdC:Opens Tryz.prog (fun H=>Rows.uptoBulk (H:=H)) 126 Ae (fun _=>0) (fun s=>KV s) :=
 AE AZ Tryz.underlying126 (n:=5) Lw
  (Ao (k:=1) rfl Au (fun _=>rfl) Bg (Ao (k:=1) rfl Au (fun _=>rfl) Bg (Ao (k:=1) rfl Au (fun _=>rfl) Bg (Ao (k:=1) rfl Au (fun _=>rfl) Bg (Ao (k:=1) rfl Au (fun _=>rfl) Bg AQ)))))
  (fun x=>(⟨x.1,x.2.1,x.2.2.1,x.2.2.2.1,x.2.2.2.2.1⟩:Apw)) (fun _=>rfl) (fun _=>rfl) (fun x=>Aqm _) (fun x h=>h)
theorem AgD:Opens Tryz.prog (fun H=>Rows.uptoBulk (H:=H)) 27 (cSl Ae) (szL (fun _=>0)) (fun s=>(s.length≤maxLen∧∀t∈s,KV t)):=BJ AZ Tryz.underlying27 Lw (fun _=>rfl) AdC
theorem Vt:Tryz.prog.cellsOf 28=1:=by kernel_rfl
theorem LH:Tryz.prog.cellsOf 155=3:=by kernel_rfl
def Pk(s:Apx):Prop:=I64 s.Zt∧I64 s.Zu∧I64 s.Zv∧True
theorem Adu:Opens Tryz.prog (fun H=>Rows.uptoBulk (H:=H)) 155 Ai (fun _=>0) (fun s=>Pk s) :=
 AE AZ Tryz.underlying155 (n:=3) LH
  (Ao (k:=1) rfl Au (fun _=>rfl) Bg (Ao (k:=1) rfl Au (fun _=>rfl) Bg (Ao (k:=1) rfl Au (fun _=>rfl) Bg AQ)))
  (fun x=>(⟨x.1,x.2.1,x.2.2.1⟩:Apx)) (fun _=>rfl) (fun _=>rfl) (fun x=>Aqm _) (fun x h=>h)
theorem AfK:Opens Tryz.prog (fun H=>Rows.uptoBulk (H:=H)) 28 (cSl Ai) (szL (fun _=>0)) (fun s=>(s.length≤maxLen∧∀t∈s,Pk t)):=BJ AZ Tryz.underlying28 LH (fun _=>rfl) Adu
theorem UY:Tryz.prog.cellsOf 29=1:=by kernel_rfl
theorem LB:Tryz.prog.cellsOf 199=3:=by kernel_rfl
def Oj(s:Apy):Prop:=I64 s.Zw∧I64 s.To∧I64 s.Zd∧True
theorem AcN:Opens Tryz.prog (fun H=>Rows.uptoBulk (H:=H)) 199 Ah (fun _=>0) (fun s=>Oj s) :=
 AE AZ Tryz.underlying199 (n:=3) LB
  (Ao (k:=1) rfl Au (fun _=>rfl) Bg (Ao (k:=1) rfl Au (fun _=>rfl) Bg (Ao (k:=1) rfl Au (fun _=>rfl) Bg AQ)))
  (fun x=>(⟨x.1,x.2.1,x.2.2.1⟩:Apy)) (fun _=>rfl) (fun _=>rfl) (fun x=>Aqm _) (fun x h=>h)
theorem Ahk:Opens Tryz.prog (fun H=>Rows.uptoBulk (H:=H)) 29 (cSl Ah) (szL (fun _=>0)) (fun s=>(s.length≤maxLen∧∀t∈s,Oj t)):=BJ AZ Tryz.underlying29 LB (fun _=>rfl) AcN
def Qo(s:Apz):Prop:=(s.Zx.length≤maxLen∧∀t∈s.Zx,GW t)∧(s.Zy.length≤maxLen∧∀t∈s.Zy,KV t)∧(s.Zz.length≤maxLen∧∀t∈s.Zz,Pk t)∧(s.Za1.length≤maxLen∧∀t∈s.Za1,Oj t)∧True
theorem AfI:Opens Tryz.prog (fun H=>Rows.uptoBulk (H:=H)) 31 Qg (fun _=>0) (fun s=>Qo s) :=
 AE AZ Tryz.underlying31 (n:=4) NH
  (Ao (k:=1) rfl Vp (fun _=>rfl) Af1 (Ao (k:=1) rfl UT (fun _=>rfl) AgD (Ao (k:=1) rfl Vt (fun _=>rfl) AfK (Ao (k:=1) rfl UY (fun _=>rfl) Ahk AQ))))
  (fun x=>(⟨x.1,x.2.1,x.2.2.1,x.2.2.2.1⟩:Apz)) (fun _=>rfl) (fun _=>rfl) (fun x=>Aqm _) (fun x h=>h)
theorem Vr:Tryz.prog.cellsOf 32=1:=by kernel_rfl
theorem L1:Tryz.prog.cellsOf 128=3:=by kernel_rfl
def JE(s:ApA):Prop:=I64 s.Zb1∧I64 s.Low∧I64 s.Zc1∧True
theorem Acb:Opens Tryz.prog (fun H=>Rows.uptoBulk (H:=H)) 128 Af (fun _=>0) (fun s=>JE s) :=
 AE AZ Tryz.underlying128 (n:=3) L1
  (Ao (k:=1) rfl Au (fun _=>rfl) Bg (Ao (k:=1) rfl Au (fun _=>rfl) Bg (Ao (k:=1) rfl Au (fun _=>rfl) Bg AQ)))
  (fun x=>(⟨x.1,x.2.1,x.2.2.1⟩:ApA)) (fun _=>rfl) (fun _=>rfl) (fun x=>Aqm _) (fun x h=>h)
theorem Afr:Opens Tryz.prog (fun H=>Rows.uptoBulk (H:=H)) 32 (cSl Af) (szL (fun _=>0)) (fun s=>(s.length≤maxLen∧∀t∈s,JE t)):=BJ AZ Tryz.underlying32 L1 (fun _=>rfl) Acb
theorem Vc:Tryz.prog.cellsOf 33=1:=by kernel_rfl
theorem LC:Tryz.prog.cellsOf 130=1:=by kernel_rfl
def Ir(s:ApB):Prop:=I64 s.Zb1∧True
theorem AdO:Opens Tryz.prog (fun H=>Rows.uptoBulk (H:=H)) 130 Ad (fun _=>0) (fun s=>Ir s) :=
 AE AZ Tryz.underlying130 (n:=1) LC
  (Ao (k:=1) rfl Au (fun _=>rfl) Bg AQ)
  (fun x=>(⟨x.1⟩:ApB)) (fun _=>rfl) (fun _=>rfl) (fun x=>Aqm _) (fun x h=>h)
theorem Aew:Opens Tryz.prog (fun H=>Rows.uptoBulk (H:=H)) 33 (cSl Ad) (szL (fun _=>0)) (fun s=>(s.length≤maxLen∧∀t∈s,Ir t)):=BJ AZ Tryz.underlying33 LC (fun _=>rfl) AdO
theorem UU:Tryz.prog.cellsOf 34=1:=by kernel_rfl
theorem Pa:Tryz.prog.cellsOf 74=16:=by kernel_rfl
theorem O4:Tryz.prog.cellsOf 72=15:=by kernel_rfl
theorem NK:Tryz.prog.cellsOf 69=14:=by kernel_rfl
theorem N5:Tryz.prog.cellsOf 68=2:=by kernel_rfl
def Aal(s:ApC):Prop:=I64 s.Zw∧I64 s.To∧True
theorem AeZ:Opens Tryz.prog (fun H=>Rows.uptoBulk (H:=H)) 68 Kt (fun _=>0) (fun s=>Aal s) :=
 AE AZ Tryz.underlying68 (n:=2) N5
  (Ao (k:=1) rfl Au (fun _=>rfl) Bg (Ao (k:=1) rfl Au (fun _=>rfl) Bg AQ))
  (fun x=>(⟨x.1,x.2.1⟩:ApC)) (fun _=>rfl) (fun _=>rfl) (fun x=>Aqm _) (fun x h=>h)
theorem AfO:Opens Tryz.prog (fun H=>Rows.uptoBulk (H:=H)) 69 (fun a:Arr ApC 7=>a.l.flatMap Kt) (fun _=>0) (fun s=>True):=Xo (n:=7) Tryz.underlying69 NK N5 (fun _=>rfl) AeZ
theorem Up:Tryz.prog.cellsOf 70=1:=by kernel_rfl
theorem Ahy:Opens Tryz.prog (fun H=>Rows.uptoBulk (H:=H)) 70 (cSl GC) (szL (fun _=>1)) (fun s=>(s.length≤maxLen∧∀t∈s,I64 t)):=BJ AZ Tryz.underlying70 Au (fun _=>rfl) Bg
def Kd(s:ApD):Prop:=True∧(s.Ze1.length≤maxLen∧∀t∈s.Ze1,I64 t)∧True
theorem Ae8:Opens Tryz.prog (fun H=>Rows.uptoBulk (H:=H)) 72 Kz (fun _=>0) (fun s=>Kd s) :=
 AE AZ Tryz.underlying72 (n:=15) O4
  (Ao (k:=14) rfl NK (Acj (c:=Kt) (k:=2) (n:=7) (fun _=>rfl)) AfO (Ao (k:=1) rfl Up (fun _=>rfl) Ahy AQ))
  (fun x=>(⟨(nth x.1.l 0,nth x.1.l 1,nth x.1.l 2,nth x.1.l 3,nth x.1.l 4,nth x.1.l 5,nth x.1.l 6),x.2.1⟩:ApD)) (fun x=>by obtain⟨⟨l,hl⟩,y⟩:=x;match l,hl with|[_,_,_,_,_,_,_],_=>rfl) (fun _=>rfl) (fun x=>Aqm _) (fun x h=>h)
def FU(s:ApE):Prop:=True∧Kd s.Zf1∧True
theorem Ahh:Opens Tryz.prog (fun H=>Rows.uptoBulk (H:=H)) 74 Ab (fun _=>0) (fun s=>FU s) :=
 AE AZ Tryz.underlying74 (n:=16) Pa
  (Ao (k:=1) rfl HN (fun _=>rfl) Q3 (Ao (k:=15) rfl O4 (fun _=>rfl) Ae8 AQ))
  (fun x=>(⟨x.1,x.2.1⟩:ApE)) (fun _=>rfl) (fun _=>rfl) (fun x=>Aqm _) (fun x h=>h)
theorem AeL:Opens Tryz.prog (fun H=>Rows.uptoBulk (H:=H)) 34 (cSl Ab) (szL (fun _=>0)) (fun s=>(s.length≤maxLen∧∀t∈s,FU t)):=BJ AZ Tryz.underlying34 Pa (fun _=>rfl) Ahh
def S3(s:ApF):Prop:=LJ s.Zg1∧Qo s.Zh1∧(s.Zi1.length≤maxLen∧∀t∈s.Zi1,JE t)∧(s.Zj1.length≤maxLen∧∀t∈s.Zj1,Ir t)∧(s.Zk1.length≤maxLen∧∀t∈s.Zk1,FU t)∧True
theorem Ag1:Opens Tryz.prog (fun H=>Rows.uptoBulk (H:=H)) 36 SR (fun _=>0) (fun s=>S3 s) :=
 AE AZ Tryz.underlying36 (n:=9) Ud
  (Ao (k:=2) rfl Od (fun _=>rfl) Agi (Ao (k:=4) rfl NH (fun _=>rfl) AfI (Ao (k:=1) rfl Vr (fun _=>rfl) Afr (Ao (k:=1) rfl Vc (fun _=>rfl) Aew (Ao (k:=1) rfl UU (fun _=>rfl) AeL AQ)))))
  (fun x=>(⟨x.1,x.2.1,x.2.2.1,x.2.2.2.1,x.2.2.2.2.1⟩:ApF)) (fun _=>rfl) (fun _=>rfl) (fun x=>Aqm _) (fun x h=>h)
theorem own:ownKnob Tryz.prog.godebug=none:=by kernel_rfl
theorem Afb:laidOutB Tryz.prog=true:=by kernel_rfl
abbrev UX:List (String×DataW Unit):=[("wagonpool/digest.k", Rows.laid_wagonpool_digest_k)]
def kz:List Int:=glob3.l.map fun x=>(x.toNat:Int)
theorem Aj8:kz.length=64:=by simp[kz,glob3.h]
theorem Agb:(Rows.laid_wagonpool_digest_k:DataW Unit)=.agg (kz.map fun n=>.lit (.int .u32 n)):=by kernel_rfl
theorem AdY{W:World}(h:laidMetH Tryz.prog UX W)(r:Nat)(hr:r<64):W.cell? ⟨3,r,none⟩=some (.int .u32 (kz.getD r 0)):=by
 rw[MakeChecks.laidMetH_plain _ _ _ (by kernel_rfl)]at h;obtain⟨ps,⟨g,t,cs,fuel,p,q,hg,ht,hv,hd,_,_⟩,_,_⟩:=h;obtain rfl:=Aqp ((show Tryz.prog.globalNamed "wagonpool/digest.k" = some 3 by kernel_rfl).symm.trans hg);obtain rfl:=Aqp ((show(Tryz.prog.globals[3]?).map (·.type)=some 232 by kernel_rfl).symm.trans ht);rw[Agb]at hd;obtain⟨xs,m,_,ex,_,hl,hel⟩:=DataW.trod_array Tryz.underlying232 hd;have c5:Tryz.prog.cellsOf 220=1:=by kernel_rfl
 have hE:=hel r hr;rw[c5,ArL,ApW (by omega)]at hE;obtain⟨z,e1,e2,_⟩:=DataW.trod_int Tryz.underlying220 hE;have hlen:=Aj8;have e3:(xs.map (·.1))=kz.map fun n=>.lit (.int .u32 n):=(DataW.agg.inj (Prod.mk.inj ex).1).symm
 have e4:(xs.map (·.1))[r]?=(kz.map fun n=>(DataW.lit (.int .u32 n):DataW Unit))[r]?:=by rw[e3]
 rw[Aqa,Aqa,ApW (by omega:r<xs.length),ApW (by omega:r<kz.length),e2]at e4
 have hz:z=kz.getD r 0:=by
  simp only[Aqv,ApT,DataW.lit.injEq,Lit.int.injEq,true_and]at e4;rw[e4,List.getD,ApW (by omega:r<kz.length)];rfl
 rw[World.var?_cell hg hv r,←hz]
 have:cs.toList[r]?=some (.int .u32 z):=by
  have h0:((cs.toList.drop r).take 1)[0]?=some (.int .u32 z):=by rw[e1];rfl
  simpa using h0
 simpa using this
theorem An5{W:World}(h:laidMetH Tryz.prog UX W):Mem (B.env noF) W [] []:=by
 refine⟨rfl,fun id b ab h=>by simp at h,fun id id' b b' β h=>by simp at h,fun a h=>h.elim,fun i cs hG=>?_,fun t m h=>(by have h':(none:Option MapS)=some m:=h;cases h'),fun i p h=>(by have h':(none:Option (Array Value))=some p:=h;cases h')⟩;have hG':(if i=3 then some (C1 u32 glob3.l)else none)=some cs:=hG;by_cases hi:i=3
 ·rw[ApU hi]at hG';cases hG';subst hi;refine⟨cell?_lt (AdY h 0 (by omega)),(by rintro⟨id,b,hb,_⟩;simp at hb),fun _ hf=>hf,fun j=>.int .u32 (kz.getD j 0),fun j x hj=>?_⟩
  have hj64:j<64:=by
   have:=(ApR.1 hj).1;rwa[DT]at this
  have hx:x=.int .u32 (kz.getD j 0):=by
   simp only[C1,Aqa,ApS]at hj;obtain⟨y,hy,rfl⟩:=hj;simp[kz,u32,Ap7,hy]
  subst hx;exact⟨AdY h j hj64,.int _ _ _,rfl⟩
 ·rw[ApV hi]at hG';cases hG'
theorem Yk{f:FuncId}{avs:List AV}(h:Con B f avs [] (fun r σ'=>r=.bool true∧σ'=[])){fn:Func}{c:Code}(hf:B.P.funcs[f]?=some fn)(hb:fn.body=some c)(hn:(fn.name == "runtime.NumGoroutine")=false) {W:World} (hL:laidMetH Tryz.prog UX W) {args:Array Value} (ha:Cl W (A2 (B.env noF) []) [] args.toList avs):Calls B.P f args W fun e W'=>e=.returned (.bool true)∧Below W.heap.size W W':=by
 refine((h.call (fun _=>False) W [] args (An5 hL) ha).calls hf hb hn).mono ?_;rintro e w' ⟨v,r,σ',g',rfl,⟨rfl,rfl⟩,hm,he,hr⟩;exact⟨by rw[Fg hr],he.below⟩
open Go.Rv Go.RowKit
set_option maxRecDepth 20000
theorem AcM:Lib.len8tab.data.toList=([0,1,2,2,3,3,3,3,4,4,4,4,4,4,4,4,5,5,5,5,5,5,5,5,5,5,5,5,5,5,5,5,6,6,6,6,6,6,6,6,6,6,6,6,6,6,6,6,6,6,6,6,6,6,6,6,6,6,6,6,6,6,6,6,7,7,7,7,7,7,7,7,7,7,7,7,7,7,7,7,7,7,7,7,7,7,7,7,7,7,7,7,7,7,7,7,7,7,7,7,7,7,7,7,7,7,7,7,7,7,7,7,7,7,7,7,7,7,7,7,7,7,7,7,7,7,7,7,8,8,8,8,8,8,8,8,8,8,8,8,8,8,8,8,8,8,8,8,8,8,8,8,8,8,8,8,8,8,8,8,8,8,8,8,8,8,8,8,8,8,8,8,8,8,8,8,8,8,8,8,8,8,8,8,8,8,8,8,8,8,8,8,8,8,8,8,8,8,8,8,8,8,8,8,8,8,8,8,8,8,8,8,8,8,8,8,8,8,8,8,8,8,8,8,8,8,8,8,8,8,8,8,8,8,8,8,8,8,8,8,8,8,8,8,8,8,8,8,8,8,8,8,8,8,8,8]:List UInt8):=by kernel_rfl
attribute [go_sem] AcM
theorem Ml{σ:Am}{b:ABlk}:(σ++[b])[σ.length]?=some b:=by
 rw[ApY (Ap5 _)];simp
theorem We{σ:Am}{b c:ABlk}:(σ++[b]).set σ.length c=σ++[c]:=by
 rw[Ard _ _ (Ap5 _)];simp
theorem LR{σ:Am}{id:Nat}:∀F:Addr→Prop,T1 (B.env F) 92 [.ref id 0] σ (.agg [.ref id 3,.ref id 4,.ref id 5,.ref id 6,.ref id 7,.ref id 8,.ref id 9,.ref id 10,.ref id 11,.ref id 12,.ref id 13]) σ:=by
  intro F w g vs hm ha
  have hid:id<σ.length:=by
    obtain⟨vs⟩:=vs
    match vs,ha with
    | [u],⟨h1,_⟩=>
      cases h1 with
      |ref _ _ _ β b hb _ _=>have:=(ApR.1 hb).1;rwa[hm.len]at this
  refine Sw (N:=37) (rs:=[.cell 2 178]) σ.length rfl ok Tryz.func92 rfl (by decide +kernel) rfl rfl (AqQ rfl) ?_ (fun F=>?_) F w g vs hm ha
  · simp[AV.under,hid]
  have hE:=ok.env F;show Run (B.env F) σ.length _ ⟨Ar 37 [(0,.ref id 0)],σ⟩ _;refine Ko hE [0,2] (fr':=[(0,.ref id 0),(2,.ref σ.length 0)]) (σ':=σ++[.box [.val (.pointer none),.val (.pointer none),.val (.pointer none),.val (.pointer none),.val (.pointer none),.val (.pointer none),.val (.pointer none),.val (.pointer none),.val (.pointer none),.val (.pointer none),.val (.pointer none)] false]) ⟨_,Ac,?_⟩ ?_
  · simp only[go_sem]
  refine Ov hE O2 [[],[0],[0,1],[],[3],[3,4],[],[6],[6,7],[],[9],[9,10],[],[12],[12,13],[],[15],[15,16],[],[18],[18,19],[],[21],[21,22],[],[24],[24,25],[],[27],[27,28],[],[30],[30,31],[0,1,2,3,4,5,6,7,8,9,10,11,12,13,14,15,16,17,18,19,20,21,22,23,24,25,26,27,28,29,30,31,32],[0,1,2,3,4,5,6,7,8,9,10,11,12,13,14,15,16,17,18,19,20,21,22,23,24,25,26,27,28,29,30,31,32,33]] (by kernel_rfl) (by kernel_rfl) [2] (fr':=[(2,.ref σ.length 0)]) (σ':=σ++[.box [.ref id 3,.ref id 4,.ref id 5,.ref id 6,.ref id 7,.ref id 8,.ref id 9,.ref id 10,.ref id 11,.ref id 12,.ref id 13] false]) ⟨_,Ac,?_⟩ ?_
  · simp only[go_sem,Ml,We,reduceIte,Nat.reduceLT,Nat.reduceEqDiff,Nat.reduceAdd,Nat.reduceGT,Nat.reduceLeDiff]
  refine VC ?_;refine⟨.inr rfl,[.agg [.ref id 3,.ref id 4,.ref id 5,.ref id 6,.ref id 7,.ref id 8,.ref id 9,.ref id 10,.ref id 11,.ref id 12,.ref id 13]],[.box [.ref id 3,.ref id 4,.ref id 5,.ref id 6,.ref id 7,.ref id 8,.ref id 9,.ref id 10,.ref id 11,.ref id 12,.ref id 13] false],?_,rfl,rfl⟩;rw[K9];simp only[go_sem,Ml,reduceIte,Nat.reduceLT,Nat.reduceEqDiff,Nat.reduceAdd,Nat.reduceLeDiff]
theorem Lj{σ:Am}{id:Nat}:∀F:Addr→Prop,T1 (B.env F) 92 [.ref id 9] σ (.agg [.ref id 12,.ref id 13,.ref id 14,.ref id 15,.ref id 16,.ref id 17,.ref id 18,.ref id 19,.ref id 20,.ref id 21,.ref id 22]) σ:=by
  intro F w g vs hm ha
  have hid:id<σ.length:=by
    obtain⟨vs⟩:=vs
    match vs,ha with
    | [u],⟨h1,_⟩=>
      cases h1 with
      |ref _ _ _ β b hb _ _=>have:=(ApR.1 hb).1;rwa[hm.len]at this
  refine Sw (N:=37) (rs:=[.cell 2 178]) σ.length rfl ok Tryz.func92 rfl (by decide +kernel) rfl rfl (AqQ rfl) ?_ (fun F=>?_) F w g vs hm ha
  · simp[AV.under,hid]
  have hE:=ok.env F;show Run (B.env F) σ.length _ ⟨Ar 37 [(0,.ref id 9)],σ⟩ _;refine Ko hE [0,2] (fr':=[(0,.ref id 9),(2,.ref σ.length 0)]) (σ':=σ++[.box [.val (.pointer none),.val (.pointer none),.val (.pointer none),.val (.pointer none),.val (.pointer none),.val (.pointer none),.val (.pointer none),.val (.pointer none),.val (.pointer none),.val (.pointer none),.val (.pointer none)] false]) ⟨_,Ac,?_⟩ ?_
  · simp only[go_sem]
  refine Ov hE O2 [[],[0],[0,1],[],[3],[3,4],[],[6],[6,7],[],[9],[9,10],[],[12],[12,13],[],[15],[15,16],[],[18],[18,19],[],[21],[21,22],[],[24],[24,25],[],[27],[27,28],[],[30],[30,31],[0,1,2,3,4,5,6,7,8,9,10,11,12,13,14,15,16,17,18,19,20,21,22,23,24,25,26,27,28,29,30,31,32],[0,1,2,3,4,5,6,7,8,9,10,11,12,13,14,15,16,17,18,19,20,21,22,23,24,25,26,27,28,29,30,31,32,33]] (by kernel_rfl) (by kernel_rfl) [2] (fr':=[(2,.ref σ.length 0)]) (σ':=σ++[.box [.ref id 12,.ref id 13,.ref id 14,.ref id 15,.ref id 16,.ref id 17,.ref id 18,.ref id 19,.ref id 20,.ref id 21,.ref id 22] false]) ⟨_,Ac,?_⟩ ?_
  · simp only[go_sem,Ml,We,reduceIte,Nat.reduceLT,Nat.reduceEqDiff,Nat.reduceAdd,Nat.reduceGT,Nat.reduceLeDiff]
  refine VC ?_;refine⟨.inr rfl,[.agg [.ref id 12,.ref id 13,.ref id 14,.ref id 15,.ref id 16,.ref id 17,.ref id 18,.ref id 19,.ref id 20,.ref id 21,.ref id 22]],[.box [.ref id 12,.ref id 13,.ref id 14,.ref id 15,.ref id 16,.ref id 17,.ref id 18,.ref id 19,.ref id 20,.ref id 21,.ref id 22] false],?_,rfl,rfl⟩;rw[K9];simp only[go_sem,Ml,reduceIte,Nat.reduceLT,Nat.reduceEqDiff,Nat.reduceAdd,Nat.reduceLeDiff]
set_option maxHeartbeats 4000000
theorem PS{a b r}(h:Ht a b=some r):Con B 83 [u64 a,u64 b] [] (fun r' σ'=>r'=.tup [u64 r.1,u64 r.2]∧σ'=[]):=by
 refine Cw 51 [.tmp 4,.tmp 5] Tryz.func83 (fun F hE=>?_) h;unfold Ht;refine T0 [0,1] ?_;refine Lt fun x0_2596 c =>Te (fr':=[(0,_),(1,_),(6,u64 x0_2596)]) [0,1,6] Ac (Ew1 c) ?_
 refine Lt fun x1_2598 d =>Te (fr':=[(0,_),(1,_),(6,_),(7,u64 x1_2598)]) [0,1,6,7] Ac (Ew1 d) ?_
 refine Lt fun y0_2600 e =>Te (fr':=[(0,_),(1,_),(6,_),(7,_),(8,u64 y0_2600)]) [0,1,6,7,8] Ac (Ew1 e) ?_
 refine Lt fun y1_2602 f =>Te (fr':=[(0,_),(1,_),(6,_),(7,_),(8,_),(9,u64 y1_2602)]) [0,1,6,7,8,9] Ac (Ew1 f) ?_
 refine T0 [0,1,6,7,8,9,10] ?_;refine Lt fun g i =>Te (fr':=[(0,_),(1,_),(6,_),(7,_),(9,_),(11,u64 g)]) [0,1,6,7,9,11] Ac (Ew1 i) ?_
 refine Lt fun w1_2606 j =>Te (fr':=[(0,_),(1,_),(6,_),(7,_),(9,_),(11,_),(12,u64 w1_2606)]) [0,1,6,7,9,11,12] Ac (Ew1 j) ?_
 refine Lt fun w2_2608 k =>Te (fr':=[(0,_),(1,_),(6,_),(7,_),(9,_),(12,_),(13,u64 w2_2608)]) [0,1,6,7,9,12,13] Ac (Ew1 k) ?_
 refine Lt fun w1_2610 l =>Te (fr':=[(0,_),(1,_),(7,_),(9,_),(12,u64 w1_2610),(13,_)]) [0,1,7,9,12,13] Ac (Ew1 l) ?_
 refine Lt fun m n =>Te (fr':=[(0,_),(1,_),(4,u64 m)]) [0,1,4] Ac (Ew1 n) ?_
 refine T0 [4,5] ?_;exact Sr <|Rr
theorem He{b r}(h:Es b=some r):Con B 85 [u64 b] [] (fun r' σ'=>r'=i64 r∧σ'=[]):=by
 refine Cw 25 [.tmp 2] Tryz.func85 (fun F hE=>?_) h;unfold Es;refine T0 [0,2] ?_;refine Ja (fun(v:UInt64×Int)=>(⟨Ar 25 [(0,u64 v.1),(2,i64 v.2)],[]⟩:St)) ?_ ?_
 ·intro m;refine T0 [0,2,4] ?_;refine Cd ?_ ?_
  ·refine Lt fun d e =>Te (fr':=[(0,u64 d)]) [0] Ac (Ew1 e) ?_
   refine F0 [0,2] ?_;exact Jm (ws [])
  ·exact Sk <|Jm (ws [])
 rintro⟨n,o⟩;refine Ja (fun(v:UInt64×Int)=>(⟨Ar 25 [(0,u64 v.1),(2,i64 v.2)],[]⟩:St)) ?_ ?_
 ·intro p;refine T0 [0,2,8] ?_;refine Cd ?_ ?_
  ·refine Lt fun f g =>Te (fr':=[(0,u64 f),(2,_)]) [0,2] Ac (Ew1 g) ?_
   refine F0 [0,2] ?_;exact Jm (ws [])
  ·exact Sk <|Jm (ws [])
 rintro⟨q,s⟩;refine Ja (fun(v:UInt64×Int)=>(⟨Ar 25 [(0,u64 v.1),(2,i64 v.2)],[]⟩:St)) ?_ ?_
 ·intro t;refine T0 [0,2,14] ?_;refine Cd ?_ ?_
  ·refine Lt fun i j =>Te (fr':=[(0,u64 i),(2,_)]) [0,2] Ac (Ew1 j) ?_
   refine F0 [0,2] ?_;exact Jm (ws [])
  ·exact Sk <|Jm (ws [])
 rintro⟨u,w⟩;refine Ck fun c=>?_
 have a:=c;simp only[Aqh,AqP,Aqe,Aqg,Aqr,AqO,Nat.reduceAdd]at a;refine Lt fun k l =>Te (fr':=[(2,i64 k)]) [2] Ac (Ev (by simp only[go_sem,qN c,a,QJ a,Anr (QJ a),l];exact AY)) ?_
 exact Sr <|Rr
theorem HE{a r}(h:CE a=some r):Con B 124 [u64 a] [] (fun r' σ'=>r'=i64 r∧σ'=[]):=by
 refine Cw 6 [.tmp 2] Tryz.func124 (fun F hE=>?_) h;unfold CE;refine T0 [0] ?_;refine Bd fun c b =>Te [2] (o1 4 (He b)) Ev ?_
 exact Sr <|Rr
theorem PW{e f g r}(h:Gj e f g=some r):Con B 84 [u64 e,u64 f,u64 g] [] (fun r' σ'=>r'=.tup [u64 r.1,u64 r.2]∧σ'=[]):=by
 refine Cw 135 [.tmp 6,.tmp 7] Tryz.func84 (fun F hE=>?_) h;unfold Gj;refine T0 [0,1,2] ?_;refine Sq <|T0 [0,1,2,20] ?_
 refine Cd ?_ ?_
 ·exact Rn
 ·refine Sk <|Tn <|Sq <|T0 [0,1,2,24] ?_
  refine Cd ?_ ?_
  ·exact Rn
  ·refine Sk <|Tn <|Sq <|T0 [0,1,2,27] ?_
   refine Cd ?_ ?_
   ·refine Ck fun q =>Ck fun s =>De [[],[],[0,1],[],[],[3,4],[0,1,2],[0,1,2,3,4,5,6]] [6,7] Ac (Ew2 q s) ?_
    exact Sr <|Tr <|Rr
   ·refine Sk <|Tn <|Bd fun b t =>Te [0,1,2,8] (o1 35 (HE t)) Ev ?_
    refine Lt fun a u =>Te (fr':=[(0,_),(1,_),(2,u64 a),(8,_)]) [0,1,2,8] Ac (Ew1 u) ?_
    refine Lt fun yn1_2658 w =>Te (fr':=[(0,_),(1,_),(2,_),(8,_),(9,u64 yn1_2658)]) [0,1,2,8,9] Ac (Ew1 w) ?_
    refine Lt fun yn0_2660 x =>Te (fr':=[(0,_),(1,_),(2,_),(8,_),(9,_),(10,u64 yn0_2660)]) [0,1,2,8,9,10] Ac (Ew1 x) ?_
    refine Lt fun un32_2662 y =>Te (fr':=[(1,_),(2,_),(8,_),(9,_),(10,_),(11,u64 un32_2662)]) [1,2,8,9,10,11] Ac (Ew1 y) ?_
    refine Lt fun un10_2664 z =>Te (fr':=[(2,_),(8,_),(9,_),(10,_),(11,_),(12,u64 un10_2664)]) [2,8,9,10,11,12] Ac (Ew1 z) ?_
    refine Lt fun un1_2666 aa =>Te (fr':=[(2,_),(8,_),(9,_),(10,_),(11,_),(12,_),(13,u64 un1_2666)]) [2,8,9,10,11,12,13] Ac (Ew1 aa) ?_
    refine Lt fun un0_2668 ab =>Te (fr':=[(2,_),(8,_),(9,_),(10,_),(11,_),(13,_),(14,u64 un0_2668)]) [2,8,9,10,11,13,14] Ac (Ew1 ab) ?_
    refine Ck fun ac =>Te [2,8,9,10,11,13,14,15] Ac (Ew1 ac) ?_
    refine Lt fun ad ae =>Te (fr':=[(2,_),(8,_),(9,_),(10,_),(11,_),(13,_),(14,_),(15,_),(16,u64 ad)]) [2,8,9,10,11,13,14,15,16] Ac (Ew1 ae) ?_
    refine Ja (fun q1_2692=>⟨Ar 135 [(2,u64 a),(8,u64 (UInt64.ofInt b)),(9,u64 yn1_2658),(10,u64 yn0_2660),(11,u64 un32_2662),(13,u64 un1_2666),(14,u64 un0_2668),(15,u64 q1_2692)],[]⟩) ?_ ?_
    ·intro ap;refine Sb ?_;refine Lo (fun(v:UInt64×UInt64)=>(⟨Ar 135 [(2,u64 a),(8,u64 (UInt64.ofInt b)),(9,u64 yn1_2658),(10,u64 yn0_2660),(11,u64 un32_2662),(13,u64 un1_2666),(14,u64 un0_2668),(15,u64 v.1),(16,u64 v.2)],[]⟩:St)) (ws []) ?_;rintro⟨q1_2701,i⟩ aq af j k;show Et yn1_2658 yn0_2660 un1_2666 q1_2701 i=some af→_;unfold Et;refine Sq ?_;refine Tw [2,8,9,10,11,13,14,15,16,78] (fun l=>⟨Ar 135 [(2,u64 a),(8,u64 (UInt64.ofInt b)),(9,u64 yn1_2658),(10,u64 yn0_2660),(11,u64 un32_2662),(13,u64 un1_2666),(14,u64 un0_2668),(15,u64 q1_2701),(16,u64 i),(78,.bool l)],[]⟩) ?_ ?_
     ·intro _;refine Sp (fun c=>?_) fun c=>?_
      ·exact Lf Ac (Ew1 c) (ws [])
      ·exact Lf Ac (Ew1 c) (ws [])
     intro l;refine Cd ?_ ?_
     ·refine Sk <|Tn <|Sb <|T0 [2,8,9,10,11,13,14,15,16] ?_
      refine T0 [2,8,9,10,11,13,14,15,16] ?_;refine T0 [2,8,9,10,11,13,14,15,16,85] ?_;refine Cd ?_ ?_
      ·refine Sx <|Bo <|Ly k j <|Bx <|?_
       exact Jm ((ws (l':=[(2,u64 a),(8,u64 (UInt64.ofInt b)),(9,u64 yn1_2658),(10,u64 yn0_2660),(11,u64 un32_2662),(13,u64 un1_2666),(14,u64 un0_2668),(15,u64 (q1_2701-(1:UInt64)))]) (σ':=[]) []).trans (ws []))
      ·exact Sk <|Bn <|Ln (ws [])
     ·refine Sx <|Tx <|Ly k j <|Bx <|?_
      exact Jm ((ws (l':=[(2,u64 a),(8,u64 (UInt64.ofInt b)),(9,u64 yn1_2658),(10,u64 yn0_2660),(11,u64 un32_2662),(13,u64 un1_2666),(14,u64 un0_2668),(15,u64 q1_2701)]) (σ':=[]) []).trans (ws []))
    intro q1_2692;refine Lt fun un21_2715 ag =>Te (fr':=[(2,_),(8,_),(9,_),(10,_),(14,_),(15,_),(17,u64 un21_2715)]) [2,8,9,10,14,15,17] Ac (Ew1 ag) ?_
    refine Ck fun ah =>Te [2,8,9,10,14,15,17,18] Ac (Ew1 ah) ?_
    refine Lt fun ai aj =>Te (fr':=[(2,_),(8,_),(9,_),(10,_),(14,_),(15,_),(16,u64 ai),(17,_),(18,_)]) [2,8,9,10,14,15,16,17,18] Ac (Ew1 aj) ?_
    refine Ja (fun q0_2739=>⟨Ar 135 [(2,u64 a),(8,u64 (UInt64.ofInt b)),(14,u64 un0_2668),(15,u64 q1_2692),(17,u64 un21_2715),(18,u64 q0_2739)],[]⟩) ?_ ?_
    ·intro ar;refine Sb ?_;refine Lo (fun(v:UInt64×UInt64)=>(⟨Ar 135 [(2,u64 a),(8,u64 (UInt64.ofInt b)),(9,u64 yn1_2658),(10,u64 yn0_2660),(14,u64 un0_2668),(15,u64 q1_2692),(16,u64 v.1),(17,u64 un21_2715),(18,u64 v.2)],[]⟩:St)) (ws []) ?_;rintro⟨m,q0_2749⟩ au ak n o;show Eg yn1_2658 yn0_2660 un0_2668 m q0_2749=some ak→_;unfold Eg;refine Sq ?_;refine Tw [2,8,9,10,14,15,16,17,18,113] (fun p=>⟨Ar 135 [(2,u64 a),(8,u64 (UInt64.ofInt b)),(9,u64 yn1_2658),(10,u64 yn0_2660),(14,u64 un0_2668),(15,u64 q1_2692),(16,u64 m),(17,u64 un21_2715),(18,u64 q0_2749),(113,.bool p)],[]⟩) ?_ ?_
     ·intro _;refine Sp (fun d=>?_) fun d=>?_
      ·exact Lf Ac (Ew1 d) (ws [])
      ·exact Lf Ac (Ew1 d) (ws [])
     intro p;refine Cd ?_ ?_
     ·refine Sk <|Tn <|Sb <|T0 [2,8,9,10,14,15,16,17,18] ?_
      refine T0 [2,8,9,10,14,15,16,17,18] ?_;refine T0 [2,8,9,10,14,15,16,17,18,120] ?_;refine Cd ?_ ?_
      ·refine Sx <|Bo <|Ly o n <|Bx <|?_
       exact Jm ((ws (l':=[(2,u64 a),(8,u64 (UInt64.ofInt b)),(14,u64 un0_2668),(15,u64 q1_2692),(17,u64 un21_2715),(18,u64 (q0_2749-(1:UInt64)))]) (σ':=[]) []).trans (ws []))
      ·exact Sk <|Bn <|Ln (ws [])
     ·refine Sx <|Tx <|Ly o n <|Bx <|?_
      exact Jm ((ws (l':=[(2,u64 a),(8,u64 (UInt64.ofInt b)),(14,u64 un0_2668),(15,u64 q1_2692),(17,u64 un21_2715),(18,u64 q0_2749)]) (σ':=[]) []).trans (ws []))
    intro q0_2739;refine Lt fun al am =>Lt fun an ao =>Te (fr':=[(6,u64 al),(7,u64 an)]) [6,7] Ac (Ew2 am ao) ?_
    exact Sr <|Rr
theorem En{a b c r}(h:CJ a b c=some r):Con B 82 [u64 a,u64 b,.ref 0 0] [.box [u64 c] false] (fun r' σ'=>r'=u64 r.1∧σ'=[.box [u64 r.2] false]):=by
 refine Co 1 28 [.tmp 5] Tryz.func82 (fun F hE=>?_) h;unfold CJ;refine T0 [0,1,2] ?_;refine Ck fun d =>Ck fun e =>Bd fun i f =>De [[],[],[0,1],[],[],[3,4],[0,1,2,3,4,5],[0,1,2,3,4,5,6],[0,1,2,3,4,5,6,7],[0,1,2,3,4,5,6,7],[0,1,2,3,4,5,6,7,8],[0,1,2,3,4,5,6,7,8,9,10]] [2,6,7] (o1 17 (PS f)) (Ew2 d e) ?_
 refine Bd fun j g =>Te [9] (o1 24 (PW g)) Ev ?_
 refine T0 [5] ?_;exact Sr <|Ro [0]
theorem G4{a r}(h:E9 a=some r):Con B 48 [u64 a] [] (fun r' σ'=>r'=.fn 82 [.ref 0 0]∧σ'=[.box [u64 r] false]):=by
 refine Co 0 4 [.tmp 2] Tryz.func48 (fun F hE=>?_) h;unfold E9;refine T0 [1] ?_;refine T0 [2] ?_;exact Sr <|Ro [0]
theorem FO{a c r}(h:F8 a c=some r):Con B 49 [u64 a,u64 c] [] (fun r' σ'=>r'=u64 r∧σ'=[]):=by
 refine Cw 33 [.tmp 4] Tryz.func49 (fun F hE=>?_) h;unfold F8;refine T0 [0,1] ?_;refine Bd fun y j =>Te [0,1,5] (As (l:=[]) (m:=[(8,48,[u64 (2305843009213690799:UInt64)],[],_,_)]) trivial ⟨(wc (G4 j) []),trivial⟩) Ev ?_
 refine T0 [0,1,5,6] ?_;refine Ja (fun g=>⟨Ar 33 [(6,u64 g)],[]⟩) ?_ ?_
 ·intro z;refine Bd fun f k =>Te [0,1,5,6,10,11] (o1 10 (He k)) Ev ?_
  refine Sb ?_;refine Lo (fun⟨b,d,e⟩=>⟨Ar 33 [(0,u64 a),(1,u64 c),(5,.fn 82 [.ref 0 0]),(6,u64 b),(10,i64 f),(11,i64 d)],[.box [u64 e] false]⟩) (ws [0]) ?_;rintro⟨b,d,e⟩ aa n o p;show E6 a c f b d e=some n→_;unfold E6;refine T0 [0,1,5,6,10,11,12] ?_;refine Sq <|Cd ?_ ?_
  ·refine Sk <|Tn <|?_
   refine Ja (fun(v:UInt64×UInt64)=>(⟨Ar 33 [(0,u64 a),(1,u64 c),(5,.fn 82 [.ref 0 0]),(6,u64 v.1),(10,i64 f),(11,i64 d)],[.box [u64 v.2] false]⟩:St)) ?_ ?_
   ·intro ab;refine Sb <|T0 [0,1,5,6,7,10,11] ?_
    refine Bd fun i q =>Te [0,1,5,6,7,10,11] (As (l:=[]) (m:=[(17,82,[u64 b,u64 b,.ref 0 0],[.box [u64 e] false],_,_)]) trivial ⟨(wc (En q) [0]),trivial⟩) Ev ?_
    refine Bd fun ac s =>Ck fun t =>Lt fun u w =>Te (fr':=[(0,_),(1,_),(5,_),(6,_),(10,_),(11,_),(26,.bool u)]) [0,1,5,6,10,11,26] (o1 20 (He s)) (Ew2 t w) ?_
    refine Cd ?_ ?_
    ·refine Bd fun ad x =>Fe [0,1,5,6,10,11] (As (l:=[]) (m:=[(30,82,[u64 i.1,u64 a,.ref 0 0],[.box [u64 i.2] false],_,_)]) trivial ⟨(wc (En x) [0]),trivial⟩) Ev ?_
     exact Bn <|Jm (ws [0])
    ·exact Sk <|Bn <|Jm (ws [0])
   rintro⟨ae,af⟩;refine F0 [0,1,5,6,10,11] ?_;exact Ln (ws [0])
  ·refine Sx <|Tx <|Ly p o <|Bx <|?_
   exact Jm ((ws (l':=[(6,u64 b)]) (σ':=[]) []).trans (ws []))
 intro g;refine T0 [4] ?_;exact Sr <|Rr
theorem Jp{c r}(h:F4 c=some r):Con B 47 [u64 c] [] (fun r' σ'=>r'=.bool r∧σ'=[]):=by
 refine Cw 14 [.tmp 2] Tryz.func47 (fun F hE=>?_) h;unfold F4;refine T0 [0] ?_;refine Tw [2] (fun d=>⟨Ar 14 [(2,.bool d)],[]⟩) ?_ ?_
 ·intro _;refine Sp (fun a=>?_) fun a=>?_
  ·refine Sp (fun b=>?_) fun b=>?_
   ·refine Bd fun f e=>?_
    exact Lf (o1 11 (FO e)) (Ew2 a b) (ws [])
   ·exact Lf Ac (Ew2 a b) (ws [])
  ·exact Lf Ac (Ew1 a) (ws [])
 intro d;exact Sr <|Rr
theorem Iw{a r}(h:HX a=some r):Con B 58 [u64 a] [] (fun r' σ'=>r'=.tup [u64 r.1,i64 r.2]∧σ'=[]):=by
 refine Cw 12 [.tmp 2,.tmp 3] Tryz.func58 (fun F hE=>?_) h;unfold HX;refine T0 [0] ?_;refine Sq ?_;refine Tw [0,9] (fun c=>⟨Ar 12 [(0,u64 a),(9,.bool c)],[]⟩) ?_ ?_
 ·intro _;refine Sp (fun b=>?_) fun b=>?_
  ·exact Lf Ac (Ew1 b) (ws [])
  ·exact Lf Ac (Ew1 b) (ws [])
 intro c;refine Cd ?_ ?_
 ·refine T0 [2,3] ?_;exact Sr <|Tr <|Rr
 ·refine Sk <|Tn <|Bd fun e d =>Te [2,3] (o1 11 (FO d)) Ev ?_
  exact Sr <|Rr
theorem Jk{a b r}(h:Gl a b=some r):Con B 26 [.agg [.sl false (L (cSl Ak) a.Zy1),.sl false (L An a.Zz1)],i64 b] [] (fun r' σ'=>r'=.sl false (L Ak r)∧σ'=[]):=by
 refine Cw 15 [.tmp 4] Tryz.func26 (fun F hE=>?_) h;unfold Gl;refine T0 [1,2] ?_;refine Sq <|T0 [1,2,9] ?_
 refine Cd ?_ ?_
 ·refine T0 [4] ?_;exact Sr <|Tr <|Rr
 ·refine Sk <|Tn <|Ck fun c =>Te [4] Ac (Ew1 (qR c)) ?_
  exact Sr <|Rr
theorem FS{a r}(h:FB a=some r):Con B 80 [i64 a] [] (fun r' σ'=>r'=.agg [i64 r.Za,i64 r.N,.sl false (L cU8 r.B),.sl false (L cApi_Value r.L)]∧σ'=[]):=by
 refine Cw 5 [.cell 2 105] Tryz.func80 (fun F hE=>?_) h;unfold FB;refine T0 [0,2] ?_;refine T0 [2] ?_;exact Sr <|Rr
theorem Ju{a r}(h:Jc a=some r):Con B 81 [.sl false (L cU8 a)] [] (fun r' σ'=>r'=.agg [i64 r.Za,i64 r.N,.sl false (L cU8 r.B),.sl false (L cApi_Value r.L)]∧σ'=[]):=by
 refine Cw 5 [.cell 2 105] Tryz.func81 (fun F hE=>?_) h;unfold Jc;refine T0 [0,2] ?_;refine T0 [2] ?_;exact Sr <|Rr
theorem A8{a r}(h:AR a=some r):Con B 106 [i64 a] [] (fun r' σ'=>r'=.agg [i64 r.Za,i64 r.N,.sl false (L cU8 r.B),.sl false (L cApi_Value r.L)]∧σ'=[]):=by
 refine Cw 5 [.cell 2 105] Tryz.func106 (fun F hE=>?_) h;unfold AR;refine T0 [0,2] ?_;refine T0 [2] ?_;exact Sr <|Rr
theorem Lg{r}(h:edi_list_cnil  = some r):Con B 107 [.sl true (L cApi_Value ([]))] [] (fun r' σ'=>r'=.agg [i64 r.Za,i64 r.N,.sl true (L cU8 ([])),.sl true (L cApi_Value ([]))]∧σ'=[]):=by
 refine Co 0 5 [.cell 2 105] Tryz.func107 (fun F hE=>?_) h;unfold edi_list_cnil;refine T0 [0,2] ?_;refine T0 [2] ?_;exact Sr <|Ro []
theorem Ma{a r}(h:GN a=some r):Con B 107 [.bs false 0 (a.length) 0 (a.length)] [.buf 4 (L cApi_Value a) false] (fun r' σ'=>r'=.agg [i64 r.Za,i64 r.N,.sl true (L cU8 ([])),.bs false 0 (r.L.length) 0 (r.L.length)]∧σ'=[.buf 4 (L cApi_Value r.L) false]):=by
 refine Co 1 5 [.cell 2 105] Tryz.func107 (fun F hE=>?_) h;unfold GN;refine T0 [0,2] ?_;refine T0 [2] ?_;exact Sr <|Ro [0]
theorem Hy{a r}(h:Ek a=some r):Con B 107 [.sl false (L cApi_Value a)] [] (fun r' σ'=>r'=.agg [i64 r.Za,i64 r.N,.sl true (L cU8 ([])),.sl false (L cApi_Value r.L)]∧σ'=[]):=by
 refine Co 0 5 [.cell 2 105] Tryz.func107 (fun F hE=>?_) h;unfold Ek;refine T0 [0,2] ?_;refine T0 [2] ?_;exact Sr <|Ro []
theorem Ty{a r}(h:Mi a=some r):Con B 108 [.str a] [] (fun r' σ'=>r'=.agg [i64 r.Za,i64 r.N,.sl false (L cU8 r.B),.sl false (L cApi_Value r.L)]∧σ'=[]):=by
 refine Cw 6 [.cell 2 105] Tryz.func108 (fun F hE=>?_) h;unfold Mi;refine T0 [0,2] ?_;refine T0 [2] ?_;exact Sr <|Rr
theorem HT{a r}(h:G2 a=some r):Con B 65 [.agg [i64 a.Za,i64 a.Ref.Zb,i64 a.Ref.No,i64 a.Zn1,i64 a.Zb1,i64 a.Zc,i64 a.Zo1,i64 a.Zw,i64 a.To,i64 a.Code,i64 a.Zp1,i64 a.Zq1,i64 a.Zr1,i64 a.Zs1,.str a.Zt1,.sl false (L Aj a.Zu1)]] [] (fun r' σ'=>r'=.agg [i64 r.Za,i64 r.N,.sl false (L cU8 r.B),.sl false (L cApi_Value r.L)]∧σ'=[]):=by
 refine Cw 70 [.cell 2 105] Tryz.func65 (fun F hE=>?_) h;unfold G2;refine T0 [1,2] ?_;refine Bd fun bE au =>Bd fun av aw =>Bd fun ax ay =>Bd fun bF az =>Lt fun f aA =>De (fr':=[(1,_),(2,_),(3,.bs true 2 (f.length) 0 (f.length))]) (σ':=[_,_,.buf 4 (L cApi_Value f) false]) [[],[0],[0,1],[],[3],[3,4],[0,1,2,3,4,5],[],[7],[7,8],[0,1,2,3,4,5,6,7,8,9],[0,1,2,3,4,5,6,7,8,9,10],[0,1,2,3,4,5,6,7,8,9,10,11],[0,1,2,3,4,5,6,7,8,9,10,11,12],[0,1,2,3,4,5,6,7,8,9,10,11,12,13]] [1,2,3] (As (l:=[(12,_,_,_),(16,_,_,_),(20,_,_,_)]) (m:=[(22,107,[.sl false (L cApi_Value ([av,ax]:List ApN))],[.box [i64 a.Za,i64 a.Ref.Zb,i64 a.Ref.No,i64 a.Zn1,i64 a.Zb1,i64 a.Zc,i64 a.Zo1,i64 a.Zw,i64 a.To,i64 a.Code,i64 a.Zp1,i64 a.Zq1,i64 a.Zr1,i64 a.Zs1,.str a.Zt1,.sl false (L Aj a.Zu1)] false,.box [i64 0,i64 0,.sl true (L cU8 ([])),.sl true (L cApi_Value ([]))] false],_,_)]) ⟨A8  au,A8  aw,A8  ay,trivial⟩ ⟨(wc (Hy az) []),trivial⟩) (Ew1 aA) ?_
 refine Ja (fun b=>⟨Ar 70 [(1,.ref 0 0),(2,.ref 1 0),(3,.bs false 2 (b.length) 0 (b.length))],[.box [i64 a.Za,i64 a.Ref.Zb,i64 a.Ref.No,i64 a.Zn1,i64 a.Zb1,i64 a.Zc,i64 a.Zo1,i64 a.Zw,i64 a.To,i64 a.Code,i64 a.Zp1,i64 a.Zq1,i64 a.Zr1,i64 a.Zs1,.str a.Zt1,.sl false (L Aj a.Zu1)] false,.box [i64 0,i64 0,.sl true (L cU8 ([])),.sl true (L cApi_Value ([]))] false,.buf 4 (L cApi_Value b) false]⟩) ?_ ?_
 ·intro bG;refine Te [1,2,3,24,25] (As (l:=[]) (m:=[(24,92,[.ref 0 0],[.box [i64 a.Za,i64 a.Ref.Zb,i64 a.Ref.No,i64 a.Zn1,i64 a.Zb1,i64 a.Zc,i64 a.Zo1,i64 a.Zw,i64 a.To,i64 a.Code,i64 a.Zp1,i64 a.Zq1,i64 a.Zr1,i64 a.Zs1,.str a.Zt1,.sl false (L Aj a.Zu1)] false,.box [i64 0,i64 0,.sl true (L cU8 ([])),.sl true (L cApi_Value ([]))] false,.buf 4 (L cApi_Value f) false],.agg [.ref 0 3,.ref 0 4,.ref 0 5,.ref 0 6,.ref 0 7,.ref 0 8,.ref 0 9,.ref 0 10,.ref 0 11,.ref 0 12,.ref 0 13],[.box [i64 a.Za,i64 a.Ref.Zb,i64 a.Ref.No,i64 a.Zn1,i64 a.Zb1,i64 a.Zc,i64 a.Zo1,i64 a.Zw,i64 a.To,i64 a.Code,i64 a.Zp1,i64 a.Zq1,i64 a.Zr1,i64 a.Zs1,.str a.Zt1,.sl false (L Aj a.Zu1)] false,.box [i64 0,i64 0,.sl true (L cU8 ([])),.sl true (L cApi_Value ([]))] false,.buf 4 (L cApi_Value f) false])]) trivial ⟨LR,trivial⟩) Ev ?_;refine Sb ?_;refine Ul 17 ?_;refine Ug (m:=16) ?_;refine T0 [1,2,3,24,25,26] ?_;refine Sq <|Ct <|Sk <|Tn <|Sq <|Sb <|?_
  have ad:InR 0 11:=by decide
  refine Te [1,2,3,5,24,25] Ac (Ev (by simp only[go_sem,ad,ad.2];exact AY)) ?_;refine Bd fun bH aB =>Ck fun aC =>Lt fun k aD =>Fe (fr':=[(1,_),(2,_),(3,.bs false 2 (k.length) 0 (k.length)),(24,_),(25,_)]) (σ':=[_,_,.buf 4 (L cApi_Value k) false,_]) [1,2,3,24,25] (o1 32 (A8 aB)) (Ew2 aC aD) ?_
  refine Bn <|Tn <|?_
  have aE:w64 1=1:=by decide
  refine Fe [1,2,3,24,25] Ac (Ew1 aE) ?_;refine Un ?_;refine Ug (m:=15) ?_;refine T0 [1,2,3,24,25,26] ?_;refine Sq <|Ct <|Sk <|Tn <|Sq <|Sb <|?_
  have ae:InR 1 11:=by decide
  refine Te [1,2,3,5,24,25] Ac (Ev (by simp only[go_sem,ae,ae.2];exact AY)) ?_;refine Bd fun bI aF =>Ck fun aG =>Lt fun n aH =>Fe (fr':=[(1,_),(2,_),(3,.bs false 2 (n.length) 0 (n.length)),(24,_),(25,_)]) (σ':=[_,_,.buf 4 (L cApi_Value n) false,_,_]) [1,2,3,24,25] (o1 32 (A8 aF)) (Ew2 aG aH) ?_
  refine Bn <|Tn <|?_
  have aI:w64 2=2:=by decide
  refine Fe [1,2,3,24,25] Ac (Ew1 aI) ?_;refine Un ?_;refine Ug (m:=14) ?_;refine T0 [1,2,3,24,25,26] ?_;refine Sq <|Ct <|Sk <|Tn <|Sq <|Sb <|?_
  have af:InR 2 11:=by decide
  refine Te [1,2,3,5,24,25] Ac (Ev (by simp only[go_sem,af,af.2];exact AY)) ?_;refine Bd fun bJ aJ =>Ck fun aK =>Lt fun o aL =>Fe (fr':=[(1,_),(2,_),(3,.bs false 2 (o.length) 0 (o.length)),(24,_),(25,_)]) (σ':=[_,_,.buf 4 (L cApi_Value o) false,_,_,_]) [1,2,3,24,25] (o1 32 (A8 aJ)) (Ew2 aK aL) ?_
  refine Bn <|Tn <|?_
  have aM:w64 3=3:=by decide
  refine Fe [1,2,3,24,25] Ac (Ew1 aM) ?_;refine Un ?_;refine Ug (m:=13) ?_;refine T0 [1,2,3,24,25,26] ?_;refine Sq <|Ct <|Sk <|Tn <|Sq <|Sb <|?_
  have ag:InR 3 11:=by decide
  refine Te [1,2,3,5,24,25] Ac (Ev (by simp only[go_sem,ag,ag.2];exact AY)) ?_;refine Bd fun bK aN =>Ck fun aO =>Lt fun p aP =>Fe (fr':=[(1,_),(2,_),(3,.bs false 2 (p.length) 0 (p.length)),(24,_),(25,_)]) (σ':=[_,_,.buf 4 (L cApi_Value p) false,_,_,_,_]) [1,2,3,24,25] (o1 32 (A8 aN)) (Ew2 aO aP) ?_
  refine Bn <|Tn <|?_
  have aQ:w64 4=4:=by decide
  refine Fe [1,2,3,24,25] Ac (Ew1 aQ) ?_;refine Un ?_;refine Ug (m:=12) ?_;refine T0 [1,2,3,24,25,26] ?_;refine Sq <|Ct <|Sk <|Tn <|Sq <|Sb <|?_
  have ah:InR 4 11:=by decide
  refine Te [1,2,3,5,24,25] Ac (Ev (by simp only[go_sem,ah,ah.2];exact AY)) ?_;refine Bd fun bL aR =>Ck fun aS =>Lt fun q aT =>Fe (fr':=[(1,_),(2,_),(3,.bs false 2 (q.length) 0 (q.length)),(24,_),(25,_)]) (σ':=[_,_,.buf 4 (L cApi_Value q) false,_,_,_,_,_]) [1,2,3,24,25] (o1 32 (A8 aR)) (Ew2 aS aT) ?_
  refine Bn <|Tn <|?_
  have aU:w64 5=5:=by decide
  refine Fe [1,2,3,24,25] Ac (Ew1 aU) ?_;refine Un ?_;refine Ug (m:=11) ?_;refine T0 [1,2,3,24,25,26] ?_;refine Sq <|Ct <|Sk <|Tn <|Sq <|Sb <|?_
  have ai:InR 5 11:=by decide
  refine Te [1,2,3,5,24,25] Ac (Ev (by simp only[go_sem,ai,ai.2];exact AY)) ?_;refine Bd fun bM aV =>Ck fun aW =>Lt fun s aX =>Fe (fr':=[(1,_),(2,_),(3,.bs false 2 (s.length) 0 (s.length)),(24,_),(25,_)]) (σ':=[_,_,.buf 4 (L cApi_Value s) false,_,_,_,_,_,_]) [1,2,3,24,25] (o1 32 (A8 aV)) (Ew2 aW aX) ?_
  refine Bn <|Tn <|?_
  have aY:w64 6=6:=by decide
  refine Fe [1,2,3,24,25] Ac (Ew1 aY) ?_;refine Un ?_;refine Ug (m:=10) ?_;refine T0 [1,2,3,24,25,26] ?_;refine Sq <|Ct <|Sk <|Tn <|Sq <|Sb <|?_
  have aj:InR 6 11:=by decide
  refine Te [1,2,3,5,24,25] Ac (Ev (by simp only[go_sem,aj,aj.2];exact AY)) ?_;refine Bd fun bN aZ =>Ck fun a0 =>Lt fun t a1 =>Fe (fr':=[(1,_),(2,_),(3,.bs false 2 (t.length) 0 (t.length)),(24,_),(25,_)]) (σ':=[_,_,.buf 4 (L cApi_Value t) false,_,_,_,_,_,_,_]) [1,2,3,24,25] (o1 32 (A8 aZ)) (Ew2 a0 a1) ?_
  refine Bn <|Tn <|?_
  have a2:w64 7=7:=by decide
  refine Fe [1,2,3,24,25] Ac (Ew1 a2) ?_;refine Un ?_;refine Ug (m:=9) ?_;refine T0 [1,2,3,24,25,26] ?_;refine Sq <|Ct <|Sk <|Tn <|Sq <|Sb <|?_
  have ak:InR 7 11:=by decide
  refine Te [1,2,3,5,24,25] Ac (Ev (by simp only[go_sem,ak,ak.2];exact AY)) ?_;refine Bd fun bO a3 =>Ck fun a4 =>Lt fun u a5 =>Fe (fr':=[(1,_),(2,_),(3,.bs false 2 (u.length) 0 (u.length)),(24,_),(25,_)]) (σ':=[_,_,.buf 4 (L cApi_Value u) false,_,_,_,_,_,_,_,_]) [1,2,3,24,25] (o1 32 (A8 a3)) (Ew2 a4 a5) ?_
  refine Bn <|Tn <|?_
  have a6:w64 8=8:=by decide
  refine Fe [1,2,3,24,25] Ac (Ew1 a6) ?_;refine Un ?_;refine Ug (m:=8) ?_;refine T0 [1,2,3,24,25,26] ?_;refine Sq <|Ct <|Sk <|Tn <|Sq <|Sb <|?_
  have al:InR 8 11:=by decide
  refine Te [1,2,3,5,24,25] Ac (Ev (by simp only[go_sem,al,al.2];exact AY)) ?_;refine Bd fun bP a7 =>Ck fun a8 =>Lt fun w a9 =>Fe (fr':=[(1,_),(2,_),(3,.bs false 2 (w.length) 0 (w.length)),(24,_),(25,_)]) (σ':=[_,_,.buf 4 (L cApi_Value w) false,_,_,_,_,_,_,_,_,_]) [1,2,3,24,25] (o1 32 (A8 a7)) (Ew2 a8 a9) ?_
  refine Bn <|Tn <|?_
  have ba:w64 9=9:=by decide
  refine Fe [1,2,3,24,25] Ac (Ew1 ba) ?_;refine Un ?_;refine Ug (m:=7) ?_;refine T0 [1,2,3,24,25,26] ?_;refine Sq <|Ct <|Sk <|Tn <|Sq <|Sb <|?_
  have am:InR 9 11:=by decide
  refine Te [1,2,3,5,24,25] Ac (Ev (by simp only[go_sem,am,am.2];exact AY)) ?_;refine Bd fun bQ bb =>Ck fun bc =>Lt fun x bd =>Fe (fr':=[(1,_),(2,_),(3,.bs false 2 (x.length) 0 (x.length)),(24,_),(25,_)]) (σ':=[_,_,.buf 4 (L cApi_Value x) false,_,_,_,_,_,_,_,_,_,_]) [1,2,3,24,25] (o1 32 (A8 bb)) (Ew2 bc bd) ?_
  refine Bn <|Tn <|?_
  have be:w64 10=10:=by decide
  refine Fe [1,2,3,24,25] Ac (Ew1 be) ?_;refine Un ?_;refine Ug (m:=6) ?_;refine T0 [1,2,3,24,25,26] ?_;refine Sq <|Ct <|Sk <|Tn <|Sq <|Sb <|?_
  have an:InR 10 11:=by decide
  refine Te [1,2,3,5,24,25] Ac (Ev (by simp only[go_sem,an,an.2];exact AY)) ?_;refine Bd fun bR bf =>Ck fun bg =>Lt fun y bh =>Fe (fr':=[(1,_),(2,_),(3,.bs false 2 (y.length) 0 (y.length)),(24,_),(25,_)]) (σ':=[_,_,.buf 4 (L cApi_Value y) false,_,_,_,_,_,_,_,_,_,_,_]) [1,2,3,24,25] (o1 32 (A8 bf)) (Ew2 bg bh) ?_
  refine Bn <|Tn <|?_
  have bi:w64 11=11:=by decide
  refine Fe [1,2,3,24,25] Ac (Ew1 bi) ?_;refine Un ?_;refine Ug (m:=5) ?_;refine T0 [1,2,3,24,25,26] ?_;exact Sq <|Cf <|Sx <|Tx <|Ux <|Bx <|Jm (ws [0,1,2])
 intro b;refine Bd fun c bj =>Te [1,2,3,6] (As (l:=[]) (m:=[(36,107,[.sl true (L cApi_Value ([]))],[.box [i64 a.Za,i64 a.Ref.Zb,i64 a.Ref.No,i64 a.Zn1,i64 a.Zb1,i64 a.Zc,i64 a.Zo1,i64 a.Zw,i64 a.To,i64 a.Code,i64 a.Zp1,i64 a.Zq1,i64 a.Zr1,i64 a.Zs1,.str a.Zt1,.sl false (L Aj a.Zu1)] false,.box [i64 0,i64 0,.sl true (L cU8 ([])),.sl true (L cApi_Value ([]))] false,.buf 4 (L cApi_Value b) false],_,_)]) trivial ⟨(wc (Lg bj) []),trivial⟩) Ev ?_
 refine Ja (fun e=>⟨Ar 70 [(1,.ref 0 0),(2,.ref 1 0),(3,.bs false 2 (b.length) 0 (b.length)),(6,.ref 3 0)],[.box [i64 a.Za,i64 a.Ref.Zb,i64 a.Ref.No,i64 a.Zn1,i64 a.Zb1,i64 a.Zc,i64 a.Zo1,i64 a.Zw,i64 a.To,i64 a.Code,i64 a.Zp1,i64 a.Zq1,i64 a.Zr1,i64 a.Zs1,.str a.Zt1,.sl false (L Aj a.Zu1)] false,.box [i64 0,i64 0,.sl true (L cU8 ([])),.sl true (L cApi_Value ([]))] false,.buf 4 (L cApi_Value b) false,.box [i64 c.Za,i64 c.N,.sl true (L cU8 ([])),.bs false 4 (e.length) 0 (e.length)] false,.buf 4 (L cApi_Value e) false]⟩) ?_ ?_
 ·intro bS;refine T0 [1,2,3,6,38,39,40] ?_;refine Sb ?_;refine Lo (fun(v:Int×List ApN)=>(⟨Ar 70 [(1,.ref 0 0),(2,.ref 1 0),(3,.bs false 2 (b.length) 0 (b.length)),(6,.ref 3 0),(38,.sl false (L Aj a.Zu1)),(39,i64 (a.Zu1.length:Int)),(40,i64 v.1)],[.box [i64 a.Za,i64 a.Ref.Zb,i64 a.Ref.No,i64 a.Zn1,i64 a.Zb1,i64 a.Zc,i64 a.Zo1,i64 a.Zw,i64 a.To,i64 a.Code,i64 a.Zp1,i64 a.Zq1,i64 a.Zr1,i64 a.Zs1,.str a.Zt1,.sl false (L Aj a.Zu1)] false,.box [i64 0,i64 0,.sl true (L cU8 ([])),.sl true (L cApi_Value ([]))] false,.buf 4 (L cApi_Value b) false,.box [i64 c.Za,i64 c.N,.sl true (L cU8 ([])),.bs false 4 (v.2.length) 0 (v.2.length)] false,.buf 4 (L cApi_Value v.2) false]⟩:St)) ((GR 3 3 4 rfl rfl).trans (ws [0,1,2,3,4])) ?_;rintro⟨z,d⟩ bT bk bl bm;show DN a z d=some bk→_;unfold DN;refine T0 [1,2,3,6,38,39,40,41] ?_;refine Sq <|Cd ?_ ?_
  ·refine Sk <|Tn <|Sq <|Sb <|Ck fun bn =>Lt fun g bo =>Lt fun i bp =>Lt fun j bq =>Te (σ':=[_,_,_,_,_,.box [i64 g,i64 i,.bool j] false]) [1,2,3,6,8,38,39,40] Ac (Ew4 (qR bn) bo bp bq) ?_
   refine T0 [1,2,3,6,8,9,38,39,40] ?_;refine Ja (fun ao=>⟨Ar 70 [(1,.ref 0 0),(2,.ref 1 0),(3,.bs false 2 (b.length) 0 (b.length)),(6,.ref 3 0),(8,.ref 4 0),(9,i64 ao),(38,.sl false (L Aj a.Zu1)),(39,i64 (a.Zu1.length:Int)),(40,i64 z)],[.box [i64 a.Za,i64 a.Ref.Zb,i64 a.Ref.No,i64 a.Zn1,i64 a.Zb1,i64 a.Zc,i64 a.Zo1,i64 a.Zw,i64 a.To,i64 a.Code,i64 a.Zp1,i64 a.Zq1,i64 a.Zr1,i64 a.Zs1,.str a.Zt1,.sl false (L Aj a.Zu1)] false,.box [i64 0,i64 0,.sl true (L cU8 ([])),.sl true (L cApi_Value ([]))] false,.buf 4 (L cApi_Value b) false,.box [i64 c.Za,i64 c.N,.sl true (L cU8 ([])),.bs false 5 (d.length) 0 (d.length)] false,.box [i64 g,i64 i,.bool j] false,.buf 4 (L cApi_Value d) false]⟩) ?_ ?_
   ·intro bU;refine T0 [1,2,3,6,8,9,38,39,40,45] ?_;refine Cd ?_ ?_
    ·refine F0 [1,2,3,6,8,9,38,39,40] ?_;exact Jm (ws [0,1,2,3,5,4])
    ·exact Sk <|Jm (ws [0,1,2,3,5,4])
   intro ao;refine Bd fun br bt =>Bd fun bu bv =>Bd fun bw bx =>Bd fun bV bz =>Ck fun ap =>Lt fun aa aq =>?_
   intro h;refine XS hE O2 [[],[0],[],[2],[2,3],[],[5],[2,3,4,5,6],[],[2,3,4,5,6,7,8],[2,3,4,5,6,7,8,9],[2,3,4,5,6,7,8,9,10],[2,3,4,5,6,7,8,9,10,11],[0,1,2,3,4,5,6,7,8,9,10,11,12],[0,1,2,3,4,5,6,7,8,9,10,11,12,13],[0,1,2,3,4,5,6,7,8,9,10,11,12,13,14]] (by kernel_rfl) 11 [0,1] [1,2,3,6,38,39,40,46] (by kernel_rfl) (JO JG) (fr':=[(1,.ref 0 0),(2,.ref 1 0),(3,.bs false 2 (b.length) 0 (b.length)),(6,.ref 3 0),(38,.sl false (L Aj a.Zu1)),(39,i64 (a.Zu1.length:Int)),(40,i64 z),(46,.ref 3 3)]) (σ':=[.box [i64 a.Za,i64 a.Ref.Zb,i64 a.Ref.No,i64 a.Zn1,i64 a.Zb1,i64 a.Zc,i64 a.Zo1,i64 a.Zw,i64 a.To,i64 a.Code,i64 a.Zp1,i64 a.Zq1,i64 a.Zr1,i64 a.Zs1,.str a.Zt1,.sl false (L Aj a.Zu1)] false,.box [i64 0,i64 0,.sl true (L cU8 ([])),.sl true (L cApi_Value ([]))] false,.buf 4 (L cApi_Value b) false,.box [i64 c.Za,i64 c.N,.sl true (L cU8 ([])),.bs false 5 (aa.length) 0 (aa.length)] false,.box [i64 g,i64 i,.bool j] false,.buf 4 (L cApi_Value aa) false]) ⟨_,_,_,_,_,_,_,rfl,?_,(As (l:=[(50,_,_,_),(53,_,_,_),(55,_,_,_)]) (m:=[(57,107,[.sl false (L cApi_Value ([br,bu,bw]:List ApN))],[.box [i64 a.Za,i64 a.Ref.Zb,i64 a.Ref.No,i64 a.Zn1,i64 a.Zb1,i64 a.Zc,i64 a.Zo1,i64 a.Zw,i64 a.To,i64 a.Code,i64 a.Zp1,i64 a.Zq1,i64 a.Zr1,i64 a.Zs1,.str a.Zt1,.sl false (L Aj a.Zu1)] false,.box [i64 0,i64 0,.sl true (L cU8 ([])),.sl true (L cApi_Value ([]))] false,.buf 4 (L cApi_Value b) false,.box [i64 c.Za,i64 c.N,.sl true (L cU8 ([])),.bs false 5 (d.length) 0 (d.length)] false,.box [i64 g,i64 i,.bool j] false,.buf 4 (L cApi_Value d) false],_,_)]) ⟨A8  bt,A8  bv,A8  bx,trivial⟩ ⟨(wc (Hy bz) []),trivial⟩),?_⟩ ?_
   ·subst aq;simp only[go_sem,ap]
   ·subst aq;simp only[go_sem,ap]
   revert h;refine Bn <|Tn <|F0 [1,2,3,6,38,39,40] ?_
   exact Ln (ws [0,1,2,3,5])
  ·refine Sx <|Tx <|Ly bm bl <|Bx <|?_
   exact Jm ((ws (l':=[(1,.ref 0 0),(2,.ref 1 0),(3,.bs false 2 (b.length) 0 (b.length)),(6,.ref 3 0)]) (σ':=[.box [i64 a.Za,i64 a.Ref.Zb,i64 a.Ref.No,i64 a.Zn1,i64 a.Zb1,i64 a.Zc,i64 a.Zo1,i64 a.Zw,i64 a.To,i64 a.Code,i64 a.Zp1,i64 a.Zq1,i64 a.Zr1,i64 a.Zs1,.str a.Zt1,.sl false (L Aj a.Zu1)] false,.box [i64 0,i64 0,.sl true (L cU8 ([])),.sl true (L cApi_Value ([]))] false,.buf 4 (L cApi_Value b) false,.box [i64 c.Za,i64 c.N,.sl true (L cU8 ([])),.bs false 4 (d.length) 0 (d.length)] false,.buf 4 (L cApi_Value d) false]) [0,1,2,3,4]).trans (ws [0,1,2,3,4]))
 intro e;refine Rw (I9 3 3 rfl rfl rfl gs gs) ?_;refine Bd fun ab bA =>Ck fun bB =>Bd fun ar bC =>Lt fun ac bD =>De (σ':=[_,.box [i64 ar.Za,i64 ar.N,.sl true (L cU8 ([])),.bs false 2 (ac.length) 0 (ac.length)] false,.buf 4 (L cApi_Value ac) false,_,_]) [[],[],[1],[1,2],[],[1,2,3,4],[0,1,2,3,4,5],[0,1,2,3,4,5,6],[0,1,2,3,4,5,6,7]] [2] (As (l:=[(65,_,_,_)]) (m:=[(69,107,[.bs false 2 ((b++([ab,(ApN.mk c.Za c.N ([]) e)]:List ApN)).length) 0 ((b++([ab,(ApN.mk c.Za c.N ([]) e)]:List ApN)).length)],[.box [i64 a.Za,i64 a.Ref.Zb,i64 a.Ref.No,i64 a.Zn1,i64 a.Zb1,i64 a.Zc,i64 a.Zo1,i64 a.Zw,i64 a.To,i64 a.Code,i64 a.Zp1,i64 a.Zq1,i64 a.Zr1,i64 a.Zs1,.str a.Zt1,.sl false (L Aj a.Zu1)] false,.box [i64 0,i64 0,.sl true (L cU8 ([])),.sl true (L cApi_Value ([]))] false,.buf 4 (L cApi_Value (b++([ab,(ApN.mk c.Za c.N ([]) e)]:List ApN))) false,.box [i64 c.Za,i64 c.N,.sl true (L cU8 ([])),.sl false (L cApi_Value e)] false,.buf 4 (L cApi_Value e) true],_,_)]) ⟨Ty  bA,trivial⟩ ⟨(wc (Ma bC) [2]),trivial⟩) (Ew2 bB bD) ?_
 exact Sr <|Rr
theorem Hi{a r}(h:Eo a=some r):Con B 46 [.agg (i64 a.Zb::i64 a.No::(C1 u8 a.Zv1.l++[i64 a.Zw1,i64 a.Zx1.Za,i64 a.Zx1.Ref.Zb,i64 a.Zx1.Ref.No,i64 a.Zx1.Zn1,i64 a.Zx1.Zb1,i64 a.Zx1.Zc,i64 a.Zx1.Zo1,i64 a.Zx1.Zw,i64 a.Zx1.To,i64 a.Zx1.Code,i64 a.Zx1.Zp1,i64 a.Zx1.Zq1,i64 a.Zx1.Zr1,i64 a.Zx1.Zs1,.str a.Zx1.Zt1,.sl false (L Aj a.Zx1.Zu1),u64 a.Sig.C,u64 a.Sig.S]))] [] (fun r' σ'=>r'=.bs false 0 (r.length) 0 (r.length)∧σ'=[.buf 4 (L cApi_Value r) false]):=by
 refine Co 0 19 [.tmp 2] Tryz.func46 (fun F hE=>?_) h;unfold Eo;refine T0 [1] ?_;refine Bd fun j c =>Bd fun k d =>Bd fun m e =>Bd fun n f =>Bd fun o g =>Lt fun b i =>De (fr':=[(2,.bs true 1 (b.length) 0 (b.length))]) (σ':=[_,.buf 4 (L cApi_Value b) false]) [[],[0],[0,1],[],[3],[0,1,2,3,4],[],[6],[0,1,2,3,4,5,6,7],[],[9],[0,1,2,3,4,5,6,7,8,9,10],[],[12],[0,1,2,3,4,5,6,7,8,9,10,11,12,13],[0,1,2,3,4,5,6,7,8,9,10,11,12,13,14],[0,1,2,3,4,5,6,7,8,9,10,11,12,13,14,15]] [2] (Cp (l:=[(5,_,_,_),(8,_,_,_),(11,_,_,_),(14,_,_,_),(17,_,_,_)]) ⟨FS  c,FS  d,Ju  e,FS  f,HT  g,trivial⟩) (Ew1 i) ?_
 exact Sr <|Ro [1]
theorem Kw{b r}(h:H6 b=some r):Con B 51 [u64 b] [] (fun r' σ'=>r'=.agg [i64 r.Za,i64 r.N,.sl false (L cU8 r.B),.sl false (L cApi_Value r.L)]∧σ'=[]):=by
 refine Cw 23 [.cell 2 105] Tryz.func51 (fun F hE=>?_) h;unfold H6;refine T0 [0,2] ?_;refine Ck fun f =>Lt fun a g =>Te (fr':=[(0,_),(2,_),(3,.bs true 1 (a.length) 0 (a.length))]) (σ':=[_,.buf 1 (L cU8 a) false]) [0,2,3] Ac (Ew2 f g) ?_
 refine Ja (fun c=>⟨Ar 23 [(2,.ref 0 0),(3,.bs true 1 (c.length) 0 (c.length))],[.box [i64 0,i64 0,.sl true (L cU8 ([])),.sl true (L cApi_Value ([]))] false,.buf 1 (L cU8 c) false]⟩) ?_ ?_
 ·intro q;refine T0 [0,2,3,7,8] ?_;refine Sb ?_;refine Lo (fun(v:Int×List UInt8)=>(⟨Ar 23 [(0,u64 b),(2,.ref 0 0),(3,.bs true 1 (v.2.length) 0 (v.2.length)),(7,i64 (a.length:Int)),(8,i64 v.1)],[.box [i64 0,i64 0,.sl true (L cU8 ([])),.sl true (L cApi_Value ([]))] false,.buf 1 (L cU8 v.2) false]⟩:St)) (ws [0,1]) ?_;rintro⟨i,d⟩ s j k l;show DO b a i d=some j→_;unfold DO;refine T0 [0,2,3,7,8,9] ?_;refine Sq <|Cd ?_ ?_
  ·refine Sk <|Tn <|Sq <|Sb <|T0 [0,2,3,4,7,8] ?_
   refine Ck fun m =>Ck fun n =>Lt fun e o =>Fe (fr':=[(0,_),(2,_),(3,.bs true 1 (e.length) 0 (e.length)),(7,_),(8,_)]) (σ':=[_,.buf 1 (L cU8 e) false]) [0,2,3,7,8] Ac (Ew3 m (qR n) o) ?_
   refine Bn <|Tn <|F0 [0,2,3,7,8] ?_
   exact Ln (ws [0,1])
  ·refine Sx <|Tx <|Ly l k <|Bx <|?_
   exact Jm ((ws (l':=[(2,.ref 0 0),(3,.bs true 1 (d.length) 0 (d.length))]) (σ':=[.box [i64 0,i64 0,.sl true (L cU8 ([])),.sl true (L cApi_Value ([]))] false,.buf 1 (L cU8 d) false]) [0,1]).trans (ws [0,1]))
 intro c;refine Bd fun t p =>Te [2] (o1 22 (Ju p)) Ev ?_
 exact Sr <|Rr
theorem HL{a r}(h:I5 a=some r):Con B 45 [.sl false (L cApi_Value a)] [] (fun r' σ'=>r'=.agg [i64 r.Za,i64 r.N,.sl false (L cU8 r.B),.sl false (L cApi_Value r.L)]∧σ'=[]):=by
 refine Cw 5 [.cell 2 105] Tryz.func45 (fun F hE=>?_) h;unfold I5;refine T0 [0,2] ?_;refine T0 [2] ?_;exact Sr <|Rr
theorem KI{rec_:ApN→Option (Int×Bool)}(hrec:∀{a:ApN} {r:Int×Bool},rec_ a=some r→Con B 78 [.agg [i64 a.Za,i64 a.N,.sl false (L cU8 a.B),.sl false (L cApi_Value a.L)]] [] (fun r' σ'=>r'=.tup [i64 r.1,.bool r.2]∧σ'=[])){a:ApN}{r:Int×Bool}(h:EV rec_ a=some r):Con B 78 [.agg [i64 a.Za,i64 a.N,.sl false (L cU8 a.B),.sl false (L cApi_Value a.L)]] [] (fun r' σ'=>r'=.tup [i64 r.1,.bool r.2]∧σ'=[]):=by
 refine Mv (N:=64) (rs:=[.tmp 2,.tmp 3]) ok Tryz.func78 rfl (by decide +kernel) rfl rfl (AqQ rfl) (fun F=>?_);have hE:=ok.env F;unfold EV at h;show Run (B.env F) 0 _ ⟨Ar 64 [(0,.agg [i64 a.Za,i64 a.N,.sl false (L cU8 a.B),.sl false (L cApi_Value a.L)])],[]⟩ _;refine GU ?_;revert h;refine T0 [1,2] ?_;refine Jo (fun _=>⟨Ar 64 [],[]⟩) ?_ ?_
 ·intro ac b;refine T0 [1,2,9] ?_;refine Sb <|T0 [1,2,9,10] ?_
  refine Cd ?_ ?_
  ·refine Dw [[],[0],[0,1],[0,1,2],[0,1,2,3],[0,1,2,3,4],[0,1,2,3,4,5],[0,1,2,3,4,5,6],[0,1,2,3,4,5,6,7],[0,1,2,3,4,5,6,7,8],[0,1,2,3,4],[0,1,2,3,4,5,6,7,8,9,10]] [2,3] (fun f=>⟨Ar 64 [(2,i64 0),(3,.bool f)],[]⟩) ?_ ?_
   ·intro _;refine Sp (fun c=>?_) fun c=>?_
    ·exact Lf Ac (Ew1 c) (ws [])
    ·exact Lf Ac (Ew1 c) (ws [])
   intro f;exact Sr <|Br <|Jr b <|Rr
  ·refine T0 [1,2,9,22] ?_;refine Cd ?_ ?_
   ·refine Dw [[],[0],[0,1],[0,1,2],[0,1,2,3],[0,1,2,3,4],[0,1,2,3,4,5],[0,1,2,3,4,5,6],[0,1,2,3,4,5,6,7],[0,1,2,3],[0,1,2,3,4,5,6,7,8,9]] [2,3] (fun g=>⟨Ar 64 [(2,i64 0),(3,.bool g)],[]⟩) ?_ ?_
    ·intro _;refine Sp (fun d=>?_) fun d=>?_
     ·exact Lf Ac (Ew1 d) (ws [])
     ·exact Lf Ac (Ew1 d) (ws [])
    intro g;exact Sr <|Br <|Jr b <|Rr
   ·refine T0 [1,2,33] ?_;refine Cd ?_ ?_
    ·refine Sq ?_;refine Tw [1,2,43] (fun i=>⟨Ar 64 [(1,.ref 0 0),(2,i64 0),(43,.bool i)],[.box [i64 a.Za,i64 a.N,.sl false (L cU8 a.B),.sl false (L cApi_Value a.L)] false]⟩) ?_ ?_
     ·intro _;refine Sp (fun e=>?_) fun e=>?_
      ·exact Lf Ac (Ew1 e) (ws [0])
      ·exact Lf Ac (Ew1 e) (ws [0])
     intro i;refine Cd ?_ ?_
     ·refine T0 [2,3] ?_;exact Sr <|Tr <|Br <|Jr b <|Rr
     ·refine Sk <|Tn <|?_
      refine Jo (fun j=>⟨Ar 64 [(2,i64 j)],[]⟩) ?_ ?_
      ·intro ad n;refine T0 [2,45,46,47] ?_;refine Sb ?_;refine Lo (fun(v:Int×Int)=>(⟨Ar 64 [(2,i64 v.1),(45,.sl false (L cApi_Value a.L)),(46,i64 (a.L.length:Int)),(47,i64 v.2)],[]⟩:St)) (ws []) ?_;rintro⟨k,o⟩ ae p l m;show Cg a rec_ k o=some p→_;unfold Cg;refine T0 [2,45,46,47,48] ?_;refine Sq <|Cd ?_ ?_
       ·refine Sk <|Tn <|Sq <|Sb <|Ck fun q =>Lt fun s t =>Lt fun u w =>Lt fun x y =>Lt fun z aa =>Te (σ':=[.box [i64 s,i64 u,.sl false (L cU8 x),.sl false (L cApi_Value z)] false]) [2,5,45,46,47] Ac (Ew5 (qR q) t w y aa) ?_
        refine Bd fun af ab =>Te [2,6,7,45,46,47] (o1 53 (hrec ab)) Ev ?_
        refine Sq <|T0 [2,6,45,46,47,57] ?_
        refine Cd ?_ ?_
        ·refine T0 [2,3] ?_;exact Sr <|Tr <|Br <|Tr <|Lr m l <|Br <|Jr n <|Br <|Jr b <|Rr
        ·refine Sk <|Tn <|F0 [2,45,46,47] ?_
         refine Bn <|Tn <|F0 [2,45,46,47] ?_
         exact Ln (ws [])
       ·refine Sx <|Tx <|Lx m l <|Bx <|?_
        exact Jn ((ws (l':=[(2,i64 k)]) (σ':=[]) []).trans (ws []))
      intro j;refine T0 [2,3] ?_;exact Sr <|Br <|Jr b <|Rr
    ·exact Sk <|Bn <|Jn (ws [])
 intro _;refine T0 [2,3] ?_;exact Sr <|Rr
theorem Ll(n:Nat):∀{a:ApN} {r:Int×Bool},Ej n a=some r→Con B 78 [.agg [i64 a.Za,i64 a.N,.sl false (L cU8 a.B),.sl false (L cApi_Value a.L)]] [] (fun r' σ'=>r'=.tup [i64 r.1,.bool r.2]∧σ'=[]):=by
 induction n with
 |zero=>intro a r h;cases h
 |succ n ih=>intro a r h;exact KI ih h
theorem M7{a:ApN}{r:Int×Bool}(h:JJ a=some r):Con B 78 [.agg [i64 a.Za,i64 a.N,.sl false (L cU8 a.B),.sl false (L cApi_Value a.L)]] [] (fun r' σ'=>r'=.tup [i64 r.1,.bool r.2]∧σ'=[]):=Ll _ h
theorem FK{a r}(h:Cb a=some r):Con B 147 [u64 a] [] (fun r' σ'=>r'=i64 r∧σ'=[]):=by
 refine Cw 10 [.tmp 2] Tryz.func147 (fun F hE=>?_) h;unfold Cb;refine T0 [0,2] ?_;refine Ja (fun b=>⟨Ar 10 [(2,i64 b)],[]⟩) ?_ ?_
 ·intro k;refine Sb ?_;refine Lo (fun(v:UInt64×Int)=>(⟨Ar 10 [(0,u64 v.1),(2,i64 v.2)],[]⟩:St)) (ws []) ?_;rintro⟨d,c⟩ l e f g;show Bm d c=some e→_;unfold Bm;refine Sq <|T0 [0,2,4] ?_
  refine Cd ?_ ?_
  ·refine Sk <|Tn <|Sq <|Sb <|F0 [0,2] ?_
   refine Bn <|Tn <|Lt fun i j =>Fe (fr':=[(0,u64 i),(2,_)]) [0,2] Ac (Ew1 j) ?_
   exact Ln (ws [])
  ·refine Sx <|Tx <|Ly g f <|Bx <|?_
   exact Jm ((ws (l':=[(2,i64 c)]) (σ':=[]) []).trans (ws []))
 intro b;refine T0 [2] ?_;exact Sr <|Rr
theorem J6{a b r}(h:DP a b=some r):Con B 123 [.bs false 0 (a.length) 0 (a.length),i64 b] [.buf 1 (L cU8 a) false] (fun r' σ'=>r'=.bs false 0 (r.length) 0 (r.length)∧σ'=[.buf 1 (L cU8 r) false]):=by
 refine Co 1 48 [.tmp 4] Tryz.func123 (fun F hE=>?_) h;unfold DP;refine T0 [0,1] ?_;refine T0 [0,1,5] ?_;refine Bd fun z i =>Te [0,1,5,6] (o1 12 (FK i)) Ev ?_
 refine Lt fun j k =>Te (fr':=[(0,_),(1,_),(5,_),(6,_),(7,u8 j)]) [0,1,5,6,7] Ac (Ew1 k) ?_
 refine Ja (fun(v:Int×UInt8)=>(⟨Ar 48 [(0,.bs false 0 (a.length) 0 (a.length)),(1,i64 b),(6,i64 v.1),(7,u8 v.2)],[.buf 1 (L cU8 a) false]⟩:St)) ?_ ?_
 ·intro aa;refine T0 [0,1,5,6,7,17] ?_;refine Cd ?_ ?_
  ·refine Bd fun ab l =>Te [0,1,6] (o1 22 (FK l)) Ev ?_
   refine Lt fun m n =>Fe (fr':=[(0,_),(1,_),(6,_),(7,u8 m)]) [0,1,6,7] Ac (Ew1 n) ?_
   exact Jm (ws [0])
  ·exact Sk <|Jm (ws [0])
 rintro⟨e,ac⟩;refine Ck fun o =>Lt fun f p =>Te (fr':=[(0,.bs false 0 (f.length) 0 (f.length)),(1,_),(6,_)]) (σ':=[.buf 1 (L cU8 f) false,_]) [0,1,6] Ac (Ew2 o p) ?_
 refine Ja (fun c=>⟨Ar 48 [(0,.bs false 0 (c.length) 0 (c.length))],[.buf 1 (L cU8 c) false]⟩) ?_ ?_
 ·intro ad;refine T0 [0,1,6,30,31] ?_;refine Sb ?_;refine Lo (fun(v:Int×List UInt8)=>(⟨Ar 48 [(0,.bs false 0 (v.2.length) 0 (v.2.length)),(1,i64 b),(6,i64 e),(30,i64 e),(31,i64 v.1)],[.buf 1 (L cU8 v.2) false]⟩:St)) (ws [0]) ?_;rintro⟨q,d⟩ ae s t u;show Bq b e q d=some s→_;unfold Bq;refine T0 [0,1,6,30,31,32] ?_;refine Sq <|Cd ?_ ?_
  ·refine Sk <|Tn <|Sq <|Sb <|T0 [0,1,6,8,30,31] ?_
   refine Ck fun w =>Ck fun x =>Lt fun g y =>Fe (fr':=[(0,.bs false 0 (g.length) 0 (g.length)),(1,_),(6,_),(30,_),(31,_)]) (σ':=[.buf 1 (L cU8 g) false,_]) [0,1,6,30,31] Ac (Ew3 w x y) ?_
   refine Bn <|Tn <|F0 [0,1,6,30,31] ?_
   exact Ln (ws [0])
  ·refine Sx <|Tx <|Ly u t <|Bx <|?_
   exact Jm ((ws (l':=[(0,.bs false 0 (d.length) 0 (d.length))]) (σ':=[.buf 1 (L cU8 d) false]) [0]).trans (ws [0]))
 intro c;refine T0 [4] ?_;exact Sr <|Ro [0]
theorem HQ{rec_:(List UInt8)→ApN→Option (List UInt8)}(hrec:∀{b:List UInt8} {a:ApN} {r:List UInt8},rec_ b a=some r→Con B 79 [.bs false 0 (b.length) 0 (b.length),.agg [i64 a.Za,i64 a.N,.sl false (L cU8 a.B),.sl false (L cApi_Value a.L)]] [.buf 1 (L cU8 b) false] (fun r' σ'=>r'=.bs false 0 (r.length) 0 (r.length)∧σ'=[.buf 1 (L cU8 r) false])){b:List UInt8}{a:ApN}{r:List UInt8}(h:CD rec_ b a=some r):Con B 79 [.bs false 0 (b.length) 0 (b.length),.agg [i64 a.Za,i64 a.N,.sl false (L cU8 a.B),.sl false (L cApi_Value a.L)]] [.buf 1 (L cU8 b) false] (fun r' σ'=>r'=.bs false 0 (r.length) 0 (r.length)∧σ'=[.buf 1 (L cU8 r) false]):=by
 refine L4 (N:=59) (rs:=[.tmp 4]) 1 rfl ok Tryz.func79 rfl (by decide +kernel) rfl rfl (AqQ rfl) (fun F=>?_);have hE:=ok.env F;unfold CD at h;show Run (B.env F) 1 _ ⟨Ar 59 [(0,.bs false 0 (b.length) 0 (b.length)),(1,.agg [i64 a.Za,i64 a.N,.sl false (L cU8 a.B),.sl false (L cApi_Value a.L)])],[.buf 1 (L cU8 b) false]⟩ _;refine GU ?_;revert h;refine T0 [0,3] ?_;refine Jo (fun _=>⟨Ar 59 [(0,.bs false 0 (b.length) 0 (b.length)),(3,.ref 1 0)],[.buf 1 (L cU8 b) false,.box [i64 a.Za,i64 a.N,.sl false (L cU8 a.B),.sl false (L cApi_Value a.L)] false]⟩) ?_ ?_
 ·intro aB w;refine T0 [0,3,10] ?_;refine Sb <|T0 [0,3,10,11] ?_
  refine Cd ?_ ?_
  ·refine Bd fun aC y =>Te [4] (As (l:=[]) (m:=[(16,123,[.bs false 0 (b.length) 0 (b.length),i64 a.N],[.buf 1 (L cU8 b) false,.box [i64 a.Za,i64 a.N,.sl false (L cU8 a.B),.sl false (L cApi_Value a.L)] false],_,_)]) trivial ⟨(wc (J6 y) [0]),trivial⟩) Ev ?_
   exact Sr <|Br <|Jr w <|Ro [0]
  ·refine T0 [0,3,17] ?_;refine Cd ?_ ?_
   ·refine Ck fun z =>Lt fun i aa =>Te (fr':=[(0,.bs false 0 (i.length) 0 (i.length)),(3,_)]) (σ':=[.buf 1 (L cU8 i) false,_,_]) [0,3] Ac (Ew2 z aa) ?_
    refine Ja (fun d=>⟨Ar 59 [(0,.bs false 0 (d.length) 0 (d.length))],[.buf 1 (L cU8 d) false]⟩) ?_ ?_
    ·intro aD;refine T0 [0,23,24,25] ?_;refine Sb ?_;refine Lo (fun(v:Int×List UInt8)=>(⟨Ar 59 [(0,.bs false 0 (v.2.length) 0 (v.2.length)),(23,.sl false (L cU8 a.B)),(24,i64 (a.B.length:Int)),(25,i64 v.1)],[.buf 1 (L cU8 v.2) false]⟩:St)) (ws [0]) ?_;rintro⟨x,e⟩ aE ab ac ad;show AX a x e=some ab→_;unfold AX;refine T0 [0,23,24,25,26] ?_;refine Sq <|Cd ?_ ?_
     ·refine Sk <|Tn <|?_
      refine Ja (fun f=>⟨Ar 59 [(0,.bs false 0 (f.length) 0 (f.length)),(23,.sl false (L cU8 a.B)),(24,i64 (a.B.length:Int)),(25,i64 x)],[.buf 1 (L cU8 f) false]⟩) ?_ ?_
      ·intro aF;refine Sb <|Ck fun ae =>Te [0,6,23,24,25] Ac (Ew1 (qR ae)) ?_
       refine Ck fun af =>Lt fun j ag =>Te (fr':=[(0,.bs false 0 (j.length) 0 (j.length)),(6,_),(23,_),(24,_),(25,_)]) (σ':=[.buf 1 (L cU8 j) false,_]) [0,6,23,24,25] Ac (Ew2 af ag) ?_
       refine T0 [0,23,24,25,34] ?_;refine Cd ?_ ?_
       ·refine Ck fun ah =>Lt fun k ai =>Fe (fr':=[(0,.bs false 0 (k.length) 0 (k.length)),(23,_),(24,_),(25,_)]) (σ':=[.buf 1 (L cU8 k) false,_,_]) [0,23,24,25] Ac (Ew2 ah ai) ?_
        exact Bn <|Jm (ws [0])
       ·exact Sk <|Bn <|Jm (ws [0])
      intro f;refine F0 [0,23,24,25] ?_;exact Ln (ws [0])
     ·refine Sx <|Tx <|Ly ad ac <|Bx <|?_
      exact Jm ((ws (l':=[(0,.bs false 0 (e.length) 0 (e.length))]) (σ':=[.buf 1 (L cU8 e) false]) [0]).trans (ws [0]))
    intro d;refine Ck fun aj =>Lt fun n ak =>Te (fr':=[(4,.bs false 0 (n.length) 0 (n.length))]) (σ':=[.buf 1 (L cU8 n) false,_]) [4] Ac (Ew2 aj ak) ?_
    exact Sr <|Br <|Jr w <|Ro [0]
   ·exact Sk <|Bn <|Jn (ws [0,1])
 intro _;refine Ck fun al =>Lt fun o am =>Te (fr':=[(0,.bs false 0 (o.length) 0 (o.length)),(3,_)]) (σ':=[.buf 1 (L cU8 o) false,_,_]) [0,3] Ac (Ew2 al am) ?_
 refine Ja (fun g=>⟨Ar 59 [(0,.bs false 0 (g.length) 0 (g.length))],[.buf 1 (L cU8 g) false]⟩) ?_ ?_
 ·intro aG;refine T0 [0,46,47,48] ?_;refine Sb ?_;refine Lo (fun(v:Int×List UInt8)=>(⟨Ar 59 [(0,.bs false 0 (v.2.length) 0 (v.2.length)),(46,.sl false (L cApi_Value a.L)),(47,i64 (a.L.length:Int)),(48,i64 v.1)],[.buf 1 (L cU8 v.2) false]⟩:St)) (ws [0]) ?_;rintro⟨an,c⟩ aH ao ap aq;show AW a rec_ an c=some ao→_;unfold AW;refine T0 [0,46,47,48,49] ?_;refine Sq <|Cd ?_ ?_
  ·refine Sk <|Tn <|Sq <|Sb <|Ck fun ar =>Lt fun p au =>Lt fun q av =>Lt fun s aw =>Lt fun t ax =>Te (σ':=[_,.box [i64 p,i64 q,.sl false (L cU8 s),.sl false (L cApi_Value t)] false]) [0,8,46,47,48] Ac (Ew5 (qR ar) au av aw ax) ?_
   refine Bd fun aI ay =>Fe [0,46,47,48] (As (l:=[]) (m:=[(54,79,[.bs false 0 (c.length) 0 (c.length),.agg [i64 p,i64 q,.sl false (L cU8 s),.sl false (L cApi_Value t)]],[.buf 1 (L cU8 c) false,.box [i64 p,i64 q,.sl false (L cU8 s),.sl false (L cApi_Value t)] false],_,_)]) trivial ⟨(wc (hrec ay) [0]),trivial⟩) Ev ?_
   refine Bn <|Tn <|F0 [0,46,47,48] ?_
   exact Ln (ws [0])
  ·refine Sx <|Tx <|Ly aq ap <|Bx <|?_
   exact Jm ((ws (l':=[(0,.bs false 0 (c.length) 0 (c.length))]) (σ':=[.buf 1 (L cU8 c) false]) [0]).trans (ws [0]))
 intro g;refine Ck fun az =>Lt fun u aA =>Te (fr':=[(4,.bs false 0 (u.length) 0 (u.length))]) (σ':=[.buf 1 (L cU8 u) false,_]) [4] Ac (Ew2 az aA) ?_
 exact Sr <|Ro [0]
theorem HS(n:Nat):∀{b:List UInt8} {a:ApN} {r:List UInt8},Ca n b a=some r→Con B 79 [.bs false 0 (b.length) 0 (b.length),.agg [i64 a.Za,i64 a.N,.sl false (L cU8 a.B),.sl false (L cApi_Value a.L)]] [.buf 1 (L cU8 b) false] (fun r' σ'=>r'=.bs false 0 (r.length) 0 (r.length)∧σ'=[.buf 1 (L cU8 r) false]):=by
 induction n with
 |zero=>intro b a r h;cases h
 |succ n ih=>intro b a r h;exact HQ ih h
theorem Ii{b:List UInt8}{a:ApN}{r:List UInt8}(h:Fx b a=some r):Con B 79 [.bs false 0 (b.length) 0 (b.length),.agg [i64 a.Za,i64 a.N,.sl false (L cU8 a.B),.sl false (L cApi_Value a.L)]] [.buf 1 (L cU8 b) false] (fun r' σ'=>r'=.bs false 0 (r.length) 0 (r.length)∧σ'=[.buf 1 (L cU8 r) false]):=HS _ h
theorem Ia{a r}(h:EL a=some r):Con B 44 [.agg [i64 a.Za,i64 a.N,.sl false (L cU8 a.B),.sl false (L cApi_Value a.L)]] [] (fun r' σ'=>r'=.tup [.sl false (L cU8 r.1),i64 r.2]∧σ'=[]):=by
 refine Cw 22 [.tmp 2,.tmp 3] Tryz.func44 (fun F hE=>?_) h;unfold EL;refine T0 [1] ?_;refine Bd fun d b =>Te [1,4,5] (o1 9 (M7 b)) Ev ?_
 refine Sq <|T0 [1,4,13] ?_
 refine Cd ?_ ?_
 ·refine T0 [2,3] ?_;exact Sr <|Tr <|Rr
 ·refine Sk <|Tn <|Sq <|T0 [1,15] ?_
  refine Cd ?_ ?_
  ·refine T0 [2,3] ?_;exact Sr <|Tr <|Rr
  ·refine Sk <|Tn <|Bd fun e c =>Te [6] (As (l:=[]) (m:=[(17,79,[.sl true (L cU8 ([])),.agg [i64 a.Za,i64 a.N,.sl false (L cU8 a.B),.sl false (L cApi_Value a.L)]],[.box [i64 a.Za,i64 a.N,.sl false (L cU8 a.B),.sl false (L cApi_Value a.L)] false],_,_)]) trivial ⟨(AdI 1 (args':=[.bs true 1 0 0 0,.agg [i64 a.Za,i64 a.N,.sl false (L cU8 a.B),.sl false (L cApi_Value a.L)]]) gs (wc (Ii c) [1])),trivial⟩) Ev ?_
   refine Sq <|T0 [6,20] ?_
   refine Cd ?_ ?_
   ·refine T0 [2,3] ?_;exact Sr <|Tr <|Rr
   ·refine Sk <|Tn <|T0 [2,3] ?_
    exact Sr <|Rr
theorem Pf{a r}(h:Gs a=some r):Con B 17 [.agg (i64 a.Zb::i64 a.No::(C1 u8 a.Zv1.l++[i64 a.Zw1,i64 a.Zx1.Za,i64 a.Zx1.Ref.Zb,i64 a.Zx1.Ref.No,i64 a.Zx1.Zn1,i64 a.Zx1.Zb1,i64 a.Zx1.Zc,i64 a.Zx1.Zo1,i64 a.Zx1.Zw,i64 a.Zx1.To,i64 a.Zx1.Code,i64 a.Zx1.Zp1,i64 a.Zx1.Zq1,i64 a.Zx1.Zr1,i64 a.Zx1.Zs1,.str a.Zx1.Zt1,.sl false (L Aj a.Zx1.Zu1),u64 a.Sig.C,u64 a.Sig.S]))] [] (fun r' σ'=>r'=.tup [.sl false (L cU8 r.1),i64 r.2]∧σ'=[]):=by
 refine Cw 22 [.tmp 2,.tmp 3] Tryz.func17 (fun F hE=>?_) h;unfold Gs;refine T0 [1] ?_;refine Bd fun e f =>Bd fun g i =>Bd fun j k =>Bd fun b n =>Ck fun c =>Bd fun q o =>Bd fun d p =>?_
 intro h;refine RQ hE O2 [[],[0],[],[2],[2,3],[0,1,2,3,4],[],[6],[6,7],[0,1,2,3,4,5,6,7,8],[0,1,2,3,4,5,6,7,8,9],[0,1,2,3,4,5,6,7,8,9,10],[0,1,2,3,4,5,6,7,8,9,10,11],[0,1,2,3,4,5,6,7,8,9,10,11,12],[0,1,2,3,4,5,6,7,8,9,10,11,12,13],[0,1,2,3,4,5,6,7,8,9,10,11,12,13,14],[0,1,2,3,4,5,6,7,8,9,10,11,12,13,14,15],[0,1,2,3,4,5,6,7,8,9,10,11,12,13,14,15],[0,1,2,3,4,5,6,7,8,9,10,11,12,13,14,15,16,17],[0,1,2,3,4,5,6,7,8,9,10,11,12,13,14,15,16,17,18]] (by kernel_rfl) [(),(),(),(),(),(),(),(),()] [(),(),(),(),(),(),()] (by kernel_rfl) [(1,0),(6,0),(7,0),(10,0),(11,0)] [(5,0)] [1,6,7,10,11] [1,2,3,6,7,10,11] (by kernel_rfl) (fr':=[(1,.ref 0 0),(2,.sl false (L cU8 d.1)),(3,i64 d.2),(6,.ref 0 51),(7,.ref 0 51),(10,.ref 0 51),(11,.ref 0 52)]) (σ':=[.box (i64 a.Zb::i64 a.No::(C1 u8 a.Zv1.l++[i64 a.Zw1,i64 a.Zx1.Za,i64 a.Zx1.Ref.Zb,i64 a.Zx1.Ref.No,i64 a.Zx1.Zn1,i64 a.Zx1.Zb1,i64 a.Zx1.Zc,i64 a.Zx1.Zo1,i64 a.Zx1.Zw,i64 a.Zx1.To,i64 a.Zx1.Code,i64 a.Zx1.Zp1,i64 a.Zx1.Zq1,i64 a.Zx1.Zr1,i64 a.Zx1.Zs1,.str a.Zx1.Zt1,.sl false (L Aj a.Zx1.Zu1),u64 a.Sig.C,u64 a.Sig.S])) false,.buf 4 (L cApi_Value (e++([b]:List ApN))) true,.buf 4 (L cApi_Value ([g,j]:List ApN)) true,.buf 4 (L cApi_Value ([b]:List ApN)) false]) ⟨_,_,(As (l:=[(9,_,_,_),(13,_,_,_),(15,_,_,_),(18,_,_,_),(19,_,_,_)]) (m:=[(5,46,[.agg (i64 a.Zb::i64 a.No::(C1 u8 a.Zv1.l++[i64 a.Zw1,i64 a.Zx1.Za,i64 a.Zx1.Ref.Zb,i64 a.Zx1.Ref.No,i64 a.Zx1.Zn1,i64 a.Zx1.Zb1,i64 a.Zx1.Zc,i64 a.Zx1.Zo1,i64 a.Zx1.Zw,i64 a.Zx1.To,i64 a.Zx1.Code,i64 a.Zx1.Zp1,i64 a.Zx1.Zq1,i64 a.Zx1.Zr1,i64 a.Zx1.Zs1,.str a.Zx1.Zt1,.sl false (L Aj a.Zx1.Zu1),u64 a.Sig.C,u64 a.Sig.S]))],[.box (i64 a.Zb::i64 a.No::(C1 u8 a.Zv1.l++[i64 a.Zw1,i64 a.Zx1.Za,i64 a.Zx1.Ref.Zb,i64 a.Zx1.Ref.No,i64 a.Zx1.Zn1,i64 a.Zx1.Zb1,i64 a.Zx1.Zc,i64 a.Zx1.Zo1,i64 a.Zx1.Zw,i64 a.Zx1.To,i64 a.Zx1.Code,i64 a.Zx1.Zp1,i64 a.Zx1.Zq1,i64 a.Zx1.Zr1,i64 a.Zx1.Zs1,.str a.Zx1.Zt1,.sl false (L Aj a.Zx1.Zu1),u64 a.Sig.C,u64 a.Sig.S])) false],_,_)]) ⟨Kw  i,Kw  k,HL  n,HL  o,Ia  p,trivial⟩ ⟨(wc (Hi f) []),trivial⟩),(by repeat' (first|exact trivial|(refine And.intro ?_ ?_)|exact fun _=>rfl|exact fun h=>absurd h (by decide))),_,_,(by simp only[go_sem,c];exact AY),(by exact⟨rfl,rfl,rfl,rfl,rfl,trivial⟩),(by simp only[go_sem,c];exact AY)⟩ ?_;revert h;exact Sr <|Rr
theorem AD{a b r}(h:Aw a b=some r):Con B 165 [u32 a,i64 b] [] (fun r' σ'=>r'=u32 r∧σ'=[]):=by
 refine Cw 17 [.tmp 4] Tryz.func165 (fun F hE=>?_) h;unfold Aw;refine T0 [0,1] ?_;refine Lt fun c d =>Te (fr':=[(0,_),(5,u64 c)]) [0,5] Ac (Ew1 d) ?_
 refine Lt fun e f =>Te (fr':=[(4,u32 e)]) [4] Ac (Ew1 f) ?_
 exact Sr <|Rr
theorem LW{a b r}(h:CK a b=some r):Con B 148 [.agg (C1 u32 a.l),.sl false (L cU8 b)] [] (fun r' σ'=>r'=.agg (C1 u32 r.l)∧σ'=[]):=by
 refine Cw 195 [.cell 4 221] Tryz.func148 (fun F hE=>?_) h;unfold CK;refine T0 [1,2,4] ?_;refine T0 [1,2,4,5] ?_;refine Ja (fun e=>⟨Ar 195 [(2,.ref 0 0),(4,.ref 1 0),(5,.ref 2 0)],[.box (C1 u32 a.l) false,.box (C1 u32 (Arr.rep 8 (0:UInt32)).l) false,.box (C1 u32 e.l) false]⟩) ?_ ?_
 ·intro bh;refine T0 [1,2,4,5,19] ?_;refine Sb ?_;refine Lo (fun(v:Int×Arr UInt32 64)=>(⟨Ar 195 [(1,.sl false (L cU8 b)),(2,.ref 0 0),(4,.ref 1 0),(5,.ref 2 0),(19,i64 v.1)],[.box (C1 u32 a.l) false,.box (C1 u32 (Arr.rep 8 (0:UInt32)).l) false,.box (C1 u32 v.2.l) false]⟩:St)) (ws [0,1,2]) ?_;rintro⟨ac,f⟩ bi ad ae af;show Bc b ac f=some ad→_;unfold Bc;refine T0 [1,2,4,5,19,20] ?_;refine Sq <|Cd ?_ ?_
  ·refine Sk <|Tn <|Sq <|Sb <|T0 [1,2,4,5,6,19] ?_
   refine Ck fun ag =>Ck fun ah =>Ck fun ai =>Ck fun aj =>Ck fun ak =>Lt fun al am =>Ge (σ':=[_,_,.box (C1 u32 al.l) false]) [[],[],[],[2],[1,2,3],[1,2,3,4],[1,2,3,4,5],[1,2,3,4,5,6],[],[],[9],[9,10],[8,9,10,11],[8,9,10,11,12],[8,9,10,11,12,13],[8,9,10,11,12,13,14],[1,2,3,4,5,6,7,8,9,10,11,12,13,14,15],[],[],[18],[18,19],[17,18,19,20],[17,18,19,20,21],[17,18,19,20,21,22],[17,18,19,20,21,22,23],[1,2,3,4,5,6,7,8,9,10,11,12,13,14,15,16,17,18,19,20,21,22,23,24],[],[],[27],[27,28],[26,27,28,29],[26,27,28,29,30],[26,27,28,29,30,31],[1,2,3,4,5,6,7,8,9,10,11,12,13,14,15,16,17,18,19,20,21,22,23,24,25,26,27,28,29,30,31,32],[0,1,2,3,4,5,6,7,8,9,10,11,12,13,14,15,16,17,18,19,20,21,22,23,24,25,26,27,28,29,30,31,32,33],[0,1,2,3,4,5,6,7,8,9,10,11,12,13,14,15,16,17,18,19,20,21,22,23,24,25,26,27,28,29,30,31,32,33,34]] [1,2,4,5,19] Ac (Ev (by simp only[go_sem,qR ag,qR ah,qR ai,qR aj,qR ak,am];exact AY)) ?_
   refine Bn <|Tn <|F0 [1,2,4,5,19] ?_
   exact Ln (ws [0,1,2])
  ·refine Sx <|Tx <|Ly af ae <|Bx <|?_
   exact Jm ((ws (l':=[(2,.ref 0 0),(4,.ref 1 0),(5,.ref 2 0)]) (σ':=[.box (C1 u32 a.l) false,.box (C1 u32 (Arr.rep 8 (0:UInt32)).l) false,.box (C1 u32 f.l) false]) [0,1,2]).trans (ws [0,1,2]))
 intro e;refine Ja (fun c=>⟨Ar 195 [(2,.ref 0 0),(4,.ref 1 0),(5,.ref 2 0)],[.box (C1 u32 a.l) false,.box (C1 u32 (Arr.rep 8 (0:UInt32)).l) false,.box (C1 u32 c.l) false]⟩) ?_ ?_
 ·intro bj;refine T0 [2,4,5,7] ?_;refine Sb ?_;refine Lo (fun(v:Int×Arr UInt32 64)=>(⟨Ar 195 [(2,.ref 0 0),(4,.ref 1 0),(5,.ref 2 0),(7,i64 v.1)],[.box (C1 u32 a.l) false,.box (C1 u32 (Arr.rep 8 (0:UInt32)).l) false,.box (C1 u32 v.2.l) false]⟩:St)) (ws [0,1,2]) ?_;rintro⟨an,g⟩ bk ao ap aq;show AM an g=some ao→_;unfold AM;refine Sq <|T0 [2,4,5,7,59] ?_
  refine Cd ?_ ?_
  ·refine Sk <|Tn <|Sq <|Sb <|Ck fun ar =>Ck fun au =>Lt fun av aw =>Lt fun ax ay =>De (fr':=[(2,_),(4,_),(5,_),(7,_),(8,u32 av),(9,u32 ax)]) [[],[0],[0,1],[0,1,2],[],[4],[4,5],[4,5,6],[0,1,2,3],[0,1,2,3,4,5,6,7,8]] [2,4,5,7,8,9] Ac (Ew4 (qR ar) (qR au) aw ay) ?_
   refine Bd fun bl az =>Bd fun bm aA =>Lt fun s0_5401 aB =>Te (fr':=[(2,_),(4,_),(5,_),(7,_),(9,_),(10,u32 s0_5401)]) [2,4,5,7,9,10] (o2 71 (AD az) 73 (AD aA)) (Ew1 aB) ?_
   refine Bd fun bn aC =>Bd fun bo aD =>Lt fun s1_5407 aE =>Te (fr':=[(2,_),(4,_),(5,_),(7,_),(10,_),(11,u32 s1_5407)]) [2,4,5,7,10,11] (o2 79 (AD aC) 81 (AD aD)) (Ew1 aE) ?_
   refine Ck fun aF =>Ck fun aG =>Ck fun aH =>Lt fun aI aJ =>Ge (σ':=[_,_,.box (C1 u32 aI.l) false]) [[],[],[1],[1,2],[1,2,3],[],[1,2,3,4,5],[],[7],[7,8],[7,8,9],[1,2,3,4,5,6,7,8,9,10],[],[1,2,3,4,5,6,7,8,9,10,11,12],[0,1,2,3,4,5,6,7,8,9,10,11,12,13],[0,1,2,3,4,5,6,7,8,9,10,11,12,13,14]] [2,4,5,7] Ac (Ew4 (qR aF) (qR aG) (qR aH) aJ) ?_
   refine Bn <|Tn <|F0 [2,4,5,7] ?_
   exact Ln (ws [0,1,2])
  ·refine Sx <|Tx <|Ly aq ap <|Bx <|?_
   exact Jm ((ws (l':=[(2,.ref 0 0),(4,.ref 1 0),(5,.ref 2 0)]) (σ':=[.box (C1 u32 a.l) false,.box (C1 u32 (Arr.rep 8 (0:UInt32)).l) false,.box (C1 u32 g.l) false]) [0,1,2]).trans (ws [0,1,2]))
 intro c;refine T0 [2,4,5,12] ?_;refine Ja (fun d=>⟨Ar 195 [(2,.ref 0 0),(4,.ref 1 0),(12,.ref 2 0)],[.box (C1 u32 a.l) false,.box (C1 u32 (Arr.rep 8 (0:UInt32)).l) false,.box (C1 u32 d.l) false]⟩) ?_ ?_
 ·intro bp;refine T0 [2,4,5,12,102] ?_;refine Sb ?_;refine Lo (fun(v:Int×Arr UInt32 8)=>(⟨Ar 195 [(2,.ref 0 0),(4,.ref 1 0),(5,.ref 2 0),(12,.ref 3 0),(102,i64 v.1)],[.box (C1 u32 a.l) false,.box (C1 u32 (Arr.rep 8 (0:UInt32)).l) false,.box (C1 u32 c.l) false,.box (C1 u32 v.2.l) false]⟩:St)) (ws [0,1,2,3]) ?_;rintro⟨aK,i⟩ bq aL aM aN;show Ba c aK i=some aL→_;unfold Ba;refine T0 [2,4,5,12,102,103] ?_;refine Sq <|Cd ?_ ?_
  ·refine Sk <|Tn <|Sq <|Sb <|T0 [2,4,5,12,13,102] ?_
   have j:InR 0 8:=by decide
   have k:InR 4 8:=by decide
   refine De [[],[0],[],[2],[0,1],[0,1,2,3,4]] [2,4,5,12,13,14,15,102] Ac (Ev (by simp only[go_sem,j,j.2,k,k.2];exact AY)) ?_;have m:InR 7 8:=by decide
   refine Bd fun aO aP =>Bd fun aQ aR =>Bd fun aS aT =>?_
   have n:InR 5 8:=by decide
   have o:InR 6 8:=by decide
   refine Ck fun aU =>Ck fun aV =>Lt fun aW aX =>De (fr':=[(2,_),(4,_),(5,_),(12,_),(14,_),(15,_),(16,u32 aW),(102,_)]) [[],[0],[],[2],[],[2,3,4],[2,3,4,5],[],[2,3,4,5,7],[2,3,4,5,6,7,8],[0,1,2,3,4,5,6,7,8,9],[],[],[12],[11,12,13],[],[15],[],[17],[15,16,17,18],[11,12,13,14,15,16,17,18,19],[0,1,2,3,4,5,6,7,8,9,10,11,12,13,14,15,16,17,18,19,20],[],[22],[22,23],[0,1,2,3,4,5,6,7,8,9,10,11,12,13,14,15,16,17,18,19,20,21,22,23,24],[],[26],[26,27],[0,1,2,3,4,5,6,7,8,9,10,11,12,13,14,15,16,17,18,19,20,21,22,23,24,25,26,27,28],[0,1,2,3,4,5,6,7,8,9,10,11,12,13,14,15,16,17,18,19,20,21,22,23,24,25,26,27,28,29]] [2,4,5,12,14,15,16,102] (Cp (l:=[(112,_,_,u32 aO),(114,_,_,u32 aQ),(117,_,_,u32 aS)]) ⟨AD  aP,AD  aR,AD  aT,trivial⟩) (Ev (by simp only[go_sem,m,m.2,n,n.2,o,o.2,qR aU,qR aV,aX];exact AY)) ?_
   refine Bd fun aY aZ =>Bd fun a0 a1 =>Bd fun a2 a3 =>?_
   have p:InR 1 8:=by decide
   have q:InR 2 8:=by decide
   have s:InR 1 8:=by decide
   have t:InR 2 8:=by decide
   refine Lt fun a4 a5 =>De (fr':=[(2,_),(4,_),(5,_),(12,_),(14,_),(15,_),(16,_),(17,u32 a4),(102,_)]) [[],[0],[],[0,1,2],[0,1,2,3],[],[0,1,2,3,5],[0,1,2,3,4,5,6],[],[],[9],[8,9,10],[],[],[13],[12,13,14],[8,9,10,11,12,13,14,15],[],[17],[],[19],[17,18,19,20],[8,9,10,11,12,13,14,15,16,17,18,19,20,21],[0,1,2,3,4,5,6,7,8,9,10,11,12,13,14,15,16,17,18,19,20,21,22],[0,1,2,3,4,5,6,7,8,9,10,11,12,13,14,15,16,17,18,19,20,21,22,23]] [2,4,5,12,14,15,16,17,102] (Cp (l:=[(140,_,_,u32 aY),(142,_,_,u32 a0),(145,_,_,u32 a2)]) ⟨AD  aZ,AD  a1,AD  a3,trivial⟩) (Ev (by simp only[go_sem,p,p.2,q,q.2,s,s.2,t,t.2,a5];exact AY)) ?_
   have u:InR 1 8:=by decide
   have w:InR 2 8:=by decide
   have x:InR 3 8:=by decide
   have y:InR 5 8:=by decide
   have z:InR 6 8:=by decide
   refine Lt fun a6 a7 =>Fe (σ':=[_,.box (C1 u32 (Arr.rep 8 (0:UInt32)).l) false,_,.box (C1 u32 a6.l) false]) [2,4,5,12,102] Ac (Ev (by simp only[go_sem,u,u.2,w,w.2,x,x.2,y,y.2,z,z.2,Js,Kr,HB,a7];exact AY)) ?_
   refine Bn <|Tn <|F0 [2,4,5,12,102] ?_
   exact Ln (ws [0,1,2,3])
  ·refine Sx <|Tx <|Ly aN aM <|Bx <|?_
   exact Jm ((ws (l':=[(2,.ref 0 0),(4,.ref 1 0),(12,.ref 2 0)]) (σ':=[.box (C1 u32 a.l) false,.box (C1 u32 (Arr.rep 8 (0:UInt32)).l) false,.box (C1 u32 i.l) false]) [0,1,3]).trans (ws [0,1,2]))
 intro d;refine Ja (fun aa=>⟨Ar 195 [(2,.ref 0 0),(4,.ref 1 0)],[.box (C1 u32 aa.l) false,.box (C1 u32 (Arr.rep 8 (0:UInt32)).l) false]⟩) ?_ ?_
 ·intro br;refine T0 [2,4,12,182] ?_;refine Sb ?_;refine Lo (fun(v:Int×Arr UInt32 8)=>(⟨Ar 195 [(2,.ref 0 0),(4,.ref 1 0),(12,.ref 2 0),(182,i64 v.1)],[.box (C1 u32 v.2.l) false,.box (C1 u32 (Arr.rep 8 (0:UInt32)).l) false,.box (C1 u32 d.l) false]⟩:St)) (ws [0,1,2]) ?_;rintro⟨a8,ab⟩ bs a9 ba bb;show Bi d a8 ab=some a9→_;unfold Bi;refine T0 [2,4,12,182,183] ?_;refine Sq <|Cd ?_ ?_
  ·refine Sk <|Tn <|Sq <|Sb <|T0 [2,4,12,18,182] ?_
   refine Ck fun bc =>Ck fun bd =>Ck fun be =>Lt fun bf bg =>Ge (σ':=[.box (C1 u32 bf.l) false,_,_]) [[],[0],[0,1],[],[3],[3,4],[0,1,2,3,4,5],[0,1,2,3,4,5,6],[0,1,2,3,4,5,6,7]] [2,4,12,182] Ac (Ew4 (qR bc) (qR bd) (qR be) bg) ?_
   refine Bn <|Tn <|F0 [2,4,12,182] ?_
   exact Ln (ws [0,1,2])
  ·refine Sx <|Tx <|Ly bb ba <|Bx <|?_
   exact Jm ((ws (l':=[(2,.ref 0 0),(4,.ref 1 0)]) (σ':=[.box (C1 u32 ab.l) false,.box (C1 u32 (Arr.rep 8 (0:UInt32)).l) false]) [0,1]).trans (ws [0,1]))
 intro aa;refine T0 [4] ?_;exact Sr <|Rr
theorem P1{d r}(h:Fv d=some r):Con B 125 [.sl false (L (cSl cU8) d)] [] (fun r' σ'=>r'=.agg (C1 u8 r.l)∧σ'=[]):=by
 refine Cw 72 [.cell 2 42] Tryz.func125 (fun F hE=>?_) h;unfold Fv;refine T0 [0,2] ?_;refine T0 [0,2,3] ?_;refine Ja (fun e=>⟨Ar 72 [(2,.ref 0 0),(3,.bs false 1 (e.length) 0 (e.length))],[.box (C1 u8 (Arr.rep 32 (0:UInt8)).l) false,.buf 1 (L cU8 e) false]⟩) ?_ ?_
 ·intro aQ;refine T0 [2,3,10,11,12] ?_;refine Sb ?_;refine Lo (fun(v:Int×List UInt8)=>(⟨Ar 72 [(2,.ref 0 0),(3,.bs false 1 (v.2.length) 0 (v.2.length)),(10,.sl false (L (cSl cU8) d)),(11,i64 (d.length:Int)),(12,i64 v.1)],[.box (C1 u8 (Arr.rep 32 (0:UInt8)).l) false,.buf 1 (L cU8 v.2) false]⟩:St)) ((RF 3 1 rfl).trans (ws [0,1])) ?_;rintro⟨w,f⟩ aR x y z;show Ch d w f=some x→_;unfold Ch;refine T0 [2,3,10,11,12,13] ?_;refine Sq <|Cd ?_ ?_
  ·refine Sk <|Tn <|Sq <|Sb <|Ck fun aa =>Lt fun ab ac =>Te (fr':=[(2,_),(3,_),(5,.sl false (L cU8 ab)),(10,_),(11,_),(12,_)]) [2,3,5,10,11,12] Ac (Ew2 (qR aa) ac) ?_
   refine Ck fun ad =>Lt fun m ae =>Fe (fr':=[(2,_),(3,.bs false 1 (m.length) 0 (m.length)),(10,_),(11,_),(12,_)]) (σ':=[_,.buf 1 (L cU8 m) false]) [2,3,10,11,12] Ac (Ew2 ad ae) ?_
   refine Bn <|Tn <|F0 [2,3,10,11,12] ?_
   exact Ln (ws [0,1])
  ·refine Sx <|Tx <|Ly z y <|Bx <|?_
   exact Jm ((ws (l':=[(2,.ref 0 0),(3,.bs false 1 (f.length) 0 (f.length))]) (σ':=[.box (C1 u8 (Arr.rep 32 (0:UInt8)).l) false,.buf 1 (L cU8 f) false]) [0,1]).trans (ws [0,1]))
 intro e;refine Lt fun c af =>Te (fr':=[(2,_),(3,_),(6,u64 c)]) [2,3,6] Ac (Ew1 af) ?_
 refine Ck fun ag =>Lt fun n ah =>Te (fr':=[(2,_),(3,.bs false 1 (n.length) 0 (n.length)),(6,_)]) (σ':=[_,.buf 1 (L cU8 n) false,_]) [2,3,6] Ac (Ew2 ag ah) ?_
 refine Ja (fun g=>⟨Ar 72 [(2,.ref 0 0),(3,.bs false 1 (g.length) 0 (g.length)),(6,u64 c)],[.box (C1 u8 (Arr.rep 32 (0:UInt8)).l) false,.buf 1 (L cU8 g) false]⟩) ?_ ?_
 ·intro aS;refine Sb ?_;refine Lo (fun a=>⟨Ar 72 [(2,.ref 0 0),(3,.bs false 1 (a.length) 0 (a.length)),(6,u64 c)],[.box (C1 u8 (Arr.rep 32 (0:UInt8)).l) false,.buf 1 (L cU8 a) false]⟩) (ws [0,1]) ?_;rintro a aT ai aj ak;show B7 a=some ai→_;unfold B7;refine Sq ?_;have al:¬(64:Int)=0:=by decide
  refine Te [2,3,6,30] Ac (Ew1 al) ?_;refine Cd ?_ ?_
  ·refine Sk <|Tn <|Sb <|Ck fun am =>Lt fun o an =>Fe (fr':=[(2,_),(3,.bs false 1 (o.length) 0 (o.length)),(6,_)]) (σ':=[_,.buf 1 (L cU8 o) false,_]) [2,3,6] Ac (Ew2 am an) ?_
   exact Bn <|Ln (ws [0,1])
  ·refine Sx <|Tx <|Ly ak aj <|Bx <|?_
   exact Jm ((ws (l':=[(2,.ref 0 0),(3,.bs false 1 (a.length) 0 (a.length)),(6,u64 c)]) (σ':=[.box (C1 u8 (Arr.rep 32 (0:UInt8)).l) false,.buf 1 (L cU8 a) false]) [0,1]).trans (ws [0,1]))
 intro g;refine Ja (fun b=>⟨Ar 72 [(2,.ref 0 0),(3,.bs false 1 (b.length) 0 (b.length))],[.box (C1 u8 (Arr.rep 32 (0:UInt8)).l) false,.buf 1 (L cU8 b) false]⟩) ?_ ?_
 ·intro aU;refine T0 [2,3,6,7] ?_;refine Sb ?_;refine Lo (fun(v:Int×List UInt8)=>(⟨Ar 72 [(2,.ref 0 0),(3,.bs false 1 (v.2.length) 0 (v.2.length)),(6,u64 c),(7,i64 v.1)],[.box (C1 u8 (Arr.rep 32 (0:UInt8)).l) false,.buf 1 (L cU8 v.2) false]⟩:St)) (ws [0,1]) ?_;rintro⟨ao,i⟩ aV ap aq ar;show C5 c ao i=some ap→_;unfold C5;refine Sq <|T0 [2,3,6,7,35] ?_
  refine Cd ?_ ?_
  ·refine Sk <|Tn <|Sq <|Sb <|Ck fun au =>Ck fun av =>Lt fun p aw =>Fe (fr':=[(2,_),(3,.bs false 1 (p.length) 0 (p.length)),(6,_),(7,_)]) (σ':=[_,.buf 1 (L cU8 p) false,_]) [2,3,6,7] Ac (Ew3 au av aw) ?_
   refine Bn <|Tn <|F0 [2,3,6,7] ?_
   exact Ln (ws [0,1])
  ·refine Sx <|Tx <|Ly ar aq <|Bx <|?_
   exact Jm ((ws (l':=[(2,.ref 0 0),(3,.bs false 1 (i.length) 0 (i.length))]) (σ':=[.box (C1 u8 (Arr.rep 32 (0:UInt8)).l) false,.buf 1 (L cU8 i) false]) [0,1]).trans (ws [0,1]))
 intro b;refine Lt fun ax ay =>Te (σ':=[.box (C1 u8 (Arr.rep 32 (0:UInt8)).l) false,_,.box (C1 u32 ax.l) false]) [2,3,8] Ac (Ev (by simp only[go_sem,Js,Kr,HB,ay];exact AY)) ?_
 refine Ja (fun j=>⟨Ar 72 [(2,.ref 0 0),(8,.ref 1 0)],[.box (C1 u8 (Arr.rep 32 (0:UInt8)).l) false,.box (C1 u32 j.l) false]⟩) ?_ ?_
 ·intro aW;refine Sb ?_;refine Lo (fun⟨q,s,k⟩=>⟨Ar 72 [(2,.ref 0 0),(3,.bs false 1 (b.length) q s),(8,.ref 2 0)],[.box (C1 u8 (Arr.rep 32 (0:UInt8)).l) false,.buf 1 (L cU8 b) false,.box (C1 u32 k.l) false]⟩) (ws [0,1,2]) ?_;rintro⟨q,s,k⟩ aX az aA aB;show C4 b q s k=some az→_;unfold C4;refine Sq <|T0 [2,3,8,48] ?_
  refine Cd ?_ ?_
  ·refine Sk <|Tn <|Sq <|Sb <|Ck fun aC =>Bd fun aY aD =>Ge [[],[],[1],[0,1,2],[0,1,2,3]] [2,3,8] (o1 54 (LW aD)) (Ew1 aC) ?_
   refine Bn <|Tn <|Ck fun aE =>Fe [2,3,8] Ac (Ew1 aE) ?_
   exact Ln (ws [0,1,2])
  ·refine Sx <|Tx <|Ly aB aA <|Bx <|?_
   exact Jm ((ws (l':=[(2,.ref 0 0),(8,.ref 1 0)]) (σ':=[.box (C1 u8 (Arr.rep 32 (0:UInt8)).l) false,.box (C1 u32 k.l) false]) [0,2]).trans (ws [0,1]))
 intro j;refine Ja (fun t=>⟨Ar 72 [(2,.ref 0 0)],[.box (C1 u8 t.l) false]⟩) ?_ ?_
 ·intro aZ;refine T0 [2,8,55] ?_;refine Sb ?_;refine Lo (fun(v:Int×Arr UInt8 32)=>(⟨Ar 72 [(2,.ref 0 0),(8,.ref 1 0),(55,i64 v.1)],[.box (C1 u8 v.2.l) false,.box (C1 u32 j.l) false]⟩:St)) (ws [0,1]) ?_;rintro⟨aF,u⟩ a0 aG aH aI;show BP j aF u=some aG→_;unfold BP;refine T0 [2,8,55,56] ?_;refine Sq <|Cd ?_ ?_
  ·refine Sk <|Tn <|Sq <|Sb <|T0 [2,8,9,55] ?_
   have aJ:¬(4:Int)=0:=by decide
   refine Ck fun aK=>?_
   have aL:¬(4:Int)=0:=by decide
   refine Ck fun aM =>Ck fun aN =>Lt fun aO aP =>Fe (σ':=[.box (C1 u8 aO.l) false,_]) [2,8,55] Ac (Ev (by simp only[go_sem,aJ,qR aK,aL,aM,qR aN,aP];exact AY)) ?_
   refine Bn <|Tn <|F0 [2,8,55] ?_
   exact Ln (ws [0,1])
  ·refine Sx <|Tx <|Ly aI aH <|Bx <|?_
   exact Jm ((ws (l':=[(2,.ref 0 0)]) (σ':=[.box (C1 u8 u.l) false]) [0]).trans (ws [0]))
 intro t;refine T0 [2] ?_;exact Sr <|Rr
theorem Fs{a b r}(h:CL a b=some r):Con B 87 [.str a,.sl false (L cU8 b)] [] (fun r' σ'=>r'=.agg (C1 u8 r.l)∧σ'=[]):=by
 refine Cw 19 [.cell 4 42] Tryz.func87 (fun F hE=>?_) h;unfold CL;refine T0 [0,1,4] ?_;refine Ck fun c =>Lt fun d e =>Te (fr':=[(0,.str d),(1,_),(4,_)]) [0,1,4] Ac (Ew2 c e) ?_
 refine Bd fun g f =>Te [4] (o1 18 (P1 f)) Ev ?_
 exact Sr <|Rr
theorem Iu{a r}(h:DQ a=some r):Con B 59 [.agg (i64 a.Zb::i64 a.No::(C1 u8 a.Zv1.l++[i64 a.Zw1,i64 a.Zx1.Za,i64 a.Zx1.Ref.Zb,i64 a.Zx1.Ref.No,i64 a.Zx1.Zn1,i64 a.Zx1.Zb1,i64 a.Zx1.Zc,i64 a.Zx1.Zo1,i64 a.Zx1.Zw,i64 a.Zx1.To,i64 a.Zx1.Code,i64 a.Zx1.Zp1,i64 a.Zx1.Zq1,i64 a.Zx1.Zr1,i64 a.Zx1.Zs1,.str a.Zx1.Zt1,.sl false (L Aj a.Zx1.Zu1),u64 a.Sig.C,u64 a.Sig.S]))] [] (fun r' σ'=>r'=.tup [.agg (C1 u8 r.1.l),i64 r.2]∧σ'=[]):=by
 refine Cw 16 [.cell 2 42,.tmp 3] Tryz.func59 (fun F hE=>?_) h;unfold DQ;refine T0 [1,2] ?_;refine Bd fun d b =>Te [2,3,4] (o1 7 (Pf b)) Ev ?_
 refine Sq <|T0 [2,3,4,11] ?_
 refine Cd ?_ ?_
 ·refine T0 [2,3] ?_;exact Sr <|Tr <|Rr
 ·refine Sk <|Tn <|Bd fun e c =>Te [2,3] (o1 15 (Fs c)) Ev ?_
  exact Sr <|Rr
theorem HA{a r}(h:Gm a=some r):Con B 14 [.agg (i64 a.Zb::i64 a.No::(C1 u8 a.Zv1.l++[i64 a.Zw1,i64 a.Zx1.Za,i64 a.Zx1.Ref.Zb,i64 a.Zx1.Ref.No,i64 a.Zx1.Zn1,i64 a.Zx1.Zb1,i64 a.Zx1.Zc,i64 a.Zx1.Zo1,i64 a.Zx1.Zw,i64 a.Zx1.To,i64 a.Zx1.Code,i64 a.Zx1.Zp1,i64 a.Zx1.Zq1,i64 a.Zx1.Zr1,i64 a.Zx1.Zs1,.str a.Zx1.Zt1,.sl false (L Aj a.Zx1.Zu1),u64 a.Sig.C,u64 a.Sig.S]))] [] (fun r' σ'=>r'=.tup [.sl false (L cU8 r.1),i64 r.2]∧σ'=[]):=by
 refine Cw 10 [.tmp 2,.tmp 3] Tryz.func14 (fun F hE=>?_) h;unfold Gm;refine T0 [1] ?_;refine Bd fun e b =>Bd fun f c =>Bd fun g d =>Te [2,3] (As (l:=[(6,_,_,_),(7,_,_,_)]) (m:=[(5,46,[.agg (i64 a.Zb::i64 a.No::(C1 u8 a.Zv1.l++[i64 a.Zw1,i64 a.Zx1.Za,i64 a.Zx1.Ref.Zb,i64 a.Zx1.Ref.No,i64 a.Zx1.Zn1,i64 a.Zx1.Zb1,i64 a.Zx1.Zc,i64 a.Zx1.Zo1,i64 a.Zx1.Zw,i64 a.Zx1.To,i64 a.Zx1.Code,i64 a.Zx1.Zp1,i64 a.Zx1.Zq1,i64 a.Zx1.Zr1,i64 a.Zx1.Zs1,.str a.Zx1.Zt1,.sl false (L Aj a.Zx1.Zu1),u64 a.Sig.C,u64 a.Sig.S]))],[.box (i64 a.Zb::i64 a.No::(C1 u8 a.Zv1.l++[i64 a.Zw1,i64 a.Zx1.Za,i64 a.Zx1.Ref.Zb,i64 a.Zx1.Ref.No,i64 a.Zx1.Zn1,i64 a.Zx1.Zb1,i64 a.Zx1.Zc,i64 a.Zx1.Zo1,i64 a.Zx1.Zw,i64 a.Zx1.To,i64 a.Zx1.Code,i64 a.Zx1.Zp1,i64 a.Zx1.Zq1,i64 a.Zx1.Zr1,i64 a.Zx1.Zs1,.str a.Zx1.Zt1,.sl false (L Aj a.Zx1.Zu1),u64 a.Sig.C,u64 a.Sig.S])) false],_,_)]) ⟨HL  c,Ia  d,trivial⟩ ⟨(wc (Hi b) []),trivial⟩) Ev ?_
 exact Sr <|Rr
theorem IK{b a r}(h:F5 b a=some r):Con B 88 [.sl false (L cU8 b),.sl false (L R0 a)] [] (fun r' σ'=>r'=.sl false (L cU8 r)∧σ'=[]):=by
 refine Cw 39 [.tmp 4] Tryz.func88 (fun F hE=>?_) h;unfold F5;refine T0 [0,1] ?_;refine Ck fun m =>Lt fun i n =>Te (fr':=[(0,_),(1,_),(5,.bs (0==(w64 ((w64 (8*(a.length:Int)))+(b.length:Int)))) 0 (i.length) 0 (i.length))]) (σ':=[.buf 1 (L cU8 i) false]) [0,1,5] Ac (Ew2 m n) ?_
 refine Ja (fun c=>⟨Ar 39 [(0,.sl false (L cU8 b)),(5,.bs false 0 (c.length) 0 (c.length))],[.buf 1 (L cU8 c) false]⟩) ?_ ?_
 ·intro ae;refine T0 [0,5,16,17,18] ?_;refine Sb ?_;refine Lo (fun(v:Int×List UInt8)=>(⟨Ar 39 [(0,.sl false (L cU8 b)),(5,.bs false 0 (v.2.length) 0 (v.2.length)),(16,.sl false (L R0 a)),(17,i64 (a.length:Int)),(18,i64 v.1)],[.buf 1 (L cU8 v.2) false]⟩:St)) (ws [0]) ?_;rintro⟨d,e⟩ af o p q;show D0 a d e=some o→_;unfold D0;refine T0 [0,5,16,17,18,19] ?_;refine Sq <|Cd ?_ ?_
  ·refine Sk <|Tn <|?_
   refine Ja (fun f=>⟨Ar 39 [(0,.sl false (L cU8 b)),(5,.bs false 0 (f.length) 0 (f.length)),(16,.sl false (L R0 a)),(17,i64 (a.length:Int)),(18,i64 d)],[.buf 1 (L cU8 f) false]⟩) ?_ ?_
   ·intro ag;refine Sb <|Ck fun s =>Lt fun j t =>Te (fr':=[(0,_),(5,_),(7,u64 j),(16,_),(17,_),(18,_)]) [0,5,7,16,17,18] Ac (Ew2 (qR s) t) ?_
    refine T0 [0,5,7,16,17,18,22] ?_;refine Sb ?_;refine Lo (fun(v:Int×List UInt8)=>(⟨Ar 39 [(0,.sl false (L cU8 b)),(5,.bs false 0 (v.2.length) 0 (v.2.length)),(7,u64 j),(16,.sl false (L R0 a)),(17,i64 (a.length:Int)),(18,i64 d),(22,i64 v.1)],[.buf 1 (L cU8 v.2) false]⟩:St)) (ws [0]) ?_;rintro⟨u,g⟩ ah w x y;show Dz j u g=some w→_;unfold Dz;refine T0 [0,5,7,16,17,18,22,23] ?_;refine Sq <|Cd ?_ ?_
    ·refine Sk <|Tn <|Sq <|Sb <|T0 [0,5,7,8,16,17,18,22] ?_
     refine Ck fun z =>Ck fun aa =>Lt fun k ab =>Fe (fr':=[(0,_),(5,.bs false 0 (k.length) 0 (k.length)),(7,_),(16,_),(17,_),(18,_),(22,_)]) (σ':=[.buf 1 (L cU8 k) false,_]) [0,5,7,16,17,18,22] Ac (Ew3 z aa ab) ?_
     refine Bn <|Tn <|F0 [0,5,7,16,17,18,22] ?_
     exact Ln (ws [0])
    ·refine Sx <|Tx <|Ly y x <|Bx <|Bn <|?_
     exact Jm ((ws (l':=[(0,.sl false (L cU8 b)),(5,.bs false 0 (g.length) 0 (g.length)),(16,.sl false (L R0 a)),(17,i64 (a.length:Int)),(18,i64 d)]) (σ':=[.buf 1 (L cU8 g) false]) [0]).trans (ws [0]))
   intro f;refine F0 [0,5,16,17,18] ?_;exact Ln (ws [0])
  ·refine Sx <|Tx <|Ly q p <|Bx <|?_
   exact Jm ((ws (l':=[(0,.sl false (L cU8 b)),(5,.bs false 0 (e.length) 0 (e.length))]) (σ':=[.buf 1 (L cU8 e) false]) [0]).trans (ws [0]))
 intro c;refine Ck fun ac =>Lt fun l ad =>Te (fr':=[(4,.bs false 0 (l.length) 0 (l.length))]) (σ':=[.buf 1 (L cU8 l) false]) [4] Ac (Ew2 ac ad) ?_
 exact Sr <|Rr
theorem Hl{a r}(h:Er a=some r):Con B 86 [.agg (C1 u8 a.l)] [] (fun r' σ'=>r'=u64 r∧σ'=[]):=by
 refine Cw 18 [.tmp 2] Tryz.func86 (fun F hE=>?_) h;unfold Er;refine T0 [1,2] ?_;refine Ja (fun b=>⟨Ar 18 [(2,u64 b)],[]⟩) ?_ ?_
 ·intro p;have d:InB 8 32:=by decide
  refine Te [2,5,6,7] Ac (Ew1 d) ?_;refine Sb ?_;refine Lo (fun(v:UInt64×Int)=>(⟨Ar 18 [(2,u64 v.1),(5,.sl false (L cU8 (a.l.take 8))),(6,i64 ((a.l.take 8).length:Int)),(7,i64 v.2)],[]⟩:St)) (ws []) ?_;rintro⟨c,e⟩ q f g i;show BU a c e=some f→_;unfold BU;refine T0 [2,5,6,7,8] ?_;refine Sq <|Cd ?_ ?_
  ·refine Sk <|Tn <|Sq <|Sb <|Ck fun j =>Lt fun k m =>Te (fr':=[(2,_),(4,u8 k),(5,_),(6,_),(7,_)]) [2,4,5,6,7] Ac (Ew2 (qR j) m) ?_
   refine Lt fun n o =>Fe (fr':=[(2,u64 n),(5,_),(6,_),(7,_)]) [2,5,6,7] Ac (Ew1 o) ?_
   refine Bn <|Tn <|F0 [2,5,6,7] ?_
   exact Ln (ws [])
  ·refine Sx <|Tx <|Ly i g <|Bx <|?_
   exact Jm ((ws (l':=[(2,u64 c)]) (σ':=[]) []).trans (ws []))
 intro b;refine T0 [2] ?_;exact Sr <|Rr
theorem GS{a b c r}(h:D8 a b c=some r):Con B 50 [u64 a,u64 b,.sl false (L cU8 c)] [] (fun r' σ'=>r'=u64 r∧σ'=[]):=by
 refine Cw 15 [.tmp 6] Tryz.func50 (fun F hE=>?_) h;unfold D8;refine T0 [0,1,2] ?_;refine Bd fun j d =>Bd fun k e =>Bd fun f g =>?_
 have i:¬(1152921504606845399:UInt64)=0:=by decide
 refine Te [6] (Cp (l:=[(11,_,_,_),(12,_,_,_),(13,_,_,u64 f)]) ⟨IK  d,Fs  e,Hl  g,trivial⟩) (Ew1 i) ?_;exact Sr <|Rr
theorem QL{a b r}(h:Nn a b=some r):Con B 60 [u64 a,.sl false (L cU8 b)] [] (fun r' σ'=>r'=.tup [.agg [u64 r.1.C,u64 r.1.S],i64 r.2]∧σ'=[]):=by
 refine Cw 45 [.cell 4 50,.tmp 5] Tryz.func60 (fun F hE=>?_) h;unfold Nn;refine T0 [0,1,4] ?_;refine Bd fun x d =>Te [0,1,4,6,7] (o1 12 (Iw d)) Ev ?_
 refine Sq <|T0 [0,1,4,6,7,16] ?_
 refine Cd ?_ ?_
 ·refine T0 [4,5] ?_;exact Sr <|Tr <|Rr
 ·refine Sk <|Tn <|Sq <|T0 [0,1,4,6,21] ?_
  refine Cd ?_ ?_
  ·refine T0 [4,5] ?_;exact Sr <|Tr <|Rr
  ·refine Sk <|Tn <|Bd fun y e =>Bd fun z f =>Bd fun g i =>?_
   have j:¬(1152921504606845398:UInt64)=0:=by decide
   refine Lt fun k n =>Te (fr':=[(0,_),(1,_),(4,_),(6,_),(8,u64 k)]) [0,1,4,6,8] (Cp (l:=[(26,_,_,_),(27,_,_,_),(28,_,_,u64 g)]) ⟨IK  e,Fs  f,Hl  i,trivial⟩) (Ew2 j n) ?_
   refine Bd fun aa o =>Bd fun c p =>Te [0,4,8,9] (o2 32 (FO o) 35 (GS p)) Ev ?_
   refine Bd fun q s =>Bd fun ab t =>?_
   have u:¬(1152921504606845399:UInt64)=0:=by decide
   refine Lt fun v w =>Te (σ':=[.box [u64 c,u64 v] false,_,_]) [4,5] (As (l:=[]) (m:=[(38,48,[u64 (1152921504606845399:UInt64)],[.box [u64 (0:UInt64),u64 (0:UInt64)] false,.buf 1 (L R0 ([a]:List UInt64)) true],_,_),(41,82,[u64 c,u64 a,.ref 2 0],[.box [u64 (0:UInt64),u64 (0:UInt64)] false,.buf 1 (L R0 ([a]:List UInt64)) true,.box [u64 q] false],_,_)]) trivial ⟨(wc (G4 s) []),(wc (En t) [2]),trivial⟩) (Ew2 u w) ?_
   exact Sr <|Rr
theorem Hv{a r}(h:Fa a=some r):Con B 101 [.agg [i64 a.Za,i64 a.Ref.Zb,i64 a.Ref.No,i64 a.Zn1,i64 a.Zb1,i64 a.Zc,i64 a.Zo1,i64 a.Zw,i64 a.To,i64 a.Code,i64 a.Zp1,i64 a.Zq1,i64 a.Zr1,i64 a.Zs1,.str a.Zt1,.sl false (L Aj a.Zu1)]] [] (fun r' σ'=>r'=.bool r∧σ'=[]):=by
 refine Cw 32 [.tmp 2] Tryz.func101 (fun F hE=>?_) h;unfold Fa;refine T0 [1] ?_;refine Sq <|T0 [1,6] ?_
 refine Cd ?_ ?_
 ·refine T0 [2] ?_;exact Sr <|Tr <|Rr
 ·refine Sk <|Tn <|?_
  refine Tw [2] (fun e=>⟨Ar 32 [(2,.bool e)],[]⟩) ?_ ?_
  ·intro _;refine Sp (fun b=>?_) fun b=>?_
   ·refine Sp (fun c=>?_) fun c=>?_
    ·refine Sp (fun d=>?_) fun d=>?_
     ·exact Lf Ac (Ew3 b c d) (ws [])
     ·exact Lf Ac (Ew3 b c d) (ws [])
    ·exact Lf Ac (Ew2 b c) (ws [])
   ·exact Lf Ac (Ew1 b) (ws [])
  intro e;exact Sr <|Rr
theorem GZ{a d e r}(h:Cj a d e=some r):Con B 150 [.ref 0 0,.ref 0 12,i64 d,i64 e] [.box [.sl false (L Ag a.p.Zg1.Ze),.sl false (L Al a.p.Zg1.Zf),.sl false (L Aa a.p.Zh1.Zx),.sl false (L Ae a.p.Zh1.Zy),.sl false (L Ai a.p.Zh1.Zz),.sl false (L Ah a.p.Zh1.Za1),.sl false (L Af a.p.Zi1),.sl false (L Ad a.p.Zj1),.sl false (L Ab a.p.Zk1),i64 a.it.Za,i64 a.it.Ref.Zb,i64 a.it.Ref.No,i64 a.it.Zn1,i64 a.it.Zb1,i64 a.it.Zc,i64 a.it.Zo1,i64 a.it.Zw,i64 a.it.To,i64 a.it.Code,i64 a.it.Zp1,i64 a.it.Zq1,i64 a.it.Zr1,i64 a.it.Zs1,.str a.it.Zt1,.sl false (L Aj a.it.Zu1),.bool a.ok] false] (fun r' σ'=>r'=.tup []∧σ'=[.box [.sl false (L Ag r.p.Zg1.Ze),.sl false (L Al r.p.Zg1.Zf),.sl false (L Aa r.p.Zh1.Zx),.sl false (L Ae r.p.Zh1.Zy),.sl false (L Ai r.p.Zh1.Zz),.sl false (L Ah r.p.Zh1.Za1),.sl false (L Af r.p.Zi1),.sl false (L Ad r.p.Zj1),.sl false (L Ab r.p.Zk1),i64 r.it.Za,i64 r.it.Ref.Zb,i64 r.it.Ref.No,i64 r.it.Zn1,i64 r.it.Zb1,i64 r.it.Zc,i64 r.it.Zo1,i64 r.it.Zw,i64 r.it.To,i64 r.it.Code,i64 r.it.Zp1,i64 r.it.Zq1,i64 r.it.Zr1,i64 r.it.Zs1,.str r.it.Zt1,.sl false (L Aj r.it.Zu1),.bool r.ok] false]):=by
 refine Co 1 31 [] Tryz.func150 (fun F hE=>?_) h;unfold Cj;refine Tw [1] (fun f=>⟨Ar 31 [(1,.ref 0 12)],[.box [.sl false (L Ag a.p.Zg1.Ze),.sl false (L Al a.p.Zg1.Zf),.sl false (L Aa a.p.Zh1.Zx),.sl false (L Ae a.p.Zh1.Zy),.sl false (L Ai a.p.Zh1.Zz),.sl false (L Ah a.p.Zh1.Za1),.sl false (L Af a.p.Zi1),.sl false (L Ad a.p.Zj1),.sl false (L Ab a.p.Zk1),i64 a.it.Za,i64 a.it.Ref.Zb,i64 a.it.Ref.No,i64 a.it.Zn1,i64 a.it.Zb1,i64 a.it.Zc,i64 a.it.Zo1,i64 a.it.Zw,i64 a.it.To,i64 a.it.Code,i64 a.it.Zp1,i64 a.it.Zq1,i64 a.it.Zr1,i64 a.it.Zs1,.str a.it.Zt1,.sl false (L Aj a.it.Zu1),.bool f] false]⟩) ?_ ?_
 ·intro _;refine Sp (fun b=>?_) fun b=>?_
  ·refine Sp (fun c=>?_) fun c=>?_
   ·exact Lf Ac (Ew2 b c) (ws [0])
   ·exact Lf Ac (Ew2 b c) (ws [0])
  ·exact Lf Ac (Ew1 b) (ws [0])
 intro f;refine F0 [] ?_;exact Ro [0]
theorem CQ{a d e r}(h:Bt a d e=some r):Con B 150 [.ref 0 0,.ref 0 14,i64 d,i64 e] [.box [.sl false (L Ag a.p.Zg1.Ze),.sl false (L Al a.p.Zg1.Zf),.sl false (L Aa a.p.Zh1.Zx),.sl false (L Ae a.p.Zh1.Zy),.sl false (L Ai a.p.Zh1.Zz),.sl false (L Ah a.p.Zh1.Za1),.sl false (L Af a.p.Zi1),.sl false (L Ad a.p.Zj1),.sl false (L Ab a.p.Zk1),i64 a.it.Za,i64 a.it.Ref.Zb,i64 a.it.Ref.No,i64 a.it.Zn1,i64 a.it.Zb1,i64 a.it.Zc,i64 a.it.Zo1,i64 a.it.Zw,i64 a.it.To,i64 a.it.Code,i64 a.it.Zp1,i64 a.it.Zq1,i64 a.it.Zr1,i64 a.it.Zs1,.str a.it.Zt1,.sl false (L Aj a.it.Zu1),.bool a.ok] false] (fun r' σ'=>r'=.tup []∧σ'=[.box [.sl false (L Ag r.p.Zg1.Ze),.sl false (L Al r.p.Zg1.Zf),.sl false (L Aa r.p.Zh1.Zx),.sl false (L Ae r.p.Zh1.Zy),.sl false (L Ai r.p.Zh1.Zz),.sl false (L Ah r.p.Zh1.Za1),.sl false (L Af r.p.Zi1),.sl false (L Ad r.p.Zj1),.sl false (L Ab r.p.Zk1),i64 r.it.Za,i64 r.it.Ref.Zb,i64 r.it.Ref.No,i64 r.it.Zn1,i64 r.it.Zb1,i64 r.it.Zc,i64 r.it.Zo1,i64 r.it.Zw,i64 r.it.To,i64 r.it.Code,i64 r.it.Zp1,i64 r.it.Zq1,i64 r.it.Zr1,i64 r.it.Zs1,.str r.it.Zt1,.sl false (L Aj r.it.Zu1),.bool r.ok] false]):=by
 refine Co 1 31 [] Tryz.func150 (fun F hE=>?_) h;unfold Bt;refine Tw [1] (fun f=>⟨Ar 31 [(1,.ref 0 14)],[.box [.sl false (L Ag a.p.Zg1.Ze),.sl false (L Al a.p.Zg1.Zf),.sl false (L Aa a.p.Zh1.Zx),.sl false (L Ae a.p.Zh1.Zy),.sl false (L Ai a.p.Zh1.Zz),.sl false (L Ah a.p.Zh1.Za1),.sl false (L Af a.p.Zi1),.sl false (L Ad a.p.Zj1),.sl false (L Ab a.p.Zk1),i64 a.it.Za,i64 a.it.Ref.Zb,i64 a.it.Ref.No,i64 a.it.Zn1,i64 a.it.Zb1,i64 a.it.Zc,i64 a.it.Zo1,i64 a.it.Zw,i64 a.it.To,i64 a.it.Code,i64 a.it.Zp1,i64 a.it.Zq1,i64 a.it.Zr1,i64 a.it.Zs1,.str a.it.Zt1,.sl false (L Aj a.it.Zu1),.bool f] false]⟩) ?_ ?_
 ·intro _;refine Sp (fun b=>?_) fun b=>?_
  ·refine Sp (fun c=>?_) fun c=>?_
   ·exact Lf Ac (Ew2 b c) (ws [0])
   ·exact Lf Ac (Ew2 b c) (ws [0])
  ·exact Lf Ac (Ew1 b) (ws [0])
 intro f;refine F0 [] ?_;exact Ro [0]
theorem Kn{e f a r}(h:Hp e f a=some r):Con B 118 [u64 e,u64 f,u64 a] [] (fun r' σ'=>r'=u64 r∧σ'=[]):=by
 refine Cw 26 [.tmp 6] Tryz.func118 (fun F hE=>?_) h;unfold Hp;refine T0 [0,1,2] ?_;refine T0 [0,1,2,7] ?_;refine Ja (fun g=>⟨Ar 26 [(7,u64 g)],[]⟩) ?_ ?_
 ·intro q;refine Sb ?_;refine Lo (fun⟨b,c,d⟩=>⟨Ar 26 [(0,u64 b),(1,u64 c),(2,u64 a),(7,u64 d)],[]⟩) (ws []) ?_;rintro⟨b,c,d⟩ s j k l;show FP a b c d=some j→_;unfold FP;refine Sq <|T0 [0,1,2,7,9] ?_
  refine Cd ?_ ?_
  ·refine Sk <|Tn <|Sq <|Sb <|?_
   refine Ja (fun i=>⟨Ar 26 [(0,u64 b),(1,u64 c),(2,u64 a),(7,u64 i)],[]⟩) ?_ ?_
   ·intro t;have m:¬(2:UInt64)=0:=by decide
    refine Te [0,1,2,7,14] Ac (Ew1 m) ?_;refine Cd ?_ ?_
    ·refine Ck fun n =>Fe [0,1,2,7] Ac (Ew1 n) ?_
     exact Jm (ws [])
    ·exact Sk <|Jm (ws [])
   intro i;refine Ck fun o =>Fe [0,1,2,7] Ac (Ew1 o) ?_
   refine Bn <|Tn <|?_
   have p:¬(2:UInt64)=0:=by decide
   refine Fe [0,1,2,7] Ac (Ew1 p) ?_;exact Ln (ws [])
  ·refine Sx <|Tx <|Ly l k <|Bx <|?_
   exact Jm ((ws (l':=[(7,u64 d)]) (σ':=[]) []).trans (ws []))
 intro g;refine T0 [6] ?_;exact Sr <|Rr
theorem NO{d e r}(h:Lm d e=some r):Con B 77 [u64 d,u64 e] [] (fun r' σ'=>r'=u64 r∧σ'=[]):=by
 refine Cw 22 [.tmp 4] Tryz.func77 (fun F hE=>?_) h;unfold Lm;refine T0 [0,1] ?_;refine T0 [0,1,5] ?_;refine Ja (fun f=>⟨Ar 22 [(5,u64 f)],[]⟩) ?_ ?_
 ·intro t;have i:¬(2305843009213690799:UInt64)=0:=by decide
  refine Lt fun j k =>Te (fr':=[(0,u64 j),(1,_),(5,_)]) [0,1,5] Ac (Ew2 i k) ?_
  refine Sb ?_;refine Lo (fun⟨a,b,c⟩=>⟨Ar 22 [(0,u64 a),(1,u64 b),(5,u64 c)],[]⟩) (ws []) ?_;rintro⟨a,b,c⟩ u l m n;show H1 a b c=some l→_;unfold H1;refine Sq <|T0 [0,1,5,9] ?_
  refine Cd ?_ ?_
  ·refine Sk <|Tn <|Sq <|Sb <|?_
   refine Ja (fun g=>⟨Ar 22 [(0,u64 a),(1,u64 b),(5,u64 g)],[]⟩) ?_ ?_
   ·intro v;have o:¬(2:UInt64)=0:=by decide
    refine Te [0,1,5,14] Ac (Ew1 o) ?_;refine Cd ?_ ?_
    ·refine Bd fun w p =>Fe [0,1,5] (o1 17 (Kn p)) Ev ?_
     exact Jm (ws [])
    ·exact Sk <|Jm (ws [])
   intro g;refine Bd fun x q =>Fe [0,1,5] (o1 20 (Kn q)) Ev ?_
   refine Bn <|Tn <|?_
   have s:¬(2:UInt64)=0:=by decide
   refine Fe [0,1,5] Ac (Ew1 s) ?_;exact Ln (ws [])
  ·refine Sx <|Tx <|Ly n m <|Bx <|?_
   exact Jm ((ws (l':=[(5,u64 c)]) (σ':=[]) []).trans (ws []))
 intro f;refine T0 [4] ?_;exact Sr <|Rr
theorem PK{a r}(h:KH a=some r):Con B 56 [u64 a] [] (fun r' σ'=>r'=.tup [u64 r.1,i64 r.2]∧σ'=[]):=by
 refine Cw 12 [.tmp 2,.tmp 3] Tryz.func56 (fun F hE=>?_) h;unfold KH;refine T0 [0] ?_;refine Sq ?_;refine Tw [0,9] (fun c=>⟨Ar 12 [(0,u64 a),(9,.bool c)],[]⟩) ?_ ?_
 ·intro _;refine Sp (fun b=>?_) fun b=>?_
  ·exact Lf Ac (Ew1 b) (ws [])
  ·exact Lf Ac (Ew1 b) (ws [])
 intro c;refine Cd ?_ ?_
 ·refine T0 [2,3] ?_;exact Sr <|Tr <|Rr
 ·refine Sk <|Tn <|Bd fun e d =>Te [2,3] (o1 11 (NO d)) Ev ?_
  exact Sr <|Rr
theorem NB{r}(h:r14_Example  = some r):Con B 20 [] [] (fun r' σ'=>r'=.agg [.sl false (L Ag r.Zg1.Ze),.sl false (L Al r.Zg1.Zf),.sl false (L Aa r.Zh1.Zx),.sl false (L Ae r.Zh1.Zy),.sl false (L Ai r.Zh1.Zz),.sl false (L Ah r.Zh1.Za1),.sl false (L Af r.Zi1),.sl false (L Ad r.Zj1),.sl false (L Ab r.Zk1)]∧σ'=[]):=by
 refine Cw 50 [.cell 0 36] Tryz.func20 (fun F hE=>?_) h;unfold r14_Example;refine T0 [0] ?_;refine T0 [0,1] ?_;refine Lt fun a k =>Te (σ':=[_,.box [.bs true 2 (a.length) 0 (a.length),.sl true (L Al ([])),.sl true (L Aa ([])),.sl true (L Ae ([])),.sl true (L Ai ([])),.sl true (L Ah ([])),.sl true (L Af ([])),.sl true (L Ad ([])),.sl true (L Ab ([]))] false,.buf 3 (L Ag a) false]) [0,1] Ac (Ew1 k) ?_
 refine Lt fun b l =>Te (σ':=[_,.box [.bs true 2 (a.length) 0 (a.length),.bs true 3 (b.length) 0 (b.length),.sl true (L Aa ([])),.sl true (L Ae ([])),.sl true (L Ai ([])),.sl true (L Ah ([])),.sl true (L Af ([])),.sl true (L Ad ([])),.sl true (L Ab ([]))] false,_,.buf 5 (L Al b) false]) [0,1] Ac (Ew1 l) ?_
 refine Lt fun c m =>Te (σ':=[_,.box [.bs true 2 (a.length) 0 (a.length),.bs true 3 (b.length) 0 (b.length),.bs true 4 (c.length) 0 (c.length),.sl true (L Ae ([])),.sl true (L Ai ([])),.sl true (L Ah ([])),.sl true (L Af ([])),.sl true (L Ad ([])),.sl true (L Ab ([]))] false,_,_,.buf 8 (L Aa c) false]) [0,1] Ac (Ew1 m) ?_
 refine Lt fun d n =>Te (σ':=[_,.box [.bs true 2 (a.length) 0 (a.length),.bs true 3 (b.length) 0 (b.length),.bs true 4 (c.length) 0 (c.length),.bs true 5 (d.length) 0 (d.length),.sl true (L Ai ([])),.sl true (L Ah ([])),.sl true (L Af ([])),.sl true (L Ad ([])),.sl true (L Ab ([]))] false,_,_,_,.buf 5 (L Ae d) false]) [0,1] Ac (Ew1 n) ?_
 refine Lt fun e o =>Te (σ':=[_,.box [.bs true 2 (a.length) 0 (a.length),.bs true 3 (b.length) 0 (b.length),.bs true 4 (c.length) 0 (c.length),.bs true 5 (d.length) 0 (d.length),.sl true (L Ai ([])),.sl true (L Ah ([])),.bs true 6 (e.length) 0 (e.length),.sl true (L Ad ([])),.sl true (L Ab ([]))] false,_,_,_,_,.buf 3 (L Af e) false]) [0,1] Ac (Ew1 o) ?_
 refine Lt fun f p =>Te (σ':=[_,.box [.bs true 2 (a.length) 0 (a.length),.bs true 3 (b.length) 0 (b.length),.bs true 4 (c.length) 0 (c.length),.bs true 5 (d.length) 0 (d.length),.sl true (L Ai ([])),.sl true (L Ah ([])),.bs true 6 (e.length) 0 (e.length),.bs true 7 (f.length) 0 (f.length),.sl true (L Ab ([]))] false,_,_,_,_,_,.buf 1 (L Ad f) false]) [0,1] Ac (Ew1 p) ?_
 refine Ja (fun g=>⟨Ar 50 [(0,.ref 0 0),(1,.ref 1 0)],[.box [.sl true (L Ag ([])),.sl true (L Al ([])),.sl true (L Aa ([])),.sl true (L Ae ([])),.sl true (L Ai ([])),.sl true (L Ah ([])),.sl true (L Af ([])),.sl true (L Ad ([])),.sl true (L Ab ([]))] false,.box [.bs true 2 (a.length) 0 (a.length),.bs true 3 (b.length) 0 (b.length),.bs true 4 (c.length) 0 (c.length),.bs true 5 (d.length) 0 (d.length),.sl true (L Ai ([])),.sl true (L Ah ([])),.bs true 6 (e.length) 0 (e.length),.bs true 7 (f.length) 0 (f.length),.bs false 8 (g.length) 0 (g.length)] false,.buf 3 (L Ag a) false,.buf 5 (L Al b) false,.buf 8 (L Aa c) false,.buf 5 (L Ae d) false,.buf 3 (L Af e) false,.buf 1 (L Ad f) false,.buf 16 (L Ab g) false]⟩) ?_ ?_
 ·intro z;refine T0 [0,1,2] ?_;refine Sb ?_;refine Lo (fun(v:Int×List ApE)=>(⟨Ar 50 [(0,.ref 0 0),(1,.ref 1 0),(2,i64 v.1)],[.box [.sl true (L Ag ([])),.sl true (L Al ([])),.sl true (L Aa ([])),.sl true (L Ae ([])),.sl true (L Ai ([])),.sl true (L Ah ([])),.sl true (L Af ([])),.sl true (L Ad ([])),.sl true (L Ab ([]))] false,.box [.bs true 2 (a.length) 0 (a.length),.bs true 3 (b.length) 0 (b.length),.bs true 4 (c.length) 0 (c.length),.bs true 5 (d.length) 0 (d.length),.sl true (L Ai ([])),.sl true (L Ah ([])),.bs true 6 (e.length) 0 (e.length),.bs true 7 (f.length) 0 (f.length),.bs false 8 (v.2.length) 0 (v.2.length)] false,.buf 3 (L Ag a) false,.buf 5 (L Al b) false,.buf 8 (L Aa c) false,.buf 5 (L Ae d) false,.buf 3 (L Af e) false,.buf 1 (L Ad f) false,.buf 16 (L Ab v.2) false]⟩:St)) ((GR 1 8 16 rfl rfl).trans (ws [0,1,2,3,4,5,6,7,8])) ?_;rintro⟨q,i⟩ aa s t u;show GY q i=some s→_;unfold GY;refine Sq <|T0 [0,1,2,32] ?_
  refine Cd ?_ ?_
  ·refine Sk <|Tn <|Sq <|Sb <|Bd fun ab w =>Te [0,1,2,3] (o1 39 (PK w)) Ev ?_
   refine Ck fun x =>Lt fun j y =>Fe (σ':=[_,.box [.bs true 2 (a.length) 0 (a.length),.bs true 3 (b.length) 0 (b.length),.bs true 4 (c.length) 0 (c.length),.bs true 5 (d.length) 0 (d.length),.sl true (L Ai ([])),.sl true (L Ah ([])),.bs true 6 (e.length) 0 (e.length),.bs true 7 (f.length) 0 (f.length),.bs false 8 (j.length) 0 (j.length)] false,_,_,_,_,_,_,.buf 16 (L Ab j) false,_]) [0,1,2] Ac (Ew2 x y) ?_
   refine Bn <|Tn <|F0 [0,1,2] ?_
   exact Ln (ws [0,1,2,3,4,5,6,7,8])
  ·refine Sx <|Tx <|Ly u t <|Bx <|?_
   exact Jm ((ws (l':=[(0,.ref 0 0),(1,.ref 1 0)]) (σ':=[.box [.sl true (L Ag ([])),.sl true (L Al ([])),.sl true (L Aa ([])),.sl true (L Ae ([])),.sl true (L Ai ([])),.sl true (L Ah ([])),.sl true (L Af ([])),.sl true (L Ad ([])),.sl true (L Ab ([]))] false,.box [.bs true 2 (a.length) 0 (a.length),.bs true 3 (b.length) 0 (b.length),.bs true 4 (c.length) 0 (c.length),.bs true 5 (d.length) 0 (d.length),.sl true (L Ai ([])),.sl true (L Ah ([])),.bs true 6 (e.length) 0 (e.length),.bs true 7 (f.length) 0 (f.length),.bs false 8 (i.length) 0 (i.length)] false,.buf 3 (L Ag a) false,.buf 5 (L Al b) false,.buf 8 (L Aa c) false,.buf 5 (L Ae d) false,.buf 3 (L Af e) false,.buf 1 (L Ad f) false,.buf 16 (L Ab i) false]) [0,1,2,3,4,5,6,7,8]).trans (ws [0,1,2,3,4,5,6,7,8]))
 intro g;refine T0 [0] ?_;exact Sr <|Rr
theorem E3{a r}(h:C7 a=some r):Con B 22 [i64 a] [] (fun r' σ'=>r'=.agg [i64 r.Za,i64 r.Ref.Zb,i64 r.Ref.No,i64 r.Zn1,i64 r.Zb1,i64 r.Zc,i64 r.Zo1,i64 r.Zw,i64 r.To,i64 r.Code,i64 r.Zp1,i64 r.Zq1,i64 r.Zr1,i64 r.Zs1,.str r.Zt1,.sl false (L Aj r.Zu1)]∧σ'=[]):=by
 refine Cw 5 [.cell 2 47] Tryz.func22 (fun F hE=>?_) h;unfold C7;refine T0 [0,2] ?_;refine T0 [2] ?_;exact Sr <|Rr
theorem Lq{a r}(h:Fj a=some r):Con B 128 [.agg [i64 a.Za,i64 a.Zb,i64 a.Zc]] [] (fun r' σ'=>r'=.bool r∧σ'=[]):=by
 refine Cw 42 [.tmp 2] Tryz.func128 (fun F hE=>?_) h;unfold Fj;refine T0 [1] ?_;refine Sq ?_;refine Tw [1,20] (fun g=>⟨Ar 42 [(1,.ref 0 0),(20,.bool g)],[.box [i64 a.Za,i64 a.Zb,i64 a.Zc] false]⟩) ?_ ?_
 ·intro _;refine Sp (fun b=>?_) fun b=>?_
  ·exact Lf Ac (Ew1 b) (ws [0])
  ·refine Sp (fun c=>?_) fun c=>?_
   ·exact Lf Ac (Ew2 b c) (ws [0])
   ·refine Sp (fun e=>?_) fun e=>?_
    ·exact Lf Ac (Ew3 b c e) (ws [0])
    ·exact Lf Ac (Ew3 b c e) (ws [0])
 intro g;refine Cd ?_ ?_
 ·refine T0 [2] ?_;exact Sr <|Tr <|Rr
 ·refine Sk <|Tn <|Sq <|T0 [1,23] ?_
  refine Cd ?_ ?_
  ·refine T0 [2] ?_;exact Sr <|Tr <|Rr
  ·refine Sk <|Tn <|?_
   refine Tw [2] (fun i=>⟨Ar 42 [(2,.bool i)],[]⟩) ?_ ?_
   ·intro _;refine Sp (fun d=>?_) fun d=>?_
    ·refine Sp (fun f=>?_) fun f=>?_
     ·exact Lf Ac (Ew2 d f) (ws [])
     ·exact Lf Ac (Ew2 d f) (ws [])
    ·exact Lf Ac (Ew1 d) (ws [])
   intro i;exact Sr <|Rr
theorem K6{a r}(h:EO a=some r):Con B 96 [.agg [.sl false (L Ag a.Ze),.sl false (L Al a.Zf)]] [] (fun r' σ'=>r'=i64 r∧σ'=[]):=by
 refine Cw 84 [.tmp 2] Tryz.func96 (fun F hE=>?_) h;unfold EO;refine T0 [1] ?_;refine Lt fun b t =>Te (fr':=[(1,_),(3,i64 b)]) [1,3] Ac (Ew1 t) ?_
 refine Sq ?_;refine Tw [1,3,18] (fun m=>⟨Ar 84 [(1,.ref 0 0),(3,i64 b),(18,.bool m)],[.box [.sl false (L Ag a.Ze),.sl false (L Al a.Zf)] false]⟩) ?_ ?_
 ·intro _;refine Sp (fun j=>?_) fun j=>?_
  ·exact Lf Ac (Ew1 j) (ws [0])
  ·exact Lf Ac (Ew1 j) (ws [0])
 intro m;refine Cd ?_ ?_
 ·refine T0 [2] ?_;exact Sr <|Tr <|Rr
 ·refine Sk <|Tn <|?_
  refine Jo (fun _=>⟨Ar 84 [(1,.ref 0 0),(3,i64 b)],[.box [.sl false (L Ag a.Ze),.sl false (L Al a.Zf)] false]⟩) ?_ ?_
  ·intro ar u;refine T0 [1,3,20,21,22] ?_;refine Sb ?_;refine Lo (fun k=>⟨Ar 84 [(1,.ref 0 0),(3,i64 b),(20,.sl false (L Ag a.Ze)),(21,i64 (a.Ze.length:Int)),(22,i64 k)],[.box [.sl false (L Ag a.Ze),.sl false (L Al a.Zf)] false]⟩) (ws [0]) ?_;rintro k au v n o;show Cz a k=some v→_;unfold Cz;refine T0 [1,3,20,21,22,23] ?_;refine Sq <|Cd ?_ ?_
   ·refine Sk <|Tn <|Sq <|Sb <|Ck fun w =>Lt fun x y =>Lt fun z aa =>Lt fun ab ac =>Te (σ':=[_,.box [i64 x,i64 z,i64 ab] false]) [1,3,5,20,21,22] Ac (Ew4 (qR w) y aa ac) ?_
    refine Bd fun av ad =>Te [1,3,20,21,22,28] (o1 27 (Lq ad)) Ev ?_
    refine Cd ?_ ?_
    ·refine T0 [2] ?_;exact Sr <|Br <|Tr <|Lr o n <|Br <|Jr u <|Rr
    ·refine Sk <|Bn <|Tn <|F0 [1,3,20,21,22] ?_
     exact Ln (ws [0])
   ·refine Sx <|Tx <|Lx o n <|Bx <|?_
    exact Jn ((ws (l':=[(1,.ref 0 0),(3,i64 b)]) (σ':=[.box [.sl false (L Ag a.Ze),.sl false (L Al a.Zf)] false]) [0]).trans (ws [0]))
  intro _;refine Jo (fun _=>⟨Ar 84 [],[]⟩) ?_ ?_
  ·intro aw ae;refine T0 [3,31,32,33] ?_;refine Sb ?_;refine Lo (fun g=>⟨Ar 84 [(3,i64 b),(31,.sl false (L Al a.Zf)),(32,i64 (a.Zf.length:Int)),(33,i64 g)],[]⟩) (ws []) ?_;rintro g ax af p q;show Cy a b g=some af→_;unfold Cy;refine T0 [3,31,32,33,34] ?_;refine Sq <|Cd ?_ ?_
   ·refine Sk <|Tn <|Sq <|Sb <|Ck fun ag =>Lt fun ah ai =>Lt fun aj ak =>Lt fun al am =>Lt fun an ao =>Lt fun ap aq =>Te (σ':=[.box [i64 ah,i64 aj,i64 al,i64 an,i64 ap] false]) [3,7,31,32,33] Ac (Ev (by simp only[go_sem,qR ag,ai,ak,am,ao,aq];exact AY)) ?_
    refine Tw [3,31,32,33,82] (fun s=>⟨Ar 84 [(3,i64 b),(31,.sl false (L Al a.Zf)),(32,i64 (a.Zf.length:Int)),(33,i64 g),(82,.bool s)],[]⟩) ?_ ?_
    ·intro _;refine Sp (fun c=>?_) fun c=>?_
     ·exact Lf Ac (Ew1 c) (ws [])
     ·refine Sp (fun d=>?_) fun d=>?_
      ·exact Lf Ac (Ew2 c d) (ws [])
      ·refine Sp (fun e=>?_) fun e=>?_
       ·exact Lf Ac (Ew3 c d e) (ws [])
       ·refine Sp (fun f=>?_) fun f=>?_
        ·exact Lf Ac (Ew4 c d e f) (ws [])
        ·refine Sp (fun i=>?_) fun i=>?_
         ·exact Lf Ac (Ew5 c d e f i) (ws [])
         ·refine Sp (fun l=>?_) fun l=>?_
          ·exact Lf Ac (Ev (by simp only[go_sem,c,d,e,f,i,l];exact AY)) (ws [])
          ·exact Lf Ac (Ev (by simp only[go_sem,c,d,e,f,i,l];exact AY)) (ws [])
    intro s;refine Cd ?_ ?_
    ·refine T0 [2] ?_;exact Sr <|Br <|Tr <|Lr q p <|Br <|Jr ae <|Rr
    ·refine Sk <|Bn <|Tn <|F0 [3,31,32,33] ?_
     exact Ln (ws [])
   ·refine Sx <|Tx <|Lx q p <|Bx <|?_
    exact Jn ((ws (l':=[]) (σ':=[]) []).trans (ws []))
  intro _;refine T0 [2] ?_;exact Sr <|Rr
theorem A5{a b r}(h:AC a b=some r):Con B 129 [.bool a,.ref 0 0] [.box [i64 b] false] (fun r' σ'=>r'=.tup []∧σ'=[.box [i64 r] false]):=by
 refine Co 1 5 [] Tryz.func129 (fun F hE=>?_) h;unfold AC;refine T0 [1,4] ?_;refine Cd ?_ ?_
 ·refine F0 [] ?_;exact Ro [0]
 ·exact Sk <|Ro [0]
theorem Aq{b c d r}(h:A6 b c d=some r):Con B 98 [i64 b,i64 c,i64 d] [] (fun r' σ'=>r'=.bool r∧σ'=[]):=by
 refine Cw 15 [.tmp 6] Tryz.func98 (fun F hE=>?_) h;unfold A6;refine T0 [0,1,2] ?_;refine Tw [6] (fun e=>⟨Ar 15 [(6,.bool e)],[]⟩) ?_ ?_
 ·intro _;refine Sp (fun a=>?_) fun a=>?_
  ·exact Lf Ac (Ew1 a) (ws [])
  ·exact Lf Ac (Ew1 a) (ws [])
 intro e;exact Sr <|Rr
theorem NN{a r}(h:G0 a=some r):Con B 97 [.agg [.sl false (L Aa a.Zx),.sl false (L Ae a.Zy),.sl false (L Ai a.Zz),.sl false (L Ah a.Za1)]] [] (fun r' σ'=>r'=i64 r∧σ'=[]):=by
 refine Cw 206 [.tmp 2] Tryz.func97 (fun F hE=>?_) h;unfold G0;refine T0 [1] ?_;refine Sq ?_;refine Tw [1,38] (fun aI=>⟨Ar 206 [(1,.ref 0 0),(38,.bool aI)],[.box [.sl false (L Aa a.Zx),.sl false (L Ae a.Zy),.sl false (L Ai a.Zz),.sl false (L Ah a.Za1)] false]⟩) ?_ ?_
 ·intro _;refine Sp (fun aa=>?_) fun aa=>?_
  ·exact Lf Ac (Ew1 aa) (ws [0])
  ·refine Sp (fun aj=>?_) fun aj=>?_
   ·exact Lf Ac (Ew2 aa aj) (ws [0])
   ·refine Sp (fun au=>?_) fun au=>?_
    ·exact Lf Ac (Ew3 aa aj au) (ws [0])
    ·exact Lf Ac (Ew3 aa aj au) (ws [0])
 intro aI;refine Cd ?_ ?_
 ·refine T0 [2] ?_;exact Sr <|Tr <|Rr
 ·refine Sk <|Tn <|T0 [1,3] ?_
  refine T0 [1,3,4] ?_;refine Ja (fun aJ=>⟨Ar 206 [(1,.ref 0 0),(3,.ref 1 0),(4,.fn 129 [.ref 1 0])],[.box [.sl false (L Aa a.Zx),.sl false (L Ae a.Zy),.sl false (L Ai a.Zz),.sl false (L Ah a.Za1)] false,.box [i64 aJ] false]⟩) ?_ ?_
  ·intro cf;refine T0 [1,3,4,41,42,43] ?_;refine Sb ?_;refine Lo (fun(v:Int×Int)=>(⟨Ar 206 [(1,.ref 0 0),(3,.ref 1 0),(4,.fn 129 [.ref 1 0]),(41,.sl false (L Aa a.Zx)),(42,i64 (a.Zx.length:Int)),(43,i64 v.1)],[.box [.sl false (L Aa a.Zx),.sl false (L Ae a.Zy),.sl false (L Ai a.Zz),.sl false (L Ah a.Za1)] false,.box [i64 v.2] false]⟩:St)) (ws [0,1]) ?_;rintro⟨x,aK⟩ cg a2 a3 a4;show CX a x aK=some a2→_;unfold CX;refine T0 [1,3,4,41,42,43,44] ?_;refine Sq <|Cd ?_ ?_
   ·refine Sk <|Tn <|?_
    refine Ja (fun aL=>⟨Ar 206 [(1,.ref 0 0),(3,.ref 1 0),(4,.fn 129 [.ref 1 0]),(41,.sl false (L Aa a.Zx)),(42,i64 (a.Zx.length:Int)),(43,i64 x)],[.box [.sl false (L Aa a.Zx),.sl false (L Ae a.Zy),.sl false (L Ai a.Zz),.sl false (L Ah a.Za1)] false,.box [i64 aL] false]⟩) ?_ ?_
    ·intro ch;refine Sb <|Ck fun a5 =>Lt fun d a6 =>Lt fun e a7 =>Lt fun f a8 =>Lt fun g a9 =>Lt fun i ba =>Lt fun j bb =>Lt fun k bc =>Lt fun n bd =>Te (σ':=[_,_,.box [i64 d,i64 e,i64 f,i64 g,i64 i,u64 j,i64 k,i64 n] false]) [1,3,4,6,41,42,43] Ac (Ev (by simp only[go_sem,qR a5,a6,a7,a8,a9,ba,bb,bc,bd];exact AY)) ?_
     refine Ja (fun ab=>⟨Ar 206 [(1,.ref 0 0),(3,.ref 1 0),(4,.fn 129 [.ref 1 0]),(6,.ref 2 0),(41,.sl false (L Aa a.Zx)),(42,i64 (a.Zx.length:Int)),(43,i64 x)],[.box [.sl false (L Aa a.Zx),.sl false (L Ae a.Zy),.sl false (L Ai a.Zz),.sl false (L Ah a.Za1)] false,.box [i64 ab] false,.box [i64 d,i64 e,i64 f,i64 g,i64 i,u64 j,i64 k,i64 n] false]⟩) ?_ ?_
     ·intro ci;refine Lt fun av be =>Lt fun o bf =>Te (fr':=[(1,_),(3,_),(4,_),(6,_),(41,_),(42,_),(43,_),(55,.bs true 3 (o.length) 0 (o.length)),(56,i64 av),(57,_)]) (σ':=[_,_,_,.buf 1 (L GC o) false]) [1,3,4,6,41,42,43,55,56,57] Ac (Ew2 be bf) ?_
      refine Sb ?_;refine Lo (fun(v:Int×Int)=>(⟨Ar 206 [(1,.ref 0 0),(3,.ref 1 0),(4,.fn 129 [.ref 1 0]),(6,.ref 2 0),(41,.sl false (L Aa a.Zx)),(42,i64 (a.Zx.length:Int)),(43,i64 x),(55,.bs true 3 (o.length) 0 (o.length)),(56,i64 av),(57,i64 v.1)],[.box [.sl false (L Aa a.Zx),.sl false (L Ae a.Zy),.sl false (L Ai a.Zz),.sl false (L Ah a.Za1)] false,.box [i64 v.2] false,.box [i64 d,i64 e,i64 f,i64 g,i64 i,u64 j,i64 k,i64 n] false,.buf 1 (L GC o) false]⟩:St)) (ws [0,1,2,3]) ?_;rintro⟨bg,aw⟩ cj bh bi bj;show D6 av o bg aw=some bh→_;unfold D6;refine T0 [1,3,4,6,41,42,43,55,56,57,58] ?_;refine Sq <|Cd ?_ ?_
      ·refine Sk <|Tn <|Sq <|Sb <|Ck fun bk =>Te [1,3,4,6,8,41,42,43,55,56,57] Ac (Ew1 (qR bk)) ?_
       refine Bd fun bl bm =>Bd fun ck bn =>Fe [1,3,4,6,41,42,43,55,56,57] (As (l:=[(63,_,_,_)]) (m:=[(64,129,[.bool bl,.ref 1 0],[.box [.sl false (L Aa a.Zx),.sl false (L Ae a.Zy),.sl false (L Ai a.Zz),.sl false (L Ah a.Za1)] false,.box [i64 aw] false,.box [i64 d,i64 e,i64 f,i64 g,i64 i,u64 j,i64 k,i64 n] false,.buf 1 (L GC o) false],_,_)]) ⟨Aq  bm,trivial⟩ ⟨(wc (A5 bn) [1]),trivial⟩) Ev ?_
       refine Bn <|Tn <|F0 [1,3,4,6,41,42,43,55,56,57] ?_
       exact Ln (ws [0,1,2,3])
      ·refine Sx <|Tx <|Ly bj bi <|Bx <|?_
       exact Jm ((ws (l':=[(1,.ref 0 0),(3,.ref 1 0),(4,.fn 129 [.ref 1 0]),(6,.ref 2 0),(41,.sl false (L Aa a.Zx)),(42,i64 (a.Zx.length:Int)),(43,i64 x)]) (σ':=[.box [.sl false (L Aa a.Zx),.sl false (L Ae a.Zy),.sl false (L Ai a.Zz),.sl false (L Ah a.Za1)] false,.box [i64 aw] false,.box [i64 d,i64 e,i64 f,i64 g,i64 i,u64 j,i64 k,i64 n] false]) [0,1,2]).trans (ws [0,1,2]))
     intro ab;refine Fw [1,3,4,41,42,43] (fun aM=>⟨Ar 206 [(1,.ref 0 0),(3,.ref 1 0),(4,.fn 129 [.ref 1 0]),(41,.sl false (L Aa a.Zx)),(42,i64 (a.Zx.length:Int)),(43,i64 x)],[.box [.sl false (L Aa a.Zx),.sl false (L Ae a.Zy),.sl false (L Ai a.Zz),.sl false (L Ah a.Za1)] false,.box [i64 aM] false]⟩) ?_ ?_
     ·intro _;refine Bd fun cl ax=>?_
      refine Sp (fun ak=>?_) fun ak=>?_
      ·refine Bd fun cm aN=>?_
       refine Sp (fun ay=>?_) fun ay=>?_
       ·refine Bd fun bo bp =>Bd fun cn bq =>?_
        exact Lf (As (l:=[(69,_,_,_),(73,_,_,_),(78,_,_,_)]) (m:=[(80,129,[.bool bo,.ref 1 0],[.box [.sl false (L Aa a.Zx),.sl false (L Ae a.Zy),.sl false (L Ai a.Zz),.sl false (L Ah a.Za1)] false,.box [i64 ab] false,.box [i64 d,i64 e,i64 f,i64 g,i64 i,u64 j,i64 k,i64 n] false],_,_)]) ⟨Aq  ax,Aq  aN,Aq  bp,trivial⟩ ⟨(wc (A5 bq) [1]),trivial⟩) (Ew2 ak ay) (ws [0,1])
       ·refine Bd fun co br=>?_
        exact Lf (As (l:=[(69,_,_,_),(73,_,_,_)]) (m:=[(80,129,[.bool false,.ref 1 0],[.box [.sl false (L Aa a.Zx),.sl false (L Ae a.Zy),.sl false (L Ai a.Zz),.sl false (L Ah a.Za1)] false,.box [i64 ab] false,.box [i64 d,i64 e,i64 f,i64 g,i64 i,u64 j,i64 k,i64 n] false],_,_)]) ⟨Aq  ax,Aq  aN,trivial⟩ ⟨(wc (A5 br) [1]),trivial⟩) (Ew2 ak ay) (ws [0,1])
      ·refine Bd fun cp bt=>?_
       exact Lf (As (l:=[(69,_,_,_)]) (m:=[(80,129,[.bool false,.ref 1 0],[.box [.sl false (L Aa a.Zx),.sl false (L Ae a.Zy),.sl false (L Ai a.Zz),.sl false (L Ah a.Za1)] false,.box [i64 ab] false,.box [i64 d,i64 e,i64 f,i64 g,i64 i,u64 j,i64 k,i64 n] false],_,_)]) ⟨Aq  ax,trivial⟩ ⟨(wc (A5 bt) [1]),trivial⟩) (Ew1 ak) (ws [0,1])
     intro aM;exact Bn <|Jm (ws [0,1])
    intro aL;refine F0 [1,3,4,41,42,43] ?_;exact Ln (ws [0,1])
   ·refine Sx <|Tx <|Ly a4 a3 <|Bx <|?_
    exact Jm ((ws (l':=[(1,.ref 0 0),(3,.ref 1 0),(4,.fn 129 [.ref 1 0])]) (σ':=[.box [.sl false (L Aa a.Zx),.sl false (L Ae a.Zy),.sl false (L Ai a.Zz),.sl false (L Ah a.Za1)] false,.box [i64 aK] false]) [0,1]).trans (ws [0,1]))
  intro aJ;refine Ja (fun aO=>⟨Ar 206 [(1,.ref 0 0),(3,.ref 1 0),(4,.fn 129 [.ref 1 0])],[.box [.sl false (L Aa a.Zx),.sl false (L Ae a.Zy),.sl false (L Ai a.Zz),.sl false (L Ah a.Za1)] false,.box [i64 aO] false]⟩) ?_ ?_
  ·intro cq;refine T0 [1,3,4,83,84,85] ?_;refine Sb ?_;refine Lo (fun(v:Int×Int)=>(⟨Ar 206 [(1,.ref 0 0),(3,.ref 1 0),(4,.fn 129 [.ref 1 0]),(83,.sl false (L Ae a.Zy)),(84,i64 (a.Zy.length:Int)),(85,i64 v.1)],[.box [.sl false (L Aa a.Zx),.sl false (L Ae a.Zy),.sl false (L Ai a.Zz),.sl false (L Ah a.Za1)] false,.box [i64 v.2] false]⟩:St)) (ws [0,1]) ?_;rintro⟨az,ac⟩ cr bu bv bw;show CW a az ac=some bu→_;unfold CW;refine T0 [1,3,4,83,84,85,86] ?_;refine Sq <|Cd ?_ ?_
   ·refine Sk <|Tn <|Sq <|Sb <|Ck fun bx =>Lt fun p bz =>Lt fun q bA =>Lt fun s bB =>Lt fun t bC =>Lt fun u bD =>Te (σ':=[_,_,.box [i64 p,i64 q,i64 s,i64 t,i64 u] false]) [1,3,4,10,83,84,85] Ac (Ev (by simp only[go_sem,qR bx,bz,bA,bB,bC,bD];exact AY)) ?_
    refine Tw [1,3,4,10,83,84,85] (fun al=>⟨Ar 206 [(1,.ref 0 0),(3,.ref 1 0),(4,.fn 129 [.ref 1 0]),(10,.ref 2 0),(83,.sl false (L Ae a.Zy)),(84,i64 (a.Zy.length:Int)),(85,i64 az)],[.box [.sl false (L Aa a.Zx),.sl false (L Ae a.Zy),.sl false (L Ai a.Zz),.sl false (L Ah a.Za1)] false,.box [i64 al] false,.box [i64 p,i64 q,i64 s,i64 t,i64 u] false]⟩) ?_ ?_
    ·intro _;refine Bd fun cs aA=>?_
     refine Sp (fun am=>?_) fun am=>?_
     ·refine Bd fun ct aP=>?_
      refine Sp (fun aB=>?_) fun aB=>?_
      ·refine Bd fun bE bF =>Bd fun cu bG =>?_
       exact Lf (As (l:=[(96,_,_,_),(100,_,_,_),(105,_,_,_)]) (m:=[(107,129,[.bool bE,.ref 1 0],[.box [.sl false (L Aa a.Zx),.sl false (L Ae a.Zy),.sl false (L Ai a.Zz),.sl false (L Ah a.Za1)] false,.box [i64 ac] false,.box [i64 p,i64 q,i64 s,i64 t,i64 u] false],_,_)]) ⟨Aq  aA,Aq  aP,Aq  bF,trivial⟩ ⟨(wc (A5 bG) [1]),trivial⟩) (Ew2 am aB) (ws [0,1,2])
      ·refine Bd fun cv bH=>?_
       exact Lf (As (l:=[(96,_,_,_),(100,_,_,_)]) (m:=[(107,129,[.bool false,.ref 1 0],[.box [.sl false (L Aa a.Zx),.sl false (L Ae a.Zy),.sl false (L Ai a.Zz),.sl false (L Ah a.Za1)] false,.box [i64 ac] false,.box [i64 p,i64 q,i64 s,i64 t,i64 u] false],_,_)]) ⟨Aq  aA,Aq  aP,trivial⟩ ⟨(wc (A5 bH) [1]),trivial⟩) (Ew2 am aB) (ws [0,1,2])
     ·refine Bd fun cw bI=>?_
      exact Lf (As (l:=[(96,_,_,_)]) (m:=[(107,129,[.bool false,.ref 1 0],[.box [.sl false (L Aa a.Zx),.sl false (L Ae a.Zy),.sl false (L Ai a.Zz),.sl false (L Ah a.Za1)] false,.box [i64 ac] false,.box [i64 p,i64 q,i64 s,i64 t,i64 u] false],_,_)]) ⟨Aq  aA,trivial⟩ ⟨(wc (A5 bI) [1]),trivial⟩) (Ew1 am) (ws [0,1,2])
    intro al;refine Fw [1,3,4,83,84,85] (fun aQ=>⟨Ar 206 [(1,.ref 0 0),(3,.ref 1 0),(4,.fn 129 [.ref 1 0]),(83,.sl false (L Ae a.Zy)),(84,i64 (a.Zy.length:Int)),(85,i64 az)],[.box [.sl false (L Aa a.Zx),.sl false (L Ae a.Zy),.sl false (L Ai a.Zz),.sl false (L Ah a.Za1)] false,.box [i64 aQ] false]⟩) ?_ ?_
    ·intro _;refine Bd fun cx aR=>?_
     refine Sp (fun aC=>?_) fun aC=>?_
     ·refine Bd fun bJ bK =>Bd fun cy bL =>?_
      exact Lf (As (l:=[(111,_,_,_),(115,_,_,_)]) (m:=[(117,129,[.bool bJ,.ref 1 0],[.box [.sl false (L Aa a.Zx),.sl false (L Ae a.Zy),.sl false (L Ai a.Zz),.sl false (L Ah a.Za1)] false,.box [i64 al] false,.box [i64 p,i64 q,i64 s,i64 t,i64 u] false],_,_)]) ⟨Aq  aR,Aq  bK,trivial⟩ ⟨(wc (A5 bL) [1]),trivial⟩) (Ew1 aC) (ws [0,1])
     ·refine Bd fun cz bM=>?_
      exact Lf (As (l:=[(111,_,_,_)]) (m:=[(117,129,[.bool false,.ref 1 0],[.box [.sl false (L Aa a.Zx),.sl false (L Ae a.Zy),.sl false (L Ai a.Zz),.sl false (L Ah a.Za1)] false,.box [i64 al] false,.box [i64 p,i64 q,i64 s,i64 t,i64 u] false],_,_)]) ⟨Aq  aR,trivial⟩ ⟨(wc (A5 bM) [1]),trivial⟩) (Ew1 aC) (ws [0,1])
    intro aQ;refine Bn <|Tn <|F0 [1,3,4,83,84,85] ?_
    exact Ln (ws [0,1])
   ·refine Sx <|Tx <|Ly bw bv <|Bx <|?_
    exact Jm ((ws (l':=[(1,.ref 0 0),(3,.ref 1 0),(4,.fn 129 [.ref 1 0])]) (σ':=[.box [.sl false (L Aa a.Zx),.sl false (L Ae a.Zy),.sl false (L Ai a.Zz),.sl false (L Ah a.Za1)] false,.box [i64 ac] false]) [0,1]).trans (ws [0,1]))
  intro aO;refine Ja (fun aS=>⟨Ar 206 [(1,.ref 0 0),(3,.ref 1 0),(4,.fn 129 [.ref 1 0])],[.box [.sl false (L Aa a.Zx),.sl false (L Ae a.Zy),.sl false (L Ai a.Zz),.sl false (L Ah a.Za1)] false,.box [i64 aS] false]⟩) ?_ ?_
  ·intro cA;refine T0 [1,3,4,120,121,122] ?_;refine Sb ?_;refine Lo (fun(v:Int×Int)=>(⟨Ar 206 [(1,.ref 0 0),(3,.ref 1 0),(4,.fn 129 [.ref 1 0]),(120,.sl false (L Ai a.Zz)),(121,i64 (a.Zz.length:Int)),(122,i64 v.1)],[.box [.sl false (L Aa a.Zx),.sl false (L Ae a.Zy),.sl false (L Ai a.Zz),.sl false (L Ah a.Za1)] false,.box [i64 v.2] false]⟩:St)) (ws [0,1]) ?_;rintro⟨aT,y⟩ cB bN bO bP;show CV a aT y=some bN→_;unfold CV;refine T0 [1,3,4,120,121,122,123] ?_;refine Sq <|Cd ?_ ?_
   ·refine Sk <|Tn <|Sq <|Sb <|Ck fun bQ =>Lt fun ad bR =>Lt fun ae bS =>Lt fun af bT =>Te (σ':=[_,_,.box [i64 ad,i64 ae,i64 af] false]) [1,3,4,12,120,121,122] Ac (Ew4 (qR bQ) bR bS bT) ?_
    refine Fw [1,3,4,120,121,122] (fun aU=>⟨Ar 206 [(1,.ref 0 0),(3,.ref 1 0),(4,.fn 129 [.ref 1 0]),(120,.sl false (L Ai a.Zz)),(121,i64 (a.Zz.length:Int)),(122,i64 aT)],[.box [.sl false (L Aa a.Zx),.sl false (L Ae a.Zy),.sl false (L Ai a.Zz),.sl false (L Ah a.Za1)] false,.box [i64 aU] false]⟩) ?_ ?_
    ·intro _;refine Bd fun cC an=>?_
     refine Sp (fun ag=>?_) fun ag=>?_
     ·refine Bd fun cD aD=>?_
      refine Sp (fun ao=>?_) fun ao=>?_
      ·refine Sp (fun aE=>?_) fun aE=>?_
       ·refine Bd fun bU bV =>Bd fun cE bW =>?_
        exact Lf (As (l:=[(133,_,_,_),(141,_,_,_),(153,_,_,_)]) (m:=[(155,129,[.bool bU,.ref 1 0],[.box [.sl false (L Aa a.Zx),.sl false (L Ae a.Zy),.sl false (L Ai a.Zz),.sl false (L Ah a.Za1)] false,.box [i64 y] false,.box [i64 ad,i64 ae,i64 af] false],_,_)]) ⟨Aq  an,Aq  aD,Aq  bV,trivial⟩ ⟨(wc (A5 bW) [1]),trivial⟩) (Ew3 ag ao aE) (ws [0,1])
       ·refine Bd fun cF bX=>?_
        exact Lf (As (l:=[(133,_,_,_),(141,_,_,_)]) (m:=[(155,129,[.bool false,.ref 1 0],[.box [.sl false (L Aa a.Zx),.sl false (L Ae a.Zy),.sl false (L Ai a.Zz),.sl false (L Ah a.Za1)] false,.box [i64 y] false,.box [i64 ad,i64 ae,i64 af] false],_,_)]) ⟨Aq  an,Aq  aD,trivial⟩ ⟨(wc (A5 bX) [1]),trivial⟩) (Ew3 ag ao aE) (ws [0,1])
      ·refine Bd fun cG bY=>?_
       exact Lf (As (l:=[(133,_,_,_),(141,_,_,_)]) (m:=[(155,129,[.bool false,.ref 1 0],[.box [.sl false (L Aa a.Zx),.sl false (L Ae a.Zy),.sl false (L Ai a.Zz),.sl false (L Ah a.Za1)] false,.box [i64 y] false,.box [i64 ad,i64 ae,i64 af] false],_,_)]) ⟨Aq  an,Aq  aD,trivial⟩ ⟨(wc (A5 bY) [1]),trivial⟩) (Ew2 ag ao) (ws [0,1])
     ·refine Bd fun cH bZ=>?_
      exact Lf (As (l:=[(133,_,_,_)]) (m:=[(155,129,[.bool false,.ref 1 0],[.box [.sl false (L Aa a.Zx),.sl false (L Ae a.Zy),.sl false (L Ai a.Zz),.sl false (L Ah a.Za1)] false,.box [i64 y] false,.box [i64 ad,i64 ae,i64 af] false],_,_)]) ⟨Aq  an,trivial⟩ ⟨(wc (A5 bZ) [1]),trivial⟩) (Ew1 ag) (ws [0,1])
    intro aU;refine Bn <|Tn <|F0 [1,3,4,120,121,122] ?_
    exact Ln (ws [0,1])
   ·refine Sx <|Tx <|Ly bP bO <|Bx <|?_
    exact Jm ((ws (l':=[(1,.ref 0 0),(3,.ref 1 0),(4,.fn 129 [.ref 1 0])]) (σ':=[.box [.sl false (L Aa a.Zx),.sl false (L Ae a.Zy),.sl false (L Ai a.Zz),.sl false (L Ah a.Za1)] false,.box [i64 y] false]) [0,1]).trans (ws [0,1]))
  intro aS;refine T0 [1,3,4,13] ?_;refine Ja (fun aV=>⟨Ar 206 [(3,.ref 0 0)],[.box [i64 aV] false]⟩) ?_ ?_
  ·intro cI;refine T0 [3,4,13,158,159,160] ?_;refine Sb ?_;refine Lo (fun⟨ah,z,w⟩=>⟨Ar 206 [(3,.ref 0 0),(4,.fn 129 [.ref 0 0]),(13,.ref 1 0),(158,.sl false (L Ah a.Za1)),(159,i64 (a.Za1.length:Int)),(160,i64 ah)],[.box [i64 z] false,.box (C1 AV.bool w.l) false]⟩) (ws [1,2]) ?_;rintro⟨ah,z,w⟩ cJ b0 b1 b2;show CO a ah z w=some b0→_;unfold CO;refine T0 [3,4,13,158,159,160,161] ?_;refine Sq <|Cd ?_ ?_
   ·refine Sk <|Tn <|?_
    refine Ja (fun(v:Int×Arr Bool 4096)=>(⟨Ar 206 [(3,.ref 0 0),(4,.fn 129 [.ref 0 0]),(13,.ref 1 0),(158,.sl false (L Ah a.Za1)),(159,i64 (a.Za1.length:Int)),(160,i64 ah)],[.box [i64 v.1] false,.box (C1 AV.bool v.2.l) false]⟩:St)) ?_ ?_
    ·intro cK;refine Sb <|Ck fun b3 =>Lt fun b b4 =>Lt fun c b5 =>Lt fun ap b6 =>Te (σ':=[_,_,.box [i64 b,i64 c,i64 ap] false]) [3,4,13,15,158,159,160] Ac (Ew4 (qR b3) b4 b5 b6) ?_
     refine Tw [3,4,13,15,16,158,159,160] (fun aF=>⟨Ar 206 [(3,.ref 0 0),(4,.fn 129 [.ref 0 0]),(13,.ref 1 0),(15,.ref 2 0),(16,.bool aF),(158,.sl false (L Ah a.Za1)),(159,i64 (a.Za1.length:Int)),(160,i64 ah)],[.box [i64 z] false,.box (C1 AV.bool w.l) false,.box [i64 b,i64 c,i64 ap] false]⟩) ?_ ?_
     ·intro _;refine Bd fun cL aq=>?_
      refine Sp (fun ai=>?_) fun ai=>?_
      ·refine Bd fun cM aG=>?_
       refine Sp (fun ar=>?_) fun ar=>?_
       ·refine Sp (fun aH=>?_) fun aH=>?_
        ·refine Bd fun cN b7=>?_
         exact Lf (Cp (l:=[(166,_,_,_),(170,_,_,_),(182,_,_,_)]) ⟨Aq  aq,Aq  aG,Aq  b7,trivial⟩) (Ew3 ai ar aH) (ws [0,1,2])
        ·exact Lf (o2 166 (Aq aq) 170 (Aq aG)) (Ew3 ai ar aH) (ws [0,1,2])
       ·exact Lf (o2 166 (Aq aq) 170 (Aq aG)) (Ew2 ai ar) (ws [0,1,2])
      ·exact Lf (o1 166 (Aq aq)) (Ew1 ai) (ws [0,1,2])
     intro aF;refine Bd fun b8 b9 =>Te [3,4,13,15,16,158,159,160] (As (l:=[]) (m:=[(186,129,[.bool aF,.ref 0 0],[.box [i64 z] false,.box (C1 AV.bool w.l) false,.box [i64 b,i64 c,i64 ap] false],_,_)]) trivial ⟨(wc (A5 b9) [0]),trivial⟩) Ev ?_
     refine T0 [3,4,13,15,158,159,160,187] ?_;refine Cd ?_ ?_
     ·refine Ck fun aW =>Ck fun aX =>?_
      have aY:b.toNat*64+c.toNat<4096:=Aav aW.2 aX.2;have ca:b.toNat*64+c.toNat≤4095:=Nat.le_of_lt_succ aY;refine Bd fun cO cb=>?_
      refine Dq [[],[],[1],[],[3],[1,2],[1,2,3,4,5],[1,2,3,4,5,6],[1,2,3,4,5,6,7],[0,1,2,3,4,5,6,7,8]] [3,4,13,15,158,159,160] (As (l:=[]) (m:=[(197,129,[.bool (!(w.get (b.toNat*64+c.toNat))),.ref 0 0],[.box [i64 b8] false,.box (C1 AV.bool w.l) false,.box [i64 b,i64 c,i64 ap] false],_,_)]) trivial ⟨(wc (A5 cb) [0]),trivial⟩) (Ew4 (qR aW) (qR aX) aY ca) ?_;refine Ck fun aZ =>Ck fun a0 =>?_
      have a1:b.toNat*64+c.toNat<4096:=Aav aZ.2 a0.2;have cc:b.toNat*64+c.toNat≤4095:=Nat.le_of_lt_succ a1;refine Lt fun cd ce =>Ge (σ':=[_,.box (C1 AV.bool cd.l) false,_]) [[],[0],[],[2],[0,1],[0,1,2,3,4],[0,1,2,3,4,5]] [3,4,13,158,159,160] Ac (Ew5 (qR aZ) (qR a0) a1 cc ce) ?_
      exact Bn <|Jm (ws [0,1])
     ·exact Sk <|Bn <|Jm (ws [0,1])
    rintro⟨cP,cQ⟩;refine F0 [3,4,13,158,159,160] ?_;exact Ln (ws [0,1])
   ·refine Sx <|Tx <|Ly b2 b1 <|Bx <|?_
    exact Jm ((ws (l':=[(3,.ref 0 0)]) (σ':=[.box [i64 z] false]) [0]).trans (ws [0]))
  intro aV;refine T0 [2] ?_;exact Sr <|Rr
theorem GK{a r}(h:CR a=some r):Con B 99 [.agg [i64 a.Zd1.1.Zw,i64 a.Zd1.1.To,i64 a.Zd1.2.1.Zw,i64 a.Zd1.2.1.To,i64 a.Zd1.2.2.1.Zw,i64 a.Zd1.2.2.1.To,i64 a.Zd1.2.2.2.1.Zw,i64 a.Zd1.2.2.2.1.To,i64 a.Zd1.2.2.2.2.1.Zw,i64 a.Zd1.2.2.2.2.1.To,i64 a.Zd1.2.2.2.2.2.1.Zw,i64 a.Zd1.2.2.2.2.2.1.To,i64 a.Zd1.2.2.2.2.2.2.Zw,i64 a.Zd1.2.2.2.2.2.2.To,.sl false (L GC a.Ze1)]] [] (fun r' σ'=>r'=i64 r∧σ'=[]):=by
 refine Cw 45 [.tmp 2] Tryz.func99 (fun F hE=>?_) h;unfold CR;refine Lt fun b aq =>Lt fun c ar =>Te (σ':=[.box [i64 a.Zd1.1.Zw,i64 a.Zd1.1.To,i64 a.Zd1.2.1.Zw,i64 a.Zd1.2.1.To,i64 a.Zd1.2.2.1.Zw,i64 a.Zd1.2.2.1.To,i64 a.Zd1.2.2.2.1.Zw,i64 a.Zd1.2.2.2.1.To,i64 a.Zd1.2.2.2.2.1.Zw,i64 a.Zd1.2.2.2.2.1.To,i64 b,i64 a.Zd1.2.2.2.2.2.1.To,i64 c,i64 a.Zd1.2.2.2.2.2.2.To,.sl false (L GC a.Ze1)] false]) [1] Ac (Ew2 aq ar) ?_
 refine Jo (fun _=>⟨Ar 45 [(1,.ref 0 0)],[.box [i64 a.Zd1.1.Zw,i64 a.Zd1.1.To,i64 a.Zd1.2.1.Zw,i64 a.Zd1.2.1.To,i64 a.Zd1.2.2.1.Zw,i64 a.Zd1.2.2.1.To,i64 a.Zd1.2.2.2.1.Zw,i64 a.Zd1.2.2.2.1.To,i64 a.Zd1.2.2.2.2.1.Zw,i64 a.Zd1.2.2.2.2.1.To,i64 b,i64 a.Zd1.2.2.2.2.2.1.To,i64 c,i64 a.Zd1.2.2.2.2.2.2.To,.sl false (L GC a.Ze1)] false]⟩) ?_ ?_
 ·intro aG d;refine T0 [1,9,10] ?_;refine Sb ?_;refine Ul 17 ?_;refine Ug (m:=16) ?_;refine T0 [1,9,10,11] ?_;refine Sq <|Ct <|Sk <|Tn <|Sq <|Sb <|?_
  have x:InR 0 7:=by decide
  refine Te [1,4,9,10] Ac (Ev (by simp only[go_sem,x,x.2];exact AY)) ?_;refine Tw [1,9,10,27] (fun y=>⟨Ar 45 [(1,.ref 0 0),(9,.agg [i64 a.Zd1.1.Zw,i64 a.Zd1.1.To,i64 a.Zd1.2.1.Zw,i64 a.Zd1.2.1.To,i64 a.Zd1.2.2.1.Zw,i64 a.Zd1.2.2.1.To,i64 a.Zd1.2.2.2.1.Zw,i64 a.Zd1.2.2.2.1.To,i64 a.Zd1.2.2.2.2.1.Zw,i64 a.Zd1.2.2.2.2.1.To,i64 b,i64 a.Zd1.2.2.2.2.2.1.To,i64 c,i64 a.Zd1.2.2.2.2.2.2.To]),(10,i64 0),(27,.bool y)],[.box [i64 a.Zd1.1.Zw,i64 a.Zd1.1.To,i64 a.Zd1.2.1.Zw,i64 a.Zd1.2.1.To,i64 a.Zd1.2.2.1.Zw,i64 a.Zd1.2.2.1.To,i64 a.Zd1.2.2.2.1.Zw,i64 a.Zd1.2.2.2.1.To,i64 a.Zd1.2.2.2.2.1.Zw,i64 a.Zd1.2.2.2.2.1.To,i64 b,i64 a.Zd1.2.2.2.2.2.1.To,i64 c,i64 a.Zd1.2.2.2.2.2.2.To,.sl false (L GC a.Ze1)] false]⟩) ?_ ?_
  ·intro _;refine Sp (fun e=>?_) fun e=>?_
   ·exact Lf Ac (Ew1 e) (ws [0])
   ·refine Sp (fun n=>?_) fun n=>?_
    ·exact Lf Ac (Ew2 e n) (ws [0])
    ·exact Lf Ac (Ew2 e n) (ws [0])
  intro y;refine Cd ?_ ?_
  ·refine T0 [2] ?_;exact Sr <|Br <|Tr <|Ur <|Br <|Jr d <|Rr
  ·refine Sk <|Bn <|Tn <|?_
   have au:w64 1=1:=by decide
   refine Fe [1,9,10] Ac (Ew1 au) ?_;refine Un ?_;refine Ug (m:=15) ?_;refine T0 [1,9,10,11] ?_;refine Sq <|Ct <|Sk <|Tn <|Sq <|Sb <|?_
   have z:InR 1 7:=by decide
   refine Te [1,4,9,10] Ac (Ev (by simp only[go_sem,z,z.2];exact AY)) ?_;refine Tw [1,9,10,27] (fun aa=>⟨Ar 45 [(1,.ref 0 0),(9,.agg [i64 a.Zd1.1.Zw,i64 a.Zd1.1.To,i64 a.Zd1.2.1.Zw,i64 a.Zd1.2.1.To,i64 a.Zd1.2.2.1.Zw,i64 a.Zd1.2.2.1.To,i64 a.Zd1.2.2.2.1.Zw,i64 a.Zd1.2.2.2.1.To,i64 a.Zd1.2.2.2.2.1.Zw,i64 a.Zd1.2.2.2.2.1.To,i64 b,i64 a.Zd1.2.2.2.2.2.1.To,i64 c,i64 a.Zd1.2.2.2.2.2.2.To]),(10,i64 1),(27,.bool aa)],[.box [i64 a.Zd1.1.Zw,i64 a.Zd1.1.To,i64 a.Zd1.2.1.Zw,i64 a.Zd1.2.1.To,i64 a.Zd1.2.2.1.Zw,i64 a.Zd1.2.2.1.To,i64 a.Zd1.2.2.2.1.Zw,i64 a.Zd1.2.2.2.1.To,i64 a.Zd1.2.2.2.2.1.Zw,i64 a.Zd1.2.2.2.2.1.To,i64 b,i64 a.Zd1.2.2.2.2.2.1.To,i64 c,i64 a.Zd1.2.2.2.2.2.2.To,.sl false (L GC a.Ze1)] false]⟩) ?_ ?_
   ·intro _;refine Sp (fun f=>?_) fun f=>?_
    ·exact Lf Ac (Ew1 f) (ws [0])
    ·refine Sp (fun o=>?_) fun o=>?_
     ·exact Lf Ac (Ew2 f o) (ws [0])
     ·exact Lf Ac (Ew2 f o) (ws [0])
   intro aa;refine Cd ?_ ?_
   ·refine T0 [2] ?_;exact Sr <|Br <|Tr <|Ur <|Br <|Jr d <|Rr
   ·refine Sk <|Bn <|Tn <|?_
    have av:w64 2=2:=by decide
    refine Fe [1,9,10] Ac (Ew1 av) ?_;refine Un ?_;refine Ug (m:=14) ?_;refine T0 [1,9,10,11] ?_;refine Sq <|Ct <|Sk <|Tn <|Sq <|Sb <|?_
    have ab:InR 2 7:=by decide
    refine Te [1,4,9,10] Ac (Ev (by simp only[go_sem,ab,ab.2];exact AY)) ?_;refine Tw [1,9,10,27] (fun ac=>⟨Ar 45 [(1,.ref 0 0),(9,.agg [i64 a.Zd1.1.Zw,i64 a.Zd1.1.To,i64 a.Zd1.2.1.Zw,i64 a.Zd1.2.1.To,i64 a.Zd1.2.2.1.Zw,i64 a.Zd1.2.2.1.To,i64 a.Zd1.2.2.2.1.Zw,i64 a.Zd1.2.2.2.1.To,i64 a.Zd1.2.2.2.2.1.Zw,i64 a.Zd1.2.2.2.2.1.To,i64 b,i64 a.Zd1.2.2.2.2.2.1.To,i64 c,i64 a.Zd1.2.2.2.2.2.2.To]),(10,i64 2),(27,.bool ac)],[.box [i64 a.Zd1.1.Zw,i64 a.Zd1.1.To,i64 a.Zd1.2.1.Zw,i64 a.Zd1.2.1.To,i64 a.Zd1.2.2.1.Zw,i64 a.Zd1.2.2.1.To,i64 a.Zd1.2.2.2.1.Zw,i64 a.Zd1.2.2.2.1.To,i64 a.Zd1.2.2.2.2.1.Zw,i64 a.Zd1.2.2.2.2.1.To,i64 b,i64 a.Zd1.2.2.2.2.2.1.To,i64 c,i64 a.Zd1.2.2.2.2.2.2.To,.sl false (L GC a.Ze1)] false]⟩) ?_ ?_
    ·intro _;refine Sp (fun g=>?_) fun g=>?_
     ·exact Lf Ac (Ew1 g) (ws [0])
     ·refine Sp (fun p=>?_) fun p=>?_
      ·exact Lf Ac (Ew2 g p) (ws [0])
      ·exact Lf Ac (Ew2 g p) (ws [0])
    intro ac;refine Cd ?_ ?_
    ·refine T0 [2] ?_;exact Sr <|Br <|Tr <|Ur <|Br <|Jr d <|Rr
    ·refine Sk <|Bn <|Tn <|?_
     have aw:w64 3=3:=by decide
     refine Fe [1,9,10] Ac (Ew1 aw) ?_;refine Un ?_;refine Ug (m:=13) ?_;refine T0 [1,9,10,11] ?_;refine Sq <|Ct <|Sk <|Tn <|Sq <|Sb <|?_
     have ad:InR 3 7:=by decide
     refine Te [1,4,9,10] Ac (Ev (by simp only[go_sem,ad,ad.2];exact AY)) ?_;refine Tw [1,9,10,27] (fun ae=>⟨Ar 45 [(1,.ref 0 0),(9,.agg [i64 a.Zd1.1.Zw,i64 a.Zd1.1.To,i64 a.Zd1.2.1.Zw,i64 a.Zd1.2.1.To,i64 a.Zd1.2.2.1.Zw,i64 a.Zd1.2.2.1.To,i64 a.Zd1.2.2.2.1.Zw,i64 a.Zd1.2.2.2.1.To,i64 a.Zd1.2.2.2.2.1.Zw,i64 a.Zd1.2.2.2.2.1.To,i64 b,i64 a.Zd1.2.2.2.2.2.1.To,i64 c,i64 a.Zd1.2.2.2.2.2.2.To]),(10,i64 3),(27,.bool ae)],[.box [i64 a.Zd1.1.Zw,i64 a.Zd1.1.To,i64 a.Zd1.2.1.Zw,i64 a.Zd1.2.1.To,i64 a.Zd1.2.2.1.Zw,i64 a.Zd1.2.2.1.To,i64 a.Zd1.2.2.2.1.Zw,i64 a.Zd1.2.2.2.1.To,i64 a.Zd1.2.2.2.2.1.Zw,i64 a.Zd1.2.2.2.2.1.To,i64 b,i64 a.Zd1.2.2.2.2.2.1.To,i64 c,i64 a.Zd1.2.2.2.2.2.2.To,.sl false (L GC a.Ze1)] false]⟩) ?_ ?_
     ·intro _;refine Sp (fun i=>?_) fun i=>?_
      ·exact Lf Ac (Ew1 i) (ws [0])
      ·refine Sp (fun q=>?_) fun q=>?_
       ·exact Lf Ac (Ew2 i q) (ws [0])
       ·exact Lf Ac (Ew2 i q) (ws [0])
     intro ae;refine Cd ?_ ?_
     ·refine T0 [2] ?_;exact Sr <|Br <|Tr <|Ur <|Br <|Jr d <|Rr
     ·refine Sk <|Bn <|Tn <|?_
      have ax:w64 4=4:=by decide
      refine Fe [1,9,10] Ac (Ew1 ax) ?_;refine Un ?_;refine Ug (m:=12) ?_;refine T0 [1,9,10,11] ?_;refine Sq <|Ct <|Sk <|Tn <|Sq <|Sb <|?_
      have af:InR 4 7:=by decide
      refine Te [1,4,9,10] Ac (Ev (by simp only[go_sem,af,af.2];exact AY)) ?_;refine Tw [1,9,10,27] (fun ag=>⟨Ar 45 [(1,.ref 0 0),(9,.agg [i64 a.Zd1.1.Zw,i64 a.Zd1.1.To,i64 a.Zd1.2.1.Zw,i64 a.Zd1.2.1.To,i64 a.Zd1.2.2.1.Zw,i64 a.Zd1.2.2.1.To,i64 a.Zd1.2.2.2.1.Zw,i64 a.Zd1.2.2.2.1.To,i64 a.Zd1.2.2.2.2.1.Zw,i64 a.Zd1.2.2.2.2.1.To,i64 b,i64 a.Zd1.2.2.2.2.2.1.To,i64 c,i64 a.Zd1.2.2.2.2.2.2.To]),(10,i64 4),(27,.bool ag)],[.box [i64 a.Zd1.1.Zw,i64 a.Zd1.1.To,i64 a.Zd1.2.1.Zw,i64 a.Zd1.2.1.To,i64 a.Zd1.2.2.1.Zw,i64 a.Zd1.2.2.1.To,i64 a.Zd1.2.2.2.1.Zw,i64 a.Zd1.2.2.2.1.To,i64 a.Zd1.2.2.2.2.1.Zw,i64 a.Zd1.2.2.2.2.1.To,i64 b,i64 a.Zd1.2.2.2.2.2.1.To,i64 c,i64 a.Zd1.2.2.2.2.2.2.To,.sl false (L GC a.Ze1)] false]⟩) ?_ ?_
      ·intro _;refine Sp (fun j=>?_) fun j=>?_
       ·exact Lf Ac (Ew1 j) (ws [0])
       ·refine Sp (fun s=>?_) fun s=>?_
        ·exact Lf Ac (Ew2 j s) (ws [0])
        ·exact Lf Ac (Ew2 j s) (ws [0])
      intro ag;refine Cd ?_ ?_
      ·refine T0 [2] ?_;exact Sr <|Br <|Tr <|Ur <|Br <|Jr d <|Rr
      ·refine Sk <|Bn <|Tn <|?_
       have ay:w64 5=5:=by decide
       refine Fe [1,9,10] Ac (Ew1 ay) ?_;refine Un ?_;refine Ug (m:=11) ?_;refine T0 [1,9,10,11] ?_;refine Sq <|Ct <|Sk <|Tn <|Sq <|Sb <|?_
       have ah:InR 5 7:=by decide
       refine Te [1,4,9,10] Ac (Ev (by simp only[go_sem,ah,ah.2];exact AY)) ?_;refine Tw [1,9,10,27] (fun ai=>⟨Ar 45 [(1,.ref 0 0),(9,.agg [i64 a.Zd1.1.Zw,i64 a.Zd1.1.To,i64 a.Zd1.2.1.Zw,i64 a.Zd1.2.1.To,i64 a.Zd1.2.2.1.Zw,i64 a.Zd1.2.2.1.To,i64 a.Zd1.2.2.2.1.Zw,i64 a.Zd1.2.2.2.1.To,i64 a.Zd1.2.2.2.2.1.Zw,i64 a.Zd1.2.2.2.2.1.To,i64 b,i64 a.Zd1.2.2.2.2.2.1.To,i64 c,i64 a.Zd1.2.2.2.2.2.2.To]),(10,i64 5),(27,.bool ai)],[.box [i64 a.Zd1.1.Zw,i64 a.Zd1.1.To,i64 a.Zd1.2.1.Zw,i64 a.Zd1.2.1.To,i64 a.Zd1.2.2.1.Zw,i64 a.Zd1.2.2.1.To,i64 a.Zd1.2.2.2.1.Zw,i64 a.Zd1.2.2.2.1.To,i64 a.Zd1.2.2.2.2.1.Zw,i64 a.Zd1.2.2.2.2.1.To,i64 b,i64 a.Zd1.2.2.2.2.2.1.To,i64 c,i64 a.Zd1.2.2.2.2.2.2.To,.sl false (L GC a.Ze1)] false]⟩) ?_ ?_
       ·intro _;refine Sp (fun k=>?_) fun k=>?_
        ·exact Lf Ac (Ew1 k) (ws [0])
        ·refine Sp (fun t=>?_) fun t=>?_
         ·exact Lf Ac (Ew2 k t) (ws [0])
         ·exact Lf Ac (Ew2 k t) (ws [0])
       intro ai;refine Cd ?_ ?_
       ·refine T0 [2] ?_;exact Sr <|Br <|Tr <|Ur <|Br <|Jr d <|Rr
       ·refine Sk <|Bn <|Tn <|?_
        have az:w64 6=6:=by decide
        refine Fe [1,9,10] Ac (Ew1 az) ?_;refine Un ?_;refine Ug (m:=10) ?_;refine T0 [1,9,10,11] ?_;refine Sq <|Ct <|Sk <|Tn <|Sq <|Sb <|?_
        have aj:InR 6 7:=by decide
        refine Te [1,4,9,10] Ac (Ev (by simp only[go_sem,aj,aj.2];exact AY)) ?_;refine Tw [1,9,10,27] (fun ak=>⟨Ar 45 [(1,.ref 0 0),(9,.agg [i64 a.Zd1.1.Zw,i64 a.Zd1.1.To,i64 a.Zd1.2.1.Zw,i64 a.Zd1.2.1.To,i64 a.Zd1.2.2.1.Zw,i64 a.Zd1.2.2.1.To,i64 a.Zd1.2.2.2.1.Zw,i64 a.Zd1.2.2.2.1.To,i64 a.Zd1.2.2.2.2.1.Zw,i64 a.Zd1.2.2.2.2.1.To,i64 b,i64 a.Zd1.2.2.2.2.2.1.To,i64 c,i64 a.Zd1.2.2.2.2.2.2.To]),(10,i64 6),(27,.bool ak)],[.box [i64 a.Zd1.1.Zw,i64 a.Zd1.1.To,i64 a.Zd1.2.1.Zw,i64 a.Zd1.2.1.To,i64 a.Zd1.2.2.1.Zw,i64 a.Zd1.2.2.1.To,i64 a.Zd1.2.2.2.1.Zw,i64 a.Zd1.2.2.2.1.To,i64 a.Zd1.2.2.2.2.1.Zw,i64 a.Zd1.2.2.2.2.1.To,i64 b,i64 a.Zd1.2.2.2.2.2.1.To,i64 c,i64 a.Zd1.2.2.2.2.2.2.To,.sl false (L GC a.Ze1)] false]⟩) ?_ ?_
        ·intro _;refine Sp (fun l=>?_) fun l=>?_
         ·exact Lf Ac (Ew1 l) (ws [0])
         ·refine Sp (fun u=>?_) fun u=>?_
          ·exact Lf Ac (Ew2 l u) (ws [0])
          ·exact Lf Ac (Ew2 l u) (ws [0])
        intro ak;refine Cd ?_ ?_
        ·refine T0 [2] ?_;exact Sr <|Br <|Tr <|Ur <|Br <|Jr d <|Rr
        ·refine Sk <|Bn <|Tn <|?_
         have aA:w64 7=7:=by decide
         refine Fe [1,9,10] Ac (Ew1 aA) ?_;refine Un ?_;refine Ug (m:=9) ?_;refine T0 [1,9,10,11] ?_;exact Sq <|Cf <|Sx <|Tx <|Ux <|Bx <|Jn (ws [0])
 intro _;refine T0 [1,5] ?_;refine Jo (fun _=>⟨Ar 45 [],[]⟩) ?_ ?_
 ·intro aH aB;refine T0 [5,30,31,32] ?_;refine Sb ?_;refine Lo (fun(v:Int×Int)=>(⟨Ar 45 [(5,i64 v.1),(30,.sl false (L GC a.Ze1)),(31,i64 (a.Ze1.length:Int)),(32,i64 v.2)],[]⟩:St)) (ws []) ?_;rintro⟨aC,al⟩ aI aD am an;show CA a aC al=some aD→_;unfold CA;refine T0 [5,30,31,32,33] ?_;refine Sq <|Cd ?_ ?_
  ·refine Sk <|Tn <|Sq <|Sb <|Ck fun aE =>Lt fun ao aF =>Te (fr':=[(5,_),(7,i64 ao),(30,_),(31,_),(32,_)]) [5,7,30,31,32] Ac (Ew2 (qR aE) aF) ?_
   refine Sq ?_;refine Tw [7,30,31,32,42] (fun ap=>⟨Ar 45 [(7,i64 ao),(30,.sl false (L GC a.Ze1)),(31,i64 (a.Ze1.length:Int)),(32,i64 al),(42,.bool ap)],[]⟩) ?_ ?_
   ·intro _;refine Sp (fun w=>?_) fun w=>?_
    ·exact Lf Ac (Ew1 w) (ws [])
    ·exact Lf Ac (Ew1 w) (ws [])
   intro ap;refine Cd ?_ ?_
   ·refine T0 [2] ?_;exact Sr <|Tr <|Br <|Tr <|Lr an am <|Br <|Jr aB <|Rr
   ·refine Sk <|Tn <|F0 [5,30,31,32] ?_
    refine Bn <|Tn <|F0 [5,30,31,32] ?_
    exact Ln (ws [])
  ·refine Sx <|Tx <|Lx an am <|Bx <|?_
   exact Jn ((ws (l':=[]) (σ':=[]) []).trans (ws []))
 intro _;refine T0 [2] ?_;exact Sr <|Rr
theorem EE{a r}(h:B5 a=some r):Con B 57 [.agg [.sl false (L Ag a.Zg1.Ze),.sl false (L Al a.Zg1.Zf),.sl false (L Aa a.Zh1.Zx),.sl false (L Ae a.Zh1.Zy),.sl false (L Ai a.Zh1.Zz),.sl false (L Ah a.Zh1.Za1),.sl false (L Af a.Zi1),.sl false (L Ad a.Zj1),.sl false (L Ab a.Zk1)]] [] (fun r' σ'=>r'=i64 r∧σ'=[]):=by
 refine Cw 193 [.tmp 2] Tryz.func57 (fun F hE=>?_) h;unfold B5;refine T0 [1] ?_;refine Sq <|Bd fun b5 ax =>Te [1,3] (o1 22 (K6 ax)) Ev ?_
 refine T0 [1,3,24] ?_;refine Cd ?_ ?_
 ·refine T0 [2] ?_;exact Sr <|Tr <|Rr
 ·refine Sk <|Tn <|Sq <|Bd fun b6 ay =>Te [1,4] (o1 28 (NN ay)) Ev ?_
  refine T0 [1,4,30] ?_;refine Cd ?_ ?_
  ·refine T0 [2] ?_;exact Sr <|Tr <|Rr
  ·refine Sk <|Tn <|Sq <|?_
   refine Tw [1,47] (fun t=>⟨Ar 193 [(1,.ref 0 0),(47,.bool t)],[.box [.sl false (L Ag a.Zg1.Ze),.sl false (L Al a.Zg1.Zf),.sl false (L Aa a.Zh1.Zx),.sl false (L Ae a.Zh1.Zy),.sl false (L Ai a.Zh1.Zz),.sl false (L Ah a.Zh1.Za1),.sl false (L Af a.Zi1),.sl false (L Ad a.Zj1),.sl false (L Ab a.Zk1)] false]⟩) ?_ ?_
   ·intro _;refine Sp (fun e=>?_) fun e=>?_
    ·exact Lf Ac (Ew1 e) (ws [0])
    ·refine Sp (fun l=>?_) fun l=>?_
     ·exact Lf Ac (Ew2 e l) (ws [0])
     ·exact Lf Ac (Ew2 e l) (ws [0])
   intro t;refine Cd ?_ ?_
   ·refine T0 [2] ?_;exact Sr <|Tr <|Rr
   ·refine Sk <|Tn <|Lt fun b az =>De (fr':=[(1,_),(5,_),(6,i64 b)]) [[],[0],[0,1],[],[3],[3,4],[0,1,2],[0,1,2,3,4,5,6]] [1,5,6] Ac (Ew1 az) ?_
    refine T0 [1,5,6,7] ?_;refine Ja (fun u=>⟨Ar 193 [(1,.ref 0 0),(5,.sl false (L Ag a.Zg1.Ze)),(6,i64 b),(7,.bool u)],[.box [.sl false (L Ag a.Zg1.Ze),.sl false (L Al a.Zg1.Zf),.sl false (L Aa a.Zh1.Zx),.sl false (L Ae a.Zh1.Zy),.sl false (L Ai a.Zh1.Zz),.sl false (L Ah a.Zh1.Za1),.sl false (L Af a.Zi1),.sl false (L Ad a.Zj1),.sl false (L Ab a.Zk1)] false]⟩) ?_ ?_
    ·intro b7;refine T0 [1,5,6,7,57,58,59] ?_;refine Sb ?_;refine Lo (fun(v:Bool×Int)=>(⟨Ar 193 [(1,.ref 0 0),(5,.sl false (L Ag a.Zg1.Ze)),(6,i64 b),(7,.bool v.1),(57,.sl false (L Af a.Zi1)),(58,i64 (a.Zi1.length:Int)),(59,i64 v.2)],[.box [.sl false (L Ag a.Zg1.Ze),.sl false (L Al a.Zg1.Zf),.sl false (L Aa a.Zh1.Zx),.sl false (L Ae a.Zh1.Zy),.sl false (L Ai a.Zh1.Zz),.sl false (L Ah a.Zh1.Za1),.sl false (L Af a.Zi1),.sl false (L Ad a.Zj1),.sl false (L Ab a.Zk1)] false]⟩:St)) (ws [0]) ?_;rintro⟨w,x⟩ b8 aA aB aC;show BN a w x=some aA→_;unfold BN;refine T0 [1,5,6,7,57,58,59,60] ?_;refine Sq <|Cd ?_ ?_
     ·refine Sk <|Tn <|Sq <|Sb <|Ck fun aD =>Lt fun aE aF =>Lt fun aG aH =>Lt fun aI aJ =>Te (σ':=[_,.box [i64 aE,i64 aG,i64 aI] false]) [1,5,6,7,9,57,58,59] Ac (Ew4 (qR aD) aF aH aJ) ?_
      refine Fw [1,5,6,7,57,58,59] (fun y=>⟨Ar 193 [(1,.ref 0 0),(5,.sl false (L Ag a.Zg1.Ze)),(6,i64 b),(7,.bool y),(57,.sl false (L Af a.Zi1)),(58,i64 (a.Zi1.length:Int)),(59,i64 x)],[.box [.sl false (L Ag a.Zg1.Ze),.sl false (L Al a.Zg1.Zf),.sl false (L Aa a.Zh1.Zx),.sl false (L Ae a.Zh1.Zy),.sl false (L Ai a.Zh1.Zz),.sl false (L Ah a.Zh1.Za1),.sl false (L Af a.Zi1),.sl false (L Ad a.Zj1),.sl false (L Ab a.Zk1)] false]⟩) ?_ ?_
      ·intro _;refine Sp (fun c=>?_) fun c=>?_
       ·exact Lf Ac (Ew1 c) (ws [0])
       ·refine Bd fun b9 f=>?_
        refine Sp (fun d=>?_) fun d=>?_
        ·exact Lf (o1 70 (Aq f)) (Ew2 c d) (ws [0])
        ·refine Sp (fun g=>?_) fun g=>?_
         ·exact Lf (o1 70 (Aq f)) (Ew3 c d g) (ws [0])
         ·refine Sp (fun m=>?_) fun m=>?_
          ·exact Lf (o1 70 (Aq f)) (Ew4 c d g m) (ws [0])
          ·exact Lf (o1 70 (Aq f)) (Ew4 c d g m) (ws [0])
      intro y;refine Bn <|Tn <|F0 [1,5,6,7,57,58,59] ?_
      exact Ln (ws [0])
     ·refine Sx <|Tx <|Ly aC aB <|Bx <|?_
      exact Jm ((ws (l':=[(1,.ref 0 0),(5,.sl false (L Ag a.Zg1.Ze)),(6,i64 b),(7,.bool w)]) (σ':=[.box [.sl false (L Ag a.Zg1.Ze),.sl false (L Al a.Zg1.Zf),.sl false (L Aa a.Zh1.Zx),.sl false (L Ae a.Zh1.Zy),.sl false (L Ai a.Zh1.Zz),.sl false (L Ah a.Zh1.Za1),.sl false (L Af a.Zi1),.sl false (L Ad a.Zj1),.sl false (L Ab a.Zk1)] false]) [0]).trans (ws [0]))
    intro u;refine Ja (fun z=>⟨Ar 193 [(1,.ref 0 0),(5,.sl false (L Ag a.Zg1.Ze)),(6,i64 b),(7,.bool z)],[.box [.sl false (L Ag a.Zg1.Ze),.sl false (L Al a.Zg1.Zf),.sl false (L Aa a.Zh1.Zx),.sl false (L Ae a.Zh1.Zy),.sl false (L Ai a.Zh1.Zz),.sl false (L Ah a.Zh1.Za1),.sl false (L Af a.Zi1),.sl false (L Ad a.Zj1),.sl false (L Ab a.Zk1)] false]⟩) ?_ ?_
    ·intro ca;refine T0 [1,5,6,7,92,93,94] ?_;refine Sb ?_;refine Lo (fun(v:Bool×Int)=>(⟨Ar 193 [(1,.ref 0 0),(5,.sl false (L Ag a.Zg1.Ze)),(6,i64 b),(7,.bool v.1),(92,.sl false (L Ad a.Zj1)),(93,i64 (a.Zj1.length:Int)),(94,i64 v.2)],[.box [.sl false (L Ag a.Zg1.Ze),.sl false (L Al a.Zg1.Zf),.sl false (L Aa a.Zh1.Zx),.sl false (L Ae a.Zh1.Zy),.sl false (L Ai a.Zh1.Zz),.sl false (L Ah a.Zh1.Za1),.sl false (L Af a.Zi1),.sl false (L Ad a.Zj1),.sl false (L Ab a.Zk1)] false]⟩:St)) (ws [0]) ?_;rintro⟨aa,ab⟩ cb aK aL aM;show BQ a aa ab=some aK→_;unfold BQ;refine T0 [1,5,6,7,92,93,94,95] ?_;refine Sq <|Cd ?_ ?_
     ·refine Sk <|Tn <|Sq <|Sb <|Ck fun aN =>Lt fun aO aP =>Te (σ':=[_,.box [i64 aO] false]) [1,5,6,7,11,92,93,94] Ac (Ew2 (qR aN) aP) ?_
      refine Fw [1,5,6,7,92,93,94] (fun ac=>⟨Ar 193 [(1,.ref 0 0),(5,.sl false (L Ag a.Zg1.Ze)),(6,i64 b),(7,.bool ac),(92,.sl false (L Ad a.Zj1)),(93,i64 (a.Zj1.length:Int)),(94,i64 ab)],[.box [.sl false (L Ag a.Zg1.Ze),.sl false (L Al a.Zg1.Zf),.sl false (L Aa a.Zh1.Zx),.sl false (L Ae a.Zh1.Zy),.sl false (L Ai a.Zh1.Zz),.sl false (L Ah a.Zh1.Za1),.sl false (L Af a.Zi1),.sl false (L Ad a.Zj1),.sl false (L Ab a.Zk1)] false]⟩) ?_ ?_
      ·intro _;refine Sp (fun i=>?_) fun i=>?_
       ·exact Lf Ac (Ew1 i) (ws [0])
       ·refine Bd fun cc ad=>?_
        refine Sp (fun n=>?_) fun n=>?_
        ·exact Lf (o1 105 (Aq ad)) (Ew2 i n) (ws [0])
        ·refine Ck fun aQ=>?_
         exact Lf (o1 105 (Aq ad)) (Ew3 i n (qR aQ)) (ws [0])
      intro ac;refine Bn <|Tn <|F0 [1,5,6,7,92,93,94] ?_
      exact Ln (ws [0])
     ·refine Sx <|Tx <|Ly aM aL <|Bx <|?_
      exact Jm ((ws (l':=[(1,.ref 0 0),(5,.sl false (L Ag a.Zg1.Ze)),(6,i64 b),(7,.bool aa)]) (σ':=[.box [.sl false (L Ag a.Zg1.Ze),.sl false (L Al a.Zg1.Zf),.sl false (L Aa a.Zh1.Zx),.sl false (L Ae a.Zh1.Zy),.sl false (L Ai a.Zh1.Zz),.sl false (L Ah a.Zh1.Za1),.sl false (L Af a.Zi1),.sl false (L Ad a.Zj1),.sl false (L Ab a.Zk1)] false]) [0]).trans (ws [0]))
    intro z;refine Ja (fun ae=>⟨Ar 193 [(1,.ref 0 0),(5,.sl false (L Ag a.Zg1.Ze)),(6,i64 b),(7,.bool ae)],[.box [.sl false (L Ag a.Zg1.Ze),.sl false (L Al a.Zg1.Zf),.sl false (L Aa a.Zh1.Zx),.sl false (L Ae a.Zh1.Zy),.sl false (L Ai a.Zh1.Zz),.sl false (L Ah a.Zh1.Za1),.sl false (L Af a.Zi1),.sl false (L Ad a.Zj1),.sl false (L Ab a.Zk1)] false]⟩) ?_ ?_
    ·intro cd;refine T0 [1,5,6,7,120,121,122] ?_;refine Sb ?_;refine Lo (fun(v:Bool×Int)=>(⟨Ar 193 [(1,.ref 0 0),(5,.sl false (L Ag a.Zg1.Ze)),(6,i64 b),(7,.bool v.1),(120,.sl false (L Ae a.Zh1.Zy)),(121,i64 (a.Zh1.Zy.length:Int)),(122,i64 v.2)],[.box [.sl false (L Ag a.Zg1.Ze),.sl false (L Al a.Zg1.Zf),.sl false (L Aa a.Zh1.Zx),.sl false (L Ae a.Zh1.Zy),.sl false (L Ai a.Zh1.Zz),.sl false (L Ah a.Zh1.Za1),.sl false (L Af a.Zi1),.sl false (L Ad a.Zj1),.sl false (L Ab a.Zk1)] false]⟩:St)) (ws [0]) ?_;rintro⟨af,ag⟩ ce aR aS aT;show BL a af ag=some aR→_;unfold BL;refine T0 [1,5,6,7,120,121,122,123] ?_;refine Sq <|Cd ?_ ?_
     ·refine Sk <|Tn <|Sq <|Sb <|Ck fun aU =>Lt fun aV aW =>Lt fun aX aY =>Lt fun aZ a0 =>Lt fun a1 a2 =>Lt fun a3 a4 =>Te (σ':=[_,.box [i64 aV,i64 aX,i64 aZ,i64 a1,i64 a3] false]) [1,5,6,7,13,120,121,122] Ac (Ev (by simp only[go_sem,qR aU,aW,aY,a0,a2,a4];exact AY)) ?_
      refine Fw [1,5,6,7,120,121,122] (fun ah=>⟨Ar 193 [(1,.ref 0 0),(5,.sl false (L Ag a.Zg1.Ze)),(6,i64 b),(7,.bool ah),(120,.sl false (L Ae a.Zh1.Zy)),(121,i64 (a.Zh1.Zy.length:Int)),(122,i64 ag)],[.box [.sl false (L Ag a.Zg1.Ze),.sl false (L Al a.Zg1.Zf),.sl false (L Aa a.Zh1.Zx),.sl false (L Ae a.Zh1.Zy),.sl false (L Ai a.Zh1.Zz),.sl false (L Ah a.Zh1.Za1),.sl false (L Af a.Zi1),.sl false (L Ad a.Zj1),.sl false (L Ab a.Zk1)] false]⟩) ?_ ?_
      ·intro _;refine Sp (fun o=>?_) fun o=>?_
       ·exact Lf Ac (Ew1 o) (ws [0])
       ·exact Lf Ac (Ew1 o) (ws [0])
      intro ah;refine Bn <|Tn <|F0 [1,5,6,7,120,121,122] ?_
      exact Ln (ws [0])
     ·refine Sx <|Tx <|Ly aT aS <|Bx <|?_
      exact Jm ((ws (l':=[(1,.ref 0 0),(5,.sl false (L Ag a.Zg1.Ze)),(6,i64 b),(7,.bool af)]) (σ':=[.box [.sl false (L Ag a.Zg1.Ze),.sl false (L Al a.Zg1.Zf),.sl false (L Aa a.Zh1.Zx),.sl false (L Ae a.Zh1.Zy),.sl false (L Ai a.Zh1.Zz),.sl false (L Ah a.Zh1.Za1),.sl false (L Af a.Zi1),.sl false (L Ad a.Zj1),.sl false (L Ab a.Zk1)] false]) [0]).trans (ws [0]))
    intro ae;refine Ja (fun ai=>⟨Ar 193 [(1,.ref 0 0),(6,i64 b),(7,.bool ai)],[.box [.sl false (L Ag a.Zg1.Ze),.sl false (L Al a.Zg1.Zf),.sl false (L Aa a.Zh1.Zx),.sl false (L Ae a.Zh1.Zy),.sl false (L Ai a.Zh1.Zz),.sl false (L Ah a.Zh1.Za1),.sl false (L Af a.Zi1),.sl false (L Ad a.Zj1),.sl false (L Ab a.Zk1)] false]⟩) ?_ ?_
    ·intro cf;refine T0 [1,6,7,135,136,137] ?_;refine Sb ?_;refine Lo (fun(v:Bool×Int)=>(⟨Ar 193 [(1,.ref 0 0),(6,i64 b),(7,.bool v.1),(135,.sl false (L Ag a.Zg1.Ze)),(136,i64 (a.Zg1.Ze.length:Int)),(137,i64 v.2)],[.box [.sl false (L Ag a.Zg1.Ze),.sl false (L Al a.Zg1.Zf),.sl false (L Aa a.Zh1.Zx),.sl false (L Ae a.Zh1.Zy),.sl false (L Ai a.Zh1.Zz),.sl false (L Ah a.Zh1.Za1),.sl false (L Af a.Zi1),.sl false (L Ad a.Zj1),.sl false (L Ab a.Zk1)] false]⟩:St)) (ws [0]) ?_;rintro⟨aj,ak⟩ cg a5 a6 a7;show BO a b aj ak=some a5→_;unfold BO;refine T0 [1,6,7,135,136,137,138] ?_;refine Sq <|Cd ?_ ?_
     ·refine Sk <|Tn <|Sq <|Sb <|Ck fun a8 =>Lt fun a9 ba =>Lt fun bb bc =>Lt fun bd be =>Te (σ':=[_,.box [i64 a9,i64 bb,i64 bd] false]) [1,6,7,15,135,136,137] Ac (Ew4 (qR a8) ba bc be) ?_
      refine Fw [1,6,7,135,136,137] (fun al=>⟨Ar 193 [(1,.ref 0 0),(6,i64 b),(7,.bool al),(135,.sl false (L Ag a.Zg1.Ze)),(136,i64 (a.Zg1.Ze.length:Int)),(137,i64 ak)],[.box [.sl false (L Ag a.Zg1.Ze),.sl false (L Al a.Zg1.Zf),.sl false (L Aa a.Zh1.Zx),.sl false (L Ae a.Zh1.Zy),.sl false (L Ai a.Zh1.Zz),.sl false (L Ah a.Zh1.Za1),.sl false (L Af a.Zi1),.sl false (L Ad a.Zj1),.sl false (L Ab a.Zk1)] false]⟩) ?_ ?_
      ·intro _;refine Sp (fun j=>?_) fun j=>?_
       ·exact Lf Ac (Ew1 j) (ws [0])
       ·refine Sp (fun p=>?_) fun p=>?_
        ·exact Lf Ac (Ew2 j p) (ws [0])
        ·exact Lf Ac (Ew2 j p) (ws [0])
      intro al;refine Bn <|Tn <|F0 [1,6,7,135,136,137] ?_
      exact Ln (ws [0])
     ·refine Sx <|Tx <|Ly a7 a6 <|Bx <|?_
      exact Jm ((ws (l':=[(1,.ref 0 0),(6,i64 b),(7,.bool aj)]) (σ':=[.box [.sl false (L Ag a.Zg1.Ze),.sl false (L Al a.Zg1.Zf),.sl false (L Aa a.Zh1.Zx),.sl false (L Ae a.Zh1.Zy),.sl false (L Ai a.Zh1.Zz),.sl false (L Ah a.Zh1.Za1),.sl false (L Af a.Zi1),.sl false (L Ad a.Zj1),.sl false (L Ab a.Zk1)] false]) [0]).trans (ws [0]))
    intro ai;refine Ja (fun am=>⟨Ar 193 [(1,.ref 0 0),(7,.bool am)],[.box [.sl false (L Ag a.Zg1.Ze),.sl false (L Al a.Zg1.Zf),.sl false (L Aa a.Zh1.Zx),.sl false (L Ae a.Zh1.Zy),.sl false (L Ai a.Zh1.Zz),.sl false (L Ah a.Zh1.Za1),.sl false (L Af a.Zi1),.sl false (L Ad a.Zj1),.sl false (L Ab a.Zk1)] false]⟩) ?_ ?_
    ·intro ch;refine T0 [1,6,7,157,158,159] ?_;refine Sb ?_;refine Lo (fun(v:Bool×Int)=>(⟨Ar 193 [(1,.ref 0 0),(6,i64 b),(7,.bool v.1),(157,.sl false (L Al a.Zg1.Zf)),(158,i64 (a.Zg1.Zf.length:Int)),(159,i64 v.2)],[.box [.sl false (L Ag a.Zg1.Ze),.sl false (L Al a.Zg1.Zf),.sl false (L Aa a.Zh1.Zx),.sl false (L Ae a.Zh1.Zy),.sl false (L Ai a.Zh1.Zz),.sl false (L Ah a.Zh1.Za1),.sl false (L Af a.Zi1),.sl false (L Ad a.Zj1),.sl false (L Ab a.Zk1)] false]⟩:St)) (ws [0]) ?_;rintro⟨an,ao⟩ ci bf bg bh;show BI a b an ao=some bf→_;unfold BI;refine T0 [1,6,7,157,158,159,160] ?_;refine Sq <|Cd ?_ ?_
     ·refine Sk <|Tn <|Sq <|Sb <|Ck fun bi =>Lt fun bj bk =>Lt fun bl bm =>Lt fun bn bo =>Lt fun bp bq =>Lt fun br bs =>Te (σ':=[_,.box [i64 bj,i64 bl,i64 bn,i64 bp,i64 br] false]) [1,6,7,17,157,158,159] Ac (Ev (by simp only[go_sem,qR bi,bk,bm,bo,bq,bs];exact AY)) ?_
      refine Fw [1,6,7,157,158,159] (fun ap=>⟨Ar 193 [(1,.ref 0 0),(6,i64 b),(7,.bool ap),(157,.sl false (L Al a.Zg1.Zf)),(158,i64 (a.Zg1.Zf.length:Int)),(159,i64 ao)],[.box [.sl false (L Ag a.Zg1.Ze),.sl false (L Al a.Zg1.Zf),.sl false (L Aa a.Zh1.Zx),.sl false (L Ae a.Zh1.Zy),.sl false (L Ai a.Zh1.Zz),.sl false (L Ah a.Zh1.Za1),.sl false (L Af a.Zi1),.sl false (L Ad a.Zj1),.sl false (L Ab a.Zk1)] false]⟩) ?_ ?_
      ·intro _;refine Sp (fun q=>?_) fun q=>?_
       ·exact Lf Ac (Ew1 q) (ws [0])
       ·exact Lf Ac (Ew1 q) (ws [0])
      intro ap;refine Bn <|Tn <|F0 [1,6,7,157,158,159] ?_
      exact Ln (ws [0])
     ·refine Sx <|Tx <|Ly bh bg <|Bx <|?_
      exact Jm ((ws (l':=[(1,.ref 0 0),(7,.bool an)]) (σ':=[.box [.sl false (L Ag a.Zg1.Ze),.sl false (L Al a.Zg1.Zf),.sl false (L Aa a.Zh1.Zx),.sl false (L Ae a.Zh1.Zy),.sl false (L Ai a.Zh1.Zz),.sl false (L Ah a.Zh1.Za1),.sl false (L Af a.Zi1),.sl false (L Ad a.Zj1),.sl false (L Ab a.Zk1)] false]) [0]).trans (ws [0]))
    intro am;refine Ja (fun aq=>⟨Ar 193 [(7,.bool aq)],[]⟩) ?_ ?_
    ·intro cj;refine T0 [7,172,173,174] ?_;refine Sb ?_;refine Lo (fun(v:Bool×Int)=>(⟨Ar 193 [(7,.bool v.1),(172,.sl false (L Ab a.Zk1)),(173,i64 (a.Zk1.length:Int)),(174,i64 v.2)],[]⟩:St)) (ws []) ?_;rintro⟨ar,au⟩ ck bt bu bv;show BH a ar au=some bt→_;unfold BH;refine T0 [7,172,173,174,175] ?_;refine Sq <|Cd ?_ ?_
     ·refine Sk <|Tn <|Sq <|Sb <|Ck fun bw =>Lt fun bx bz =>Lt fun bA bB =>Lt fun bC bD =>Lt fun bE bF =>Lt fun bG bH =>Lt fun bI bJ =>Lt fun bK bL =>Lt fun bM bN =>Lt fun bO bP =>Lt fun bQ bR =>Lt fun bS bT =>Lt fun bU bV =>Lt fun bW bX =>Lt fun bY bZ =>Lt fun b0 b1 =>Lt fun b2 b3 =>Te (σ':=[.box [u64 bx,i64 bA,i64 bC,i64 bE,i64 bG,i64 bI,i64 bK,i64 bM,i64 bO,i64 bQ,i64 bS,i64 bU,i64 bW,i64 bY,i64 b0,.sl false (L GC b2)] false]) [7,19,172,173,174] Ac (Ev (by simp only[go_sem,qR bw,bz,bB,bD,bF,bH,bJ,bL,bN,bP,bR,bT,bV,bX,bZ,b1,b3];exact AY)) ?_
      refine Fw [7,172,173,174] (fun av=>⟨Ar 193 [(7,.bool av),(172,.sl false (L Ab a.Zk1)),(173,i64 (a.Zk1.length:Int)),(174,i64 au)],[]⟩) ?_ ?_
      ·intro _;refine Sp (fun k=>?_) fun k=>?_
       ·exact Lf Ac (Ew1 k) (ws [])
       ·refine Bd fun cl aw=>?_
        refine Sp (fun s=>?_) fun s=>?_
        ·exact Lf (o1 182 (GK aw)) (Ew2 k s) (ws [])
        ·refine Bd fun cm b4=>?_
         exact Lf (o2 182 (GK aw) 188 (Jp b4)) (Ew2 k s) (ws [])
      intro av;refine Bn <|Tn <|F0 [7,172,173,174] ?_
      exact Ln (ws [])
     ·refine Sx <|Tx <|Ly bv bu <|Bx <|?_
      exact Jm ((ws (l':=[(7,.bool ar)]) (σ':=[]) []).trans (ws []))
    intro aq;refine Sq <|T0 [192] ?_
    refine Cd ?_ ?_
    ·refine T0 [2] ?_;exact Sr <|Tr <|Rr
    ·refine Sk <|Tn <|T0 [2] ?_
     exact Sr <|Rr
theorem CU{a d e r}(h:Bu a d e=some r):Con B 150 [.ref 0 0,.ref 0 15,i64 d,i64 e] [.box [.sl false (L Ag a.p.Zg1.Ze),.sl false (L Al a.p.Zg1.Zf),.sl false (L Aa a.p.Zh1.Zx),.sl false (L Ae a.p.Zh1.Zy),.sl false (L Ai a.p.Zh1.Zz),.sl false (L Ah a.p.Zh1.Za1),.sl false (L Af a.p.Zi1),.sl false (L Ad a.p.Zj1),.sl false (L Ab a.p.Zk1),i64 a.it.Za,i64 a.it.Ref.Zb,i64 a.it.Ref.No,i64 a.it.Zn1,i64 a.it.Zb1,i64 a.it.Zc,i64 a.it.Zo1,i64 a.it.Zw,i64 a.it.To,i64 a.it.Code,i64 a.it.Zp1,i64 a.it.Zq1,i64 a.it.Zr1,i64 a.it.Zs1,.str a.it.Zt1,.sl false (L Aj a.it.Zu1),.bool a.ok] false] (fun r' σ'=>r'=.tup []∧σ'=[.box [.sl false (L Ag r.p.Zg1.Ze),.sl false (L Al r.p.Zg1.Zf),.sl false (L Aa r.p.Zh1.Zx),.sl false (L Ae r.p.Zh1.Zy),.sl false (L Ai r.p.Zh1.Zz),.sl false (L Ah r.p.Zh1.Za1),.sl false (L Af r.p.Zi1),.sl false (L Ad r.p.Zj1),.sl false (L Ab r.p.Zk1),i64 r.it.Za,i64 r.it.Ref.Zb,i64 r.it.Ref.No,i64 r.it.Zn1,i64 r.it.Zb1,i64 r.it.Zc,i64 r.it.Zo1,i64 r.it.Zw,i64 r.it.To,i64 r.it.Code,i64 r.it.Zp1,i64 r.it.Zq1,i64 r.it.Zr1,i64 r.it.Zs1,.str r.it.Zt1,.sl false (L Aj r.it.Zu1),.bool r.ok] false]):=by
 refine Co 1 31 [] Tryz.func150 (fun F hE=>?_) h;unfold Bu;refine Tw [1] (fun f=>⟨Ar 31 [(1,.ref 0 15)],[.box [.sl false (L Ag a.p.Zg1.Ze),.sl false (L Al a.p.Zg1.Zf),.sl false (L Aa a.p.Zh1.Zx),.sl false (L Ae a.p.Zh1.Zy),.sl false (L Ai a.p.Zh1.Zz),.sl false (L Ah a.p.Zh1.Za1),.sl false (L Af a.p.Zi1),.sl false (L Ad a.p.Zj1),.sl false (L Ab a.p.Zk1),i64 a.it.Za,i64 a.it.Ref.Zb,i64 a.it.Ref.No,i64 a.it.Zn1,i64 a.it.Zb1,i64 a.it.Zc,i64 a.it.Zo1,i64 a.it.Zw,i64 a.it.To,i64 a.it.Code,i64 a.it.Zp1,i64 a.it.Zq1,i64 a.it.Zr1,i64 a.it.Zs1,.str a.it.Zt1,.sl false (L Aj a.it.Zu1),.bool f] false]⟩) ?_ ?_
 ·intro _;refine Sp (fun b=>?_) fun b=>?_
  ·refine Sp (fun c=>?_) fun c=>?_
   ·exact Lf Ac (Ew2 b c) (ws [0])
   ·exact Lf Ac (Ew2 b c) (ws [0])
  ·exact Lf Ac (Ew1 b) (ws [0])
 intro f;refine F0 [] ?_;exact Ro [0]
theorem Hb{a d e r}(h:Cq a d e=some r):Con B 150 [.ref 0 0,.ref 0 16,i64 d,i64 e] [.box [.sl false (L Ag a.p.Zg1.Ze),.sl false (L Al a.p.Zg1.Zf),.sl false (L Aa a.p.Zh1.Zx),.sl false (L Ae a.p.Zh1.Zy),.sl false (L Ai a.p.Zh1.Zz),.sl false (L Ah a.p.Zh1.Za1),.sl false (L Af a.p.Zi1),.sl false (L Ad a.p.Zj1),.sl false (L Ab a.p.Zk1),i64 a.it.Za,i64 a.it.Ref.Zb,i64 a.it.Ref.No,i64 a.it.Zn1,i64 a.it.Zb1,i64 a.it.Zc,i64 a.it.Zo1,i64 a.it.Zw,i64 a.it.To,i64 a.it.Code,i64 a.it.Zp1,i64 a.it.Zq1,i64 a.it.Zr1,i64 a.it.Zs1,.str a.it.Zt1,.sl false (L Aj a.it.Zu1),.bool a.ok] false] (fun r' σ'=>r'=.tup []∧σ'=[.box [.sl false (L Ag r.p.Zg1.Ze),.sl false (L Al r.p.Zg1.Zf),.sl false (L Aa r.p.Zh1.Zx),.sl false (L Ae r.p.Zh1.Zy),.sl false (L Ai r.p.Zh1.Zz),.sl false (L Ah r.p.Zh1.Za1),.sl false (L Af r.p.Zi1),.sl false (L Ad r.p.Zj1),.sl false (L Ab r.p.Zk1),i64 r.it.Za,i64 r.it.Ref.Zb,i64 r.it.Ref.No,i64 r.it.Zn1,i64 r.it.Zb1,i64 r.it.Zc,i64 r.it.Zo1,i64 r.it.Zw,i64 r.it.To,i64 r.it.Code,i64 r.it.Zp1,i64 r.it.Zq1,i64 r.it.Zr1,i64 r.it.Zs1,.str r.it.Zt1,.sl false (L Aj r.it.Zu1),.bool r.ok] false]):=by
 refine Co 1 31 [] Tryz.func150 (fun F hE=>?_) h;unfold Cq;refine Tw [1] (fun f=>⟨Ar 31 [(1,.ref 0 16)],[.box [.sl false (L Ag a.p.Zg1.Ze),.sl false (L Al a.p.Zg1.Zf),.sl false (L Aa a.p.Zh1.Zx),.sl false (L Ae a.p.Zh1.Zy),.sl false (L Ai a.p.Zh1.Zz),.sl false (L Ah a.p.Zh1.Za1),.sl false (L Af a.p.Zi1),.sl false (L Ad a.p.Zj1),.sl false (L Ab a.p.Zk1),i64 a.it.Za,i64 a.it.Ref.Zb,i64 a.it.Ref.No,i64 a.it.Zn1,i64 a.it.Zb1,i64 a.it.Zc,i64 a.it.Zo1,i64 a.it.Zw,i64 a.it.To,i64 a.it.Code,i64 a.it.Zp1,i64 a.it.Zq1,i64 a.it.Zr1,i64 a.it.Zs1,.str a.it.Zt1,.sl false (L Aj a.it.Zu1),.bool f] false]⟩) ?_ ?_
 ·intro _;refine Sp (fun b=>?_) fun b=>?_
  ·refine Sp (fun c=>?_) fun c=>?_
   ·exact Lf Ac (Ew2 b c) (ws [0])
   ·exact Lf Ac (Ew2 b c) (ws [0])
  ·exact Lf Ac (Ew1 b) (ws [0])
 intro f;refine F0 [] ?_;exact Ro [0]
theorem Hh{a d e r}(h:Cr a d e=some r):Con B 150 [.ref 0 0,.ref 0 17,i64 d,i64 e] [.box [.sl false (L Ag a.p.Zg1.Ze),.sl false (L Al a.p.Zg1.Zf),.sl false (L Aa a.p.Zh1.Zx),.sl false (L Ae a.p.Zh1.Zy),.sl false (L Ai a.p.Zh1.Zz),.sl false (L Ah a.p.Zh1.Za1),.sl false (L Af a.p.Zi1),.sl false (L Ad a.p.Zj1),.sl false (L Ab a.p.Zk1),i64 a.it.Za,i64 a.it.Ref.Zb,i64 a.it.Ref.No,i64 a.it.Zn1,i64 a.it.Zb1,i64 a.it.Zc,i64 a.it.Zo1,i64 a.it.Zw,i64 a.it.To,i64 a.it.Code,i64 a.it.Zp1,i64 a.it.Zq1,i64 a.it.Zr1,i64 a.it.Zs1,.str a.it.Zt1,.sl false (L Aj a.it.Zu1),.bool a.ok] false] (fun r' σ'=>r'=.tup []∧σ'=[.box [.sl false (L Ag r.p.Zg1.Ze),.sl false (L Al r.p.Zg1.Zf),.sl false (L Aa r.p.Zh1.Zx),.sl false (L Ae r.p.Zh1.Zy),.sl false (L Ai r.p.Zh1.Zz),.sl false (L Ah r.p.Zh1.Za1),.sl false (L Af r.p.Zi1),.sl false (L Ad r.p.Zj1),.sl false (L Ab r.p.Zk1),i64 r.it.Za,i64 r.it.Ref.Zb,i64 r.it.Ref.No,i64 r.it.Zn1,i64 r.it.Zb1,i64 r.it.Zc,i64 r.it.Zo1,i64 r.it.Zw,i64 r.it.To,i64 r.it.Code,i64 r.it.Zp1,i64 r.it.Zq1,i64 r.it.Zr1,i64 r.it.Zs1,.str r.it.Zt1,.sl false (L Aj r.it.Zu1),.bool r.ok] false]):=by
 refine Co 1 31 [] Tryz.func150 (fun F hE=>?_) h;unfold Cr;refine Tw [1] (fun f=>⟨Ar 31 [(1,.ref 0 17)],[.box [.sl false (L Ag a.p.Zg1.Ze),.sl false (L Al a.p.Zg1.Zf),.sl false (L Aa a.p.Zh1.Zx),.sl false (L Ae a.p.Zh1.Zy),.sl false (L Ai a.p.Zh1.Zz),.sl false (L Ah a.p.Zh1.Za1),.sl false (L Af a.p.Zi1),.sl false (L Ad a.p.Zj1),.sl false (L Ab a.p.Zk1),i64 a.it.Za,i64 a.it.Ref.Zb,i64 a.it.Ref.No,i64 a.it.Zn1,i64 a.it.Zb1,i64 a.it.Zc,i64 a.it.Zo1,i64 a.it.Zw,i64 a.it.To,i64 a.it.Code,i64 a.it.Zp1,i64 a.it.Zq1,i64 a.it.Zr1,i64 a.it.Zs1,.str a.it.Zt1,.sl false (L Aj a.it.Zu1),.bool f] false]⟩) ?_ ?_
 ·intro _;refine Sp (fun b=>?_) fun b=>?_
  ·refine Sp (fun c=>?_) fun c=>?_
   ·exact Lf Ac (Ew2 b c) (ws [0])
   ·exact Lf Ac (Ew2 b c) (ws [0])
  ·exact Lf Ac (Ew1 b) (ws [0])
 intro f;refine F0 [] ?_;exact Ro [0]
theorem Ce{a d e r}(h:Be a d e=some r):Con B 150 [.ref 0 0,.ref 0 18,i64 d,i64 e] [.box [.sl false (L Ag a.p.Zg1.Ze),.sl false (L Al a.p.Zg1.Zf),.sl false (L Aa a.p.Zh1.Zx),.sl false (L Ae a.p.Zh1.Zy),.sl false (L Ai a.p.Zh1.Zz),.sl false (L Ah a.p.Zh1.Za1),.sl false (L Af a.p.Zi1),.sl false (L Ad a.p.Zj1),.sl false (L Ab a.p.Zk1),i64 a.it.Za,i64 a.it.Ref.Zb,i64 a.it.Ref.No,i64 a.it.Zn1,i64 a.it.Zb1,i64 a.it.Zc,i64 a.it.Zo1,i64 a.it.Zw,i64 a.it.To,i64 a.it.Code,i64 a.it.Zp1,i64 a.it.Zq1,i64 a.it.Zr1,i64 a.it.Zs1,.str a.it.Zt1,.sl false (L Aj a.it.Zu1),.bool a.ok] false] (fun r' σ'=>r'=.tup []∧σ'=[.box [.sl false (L Ag r.p.Zg1.Ze),.sl false (L Al r.p.Zg1.Zf),.sl false (L Aa r.p.Zh1.Zx),.sl false (L Ae r.p.Zh1.Zy),.sl false (L Ai r.p.Zh1.Zz),.sl false (L Ah r.p.Zh1.Za1),.sl false (L Af r.p.Zi1),.sl false (L Ad r.p.Zj1),.sl false (L Ab r.p.Zk1),i64 r.it.Za,i64 r.it.Ref.Zb,i64 r.it.Ref.No,i64 r.it.Zn1,i64 r.it.Zb1,i64 r.it.Zc,i64 r.it.Zo1,i64 r.it.Zw,i64 r.it.To,i64 r.it.Code,i64 r.it.Zp1,i64 r.it.Zq1,i64 r.it.Zr1,i64 r.it.Zs1,.str r.it.Zt1,.sl false (L Aj r.it.Zu1),.bool r.ok] false]):=by
 refine Co 1 31 [] Tryz.func150 (fun F hE=>?_) h;unfold Be;refine Tw [1] (fun f=>⟨Ar 31 [(1,.ref 0 18)],[.box [.sl false (L Ag a.p.Zg1.Ze),.sl false (L Al a.p.Zg1.Zf),.sl false (L Aa a.p.Zh1.Zx),.sl false (L Ae a.p.Zh1.Zy),.sl false (L Ai a.p.Zh1.Zz),.sl false (L Ah a.p.Zh1.Za1),.sl false (L Af a.p.Zi1),.sl false (L Ad a.p.Zj1),.sl false (L Ab a.p.Zk1),i64 a.it.Za,i64 a.it.Ref.Zb,i64 a.it.Ref.No,i64 a.it.Zn1,i64 a.it.Zb1,i64 a.it.Zc,i64 a.it.Zo1,i64 a.it.Zw,i64 a.it.To,i64 a.it.Code,i64 a.it.Zp1,i64 a.it.Zq1,i64 a.it.Zr1,i64 a.it.Zs1,.str a.it.Zt1,.sl false (L Aj a.it.Zu1),.bool f] false]⟩) ?_ ?_
 ·intro _;refine Sp (fun b=>?_) fun b=>?_
  ·refine Sp (fun c=>?_) fun c=>?_
   ·exact Lf Ac (Ew2 b c) (ws [0])
   ·exact Lf Ac (Ew2 b c) (ws [0])
  ·exact Lf Ac (Ew1 b) (ws [0])
 intro f;refine F0 [] ?_;exact Ro [0]
theorem GX{a d e r}(h:Cu a d e=some r):Con B 150 [.ref 0 0,.ref 0 19,i64 d,i64 e] [.box [.sl false (L Ag a.p.Zg1.Ze),.sl false (L Al a.p.Zg1.Zf),.sl false (L Aa a.p.Zh1.Zx),.sl false (L Ae a.p.Zh1.Zy),.sl false (L Ai a.p.Zh1.Zz),.sl false (L Ah a.p.Zh1.Za1),.sl false (L Af a.p.Zi1),.sl false (L Ad a.p.Zj1),.sl false (L Ab a.p.Zk1),i64 a.it.Za,i64 a.it.Ref.Zb,i64 a.it.Ref.No,i64 a.it.Zn1,i64 a.it.Zb1,i64 a.it.Zc,i64 a.it.Zo1,i64 a.it.Zw,i64 a.it.To,i64 a.it.Code,i64 a.it.Zp1,i64 a.it.Zq1,i64 a.it.Zr1,i64 a.it.Zs1,.str a.it.Zt1,.sl false (L Aj a.it.Zu1),.bool a.ok] false] (fun r' σ'=>r'=.tup []∧σ'=[.box [.sl false (L Ag r.p.Zg1.Ze),.sl false (L Al r.p.Zg1.Zf),.sl false (L Aa r.p.Zh1.Zx),.sl false (L Ae r.p.Zh1.Zy),.sl false (L Ai r.p.Zh1.Zz),.sl false (L Ah r.p.Zh1.Za1),.sl false (L Af r.p.Zi1),.sl false (L Ad r.p.Zj1),.sl false (L Ab r.p.Zk1),i64 r.it.Za,i64 r.it.Ref.Zb,i64 r.it.Ref.No,i64 r.it.Zn1,i64 r.it.Zb1,i64 r.it.Zc,i64 r.it.Zo1,i64 r.it.Zw,i64 r.it.To,i64 r.it.Code,i64 r.it.Zp1,i64 r.it.Zq1,i64 r.it.Zr1,i64 r.it.Zs1,.str r.it.Zt1,.sl false (L Aj r.it.Zu1),.bool r.ok] false]):=by
 refine Co 1 31 [] Tryz.func150 (fun F hE=>?_) h;unfold Cu;refine Tw [1] (fun f=>⟨Ar 31 [(1,.ref 0 19)],[.box [.sl false (L Ag a.p.Zg1.Ze),.sl false (L Al a.p.Zg1.Zf),.sl false (L Aa a.p.Zh1.Zx),.sl false (L Ae a.p.Zh1.Zy),.sl false (L Ai a.p.Zh1.Zz),.sl false (L Ah a.p.Zh1.Za1),.sl false (L Af a.p.Zi1),.sl false (L Ad a.p.Zj1),.sl false (L Ab a.p.Zk1),i64 a.it.Za,i64 a.it.Ref.Zb,i64 a.it.Ref.No,i64 a.it.Zn1,i64 a.it.Zb1,i64 a.it.Zc,i64 a.it.Zo1,i64 a.it.Zw,i64 a.it.To,i64 a.it.Code,i64 a.it.Zp1,i64 a.it.Zq1,i64 a.it.Zr1,i64 a.it.Zs1,.str a.it.Zt1,.sl false (L Aj a.it.Zu1),.bool f] false]⟩) ?_ ?_
 ·intro _;refine Sp (fun b=>?_) fun b=>?_
  ·refine Sp (fun c=>?_) fun c=>?_
   ·exact Lf Ac (Ew2 b c) (ws [0])
   ·exact Lf Ac (Ew2 b c) (ws [0])
  ·exact Lf Ac (Ew1 b) (ws [0])
 intro f;refine F0 [] ?_;exact Ro [0]
theorem GV{a d e r}(h:Cn a d e=some r):Con B 150 [.ref 0 0,.ref 0 20,i64 d,i64 e] [.box [.sl false (L Ag a.p.Zg1.Ze),.sl false (L Al a.p.Zg1.Zf),.sl false (L Aa a.p.Zh1.Zx),.sl false (L Ae a.p.Zh1.Zy),.sl false (L Ai a.p.Zh1.Zz),.sl false (L Ah a.p.Zh1.Za1),.sl false (L Af a.p.Zi1),.sl false (L Ad a.p.Zj1),.sl false (L Ab a.p.Zk1),i64 a.it.Za,i64 a.it.Ref.Zb,i64 a.it.Ref.No,i64 a.it.Zn1,i64 a.it.Zb1,i64 a.it.Zc,i64 a.it.Zo1,i64 a.it.Zw,i64 a.it.To,i64 a.it.Code,i64 a.it.Zp1,i64 a.it.Zq1,i64 a.it.Zr1,i64 a.it.Zs1,.str a.it.Zt1,.sl false (L Aj a.it.Zu1),.bool a.ok] false] (fun r' σ'=>r'=.tup []∧σ'=[.box [.sl false (L Ag r.p.Zg1.Ze),.sl false (L Al r.p.Zg1.Zf),.sl false (L Aa r.p.Zh1.Zx),.sl false (L Ae r.p.Zh1.Zy),.sl false (L Ai r.p.Zh1.Zz),.sl false (L Ah r.p.Zh1.Za1),.sl false (L Af r.p.Zi1),.sl false (L Ad r.p.Zj1),.sl false (L Ab r.p.Zk1),i64 r.it.Za,i64 r.it.Ref.Zb,i64 r.it.Ref.No,i64 r.it.Zn1,i64 r.it.Zb1,i64 r.it.Zc,i64 r.it.Zo1,i64 r.it.Zw,i64 r.it.To,i64 r.it.Code,i64 r.it.Zp1,i64 r.it.Zq1,i64 r.it.Zr1,i64 r.it.Zs1,.str r.it.Zt1,.sl false (L Aj r.it.Zu1),.bool r.ok] false]):=by
 refine Co 1 31 [] Tryz.func150 (fun F hE=>?_) h;unfold Cn;refine Tw [1] (fun f=>⟨Ar 31 [(1,.ref 0 20)],[.box [.sl false (L Ag a.p.Zg1.Ze),.sl false (L Al a.p.Zg1.Zf),.sl false (L Aa a.p.Zh1.Zx),.sl false (L Ae a.p.Zh1.Zy),.sl false (L Ai a.p.Zh1.Zz),.sl false (L Ah a.p.Zh1.Za1),.sl false (L Af a.p.Zi1),.sl false (L Ad a.p.Zj1),.sl false (L Ab a.p.Zk1),i64 a.it.Za,i64 a.it.Ref.Zb,i64 a.it.Ref.No,i64 a.it.Zn1,i64 a.it.Zb1,i64 a.it.Zc,i64 a.it.Zo1,i64 a.it.Zw,i64 a.it.To,i64 a.it.Code,i64 a.it.Zp1,i64 a.it.Zq1,i64 a.it.Zr1,i64 a.it.Zs1,.str a.it.Zt1,.sl false (L Aj a.it.Zu1),.bool f] false]⟩) ?_ ?_
 ·intro _;refine Sp (fun b=>?_) fun b=>?_
  ·refine Sp (fun c=>?_) fun c=>?_
   ·exact Lf Ac (Ew2 b c) (ws [0])
   ·exact Lf Ac (Ew2 b c) (ws [0])
  ·exact Lf Ac (Ew1 b) (ws [0])
 intro f;refine F0 [] ?_;exact Ro [0]
theorem Ex{a d e r}(h:B8 a d e=some r):Con B 150 [.ref 0 0,.ref 0 21,i64 d,i64 e] [.box [.sl false (L Ag a.p.Zg1.Ze),.sl false (L Al a.p.Zg1.Zf),.sl false (L Aa a.p.Zh1.Zx),.sl false (L Ae a.p.Zh1.Zy),.sl false (L Ai a.p.Zh1.Zz),.sl false (L Ah a.p.Zh1.Za1),.sl false (L Af a.p.Zi1),.sl false (L Ad a.p.Zj1),.sl false (L Ab a.p.Zk1),i64 a.it.Za,i64 a.it.Ref.Zb,i64 a.it.Ref.No,i64 a.it.Zn1,i64 a.it.Zb1,i64 a.it.Zc,i64 a.it.Zo1,i64 a.it.Zw,i64 a.it.To,i64 a.it.Code,i64 a.it.Zp1,i64 a.it.Zq1,i64 a.it.Zr1,i64 a.it.Zs1,.str a.it.Zt1,.sl false (L Aj a.it.Zu1),.bool a.ok] false] (fun r' σ'=>r'=.tup []∧σ'=[.box [.sl false (L Ag r.p.Zg1.Ze),.sl false (L Al r.p.Zg1.Zf),.sl false (L Aa r.p.Zh1.Zx),.sl false (L Ae r.p.Zh1.Zy),.sl false (L Ai r.p.Zh1.Zz),.sl false (L Ah r.p.Zh1.Za1),.sl false (L Af r.p.Zi1),.sl false (L Ad r.p.Zj1),.sl false (L Ab r.p.Zk1),i64 r.it.Za,i64 r.it.Ref.Zb,i64 r.it.Ref.No,i64 r.it.Zn1,i64 r.it.Zb1,i64 r.it.Zc,i64 r.it.Zo1,i64 r.it.Zw,i64 r.it.To,i64 r.it.Code,i64 r.it.Zp1,i64 r.it.Zq1,i64 r.it.Zr1,i64 r.it.Zs1,.str r.it.Zt1,.sl false (L Aj r.it.Zu1),.bool r.ok] false]):=by
 refine Co 1 31 [] Tryz.func150 (fun F hE=>?_) h;unfold B8;refine Tw [1] (fun f=>⟨Ar 31 [(1,.ref 0 21)],[.box [.sl false (L Ag a.p.Zg1.Ze),.sl false (L Al a.p.Zg1.Zf),.sl false (L Aa a.p.Zh1.Zx),.sl false (L Ae a.p.Zh1.Zy),.sl false (L Ai a.p.Zh1.Zz),.sl false (L Ah a.p.Zh1.Za1),.sl false (L Af a.p.Zi1),.sl false (L Ad a.p.Zj1),.sl false (L Ab a.p.Zk1),i64 a.it.Za,i64 a.it.Ref.Zb,i64 a.it.Ref.No,i64 a.it.Zn1,i64 a.it.Zb1,i64 a.it.Zc,i64 a.it.Zo1,i64 a.it.Zw,i64 a.it.To,i64 a.it.Code,i64 a.it.Zp1,i64 a.it.Zq1,i64 a.it.Zr1,i64 a.it.Zs1,.str a.it.Zt1,.sl false (L Aj a.it.Zu1),.bool f] false]⟩) ?_ ?_
 ·intro _;refine Sp (fun b=>?_) fun b=>?_
  ·refine Sp (fun c=>?_) fun c=>?_
   ·exact Lf Ac (Ew2 b c) (ws [0])
   ·exact Lf Ac (Ew2 b c) (ws [0])
  ·exact Lf Ac (Ew1 b) (ws [0])
 intro f;refine F0 [] ?_;exact Ro [0]
end Go.Proofs.YtioapcamanmoiaaGreatDoor
