/-
  Part 44.
-/
import Derived.Test.YtioapcamanmoiaaGreatDoorRows
import Derived.Test.YtioapcamanmoiaaGreatDoorYA26
import Derived.Test.YtioapcamanmoiaaGreatDoorYA29
import Derived.Test.YtioapcamanmoiaaGreatDoorYA39
import Derived.Test.YtioapcamanmoiaaGreatDoorYA43
import Derived.WalkKit
import Derived.ProofKit
import Derived.OpenShut
import Derived.JoinedCond
import Derived.LaidMore
import Derived.Lay
import Derived.SevenTiedAt
import Derived.Stop.Joined
import Derived.Lib.Tables
import Derived.KernelRfl
set_option linter.unusedVariables false
set_option linter.unusedSimpArgs false
namespace Go.Proofs.YtioapcamanmoiaaGreatDoor
open Go.Rv
set_option maxRecDepth 20000
def G2(a:UInt64)(b:UInt64)(c:UInt64)(d:UInt64):Option ((UInt64×UInt64×UInt64)⊕(UInt64)) :=if (decide (c>(0:UInt64)))then (if((c%(2:UInt64))==(1:UInt64))then if ¬a=0 then some ((d+b)%a) else none else some d:Option (UInt64)).bind fun e=>if ¬a=0 then some (.inl (((b+b)%a),(c/(2:UInt64)),e)) else none else some (.inr d)
def H4(a:UInt64)(b:UInt64)(c:UInt64):Option (UInt64) :=((Ax (fun(v:UInt64×UInt64×UInt64)=>G2 c v.1 v.2.1 v.2.2) (a,b,(0:UInt64))).bind fun d=>some d:Option (UInt64)).bind fun e=>some e
def Ij(a:UInt64)(b:UInt64)(c:UInt64):Option ((UInt64×UInt64×UInt64)⊕(UInt64)) :=if(decide (b>(0:UInt64)))then (if((b%(2:UInt64))==(1:UInt64))then (H4 c a (2305843009213690799:UInt64)).bind fun d=>some d else some c:Option (UInt64)).bind fun e=>(H4 a a (2305843009213690799:UInt64)).bind fun f=>some (.inl (f,(b/(2:UInt64)),e)) else some (.inr c)
def Jk(a:UInt64)(b:UInt64):Option (UInt64) :=(lt1 (a%(2305843009213690799:UInt64)) fun(c:UInt64)=>(Ax (fun(v:UInt64×UInt64×UInt64)=>Ij v.1 v.2.1 v.2.2) (c,b,(1:UInt64))).bind fun d=>some d:Option (UInt64)).bind fun e=>some e
def MW(a:UInt64):Option (UInt64×Int) :=(if(decide (a<(1:UInt64)))then some true else some (decide (a≥(1152921504606845399:UInt64))):Option (Bool)).bind fun b=>if b then some ((0:UInt64),30) else (Jk (4:UInt64) a).bind fun c=>some (c,0)
def HZ(a:Int)(b:List AsG):Option ((Int×List AsG)⊕(List AsG)) :=if(decide (a<2))then (MW (UInt64.ofInt (w64 (7+a)))).bind fun c=>if Cj (b.length+1) 144 then lt1 (b++([({ Key:=c.1,Zf1:=({ Zd1:=(({ Zw:=0,To:=0 }:AsE),({ Zw:=0,To:=0 }:AsE),({ Zw:=0,To:=0 }:AsE),({ Zw:=0,To:=0 }:AsE),({ Zw:=0,To:=0 }:AsE),({ Zw:=0,To:=0 }:AsE),({ Zw:=0,To:=0 }:AsE)),Ze1:=[] }:AsF) }:AsG)]:List AsG)) fun(d:List AsG)=>some (.inl ((w64 (a+1)),d)) else none else some (.inr b)
def r14_Example  : Option (AsH) :=lt1 ([({ Za:=1,Zb:=0,Zc:=(-1) }:Asu),({ Za:=3,Zb:=0,Zc:=1 }:Asu),({ Za:=4,Zb:=1,Zc:=(-1) }:Asu)]:List Asu) fun(a:List Asu)=>lt1 ([({ A:=0,B:=1,Zb:=0,Zd:=10,Km:=5 }:Asv),({ A:=1,B:=2,Zb:=1,Zd:=20,Km:=9 }:Asv)]:List Asv) fun(b:List Asv)=>lt1 ([({ Zg:=1000,Zh:=0,Zi:=0,Zj:=0,Zk:=0,Zl:=(7:UInt64),Zm:=1000,Zn:=0 }:Asx)]:List Asx) fun(c:List Asx)=>lt1 ([({ Zo:=0,Zp:=0,Zq:=0,Zr:=0,Zs:=5000 }:Asy)]:List Asy) fun(d:List Asy)=>lt1 ([({ Zb1:=0,Low:=(-3),Zc1:=3 }:AsC)]:List AsC) fun(e:List AsC)=>lt1 ([({ Zb1:=2 }:AsD)]:List AsD) fun(f:List AsD)=>((Ax (fun(v:Int×List AsG)=>HZ v.1 v.2) (0,[])).bind fun g=>some g:Option (List AsG)).bind fun i=>some ({ Zg1:=({ Ze:=a,Zf:=b }:Asw),Zh1:=({ Zx:=c,Zy:=d,Zz:=[],Za1:=[] }:AsB),Zi1:=e,Zj1:=f,Zk1:=i }:AsH)
def CP(a:Int):Option (AsK) :=some ({ Za:=8,Ref:=({ Zb:=0,No:=0 }:AsI),Zn1:=0,Zb1:=0,Zc:=0,Zo1:=0,Zw:=3,To:=0,Code:=a,Zp1:=0,Zq1:=0,Zr1:=0,Zs1:=0,Zt1:=([]:List UInt8),Zu1:=[] }:AsK)
def FR(a:Asu):Option (Bool) :=(if(decide (a.Za<1))then some true else if(decide (a.Za>5))then some true else if(decide (a.Zb<0))then some true else some (decide (a.Zb≥16)):Option (Bool)).bind fun b=>if b then some false else if(a.Za != 3)then some (a.Zc==(-1)) else (if(decide (a.Zc≥0))then if(decide (a.Zc<16))then some (a.Zc != a.Zb) else some false else some false:Option (Bool)).bind fun c=>some c
def CH(b:Asw)(a:Int):Option ((Int)⊕((Unit)⊕((Unit)⊕(Int)))) :=if (decide (a<(b.Ze.length:Int)))then if InR a b.Ze.length then lt1 ((nth b.Ze a.toNat).Za) fun(c:Int)=>lt1 ((nth b.Ze a.toNat).Zb) fun(d:Int)=>lt1 ((nth b.Ze a.toNat).Zc) fun(e:Int)=>(FR ({ Za:=c,Zb:=d,Zc:=e }:Asu)).bind fun f=>if(!f)then ((some 1).bind fun g=>some (.inr g)).bind fun i=>some (.inr (.inr i)) else some (.inl (w64 (a+1))) else none else some (.inr (.inl ()))
def CC(b:Asw)(i:Int)(a:Int):Option ((Int)⊕((Unit)⊕((Unit)⊕(Int)))) :=if (decide (a<(b.Zf.length:Int)))then if InR a b.Zf.length then lt1 ((nth b.Zf a.toNat).A) fun(c:Int)=>lt1 ((nth b.Zf a.toNat).B) fun(d:Int)=>lt1 ((nth b.Zf a.toNat).Zb) fun(e:Int)=>lt1 ((nth b.Zf a.toNat).Zd) fun(f:Int)=>lt1 ((nth b.Zf a.toNat).Km) fun(g:Int)=>(if(decide ((Mo (Mo (Mo c d) e) g)<0))then some true else if(decide ((J6 c d)≥i))then some true else if(c==d)then some true else if(decide (e≥16))then some true else if(decide (f<1))then some true else if(decide (f>100000))then some true else some (decide (g>10000)):Option (Bool)).bind fun j=>if j then ((some 1).bind fun k=>some (.inr k)).bind fun l=>some (.inr (.inr l)) else some (.inl (w64 (a+1))) else none else some (.inr (.inl ()))
def FG(a:Asw):Option (Int) :=lt1 (a.Ze.length:Int) fun(b:Int)=>(if(decide (b>512))then some true else some (decide ((a.Zf.length:Int)>2048)):Option (Bool)).bind fun c=>if c then some 2 else ((Ax (fun(v:Int)=>CH a v) 0).bind fun x=>match x with
  |.inl ()=>some (.inl ())
  |.inr z=>some z:Option ((Unit)⊕(Int))).bind fun x=>match x with
  | .inl ()=>((Ax (fun(v:Int)=>CC a b v) 0).bind fun x=>match x with
   |.inl ()=>some (.inl ())
   |.inr z=>some z:Option ((Unit)⊕(Int))).bind fun x=>match x with
   |.inl ()=>some 0
   |.inr z=>some z
  |.inr z=>some z
def AO(a:Bool)(b:Int):Option (Int) :=if(!a)then some 1 else some b
def AG(a:Int)(b:Int)(c:Int):Option (Bool) :=(if(decide (a≥b))then some (decide (a≤c)) else some false:Option (Bool)).bind fun d=>some d
def DQ(d:Int)(b:List Int)(a:Int)(c:Int):Option ((Int×Int)⊕(Int)) :=if(decide (a<d))then if InR a b.length then (AG (nth b a.toNat) 0 1000000).bind fun e=>(AO e c).bind fun f=>some (.inl ((w64 (a+1)),f)) else none else some (.inr c)
def Dl(b:AsB)(a:Int)(d:Int):Option ((Int×Int)⊕(Int)) :=if (decide (a<(b.Zx.length:Int)))then (if InR a b.Zx.length then lt1 ((nth b.Zx a.toNat).Zg) fun(e:Int)=>lt1 ((nth b.Zx a.toNat).Zh) fun(f:Int)=>lt1 ((nth b.Zx a.toNat).Zi) fun(g:Int)=>lt1 ((nth b.Zx a.toNat).Zj) fun(j:Int)=>lt1 ((nth b.Zx a.toNat).Zk) fun(i:Int)=>lt1 ((nth b.Zx a.toNat).Zl) fun(z:UInt64)=>lt1 ((nth b.Zx a.toNat).Zm) fun(k:Int)=>lt1 ((nth b.Zx a.toNat).Zn) fun(l:Int)=>(lt1 (([e,f,g,i]:List Int).length:Int) fun(m:Int)=>lt1 ([e,f,g,i]:List Int) fun(n:List Int)=>(Ax (fun(v:Int×Int)=>DQ m n v.1 v.2) (0,d)).bind fun o=>some o:Option (Int)).bind fun c=>((AG j 0 7).bind fun p=>if p then (AG k 1 1073741824).bind fun q=>if q then (AG l 0 100).bind fun s=>(AO s c).bind fun t=>some t else (AO false c).bind fun u=>some u else (AO false c).bind fun w=>some w:Option (Int)).bind fun x=>some x else none:Option (Int)).bind fun y=>some (.inl ((w64 (a+1)),y)) else some (.inr d)
def Dv(a:AsB)(b:Int)(c:Int):Option ((Int×Int)⊕(Int)) :=if (decide (b<(a.Zy.length:Int)))then if InR b a.Zy.length then lt1 ((nth a.Zy b.toNat).Zo) fun(e:Int)=>lt1 ((nth a.Zy b.toNat).Zp) fun(f:Int)=>lt1 ((nth a.Zy b.toNat).Zq) fun(g:Int)=>lt1 ((nth a.Zy b.toNat).Zr) fun(i:Int)=>lt1 ((nth a.Zy b.toNat).Zs) fun(j:Int)=>((AG e 0 (w64 ((a.Zx.length:Int)-1))).bind fun k=>if k then (AG f 0 63).bind fun l=>if l then (AG g 0 511).bind fun m=>(AO m c).bind fun n=>some n else (AO false c).bind fun o=>some o else (AO false c).bind fun p=>some p:Option (Int)).bind fun d=>((AG i 0 1073741824).bind fun q=>if q then (AG j 0 1099511627776).bind fun s=>(AO s d).bind fun t=>some t else (AO false d).bind fun u=>some u:Option (Int)).bind fun v=>some (.inl ((w64 (b+1)),v)) else none else some (.inr c)
def Ds(a:AsB)(b:Int)(c:Int):Option ((Int×Int)⊕(Int)) :=if (decide (b<(a.Zz.length:Int)))then if InR b a.Zz.length then lt1 ((nth a.Zz b.toNat).Zt) fun(d:Int)=>lt1 ((nth a.Zz b.toNat).Zu) fun(e:Int)=>lt1 ((nth a.Zz b.toNat).Zv) fun(f:Int)=>((AG d 0 (w64 ((a.Zx.length:Int)-1))).bind fun g=>if g then (AG e 0 (w64 ((a.Zx.length:Int)-1))).bind fun i=>if i then if(d != e)then (AG f 0 1000000000).bind fun j=>(AO j c).bind fun k=>some k else (AO false c).bind fun l=>some l else (AO false c).bind fun m=>some m else (AO false c).bind fun n=>some n:Option (Int)).bind fun o=>some (.inl ((w64 (b+1)),o)) else none else some (.inr c)
def Do(d:AsB)(a:Int)(f:Int)(e:Arr Bool 4096):Option ((Int×Int×Arr Bool 4096)⊕(Int)) :=if (decide (a<(d.Za1.length:Int)))then (if InR a d.Za1.length then lt1 ((nth d.Za1 a.toNat).Zw) fun(b:Int)=>lt1 ((nth d.Za1 a.toNat).To) fun(c:Int)=>lt1 ((nth d.Za1 a.toNat).Zd) fun(j:Int)=>((AG b 0 63).bind fun k=>if k then (AG c 0 63).bind fun l=>if l then if(b != c)then (AG j 0 100000).bind fun m=>some m else some false else some false else some false:Option (Bool)).bind fun g=>(AO g f).bind fun i=>if g = true then if InR b 64 then if InR c 64 then (AO (!(e.get (b.toNat*64+c.toNat))) i).bind fun n=>if InR b 64 then if InR c 64 then lt1 (e.set (b.toNat*64+c.toNat) true) fun(o:Arr Bool 4096)=>some (n,o) else none else none else none else none else some (i,e) else none:Option (Int×Arr Bool 4096)).bind fun(p,q)=>some (.inl ((w64 (a+1)),p,q)) else some (.inr f)
def Hw(a:AsB):Option (Int) :=(if(decide ((a.Zx.length:Int)>32))then some true else if(decide ((a.Zy.length:Int)>4096))then some true else if(decide ((a.Zz.length:Int)>1024))then some true else some (decide ((a.Za1.length:Int)>4096)):Option (Bool)).bind fun b=>if b then some 2 else ((Ax (fun(v:Int×Int)=>Dl a v.1 v.2) (0,0)).bind fun c=>some c:Option (Int)).bind fun d=>((Ax (fun(v:Int×Int)=>Dv a v.1 v.2) (0,d)).bind fun e=>some e:Option (Int)).bind fun f=>((Ax (fun(v:Int×Int)=>Ds a v.1 v.2) (0,f)).bind fun g=>some g:Option (Int)).bind fun i=>((Ax (fun(v:Int×Int×Arr Bool 4096)=>Do a v.1 v.2.1 v.2.2) (0,i,(Arr.rep 4096 false))).bind fun j=>some j:Option (Int)).bind fun k=>some k
def CS(b:AsF)(d:Int)(a:Int):Option ((Int×Int)⊕((Unit)⊕((Unit)⊕(Int)))) :=if (decide (a<(b.Ze1.length:Int)))then if InR a b.Ze1.length then lt1 (nth b.Ze1 a.toNat) fun(c:Int)=>(if(decide (c≤d))then some true else some (decide (c>745654)):Option (Bool)).bind fun e=>if e then ((some 1).bind fun f=>some (.inr f)).bind fun g=>some (.inr (.inr g)) else some (.inl (c,(w64 (a+1)))) else none else some (.inr (.inl ()))
def Dm(a:AsF):Option (Int) :=lt1 a.Zd1.2.2.2.2.2.1.Zw fun(b:Int)=>lt1 a.Zd1.2.2.2.2.2.2.Zw fun(c:Int)=>((if(decide (a.Zd1.1.Zw<0))then some true else if(decide (a.Zd1.1.To<a.Zd1.1.Zw))then some true else some (decide (a.Zd1.1.To>1440)):Option (Bool)).bind fun d=>if d then (some 1).bind fun e=>some (.inr e) else (if(decide (a.Zd1.2.1.Zw<0))then some true else if(decide (a.Zd1.2.1.To<a.Zd1.2.1.Zw))then some true else some (decide (a.Zd1.2.1.To>1440)):Option (Bool)).bind fun f=>if f then (some 1).bind fun g=>some (.inr g) else (if(decide (a.Zd1.2.2.1.Zw<0))then some true else if(decide (a.Zd1.2.2.1.To<a.Zd1.2.2.1.Zw))then some true else some (decide (a.Zd1.2.2.1.To>1440)):Option (Bool)).bind fun i=>if i then (some 1).bind fun j=>some (.inr j) else (if(decide (a.Zd1.2.2.2.1.Zw<0))then some true else if(decide (a.Zd1.2.2.2.1.To<a.Zd1.2.2.2.1.Zw))then some true else some (decide (a.Zd1.2.2.2.1.To>1440)):Option (Bool)).bind fun k=>if k then (some 1).bind fun l=>some (.inr l) else (if(decide (a.Zd1.2.2.2.2.1.Zw<0))then some true else if(decide (a.Zd1.2.2.2.2.1.To<a.Zd1.2.2.2.2.1.Zw))then some true else some (decide (a.Zd1.2.2.2.2.1.To>1440)):Option (Bool)).bind fun m=>if m then (some 1).bind fun n=>some (.inr n) else (if(decide (b<0))then some true else if(decide (a.Zd1.2.2.2.2.2.1.To<b))then some true else some (decide (a.Zd1.2.2.2.2.2.1.To>1440)):Option (Bool)).bind fun o=>if o then (some 1).bind fun p=>some (.inr p) else (if(decide (c<0))then some true else if(decide (a.Zd1.2.2.2.2.2.2.To<c))then some true else some (decide (a.Zd1.2.2.2.2.2.2.To>1440)):Option (Bool)).bind fun q=>if q then (some 1).bind fun s=>some (.inr s) else some (.inl ()):Option ((Unit)⊕(Int))).bind fun x=>match x with
 | .inl ()=>((Ax (fun(v:Int×Int)=>CS a v.1 v.2) ((-1),0)).bind fun x=>match x with
  |.inl ()=>some (.inl ())
  |.inr z=>some z:Option ((Unit)⊕(Int))).bind fun x=>match x with
  |.inl ()=>some 0
  |.inr z=>some z
 |.inr z=>some z
def IH(a:UInt64)(b:UInt64):Option (UInt64×UInt64) :=lt1 (a &&& (4294967295:UInt64)) fun(x0_2596:UInt64)=>lt1 (CY a (32:UInt64).toNat) fun(x1_2598:UInt64)=>lt1 (b &&& (4294967295:UInt64)) fun(y0_2600:UInt64)=>lt1 (CY b (32:UInt64).toNat) fun(y1_2602:UInt64)=>lt1 ((x1_2598*y0_2600)+(CY (x0_2596*y0_2600) (32:UInt64).toNat)) fun(c:UInt64)=>lt1 (c &&& (4294967295:UInt64)) fun(w1_2606:UInt64)=>lt1 (CY c (32:UInt64).toNat) fun(w2_2608:UInt64)=>lt1 (w1_2606+(x0_2596*y1_2602)) fun(w1_2610:UInt64)=>lt1 (((x1_2598*y1_2602)+w2_2608)+(CY w1_2610 (32:UInt64).toNat)) fun(d:UInt64)=>some (d,(a*b))
def EA(a:UInt64):Option (Int) :=(if(decide (a≥(4294967296:UInt64)))then lt1 (CY a (32:UInt64).toNat) fun(g:UInt64)=>some (g,32) else some (a,0):Option (UInt64×Int)).bind fun(b,d)=>(if(decide (b≥(65536:UInt64)))then lt1 (CY b (16:UInt64).toNat) fun(i:UInt64)=>some (i,(w64 (d+16))) else some (b,d):Option (UInt64×Int)).bind fun(c,e)=>(if(decide (c≥(256:UInt64)))then lt1 (CY c (8:UInt64).toNat) fun(j:UInt64)=>some (j,(w64 (e+8))) else some (c,e):Option (UInt64×Int)).bind fun(f,k)=>if InR (f.toUInt8.toNat:Int) (([0,1,2,2,3,3,3,3,4,4,4,4,4,4,4,4,5,5,5,5,5,5,5,5,5,5,5,5,5,5,5,5,6,6,6,6,6,6,6,6,6,6,6,6,6,6,6,6,6,6,6,6,6,6,6,6,6,6,6,6,6,6,6,6,7,7,7,7,7,7,7,7,7,7,7,7,7,7,7,7,7,7,7,7,7,7,7,7,7,7,7,7,7,7,7,7,7,7,7,7,7,7,7,7,7,7,7,7,7,7,7,7,7,7,7,7,7,7,7,7,7,7,7,7,7,7,7,7,8,8,8,8,8,8,8,8,8,8,8,8,8,8,8,8,8,8,8,8,8,8,8,8,8,8,8,8,8,8,8,8,8,8,8,8,8,8,8,8,8,8,8,8,8,8,8,8,8,8,8,8,8,8,8,8,8,8,8,8,8,8,8,8,8,8,8,8,8,8,8,8,8,8,8,8,8,8,8,8,8,8,8,8,8,8,8,8,8,8,8,8,8,8,8,8,8,8,8,8,8,8,8,8,8,8,8,8,8,8,8,8,8,8,8,8,8,8,8,8,8,8,8,8,8,8,8,8]:List UInt8).length)then lt1 (w64 (k+((nth ([0,1,2,2,3,3,3,3,4,4,4,4,4,4,4,4,5,5,5,5,5,5,5,5,5,5,5,5,5,5,5,5,6,6,6,6,6,6,6,6,6,6,6,6,6,6,6,6,6,6,6,6,6,6,6,6,6,6,6,6,6,6,6,6,7,7,7,7,7,7,7,7,7,7,7,7,7,7,7,7,7,7,7,7,7,7,7,7,7,7,7,7,7,7,7,7,7,7,7,7,7,7,7,7,7,7,7,7,7,7,7,7,7,7,7,7,7,7,7,7,7,7,7,7,7,7,7,7,8,8,8,8,8,8,8,8,8,8,8,8,8,8,8,8,8,8,8,8,8,8,8,8,8,8,8,8,8,8,8,8,8,8,8,8,8,8,8,8,8,8,8,8,8,8,8,8,8,8,8,8,8,8,8,8,8,8,8,8,8,8,8,8,8,8,8,8,8,8,8,8,8,8,8,8,8,8,8,8,8,8,8,8,8,8,8,8,8,8,8,8,8,8,8,8,8,8,8,8,8,8,8,8,8,8,8,8,8,8,8,8,8,8,8,8,8,8,8,8,8,8,8,8,8,8,8,8]:List UInt8) f.toUInt8.toNat).toNat:Int))) fun(l:Int)=>some l else none
def CX(a:UInt64):Option (Int) :=(EA a).bind fun b=>some (w64 (64-b))
def EE(yn1_2658:UInt64)(yn0_2660:UInt64)(un1_2666:UInt64)(q1_2701:UInt64)(a:UInt64):Option ((UInt64×UInt64)⊕(UInt64)) :=(if(decide (q1_2701≥(4294967296:UInt64)))then some true else some (decide ((q1_2701*yn0_2660)>(((4294967296:UInt64)*a)+un1_2666))):Option (Bool)).bind fun b=>if b then if(decide ((a+yn1_2658)≥(4294967296:UInt64)))then some (.inr (q1_2701-(1:UInt64))) else some (.inl ((q1_2701-(1:UInt64)),(a+yn1_2658))) else some (.inr q1_2701)
def EM(yn1_2658:UInt64)(yn0_2660:UInt64)(un0_2668:UInt64)(a:UInt64)(q0_2749:UInt64):Option ((UInt64×UInt64)⊕(UInt64)) :=(if(decide (q0_2749≥(4294967296:UInt64)))then some true else some (decide ((q0_2749*yn0_2660)>(((4294967296:UInt64)*a)+un0_2668))):Option (Bool)).bind fun b=>if b then if(decide ((a+yn1_2658)≥(4294967296:UInt64)))then some (.inr (q0_2749-(1:UInt64))) else some (.inl ((a+yn1_2658),(q0_2749-(1:UInt64)))) else some (.inr q0_2749)
def Hf(e:UInt64)(c:UInt64)(a:UInt64):Option (UInt64×UInt64) :=if(a==(0:UInt64))then none else if(decide (a≤e))then none else if (e==(0:UInt64))then if ¬a=0 then if ¬a=0 then some ((c/a),(c%a)) else none else none else (CX a).bind fun b=>lt1 (Jp a (UInt64.ofInt b).toNat) fun(d:UInt64)=>lt1 (CY d (32:UInt64).toNat) fun(yn1_2658:UInt64)=>lt1 (d &&& (4294967295:UInt64)) fun(yn0_2660:UInt64)=>lt1 ((Jp e (UInt64.ofInt b).toNat) ||| (CY c ((64:UInt64)-(UInt64.ofInt b)).toNat)) fun(un32_2662:UInt64)=>lt1 (Jp c (UInt64.ofInt b).toNat) fun(un10_2664:UInt64)=>lt1 (CY un10_2664 (32:UInt64).toNat) fun(un1_2666:UInt64)=>lt1 (un10_2664 &&& (4294967295:UInt64)) fun(un0_2668:UInt64)=>if ¬yn1_2658=0 then lt1 (un32_2662-((un32_2662/yn1_2658)*yn1_2658)) fun(f:UInt64)=>((Ax (fun(v:UInt64×UInt64)=>EE yn1_2658 yn0_2660 un1_2666 v.1 v.2) ((un32_2662/yn1_2658),f)).bind fun q1_2706=>some q1_2706:Option (UInt64)).bind fun q1_2692=>lt1 (((un32_2662*(4294967296:UInt64))+un1_2666)-(q1_2692*d)) fun(un21_2715:UInt64)=>if ¬yn1_2658=0 then lt1 (un21_2715-((un21_2715/yn1_2658)*yn1_2658)) fun(g:UInt64)=>((Ax (fun(v:UInt64×UInt64)=>EM yn1_2658 yn0_2660 un0_2668 v.1 v.2) (g,(un21_2715/yn1_2658))).bind fun q0_2753=>some q0_2753:Option (UInt64)).bind fun q0_2739=>lt1 ((q1_2692*(4294967296:UInt64))+q0_2739) fun(i:UInt64)=>lt1 (CY (((un21_2715*(4294967296:UInt64))+un0_2668)-(q0_2739*d)) (UInt64.ofInt b).toNat) fun(j:UInt64)=>some (i,j) else none else none
def Dj(c:UInt64)(d:UInt64)(a:UInt64):Option (UInt64×UInt64) :=if ¬a=0 then if ¬a=0 then (IH (c%a) (d%a)).bind fun b=>(Hf b.1 b.2 a).bind fun e=>some (e.2,a) else none else none
def Ew(a:UInt64):Option (UInt64) :=some a
def Fm(g:UInt64)(d:UInt64)(i:Int)(c:UInt64)(a:Int)(j:UInt64):Option ((UInt64×Int×UInt64)⊕(UInt64)) :=if (decide (a<i))then ((Dj c c j).bind fun b=>(EA d).bind fun e=>if Cb (w64 ((w64 (e-1))-a))then lt1 (((CY d ((w64 ((w64 (e-1))-a)).toNat)) &&& (1:UInt64))==(1:UInt64)) fun(k:Bool)=>if k then (Dj b.1 g b.2).bind fun f=>some (f.1,f.2) else some (b.1,b.2) else none:Option (UInt64×UInt64)).bind fun(l,m)=>some (.inl (l,(w64 (a+1)),m)) else some (.inr c)
def FQ(b:UInt64)(a:UInt64):Option (UInt64) :=(Ew (2305843009213690799:UInt64)).bind fun c=>((EA a).bind fun d=>(Ax (fun(v:UInt64×Int×UInt64)=>Fm b a d v.1 v.2.1 v.2.2) ((1:UInt64),0,c)).bind fun e=>some e:Option (UInt64)).bind fun f=>some f
def Gb(a:UInt64):Option (Bool) :=(if(decide (a≥(2:UInt64)))then if(decide (a<(2305843009213690799:UInt64)))then (FQ a (1152921504606845399:UInt64)).bind fun b=>some (b==(1:UInt64)) else some false else some false:Option (Bool)).bind fun c=>some c
def Ch(a:AsH)(c:Bool)(b:Int):Option ((Bool×Int)⊕(Bool)) :=if (decide (b<(a.Zi1.length:Int)))then if InR b a.Zi1.length then lt1 ((nth a.Zi1 b.toNat).Zb1) fun(f:Int)=>lt1 ((nth a.Zi1 b.toNat).Low) fun(d:Int)=>lt1 ((nth a.Zi1 b.toNat).Zc1) fun(e:Int)=>(if c then some true else (AG f 0 (w64 ((a.Zg1.Ze.length:Int)-1))).bind fun g=>if(!g)then some true else if(decide (d<(-1000)))then some true else if(decide (d>e))then some true else some (decide (e>1000)):Option (Bool)).bind fun i=>some (.inl (i,(w64 (b+1)))) else none else some (.inr c)
def BZ(a:AsH)(d:Bool)(b:Int):Option ((Bool×Int)⊕(Bool)) :=if (decide (b<(a.Zj1.length:Int)))then if InR b a.Zj1.length then lt1 ((nth a.Zj1 b.toNat).Zb1) fun(c:Int)=>(if d then some true else (AG c 0 (w64 ((a.Zg1.Ze.length:Int)-1))).bind fun e=>if(!e)then some true else if InR c a.Zg1.Ze.length then some ((nth a.Zg1.Ze c.toNat).Za != 4) else none:Option (Bool)).bind fun f=>some (.inl (f,(w64 (b+1)))) else none else some (.inr d)
def BU(a:AsH)(c:Bool)(b:Int):Option ((Bool×Int)⊕(Bool)) :=if (decide (b<(a.Zh1.Zy.length:Int)))then if InR b a.Zh1.Zy.length then lt1 ((nth a.Zh1.Zy b.toNat).Zo) fun(f:Int)=>lt1 ((nth a.Zh1.Zy b.toNat).Zp) fun(g:Int)=>lt1 ((nth a.Zh1.Zy b.toNat).Zq) fun(d:Int)=>lt1 ((nth a.Zh1.Zy b.toNat).Zr) fun(i:Int)=>lt1 ((nth a.Zh1.Zy b.toNat).Zs) fun(j:Int)=>(if c then some true else some (decide (d≥(a.Zg1.Ze.length:Int))):Option (Bool)).bind fun e=>some (.inl (e,(w64 (b+1)))) else none else some (.inr c)
def BW(b:AsH)(c:Int)(d:Bool)(a:Int):Option ((Bool×Int)⊕(Bool)) :=if (decide (a<(b.Zg1.Ze.length:Int)))then if InR a b.Zg1.Ze.length then lt1 ((nth b.Zg1.Ze a.toNat).Za) fun(i:Int)=>lt1 ((nth b.Zg1.Ze a.toNat).Zb) fun(e:Int)=>lt1 ((nth b.Zg1.Ze a.toNat).Zc) fun(f:Int)=>(if d then some true else if(decide (e≥c))then some true else some (decide (f≥c)):Option (Bool)).bind fun g=>some (.inl (g,(w64 (a+1)))) else none else some (.inr d)
def BX(b:AsH)(d:Int)(c:Bool)(a:Int):Option ((Bool×Int)⊕(Bool)) :=if (decide (a<(b.Zg1.Zf.length:Int)))then if InR a b.Zg1.Zf.length then lt1 ((nth b.Zg1.Zf a.toNat).A) fun(g:Int)=>lt1 ((nth b.Zg1.Zf a.toNat).B) fun(i:Int)=>lt1 ((nth b.Zg1.Zf a.toNat).Zb) fun(e:Int)=>lt1 ((nth b.Zg1.Zf a.toNat).Zd) fun(j:Int)=>lt1 ((nth b.Zg1.Zf a.toNat).Km) fun(k:Int)=>(if c then some true else some (decide (e≥d)):Option (Bool)).bind fun f=>some (.inl (f,(w64 (a+1)))) else none else some (.inr c)
def BV(b:AsH)(c:Bool)(a:Int):Option ((Bool×Int)⊕(Bool)) :=if (decide (a<(b.Zk1.length:Int)))then if InR a b.Zk1.length then lt1 ((nth b.Zk1 a.toNat).Key) fun(d:UInt64)=>lt1 (((((nth b.Zk1 a.toNat).Zf1).Zd1).1).Zw) fun(e:Int)=>lt1 (((((nth b.Zk1 a.toNat).Zf1).Zd1).1).To) fun(f:Int)=>lt1 (((((nth b.Zk1 a.toNat).Zf1).Zd1).2.1).Zw) fun(g:Int)=>lt1 (((((nth b.Zk1 a.toNat).Zf1).Zd1).2.1).To) fun(i:Int)=>lt1 (((((nth b.Zk1 a.toNat).Zf1).Zd1).2.2.1).Zw) fun(j:Int)=>lt1 (((((nth b.Zk1 a.toNat).Zf1).Zd1).2.2.1).To) fun(k:Int)=>lt1 (((((nth b.Zk1 a.toNat).Zf1).Zd1).2.2.2.1).Zw) fun(l:Int)=>lt1 (((((nth b.Zk1 a.toNat).Zf1).Zd1).2.2.2.1).To) fun(m:Int)=>lt1 (((((nth b.Zk1 a.toNat).Zf1).Zd1).2.2.2.2.1).Zw) fun(n:Int)=>lt1 (((((nth b.Zk1 a.toNat).Zf1).Zd1).2.2.2.2.1).To) fun(o:Int)=>lt1 (((((nth b.Zk1 a.toNat).Zf1).Zd1).2.2.2.2.2.1).Zw) fun(p:Int)=>lt1 (((((nth b.Zk1 a.toNat).Zf1).Zd1).2.2.2.2.2.1).To) fun(q:Int)=>lt1 (((((nth b.Zk1 a.toNat).Zf1).Zd1).2.2.2.2.2.2).Zw) fun(s:Int)=>lt1 (((((nth b.Zk1 a.toNat).Zf1).Zd1).2.2.2.2.2.2).To) fun(t:Int)=>lt1 (((nth b.Zk1 a.toNat).Zf1).Ze1) fun(u:List Int)=>(if c then some true else (Dm ({ Zd1:=(({ Zw:=e,To:=f }:AsE),({ Zw:=g,To:=i }:AsE),({ Zw:=j,To:=k }:AsE),({ Zw:=l,To:=m }:AsE),({ Zw:=n,To:=o }:AsE),({ Zw:=p,To:=q }:AsE),({ Zw:=s,To:=t }:AsE)),Ze1:=u }:AsF)).bind fun v=>if(v != 0)then some true else (Gb d).bind fun w=>some (!w):Option (Bool)).bind fun x=>some (.inl (x,(w64 (a+1)))) else none else some (.inr c)
def BI(a:AsH):Option (Int) :=(FG a.Zg1).bind fun c=>if(c != 0)then some c else (Hw a.Zh1).bind fun d=>if(d != 0)then some d else (if(decide ((a.Zi1.length:Int)>256))then some true else if(decide ((a.Zj1.length:Int)>256))then some true else some (decide ((a.Zk1.length:Int)>16)):Option (Bool)).bind fun e=>if e then some 2 else lt1 (a.Zk1.length:Int) fun(b:Int)=>((Ax (fun(v:Bool×Int)=>Ch a v.1 v.2) ((b==0),0)).bind fun f=>some f:Option (Bool)).bind fun g=>((Ax (fun(v:Bool×Int)=>BZ a v.1 v.2) (g,0)).bind fun i=>some i:Option (Bool)).bind fun j=>((Ax (fun(v:Bool×Int)=>BU a v.1 v.2) (j,0)).bind fun k=>some k:Option (Bool)).bind fun l=>((Ax (fun(v:Bool×Int)=>BW a b v.1 v.2) (l,0)).bind fun m=>some m:Option (Bool)).bind fun n=>((Ax (fun(v:Bool×Int)=>BX a b v.1 v.2) (n,0)).bind fun o=>some o:Option (Bool)).bind fun p=>((Ax (fun(v:Bool×Int)=>BV a v.1 v.2) (p,0)).bind fun q=>some q:Option (Bool)).bind fun s=>if s then some 1 else some 0
def IY(a:UInt64):Option (UInt64×Int) :=(if(decide (a<(1:UInt64)))then some true else some (decide (a≥(1152921504606845399:UInt64))):Option (Bool)).bind fun b=>if b then some ((0:UInt64),30) else (FQ (4:UInt64) a).bind fun c=>some (c,0)
def GY(a:AsO)(b:Int):Option (List AsM) :=if(decide (b≥(a.Zy1.length:Int)))then some ([]) else if InR b a.Zy1.length then some (nth a.Zy1 b.toNat) else none
def G9(a:Int):Option (AsP) :=some (AsP.mk 1 a ([]) ([]))
def KG(a:List UInt8):Option (AsP) :=some (AsP.mk 2 0 a ([]))
def Ba(a:Int):Option (AsP) :=some (AsP.mk 1 a ([]) ([]))
def edi_list_cnil  : Option (AsP) :=some (AsP.mk 3 0 ([]) ([]))
def HD(a:List AsP):Option (AsP) :=some (AsP.mk 3 0 ([]) a)
def EJ(a:List AsP):Option (AsP) :=some (AsP.mk 3 0 ([]) a)
def Oc(a:List UInt8):Option (AsP) :=some (AsP.mk 2 0 a ([]))
def E4(b:AsK)(a:Int)(c:List AsP):Option ((Int×List AsP)⊕(List AsP)) :=if (decide (a<(b.Zu1.length:Int)))then if InR a b.Zu1.length then lt1 ((nth b.Zu1 a.toNat).Za) fun(e:Int)=>lt1 ((nth b.Zu1 a.toNat).Zl1) fun(f:Int)=>lt1 ((nth b.Zu1 a.toNat).Zm1) fun(g:Bool)=>(if g then some 1 else some 0:Option (Int)).bind fun i=>(Ba e).bind fun j=>(Ba f).bind fun k=>(Ba i).bind fun l=>(EJ ([j,k,l]:List AsP)).bind fun d=>if Cj (c.length+1) 64 then lt1 (c++([(AsP.mk d.Za d.N ([]) d.L)]:List AsP)) fun(m:List AsP)=>some (.inl ((w64 (a+1)),m)) else none else none else some (.inr c)
def Hx(a : AsK):Option (AsP) :=(Ba a.Za).bind fun s=>(Ba a.Ref.Zb).bind fun t=>(Ba a.Ref.No).bind fun u=>(EJ ([t,u]:List AsP)).bind fun b=>lt1 ([s,(AsP.mk b.Za b.N ([]) b.L)]:List AsP) fun(d:List AsP)=>((Ba a.Zn1).bind fun w=>if Cj (d.length+1) 64 then lt1 (d++([w]:List AsP)) fun(e:List AsP)=>(Ba a.Zb1).bind fun x=>if Cj (e.length+1) 64 then lt1 (e++([x]:List AsP)) fun(f:List AsP)=>(Ba a.Zc).bind fun y=>if Cj (f.length+1) 64 then lt1 (f++([y]:List AsP)) fun(g:List AsP)=>(Ba a.Zo1).bind fun z=>if Cj (g.length+1) 64 then lt1 (g++([z]:List AsP)) fun(i:List AsP)=>(Ba a.Zw).bind fun aa=>if Cj (i.length+1) 64 then lt1 (i++([aa]:List AsP)) fun(j:List AsP)=>(Ba a.To).bind fun ab=>if Cj (j.length+1) 64 then lt1 (j++([ab]:List AsP)) fun(k:List AsP)=>(Ba a.Code).bind fun ac=>if Cj (k.length+1) 64 then lt1 (k++([ac]:List AsP)) fun(l:List AsP)=>(Ba a.Zp1).bind fun ad=>if Cj (l.length+1) 64 then lt1 (l++([ad]:List AsP)) fun(m:List AsP)=>(Ba a.Zq1).bind fun ae=>if Cj (m.length+1) 64 then lt1 (m++([ae]:List AsP)) fun(n:List AsP)=>(Ba a.Zr1).bind fun af=>if Cj (n.length+1) 64 then lt1 (n++([af]:List AsP)) fun(o:List AsP)=>(Ba a.Zs1).bind fun ag=>if Cj (o.length+1) 64 then lt1 (o++([ag]:List AsP)) fun(ah:List AsP)=>some ah else none else none else none else none else none else none else none else none else none else none else none:Option (List AsP)).bind fun p=>edi_list_cnil.bind fun q=>((Ax (fun(v:Int×List AsP)=>E4 a v.1 v.2) (0,[])).bind fun ai=>some ai:Option (List AsP)).bind fun aj=>(Oc a.Zt1).bind fun ak=>if Cj (p.length+2) 64 then (HD (p++([ak,(AsP.mk q.Za q.N ([]) aj)]:List AsP))).bind fun c=>lt1 c.L fun(al:List AsP)=>some (AsP.mk c.Za c.N ([]) al) else none
def ED(a:AsM):Option (List AsP) :=(G9 a.Zb).bind fun b=>(G9 a.No).bind fun c=>(KG a.Zv1.l).bind fun d=>(G9 a.Zw1).bind fun e=>(Hx a.Zx1).bind fun f=>lt1 ([b,c,d,e,f]:List AsP) fun(g:List AsP)=>some g
def Ep(c:UInt64)(d:List UInt8)(a:Int)(b:List UInt8):Option ((Int×List UInt8)⊕(List UInt8)) :=if (decide (a<(d.length:Int)))then if Cb (w64 (56-(w64 (8*a))))then if InR a b.length then lt1 (b.set a.toNat ((CY c ((w64 (56-(w64 (8*a)))).toNat)).toUInt8)) fun(e:List UInt8)=>some (.inl ((w64 (a+1)),e)) else none else none else some (.inr b)
def Ix(b:UInt64):Option (AsP) :=if Mk 8 8 1 then lt1 (List.replicate 8 (0:UInt8)) fun(a:List UInt8)=>((Ax (fun(v:Int×List UInt8)=>Ep b a v.1 v.2) (0,a)).bind fun c=>some c:Option (List UInt8)).bind fun d=>(KG d).bind fun e=>some e else none
def JO(a:List AsP):Option (AsP) :=some (AsP.mk 3 0 ([]) a)
def Cz(b:AsP)(rec_:AsP→Option (Int×Bool))(c:Int)(a:Int):Option ((Int×Int)⊕((Int)⊕((Int)⊕((Unit)⊕(Int×Bool))))) :=if (decide (a<(b.L.length:Int)))then if InR a b.L.length then lt1 ((nth b.L a.toNat).Za) fun(e:Int)=>lt1 ((nth b.L a.toNat).N) fun(f:Int)=>lt1 ((nth b.L a.toNat).B) fun(g:List UInt8)=>lt1 ((nth b.L a.toNat).L) fun(i:List AsP)=>(rec_ (AsP.mk e f g i)).bind fun d=>if(!d.2)then (((some (0,false)).bind fun j=>some (.inr j)).bind fun k=>some (.inr k)).bind fun l=>some (.inr (.inr l)) else some (.inl ((J6 c d.1),(w64 (a+1)))) else none else some (.inr (.inl c))
def FK(rec_:AsP→Option (Int×Bool))(a:AsP):Option (Int×Bool) :=(if(a.Za==1)then (if((a.B.length:Int)==0)then some ((a.L.length:Int)==0) else some false:Option (Bool)).bind fun b=>(some (0,b)).bind fun c=>some (.inr c) else if(a.Za==2)then (if(a.N==0)then some ((a.L.length:Int)==0) else some false:Option (Bool)).bind fun d=>(some (0,d)).bind fun e=>some (.inr e) else if (a.Za==3)then (if(a.N != 0)then some true else some ((a.B.length:Int) != 0):Option (Bool)).bind fun f=>if f then (some (0,false)).bind fun g=>some (.inr g) else ((Ax (fun(v:Int×Int)=>Cz a rec_ v.1 v.2) (0,0)).bind fun x=>match x with
     |.inl i=>some (.inl i)
     |.inr z=>some z:Option ((Int)⊕((Unit)⊕(Int×Bool)))).bind fun x=>match x with
     |.inl j=>(some ((w64 (j+1)),true)).bind fun k=>some (.inr k)
     |.inr z=>some z else some (.inl ()):Option ((Unit)⊕(Int×Bool))).bind fun x=>match x with
 |.inl ()=>some (0,false)
 |.inr z=>some z
def EH(n:Nat):AsP→Option (Int×Bool):=match n with
 |0=>fun _=>none
 |n+1=>FK (EH n)
def Lz(a:AsP):Option (Int×Bool):=EH 18446744073709551616 a
def B0(a:UInt64)(b:Int):Option ((UInt64×Int)⊕(Int)) :=if(decide (a>(0:UInt64)))then lt1 (CY a (8:UInt64).toNat) fun(c:UInt64)=>some (.inl (c,(w64 (b+1)))) else some (.inr b)
def Cp(a:UInt64):Option (Int) :=((Ax (fun(v:UInt64×Int)=>B0 v.1 v.2) (a,0)).bind fun b=>some b:Option (Int)).bind fun c=>some c
def B1(d:Int)(b:Int)(a:Int)(c:List UInt8):Option ((Int×List UInt8)⊕(List UInt8)) :=if (decide (a<b))then if Cb (w64 (8*(w64 ((w64 (b-1))-a))))then if Cj (c.length+1) 1 then lt1 (c++([(CY (UInt64.ofInt d) ((w64 (8*(w64 ((w64 (b-1))-a)))).toNat)).toUInt8]:List UInt8)) fun(e:List UInt8)=>some (.inl ((w64 (a+1)),e)) else none else none else some (.inr c)
def E5(b:List UInt8)(a:Int):Option (List UInt8) :=(Cp (UInt64.ofInt a)).bind fun c=>lt1 (UInt8.ofInt (w64 (32+c))) fun(e:UInt8)=>(if(decide (a<0))then (Cp (~~~(UInt64.ofInt a))).bind fun d=>lt1 (UInt8.ofInt (w64 (31-d))) fun(f:UInt8)=>some (d,f) else some (c,e):Option (Int×UInt8)).bind fun(g,i)=>if Cj (b.length+1) 1 then lt1 (b++([i]:List UInt8)) fun(j:List UInt8)=>((Ax (fun(v:Int×List UInt8)=>B1 a g v.1 v.2) (0,j)).bind fun k=>some k:Option (List UInt8)).bind fun l=>some l else none
def Bf(b:AsP)(a:Int)(c:List UInt8):Option ((Int×List UInt8)⊕(List UInt8)) :=if (decide (a<(b.B.length:Int)))then (if InR a b.B.length then if Cj (c.length+1) 1 then lt1 (c++([nth b.B a.toNat]:List UInt8)) fun(d:List UInt8)=>if(nth b.B a.toNat==(0:UInt8))then if Cj (d.length+1) 1 then lt1 (d++([(255:UInt8)]:List UInt8)) fun(e:List UInt8)=>some e else none else some d else none else none:Option (List UInt8)).bind fun f=>some (.inl ((w64 (a+1)),f)) else some (.inr c)
def Bg(b:AsP)(rec_:(List UInt8)→AsP→Option (List UInt8))(a:Int)(c:List UInt8):Option ((Int×List UInt8)⊕(List UInt8)) :=if(decide (a<(b.L.length:Int)))then if InR a b.L.length then lt1 ((nth b.L a.toNat).Za) fun(d:Int)=>lt1 ((nth b.L a.toNat).N) fun(e:Int)=>lt1 ((nth b.L a.toNat).B) fun(f:List UInt8)=>lt1 ((nth b.L a.toNat).L) fun(g:List AsP)=>(rec_ c (AsP.mk d e f g)).bind fun i=>some (.inl ((w64 (a+1)),i)) else none else some (.inr c)
def CV(rec_:(List UInt8)→AsP→Option (List UInt8))(a:List UInt8)(b:AsP):Option (List UInt8) :=(if(b.Za==1)then (E5 a b.N).bind fun e=>(some e).bind fun f=>some (.inr f) else if (b.Za==2)then if Cj (a.length+1) 1 then lt1 (a++([(48:UInt8)]:List UInt8)) fun(g:List UInt8)=>((Ax (fun(v:Int×List UInt8)=>Bf b v.1 v.2) (0,g)).bind fun i=>some i:Option (List UInt8)).bind fun c=>if Cj (c.length+2) 1 then lt1 (c++([(0:UInt8),(0:UInt8)]:List UInt8)) fun(j:List UInt8)=>(some j).bind fun k=>some (.inr k) else none else none else some (.inl ()):Option ((Unit)⊕(List UInt8))).bind fun x=>match x with
 | .inl ()=>if Cj (a.length+1) 1 then lt1 (a++([(64:UInt8)]:List UInt8)) fun(l:List UInt8)=>((Ax (fun(v:Int×List UInt8)=>Bg b rec_ v.1 v.2) (0,l)).bind fun m=>some m:Option (List UInt8)).bind fun d=>if Cj (d.length+1) 1 then lt1 (d++([(0:UInt8)]:List UInt8)) fun(n:List UInt8)=>some n else none else none
 |.inr z=>some z
def Cs(n:Nat):(List UInt8)→AsP→Option (List UInt8):=match n with
 |0=>fun _ _=>none
 |n+1=>CV (Cs n)
def Gs(a:List UInt8)(b:AsP):Option (List UInt8):=Cs 18446744073709551616 a b
def Fo(a:AsP):Option (List UInt8×Int) :=(Lz a).bind fun b=>if(!b.2)then some ([],10) else if(decide (b.1>16))then some ([],2) else (Gs ([]) a).bind fun c=>if(decide ((c.length:Int)>65536))then some ([],2) else some (c,0)
def Hg(a:AsM):Option (List UInt8×Int) :=(ED a).bind fun b=>(Ix a.Sig.C).bind fun d=>(Ix a.Sig.S).bind fun e=>(JO ([d,e]:List AsP)).bind fun f=>if Cj (b.length+1) 64 then (JO (b++([f]:List AsP))).bind fun g=>(Fo g).bind fun c=>some (c.1,c.2) else none
def A0(a:UInt32)(c:Int):Option (UInt32) :=lt1 ((UInt64.ofInt c) &&& (31:UInt64)) fun(b:UInt64)=>lt1 ((ND a b.toNat) ||| (NN a ((32:UInt64)-b).toNat)) fun(d:UInt32)=>some d
def Bh(b:List UInt8)(a:Int)(c:Arr UInt32 64):Option ((Int×Arr UInt32 64)⊕(Arr UInt32 64)) :=if (decide (a<16))then if InR (w64 (4*a)) b.length then if InR (w64 ((w64 (4*a))+1)) b.length then if InR (w64 ((w64 (4*a))+2)) b.length then if InR (w64 ((w64 (4*a))+3)) b.length then if InR a 64 then lt1 (c.set a.toNat ((((ND ((nth b ((w64 (4*a)).toNat)).toUInt32) (24:UInt64).toNat) ||| (ND ((nth b ((w64 ((w64 (4*a))+1)).toNat)).toUInt32) (16:UInt64).toNat)) ||| (ND ((nth b ((w64 ((w64 (4*a))+2)).toNat)).toUInt32) (8:UInt64).toNat)) ||| (nth b ((w64 ((w64 (4*a))+3)).toNat)).toUInt32)) fun(d:Arr UInt32 64)=>some (.inl ((w64 (a+1)),d)) else none else none else none else none else none else some (.inr c)
def AX(a:Int)(b:Arr UInt32 64):Option ((Int×Arr UInt32 64)⊕(Arr UInt32 64)) :=if (decide (a<64))then if InR (w64 (a-15)) 64 then if InR (w64 (a-2)) 64 then lt1 (b.get ((w64 (a-15)).toNat)) fun(c:UInt32)=>lt1 (b.get ((w64 (a-2)).toNat)) fun(d:UInt32)=>(A0 c (-7)).bind fun e=>(A0 c (-18)).bind fun f=>lt1 ((e ^^^ f) ^^^ (NN c (3:UInt64).toNat)) fun(s0_5401:UInt32)=>(A0 d (-17)).bind fun g=>(A0 d (-19)).bind fun i=>lt1 ((g ^^^ i) ^^^ (NN d (10:UInt64).toNat)) fun(s1_5407:UInt32)=>if InR (w64 (a-16)) 64 then if InR (w64 (a-7)) 64 then if InR a 64 then lt1 (b.set a.toNat ((((b.get ((w64 (a-16)).toNat))+s0_5401)+(b.get ((w64 (a-7)).toNat)))+s1_5407)) fun(j:Arr UInt32 64)=>some (.inl ((w64 (a+1)),j)) else none else none else none else none else none else some (.inr b)
def Bi(d:Arr UInt32 64)(b:Int)(a:Arr UInt32 8):Option ((Int×Arr UInt32 8)⊕(Arr UInt32 8)) :=if (decide (b<64))then (A0 (a.get 4) (-6)).bind fun e=>(A0 (a.get 4) (-11)).bind fun f=>(A0 (a.get 4) (-25)).bind fun g=>if InR b 64 then if InR b 64 then lt1 (((((a.get 7)+((e ^^^ f) ^^^ g))+(((a.get 4) &&& (a.get 5)) ^^^ ((~~~(a.get 4)) &&& (a.get 6))))+(glob3.get b.toNat))+(d.get b.toNat)) fun(c:UInt32)=>(A0 (a.get 0) (-2)).bind fun i=>(A0 (a.get 0) (-13)).bind fun j=>(A0 (a.get 0) (-22)).bind fun k=>lt1 (((i ^^^ j) ^^^ k)+((((a.get 0) &&& (a.get 1)) ^^^ ((a.get 0) &&& (a.get 2))) ^^^ ((a.get 1) &&& (a.get 2)))) fun(l:UInt32)=>lt1 (⟨[(c+l),(a.get 0),(a.get 1),(a.get 2),((a.get 3)+c),(a.get 4),(a.get 5),(a.get 6)],rfl⟩:Arr UInt32 8) fun(m:Arr UInt32 8)=>some (.inl ((w64 (b+1)),m)) else none else none else some (.inr a)
def Bs(c:Arr UInt32 8)(a:Int)(b:Arr UInt32 8):Option ((Int×Arr UInt32 8)⊕(Arr UInt32 8)) :=if (decide (a<8))then if InR a 8 then if InR a 8 then if InR a 8 then lt1 (b.set a.toNat ((b.get a.toNat)+(c.get a.toNat))) fun(d:Arr UInt32 8)=>some (.inl ((w64 (a+1)),d)) else none else none else none else some (.inr b)
def Dh(a:Arr UInt32 8)(b:List UInt8):Option (Arr UInt32 8) :=((Ax (fun(v:Int×Arr UInt32 64)=>Bh b v.1 v.2) (0,(Arr.rep 64 (0:UInt32)))).bind fun c=>some c:Option (Arr UInt32 64)).bind fun d=>((Ax (fun(v:Int×Arr UInt32 64)=>AX v.1 v.2) (16,d)).bind fun e=>some e:Option (Arr UInt32 64)).bind fun f=>((Ax (fun(v:Int×Arr UInt32 8)=>Bi f v.1 v.2) (0,a)).bind fun g=>some g:Option (Arr UInt32 8)).bind fun i=>((Ax (fun(v:Int×Arr UInt32 8)=>Bs i v.1 v.2) (0,a)).bind fun j=>some j:Option (Arr UInt32 8)).bind fun k=>some k
def Cy(b:List (List UInt8))(a:Int)(c:List UInt8):Option ((Int×List UInt8)⊕(List UInt8)) :=if (decide (a<(b.length:Int)))then if InR a b.length then lt1 (nth b a.toNat) fun(d:List UInt8)=>if Cj (c.length+d.length) 1 then lt1 (c++d) fun(e:List UInt8)=>some (.inl ((w64 (a+1)),e)) else none else none else some (.inr c)
def BJ(a:List UInt8):Option ((List UInt8)⊕(List UInt8)) :=if((((a.length:Int):Int).tmod 64) != 56)then if Cj (a.length+1) 1 then lt1 (a++([(0:UInt8)]:List UInt8)) fun(b:List UInt8)=>some (.inl b) else none else some (.inr a)
def CL(c:UInt64)(a:Int)(b:List UInt8):Option ((Int×List UInt8)⊕(List UInt8)) :=if (decide (a≥0))then if Cb a then if Cj (b.length+1) 1 then lt1 (b++([(CY c a.toNat).toUInt8]:List UInt8)) fun(d:List UInt8)=>some (.inl ((w64 (a-8)),d)) else none else none else some (.inr b)
def CJ(d:List UInt8)(b:Nat)(a:Nat)(c:Arr UInt32 8):Option ((Nat×Nat×Arr UInt32 8)⊕(Arr UInt32 8)) :=if (decide ((a:Int)>0))then if InB 64 a then (Dh c ((d.drop b).take 64)).bind fun e=>if InB 64 a then some (.inl ((b+64),(a-64),e)) else none else none else some (.inr c)
def Ce(c:Arr UInt32 8)(a:Int)(b:Arr UInt8 32):Option ((Int×Arr UInt8 32)⊕(Arr UInt8 32)) :=if (decide (a<32))then if InR (w64 ((a:Int).tdiv 4)) 8 then if Cb (w64 (24-(w64 (8*((a:Int).tmod 4)))))then if InR a 32 then lt1 (b.set a.toNat ((NN (c.get ((w64 ((a:Int).tdiv 4)).toNat)) ((w64 (24-(w64 (8*((a:Int).tmod 4))))).toNat)).toUInt8)) fun(d:Arr UInt8 32)=>some (.inl ((w64 (a+1)),d)) else none else none else none else some (.inr b)
def Gf(c:List (List UInt8)):Option (Arr UInt8 32) :=((Ax (fun(v:Int×List UInt8)=>Cy c v.1 v.2) (0,[])).bind fun d=>some d:Option (List UInt8)).bind fun a=>lt1 ((UInt64.ofInt (a.length:Int))*(8:UInt64)) fun(e:UInt64)=>if Cj (a.length+1) 1 then lt1 (a++([(128:UInt8)]:List UInt8)) fun(f:List UInt8)=>((Ax (fun(v:List UInt8)=>BJ v) f).bind fun g=>some g:Option (List UInt8)).bind fun i=>((Ax (fun(v:Int×List UInt8)=>CL e v.1 v.2) (56,i)).bind fun j=>some j:Option (List UInt8)).bind fun b=>lt1 (⟨[(1779033703:UInt32),3144134277,1013904242,2773480762,1359893119,2600822924,528734635,1541459225],rfl⟩:Arr UInt32 8) fun(k:Arr UInt32 8)=>((Ax (fun(v:Nat×Nat×Arr UInt32 8)=>CJ b v.1 v.2.1 v.2.2) (0,b.length,k)).bind fun l=>some l:Option (Arr UInt32 8)).bind fun m=>((Ax (fun(v:Int×Arr UInt8 32)=>Ce m v.1 v.2) (0,(Arr.rep 32 (0:UInt8)))).bind fun n=>some n:Option (Arr UInt8 32)).bind fun o=>some o else none
def C0(a:List UInt8)(c:List UInt8):Option (Arr UInt8 32) :=if InB (Mo (a.length:Int) 255) a.length then lt1 (a.take ((Mo (a.length:Int) 255).toNat)) fun(b:List UInt8)=>(Gf ([([(UInt8.ofInt (b.length:Int))]:List UInt8),b,c]:List (List UInt8))).bind fun d=>some d else none
def Dx(b:AsM):Option (Arr UInt8 32×Int) :=(Hg b).bind fun a=>if(a.2 != 0)then some ((Arr.rep 32 (0:UInt8)),a.2) else (C0 ([114,101,99,111,114,100]:List UInt8) a.1).bind fun c=>some (c,0)
def Hp(b:AsM):Option (List UInt8×Int) :=(ED b).bind fun c=>(JO c).bind fun d=>(Fo d).bind fun a=>some (a.1,a.2)
def BT(c:UInt64)(a:Int)(b:List UInt8):Option ((Int×List UInt8)⊕(List UInt8)) :=if (decide (a<8))then if Cb (w64 (56-(w64 (8*a))))then if Cj (b.length+1) 1 then lt1 (b++([(CY c ((w64 (56-(w64 (8*a)))).toNat)).toUInt8]:List UInt8)) fun(d:List UInt8)=>some (.inl ((w64 (a+1)),d)) else none else none else some (.inr b)
def BH(b:List UInt64)(a:Int)(c:List UInt8):Option ((Int×List UInt8)⊕(List UInt8)) :=if(decide (a<(b.length:Int)))then (if InR a b.length then lt1 (nth b a.toNat) fun(d:UInt64)=>(Ax (fun(v:Int×List UInt8)=>BT d v.1 v.2) (0,c)).bind fun e=>some e else none:Option (List UInt8)).bind fun f=>some (.inl ((w64 (a+1)),f)) else some (.inr c)
def Ef(a:List UInt8)(b:List UInt64):Option (List UInt8) :=if Mk 0 (w64 ((w64 (8*(b.length:Int)))+(a.length:Int))) 1 then lt1 (List.replicate 0 (0:UInt8)) fun(d:List UInt8)=>((Ax (fun(v:Int×List UInt8)=>BH b v.1 v.2) (0,d)).bind fun e=>some e:Option (List UInt8)).bind fun c=>if Cj (c.length+a.length) 1 then lt1 (c++a) fun(f:List UInt8)=>some f else none else none
def B6(b:Arr UInt8 32)(c:UInt64)(a:Int):Option ((UInt64×Int)⊕(UInt64)) :=if(decide (a<((b.l.take 8).length:Int)))then if InR a ((b.l.take 8).length)then lt1 (nth (b.l.take 8) a.toNat) fun(d:UInt8)=>lt1 ((Jp c (8:UInt64).toNat) ||| d.toUInt64) fun(e:UInt64)=>some (.inl (e,(w64 (a+1)))) else none else some (.inr c)
def Dk(a:Arr UInt8 32):Option (UInt64) :=((Ax (fun(v:UInt64×Int)=>B6 a v.1 v.2) ((0:UInt64),0)).bind fun b=>some b:Option (UInt64)).bind fun c=>some c
def CQ(a:UInt64)(b:UInt64)(c:List UInt8):Option (UInt64) :=(Ef c ([a,b]:List UInt64)).bind fun d=>(C0 ([99,104,97,108,108,101,110,103,101]:List UInt8) d).bind fun e=>(Dk e).bind fun f=>some (f%(1152921504606845399:UInt64))
def O0(a:UInt64)(b:List UInt8):Option (AsL×Int) :=(IY a).bind fun c=>if(c.2 != 0)then some (({ C:=(0:UInt64),S:=(0:UInt64) }:AsL),c.2) else if(decide ((b.length:Int)>65536))then some (({ C:=(0:UInt64),S:=(0:UInt64) }:AsL),2) else (Ef b ([a]:List UInt64)).bind fun f=>(C0 ([110,111,110,99,101]:List UInt8) f).bind fun g=>(Dk g).bind fun i=>lt1 ((i%(1152921504606845398:UInt64))+(1:UInt64)) fun(d:UInt64)=>(FQ (4:UInt64) d).bind fun j=>(CQ j c.1 b).bind fun e=>(Ew (1152921504606845399:UInt64)).bind fun k=>(Dj e a k).bind fun l=>lt1 ((d+l.1)%(1152921504606845399:UInt64)) fun(m:UInt64)=>some (({ C:=e,S:=m }:AsL),0)
def FB(a:AsK):Option (Bool) :=if((a.Ref.Zb==0)&&(a.Ref.No==0))then some (a.Za != 14) else (if(decide (a.Ref.Zb≥0))then if(decide (a.Ref.Zb<16))then if(decide (a.Ref.No≥1))then some (decide (a.Ref.No≤4096)) else some false else some false else some false:Option (Bool)).bind fun b=>some b
def C5(a:AsQ)(b:Int)(c:Int):Option (AsQ) :=(if a.ok=true then if(decide (b≤a.it.Zn1))then some (decide (a.it.Zn1≤c)) else some false else some false:Option (Bool)).bind fun d=>some ({ p:=a.p,it:=({ Za:=a.it.Za,Ref:=a.it.Ref,Zn1:=0,Zb1:=a.it.Zb1,Zc:=a.it.Zc,Zo1:=a.it.Zo1,Zw:=a.it.Zw,To:=a.it.To,Code:=a.it.Code,Zp1:=a.it.Zp1,Zq1:=a.it.Zq1,Zr1:=a.it.Zr1,Zs1:=a.it.Zs1,Zt1:=a.it.Zt1,Zu1:=a.it.Zu1 }:AsK),ok:=d }:AsQ)
def B5(a:AsQ)(b:Int)(c:Int):Option (AsQ) :=(if a.ok=true then if(decide (b≤a.it.Zc))then some (decide (a.it.Zc≤c)) else some false else some false:Option (Bool)).bind fun d=>some ({ p:=a.p,it:=({ Za:=a.it.Za,Ref:=a.it.Ref,Zn1:=a.it.Zn1,Zb1:=a.it.Zb1,Zc:=0,Zo1:=a.it.Zo1,Zw:=a.it.Zw,To:=a.it.To,Code:=a.it.Code,Zp1:=a.it.Zp1,Zq1:=a.it.Zq1,Zr1:=a.it.Zr1,Zs1:=a.it.Zs1,Zt1:=a.it.Zt1,Zu1:=a.it.Zu1 }:AsK),ok:=d }:AsQ)
def B4(a:AsQ)(b:Int)(c:Int):Option (AsQ) :=(if a.ok=true then if(decide (b≤a.it.Zo1))then some (decide (a.it.Zo1≤c)) else some false else some false:Option (Bool)).bind fun d=>some ({ p:=a.p,it:=({ Za:=a.it.Za,Ref:=a.it.Ref,Zn1:=a.it.Zn1,Zb1:=a.it.Zb1,Zc:=a.it.Zc,Zo1:=0,Zw:=a.it.Zw,To:=a.it.To,Code:=a.it.Code,Zp1:=a.it.Zp1,Zq1:=a.it.Zq1,Zr1:=a.it.Zr1,Zs1:=a.it.Zs1,Zt1:=a.it.Zt1,Zu1:=a.it.Zu1 }:AsK),ok:=d }:AsQ)
def CB(a:AsQ)(b:Int)(c:Int):Option (AsQ) :=(if a.ok=true then if(decide (b≤a.it.Zw))then some (decide (a.it.Zw≤c)) else some false else some false:Option (Bool)).bind fun d=>some ({ p:=a.p,it:=({ Za:=a.it.Za,Ref:=a.it.Ref,Zn1:=a.it.Zn1,Zb1:=a.it.Zb1,Zc:=a.it.Zc,Zo1:=a.it.Zo1,Zw:=0,To:=a.it.To,Code:=a.it.Code,Zp1:=a.it.Zp1,Zq1:=a.it.Zq1,Zr1:=a.it.Zr1,Zs1:=a.it.Zs1,Zt1:=a.it.Zt1,Zu1:=a.it.Zu1 }:AsK),ok:=d }:AsQ)
def C7(a:AsQ)(b:Int)(c:Int):Option (AsQ) :=(if a.ok=true then if(decide (b≤a.it.To))then some (decide (a.it.To≤c)) else some false else some false:Option (Bool)).bind fun d=>some ({ p:=a.p,it:=({ Za:=a.it.Za,Ref:=a.it.Ref,Zn1:=a.it.Zn1,Zb1:=a.it.Zb1,Zc:=a.it.Zc,Zo1:=a.it.Zo1,Zw:=a.it.Zw,To:=0,Code:=a.it.Code,Zp1:=a.it.Zp1,Zq1:=a.it.Zq1,Zr1:=a.it.Zr1,Zs1:=a.it.Zs1,Zt1:=a.it.Zt1,Zu1:=a.it.Zu1 }:AsK),ok:=d }:AsQ)
def Bl(a:AsQ)(b:Int)(c:Int):Option (AsQ) :=(if a.ok=true then if(decide (b≤a.it.Code))then some (decide (a.it.Code≤c)) else some false else some false:Option (Bool)).bind fun d=>some ({ p:=a.p,it:=({ Za:=a.it.Za,Ref:=a.it.Ref,Zn1:=a.it.Zn1,Zb1:=a.it.Zb1,Zc:=a.it.Zc,Zo1:=a.it.Zo1,Zw:=a.it.Zw,To:=a.it.To,Code:=0,Zp1:=a.it.Zp1,Zq1:=a.it.Zq1,Zr1:=a.it.Zr1,Zs1:=a.it.Zs1,Zt1:=a.it.Zt1,Zu1:=a.it.Zu1 }:AsK),ok:=d }:AsQ)
def CA(a:AsQ)(b:Int)(c:Int):Option (AsQ) :=(if a.ok=true then if(decide (b≤a.it.Zp1))then some (decide (a.it.Zp1≤c)) else some false else some false:Option (Bool)).bind fun d=>some ({ p:=a.p,it:=({ Za:=a.it.Za,Ref:=a.it.Ref,Zn1:=a.it.Zn1,Zb1:=a.it.Zb1,Zc:=a.it.Zc,Zo1:=a.it.Zo1,Zw:=a.it.Zw,To:=a.it.To,Code:=a.it.Code,Zp1:=0,Zq1:=a.it.Zq1,Zr1:=a.it.Zr1,Zs1:=a.it.Zs1,Zt1:=a.it.Zt1,Zu1:=a.it.Zu1 }:AsK),ok:=d }:AsQ)
def C6(a:AsQ)(b:Int)(c:Int):Option (AsQ) :=(if a.ok=true then if(decide (b≤a.it.Zq1))then some (decide (a.it.Zq1≤c)) else some false else some false:Option (Bool)).bind fun d=>some ({ p:=a.p,it:=({ Za:=a.it.Za,Ref:=a.it.Ref,Zn1:=a.it.Zn1,Zb1:=a.it.Zb1,Zc:=a.it.Zc,Zo1:=a.it.Zo1,Zw:=a.it.Zw,To:=a.it.To,Code:=a.it.Code,Zp1:=a.it.Zp1,Zq1:=0,Zr1:=a.it.Zr1,Zs1:=a.it.Zs1,Zt1:=a.it.Zt1,Zu1:=a.it.Zu1 }:AsK),ok:=d }:AsQ)
def BM(a:AsQ)(b:Int)(c:Int):Option (AsQ) :=(if a.ok=true then if(decide (b≤a.it.Zr1))then some (decide (a.it.Zr1≤c)) else some false else some false:Option (Bool)).bind fun d=>some ({ p:=a.p,it:=({ Za:=a.it.Za,Ref:=a.it.Ref,Zn1:=a.it.Zn1,Zb1:=a.it.Zb1,Zc:=a.it.Zc,Zo1:=a.it.Zo1,Zw:=a.it.Zw,To:=a.it.To,Code:=a.it.Code,Zp1:=a.it.Zp1,Zq1:=a.it.Zq1,Zr1:=0,Zs1:=a.it.Zs1,Zt1:=a.it.Zt1,Zu1:=a.it.Zu1 }:AsK),ok:=d }:AsQ)
def BO(a:AsQ)(b:Int)(c:Int):Option (AsQ) :=(if a.ok=true then if(decide (b≤a.it.Zs1))then some (decide (a.it.Zs1≤c)) else some false else some false:Option (Bool)).bind fun d=>some ({ p:=a.p,it:=({ Za:=a.it.Za,Ref:=a.it.Ref,Zn1:=a.it.Zn1,Zb1:=a.it.Zb1,Zc:=a.it.Zc,Zo1:=a.it.Zo1,Zw:=a.it.Zw,To:=a.it.To,Code:=a.it.Code,Zp1:=a.it.Zp1,Zq1:=a.it.Zq1,Zr1:=a.it.Zr1,Zs1:=0,Zt1:=a.it.Zt1,Zu1:=a.it.Zu1 }:AsK),ok:=d }:AsQ)
def CT(a:AsQ):Option (AsQ) :=(C5 a 0 (w64 ((a.p.Zh1.Zy.length:Int)-1))).bind fun b=>some b
def B7(a:AsQ):Option (AsQ) :=(CB a 0 1073741824).bind fun b=>some b
def Bv(a:AsQ)(c:Int):Option (Asu×AsQ) :=((if(decide (a.it.Zb1≥0))then some (decide (a.it.Zb1<(a.p.Zg1.Ze.length:Int))) else some false:Option (Bool)).bind fun d=>if d then if InR a.it.Zb1 a.p.Zg1.Ze.length then lt1 ((nth a.p.Zg1.Ze a.it.Zb1.toNat).Za) fun(e:Int)=>lt1 ((nth a.p.Zg1.Ze a.it.Zb1.toNat).Zb) fun(f:Int)=>lt1 ((nth a.p.Zg1.Ze a.it.Zb1.toNat).Zc) fun(g:Int)=>some (e,f,g) else none else some (0,0,0):Option (Int×Int×Int)).bind fun(b,i,j)=>(if a.ok=true then if(b != 0)then if(c==0)then some true else some (b==c) else some false else some false:Option (Bool)).bind fun k=>some (({ Za:=b,Zb:=i,Zc:=j }:Asu),({ p:=a.p,it:=({ Za:=a.it.Za,Ref:=a.it.Ref,Zn1:=a.it.Zn1,Zb1:=0,Zc:=a.it.Zc,Zo1:=a.it.Zo1,Zw:=a.it.Zw,To:=a.it.To,Code:=a.it.Code,Zp1:=a.it.Zp1,Zq1:=a.it.Zq1,Zr1:=a.it.Zr1,Zs1:=a.it.Zs1,Zt1:=a.it.Zt1,Zu1:=a.it.Zu1 }:AsK),ok:=k }:AsQ))
def Da(a:AsQ):Option (AsQ) :=(C7 a (J6 a.it.Zw 0) 1073741824).bind fun b=>(B7 b).bind fun c=>some c
def Cq(a:AsQ):Option (AsQ) :=(B5 a 0 (w64 ((a.p.Zj1.length:Int)-1))).bind fun b=>some b
def D5(a:AsQ):Option (AsQ) :=(C6 a 0 63).bind fun b=>some b
def CI(c:AsQ):Option (AsQ) :=if(decide (c.it.Za<1))then some ({ p:=c.p,it:=c.it,ok:=false }:AsQ) else (CT c).bind fun b=>if(b.it.Za==1)then (B5 b 0 (w64 ((b.p.Zi1.length:Int)-1))).bind fun f=>(B7 f).bind fun g=>some g else if(b.it.Za==2)then (Bv b 0).bind fun i=>(Da i.2).bind fun j=>some j else (if(b.it.Za==3)then some (b.it.Za==3) else some (b.it.Za==4):Option (Bool)).bind fun k=>if k then (Bv b 3).bind fun a=>(if a.2.ok=true then if(a.2.it.Zc==a.1.Zb)then some true else some (a.2.it.Zc==a.1.Zc) else some false:Option (Bool)).bind fun l=>(B7 ({ p:=a.2.p,it:=({ Za:=a.2.it.Za,Ref:=a.2.it.Ref,Zn1:=a.2.it.Zn1,Zb1:=a.2.it.Zb1,Zc:=0,Zo1:=a.2.it.Zo1,Zw:=a.2.it.Zw,To:=a.2.it.To,Code:=a.2.it.Code,Zp1:=a.2.it.Zp1,Zq1:=a.2.it.Zq1,Zr1:=a.2.it.Zr1,Zs1:=a.2.it.Zs1,Zt1:=a.2.it.Zt1,Zu1:=a.2.it.Zu1 }:AsK),ok:=l }:AsQ)).bind fun m=>(Bl m 0 8).bind fun n=>some n else if(b.it.Za==5)then (B4 b 1 1000000000).bind fun o=>(Cq o).bind fun q=>(Bv q 0).bind fun e=>(CA e.2 0 (w64 ((e.2.p.Zg1.Ze.length:Int)-1))).bind fun s=>(D5 s).bind fun t=>(BM t 0 1000000).bind fun u=>(B7 u).bind fun v=>some v else (if(b.it.Za==6)then some (b.it.Za==6) else some (b.it.Za==7):Option (Bool)).bind fun w=>if w then (Bv b 0).bind fun x=>(Cq x.2).bind fun y=>(B7 y).bind fun d=>if(d.it.Za==6)then (Bl d 0 1).bind fun z=>some z else some d else some b
def DX(b:List AsJ)(e:Bool)(a:Int):Option ((Int)⊕((Unit)⊕((Unit)⊕(Bool)))) :=if (decide (a<(b.length:Int)))then if InR a b.length then lt1 ((nth b a.toNat).Za) fun(c:Int)=>lt1 ((nth b a.toNat).Zl1) fun(d:Int)=>lt1 ((nth b a.toNat).Zm1) fun(f:Bool)=>(if(decide (c<1))then some true else if(decide (c>3))then some true else if(decide (d<0))then some true else if(decide (d>1073741824))then some true else if f then some (!e) else some false:Option (Bool)).bind fun g=>if g then ((some false).bind fun i=>some (.inr i)).bind fun j=>some (.inr (.inr j)) else some (.inl (w64 (a+1))) else none else some (.inr (.inl ()))
def Ip(a:List AsJ)(b:Bool):Option (Bool) :=((Ax (fun(v:Int)=>DX a b v) 0).bind fun x=>match x with
 |.inl ()=>some (.inl ())
 |.inr z=>some z:Option ((Unit)⊕(Bool))).bind fun x=>match x with
 |.inl ()=>some (decide ((a.length:Int)≤16))
 |.inr z=>some z
def D7(b:AsQ):Option (AsQ) :=if(b.it.Za==8)then (CT b).bind fun f=>(B7 f).bind fun g=>(Bl g 1 9).bind fun i=>some i else if(b.it.Za==9)then (CT b).bind fun j=>(Bv j 5).bind fun k=>(Da k.2).bind fun l=>(Bl l 1 2).bind fun m=>(BO m 0 1000000000).bind fun d=>(if d.ok=true then (Ip d.it.Zu1 true).bind fun n=>some n else some false:Option (Bool)).bind fun o=>some ({ p:=d.p,it:=({ Za:=d.it.Za,Ref:=d.it.Ref,Zn1:=d.it.Zn1,Zb1:=d.it.Zb1,Zc:=d.it.Zc,Zo1:=d.it.Zo1,Zw:=d.it.Zw,To:=d.it.To,Code:=d.it.Code,Zp1:=d.it.Zp1,Zq1:=d.it.Zq1,Zr1:=d.it.Zr1,Zs1:=d.it.Zs1,Zt1:=d.it.Zt1,Zu1:=[] }:AsK),ok:=o }:AsQ) else if (b.it.Za==10)then (B5 b 0 63).bind fun c=>(if c.ok=true then if(decide ((c.it.Zu1.length:Int)>0))then (Ip c.it.Zu1 false).bind fun q=>some q else some false else some false:Option (Bool)).bind fun s=>some ({ p:=c.p,it:=({ Za:=c.it.Za,Ref:=c.it.Ref,Zn1:=c.it.Zn1,Zb1:=c.it.Zb1,Zc:=c.it.Zc,Zo1:=c.it.Zo1,Zw:=c.it.Zw,To:=c.it.To,Code:=c.it.Code,Zp1:=c.it.Zp1,Zq1:=c.it.Zq1,Zr1:=c.it.Zr1,Zs1:=c.it.Zs1,Zt1:=c.it.Zt1,Zu1:=[] }:AsK),ok:=s }:AsQ) else (if(b.it.Za==11)then some (b.it.Za==11) else if(b.it.Za==12)then some (b.it.Za==12) else some (b.it.Za==13):Option (Bool)).bind fun t=>if t then (B4 b 1 6).bind fun u=>(B7 u).bind fun a=>if (a.it.Za != 13)then (if a.ok=true then if(decide ((a.it.Zt1.length:Int)≥1))then some (decide ((a.it.Zt1.length:Int)≤2000)) else some false else some false:Option (Bool)).bind fun v=>some ({ p:=a.p,it:=({ Za:=a.it.Za,Ref:=a.it.Ref,Zn1:=a.it.Zn1,Zb1:=a.it.Zb1,Zc:=a.it.Zc,Zo1:=a.it.Zo1,Zw:=a.it.Zw,To:=a.it.To,Code:=a.it.Code,Zp1:=a.it.Zp1,Zq1:=a.it.Zq1,Zr1:=a.it.Zr1,Zs1:=a.it.Zs1,Zt1:=([]:List UInt8),Zu1:=a.it.Zu1 }:AsK),ok:=v }:AsQ) else some a else if(b.it.Za==14)then some b else if(b.it.Za==15)then (Cq b).bind fun w=>(Bv w 0).bind fun x=>(D5 x.2).bind fun e=>(B4 e 0 (w64 ((e.p.Zh1.Zx.length:Int)-1))).bind fun y=>(BM y 1 1000).bind fun z=>(Da z).bind fun aa=>(BO aa 0 1000000000).bind fun ab=>some ab else some ({ p:=b.p,it:=b.it,ok:=false }:AsQ)
def EK(d:AsH)(c:AsK):Option (Bool) :=(if(decide (c.Za≤7))then (CI ({ p:=d,it:=c,ok:=true }:AsQ)).bind fun a=>some (a.p.Zg1.Ze,a.p.Zg1.Zf,a.p.Zh1.Zx,a.p.Zh1.Zy,a.p.Zh1.Zz,a.p.Zh1.Za1,a.p.Zi1,a.p.Zj1,a.p.Zk1,a.it.Za,a.it.Ref.Zb,a.it.Ref.No,a.it.Zn1,a.it.Zb1,a.it.Zc,a.it.Zo1,a.it.Zw,a.it.To,a.it.Code,a.it.Zp1,a.it.Zq1,a.it.Zr1,a.it.Zs1,a.it.Zt1,a.it.Zu1,a.ok) else (D7 ({ p:=d,it:=c,ok:=true }:AsQ)).bind fun b=>some (b.p.Zg1.Ze,b.p.Zg1.Zf,b.p.Zh1.Zx,b.p.Zh1.Zy,b.p.Zh1.Zz,b.p.Zh1.Za1,b.p.Zi1,b.p.Zj1,b.p.Zk1,b.it.Za,b.it.Ref.Zb,b.it.Ref.No,b.it.Zn1,b.it.Zb1,b.it.Zc,b.it.Zo1,b.it.Zw,b.it.To,b.it.Code,b.it.Zp1,b.it.Zq1,b.it.Zr1,b.it.Zs1,b.it.Zt1,b.it.Zu1,b.ok):Option (List Asu×List Asv×List Asx×List Asy×List Asz×List AsA×List AsC×List AsD×List AsG×Int×Int×Int×Int×Int×Int×Int×Int×Int×Int×Int×Int×Int×Int×List UInt8×List AsJ×Bool)).bind fun(ai,aj,ak,al,am,an,ao,ap,aq,ar,au,av,e,f,g,i,j,k,l,m,n,o,q,s,t,u)=>((if u then some (e==0) else some false:Option (Bool)).bind fun v=>(if v then some (f==0) else some false:Option (Bool)).bind fun w=>(if w then some (g==0) else some false:Option (Bool)).bind fun x=>(if x then some (i==0) else some false:Option (Bool)).bind fun y=>(if y then some (j==0) else some false:Option (Bool)).bind fun z=>(if z then some (k==0) else some false:Option (Bool)).bind fun aa=>(if aa then some (l==0) else some false:Option (Bool)).bind fun ab=>(if ab then some (m==0) else some false:Option (Bool)).bind fun ac=>(if ac then some (n==0) else some false:Option (Bool)).bind fun ad=>(if ad then some (o==0) else some false:Option (Bool)).bind fun ae=>(if ae then some (q==0) else some false:Option (Bool)).bind fun af=>some af:Option (Bool)).bind fun ag=>(if ag then if(s==([]:List UInt8))then some ((t.length:Int)==0) else some false else some false:Option (Bool)).bind fun ah=>some ah
def Hr(a:AsH)(b:AsK):Option (Int) :=(BI a).bind fun c=>if(c != 0)then some c else ((FB b).bind fun d=>if(!d)then some true else (EK a b).bind fun e=>some (!e):Option (Bool)).bind fun f=>if f then some 110 else some 0
def E2(b:UInt64)(c:List UInt8)(a:AsL):Option (Bool) :=(if(decide ((c.length:Int)>65536))then some true else if(decide (a.C≥(1152921504606845399:UInt64)))then some true else if(decide (a.S≥(1152921504606845399:UInt64)))then some true else (Gb b).bind fun d=>some (!d):Option (Bool)).bind fun e=>if e then some false else (Ew (2305843009213690799:UInt64)).bind fun f=>(FQ (4:UInt64) a.S).bind fun g=>(FQ b ((1152921504606845399:UInt64)-a.C)).bind fun i=>(Dj g i f).bind fun j=>(CQ j.1 b c).bind fun k=>some (k==a.C)
def Ex(b:AsH)(a:AsM):Option (Int) :=(BI b).bind fun d=>if(d != 0)then some d else (if(decide (a.Zb<0))then some true else if(decide (a.Zb≥(b.Zk1.length:Int)))then some true else if(decide (a.No<1))then some true else if(decide (a.No>4096))then some true else if(decide (a.Zw1<0))then some true else if(decide (a.Zw1>1073741824))then some true else some (decide ((Ab8 a.Sig.C a.Sig.S)≥(1152921504606845399:UInt64))):Option (Bool)).bind fun f=>if f then some 1 else (Hr b a.Zx1).bind fun e=>if(e != 0)then some e else (Hp a).bind fun c=>if(c.2 != 0)then some c.2 else if InR a.Zb b.Zk1.length then (E2 ((nth b.Zk1 a.Zb.toNat).Key) c.1 a.Sig).bind fun g=>if(!g)then some 31 else some 0 else none
def FE(a:Int):Option (Bool) :=some (a != a)
def D4(a:Int)(b:Int):Option (Int) :=(FE a).bind fun d=>(FE b).bind fun c=>if d then if c then some 0 else some (-1) else if c then some 1 else if(decide (a<b))then some (-1) else if(decide (a>b))then some 1 else some 0
def Hh(a:List UInt8)(b:List UInt8):Option (Int):=OG a b
def F6(a:List UInt8)(b:List UInt8):Option (Int) :=(Hh a b).bind fun c=>some c
def Bz(s1_7111:List AsP)(s2_7112:List AsP)(c:AsP→AsP→Option (Int))(a:Int):Option ((Int)⊕((Unit)⊕((Unit)⊕(Int)))) :=if (decide (a<(s1_7111.length:Int)))then if InR a s1_7111.length then lt1 ((nth s1_7111 a.toNat).Za) fun(d:Int)=>lt1 ((nth s1_7111 a.toNat).N) fun(e:Int)=>lt1 ((nth s1_7111 a.toNat).B) fun(f:List UInt8)=>lt1 ((nth s1_7111 a.toNat).L) fun(g:List AsP)=>if(decide (a≥(s2_7112.length:Int)))then ((some 1).bind fun i=>some (.inr i)).bind fun j=>some (.inr (.inr j)) else if InR a s2_7112.length then lt1 ((nth s2_7112 a.toNat).Za) fun(k:Int)=>lt1 ((nth s2_7112 a.toNat).N) fun(l:Int)=>lt1 ((nth s2_7112 a.toNat).B) fun(m:List UInt8)=>lt1 ((nth s2_7112 a.toNat).L) fun(n:List AsP)=>(c (AsP.mk d e f g) (AsP.mk k l m n)).bind fun b=>if(b != 0)then ((some b).bind fun o=>some (.inr o)).bind fun p=>some (.inr (.inr p)) else some (.inl (w64 (a+1))) else none else none else some (.inr (.inl ()))
def Cn(b:AsP→AsP→Option (Int))(s1_7111:List AsP)(s2_7112:List AsP)(a:AsP→AsP→Option (Int)):Option (Int) :=((Ax (fun(v:Int)=>Bz s1_7111 s2_7112 a v) 0).bind fun x=>match x with
 |.inl ()=>some (.inl ())
 |.inr z=>some z:Option ((Unit)⊕(Int))).bind fun x=>match x with
 | .inl ()=>if(decide ((s1_7111.length:Int)<(s2_7112.length:Int)))then some (-1) else some 0
 |.inr z=>some z
def E0(rec_:AsP→AsP→Option (Int))(a:AsP)(b:AsP):Option (Int) :=(D4 a.Za b.Za).bind fun c=>if(c != 0)then some c else if(a.Za==1)then (D4 a.N b.N).bind fun d=>some d else if(a.Za==2)then (F6 a.B b.B).bind fun e=>some e else if(a.Za==3)then (Cn rec_ a.L b.L rec_).bind fun f=>some f else some 0
def Ee(n:Nat):AsP→AsP→Option (Int):=match n with
 |0=>fun _ _=>none
 |n+1=>E0 (Ee n)
def GT(a:AsP)(b:AsP):Option (Int):=Ee 18446744073709551616 a b
def Io(a:AsM)(b:AsM):Option (Bool) :=(if (a.Zb==b.Zb)then if (a.No==b.No)then if(a.Zv1==b.Zv1)then if(a.Zw1==b.Zw1)then some ((a.Sig.C==b.Sig.C)&&(a.Sig.S==b.Sig.S)) else some false else some false else some false else some false:Option (Bool)).bind fun c=>(if c then (Hx a.Zx1).bind fun d=>(Hx b.Zx1).bind fun e=>(GT d e).bind fun f=>some (f==0) else some false:Option (Bool)).bind fun g=>some g
def D9(b:List AsM)(a:AsM):Option (Int) :=if(decide (a.No>(w64 ((b.length:Int)+1))))then some 140 else (if (decide (a.No>1))then if InR (w64 (a.No-2)) b.length then (Dx (nth b ((w64 (a.No-2)).toNat))).bind fun c=>(if(c.2 != 0)then some true else if InR (w64 (a.No-2)) b.length then some (decide (a.Zw1<(nth b ((w64 (a.No-2)).toNat)).Zw1)) else none:Option (Bool)).bind fun d=>if d then (some 140).bind fun e=>some (.inr e) else some (.inl c.1) else none else some (.inl (Arr.rep 32 (0:UInt8))):Option ((Arr UInt8 32)⊕(Int))).bind fun x=>match x with
  | .inl f=>if(!(f==a.Zv1))then some 140 else (if (!((a.Zx1.Ref.Zb==0)&&(a.Zx1.Ref.No==0)))then if(a.Zx1.Ref.Zb != a.Zb)then some true else if(decide (a.Zx1.Ref.No<1))then some true else if(decide (a.Zx1.Ref.No≥a.No))then some true else if InR (w64 (a.Zx1.Ref.No-1)) b.length then some (!(((((nth b ((w64 (a.Zx1.Ref.No-1)).toNat)).Zx1).Ref).Zb==0)&&((((nth b ((w64 (a.Zx1.Ref.No-1)).toNat)).Zx1).Ref).No==0))) else none else some false:Option (Bool)).bind fun g=>if g then some 110 else some 0
  |.inr z=>some z
def En(a:List AsM):Option (List AsM) :=if Cj (0+a.length) 224 then lt1 (([]:List AsM)++a) fun(b:List AsM)=>some b else none
def FD(b:AsN)(a:AsM):Option (Bool×AsM) :=(if(b.A.Zb==a.Zb)then some (b.A.No==a.No) else some false:Option (Bool)).bind fun c=>some (c,a)
def AW(c:List AsN)(b:Int)(d:Int)(e:Int)(f:Arr UInt8 32)(g:Int)(i:Int)(j:Int)(k:Int)(l:Int)(m:Int)(n:Int)(o:Int)(p:Int)(q:Int)(s:Int)(t:Int)(u:Int)(v:Int)(w:Int)(x:List UInt8)(y:List AsJ)(z:UInt64)(aa:UInt64):Option ((Int×Int×Int×Arr UInt8 32×Int×Int×Int×Int×Int×Int×Int×Int×Int×Int×Int×Int×Int×Int×Int×List UInt8×List AsJ×UInt64×UInt64)⊕((Int×Int×Arr UInt8 32×Int×Int×Int×Int×Int×Int×Int×Int×Int×Int×Int×Int×Int×Int×Int×List UInt8×List AsJ×UInt64×UInt64)⊕((Int×Int×Arr UInt8 32×Int×Int×Int×Int×Int×Int×Int×Int×Int×Int×Int×Int×Int×Int×Int×List UInt8×List AsJ×UInt64×UInt64)⊕(Int×AsM)))) :=if (decide (b<(c.length:Int)))then if InR b c.length then (FD ({ A:=(nth c b.toNat).A,B:=(nth c b.toNat).B }:AsN) ({ Zb:=d,No:=e,Zv1:=f,Zw1:=g,Zx1:=({ Za:=i,Ref:=({ Zb:=j,No:=k }:AsI),Zn1:=l,Zb1:=m,Zc:=n,Zo1:=o,Zw:=p,To:=q,Code:=s,Zp1:=t,Zq1:=u,Zr1:=v,Zs1:=w,Zt1:=x,Zu1:=y }:AsK),Sig:=({ C:=z,S:=aa }:AsL) }:AsM)).bind fun a=>if a.1=true then ((some (b,a.2)).bind fun ab=>some (.inr ab)).bind fun ac=>some (.inr (.inr ac)) else some (.inl ((w64 (b+1)),a.2.Zb,a.2.No,a.2.Zv1,a.2.Zw1,a.2.Zx1.Za,a.2.Zx1.Ref.Zb,a.2.Zx1.Ref.No,a.2.Zx1.Zn1,a.2.Zx1.Zb1,a.2.Zx1.Zc,a.2.Zx1.Zo1,a.2.Zx1.Zw,a.2.Zx1.To,a.2.Zx1.Code,a.2.Zx1.Zp1,a.2.Zx1.Zq1,a.2.Zx1.Zr1,a.2.Zx1.Zs1,a.2.Zx1.Zt1,a.2.Zx1.Zu1,a.2.Sig.C,a.2.Sig.S)) else none else some (.inr (.inl (d,e,f,g,i,j,k,l,m,n,o,p,q,s,t,u,v,w,x,y,z,aa)))
def Cl(b:List AsN)(a:AsM):Option (Int×AsM) :=((Ax (fun(v:Int×Int×Int×Arr UInt8 32×Int×Int×Int×Int×Int×Int×Int×Int×Int×Int×Int×Int×Int×Int×Int×List UInt8×List AsJ×UInt64×UInt64)=>AW b v.1 v.2.1 v.2.2.1 v.2.2.2.1 v.2.2.2.2.1 v.2.2.2.2.2.1 v.2.2.2.2.2.2.1 v.2.2.2.2.2.2.2.1 v.2.2.2.2.2.2.2.2.1 v.2.2.2.2.2.2.2.2.2.1 v.2.2.2.2.2.2.2.2.2.2.1 v.2.2.2.2.2.2.2.2.2.2.2.1 v.2.2.2.2.2.2.2.2.2.2.2.2.1 v.2.2.2.2.2.2.2.2.2.2.2.2.2.1 v.2.2.2.2.2.2.2.2.2.2.2.2.2.2.1 v.2.2.2.2.2.2.2.2.2.2.2.2.2.2.2.1 v.2.2.2.2.2.2.2.2.2.2.2.2.2.2.2.2.1 v.2.2.2.2.2.2.2.2.2.2.2.2.2.2.2.2.2.1 v.2.2.2.2.2.2.2.2.2.2.2.2.2.2.2.2.2.2.1 v.2.2.2.2.2.2.2.2.2.2.2.2.2.2.2.2.2.2.2.1 v.2.2.2.2.2.2.2.2.2.2.2.2.2.2.2.2.2.2.2.2.1 v.2.2.2.2.2.2.2.2.2.2.2.2.2.2.2.2.2.2.2.2.2.1 v.2.2.2.2.2.2.2.2.2.2.2.2.2.2.2.2.2.2.2.2.2.2) (0,a.Zb,a.No,a.Zv1,a.Zw1,a.Zx1.Za,a.Zx1.Ref.Zb,a.Zx1.Ref.No,a.Zx1.Zn1,a.Zx1.Zb1,a.Zx1.Zc,a.Zx1.Zo1,a.Zx1.Zw,a.Zx1.To,a.Zx1.Code,a.Zx1.Zp1,a.Zx1.Zq1,a.Zx1.Zr1,a.Zx1.Zs1,a.Zx1.Zt1,a.Zx1.Zu1,a.Sig.C,a.Sig.S)).bind fun x=>match x with
 |.inl (c,d,e,f,g,i,j,k,l,m,n,o,p,q,s,t,u,w,y,aa,ab,ac)=>some (.inl (c,d,e,f,g,i,j,k,l,m,n,o,p,q,s,t,u,w,y,aa,ab,ac))
 |.inr z=>some z:Option ((Int×Int×Arr UInt8 32×Int×Int×Int×Int×Int×Int×Int×Int×Int×Int×Int×Int×Int×Int×Int×List UInt8×List AsJ×UInt64×UInt64)⊕(Int×AsM))).bind fun x=>match x with
 |.inl (ad,ae,af,ag,ah,ai,aj,ak,al,am,an,ao,ap,aq,ar,au,av,aw,ax,ay,az,aA)=>some ((-1),({ Zb:=ad,No:=ae,Zv1:=af,Zw1:=ag,Zx1:=({ Za:=ah,Ref:=({ Zb:=ai,No:=aj }:AsI),Zn1:=ak,Zb1:=al,Zc:=am,Zo1:=an,Zw:=ao,To:=ap,Code:=aq,Zp1:=ar,Zq1:=au,Zr1:=av,Zs1:=aw,Zt1:=ax,Zu1:=ay }:AsK),Sig:=({ C:=az,S:=aA }:AsL) }:AsM))
 |.inr z=>some z
def Bu(b:List AsN)(c:AsM):Option (Bool×AsM) :=(Cl b c).bind fun a=>some ((decide (a.1≥0)),a.2)
def E7(a:List AsN):Option (List AsN) :=if Cj (0+a.length) 448 then lt1 (([]:List AsN)++a) fun(b:List AsN)=>some b else none
def Bk(d:AsH)(a:AsO)(b:AsM):Option (AsO×Int) :=(Ex d b).bind fun f=>if(f != 0)then some (({ Zy1:=[],Zz1:=[] }:AsO),f) else (GY a b.Zb).bind fun c=>(if(decide (b.No≤(c.length:Int)))then if InR (w64 (b.No-1)) c.length then (Io (nth c ((w64 (b.No-1)).toNat)) b).bind fun m=>some m else none else some false:Option (Bool)).bind fun n=>if n then some (a,0) else (D9 c b).bind fun g=>if(g != 0)then some (({ Zy1:=[],Zz1:=[] }:AsO),g) else if (b.No==(w64 ((c.length:Int)+1)))then if Mk (J6 (a.Zy1.length:Int) (d.Zk1.length:Int)) (J6 (a.Zy1.length:Int) (d.Zk1.length:Int)) 24 then lt1 (List.replicate ((J6 (a.Zy1.length:Int) (d.Zk1.length:Int)).toNat) ([])) fun(i:List (List AsM))=>lt1 (ovl i (a.Zy1.take (min a.Zy1.length i.length)) 0) fun(j:List (List AsM))=>(En c).bind fun k=>if Cj (k.length+1) 224 then if InR b.Zb j.length then lt1 (j.set b.Zb.toNat (k++([b]:List AsM))) fun(o:List (List AsM))=>some (({ Zy1:=o,Zz1:=a.Zz1 }:AsO),0) else none else none else none else ((Bu a.Zz1 b).bind fun e=>if (!e.1)then (E7 a.Zz1).bind fun l=>if InR (w64 (e.2.No-1)) c.length then if Cj (l.length+1) 448 then lt1 (l++([({ A:=nth c ((w64 (e.2.No-1)).toNat),B:=e.2 }:AsN)]:List AsN)) fun(p:List AsN)=>some p else none else none else some a.Zz1:Option (List AsN)).bind fun q=>some (({ Zy1:=a.Zy1,Zz1:=q }:AsO),0)
def BL(c : AsH)(m:AsO)(a:Int)(n:UInt64)(e:Int)(f:AsK):Option (AsM×Int) :=(BI c).bind fun o=>if(o != 0)then some (({ Zb:=0,No:=0,Zv1:=(Arr.rep 32 (0:UInt8)),Zw1:=0,Zx1:=({ Za:=0,Ref:=({ Zb:=0,No:=0 }:AsI),Zn1:=0,Zb1:=0,Zc:=0,Zo1:=0,Zw:=0,To:=0,Code:=0,Zp1:=0,Zq1:=0,Zr1:=0,Zs1:=0,Zt1:=([]:List UInt8),Zu1:=[] }:AsK),Sig:=({ C:=(0:UInt64),S:=(0:UInt64) }:AsL) }:AsM),o) else (if(decide (a<0))then some true else some (decide (a≥(c.Zk1.length:Int))):Option (Bool)).bind fun q=>if q then some (({ Zb:=0,No:=0,Zv1:=(Arr.rep 32 (0:UInt8)),Zw1:=0,Zx1:=({ Za:=0,Ref:=({ Zb:=0,No:=0 }:AsI),Zn1:=0,Zb1:=0,Zc:=0,Zo1:=0,Zw:=0,To:=0,Code:=0,Zp1:=0,Zq1:=0,Zr1:=0,Zs1:=0,Zt1:=([]:List UInt8),Zu1:=[] }:AsK),Sig:=({ C:=(0:UInt64),S:=(0:UInt64) }:AsL) }:AsM),1) else (IY n).bind fun g=>if(g.2 != 0)then some (({ Zb:=0,No:=0,Zv1:=(Arr.rep 32 (0:UInt8)),Zw1:=0,Zx1:=({ Za:=0,Ref:=({ Zb:=0,No:=0 }:AsI),Zn1:=0,Zb1:=0,Zc:=0,Zo1:=0,Zw:=0,To:=0,Code:=0,Zp1:=0,Zq1:=0,Zr1:=0,Zs1:=0,Zt1:=([]:List UInt8),Zu1:=[] }:AsK),Sig:=({ C:=(0:UInt64),S:=(0:UInt64) }:AsL) }:AsM),g.2) else if InR a c.Zk1.length then if(g.1 != (nth c.Zk1 a.toNat).Key)then some (({ Zb:=0,No:=0,Zv1:=(Arr.rep 32 (0:UInt8)),Zw1:=0,Zx1:=({ Za:=0,Ref:=({ Zb:=0,No:=0 }:AsI),Zn1:=0,Zb1:=0,Zc:=0,Zo1:=0,Zw:=0,To:=0,Code:=0,Zp1:=0,Zq1:=0,Zr1:=0,Zs1:=0,Zt1:=([]:List UInt8),Zu1:=[] }:AsK),Sig:=({ C:=(0:UInt64),S:=(0:UInt64) }:AsL) }:AsM),30) else (GY m a).bind fun b=>lt1 (w64 ((b.length:Int)+1)) fun(i:Int)=>(if(decide ((b.length:Int)>0))then if InR (w64 ((b.length:Int)-1)) b.length then (Dx (nth b ((w64 ((b.length:Int)-1)).toNat))).bind fun j=>if(j.2 != 0)then (some (({ Zb:=0,No:=0,Zv1:=(Arr.rep 32 (0:UInt8)),Zw1:=0,Zx1:=({ Za:=0,Ref:=({ Zb:=0,No:=0 }:AsI),Zn1:=0,Zb1:=0,Zc:=0,Zo1:=0,Zw:=0,To:=0,Code:=0,Zp1:=0,Zq1:=0,Zr1:=0,Zs1:=0,Zt1:=([]:List UInt8),Zu1:=[] }:AsK),Sig:=({ C:=(0:UInt64),S:=(0:UInt64) }:AsL) }:AsM),j.2)).bind fun s=>some (.inr s) else some (.inl j.1) else none else some (.inl (Arr.rep 32 (0:UInt8))):Option ((Arr UInt8 32)⊕(AsM×Int))).bind fun x=>match x with
      | .inl k=>(Hp ({ Zb:=a,No:=i,Zv1:=k,Zw1:=e,Zx1:=f,Sig:=({ C:=(0:UInt64),S:=(0:UInt64) }:AsL) }:AsM)).bind fun l=>if(l.2 != 0)then some (({ Zb:=0,No:=0,Zv1:=(Arr.rep 32 (0:UInt8)),Zw1:=0,Zx1:=({ Za:=0,Ref:=({ Zb:=0,No:=0 }:AsI),Zn1:=0,Zb1:=0,Zc:=0,Zo1:=0,Zw:=0,To:=0,Code:=0,Zp1:=0,Zq1:=0,Zr1:=0,Zs1:=0,Zt1:=([]:List UInt8),Zu1:=[] }:AsK),Sig:=({ C:=(0:UInt64),S:=(0:UInt64) }:AsL) }:AsM),l.2) else (O0 n l.1).bind fun d=>if(d.2 != 0)then some (({ Zb:=0,No:=0,Zv1:=(Arr.rep 32 (0:UInt8)),Zw1:=0,Zx1:=({ Za:=0,Ref:=({ Zb:=0,No:=0 }:AsI),Zn1:=0,Zb1:=0,Zc:=0,Zo1:=0,Zw:=0,To:=0,Code:=0,Zp1:=0,Zq1:=0,Zr1:=0,Zs1:=0,Zt1:=([]:List UInt8),Zu1:=[] }:AsK),Sig:=({ C:=(0:UInt64),S:=(0:UInt64) }:AsL) }:AsM),d.2) else (Bk c m ({ Zb:=a,No:=i,Zv1:=k,Zw1:=e,Zx1:=f,Sig:=d.1 }:AsM)).bind fun p=>if(p.2 != 0)then some (({ Zb:=0,No:=0,Zv1:=(Arr.rep 32 (0:UInt8)),Zw1:=0,Zx1:=({ Za:=0,Ref:=({ Zb:=0,No:=0 }:AsI),Zn1:=0,Zb1:=0,Zc:=0,Zo1:=0,Zw:=0,To:=0,Code:=0,Zp1:=0,Zq1:=0,Zr1:=0,Zs1:=0,Zt1:=([]:List UInt8),Zu1:=[] }:AsK),Sig:=({ C:=(0:UInt64),S:=(0:UInt64) }:AsL) }:AsM),p.2) else some (({ Zb:=a,No:=i,Zv1:=k,Zw1:=e,Zx1:=f,Sig:=d.1 }:AsM),0)
      |.inr z=>some z else none
def BG(a : AsK)(b:UInt8):Option (Int) :=if(b==(119:UInt8))then some a.Zn1 else if(b==(112:UInt8))then some a.Zb1 else if(b==(111:UInt8))then some a.Zc else if(b==(110:UInt8))then some a.Zo1 else if(b==(102:UInt8))then some a.Zw else if(b==(116:UInt8))then some a.To else if(b==(99:UInt8))then some a.Code else if(b==(100:UInt8))then some a.Zp1 else if(b==(107:UInt8))then some a.Zq1 else if(b==(103:UInt8))then some a.Zr1 else some a.Zs1
def CZ(b:List AsJ)(c:List AsJ)(a:Int):Option ((Int)⊕((Unit)⊕((Unit)⊕(Bool)))) :=if (decide (a<(b.length:Int)))then if InR a b.length then if InR a c.length then lt1 (!(((nth b a.toNat).Za==(nth c a.toNat).Za)&&(((nth b a.toNat).Zl1==(nth c a.toNat).Zl1)&&((nth b a.toNat).Zm1==(nth c a.toNat).Zm1)))) fun(d:Bool)=>if d then ((some false).bind fun e=>some (.inr e)).bind fun f=>some (.inr (.inr f)) else some (.inl (w64 (a+1))) else none else none else some (.inr (.inl ()))
def FP(a:List AsJ)(b:List AsJ):Option (Bool) :=if((a.length:Int) != (b.length:Int))then some false else ((Ax (fun(v:Int)=>CZ a b v) 0).bind fun x=>match x with
  |.inl ()=>some (.inl ())
  |.inr z=>some z:Option ((Unit)⊕(Bool))).bind fun x=>match x with
  |.inl ()=>some true
  |.inr z=>some z
def Gt(b:AsK)(c:AsK)(a:Int):Option ((Int)⊕((Unit)⊕((Unit)⊕(Bool)))) :=if (decide (a<11))then if InR a (([119,112,111,110,102,116,99,100,107,103,97]:List UInt8).length)then (BG b (nth ([119,112,111,110,102,116,99,100,107,103,97]:List UInt8) a.toNat)).bind fun d=>if InR a (([119,112,111,110,102,116,99,100,107,103,97]:List UInt8).length)then (BG c (nth ([119,112,111,110,102,116,99,100,107,103,97]:List UInt8) a.toNat)).bind fun e=>if(d != e)then ((some false).bind fun f=>some (.inr f)).bind fun g=>some (.inr (.inr g)) else some (.inl (w64 (a+1))) else none else none else some (.inr (.inl ()))
def Mc(a:AsK)(b:AsK):Option (Bool) :=((Ax (fun(v:Int)=>Gt a b v) 0).bind fun x=>match x with
 |.inl ()=>some (.inl ())
 |.inr z=>some z:Option ((Unit)⊕(Bool))).bind fun x=>match x with
 | .inl ()=>(if(a.Za==b.Za)then if((a.Ref.Zb==b.Ref.Zb)&&(a.Ref.No==b.Ref.No))then if(a.Zt1==b.Zt1)then (FP a.Zu1 b.Zu1).bind fun c=>some c else some false else some false else some false:Option (Bool)).bind fun d=>some d
 |.inr z=>some z
def Cu(a:AsM)(b:AsM):Option (Bool) :=(if (a.Zb==b.Zb)then if (a.No==b.No)then if (a.Zv1==b.Zv1)then if(a.Zw1==b.Zw1)then if((a.Sig.C==b.Sig.C)&&(a.Sig.S==b.Sig.S))then (Mc a.Zx1 b.Zx1).bind fun c=>some c else some false else some false else some false else some false else some false:Option (Bool)).bind fun d=>some d
def DT(b:List AsM)(c:List AsM)(a:Int):Option ((Int)⊕((Unit)⊕((Unit)⊕(Bool)))) :=if (decide (a<(b.length:Int)))then if InR a b.length then if InR a c.length then (Cu (nth b a.toNat) (nth c a.toNat)).bind fun d=>if(!d)then ((some false).bind fun e=>some (.inr e)).bind fun f=>some (.inr (.inr f)) else some (.inl (w64 (a+1))) else none else none else some (.inr (.inl ()))
def H0(a:List AsM)(b:List AsM):Option (Bool) :=if((a.length:Int) != (b.length:Int))then some false else ((Ax (fun(v:Int)=>DT a b v) 0).bind fun x=>match x with
  |.inl ()=>some (.inl ())
  |.inr z=>some z:Option ((Unit)⊕(Bool))).bind fun x=>match x with
  |.inl ()=>some true
  |.inr z=>some z
def Gp(b:AsO)(c:AsO)(a:Int):Option ((Int)⊕((Unit)⊕((Unit)⊕(Bool)))) :=if (decide (a<(b.Zy1.length:Int)))then if InR a b.Zy1.length then if InR a c.Zy1.length then (H0 (nth b.Zy1 a.toNat) (nth c.Zy1 a.toNat)).bind fun d=>if(!d)then ((some false).bind fun e=>some (.inr e)).bind fun f=>some (.inr (.inr f)) else some (.inl (w64 (a+1))) else none else none else some (.inr (.inl ()))
def Gg(b:AsO)(c:AsO)(a:Int):Option ((Int)⊕((Unit)⊕((Unit)⊕(Bool)))) :=if (decide (a<(b.Zz1.length:Int)))then (if InR a b.Zz1.length then if InR a c.Zz1.length then (Cu ((nth b.Zz1 a.toNat).A) ((nth c.Zz1 a.toNat).A)).bind fun d=>if(!d)then some true else if InR a b.Zz1.length then if InR a c.Zz1.length then (Cu ((nth b.Zz1 a.toNat).B) ((nth c.Zz1 a.toNat).B)).bind fun e=>some (!e) else none else none else none else none:Option (Bool)).bind fun f=>if f then ((some false).bind fun g=>some (.inr g)).bind fun i=>some (.inr (.inr i)) else some (.inl (w64 (a+1))) else some (.inr (.inl ()))
def EY(a:AsO)(b:AsO):Option (Bool) :=(if((a.Zy1.length:Int) != (b.Zy1.length:Int))then some true else some ((a.Zz1.length:Int) != (b.Zz1.length:Int)):Option (Bool)).bind fun c=>if c then some false else ((Ax (fun(v:Int)=>Gp a b v) 0).bind fun x=>match x with
  |.inl ()=>some (.inl ())
  |.inr z=>some z:Option ((Unit)⊕(Bool))).bind fun x=>match x with
  | .inl ()=>((Ax (fun(v:Int)=>Gg a b v) 0).bind fun x=>match x with
   |.inl ()=>some (.inl ())
   |.inr z=>some z:Option ((Unit)⊕(Bool))).bind fun x=>match x with
   |.inl ()=>some true
   |.inr z=>some z
  |.inr z=>some z
def HU(b:AsO)(e:Int)(c:Int)(a:Int):Option ((Int×Int)⊕(Int)) :=if (decide (a<(b.Zz1.length:Int)))then (if InR a b.Zz1.length then lt1 (((nth b.Zz1 a.toNat).A).Zb) fun(f:Int)=>lt1 (((nth b.Zz1 a.toNat).A).No) fun(d:Int)=>lt1 (((nth b.Zz1 a.toNat).A).Zv1) fun(j:Arr UInt8 32)=>lt1 (((nth b.Zz1 a.toNat).A).Zw1) fun(k:Int)=>lt1 ((((nth b.Zz1 a.toNat).A).Zx1).Za) fun(l:Int)=>lt1 (((((nth b.Zz1 a.toNat).A).Zx1).Ref).Zb) fun(m:Int)=>lt1 (((((nth b.Zz1 a.toNat).A).Zx1).Ref).No) fun(n:Int)=>lt1 ((((nth b.Zz1 a.toNat).A).Zx1).Zn1) fun(o:Int)=>lt1 ((((nth b.Zz1 a.toNat).A).Zx1).Zb1) fun(p:Int)=>lt1 ((((nth b.Zz1 a.toNat).A).Zx1).Zc) fun(q:Int)=>lt1 ((((nth b.Zz1 a.toNat).A).Zx1).Zo1) fun(s:Int)=>lt1 ((((nth b.Zz1 a.toNat).A).Zx1).Zw) fun(t:Int)=>lt1 ((((nth b.Zz1 a.toNat).A).Zx1).To) fun(u:Int)=>lt1 ((((nth b.Zz1 a.toNat).A).Zx1).Code) fun(v:Int)=>lt1 ((((nth b.Zz1 a.toNat).A).Zx1).Zp1) fun(w:Int)=>lt1 ((((nth b.Zz1 a.toNat).A).Zx1).Zq1) fun(x:Int)=>lt1 ((((nth b.Zz1 a.toNat).A).Zx1).Zr1) fun(y:Int)=>lt1 ((((nth b.Zz1 a.toNat).A).Zx1).Zs1) fun(z:Int)=>lt1 ((((nth b.Zz1 a.toNat).A).Zx1).Zt1) fun(aa:List UInt8)=>lt1 ((((nth b.Zz1 a.toNat).A).Zx1).Zu1) fun(ab:List AsJ)=>lt1 ((((nth b.Zz1 a.toNat).A).Sig).C) fun(ac:UInt64)=>lt1 ((((nth b.Zz1 a.toNat).A).Sig).S) fun(ad:UInt64)=>lt1 (((nth b.Zz1 a.toNat).B).Zb) fun(ae:Int)=>lt1 (((nth b.Zz1 a.toNat).B).No) fun(af:Int)=>lt1 (((nth b.Zz1 a.toNat).B).Zv1) fun(ag:Arr UInt8 32)=>lt1 (((nth b.Zz1 a.toNat).B).Zw1) fun(ah:Int)=>lt1 ((((nth b.Zz1 a.toNat).B).Zx1).Za) fun(ai:Int)=>lt1 (((((nth b.Zz1 a.toNat).B).Zx1).Ref).Zb) fun(aj:Int)=>lt1 (((((nth b.Zz1 a.toNat).B).Zx1).Ref).No) fun(ak:Int)=>lt1 ((((nth b.Zz1 a.toNat).B).Zx1).Zn1) fun(al:Int)=>lt1 ((((nth b.Zz1 a.toNat).B).Zx1).Zb1) fun(am:Int)=>lt1 ((((nth b.Zz1 a.toNat).B).Zx1).Zc) fun(an:Int)=>lt1 ((((nth b.Zz1 a.toNat).B).Zx1).Zo1) fun(ao:Int)=>lt1 ((((nth b.Zz1 a.toNat).B).Zx1).Zw) fun(ap:Int)=>lt1 ((((nth b.Zz1 a.toNat).B).Zx1).To) fun(aq:Int)=>lt1 ((((nth b.Zz1 a.toNat).B).Zx1).Code) fun(ar:Int)=>lt1 ((((nth b.Zz1 a.toNat).B).Zx1).Zp1) fun(au:Int)=>lt1 ((((nth b.Zz1 a.toNat).B).Zx1).Zq1) fun(av:Int)=>lt1 ((((nth b.Zz1 a.toNat).B).Zx1).Zr1) fun(aw:Int)=>lt1 ((((nth b.Zz1 a.toNat).B).Zx1).Zs1) fun(ax:Int)=>lt1 ((((nth b.Zz1 a.toNat).B).Zx1).Zt1) fun(ay:List UInt8)=>lt1 ((((nth b.Zz1 a.toNat).B).Zx1).Zu1) fun(az:List AsJ)=>lt1 ((((nth b.Zz1 a.toNat).B).Sig).C) fun(aA:UInt64)=>lt1 ((((nth b.Zz1 a.toNat).B).Sig).S) fun(aB:UInt64)=>(if(f==e)then if(decide (d≥1))then if(c==0)then some true else some (decide (d<c)) else some false else some false:Option (Bool)).bind fun g=>if g then some d else some c else none:Option (Int)).bind fun i=>some (.inl (i,(w64 (a+1)))) else some (.inr c)
def DJ(a:AsO)(b:Int):Option (Int) :=((Ax (fun(v:Int×Int)=>HU a b v.1 v.2) (0,0)).bind fun c=>some c:Option (Int)).bind fun d=>some d
def Hv(c:AsO)(a:Int)(d:List (List AsM)):Option ((Int×List (List AsM))⊕(List (List AsM))) :=if (decide (a<(c.Zy1.length:Int)))then if InR a c.Zy1.length then lt1 (nth c.Zy1 a.toNat) fun(b:List AsM)=>((DJ c a).bind fun e=>if(decide (e>0))then if InB (Mo (w64 (e-1)) (b.length:Int)) b.length then lt1 (b.take ((Mo (w64 (e-1)) (b.length:Int)).toNat)) fun(f:List AsM)=>some f else none else some b:Option (List AsM)).bind fun g=>if Cj (d.length+1) 24 then lt1 (d++([g]:List (List AsM))) fun(i:List (List AsM))=>some (.inl ((w64 (a+1)),i)) else none else none else some (.inr d)
def Kt(a:AsO):Option (AsO) :=((Ax (fun(v:Int×List (List AsM))=>Hv a v.1 v.2) (0,[])).bind fun b=>some b:Option (List (List AsM))).bind fun c=>some ({ Zy1:=c,Zz1:=[] }:AsO)
def Od(a:AsO):Option (AsO) :=some a
def Hn(b:List ((Int×Int)×AsR))(c:Int)(d:Int)(a:AsM):Option (List ((Int×Int)×AsR)) :=(if(!((a.Zx1.Ref.Zb==0)&&(a.Zx1.Ref.No==0)))then some (a.Zx1.Ref.Zb==c) else some false:Option (Bool)).bind fun e=>if e then if U4 a.Zx1.Ref.Zb a.Zx1.Ref.No then lt1 (Als b (a.Zx1.Ref.Zb,a.Zx1.Ref.No) ({ Ref:=a.Zx1.Ref,By:=({ Zb:=c,No:=d }:AsI),Zw1:=a.Zw1,Zx1:=a.Zx1 }:AsR)) fun(f:List ((Int×Int)×AsR))=>some f else none else some b
def Hl(c:List ((Int×Int)×AsR))(e:List AsR)(a:Int)(b:Int)(d:AsM):Option (List AsR) :=lt1 (!((d.Zx1.Ref.Zb==0)&&(d.Zx1.Ref.No==0))) fun(g:Bool)=>if g then some e else if U4 a b then lt1 ((GO c (a,b)).isSome) fun(i:Bool)=>lt1 ((((GO c (a,b)).getD Dp).Ref).Zb) fun(j:Int)=>lt1 ((((GO c (a,b)).getD Dp).Ref).No) fun(k:Int)=>lt1 ((((GO c (a,b)).getD Dp).By).Zb) fun(l:Int)=>lt1 ((((GO c (a,b)).getD Dp).By).No) fun(m:Int)=>lt1 (((GO c (a,b)).getD Dp).Zw1) fun(n:Int)=>lt1 ((((GO c (a,b)).getD Dp).Zx1).Za) fun(f:Int)=>lt1 (((((GO c (a,b)).getD Dp).Zx1).Ref).Zb) fun(o:Int)=>lt1 (((((GO c (a,b)).getD Dp).Zx1).Ref).No) fun(p:Int)=>lt1 ((((GO c (a,b)).getD Dp).Zx1).Zn1) fun(q:Int)=>lt1 ((((GO c (a,b)).getD Dp).Zx1).Zb1) fun(s:Int)=>lt1 ((((GO c (a,b)).getD Dp).Zx1).Zc) fun(t:Int)=>lt1 ((((GO c (a,b)).getD Dp).Zx1).Zo1) fun(u:Int)=>lt1 ((((GO c (a,b)).getD Dp).Zx1).Zw) fun(v:Int)=>lt1 ((((GO c (a,b)).getD Dp).Zx1).To) fun(w:Int)=>lt1 ((((GO c (a,b)).getD Dp).Zx1).Code) fun(y:Int)=>lt1 ((((GO c (a,b)).getD Dp).Zx1).Zp1) fun(aa:Int)=>lt1 ((((GO c (a,b)).getD Dp).Zx1).Zq1) fun(ab:Int)=>lt1 ((((GO c (a,b)).getD Dp).Zx1).Zr1) fun(ac:Int)=>lt1 ((((GO c (a,b)).getD Dp).Zx1).Zs1) fun(ad:Int)=>lt1 ((((GO c (a,b)).getD Dp).Zx1).Zt1) fun(ae:List UInt8)=>lt1 ((((GO c (a,b)).getD Dp).Zx1).Zu1) fun(af:List AsJ)=>(if(!i)then some (.inl (a,b,a,b,d.Zw1,d.Zx1.Za,d.Zx1.Ref.Zb,d.Zx1.Ref.No,d.Zx1.Zn1,d.Zx1.Zb1,d.Zx1.Zc,d.Zx1.Zo1,d.Zx1.Zw,d.Zx1.To,d.Zx1.Code,d.Zx1.Zp1,d.Zx1.Zq1,d.Zx1.Zr1,d.Zx1.Zs1,d.Zx1.Zt1,d.Zx1.Zu1)) else if(f==14)then (some e).bind fun ag=>some (.inr ag) else some (.inl (j,k,l,m,n,f,o,p,q,s,t,u,v,w,y,aa,ab,ac,ad,ae,af)):Option ((Int×Int×Int×Int×Int×Int×Int×Int×Int×Int×Int×Int×Int×Int×Int×Int×Int×Int×Int×List UInt8×List AsJ)⊕(List AsR))).bind fun x=>match x with
   | .inl (ah,ai,aj,ak,al,am,aD,aE,an,ao,ap,aq,ar,au,av,aw,ax,ay,az,aA,aB)=>if Cj (e.length+1) 192 then lt1 (e++([({ Ref:=({ Zb:=ah,No:=ai }:AsI),By:=({ Zb:=aj,No:=ak }:AsI),Zw1:=al,Zx1:=({ Za:=am,Ref:=({ Zb:=0,No:=0 }:AsI),Zn1:=an,Zb1:=ao,Zc:=ap,Zo1:=aq,Zw:=ar,To:=au,Code:=av,Zp1:=aw,Zq1:=ax,Zr1:=ay,Zs1:=az,Zt1:=aA,Zu1:=aB }:AsK) }:AsR)]:List AsR)) fun(aC:List AsR)=>some aC else none
   |.inr z=>some z else none
def BP(b:AsO):Option (List AsR) :=(Kt b).bind fun a=>(Od a).bind fun c=>(Aof (fun(v:List ((Int×Int)×AsR)) (q:AsI) (r:AsM)=>Hn v q.Zb q.No r) c.Zy1 ([])).bind fun d=>(Od a).bind fun e=>(Aof (fun(v:List AsR) (q:AsI) (r:AsM)=>Hl d v q.Zb q.No r) e.Zy1 ([])).bind fun f=>some f
def law14_sane  : Option (Bool) :=r14_Example.bind fun b=>(CP 1).bind fun j=>(BL b ({ Zy1:=[],Zz1:=[] }:AsO) 0 (7:UInt64) 5 j).bind fun c=>(Bk b ({ Zy1:=[],Zz1:=[] }:AsO) c.1).bind fun a=>(Bk b a.1 c.1).bind fun e=>(CP 1).bind fun k=>(BL b a.1 0 (7:UInt64) 4 k).bind fun l=>(CP 2).bind fun m=>(BL b ({ Zy1:=[],Zz1:=[] }:AsO) 0 (7:UInt64) 5 m).bind fun f=>(Bk b a.1 f.1).bind fun d=>(CP 1).bind fun n=>(BL b ({ Zy1:=[],Zz1:=[] }:AsO) 0 (8:UInt64) 5 n).bind fun o=>(BL b a.1 0 (7:UInt64) 6 ({ Za:=14,Ref:=({ Zb:=0,No:=1 }:AsI),Zn1:=0,Zb1:=0,Zc:=0,Zo1:=0,Zw:=0,To:=0,Code:=0,Zp1:=0,Zq1:=0,Zr1:=0,Zs1:=0,Zt1:=([]:List UInt8),Zu1:=[] }:AsK)).bind fun g=>(Bk b a.1 g.1).bind fun i=>(BL b ({ Zy1:=[],Zz1:=[] }:AsO) 0 (7:UInt64) 5 ({ Za:=14,Ref:=({ Zb:=0,No:=1 }:AsI),Zn1:=0,Zb1:=0,Zc:=0,Zo1:=0,Zw:=0,To:=0,Code:=0,Zp1:=0,Zq1:=0,Zr1:=0,Zs1:=0,Zt1:=([]:List UInt8),Zu1:=[] }:AsK)).bind fun p=>(if (c.2 == 0)then if (c.1.No==1)then if (c.1.Zv1==(⟨[(0:UInt8),0,0,0,0,0,0,0,0,0,0,0,0,0,0,0,0,0,0,0,0,0,0,0,0,0,0,0,0,0,0,0],rfl⟩:Arr UInt8 32))then if (a.2==0)then if ((a.1.Zy1.length:Int)==2)then if InR 0 a.1.Zy1.length then if (((nth a.1.Zy1 0).length:Int)==1)then if(e.2==0)then (EY e.1 a.1).bind fun q=>if q then some (l.2==140) else some false else some false else some false else none else some false else some false else some false else some false else some false:Option (Bool)).bind fun s=>(if (f.2==0)then if (d.2==0)then if ((d.1.Zz1.length:Int)==1)then (DJ d.1 0).bind fun t=>if (t==1)then (DJ a.1 0).bind fun u=>if(u==0)then (BP d.1).bind fun v=>if((v.length:Int)==0)then (BP a.1).bind fun w=>some ((w.length:Int)==1) else some false else some false else some false else some false else some false else some false:Option (Bool)).bind fun x=>(if s = true then if x = true then if (o.2==30)then if (g.2==0)then if(i.2==0)then (BP i.1).bind fun y=>if((y.length:Int)==0)then some (p.2==110) else some false else some false else some false else some false else some false else some false:Option (Bool)).bind fun z=>some z
def Gy(b:AsH)(a:Int):Option ((Int)⊕((Unit)⊕((Unit)⊕(Bool)))) :=(if(decide (a<(b.Zk1.length:Int)))then some (decide (a<5)) else some false:Option (Bool)).bind fun c=>if c then if InR a b.Zk1.length then lt1 (decide (((((nth b.Zk1 a.toNat).Zf1).Ze1).length:Int)>5)) fun(d:Bool)=>if d then ((some false).bind fun e=>some (.inr e)).bind fun f=>some (.inr (.inr f)) else some (.inl (w64 (a+1))) else none else some (.inr (.inl ()))
def Ii(a:AsH):Option (Bool) :=((Ax (fun(v:Int)=>Gy a v) 0).bind fun x=>match x with
 |.inl ()=>some (.inl ())
 |.inr z=>some z:Option ((Unit)⊕(Bool))).bind fun x=>match x with
 | .inl ()=>(if(decide ((a.Zg1.Ze.length:Int)≤20))then some (decide ((a.Zg1.Zf.length:Int)≤20)) else some false:Option (Bool)).bind fun b=>(if(decide ((a.Zh1.Zy.length:Int)≤20))then if(decide ((a.Zh1.Zx.length:Int)≤20))then if(decide ((a.Zh1.Zz.length:Int)≤20))then some (decide ((a.Zh1.Za1.length:Int)≤20)) else some false else some false else some false:Option (Bool)).bind fun c=>(if b then if c then if(decide ((a.Zi1.length:Int)≤20))then if(decide ((a.Zj1.length:Int)≤20))then some (decide ((a.Zk1.length:Int)≤4)) else some false else some false else some false else some false:Option (Bool)).bind fun d=>some d
 |.inr z=>some z
def DE(a:AsK):Option (Bool) :=(if(decide ((a.Zt1.length:Int)≤1000))then some (decide ((a.Zu1.length:Int)≤20)) else some false:Option (Bool)).bind fun b=>some b
def Dr(a:AsO)(b:Int)(c:Int):Option ((Int)⊕((Unit)⊕((Unit)⊕((Int)⊕((Unit)⊕((Unit)⊕(Bool))))))) :=if InR b a.Zy1.length then lt1 (decide (c<((nth a.Zy1 b.toNat).length:Int))) fun(d:Bool)=>if d then if InR b a.Zy1.length then if InR c ((nth a.Zy1 b.toNat).length)then (DE ((nth (nth a.Zy1 b.toNat) c.toNat).Zx1)).bind fun e=>if(!e)then ((((some false).bind fun f=>some (.inr f)).bind fun g=>some (.inr (.inr g))).bind fun i=>some (.inr i)).bind fun j=>some (.inr (.inr j)) else some (.inl (w64 (c+1))) else none else none else some (.inr (.inl ())) else none
def DR(b:AsO)(a:Int):Option ((Int)⊕((Unit)⊕((Unit)⊕(Bool)))) :=if (decide (a<(b.Zy1.length:Int)))then (if InR a b.Zy1.length then lt1 (decide (((nth b.Zy1 a.toNat).length:Int)>12)) fun(c:Bool)=>if c then (((some false).bind fun d=>some (.inr d)).bind fun e=>some (.inr (.inr e))).bind fun f=>some (.inr f) else (Ax (fun(v:Int)=>Dr b a v) 0).bind fun x=>match x with
    |.inl ()=>some (.inl ())
    |.inr z=>some z else none:Option ((Unit)⊕((Int)⊕((Unit)⊕((Unit)⊕(Bool)))))).bind fun x=>match x with
  |.inl ()=>some (.inl (w64 (a+1)))
  |.inr z=>some z else some (.inr (.inl ()))
def DV(b:AsO)(a:Int):Option ((Int)⊕((Unit)⊕((Unit)⊕(Bool)))) :=if (decide (a<(b.Zz1.length:Int)))then (if InR a b.Zz1.length then (DE (((nth b.Zz1 a.toNat).A).Zx1)).bind fun c=>if(!c)then some true else if InR a b.Zz1.length then (DE (((nth b.Zz1 a.toNat).B).Zx1)).bind fun d=>some (!d) else none else none:Option (Bool)).bind fun e=>if e then ((some false).bind fun f=>some (.inr f)).bind fun g=>some (.inr (.inr g)) else some (.inl (w64 (a+1))) else some (.inr (.inl ()))
def Gu(a:AsO):Option (Bool) :=(if(decide ((a.Zy1.length:Int)>4))then some true else some (decide ((a.Zz1.length:Int)>6)):Option (Bool)).bind fun b=>if b then some false else ((Ax (fun(v:Int)=>DR a v) 0).bind fun x=>match x with
  |.inl ()=>some (.inl ())
  |.inr z=>some z:Option ((Unit)⊕(Bool))).bind fun x=>match x with
  | .inl ()=>((Ax (fun(v:Int)=>DV a v) 0).bind fun x=>match x with
   |.inl ()=>some (.inl ())
   |.inr z=>some z:Option ((Unit)⊕(Bool))).bind fun x=>match x with
   |.inl ()=>some true
   |.inr z=>some z
  |.inr z=>some z
def CD(a:Int)(b:Int)(c:Int):Option (Bool) :=(if(decide (b≤a))then some (decide (a≤c)) else some false:Option (Bool)).bind fun d=>some d
def G5(a:Asu):Option (Bool) :=((CD a.Za 1 5).bind fun b=>if(!b)then some true else (CD a.Zb 0 15).bind fun c=>some (!c):Option (Bool)).bind fun d=>if d then some false else if(a.Za==3)then ((CD a.Zc 0 15).bind fun e=>if e then some (a.Zc != a.Zb) else some false:Option (Bool)).bind fun f=>some f else some (a.Zc==(-1))
def Ju(a:Asv)(b:Int):Option (Bool) :=((CD a.A 0 (w64 (b-1))).bind fun c=>if c = true then (CD a.B 0 (w64 (b-1))).bind fun d=>if d then if (a.A != a.B)then (CD a.Zb 0 15).bind fun e=>if e then (CD a.Zd 1 100000).bind fun f=>if f then (CD a.Km 0 10000).bind fun g=>some g else some false else some false else some false else some false else some false:Option (Bool)).bind fun i=>some i
def DZ(b:Asw)(a:Int):Option ((Int)⊕((Unit)⊕((Unit)⊕(Int)))) :=if (decide (a<(b.Ze.length:Int)))then if InR a b.Ze.length then (G5 (nth b.Ze a.toNat)).bind fun c=>if(!c)then ((some 1).bind fun d=>some (.inr d)).bind fun e=>some (.inr (.inr e)) else some (.inl (w64 (a+1))) else none else some (.inr (.inl ()))
def Ez(a:Asw)(b:Int):Option ((Int)⊕((Unit)⊕((Unit)⊕(Int)))) :=if (decide (b<(a.Zf.length:Int)))then if InR b a.Zf.length then (Ju (nth a.Zf b.toNat) (a.Ze.length:Int)).bind fun c=>if(!c)then ((some 1).bind fun d=>some (.inr d)).bind fun e=>some (.inr (.inr e)) else some (.inl (w64 (b+1))) else none else some (.inr (.inl ()))
def JX(a:Asw):Option (Int) :=(if(decide ((a.Ze.length:Int)>512))then some true else some (decide ((a.Zf.length:Int)>2048)):Option (Bool)).bind fun b=>if b then some 2 else ((Ax (fun(v:Int)=>DZ a v) 0).bind fun x=>match x with
  |.inl ()=>some (.inl ())
  |.inr z=>some z:Option ((Unit)⊕(Int))).bind fun x=>match x with
  | .inl ()=>((Ax (fun(v:Int)=>Ez a v) 0).bind fun x=>match x with
   |.inl ()=>some (.inl ())
   |.inr z=>some z:Option ((Unit)⊕(Int))).bind fun x=>match x with
   |.inl ()=>some 0
   |.inr z=>some z
  |.inr z=>some z
def Bc(a:Int)(b:Int)(c:Int):Option (Bool) :=(if(decide (a≥b))then some (decide (a≤c)) else some false:Option (Bool)).bind fun d=>some d
def DI(a:Asx):Option (Bool) :=((Bc a.Zg 0 1000000).bind fun b=>if b = true then (Bc a.Zh 0 1000000).bind fun c=>if c = true then (Bc a.Zi 0 1000000).bind fun d=>if d then (Bc a.Zk 0 1000000).bind fun e=>if e then (Bc a.Zj 0 7).bind fun f=>if f then (Bc a.Zm 1 1073741824).bind fun g=>if g then (Bc a.Zn 0 100).bind fun i=>some i else some false else some false else some false else some false else some false else some false:Option (Bool)).bind fun j=>some j
def Dt(a:Asy)(b:Int):Option (Bool) :=((Bc a.Zo 0 (w64 (b-1))).bind fun c=>if c then (Bc a.Zp 0 63).bind fun d=>if d then (Bc a.Zq 0 511).bind fun e=>if e then (Bc a.Zr 0 1073741824).bind fun f=>if f then (Bc a.Zs 0 1099511627776).bind fun g=>some g else some false else some false else some false else some false:Option (Bool)).bind fun i=>some i
def FN(d:List AsA)(a:Int)(e:List Bool):Option ((Int×List Bool)⊕((Unit)⊕((Unit)⊕(Int)))) :=if (decide (a<(d.length:Int)))then if InR a d.length then lt1 ((nth d a.toNat).Zw) fun(b:Int)=>lt1 ((nth d a.toNat).To) fun(c:Int)=>lt1 ((nth d a.toNat).Zd) fun(f:Int)=>((Bc b 0 63).bind fun g=>if(!g)then some true else (Bc c 0 63).bind fun i=>if(!i)then some true else if(b==c)then some true else (Bc f 0 100000).bind fun j=>some (!j):Option (Bool)).bind fun k=>if k then ((some 1).bind fun l=>some (.inr l)).bind fun m=>some (.inr (.inr m)) else if InR (w64 ((w64 (64*b))+c)) e.length then if nth e ((w64 ((w64 (64*b))+c)).toNat)=true then ((some 1).bind fun n=>some (.inr n)).bind fun o=>some (.inr (.inr o)) else if InR (w64 ((w64 (64*b))+c)) e.length then lt1 (e.set ((w64 ((w64 (64*b))+c)).toNat) true) fun(p:List Bool)=>some (.inl ((w64 (a+1)),p)) else none else none else none else some (.inr (.inl ()))
def I0(a:List AsA):Option (Int) :=if Mk 4096 4096 1 then lt1 (List.replicate 4096 false) fun(b:List Bool)=>((Ax (fun(v:Int×List Bool)=>FN a v.1 v.2) (0,b)).bind fun x=>match x with
  |.inl ()=>some (.inl ())
  |.inr z=>some z:Option ((Unit)⊕(Int))).bind fun x=>match x with
  |.inl ()=>some 0
  |.inr z=>some z else none
def E3(b:AsB)(a:Int):Option ((Int)⊕((Unit)⊕((Unit)⊕(Int)))) :=if (decide (a<(b.Zx.length:Int)))then if InR a b.Zx.length then (DI (nth b.Zx a.toNat)).bind fun c=>if(!c)then ((some 1).bind fun d=>some (.inr d)).bind fun e=>some (.inr (.inr e)) else some (.inl (w64 (a+1))) else none else some (.inr (.inl ()))
def Et(a:AsB)(b:Int):Option ((Int)⊕((Unit)⊕((Unit)⊕(Int)))) :=if (decide (b<(a.Zy.length:Int)))then if InR b a.Zy.length then (Dt (nth a.Zy b.toNat) (a.Zx.length:Int)).bind fun c=>if(!c)then ((some 1).bind fun d=>some (.inr d)).bind fun e=>some (.inr (.inr e)) else some (.inl (w64 (b+1))) else none else some (.inr (.inl ()))
def DY(a:AsB)(b:Int):Option ((Int)⊕((Unit)⊕((Unit)⊕(Int)))) :=if (decide (b<(a.Zz.length:Int)))then if InR b a.Zz.length then lt1 ((nth a.Zz b.toNat).Zt) fun(c:Int)=>lt1 ((nth a.Zz b.toNat).Zu) fun(d:Int)=>lt1 ((nth a.Zz b.toNat).Zv) fun(e:Int)=>((Bc c 0 (w64 ((a.Zx.length:Int)-1))).bind fun f=>if(!f)then some true else (Bc d 0 (w64 ((a.Zx.length:Int)-1))).bind fun g=>if(!g)then some true else if(c==d)then some true else (Bc e 0 1000000000).bind fun i=>some (!i):Option (Bool)).bind fun j=>if j then ((some 1).bind fun k=>some (.inr k)).bind fun l=>some (.inr (.inr l)) else some (.inl (w64 (b+1))) else none else some (.inr (.inl ()))
def Ku(a:AsB):Option (Int) :=(if(decide ((a.Zx.length:Int)>32))then some true else if(decide ((a.Zy.length:Int)>4096))then some true else if(decide ((a.Zz.length:Int)>1024))then some true else some (decide ((a.Za1.length:Int)>4096)):Option (Bool)).bind fun b=>if b then some 2 else ((Ax (fun(v:Int)=>E3 a v) 0).bind fun x=>match x with
  |.inl ()=>some (.inl ())
  |.inr z=>some z:Option ((Unit)⊕(Int))).bind fun x=>match x with
  | .inl ()=>((Ax (fun(v:Int)=>Et a v) 0).bind fun x=>match x with
   |.inl ()=>some (.inl ())
   |.inr z=>some z:Option ((Unit)⊕(Int))).bind fun x=>match x with
   | .inl ()=>((Ax (fun(v:Int)=>DY a v) 0).bind fun x=>match x with
    |.inl ()=>some (.inl ())
    |.inr z=>some z:Option ((Unit)⊕(Int))).bind fun x=>match x with
    |.inl ()=>(I0 a.Za1).bind fun c=>some c
    |.inr z=>some z
   |.inr z=>some z
  |.inr z=>some z
def Fb(b:AsH)(e:Int)(a:Int):Option ((Int)⊕((Unit)⊕((Unit)⊕(Bool)))) :=if (decide (a<(b.Zi1.length:Int)))then if InR a b.Zi1.length then lt1 ((nth b.Zi1 a.toNat).Zb1) fun(f:Int)=>lt1 ((nth b.Zi1 a.toNat).Low) fun(c:Int)=>lt1 ((nth b.Zi1 a.toNat).Zc1) fun(d:Int)=>((Bc f 0 (w64 (e-1))).bind fun g=>if(!g)then some true else if(decide (c<(-1000)))then some true else if(decide (d<c))then some true else some (decide (d>1000)):Option (Bool)).bind fun i=>if i then ((some false).bind fun j=>some (.inr j)).bind fun k=>some (.inr (.inr k)) else some (.inl (w64 (a+1))) else none else some (.inr (.inl ()))
def Fh(a:AsH)(c:Int)(b:Int):Option ((Int)⊕((Unit)⊕((Unit)⊕(Bool)))) :=if (decide (b<(a.Zj1.length:Int)))then (if InR b a.Zj1.length then (Bc ((nth a.Zj1 b.toNat).Zb1) 0 (w64 (c-1))).bind fun d=>if(!d)then some true else if InR b a.Zj1.length then if InR ((nth a.Zj1 b.toNat).Zb1) a.Zg1.Ze.length then some ((nth a.Zg1.Ze (((nth a.Zj1 b.toNat).Zb1).toNat)).Za != 4) else none else none else none:Option (Bool)).bind fun e=>if e then ((some false).bind fun f=>some (.inr f)).bind fun g=>some (.inr (.inr g)) else some (.inl (w64 (b+1))) else some (.inr (.inl ()))
def Fg(b:AsH)(c:Int)(a:Int):Option ((Int)⊕((Unit)⊕((Unit)⊕(Bool)))) :=if (decide (a<(b.Zh1.Zy.length:Int)))then if InR a b.Zh1.Zy.length then lt1 (decide ((nth b.Zh1.Zy a.toNat).Zq≥c)) fun(d:Bool)=>if d then ((some false).bind fun e=>some (.inr e)).bind fun f=>some (.inr (.inr f)) else some (.inl (w64 (a+1))) else none else some (.inr (.inl ()))
def Mh(a:AsH):Option (Bool) :=lt1 (a.Zg1.Ze.length:Int) fun(b:Int)=>((Ax (fun(v:Int)=>Fb a b v) 0).bind fun x=>match x with
 |.inl ()=>some (.inl ())
 |.inr z=>some z:Option ((Unit)⊕(Bool))).bind fun x=>match x with
 | .inl ()=>((Ax (fun(v:Int)=>Fh a b v) 0).bind fun x=>match x with
  |.inl ()=>some (.inl ())
  |.inr z=>some z:Option ((Unit)⊕(Bool))).bind fun x=>match x with
  | .inl ()=>((Ax (fun(v:Int)=>Fg a b v) 0).bind fun x=>match x with
   |.inl ()=>some (.inl ())
   |.inr z=>some z:Option ((Unit)⊕(Bool))).bind fun x=>match x with
   |.inl ()=>some true
   |.inr z=>some z
  |.inr z=>some z
 |.inr z=>some z
def Ec(b:AsH)(c:Int)(a:Int):Option ((Int)⊕((Unit)⊕((Unit)⊕(Bool)))) :=if (decide (a<(b.Zg1.Ze.length:Int)))then if InR a b.Zg1.Ze.length then lt1 ((nth b.Zg1.Ze a.toNat).Za) fun(j:Int)=>lt1 ((nth b.Zg1.Ze a.toNat).Zb) fun(d:Int)=>lt1 ((nth b.Zg1.Ze a.toNat).Zc) fun(e:Int)=>(if(decide (d≥c))then some true else some (decide (e≥c)):Option (Bool)).bind fun f=>if f then ((some false).bind fun g=>some (.inr g)).bind fun i=>some (.inr (.inr i)) else some (.inl (w64 (a+1))) else none else some (.inr (.inl ()))
def E8(b:AsH)(c:Int)(a:Int):Option ((Int)⊕((Unit)⊕((Unit)⊕(Bool)))) :=if (decide (a<(b.Zg1.Zf.length:Int)))then if InR a b.Zg1.Zf.length then lt1 (decide ((nth b.Zg1.Zf a.toNat).Zb≥c)) fun(d:Bool)=>if d then ((some false).bind fun e=>some (.inr e)).bind fun f=>some (.inr (.inr f)) else some (.inl (w64 (a+1))) else none else some (.inr (.inl ()))
def Kv(a:AsH):Option (Bool) :=lt1 (a.Zk1.length:Int) fun(b:Int)=>((Ax (fun(v:Int)=>Ec a b v) 0).bind fun x=>match x with
 |.inl ()=>some (.inl ())
 |.inr z=>some z:Option ((Unit)⊕(Bool))).bind fun x=>match x with
 | .inl ()=>((Ax (fun(v:Int)=>E8 a b v) 0).bind fun x=>match x with
  |.inl ()=>some (.inl ())
  |.inr z=>some z:Option ((Unit)⊕(Bool))).bind fun x=>match x with
  |.inl ()=>some true
  |.inr z=>some z
 |.inr z=>some z
def Ek(b:AsF)(a:Int):Option ((Int)⊕((Unit)⊕((Unit)⊕(Int)))) :=if (decide (a<(b.Ze1.length:Int)))then if InR a b.Ze1.length then lt1 (nth b.Ze1 a.toNat) fun(c:Int)=>(if(decide (c<0))then some true else if(decide (c>745654))then some true else if(decide (a>0))then if InR (w64 (a-1)) b.Ze1.length then some (decide (nth b.Ze1 ((w64 (a-1)).toNat)≥c)) else none else some false:Option (Bool)).bind fun d=>if d then ((some 1).bind fun e=>some (.inr e)).bind fun f=>some (.inr (.inr f)) else some (.inl (w64 (a+1))) else none else some (.inr (.inl ()))
def G0(a:AsF):Option (Int) :=lt1 a.Zd1.2.2.2.2.1.Zw fun(b:Int)=>lt1 a.Zd1.2.2.2.2.2.1.Zw fun(c:Int)=>lt1 a.Zd1.2.2.2.2.2.1.To fun(d:Int)=>lt1 a.Zd1.2.2.2.2.2.2.Zw fun(e:Int)=>lt1 a.Zd1.2.2.2.2.2.2.To fun(f:Int)=>((if(decide (a.Zd1.1.Zw<0))then some true else if(decide (a.Zd1.1.To<a.Zd1.1.Zw))then some true else some (decide (a.Zd1.1.To>1440)):Option (Bool)).bind fun g=>if g then (some 1).bind fun i=>some (.inr i) else (if(decide (a.Zd1.2.1.Zw<0))then some true else if(decide (a.Zd1.2.1.To<a.Zd1.2.1.Zw))then some true else some (decide (a.Zd1.2.1.To>1440)):Option (Bool)).bind fun j=>if j then (some 1).bind fun k=>some (.inr k) else (if(decide (a.Zd1.2.2.1.Zw<0))then some true else if(decide (a.Zd1.2.2.1.To<a.Zd1.2.2.1.Zw))then some true else some (decide (a.Zd1.2.2.1.To>1440)):Option (Bool)).bind fun l=>if l then (some 1).bind fun m=>some (.inr m) else (if(decide (a.Zd1.2.2.2.1.Zw<0))then some true else if(decide (a.Zd1.2.2.2.1.To<a.Zd1.2.2.2.1.Zw))then some true else some (decide (a.Zd1.2.2.2.1.To>1440)):Option (Bool)).bind fun n=>if n then (some 1).bind fun o=>some (.inr o) else (if(decide (b<0))then some true else if(decide (a.Zd1.2.2.2.2.1.To<b))then some true else some (decide (a.Zd1.2.2.2.2.1.To>1440)):Option (Bool)).bind fun p=>if p then (some 1).bind fun q=>some (.inr q) else (if(decide (c<0))then some true else if(decide (d<c))then some true else some (decide (d>1440)):Option (Bool)).bind fun s=>if s then (some 1).bind fun t=>some (.inr t) else (if(decide (e<0))then some true else if(decide (f<e))then some true else some (decide (f>1440)):Option (Bool)).bind fun u=>if u then (some 1).bind fun w=>some (.inr w) else some (.inl ()):Option ((Unit)⊕(Int))).bind fun x=>match x with
 | .inl ()=>((Ax (fun(v:Int)=>Ek a v) 0).bind fun x=>match x with
  |.inl ()=>some (.inl ())
  |.inr z=>some z:Option ((Unit)⊕(Int))).bind fun x=>match x with
  |.inl ()=>some 0
  |.inr z=>some z
 |.inr z=>some z
def GF(a:UInt64):Option (Bool) :=(if(decide (a≥(2:UInt64)))then if(decide (a<(2305843009213690799:UInt64)))then (Jk a (1152921504606845399:UInt64)).bind fun b=>some (b==(1:UInt64)) else some false else some false:Option (Bool)).bind fun c=>some c
def CF(b:AsH)(a:Int):Option ((Int)⊕((Unit)⊕((Unit)⊕(Int)))) :=if (decide (a<(b.Zk1.length:Int)))then (if InR a b.Zk1.length then (G0 ({ Zd1:=((((nth b.Zk1 a.toNat).Zf1).Zd1).1,(((nth b.Zk1 a.toNat).Zf1).Zd1).2.1,(((nth b.Zk1 a.toNat).Zf1).Zd1).2.2.1,(((nth b.Zk1 a.toNat).Zf1).Zd1).2.2.2.1,(((nth b.Zk1 a.toNat).Zf1).Zd1).2.2.2.2.1,(((nth b.Zk1 a.toNat).Zf1).Zd1).2.2.2.2.2.1,(((nth b.Zk1 a.toNat).Zf1).Zd1).2.2.2.2.2.2),Ze1:=((nth b.Zk1 a.toNat).Zf1).Ze1 }:AsF)).bind fun c=>if(c != 0)then some true else if InR a b.Zk1.length then (GF ((nth b.Zk1 a.toNat).Key)).bind fun d=>some (!d) else none else none:Option (Bool)).bind fun e=>if e then ((some 1).bind fun f=>some (.inr f)).bind fun g=>some (.inr (.inr g)) else some (.inl (w64 (a+1))) else some (.inr (.inl ()))
def EG(a:AsH):Option (Int) :=(JX a.Zg1).bind fun b=>if(b != 0)then some b else (Ku a.Zh1).bind fun c=>if(c != 0)then some c else (if(decide ((a.Zi1.length:Int)>256))then some true else if(decide ((a.Zj1.length:Int)>256))then some true else some (decide ((a.Zk1.length:Int)>16)):Option (Bool)).bind fun d=>if d then some 2 else ((Mh a).bind fun e=>if(!e)then some true else (Kv a).bind fun f=>some (!f):Option (Bool)).bind fun g=>if g then some 1 else ((Ax (fun(v:Int)=>CF a v) 0).bind fun x=>match x with
     |.inl ()=>some (.inl ())
     |.inr z=>some z:Option ((Unit)⊕(Int))).bind fun x=>match x with
     | .inl ()=>if((a.Zk1.length:Int)==0)then some 1 else some 0
     |.inr z=>some z
def F3(a : Int):Option (List UInt8) :=if(a==1)then some ([119,111,102]:List UInt8) else if(a==2)then some ([119,112,102,116]:List UInt8) else (if(a==3)then some (a==3) else some (a==4):Option (Bool)).bind fun b=>if b then some ([119,112,111,102,99]:List UInt8) else if(a==5)then some ([110,119,111,112,100,107,103,102]:List UInt8) else if(a==6)then some ([119,112,111,102,99]:List UInt8) else if(a==7)then some ([119,112,111,102]:List UInt8) else if(a==8)then some ([119,102,99]:List UInt8) else if(a==9)then some ([119,112,102,116,99,97,113]:List UInt8) else if(a==10)then some ([111,113]:List UInt8) else (if(a==11)then some (a==11) else some (a==12):Option (Bool)).bind fun c=>if c then some ([110,102,120]:List UInt8) else if(a==13)then some ([110,102]:List UInt8) else if(a==15)then some ([111,112,107,110,103,102,116,97]:List UInt8) else some ([]:List UInt8)
def AC(a:Int)(b:Int)(c:Int):Option (Bool) :=(if(decide (b≤a))then some (decide (a≤c)) else some false:Option (Bool)).bind fun d=>some d
def Dc(a:AsK):Option (Bool) :=if((a.Ref.Zb==0)&&(a.Ref.No==0))then some (a.Za != 14) else ((AC a.Ref.Zb 0 15).bind fun b=>if b then (AC a.Ref.No 1 4096).bind fun c=>some c else some false:Option (Bool)).bind fun d=>some d
def Hu(b:List UInt8)(c:UInt8)(a:Int):Option ((Int)⊕((Unit)⊕((Unit)⊕(Bool)))) :=if (decide (a<(b.length:Int)))then if InR a b.length then if((nth b a.toNat)==c)then ((some true).bind fun d=>some (.inr d)).bind fun e=>some (.inr (.inr e)) else some (.inl (w64 (a+1))) else none else some (.inr (.inl ()))
def Kn(a:List UInt8)(b:UInt8):Option (Bool) :=((Ax (fun(v:Int)=>Hu a b v) 0).bind fun x=>match x with
 |.inl ()=>some (.inl ())
 |.inr z=>some z:Option ((Unit)⊕(Bool))).bind fun x=>match x with
 |.inl ()=>some false
 |.inr z=>some z
def Kq(b:AsH)(a:AsK):Option (Bool) :=(AC a.Zb1 0 (w64 ((b.Zg1.Ze.length:Int)-1))).bind fun d=>if(!d)then some false else if InR a.Zb1 b.Zg1.Ze.length then lt1 ((nth b.Zg1.Ze a.Zb1.toNat).Za) fun(c:Int)=>(if(a.Za==3)then some (a.Za==3) else some (a.Za==4):Option (Bool)).bind fun e=>if e then some (c==3) else if(a.Za==9)then some (c==5) else some true else none
def Kf(b:AsH)(a:AsK):Option (Bool) :=if(a.Za==1)then (AC a.Zc 0 (w64 ((b.Zi1.length:Int)-1))).bind fun c=>some c else (if(a.Za==3)then some (a.Za==3) else some (a.Za==4):Option (Bool)).bind fun d=>if d then if InR a.Zb1 b.Zg1.Ze.length then lt1 ((nth b.Zg1.Ze a.Zb1.toNat).Za) fun(k:Int)=>lt1 ((nth b.Zg1.Ze a.Zb1.toNat).Zb) fun(e:Int)=>lt1 ((nth b.Zg1.Ze a.Zb1.toNat).Zc) fun(f:Int)=>(if(a.Zc==e)then some true else some (a.Zc==f):Option (Bool)).bind fun g=>some g else none else if(a.Za==10)then (AC a.Zc 0 63).bind fun i=>some i else (AC a.Zc 0 (w64 ((b.Zj1.length:Int)-1))).bind fun j=>some j
def I9(b:AsH)(a:AsK):Option (Bool) :=if(a.Za==5)then (AC a.Zo1 1 1000000000).bind fun c=>some c else if(a.Za==15)then (AC a.Zo1 0 (w64 ((b.Zh1.Zx.length:Int)-1))).bind fun d=>some d else (AC a.Zo1 1 6).bind fun e=>some e
def Mn(a:AsK):Option (Bool) :=(if(a.Za==3)then some (a.Za==3) else some (a.Za==4):Option (Bool)).bind fun b=>if b then (AC a.Code 0 8).bind fun c=>some c else if(a.Za==6)then (AC a.Code 0 1).bind fun d=>some d else if(a.Za==8)then (AC a.Code 1 9).bind fun e=>some e else (AC a.Code 1 2).bind fun f=>some f
def Kb(c : AsH)(a:AsK)(b:UInt8):Option (Bool) :=if(b==(119:UInt8))then (AC a.Zn1 0 (w64 ((c.Zh1.Zy.length:Int)-1))).bind fun d=>some d else if(b==(112:UInt8))then (Kq c a).bind fun e=>some e else if(b==(111:UInt8))then (Kf c a).bind fun f=>some f else if(b==(110:UInt8))then (I9 c a).bind fun g=>some g else if(b==(102:UInt8))then (AC a.Zw 0 1073741824).bind fun i=>some i else if(b==(116:UInt8))then (AC a.To a.Zw 1073741824).bind fun j=>some j else if(b==(99:UInt8))then (Mn a).bind fun k=>some k else if(b==(100:UInt8))then (AC a.Zp1 0 (w64 ((c.Zg1.Ze.length:Int)-1))).bind fun l=>some l else if(b==(107:UInt8))then (AC a.Zq1 0 63).bind fun m=>some m else if(b==(103:UInt8))then if(a.Za==15)then (AC a.Zr1 1 1000).bind fun n=>some n else (AC a.Zr1 0 1000000).bind fun o=>some o else (AC a.Zs1 0 1000000000).bind fun p=>some p
def Ej(a:AsK)(b:Int):Option ((Int)⊕((Unit)⊕((Unit)⊕(Bool)))) :=if (decide (b<(a.Zu1.length:Int)))then if InR b a.Zu1.length then lt1 ((nth a.Zu1 b.toNat).Za) fun(c:Int)=>lt1 ((nth a.Zu1 b.toNat).Zl1) fun(d:Int)=>lt1 ((nth a.Zu1 b.toNat).Zm1) fun(e:Bool)=>((AC c 1 3).bind fun f=>if(!f)then some true else (AC d 0 1073741824).bind fun g=>if(!g)then some true else if(a.Za==10)then some e else some false:Option (Bool)).bind fun i=>if i then ((some false).bind fun j=>some (.inr j)).bind fun k=>some (.inr (.inr k)) else some (.inl (w64 (b+1))) else none else some (.inr (.inl ()))
def JE(a:AsK):Option (Bool) :=(if(decide ((a.Zu1.length:Int)>16))then some true else if(a.Za==10)then some ((a.Zu1.length:Int)==0) else some false:Option (Bool)).bind fun b=>if b then some false else ((Ax (fun(v:Int)=>Ej a v) 0).bind fun x=>match x with
  |.inl ()=>some (.inl ())
  |.inr z=>some z:Option ((Unit)⊕(Bool))).bind fun x=>match x with
  |.inl ()=>some true
  |.inr z=>some z
def Eg(e:AsH)(c:AsK)(d:List UInt8)(b:Int):Option ((Int)⊕((Unit)⊕((Unit)⊕(Bool)))) :=if (decide (b<11))then if InR b (([119,112,111,110,102,116,99,100,107,103,97]:List UInt8).length)then lt1 (nth ([119,112,111,110,102,116,99,100,107,103,97]:List UInt8) b.toNat) fun(a:UInt8)=>((Kn d a).bind fun f=>if f then (Kb e c a).bind fun g=>if(!g)then some true else (Kn d a).bind fun i=>if(!i)then (BG c a).bind fun j=>some (j != 0) else some false else (Kn d a).bind fun k=>if(!k)then (BG c a).bind fun l=>some (l != 0) else some false:Option (Bool)).bind fun m=>if m then ((some false).bind fun n=>some (.inr n)).bind fun o=>some (.inr (.inr o)) else some (.inl (w64 (b+1))) else none else some (.inr (.inl ()))
def Hz(c:AsH)(a:AsK):Option (Bool) :=(F3 a.Za).bind fun b=>((AC a.Za 1 15).bind fun d=>if(!d)then some true else (Dc a).bind fun e=>some (!e):Option (Bool)).bind fun f=>if f then some false else ((Ax (fun(v:Int)=>Eg c a b v) 0).bind fun x=>match x with
  |.inl ()=>some (.inl ())
  |.inr z=>some z:Option ((Unit)⊕(Bool))).bind fun x=>match x with
  | .inl ()=>((Kn b (120:UInt8)).bind fun g=>if(!(g==(!(a.Zt1==([]:List UInt8)))))then some true else some (decide ((a.Zt1.length:Int)>2000)):Option (Bool)).bind fun i=>if i then some false else ((Kn b (113:UInt8)).bind fun j=>if j then (JE a).bind fun k=>if k then some true else if((a.Zu1.length:Int)==0)then (Kn b (113:UInt8)).bind fun l=>some (!l) else some false else if((a.Zu1.length:Int)==0)then (Kn b (113:UInt8)).bind fun m=>some (!m) else some false:Option (Bool)).bind fun n=>some n
  |.inr z=>some z
def CE(a:Int):Option (AsP) :=some (AsP.mk 1 a ([]) ([]))
def FS(a:List AsP):Option (AsP) :=some (AsP.mk 3 0 ([]) a)
def On(a:List UInt8):Option (AsP) :=some (AsP.mk 2 0 a ([]))
def L6(a:Bool):Option (AsP) :=if a then (CE 1).bind fun b=>some b else (CE 0).bind fun c=>some c
def Ei(b:AsK)(a:Int)(c:List AsP):Option ((Int×List AsP)⊕(List AsP)) :=if (decide (a<(b.Zu1.length:Int)))then if InR a b.Zu1.length then lt1 ((nth b.Zu1 a.toNat).Za) fun(d:Int)=>lt1 ((nth b.Zu1 a.toNat).Zl1) fun(e:Int)=>lt1 ((nth b.Zu1 a.toNat).Zm1) fun(f:Bool)=>(CE d).bind fun g=>(CE e).bind fun i=>(L6 f).bind fun j=>(FS ([g,i,j]:List AsP)).bind fun k=>if Cj (c.length+1) 64 then lt1 (c++([k]:List AsP)) fun(l:List AsP)=>some (.inl ((w64 (a+1)),l)) else none else none else some (.inr c)
def J7(a:AsK):Option (AsP) :=(CE a.Ref.Zb).bind fun c=>(CE a.Ref.No).bind fun d=>(FS ([c,d]:List AsP)).bind fun e=>(CE a.Za).bind fun f=>(CE a.Zn1).bind fun g=>(CE a.Zb1).bind fun i=>(CE a.Zc).bind fun j=>(CE a.Zo1).bind fun k=>(CE a.Zw).bind fun l=>(CE a.To).bind fun m=>(CE a.Code).bind fun n=>(CE a.Zp1).bind fun o=>(CE a.Zq1).bind fun p=>(CE a.Zr1).bind fun q=>(CE a.Zs1).bind fun s=>(On a.Zt1).bind fun t=>lt1 ([f,e,g,i,j,k,l,m,n,o,p,q,s,t]:List AsP) fun(b:List AsP)=>lt1 ([]:List AsP) fun(u:List AsP)=>((Ax (fun(v:Int×List AsP)=>Ei a v.1 v.2) (0,u)).bind fun w=>some w:Option (List AsP)).bind fun x=>(FS x).bind fun y=>if Cj (b.length+1) 64 then (FS (b++([y]:List AsP))).bind fun z=>some z else none
def K8(a:AsM):Option (List AsP) :=if Cj (0+a.Zv1.l.length) 1 then lt1 (([]:List UInt8)++a.Zv1.l) fun(b:List UInt8)=>(CE a.Zb).bind fun c=>(CE a.No).bind fun d=>(CE a.Zw1).bind fun e=>(J7 a.Zx1).bind fun f=>lt1 ([c,d,(AsP.mk 2 0 b ([])),e,f]:List AsP) fun(g:List AsP)=>some g else none
def Fp(b:AsP)(rec_:AsP→Option (Bool))(a:Int):Option ((Int)⊕((Unit)⊕((Unit)⊕(Bool)))) :=if (decide (a<(b.L.length:Int)))then if InR a b.L.length then (rec_ (nth b.L a.toNat)).bind fun c=>if(!c)then ((some false).bind fun d=>some (.inr d)).bind fun e=>some (.inr (.inr e)) else some (.inl (w64 (a+1))) else none else some (.inr (.inl ()))
def Hq(rec_:AsP→Option (Bool))(a:AsP):Option (Bool) :=(if (a.Za != 1)then if(a.N != 0)then some true else if (a.Za != 2)then if(decide ((a.B.length:Int)>0))then some true else if(a.Za != 3)then some (decide ((a.L.length:Int)>0)) else some false else if(a.Za != 3)then some (decide ((a.L.length:Int)>0)) else some false else if (a.Za != 2)then if(decide ((a.B.length:Int)>0))then some true else if(a.Za != 3)then some (decide ((a.L.length:Int)>0)) else some false else if(a.Za != 3)then some (decide ((a.L.length:Int)>0)) else some false:Option (Bool)).bind fun b=>if b then some false else ((Ax (fun(v:Int)=>Fp a rec_ v) 0).bind fun x=>match x with
  |.inl ()=>some (.inl ())
  |.inr z=>some z:Option ((Unit)⊕(Bool))).bind fun x=>match x with
  | .inl ()=>(if(a.Za==1)then some true else if(a.Za==2)then some true else some (a.Za==3):Option (Bool)).bind fun c=>some c
  |.inr z=>some z
def Gm(n:Nat):AsP→Option (Bool):=match n with
 |0=>fun _=>none
 |n+1=>Hq (Gm n)
def P2(a:AsP):Option (Bool):=Gm 18446744073709551616 a
def DU(b:AsP)(rec_:AsP→Option (Int))(c:Int)(a:Int):Option ((Int×Int)⊕(Int)) :=if(decide (a<(b.L.length:Int)))then if InR a b.L.length then (rec_ (nth b.L a.toNat)).bind fun d=>some (.inl ((J6 c d),(w64 (a+1)))) else none else some (.inr c)
def F9(rec_:AsP→Option (Int))(a:AsP):Option (Int) :=((Ax (fun(v:Int×Int)=>DU a rec_ v.1 v.2) (0,0)).bind fun c=>some c:Option (Int)).bind fun b=>if(a.Za==3)then some (w64 (b+1)) else some b
def Df(n:Nat):AsP→Option (Int):=match n with
 |0=>fun _=>none
 |n+1=>F9 (Df n)
def Lu(a:AsP):Option (Int):=Df 18446744073709551616 a
def CK(d:Int)(b:Int)(a:List UInt8):Option ((Int×List UInt8)⊕(List UInt8)) :=if (decide (b≥0))then (if Cb b then lt1 (UInt8.ofInt (AoJ d b)) fun(c:UInt8)=>(if(c != (0:UInt8))then some true else some (decide ((a.length:Int)>0)):Option (Bool)).bind fun e=>if e then if Cj (a.length+1) 1 then lt1 (a++([c]:List UInt8)) fun(f:List UInt8)=>some f else none else some a else none:Option (List UInt8)).bind fun g=>some (.inl ((w64 (b-8)),g)) else some (.inr a)
def He(a:Int):Option (List UInt8) :=lt1 ([]:List UInt8) fun(b:List UInt8)=>((Ax (fun(v:Int×List UInt8)=>CK a v.1 v.2) (56,b)).bind fun c=>some c:Option (List UInt8)).bind fun d=>some d
def Cv(b:List UInt8)(a:Int)(c:List UInt8):Option ((Int×List UInt8)⊕(List UInt8)) :=if (decide (a<(b.length:Int)))then if InR a b.length then if Cj (c.length+1) 1 then lt1 (c++([((255:UInt8)-nth b a.toNat)]:List UInt8)) fun(d:List UInt8)=>some (.inl ((w64 (a+1)),d)) else none else none else some (.inr c)
def H6(a:Int):Option (List UInt8) :=if(decide (a≥0))then (He a).bind fun b=>lt1 ([(UInt8.ofInt (w64 (32+(b.length:Int))))]:List UInt8) fun(c:List UInt8)=>if Cj (c.length+b.length) 1 then lt1 (c++b) fun(e:List UInt8)=>some e else none else (He (w64 (0-(w64 (a+1))))).bind fun d=>lt1 ([(UInt8.ofInt (w64 (31-(d.length:Int))))]:List UInt8) fun(f:List UInt8)=>((Ax (fun(v:Int×List UInt8)=>Cv d v.1 v.2) (0,f)).bind fun g=>some g:Option (List UInt8)).bind fun i=>some i
def Di(b:AsP)(a:Int)(c:List UInt8):Option ((Int×List UInt8)⊕(List UInt8)) :=if (decide (a<(b.B.length:Int)))then (if InR a b.B.length then if Cj (c.length+1) 1 then lt1 (c++([nth b.B a.toNat]:List UInt8)) fun(d:List UInt8)=>if InR a b.B.length then if(nth b.B a.toNat==(0:UInt8))then if Cj (d.length+1) 1 then lt1 (d++([(255:UInt8)]:List UInt8)) fun(e:List UInt8)=>some e else none else some d else none else none else none:Option (List UInt8)).bind fun f=>some (.inl ((w64 (a+1)),f)) else some (.inr c)
def Db(b:AsP)(rec_:AsP→Option (List UInt8))(a:Int)(c:List UInt8):Option ((Int×List UInt8)⊕(List UInt8)) :=if (decide (a<(b.L.length:Int)))then if InR a b.L.length then (rec_ (nth b.L a.toNat)).bind fun d=>if Cj (c.length+d.length) 1 then lt1 (c++d) fun(e:List UInt8)=>some (.inl ((w64 (a+1)),e)) else none else none else some (.inr c)
def Hk(rec_:AsP→Option (List UInt8))(a:AsP):Option (List UInt8) :=if(a.Za==1)then (H6 a.N).bind fun e=>some e else lt1 ([]:List UInt8) fun(b:List UInt8)=>(if(a.Za==2)then if Cj (b.length+1) 1 then lt1 (b++([(48:UInt8)]:List UInt8)) fun(f:List UInt8)=>((Ax (fun(v:Int×List UInt8)=>Di a v.1 v.2) (0,f)).bind fun g=>some g:Option (List UInt8)).bind fun c=>if Cj (c.length+2) 1 then lt1 (c++([(0:UInt8),(0:UInt8)]:List UInt8)) fun(i:List UInt8)=>(some i).bind fun j=>some (.inr j) else none else none else some (.inl ()):Option ((Unit)⊕(List UInt8))).bind fun x=>match x with
  | .inl ()=>if Cj (b.length+1) 1 then lt1 (b++([(64:UInt8)]:List UInt8)) fun(k:List UInt8)=>((Ax (fun(v:Int×List UInt8)=>Db a rec_ v.1 v.2) (0,k)).bind fun l=>some l:Option (List UInt8)).bind fun d=>if Cj (d.length+1) 1 then lt1 (d++([(0:UInt8)]:List UInt8)) fun(m:List UInt8)=>some m else none else none
  |.inr z=>some z
def Gj(n:Nat):AsP→Option (List UInt8):=match n with
 |0=>fun _=>none
 |n+1=>Hk (Gj n)
def LA(a:AsP):Option (List UInt8):=Gj 18446744073709551616 a
def Ko(a:AsP):Option (Int) :=(P2 a).bind fun b=>if(!b)then some 10 else ((Lu a).bind fun c=>if(decide (c>16))then some true else (LA a).bind fun d=>some (decide ((d.length:Int)>65536)):Option (Bool)).bind fun e=>if e then some 2 else some 0
def GZ(a:AsP):Option (List UInt8×Int) :=(Ko a).bind fun b=>if(b != 0)then some ([],b) else (LA a).bind fun c=>some (c,0)
def LY(b:AsM):Option (List UInt8×Int) :=(K8 b).bind fun c=>(FS c).bind fun d=>(GZ d).bind fun a=>some (a.1,a.2)
def Fz(c:UInt64)(a:Int)(b:List UInt8):Option ((Int×List UInt8)⊕(List UInt8)) :=if (decide (a≥0))then if Cb a then if Cj (b.length+1) 1 then lt1 (b++([(CY c a.toNat).toUInt8]:List UInt8)) fun(d:List UInt8)=>some (.inl ((w64 (a-8)),d)) else none else none else some (.inr b)
def Ie(a:UInt64):Option (List UInt8) :=((Ax (fun(v:Int×List UInt8)=>Fz a v.1 v.2) (56,[])).bind fun b=>some b:Option (List UInt8)).bind fun c=>some c
def K2(a:List UInt8)(c:List UInt8):Option (List UInt8) :=if InB (Mo (a.length:Int) 255) a.length then lt1 (a.take ((Mo (a.length:Int) 255).toNat)) fun(b:List UInt8)=>lt1 ([(UInt8.ofInt (b.length:Int))]:List UInt8) fun(d:List UInt8)=>if Cj (d.length+b.length) 1 then lt1 (d++b) fun(e:List UInt8)=>if Cj (e.length+c.length) 1 then lt1 (e++c) fun(f:List UInt8)=>some f else none else none else none
def F7(a:List UInt8):Option ((List UInt8)⊕(List UInt8)) :=if((((a.length:Int):Int).tmod 64) != 56)then if Cj (a.length+1) 1 then lt1 (a++([(0:UInt8)]:List UInt8)) fun(b:List UInt8)=>some (.inl b) else none else some (.inr a)
def CN(c:UInt64)(a:Int)(b:List UInt8):Option ((Int×List UInt8)⊕(List UInt8)) :=if (decide (a<8))then if Cb (w64 (56-(w64 (8*a))))then if Cj (b.length+1) 1 then lt1 (b++([(CY c ((w64 (56-(w64 (8*a)))).toNat)).toUInt8]:List UInt8)) fun(d:List UInt8)=>some (.inl ((w64 (a+1)),d)) else none else none else some (.inr b)
def I7(a:List UInt8):Option (List UInt8) :=lt1 ([]:List UInt8) fun(b:List UInt8)=>if Cj (b.length+a.length) 1 then lt1 (b++a) fun(c:List UInt8)=>if Cj (c.length+1) 1 then lt1 (c++([(128:UInt8)]:List UInt8)) fun(d:List UInt8)=>((Ax (fun(v:List UInt8)=>F7 v) d).bind fun e=>some e:Option (List UInt8)).bind fun f=>lt1 ((UInt64.ofInt (a.length:Int))*(8:UInt64)) fun(g:UInt64)=>((Ax (fun(v:Int×List UInt8)=>CN g v.1 v.2) (0,f)).bind fun i=>some i:Option (List UInt8)).bind fun j=>some j else none else none
def BS(b:UInt32)(a:Int):Option (UInt32) :=if Cb a then if Cb (w64 (32-a))then lt1 ((NN b a.toNat) ||| (ND b ((w64 (32-a)).toNat))) fun(c:UInt32)=>some c else none else none
def Er(b:List UInt8)(a:Int)(c:Arr UInt32 64):Option ((Int×Arr UInt32 64)⊕(Arr UInt32 64)) :=if (decide (a<16))then if InR (w64 (4*a)) b.length then if InR (w64 ((w64 (4*a))+1)) b.length then if InR (w64 ((w64 (4*a))+2)) b.length then if InR (w64 ((w64 (4*a))+3)) b.length then if InR a 64 then lt1 (c.set a.toNat ((((ND ((nth b ((w64 (4*a)).toNat)).toUInt32) (24:UInt64).toNat) ||| (ND ((nth b ((w64 ((w64 (4*a))+1)).toNat)).toUInt32) (16:UInt64).toNat)) ||| (ND ((nth b ((w64 ((w64 (4*a))+2)).toNat)).toUInt32) (8:UInt64).toNat)) ||| (nth b ((w64 ((w64 (4*a))+3)).toNat)).toUInt32)) fun(d:Arr UInt32 64)=>some (.inl ((w64 (a+1)),d)) else none else none else none else none else none else some (.inr c)
def Dz(a : Int)(b:Arr UInt32 64):Option ((Int×Arr UInt32 64)⊕(Arr UInt32 64)) :=if (decide (a<64))then if InR (w64 (a-15)) 64 then (BS (b.get ((w64 (a-15)).toNat)) 7).bind fun c=>if InR (w64 (a-15)) 64 then (BS (b.get ((w64 (a-15)).toNat)) 18).bind fun d=>if InR (w64 (a-15)) 64 then lt1 ((c ^^^ d) ^^^ (NN (b.get ((w64 (a-15)).toNat)) (3:UInt64).toNat)) fun(s0_13437:UInt32)=>if InR (w64 (a-2)) 64 then (BS (b.get ((w64 (a-2)).toNat)) 17).bind fun e=>if InR (w64 (a-2)) 64 then (BS (b.get ((w64 (a-2)).toNat)) 19).bind fun f=>if InR (w64 (a-2)) 64 then lt1 ((e ^^^ f) ^^^ (NN (b.get ((w64 (a-2)).toNat)) (10:UInt64).toNat)) fun(s1_13446:UInt32)=>if InR (w64 (a-16)) 64 then if InR (w64 (a-7)) 64 then if InR a 64 then lt1 (b.set a.toNat ((((b.get ((w64 (a-16)).toNat))+s0_13437)+(b.get ((w64 (a-7)).toNat)))+s1_13446)) fun(g:Arr UInt32 64)=>some (.inl ((w64 (a+1)),g)) else none else none else none else none else none else none else none else none else none else some (.inr b)
def G3(a:List UInt8):Option (Arr UInt32 64) :=lt1 (⟨[(0:UInt32),0,0,0,0,0,0,0,0,0,0,0,0,0,0,0,0,0,0,0,0,0,0,0,0,0,0,0,0,0,0,0,0,0,0,0,0,0,0,0,0,0,0,0,0,0,0,0,0,0,0,0,0,0,0,0,0,0,0,0,0,0,0,0],rfl⟩:Arr UInt32 64) fun(b:Arr UInt32 64)=>((Ax (fun(v:Int×Arr UInt32 64)=>Er a v.1 v.2) (0,b)).bind fun c=>some c:Option (Arr UInt32 64)).bind fun d=>((Ax (fun(v:Int×Arr UInt32 64)=>Dz v.1 v.2) (16,d)).bind fun e=>some e:Option (Arr UInt32 64)).bind fun f=>some f
def r02_constants  : Option (Arr UInt32 64) :=lt1 (⟨[(1116352408:UInt32),1899447441,3049323471,3921009573,961987163,1508970993,2453635748,2870763221,3624381080,310598401,607225278,1426881987,1925078388,2162078206,2614888103,3248222580,3835390401,4022224774,264347078,604807628,770255983,1249150122,1555081692,1996064986,2554220882,2821834349,2952996808,3210313671,3336571891,3584528711,113926993,338241895,666307205,773529912,1294757372,1396182291,1695183700,1986661051,2177026350,2456956037,2730485921,2820302411,3259730800,3345764771,3516065817,3600352804,4094571909,275423344,430227734,506948616,659060556,883997877,958139571,1322822218,1537002063,1747873779,1955562222,2024104815,2227730452,2361852424,2428436474,2756734187,3204031479,3329325298],rfl⟩:Arr UInt32 64) fun(a:Arr UInt32 64)=>some a
def Ft(c:Arr UInt32 64)(d:Arr UInt32 64)(b:Int)(a:Arr UInt32 8):Option ((Int×Arr UInt32 8)⊕(Arr UInt32 8)) :=if (decide (b<64))then (BS (a.get 4) 6).bind fun e=>(BS (a.get 4) 11).bind fun f=>(BS (a.get 4) 25).bind fun g=>lt1 ((e ^^^ f) ^^^ g) fun(s1_13750:UInt32)=>lt1 (((a.get 4) &&& (a.get 5)) ^^^ ((~~~(a.get 4)) &&& (a.get 6))) fun(i:UInt32)=>if InR b 64 then if InR b 64 then lt1 (((((a.get 7)+s1_13750)+i)+(d.get b.toNat))+(c.get b.toNat)) fun(t1_13761:UInt32)=>(BS (a.get 0) 2).bind fun j=>(BS (a.get 0) 13).bind fun k=>(BS (a.get 0) 22).bind fun l=>lt1 ((j ^^^ k) ^^^ l) fun(s0_13772:UInt32)=>lt1 ((((a.get 0) &&& (a.get 1)) ^^^ ((a.get 0) &&& (a.get 2))) ^^^ ((a.get 1) &&& (a.get 2))) fun(m:UInt32)=>lt1 (s0_13772+m) fun(t2_13782:UInt32)=>lt1 (⟨[(t1_13761+t2_13782),(a.get 0),(a.get 1),(a.get 2),((a.get 3)+t1_13761),(a.get 4),(a.get 5),(a.get 6)],rfl⟩:Arr UInt32 8) fun(n:Arr UInt32 8)=>some (.inl ((w64 (b+1)),n)) else none else none else some (.inr a)
def GE(c:Arr UInt32 8)(a:Int)(b:Arr UInt32 8):Option ((Int×Arr UInt32 8)⊕(Arr UInt32 8)) :=if (decide (a<8))then if InR a 8 then if InR a 8 then if InR a 8 then lt1 (b.set a.toNat ((b.get a.toNat)+(c.get a.toNat))) fun(d:Arr UInt32 8)=>some (.inl ((w64 (a+1)),d)) else none else none else none else some (.inr b)
def Kp(a:Arr UInt32 8)(b:List UInt8):Option (Arr UInt32 8) :=(G3 b).bind fun c=>r02_constants.bind fun d=>((Ax (fun(v:Int×Arr UInt32 8)=>Ft c d v.1 v.2) (0,a)).bind fun e=>some e:Option (Arr UInt32 8)).bind fun f=>((Ax (fun(v:Int×Arr UInt32 8)=>GE f v.1 v.2) (0,a)).bind fun g=>some g:Option (Arr UInt32 8)).bind fun i=>some i
def EI(b:List UInt8)(a:Int)(c:Arr UInt32 8):Option ((Int×Arr UInt32 8)⊕(Arr UInt32 8)) :=if (decide (a<(b.length:Int)))then if InB (w64 (a+64)) b.length then if InB a ((w64 (a+64)).toNat)then (Kp c ((b.drop a.toNat).take ((w64 (a+64)).toNat-a.toNat))).bind fun d=>some (.inl ((w64 (a+64)),d)) else none else none else some (.inr c)
def I5(c:Arr UInt32 8)(a:Int)(b:Arr UInt8 32):Option ((Int×Arr UInt8 32)⊕(Arr UInt8 32)) :=if (decide (a<32))then if InR (w64 ((a:Int).tdiv 4)) 8 then if Cb (w64 (24-(w64 (8*((a:Int).tmod 4)))))then if InR a 32 then lt1 (b.set a.toNat ((NN (c.get ((w64 ((a:Int).tdiv 4)).toNat)) ((w64 (24-(w64 (8*((a:Int).tmod 4))))).toNat)).toUInt8)) fun(d:Arr UInt8 32)=>some (.inl ((w64 (a+1)),d)) else none else none else none else some (.inr b)
def Ld(a:List UInt8):Option (Arr UInt8 32) :=lt1 (⟨[(1779033703:UInt32),3144134277,1013904242,2773480762,1359893119,2600822924,528734635,1541459225],rfl⟩:Arr UInt32 8) fun(b:Arr UInt32 8)=>(I7 a).bind fun c=>((Ax (fun(v:Int×Arr UInt32 8)=>EI c v.1 v.2) (0,b)).bind fun d=>some d:Option (Arr UInt32 8)).bind fun e=>lt1 (⟨[(0:UInt8),0,0,0,0,0,0,0,0,0,0,0,0,0,0,0,0,0,0,0,0,0,0,0,0,0,0,0,0,0,0,0],rfl⟩:Arr UInt8 32) fun(f:Arr UInt8 32)=>((Ax (fun(v:Int×Arr UInt8 32)=>I5 e v.1 v.2) (0,f)).bind fun g=>some g:Option (Arr UInt8 32)).bind fun i=>some i
def Hb(a:List UInt8)(b:List UInt8):Option (Arr UInt8 32) :=(K2 a b).bind fun c=>(Ld c).bind fun d=>some d
def FW(c:Arr UInt8 32)(b:UInt64)(a:Int):Option ((UInt64×Int)⊕(UInt64)) :=if(decide (a<8))then if InR a 32 then lt1 ((Jp b (8:UInt64).toNat) ||| (c.get a.toNat).toUInt64) fun(d:UInt64)=>some (.inl (d,(w64 (a+1)))) else none else some (.inr b)
def Iz(a:Arr UInt8 32):Option (UInt64) :=((Ax (fun(v:UInt64×Int)=>FW a v.1 v.2) ((0:UInt64),0)).bind fun b=>some b:Option (UInt64)).bind fun c=>some c
def FJ(e:UInt64)(f:UInt64)(a:List UInt8):Option (UInt64) :=(Ie e).bind fun b=>(Ie f).bind fun c=>if Cj (b.length+c.length) 1 then lt1 (b++c) fun(d:List UInt8)=>if Cj (d.length+a.length) 1 then lt1 (d++a) fun(g:List UInt8)=>(Hb ([99,104,97,108,108,101,110,103,101]:List UInt8) g).bind fun i=>(Iz i).bind fun j=>some (j%(1152921504606845399:UInt64)) else none else none
def Ih(b:UInt64)(c:List UInt8)(a:AsL):Option (Bool) :=(if(decide ((c.length:Int)>65536))then some true else if(decide (a.C≥(1152921504606845399:UInt64)))then some true else if(decide (a.S≥(1152921504606845399:UInt64)))then some true else (GF b).bind fun d=>some (!d):Option (Bool)).bind fun e=>if e then some false else (Jk (4:UInt64) a.S).bind fun f=>(Jk b ((1152921504606845399:UInt64)-a.C)).bind fun g=>(H4 f g (2305843009213690799:UInt64)).bind fun i=>(FJ i b c).bind fun j=>some (j==a.C)
def IG(b:AsH)(a:AsM):Option (Int) :=(EG b).bind fun d=>if(d != 0)then some d else (if(decide (a.Zb<0))then some true else if(decide (a.Zb≥(b.Zk1.length:Int)))then some true else if(decide (a.No<1))then some true else if(decide (a.No>4096))then some true else if(decide (a.Zw1<0))then some true else if(decide (a.Zw1>1073741824))then some true else if(decide (a.Sig.C≥(1152921504606845399:UInt64)))then some true else some (decide (a.Sig.S≥(1152921504606845399:UInt64))):Option (Bool)).bind fun e=>if e then some 1 else (Hz b a.Zx1).bind fun f=>if(!f)then some 110 else (LY a).bind fun c=>if(c.2 != 0)then some c.2 else if InR a.Zb b.Zk1.length then (Ih ((nth b.Zk1 a.Zb.toNat).Key) c.1 a.Sig).bind fun g=>if(!g)then some 31 else some 0 else none
def Ph(b:AsO)(a:Int):Option (List AsM) :=(if(decide (a<0))then some true else some (decide (a≥(b.Zy1.length:Int))):Option (Bool)).bind fun c=>if c then some ([]) else if InR a b.Zy1.length then some (nth b.Zy1 a.toNat) else none
def Fc(c:UInt64)(a:Int)(b:List UInt8):Option ((Int×List UInt8)⊕(List UInt8)) :=if (decide (a<8))then if Cb (w64 (56-(w64 (8*a))))then if Cj (b.length+1) 1 then lt1 (b++([(CY c ((w64 (56-(w64 (8*a)))).toNat)).toUInt8]:List UInt8)) fun(d:List UInt8)=>some (.inl ((w64 (a+1)),d)) else none else none else some (.inr b)
def K1(a:UInt64):Option (AsP) :=lt1 ([]:List UInt8) fun(b:List UInt8)=>((Ax (fun(v:Int×List UInt8)=>Fc a v.1 v.2) (0,b)).bind fun c=>some c:Option (List UInt8)).bind fun d=>some (AsP.mk 2 0 d ([]))
def JP(a:AsM):Option (AsP) :=(K1 a.Sig.C).bind fun c=>(K1 a.Sig.S).bind fun d=>(FS ([c,d]:List AsP)).bind fun e=>(K8 a).bind fun b=>if Cj (b.length+1) 64 then (FS (b++([e]:List AsP))).bind fun f=>some f else none
def Ig(b:AsM):Option (List UInt8×Int) :=(JP b).bind fun c=>(GZ c).bind fun a=>some (a.1,a.2)
def IF(b:AsM):Option (Arr UInt8 32×Int) :=(Ig b).bind fun a=>if(a.2 != 0)then lt1 (⟨[(0:UInt8),0,0,0,0,0,0,0,0,0,0,0,0,0,0,0,0,0,0,0,0,0,0,0,0,0,0,0,0,0,0,0],rfl⟩:Arr UInt8 32) fun(c:Arr UInt8 32)=>some (c,a.2) else (Hb ([114,101,99,111,114,100]:List UInt8) a.1).bind fun d=>some (d,0)
def Im(b:List AsM)(a:AsM):Option (Int) :=(if(decide (a.No<1))then some true else some (decide (a.No>(w64 ((b.length:Int)+1)))):Option (Bool)).bind fun e=>if e then some 140 else lt1 (⟨[(0:UInt8),0,0,0,0,0,0,0,0,0,0,0,0,0,0,0,0,0,0,0,0,0,0,0,0,0,0,0,0,0,0,0],rfl⟩:Arr UInt8 32) fun(f:Arr UInt8 32)=>(if(decide (a.No>1))then if InR (w64 (a.No-2)) b.length then lt1 ((nth b ((w64 (a.No-2)).toNat)).Zb) fun(g:Int)=>lt1 ((nth b ((w64 (a.No-2)).toNat)).No) fun(i:Int)=>lt1 ((nth b ((w64 (a.No-2)).toNat)).Zv1) fun(j:Arr UInt8 32)=>lt1 ((nth b ((w64 (a.No-2)).toNat)).Zw1) fun(c:Int)=>lt1 (((nth b ((w64 (a.No-2)).toNat)).Zx1).Za) fun(k:Int)=>lt1 ((((nth b ((w64 (a.No-2)).toNat)).Zx1).Ref).Zb) fun(l:Int)=>lt1 ((((nth b ((w64 (a.No-2)).toNat)).Zx1).Ref).No) fun(m:Int)=>lt1 (((nth b ((w64 (a.No-2)).toNat)).Zx1).Zn1) fun(n:Int)=>lt1 (((nth b ((w64 (a.No-2)).toNat)).Zx1).Zb1) fun(o:Int)=>lt1 (((nth b ((w64 (a.No-2)).toNat)).Zx1).Zc) fun(p:Int)=>lt1 (((nth b ((w64 (a.No-2)).toNat)).Zx1).Zo1) fun(q:Int)=>lt1 (((nth b ((w64 (a.No-2)).toNat)).Zx1).Zw) fun(s:Int)=>lt1 (((nth b ((w64 (a.No-2)).toNat)).Zx1).To) fun(t:Int)=>lt1 (((nth b ((w64 (a.No-2)).toNat)).Zx1).Code) fun(u:Int)=>lt1 (((nth b ((w64 (a.No-2)).toNat)).Zx1).Zp1) fun(v:Int)=>lt1 (((nth b ((w64 (a.No-2)).toNat)).Zx1).Zq1) fun(w:Int)=>lt1 (((nth b ((w64 (a.No-2)).toNat)).Zx1).Zr1) fun(y:Int)=>lt1 (((nth b ((w64 (a.No-2)).toNat)).Zx1).Zs1) fun(aa:Int)=>lt1 (((nth b ((w64 (a.No-2)).toNat)).Zx1).Zt1) fun(ab:List UInt8)=>lt1 (((nth b ((w64 (a.No-2)).toNat)).Zx1).Zu1) fun(ac:List AsJ)=>lt1 (((nth b ((w64 (a.No-2)).toNat)).Sig).C) fun(ad:UInt64)=>lt1 (((nth b ((w64 (a.No-2)).toNat)).Sig).S) fun(ae:UInt64)=>(IF ({ Zb:=g,No:=i,Zv1:=j,Zw1:=c,Zx1:=({ Za:=k,Ref:=({ Zb:=l,No:=m }:AsI),Zn1:=n,Zb1:=o,Zc:=p,Zo1:=q,Zw:=s,To:=t,Code:=u,Zp1:=v,Zq1:=w,Zr1:=y,Zs1:=aa,Zt1:=ab,Zu1:=ac }:AsK),Sig:=({ C:=ad,S:=ae }:AsL) }:AsM)).bind fun d=>(if(d.2 != 0)then some true else some (decide (a.Zw1<c)):Option (Bool)).bind fun af=>if af then (some 140).bind fun ag=>some (.inr ag) else some (.inl d.1) else none else some (.inl f):Option ((Arr UInt8 32)⊕(Int))).bind fun x=>match x with
  | .inl ah=>if(!(a.Zv1==ah))then some 140 else lt1 ((a.Zx1.Ref.Zb==0)&&(a.Zx1.Ref.No==0)) fun(ai:Bool)=>if ai then some 0 else (if(a.Zx1.Ref.Zb != a.Zb)then some true else if(decide (a.Zx1.Ref.No<1))then some true else if(decide (a.Zx1.Ref.No≥a.No))then some true else if InR (w64 (a.Zx1.Ref.No-1)) b.length then some (!(((((nth b ((w64 (a.Zx1.Ref.No-1)).toNat)).Zx1).Ref).Zb==0)&&((((nth b ((w64 (a.Zx1.Ref.No-1)).toNat)).Zx1).Ref).No==0))) else none:Option (Bool)).bind fun aj=>if aj then some 110 else some 0
  |.inr z=>some z
def Fl(b:List (List AsM))(f:AsM)(g:Int)(a:Int)(c:List (List AsM)):Option ((Int×List (List AsM))⊕(List (List AsM))) :=(if(decide (a<(b.length:Int)))then some true else some (decide (a<g)):Option (Bool)).bind fun i=>if i then lt1 ([]:List AsM) fun(d:List AsM)=>(if(decide (a<(b.length:Int)))then if InR a b.length then if Cj (d.length+(nth b a.toNat).length) 224 then lt1 (d++(nth b a.toNat)) fun(j:List AsM)=>some j else none else none else some d:Option (List AsM)).bind fun e=>(if(a==f.Zb)then if Cj (e.length+1) 224 then lt1 (e++([f]:List AsM)) fun(k:List AsM)=>some k else none else some e:Option (List AsM)).bind fun l=>if Cj (c.length+1) 24 then lt1 (c++([l]:List (List AsM))) fun(m:List (List AsM))=>some (.inl ((w64 (a+1)),m)) else none else some (.inr c)
def K9(a:List (List AsM))(b:AsM)(c:Int):Option (List (List AsM)) :=lt1 ([]:List (List AsM)) fun(d:List (List AsM))=>((Ax (fun(v:Int×List (List AsM))=>Fl a b c v.1 v.2) (0,d)).bind fun e=>some e:Option (List (List AsM))).bind fun f=>some f
def Fu(b:List AsN)(c:AsM)(a:Int):Option ((Int)⊕((Unit)⊕((Unit)⊕(Bool)))) :=if (decide (a<(b.length:Int)))then (if InR a b.length then if(((nth b a.toNat).A).Zb==c.Zb)then if InR a b.length then some (((nth b a.toNat).A).No==c.No) else none else some false else none:Option (Bool)).bind fun d=>if d then ((some true).bind fun e=>some (.inr e)).bind fun f=>some (.inr (.inr f)) else some (.inl (w64 (a+1))) else some (.inr (.inl ()))
def J8(a:List AsN)(b:AsM):Option (Bool) :=((Ax (fun(v:Int)=>Fu a b v) 0).bind fun x=>match x with
 |.inl ()=>some (.inl ())
 |.inr z=>some z:Option ((Unit)⊕(Bool))).bind fun x=>match x with
 |.inl ()=>some false
 |.inr z=>some z
def IB(d:AsH)(b:AsO)(a:AsM):Option (AsO×Int) :=(IG d a).bind fun e=>if(e != 0)then some (({ Zy1:=[],Zz1:=[] }:AsO),e) else (Ph b a.Zb).bind fun c=>(if(decide (a.No≤(c.length:Int)))then if InR (w64 (a.No-1)) c.length then (Cu (nth c ((w64 (a.No-1)).toNat)) a).bind fun i=>some i else none else some false:Option (Bool)).bind fun j=>if j then some (b,0) else (Im c a).bind fun f=>if(f != 0)then some (({ Zy1:=[],Zz1:=[] }:AsO),f) else if(a.No==(w64 ((c.length:Int)+1)))then (K9 b.Zy1 a (d.Zk1.length:Int)).bind fun k=>some (({ Zy1:=k,Zz1:=b.Zz1 }:AsO),0) else (J8 b.Zz1 a).bind fun l=>if l then some (b,0) else if Cj (0+b.Zz1.length) 448 then lt1 (([]:List AsN)++b.Zz1) fun(g:List AsN)=>if InR (w64 (a.No-1)) c.length then if Cj (g.length+1) 448 then lt1 (g++([({ A:=nth c ((w64 (a.No-1)).toNat),B:=a }:AsN)]:List AsN)) fun(m:List AsN)=>some (({ Zy1:=b.Zy1,Zz1:=m }:AsO),0) else none else none else none
def Be(a:AsH)(b:AsO)(c:AsM):Option (Bool) :=law14_sane.bind fun f=>if(!f)then some false else ((Ii a).bind fun g=>if(!g)then some true else (Gu b).bind fun i=>if(!i)then some true else (DE c.Zx1).bind fun j=>some (!j):Option (Bool)).bind fun k=>if k then some true else (Bk a b c).bind fun d=>(IB a b c).bind fun e=>(if(d.2==e.2)then (EY d.1 e.1).bind fun l=>some l else some false:Option (Bool)).bind fun m=>some m
set_option maxRecDepth 4000
variable{α X:Type}
theorem AD{β:Type}(x:α)(f:α→Option β):lt1 x f=f x:=Avx (eq_self (f x))
theorem CG{k:Nat}(h:k<9223372036854775807):w64 ((k:Int)+1)=((k+1:Nat):Int):=by rw[AE (by omega)];rfl
theorem Ib(b c:Bool):(if b then some true else some c)=some (b||c):=by cases b<;>rfl
theorem Eb(b c:Bool):(if b then some c else some false)=some (b&&c):=by cases b<;>rfl
theorem A2{β:Type}(x:α)(f:α→Option β):(some x).bind f=f x:=Avx (eq_self (f x))
theorem Pj(b:Bool)(x y:α):(if b then some x else some y)=some (if b then x else y):=by cases b<;>rfl
theorem C2[Inhabited α](l:List α)(f:Int→Option (Int⊕X))(p:α→Bool)(good bad:X)(hl:l.length<1152921504606846976) (hs:∀k:Nat,k<l.length→f (k:Int)=some (if p (nth l k)=true then .inl ((k+1:Nat):Int)else .inr bad)) (he:f (l.length:Int)=some (.inr good)) :Ax (fun v=>f v) 0=some (if l.all p=true then good else bad):=by
 obtain⟨x,hx,hq⟩:∃x,Ax (fun v=>f v) 0=some x∧x=(if l.all p=true then good else bad):=by
  refine BF (fun v=>∃k:Nat,v=(k:Int)∧k≤l.length∧(l.take k).all p=true) (fun v=>(l.length-v).toNat) _ ?_ ⟨0,rfl,Atp _,rfl⟩ (by simp;omega);rintro v ⟨k,rfl,hk,ht⟩;by_cases h1:k<l.length
  ·have hn:nth l k=l[k]:=by simp[nth,h1]
   rw[hs k h1];by_cases hp:p (nth l k)=true
   ·left;refine⟨_,by rw[AsU hp],⟨k+1,rfl,by omega,?_⟩,by omega⟩;rw[Aty h1,List.all_append,ht,←hn];simp[hp]
   ·right;refine⟨_,by rw[AsX hp],?_⟩;rw[AsX];intro ha;rw[Atc]at ha;exact hp (by rw[hn];exact ha _ (AtL h1))
  ·right;have:k=l.length:=by omega
   subst this;rw[AtP]at ht;exact⟨_,he,by rw[AsU ht]⟩
 rw[hx,hq]
theorem E6{V S:Type}[Inhabited α](l:List α)(f:V→Option (V⊕X))(st:Int→S→V)(g:S→α→S)(out:S→X)(s0:S)(hl:l.length<1152921504606846976) (hs:∀(k:Nat) (s:S),k<l.length→f (st (k:Int) s)=some (.inl (st ((k+1:Nat):Int) (g s (nth l k))))) (he:∀s,f (st (l.length:Int) s)=some (.inr (out s))) :Ax f (st 0 s0)=some (out (l.foldl g s0)):=by
 obtain⟨x,hx,hq⟩:∃x,Ax f (st 0 s0)=some x∧x=out (l.foldl g s0):=by
  refine Bm l.length (fun k v=>v=st (k:Int) ((l.take k).foldl g s0)) _ (by omega) ?_ ?_ rfl
  ·rintro k v hk rfl;refine⟨_,hs k _ hk,?_⟩;rw[Aty hk,Avn];simp[nth,hk]
  ·rintro v rfl;exact⟨_,he _,by rw[AtP]⟩
 rw[hx,hq]
theorem NX{V S:Type}(n:Nat)(f:V→Option (V⊕X))(st:Int→S→V)(F:Nat→S)(out:S→X)(hn:n<1152921504606846976) (hs:∀k:Nat,k<n→f (st (k:Int) (F k))=some (.inl (st ((k+1:Nat):Int) (F (k+1))))) (he:f (st (n:Int) (F n))=some (.inr (out (F n)))) :Ax f (st 0 (F 0))=some (out (F n)):=by
 obtain⟨x,hx,hq⟩:∃x,Ax f (st 0 (F 0))=some x∧x=out (F n):=by
  refine Bm n (fun k v=>v=st (k:Int) (F k)) _ (by omega) ?_ ?_ rfl
  ·rintro k v hk rfl;exact⟨_,hs k hk,rfl⟩
  ·rintro v rfl;exact⟨_,he,rfl⟩
 rw[hx,hq]
theorem PI[Inhabited α][DecidableEq α](a b:List α)(f:Int→Option (Int⊕(Unit⊕(Unit⊕Bool))))(hl:a.length=b.length)(hb:a.length<1152921504606846976) (hs:∀k:Nat,k<a.length→f (k:Int)=some (if nth a k=nth b k then .inl ((k+1:Nat):Int)else .inr (.inr (.inr false)))) (he:f (a.length:Int)=some (.inr (.inl ()))) :Ax (fun v=>f v) 0=some (if a=b then .inl ()else .inr (.inr false)):=by
 obtain⟨x,hx,hq⟩:∃x,Ax (fun v=>f v) 0=some x∧x=(if a=b then .inl ()else .inr (.inr false)):=by
  refine BF (fun v=>∃k:Nat,v=(k:Int)∧k≤a.length∧a.take k=b.take k) (fun v=>(a.length-v).toNat) _ ?_ ⟨0,rfl,Atp _,rfl⟩ (by simp;omega);rintro v ⟨k,rfl,hk,ht⟩;by_cases h1:k<a.length
  ·have h2:k<b.length:=by omega
   rw[hs k h1];have ea:a.take (k+1)=a.take k++[nth a k]:=by rw[Avb,AsZ h1];simp[nth,AsZ h1]
   have eb:b.take (k+1)=b.take k++[nth b k]:=by rw[Avb,AsZ h2];simp[nth,AsZ h2]
   by_cases hk':nth a k=nth b k
   ·left;exact⟨_,by rw[AsU hk'],⟨k+1,rfl,by omega,by rw[ea,eb,ht,hk']⟩,by omega⟩
   ·right;refine⟨_,by rw[AsX hk'],?_⟩;rw[AsX (fun h=>hk' (by rw[h]))]
  ·right;have:k=a.length:=by omega
   subst this;refine⟨_,he,?_⟩;rw[AtP,Aut (by omega)]at ht;rw[AsU ht]
 rw[hx,hq]
theorem Ai6(x y:AsJ):(!((x.Za==y.Za)&&((x.Zl1==y.Zl1)&&(x.Zm1==y.Zm1))))=decide (x≠y):=by
 by_cases h:x=y
 ·subst h;simp
 ·rw[As9 h];rcases x with⟨a,b,c⟩
  rcases y with⟨d,e,f⟩
  simp only[AsJ.mk.injEq,not_and]at h;simp only[Aum,Auj,AuV,ne_eq];by_cases h1:a=d
  ·by_cases h2:b=e
   ·exact .inr (.inr (by simpa using h h1 h2))
   ·exact .inr (.inl h2)
  ·exact .inl h1
theorem Aa0{a b:List AsJ}(ha:a.length≤1000000):FP a b=some (decide (a=b)):=by
 unfold FP;by_cases hl:a.length=b.length
 ·rw[AsX (by simp[hl]),PI a b (fun v=>CZ a b v) hl (by omega) ?_ ?_]
  ·by_cases h:a=b<;>simp[h]
  ·intro k hk;unfold CZ;rw[AsU (As9 (by omega)),AsU (A9 hk),AsU (A9 (by omega))];simp only[AD,As1,Ai6];by_cases he:nth a k=nth b k
   ·rw[AsX (by simp[he]),AsU he,CG (by omega)]
   ·rw[AsU (by simp[he]),AsX he];rfl
  ·unfold CZ;rw[AsX (by simp)]
 ·rw[AsU (by simp;omega),Atx (fun h=>hl (by rw[h]))]
def QA(it:AsK):List Int:=[it.Zn1,it.Zb1,it.Zc,it.Zo1,it.Zw,it.To,it.Code,it.Zp1,it.Zq1,it.Zr1,it.Zs1]
theorem Y8(it:AsK):∀{k:Nat},k<11→BG it (nth [119,112,111,110,102,116,99,100,107,103,97] k)=some (nth (QA it) k)
 |0,_=>rfl
 |1,_=>rfl
 |2,_=>rfl
 |3,_=>rfl
 |4,_=>rfl
 |5,_=>rfl
 |6,_=>rfl
 |7,_=>rfl
 |8,_=>rfl
 |9,_=>rfl
 |10,_=>rfl
 |k+11,h=>by omega
theorem Afb{a b:AsK}(h:QA a=QA b)(hk:a.Za=b.Za)(hr1:a.Ref.Zb=b.Ref.Zb)(hr2:a.Ref.No=b.Ref.No)(ht:a.Zt1=b.Zt1)(hp:a.Zu1=b.Zu1):a=b:=by
 rcases a with⟨k,⟨r,n⟩,a1,a2,a3,a4,a5,a6,a7,a8,a9,a10,a11,t,p⟩
 rcases b with⟨k',⟨r',n'⟩,b1,b2,b3,b4,b5,b6,b7,b8,b9,b10,b11,t',p'⟩
 simp only[QA,List.cons.injEq,Au9]at h;obtain⟨rfl,rfl,rfl,rfl,rfl,rfl,rfl,rfl,rfl,rfl,rfl⟩:=h;simp only at hk hr1 hr2 ht hp;subst hk hr1 hr2 ht hp;rfl
theorem AcA{a b:AsK}(ha:a.Zu1.length≤1000000):Mc a b=some (decide (a=b)):=by
 unfold Mc;have l11:∀it:AsK,(QA it).length=11:=fun _=>rfl
 rw[PI (QA a) (QA b) (fun v=>Gt a b v) rfl (by rw[l11];omega) ?_ ?_]
 ·by_cases hn:QA a=QA b
  ·simp only[AsU hn,AsY];by_cases h1:a.Za=b.Za
   ·by_cases h2:a.Ref.Zb=b.Ref.Zb
    ·by_cases h3:a.Ref.No=b.Ref.No
     ·by_cases h4:a.Zt1=b.Zt1
      ·rw[AsU (by simpa using h1),AsU (by simp[h2,h3]),AsU (by simpa using h4),Aa0 ha];by_cases h5:a.Zu1=b.Zu1
       ·rw[As9 h5,As9 (Afb hn h1 h2 h3 h4 h5)];rfl
       ·rw[Atx h5,Atx (fun h=>h5 (by rw[h]))];rfl
      ·rw[AsU (by simpa using h1),AsU (by simp[h2,h3]),AsX (by simpa using h4),Atx (fun h=>h4 (by rw[h]))];rfl
     ·rw[AsU (by simpa using h1),AsX (by simp[h3]),Atx (fun h=>h3 (by rw[h]))];rfl
    ·rw[AsU (by simpa using h1),AsX (by simp[h2]),Atx (fun h=>h2 (by rw[h]))];rfl
   ·rw[AsX (by simpa using h1),Atx (fun h=>h1 (by rw[h]))];rfl
  ·rw[Atx (fun h=>hn (by rw[h])),AsX hn];rfl
 ·intro k hk;rw[l11]at hk;unfold Gt;have hin:InR (k:Int) ([119,112,111,110,102,116,99,100,107,103,97]:List UInt8).length:=⟨by omega,by simpa using hk⟩;rw[AsU (As9 (by omega)),AsU hin];simp only[As1];rw[Y8 a hk,AsY,AsU hin,Y8 b hk,AsY];by_cases he:nth (QA a) k=nth (QA b) k
  ·rw[AsX (by simp[he]),AsU he,CG (by omega)]
  ·rw[AsU (by simpa using he),AsX he];rfl
 ·unfold Gt;rw[l11,AsX (by simp)]
theorem AbN{a b:AsM}(h1:a.Zb=b.Zb)(h2:a.No=b.No)(h3:a.Zv1=b.Zv1)(h4:a.Zw1=b.Zw1)(h5:a.Sig.C=b.Sig.C)(h6:a.Sig.S=b.Sig.S)(h7:a.Zx1=b.Zx1):a=b:=by
 rcases a with⟨a1,a2,a3,a4,a5,c,s⟩
 rcases b with⟨b1,b2,b3,b4,b5,c',s'⟩
 simp only at h1 h2 h3 h4 h5 h6 h7;subst h1 h2 h3 h4 h5 h6 h7;rfl
theorem NZ{a b:AsM}(ha:a.Zx1.Zu1.length≤1000000):Cu a b=some (decide (a=b)):=by
 unfold Cu;by_cases h1:a.Zb=b.Zb
 case neg=>rw[AsX (by simpa using h1),Atx (fun h=>h1 (by rw[h]))];rfl
 by_cases h2:a.No=b.No
 case neg=>rw[AsU (by simpa using h1),AsX (by simpa using h2),Atx (fun h=>h2 (by rw[h]))];rfl
 by_cases h3:a.Zv1=b.Zv1
 case neg=>rw[AsU (by simpa using h1),AsU (by simpa using h2),AsX (by simpa using h3),Atx (fun h=>h3 (by rw[h]))];rfl
 by_cases h4:a.Zw1=b.Zw1
 case neg=>rw[AsU (by simpa using h1),AsU (by simpa using h2),AsU (by simpa using h3),AsX (by simpa using h4),Atx (fun h=>h4 (by rw[h]))];rfl
 by_cases h5:a.Sig.C=b.Sig.C
 case neg=>rw[AsU (by simpa using h1),AsU (by simpa using h2),AsU (by simpa using h3),AsU (by simpa using h4),AsX (by simp[h5]),Atx (fun h=>h5 (by rw[h]))];rfl
 by_cases h6:a.Sig.S=b.Sig.S
 case neg=>rw[AsU (by simpa using h1),AsU (by simpa using h2),AsU (by simpa using h3),AsU (by simpa using h4),AsX (by simp[h6]),Atx (fun h=>h6 (by rw[h]))];rfl
 rw[AsU (by simpa using h1),AsU (by simpa using h2),AsU (by simpa using h3),AsU (by simpa using h4),AsU (by simp[h5,h6]),AcA ha];by_cases h7:a.Zx1=b.Zx1
 ·rw[As9 h7,As9 (AbN h1 h2 h3 h4 h5 h6 h7)];rfl
 ·rw[Atx h7,Atx (fun h=>h7 (by rw[h]))];rfl
theorem Ey[Inhabited α]{l:List α}{k:Nat}(h:k<l.length):nth l k∈l:=by
 simp[nth,AsZ h]
def SN(l:List AsM):Prop:=∀r∈l,r.Zx1.Zu1.length≤1000000
theorem AgP{a b:List AsM}(ha:a.length≤1000000)(hp:SN a):H0 a b=some (decide (a=b)):=by
 unfold H0;by_cases hl:a.length=b.length
 ·rw[AsX (by simp[hl]),PI a b (fun v=>DT a b v) hl (by omega) ?_ ?_]
  ·by_cases h:a=b<;>simp[h]
  ·intro k hk;unfold DT;rw[AsU (As9 (by omega)),AsU (A9 hk),AsU (A9 (by omega))];simp only[As1];rw[NZ (hp _ (Ey hk)),AsY];by_cases he:nth a k=nth b k
   ·rw[AsX (by simp[he]),AsU he,CG (by omega)]
   ·rw[AsU (by simp[he]),AsX he];rfl
  ·unfold DT;rw[AsX (by simp)]
 ·rw[AsU (by simp;omega),Atx (fun h=>hl (by rw[h]))]
def HB(it:AsK):Bool:=decide (it.Zt1.length≤1000)&&decide (it.Zu1.length≤20)
theorem SK(it:AsK):DE it=some (HB it):=by
 unfold DE HB;have e1:decide ((it.Zt1.length:Int)≤1000)=decide (it.Zt1.length≤1000):=by simp;omega
 have e2:decide ((it.Zu1.length:Int)≤20)=decide (it.Zu1.length≤20):=by simp;omega
 rw[e1,e2];by_cases h:it.Zt1.length≤1000<;>simp[h]
structure Small(it:AsK):Prop where
  text:it.Zt1.length≤1000
  parts:it.Zu1.length≤20
theorem NT{it:AsK}(h:HB it=true):Small it:=by
 simp only[HB,Ata,Atg]at h;exact⟨h.1,h.2⟩
def Ahd(l:List AsM):Bool:=decide (l.length≤12)&&l.all fun r=>HB r.Zx1
def VS(f:AsN):Bool:=HB f.A.Zx1&&HB f.B.Zx1
def LW(b:AsO):Bool:=decide (b.Zy1.length≤4)&&decide (b.Zz1.length≤6)&&b.Zy1.all Ahd&&b.Zz1.all VS
theorem AgM(b:AsO){i:Nat}(hi:i<b.Zy1.length)(hr:(nth b.Zy1 i).length≤12) :Ax (fun(v:Int)=>Dr b (i:Int) v) 0=some (if(nth b.Zy1 i).all (fun r=>HB r.Zx1)=true then .inl ()else .inr (.inr (.inr (.inr (.inr false))))):=by
 refine C2 (nth b.Zy1 i) (fun v=>Dr b (i:Int) v) (fun r=>HB r.Zx1) _ _ (by omega) (fun k hk=>?_) ?_
 ·unfold Dr;simp only[AsU (A9 hi),AD,As1,AsU (A9 hk),SK,AsY];rw[AsU (As9 (by omega))];by_cases h:HB (nth (nth b.Zy1 i) k).Zx1=true
  ·rw[AsX (by simp[h]),AsU h,CG (by omega)]
  ·rw[AsU (by simpa using h),AsX h]
 ·unfold Dr;simp only[AsU (A9 hi),AD,As1];rw[AsX (by simp)]
theorem AgH(b:AsO):Gu b=some (LW b):=by
 unfold Gu;by_cases h1:b.Zy1.length≤4
 case neg=>rw[AsU (by simp;omega)];simp[LW,h1]
 by_cases h2:b.Zz1.length≤6
 case neg=>rw[AsX (by simp;omega)];simp only[A2];rw[AsU (by simp;omega)];simp[LW,h2]
 rw[AsX (by simp;omega)];simp only[A2];rw[AsX (by simp;omega)];rw[C2 b.Zy1 (fun v=>DR b v) Ahd (.inl ()) (.inr (.inr false)) (by omega) ?_ ?_]
 ·by_cases h3:b.Zy1.all Ahd=true
  ·rw[AsU h3];simp only[A2];rw[C2 b.Zz1 (fun v=>DV b v) VS (.inl ()) (.inr (.inr false)) (by omega) ?_ ?_]
   ·by_cases h4:b.Zz1.all VS=true
    ·rw[AsU h4];simp[LW,h1,h2,h3,h4]
    ·rw[AsX h4];simp only[A2];rw[AuK]at h4;simp[LW,h4]
   ·intro k hk;unfold DV;rw[AsU (As9 (by omega))];simp only[AsU (A9 hk),As1,SK,A2];by_cases h5:HB (nth b.Zz1 k).A.Zx1=true
    ·by_cases h6:HB (nth b.Zz1 k).B.Zx1=true
     ·simp[h5,h6,VS,CG (k:=k) (by omega)]
     ·simp[h5,h6,VS]
    ·simp[h5,VS]
   ·unfold DV;rw[AsX (by simp)]
  ·rw[AsX h3];simp only[A2];rw[AuK]at h3;simp[LW,h3]
 ·intro k hk;unfold DR;rw[AsU (As9 (by omega))];simp only[AsU (A9 hk),As1,AD];by_cases h5:(nth b.Zy1 k).length≤12
  ·rw[AsX (by simp;omega),AgM b hk h5];by_cases h6:(nth b.Zy1 k).all (fun r=>HB r.Zx1)=true
   ·rw[AsU h6,AsU (by simp only[Ahd,h5,decide_true,AuU,h6])];simp only[A2];rw[CG (by omega)]
   ·rw[AsX h6,AsX (by simp only[Ahd,h5,decide_true,AuU];exact h6)];rfl
  ·rw[AsU (by simp;omega),AsX (by simp[Ahd,h5])];rfl
 ·unfold DR;rw[AsX (by simp)]
structure Short(b:AsO):Prop where
  logs:b.Zy1.length≤4
  forks:b.Zz1.length≤6
  row:∀l∈b.Zy1,l.length≤12
  item:∀l∈b.Zy1,∀r∈l,Small r.Zx1
  fork:∀f∈b.Zz1,Small f.A.Zx1∧Small f.B.Zx1
theorem AfA{b:AsO}(h:LW b=true):Short b:=by
 simp only[LW,Ata,Atg,Atc]at h;obtain⟨⟨⟨h1,h2⟩,h3⟩,h4⟩:=h;refine⟨h1,h2,fun l hl=>?_,fun l hl r hr=>?_,fun f hf=>?_⟩
 ·have:=h3 l hl;simp only[Ahd,Ata,Atg]at this;exact this.1
 ·have:=h3 l hl;simp only[Ahd,Ata,Atg,Atc]at this;exact NT (this.2 r hr)
 ·have:=h4 f hf;simp only[VS,Ata]at this;exact⟨NT this.1,NT this.2⟩
def I64(x:Int):Prop:=-9223372036854775808≤x∧x≤9223372036854775807
open Go.Rv Go.ChangeShapes Go.WideShapes Go.ChangeAt Go.RowKit
theorem YC(H:Type)(l:List (DataW H)):(l.map (Rows.uptoBulk (H:=H))).sum=Rows.uptoBulkAll l:=by
 induction l with
 |nil=>rfl
 |cons x l ih=>simp only[AuC,List.sum_cons,ih,Rows.uptoBulkAll]
theorem Bj:BulkOk (fun H=>Rows.uptoBulk (H:=H)) where
 one:=fun H d=>by
  cases d with
  |lit l=>cases l<;>simp[Rows.uptoBulk]
  |_=>simp[Rows.uptoBulk]
 str:=fun H l=>by simp[Rows.uptoBulk]
 slice:=fun H e s=>by rw[YC];simp only[Rows.uptoBulk];omega
 agg:=fun H p=>by rw[YC];simp only[Rows.uptoBulk];omega
theorem Abg{P:Program}{B:∀H:Type,DataW H→Nat}{t:TypeId}{α:Type}{c:α→List AV}{sz sz':α→Nat}{ok ok':α→Prop}(h:Opens P B t c sz ok)(h1:∀x,sz' x≤sz x)(h2:∀x,ok x→ok' x):Opens P B t c sz' ok':=by
 intro H enc W pr hpr fuel cs d ps hd;obtain⟨x,e1,e2,e3,e4⟩:=h H enc W pr hpr fuel cs d ps hd;exact⟨x,e1,AuL (h1 x) e2,h2 x e3,e4⟩
theorem LC{α:Type}{c:α→List AV}{k:Nat}(hk:∀x,(c x).length=k):∀(l:List α) (j:Nat) (y:AV),(l.flatMap c)[j]?=some y→∃i r x,j=i*k+r∧r<k∧l[i]?=some x∧(c x)[r]?=some y:=by
  intro l
  induction l with
  |nil=>intro j y h;simp at h
  | cons a l ih=>
    intro j y h;rw[List.flatMap_cons]at h;by_cases hj:j<k
    · rw[As3 (by rw[hk];exact hj)]at h
      exact⟨0,j,a,by omega,hj,rfl,h⟩
    · rw[As0 (by rw[hk];omega),hk]at h
      obtain⟨i,r,x,e1,e2,e3,e4⟩:=ih _ _ h;exact⟨i+1,r,x,by rw[Atn,AtI];omega,e2,by simpa using e3,e4⟩
theorem Y2{α:Type}{c:α→List AV}{k:Nat}(hk:∀x,(c x).length=k):∀l:List α,(l.flatMap c).length=l.length*k:=by
 intro l
 induction l with
 |nil=>simp
 |cons a l ih=>rw[List.flatMap_cons,Ate,hk,ih,Ati,Atn,AtI,Nat.add_comm]
theorem Ae8{α:Type}{c:α→List AV}{k n:Nat}(hk:∀x,(c x).length=k)(a:Arr α n):(a.l.flatMap c).length=n*k:=by rw[Y2 hk,a.h]
theorem AaT{P:Program}{B:∀H:Type,DataW H→Nat}{t e:TypeId}{n k m:Nat}(ht:P.underlying t=some (.array n e))(hn:P.cellsOf t=m)(h1:P.cellsOf e=k){α:Type}{c:α→List AV}{sz:α→Nat}{ok:α→Prop}(hck:∀x,(c x).length=k) (he:Opens P B e c sz ok) (hm:m=n*k:=by decide):Opens P B t (fun a:Arr α n=>a.l.flatMap c) (fun _=>0) (fun _=>True):=by
  subst hm;intro H enc W pr hpr fuel cs d ps h;cases fuel with
  |zero=>cases h
  | succ fuel=>
    unfold DataW.trod at h;rw[ht]at h;split at h<;>try (rename_i hh;cases hh;done)
    all_goals try (rename_i hh _;cases hh;done)
    all_goals try (cases h;done)
    all_goals try (exfalso;rename ∀(n':Nat) (e':TypeId),some (TypeDesc.array n e)=some (TypeDesc.array n' e')→False=>hh;exact hh _ _ rfl)
    rename_i cs _ _ n' e' hk;cases hk;split at h
    case isFalse=>cases h
    rename_i hl;rw[hn]at hl;rw[AsV]at h;obtain⟨xs,hxs,h⟩:=h;simp only[As4]at h;obtain⟨rfl,_⟩:=h;obtain⟨hlen,hget⟩:=Ml hxs;rw[Auu]at hlen
    have hex:∀i,i<n→∃x:α,∀(r:Nat) (y:AV),r<k→(c x)[r]?=some y→Rep W pr [] (cs.getD (i*k+r) undef) y∧one (cs.getD (i*k+r) undef)=true:=by
      intro i hi;obtain⟨i',hi',hf⟩:=hget i (xs[i]'(by omega)) (AsZ _);rw[Aui hi]at hi';cases hi';rw[h1]at hf;obtain⟨x,r1,r2,r3,r4⟩:=he H enc W pr hpr fuel _ _ _ hf;refine⟨x,fun r y hr hy=>?_⟩;have:=r4 r y hy
      have ed:((cs.drop (i*k)).take k).getD r undef=cs.getD (i*k+r) undef:=by
        simp only[As8,Ato,Atq,hr,AuA]
      rwa[ed]at this
    obtain⟨l,hll,hl2⟩:=IX _ n hex;refine⟨⟨l,hll⟩,?_,Atp _,trivial,fun j y hj=>?_⟩
    · show cs.length=(l.flatMap c).length
      rw[Y2 hck,hll,hl]
    · obtain⟨i,r,x,e1,e2,e3,e4⟩:=LC hck l j y hj
      subst e1;exact hl2 i x e3 r y e2 e4
theorem Xy:Tryz.prog.cellsOf 40=2:=by kernel_rfl
theorem WM:Tryz.prog.cellsOf 37=1:=by kernel_rfl
theorem W8:Tryz.prog.cellsOf 75=1:=by kernel_rfl
theorem II:Tryz.prog.cellsOf 52=53:=by kernel_rfl
theorem Ay:Tryz.prog.cellsOf 3=1:=by kernel_rfl
theorem Bq:Opens Tryz.prog (fun H=>Rows.uptoBulk (H:=H)) 3 H9 (fun _=>1) I64:=AcC Bj Tryz.underlying3
theorem O9:Tryz.prog.cellsOf 42=32:=by kernel_rfl
theorem Abo:Tryz.prog.cellsOf 5=1:=by kernel_rfl
theorem Aml:Opens Tryz.prog (fun H=>Rows.uptoBulk (H:=H)) 5 cU8 (fun _=>1) (fun s=>True):=AfG Bj Tryz.underlying5
theorem AhF:Opens Tryz.prog (fun H=>Rows.uptoBulk (H:=H)) 42 (fun a:Arr UInt8 32=>C1 u8 a.l) (fun _=>0) (fun s=>True):=Abg (AdM Bj Tryz.underlying42 O9 Abo Aml) (fun _=>Atp _) (fun _ _=>trivial)
theorem Qq:Tryz.prog.cellsOf 47=16:=by kernel_rfl
theorem Qh:Tryz.prog.cellsOf 44=2:=by kernel_rfl
def Yv(s:AsI):Prop:=I64 s.Zb∧I64 s.No∧True
theorem Ah7:Opens Tryz.prog (fun H=>Rows.uptoBulk (H:=H)) 44 YU (fun _=>0) (fun s=>Yv s) :=
 AP Bj Tryz.underlying44 (n:=2) Qh
  (Ah (k:=1) rfl Ay (fun _=>rfl) Bq (Ah (k:=1) rfl Ay (fun _=>rfl) Bq AZ))
  (fun x=>(⟨x.1,x.2.1⟩:AsI)) (fun _=>rfl) (fun _=>rfl) (fun x=>Atp _) (fun x h=>h)
theorem Aa8:Tryz.prog.cellsOf 9=1:=by kernel_rfl
theorem Anq:Opens Tryz.prog (fun H=>Rows.uptoBulk (H:=H)) 9 Amv (fun l=>l.length+1) (fun s=>s.length≤maxLen):=AdO Bj Tryz.underlying9
theorem Xs:Tryz.prog.cellsOf 45=1:=by kernel_rfl
theorem N5:Tryz.prog.cellsOf 182=3:=by kernel_rfl
theorem ZS:Tryz.prog.cellsOf 4=1:=by kernel_rfl
theorem AlZ:Opens Tryz.prog (fun H=>Rows.uptoBulk (H:=H)) 4 Pw (fun _=>1) (fun s=>True):=AaH Bj Tryz.underlying4
def LM(s:AsJ):Prop:=I64 s.Za∧I64 s.Zl1∧True∧True
theorem AfV:Opens Tryz.prog (fun H=>Rows.uptoBulk (H:=H)) 182 An (fun _=>0) (fun s=>LM s) :=
 AP Bj Tryz.underlying182 (n:=3) N5
  (Ah (k:=1) rfl Ay (fun _=>rfl) Bq (Ah (k:=1) rfl Ay (fun _=>rfl) Bq (Ah (k:=1) rfl ZS (fun _=>rfl) AlZ AZ)))
  (fun x=>(⟨x.1,x.2.1,x.2.2.1⟩:AsJ)) (fun _=>rfl) (fun _=>rfl) (fun x=>Atp _) (fun x h=>h)
theorem Aka:Opens Tryz.prog (fun H=>Rows.uptoBulk (H:=H)) 45 (cSl An) (szL (fun _=>0)) (fun s=>(s.length≤maxLen∧∀t∈s,LM t)):=Ca Bj Tryz.underlying45 N5 (fun _=>rfl) AfV
def U1(s:AsK):Prop:=I64 s.Za∧Yv s.Ref∧I64 s.Zn1∧I64 s.Zb1∧I64 s.Zc∧I64 s.Zo1∧I64 s.Zw∧I64 s.To∧I64 s.Code∧I64 s.Zp1∧I64 s.Zq1∧I64 s.Zr1∧I64 s.Zs1∧s.Zt1.length≤maxLen∧(s.Zu1.length≤maxLen∧∀t∈s.Zu1,LM t)∧True
theorem Ais:Opens Tryz.prog (fun H=>Rows.uptoBulk (H:=H)) 47 A1 (fun _=>0) (fun s=>U1 s) :=
 AP Bj Tryz.underlying47 (n:=16) Qq
  (Ah (k:=1) rfl Ay (fun _=>rfl) Bq (Ah (k:=2) rfl Qh (fun _=>rfl) Ah7 (Ah (k:=1) rfl Ay (fun _=>rfl) Bq (Ah (k:=1) rfl Ay (fun _=>rfl) Bq (Ah (k:=1) rfl Ay (fun _=>rfl) Bq (Ah (k:=1) rfl Ay (fun _=>rfl) Bq (Ah (k:=1) rfl Ay (fun _=>rfl) Bq (Ah (k:=1) rfl Ay (fun _=>rfl) Bq (Ah (k:=1) rfl Ay (fun _=>rfl) Bq (Ah (k:=1) rfl Ay (fun _=>rfl) Bq (Ah (k:=1) rfl Ay (fun _=>rfl) Bq (Ah (k:=1) rfl Ay (fun _=>rfl) Bq (Ah (k:=1) rfl Ay (fun _=>rfl) Bq (Ah (k:=1) rfl Aa8 (fun _=>rfl) Anq (Ah (k:=1) rfl Xs (fun _=>rfl) Aka AZ)))))))))))))))
  (fun x=>(⟨x.1,x.2.1,x.2.2.1,x.2.2.2.1,x.2.2.2.2.1,x.2.2.2.2.2.1,x.2.2.2.2.2.2.1,x.2.2.2.2.2.2.2.1,x.2.2.2.2.2.2.2.2.1,x.2.2.2.2.2.2.2.2.2.1,x.2.2.2.2.2.2.2.2.2.2.1,x.2.2.2.2.2.2.2.2.2.2.2.1,x.2.2.2.2.2.2.2.2.2.2.2.2.1,x.2.2.2.2.2.2.2.2.2.2.2.2.2.1,x.2.2.2.2.2.2.2.2.2.2.2.2.2.2.1⟩:AsK)) (fun _=>rfl) (fun _=>rfl) (fun x=>Atp _) (fun x h=>h)
theorem QF:Tryz.prog.cellsOf 50=2:=by kernel_rfl
theorem IZ:Tryz.prog.cellsOf 48=1:=by kernel_rfl
theorem TF:Opens Tryz.prog (fun H=>Rows.uptoBulk (H:=H)) 48 Ui (fun _=>1) (fun s=>True):=Adz Bj Tryz.underlying48
def YL(s:AsL):Prop:=True∧True∧True
theorem AjF:Opens Tryz.prog (fun H=>Rows.uptoBulk (H:=H)) 50 SU (fun _=>0) (fun s=>YL s) :=
 AP Bj Tryz.underlying50 (n:=2) QF
  (Ah (k:=1) rfl IZ (fun _=>rfl) TF (Ah (k:=1) rfl IZ (fun _=>rfl) TF AZ))
  (fun x=>(⟨x.1,x.2.1⟩:AsL)) (fun _=>rfl) (fun _=>rfl) (fun x=>Atp _) (fun x h=>h)
def Ea(s:AsM):Prop:=I64 s.Zb∧I64 s.No∧True∧I64 s.Zw1∧U1 s.Zx1∧YL s.Sig∧True
theorem YS(x:AsM):(Ab x).length=53:=by
 simp only[Ab,Ate,Ati,Atr,Em,Arr.h]
theorem SR:Opens Tryz.prog (fun H=>Rows.uptoBulk (H:=H)) 52 Ab (fun _=>0) (fun s=>Ea s) :=
 AP Bj Tryz.underlying52 (n:=53) II
  (Ah (k:=1) rfl Ay (fun _=>rfl) Bq (Ah (k:=1) rfl Ay (fun _=>rfl) Bq (Ah (k:=32) rfl O9 (fun a=>by simp[Em,a.h]) AhF (Ah (k:=1) rfl Ay (fun _=>rfl) Bq (Ah (k:=16) rfl Qq (fun _=>rfl) Ais (Ah (k:=2) rfl QF (fun _=>rfl) AjF AZ))))))
  (fun x=>(⟨x.1,x.2.1,x.2.2.1,x.2.2.2.1,x.2.2.2.2.1,x.2.2.2.2.2.1⟩:AsM)) (fun x=>by simp only[Ab,A1,SU,Atj,AtH,AtU,At1,H9,Ui,cU8,Amv,Pw,cSl]) YS (fun x=>Atp _) (fun x h=>h)
theorem Ah5:Opens Tryz.prog (fun H=>Rows.uptoBulk (H:=H)) 75 (cSl Ab) (szL (fun _=>0)) (fun s=>(s.length≤maxLen∧∀t∈s,Ea t)):=Ca Bj Tryz.underlying75 II YS SR
theorem AhV:Opens Tryz.prog (fun H=>Rows.uptoBulk (H:=H)) 37 (cSl (cSl Ab)) (szL (szL (fun _=>0))) (fun s=>(s.length≤maxLen∧∀t∈s,(t.length≤maxLen∧∀u∈t,Ea u))):=Ca Bj Tryz.underlying37 W8 (fun _=>rfl) Ah5
theorem Wz:Tryz.prog.cellsOf 38=1:=by kernel_rfl
theorem P7:Tryz.prog.cellsOf 88=106:=by kernel_rfl
def QD(s:AsN):Prop:=Ea s.A∧Ea s.B∧True
theorem AgZ(x:AsN):(A3 x).length=106:=by
 simp only[A3,Ate,Ati,Atr,Em,Arr.h]
theorem Ahr:Opens Tryz.prog (fun H=>Rows.uptoBulk (H:=H)) 88 A3 (fun _=>0) (fun s=>QD s) :=
 AP Bj Tryz.underlying88 (n:=106) P7
  (Ah (k:=53) rfl II YS SR (Ah (k:=53) rfl II YS SR AZ))
  (fun x=>(⟨x.1,x.2.1⟩:AsN)) (fun x=>by simp only[A3,Ab,Ab,Atj,AtH,AtU,At1,H9,Ui,cU8,Amv,Pw,cSl]) AgZ (fun x=>Atp _) (fun x h=>h)
theorem AiO:Opens Tryz.prog (fun H=>Rows.uptoBulk (H:=H)) 38 (cSl A3) (szL (fun _=>0)) (fun s=>(s.length≤maxLen∧∀t∈s,QD t)):=Ca Bj Tryz.underlying38 P7 AgZ Ahr
def Sz(s:AsO):Prop:=(s.Zy1.length≤maxLen∧∀t∈s.Zy1,(t.length≤maxLen∧∀u∈t,Ea u))∧(s.Zz1.length≤maxLen∧∀t∈s.Zz1,QD t)∧True
theorem Aje:Opens Tryz.prog (fun H=>Rows.uptoBulk (H:=H)) 40 Aj (fun _=>0) (fun s=>Sz s) :=
 AP Bj Tryz.underlying40 (n:=2) Xy
  (Ah (k:=1) rfl WM (fun _=>rfl) AhV (Ah (k:=1) rfl Wz (fun _=>rfl) AiO AZ))
  (fun x=>(⟨x.1,x.2.1⟩:AsO)) (fun _=>rfl) (fun _=>rfl) (fun x=>Atp _) (fun x h=>h)
theorem Xi:Tryz.prog.cellsOf 36=9:=by kernel_rfl
theorem PR:Tryz.prog.cellsOf 25=2:=by kernel_rfl
theorem Wa:Tryz.prog.cellsOf 22=1:=by kernel_rfl
theorem Nr:Tryz.prog.cellsOf 120=3:=by kernel_rfl
def MC(s:Asu):Prop:=I64 s.Za∧I64 s.Zb∧I64 s.Zc∧True
theorem Aen:Opens Tryz.prog (fun H=>Rows.uptoBulk (H:=H)) 120 Am (fun _=>0) (fun s=>MC s) :=
 AP Bj Tryz.underlying120 (n:=3) Nr
  (Ah (k:=1) rfl Ay (fun _=>rfl) Bq (Ah (k:=1) rfl Ay (fun _=>rfl) Bq (Ah (k:=1) rfl Ay (fun _=>rfl) Bq AZ)))
  (fun x=>(⟨x.1,x.2.1,x.2.2.1⟩:Asu)) (fun _=>rfl) (fun _=>rfl) (fun x=>Atp _) (fun x h=>h)
theorem AiT:Opens Tryz.prog (fun H=>Rows.uptoBulk (H:=H)) 22 (cSl Am) (szL (fun _=>0)) (fun s=>(s.length≤maxLen∧∀t∈s,MC t)):=Ca Bj Tryz.underlying22 Nr (fun _=>rfl) Aen
theorem Xt:Tryz.prog.cellsOf 23=1:=by kernel_rfl
theorem N6:Tryz.prog.cellsOf 122=5:=by kernel_rfl
def PW(s:Asv):Prop:=I64 s.A∧I64 s.B∧I64 s.Zb∧I64 s.Zd∧I64 s.Km∧True
theorem AfW:Opens Tryz.prog (fun H=>Rows.uptoBulk (H:=H)) 122 Au (fun _=>0) (fun s=>PW s) :=
 AP Bj Tryz.underlying122 (n:=5) N6
  (Ah (k:=1) rfl Ay (fun _=>rfl) Bq (Ah (k:=1) rfl Ay (fun _=>rfl) Bq (Ah (k:=1) rfl Ay (fun _=>rfl) Bq (Ah (k:=1) rfl Ay (fun _=>rfl) Bq (Ah (k:=1) rfl Ay (fun _=>rfl) Bq AZ)))))
  (fun x=>(⟨x.1,x.2.1,x.2.2.1,x.2.2.2.1,x.2.2.2.2.1⟩:Asv)) (fun _=>rfl) (fun _=>rfl) (fun x=>Atp _) (fun x h=>h)
theorem AhQ:Opens Tryz.prog (fun H=>Rows.uptoBulk (H:=H)) 23 (cSl Au) (szL (fun _=>0)) (fun s=>(s.length≤maxLen∧∀t∈s,PW t)):=Ca Bj Tryz.underlying23 N6 (fun _=>rfl) AfW
def N4(s:Asw):Prop:=(s.Ze.length≤maxLen∧∀t∈s.Ze,MC t)∧(s.Zf.length≤maxLen∧∀t∈s.Zf,PW t)∧True
theorem Akf:Opens Tryz.prog (fun H=>Rows.uptoBulk (H:=H)) 25 Nj (fun _=>0) (fun s=>N4 s) :=
 AP Bj Tryz.underlying25 (n:=2) PR
  (Ah (k:=1) rfl Wa (fun _=>rfl) AiT (Ah (k:=1) rfl Xt (fun _=>rfl) AhQ AZ))
  (fun x=>(⟨x.1,x.2.1⟩:Asw)) (fun _=>rfl) (fun _=>rfl) (fun x=>Atp _) (fun x h=>h)
theorem QS:Tryz.prog.cellsOf 31=4:=by kernel_rfl
theorem XH:Tryz.prog.cellsOf 26=1:=by kernel_rfl
theorem Nx:Tryz.prog.cellsOf 124=8:=by kernel_rfl
def HY(s:Asx):Prop:=I64 s.Zg∧I64 s.Zh∧I64 s.Zi∧I64 s.Zj∧I64 s.Zk∧True∧I64 s.Zm∧I64 s.Zn∧True
theorem AeY:Opens Tryz.prog (fun H=>Rows.uptoBulk (H:=H)) 124 Ac (fun _=>0) (fun s=>HY s) :=
 AP Bj Tryz.underlying124 (n:=8) Nx
  (Ah (k:=1) rfl Ay (fun _=>rfl) Bq (Ah (k:=1) rfl Ay (fun _=>rfl) Bq (Ah (k:=1) rfl Ay (fun _=>rfl) Bq (Ah (k:=1) rfl Ay (fun _=>rfl) Bq (Ah (k:=1) rfl Ay (fun _=>rfl) Bq (Ah (k:=1) rfl IZ (fun _=>rfl) TF (Ah (k:=1) rfl Ay (fun _=>rfl) Bq (Ah (k:=1) rfl Ay (fun _=>rfl) Bq AZ))))))))
  (fun x=>(⟨x.1,x.2.1,x.2.2.1,x.2.2.2.1,x.2.2.2.2.1,x.2.2.2.2.2.1,x.2.2.2.2.2.2.1,x.2.2.2.2.2.2.2.1⟩:Asx)) (fun _=>rfl) (fun _=>rfl) (fun x=>Atp _) (fun x h=>h)
theorem Ake:Opens Tryz.prog (fun H=>Rows.uptoBulk (H:=H)) 26 (cSl Ac) (szL (fun _=>0)) (fun s=>(s.length≤maxLen∧∀t∈s,HY t)):=Ca Bj Tryz.underlying26 Nx (fun _=>rfl) AeY
theorem Yk:Tryz.prog.cellsOf 27=1:=by kernel_rfl
theorem Nu:Tryz.prog.cellsOf 126=5:=by kernel_rfl
def MY(s:Asy):Prop:=I64 s.Zo∧I64 s.Zp∧I64 s.Zq∧I64 s.Zr∧I64 s.Zs∧True
theorem AfP:Opens Tryz.prog (fun H=>Rows.uptoBulk (H:=H)) 126 Af (fun _=>0) (fun s=>MY s) :=
 AP Bj Tryz.underlying126 (n:=5) Nu
  (Ah (k:=1) rfl Ay (fun _=>rfl) Bq (Ah (k:=1) rfl Ay (fun _=>rfl) Bq (Ah (k:=1) rfl Ay (fun _=>rfl) Bq (Ah (k:=1) rfl Ay (fun _=>rfl) Bq (Ah (k:=1) rfl Ay (fun _=>rfl) Bq AZ)))))
  (fun x=>(⟨x.1,x.2.1,x.2.2.1,x.2.2.2.1,x.2.2.2.2.1⟩:Asy)) (fun _=>rfl) (fun _=>rfl) (fun x=>Atp _) (fun x h=>h)
theorem AjD:Opens Tryz.prog (fun H=>Rows.uptoBulk (H:=H)) 27 (cSl Af) (szL (fun _=>0)) (fun s=>(s.length≤maxLen∧∀t∈s,MY t)):=Ca Bj Tryz.underlying27 Nu (fun _=>rfl) AfP
theorem VT:Tryz.prog.cellsOf 28=1:=by kernel_rfl
theorem N7:Tryz.prog.cellsOf 155=3:=by kernel_rfl
def PE(s:Asz):Prop:=I64 s.Zt∧I64 s.Zu∧I64 s.Zv∧True
theorem Aej:Opens Tryz.prog (fun H=>Rows.uptoBulk (H:=H)) 155 Al (fun _=>0) (fun s=>PE s) :=
 AP Bj Tryz.underlying155 (n:=3) N7
  (Ah (k:=1) rfl Ay (fun _=>rfl) Bq (Ah (k:=1) rfl Ay (fun _=>rfl) Bq (Ah (k:=1) rfl Ay (fun _=>rfl) Bq AZ)))
  (fun x=>(⟨x.1,x.2.1,x.2.2.1⟩:Asz)) (fun _=>rfl) (fun _=>rfl) (fun x=>Atp _) (fun x h=>h)
theorem Ajz:Opens Tryz.prog (fun H=>Rows.uptoBulk (H:=H)) 28 (cSl Al) (szL (fun _=>0)) (fun s=>(s.length≤maxLen∧∀t∈s,PE t)):=Ca Bj Tryz.underlying28 N7 (fun _=>rfl) Aej
theorem Xk:Tryz.prog.cellsOf 29=1:=by kernel_rfl
theorem Nq:Tryz.prog.cellsOf 199=3:=by kernel_rfl
def Ql(s:AsA):Prop:=I64 s.Zw∧I64 s.To∧I64 s.Zd∧True
theorem Af9:Opens Tryz.prog (fun H=>Rows.uptoBulk (H:=H)) 199 Ak (fun _=>0) (fun s=>Ql s) :=
 AP Bj Tryz.underlying199 (n:=3) Nq
  (Ah (k:=1) rfl Ay (fun _=>rfl) Bq (Ah (k:=1) rfl Ay (fun _=>rfl) Bq (Ah (k:=1) rfl Ay (fun _=>rfl) Bq AZ)))
  (fun x=>(⟨x.1,x.2.1,x.2.2.1⟩:AsA)) (fun _=>rfl) (fun _=>rfl) (fun x=>Atp _) (fun x h=>h)
theorem Ajb:Opens Tryz.prog (fun H=>Rows.uptoBulk (H:=H)) 29 (cSl Ak) (szL (fun _=>0)) (fun s=>(s.length≤maxLen∧∀t∈s,Ql t)):=Ca Bj Tryz.underlying29 Nq (fun _=>rfl) Af9
def Sn(s:AsB):Prop:=(s.Zx.length≤maxLen∧∀t∈s.Zx,HY t)∧(s.Zy.length≤maxLen∧∀t∈s.Zy,MY t)∧(s.Zz.length≤maxLen∧∀t∈s.Zz,PE t)∧(s.Za1.length≤maxLen∧∀t∈s.Za1,Ql t)∧True
theorem Aiv:Opens Tryz.prog (fun H=>Rows.uptoBulk (H:=H)) 31 S3 (fun _=>0) (fun s=>Sn s) :=
 AP Bj Tryz.underlying31 (n:=4) QS
  (Ah (k:=1) rfl XH (fun _=>rfl) Ake (Ah (k:=1) rfl Yk (fun _=>rfl) AjD (Ah (k:=1) rfl VT (fun _=>rfl) Ajz (Ah (k:=1) rfl Xk (fun _=>rfl) Ajb AZ))))
  (fun x=>(⟨x.1,x.2.1,x.2.2.1,x.2.2.2.1⟩:AsB)) (fun _=>rfl) (fun _=>rfl) (fun x=>Atp _) (fun x h=>h)
theorem Wv:Tryz.prog.cellsOf 32=1:=by kernel_rfl
theorem Nl:Tryz.prog.cellsOf 128=3:=by kernel_rfl
def Lj(s:AsC):Prop:=I64 s.Zb1∧I64 s.Low∧I64 s.Zc1∧True
theorem Aex:Opens Tryz.prog (fun H=>Rows.uptoBulk (H:=H)) 128 As (fun _=>0) (fun s=>Lj s) :=
 AP Bj Tryz.underlying128 (n:=3) Nl
  (Ah (k:=1) rfl Ay (fun _=>rfl) Bq (Ah (k:=1) rfl Ay (fun _=>rfl) Bq (Ah (k:=1) rfl Ay (fun _=>rfl) Bq AZ)))
  (fun x=>(⟨x.1,x.2.1,x.2.2.1⟩:AsC)) (fun _=>rfl) (fun _=>rfl) (fun x=>Atp _) (fun x h=>h)
theorem AjN:Opens Tryz.prog (fun H=>Rows.uptoBulk (H:=H)) 32 (cSl As) (szL (fun _=>0)) (fun s=>(s.length≤maxLen∧∀t∈s,Lj t)):=Ca Bj Tryz.underlying32 Nl (fun _=>rfl) Aex
theorem Wg:Tryz.prog.cellsOf 33=1:=by kernel_rfl
theorem N9:Tryz.prog.cellsOf 130=1:=by kernel_rfl
def Kj(s:AsD):Prop:=I64 s.Zb1∧True
theorem Aez:Opens Tryz.prog (fun H=>Rows.uptoBulk (H:=H)) 130 Ap (fun _=>0) (fun s=>Kj s) :=
 AP Bj Tryz.underlying130 (n:=1) N9
  (Ah (k:=1) rfl Ay (fun _=>rfl) Bq AZ)
  (fun x=>(⟨x.1⟩:AsD)) (fun _=>rfl) (fun _=>rfl) (fun x=>Atp _) (fun x h=>h)
theorem Aiz:Opens Tryz.prog (fun H=>Rows.uptoBulk (H:=H)) 33 (cSl Ap) (szL (fun _=>0)) (fun s=>(s.length≤maxLen∧∀t∈s,Kj t)):=Ca Bj Tryz.underlying33 N9 (fun _=>rfl) Aez
theorem WR:Tryz.prog.cellsOf 34=1:=by kernel_rfl
theorem Pq:Tryz.prog.cellsOf 74=16:=by kernel_rfl
theorem P9:Tryz.prog.cellsOf 72=15:=by kernel_rfl
theorem QM:Tryz.prog.cellsOf 69=14:=by kernel_rfl
theorem Py:Tryz.prog.cellsOf 68=2:=by kernel_rfl
def AcW(s:AsE):Prop:=I64 s.Zw∧I64 s.To∧True
theorem AjM:Opens Tryz.prog (fun H=>Rows.uptoBulk (H:=H)) 68 LG (fun _=>0) (fun s=>AcW s) :=
 AP Bj Tryz.underlying68 (n:=2) Py
  (Ah (k:=1) rfl Ay (fun _=>rfl) Bq (Ah (k:=1) rfl Ay (fun _=>rfl) Bq AZ))
  (fun x=>(⟨x.1,x.2.1⟩:AsE)) (fun _=>rfl) (fun _=>rfl) (fun x=>Atp _) (fun x h=>h)
theorem AjV:Opens Tryz.prog (fun H=>Rows.uptoBulk (H:=H)) 69 (fun a:Arr AsE 7=>a.l.flatMap LG) (fun _=>0) (fun s=>True):=AaT (n:=7) Tryz.underlying69 QM Py (fun _=>rfl) AjM
theorem XG:Tryz.prog.cellsOf 70=1:=by kernel_rfl
theorem AiB:Opens Tryz.prog (fun H=>Rows.uptoBulk (H:=H)) 70 (cSl H9) (szL (fun _=>1)) (fun s=>(s.length≤maxLen∧∀t∈s,I64 t)):=Ca Bj Tryz.underlying70 Ay (fun _=>rfl) Bq
def LI(s:AsF):Prop:=True∧(s.Ze1.length≤maxLen∧∀t∈s.Ze1,I64 t)∧True
theorem AhX:Opens Tryz.prog (fun H=>Rows.uptoBulk (H:=H)) 72 LU (fun _=>0) (fun s=>LI s) :=
 AP Bj Tryz.underlying72 (n:=15) P9
  (Ah (k:=14) rfl QM (Ae8 (c:=LG) (k:=2) (n:=7) (fun _=>rfl)) AjV (Ah (k:=1) rfl XG (fun _=>rfl) AiB AZ))
  (fun x=>(⟨(nth x.1.l 0,nth x.1.l 1,nth x.1.l 2,nth x.1.l 3,nth x.1.l 4,nth x.1.l 5,nth x.1.l 6),x.2.1⟩:AsF)) (fun x=>by obtain⟨⟨l,hl⟩,y⟩:=x;match l,hl with|[_,_,_,_,_,_,_],_=>rfl) (fun _=>rfl) (fun x=>Atp _) (fun x h=>h)
def GL(s:AsG):Prop:=True∧LI s.Zf1∧True
theorem Ajd:Opens Tryz.prog (fun H=>Rows.uptoBulk (H:=H)) 74 Ae (fun _=>0) (fun s=>GL s) :=
 AP Bj Tryz.underlying74 (n:=16) Pq
  (Ah (k:=1) rfl IZ (fun _=>rfl) TF (Ah (k:=15) rfl P9 (fun _=>rfl) AhX AZ))
  (fun x=>(⟨x.1,x.2.1⟩:AsG)) (fun _=>rfl) (fun _=>rfl) (fun x=>Atp _) (fun x h=>h)
theorem AhG:Opens Tryz.prog (fun H=>Rows.uptoBulk (H:=H)) 34 (cSl Ae) (szL (fun _=>0)) (fun s=>(s.length≤maxLen∧∀t∈s,GL t)):=Ca Bj Tryz.underlying34 Pq (fun _=>rfl) Ajd
def Vc(s:AsH):Prop:=N4 s.Zg1∧Sn s.Zh1∧(s.Zi1.length≤maxLen∧∀t∈s.Zi1,Lj t)∧(s.Zj1.length≤maxLen∧∀t∈s.Zj1,Kj t)∧(s.Zk1.length≤maxLen∧∀t∈s.Zk1,GL t)∧True
theorem AjE:Opens Tryz.prog (fun H=>Rows.uptoBulk (H:=H)) 36 Ar (fun _=>0) (fun s=>Vc s) :=
 AP Bj Tryz.underlying36 (n:=9) Xi
  (Ah (k:=2) rfl PR (fun _=>rfl) Akf (Ah (k:=4) rfl QS (fun _=>rfl) Aiv (Ah (k:=1) rfl Wv (fun _=>rfl) AjN (Ah (k:=1) rfl Wg (fun _=>rfl) Aiz (Ah (k:=1) rfl WR (fun _=>rfl) AhG AZ)))))
  (fun x=>(⟨x.1,x.2.1,x.2.2.1,x.2.2.2.1,x.2.2.2.2.1⟩:AsH)) (fun _=>rfl) (fun _=>rfl) (fun x=>Atp _) (fun x h=>h)
theorem own:ownKnob Tryz.prog.godebug=none:=by kernel_rfl
theorem AjG:laidOutB Tryz.prog=true:=by kernel_rfl
abbrev Xq:List (String×DataW Unit):=[("wagonpool/digest.k", Rows.laid_wagonpool_digest_k)]
def kz:List Int:=glob3.l.map fun x=>(x.toNat:Int)
theorem Ank:kz.length=64:=by simp[kz,glob3.h]
theorem AjP:(Rows.laid_wagonpool_digest_k:DataW Unit)=.agg (kz.map fun n=>.lit (.int .u32 n)):=by kernel_rfl
theorem Ag9{W:World}(h:laidMetH Tryz.prog Xq W)(r:Nat)(hr:r<64):W.cell? ⟨3,r,none⟩=some (.int .u32 (kz.getD r 0)):=by
 rw[MakeChecks.laidMetH_plain _ _ _ (by kernel_rfl)]at h;obtain⟨ps,⟨g,t,cs,fuel,p,q,hg,ht,hv,hd,_,_⟩,_,_⟩:=h;obtain rfl:=AtA ((show Tryz.prog.globalNamed "wagonpool/digest.k" = some 3 by kernel_rfl).symm.trans hg);obtain rfl:=AtA ((show(Tryz.prog.globals[3]?).map (·.type)=some 232 by kernel_rfl).symm.trans ht);rw[AjP]at hd;obtain⟨xs,m,_,ex,_,hl,hel⟩:=DataW.trod_array Tryz.underlying232 hd;have c5:Tryz.prog.cellsOf 220=1:=by kernel_rfl
 have hE:=hel r hr;rw[c5,AuR,AsZ (by omega)]at hE;obtain⟨z,e1,e2,_⟩:=DataW.trod_int Tryz.underlying220 hE;have hlen:=Ank;have e3:(xs.map (·.1))=kz.map fun n=>.lit (.int .u32 n):=(DataW.agg.inj (Prod.mk.inj ex).1).symm
 have e4:(xs.map (·.1))[r]?=(kz.map fun n=>(DataW.lit (.int .u32 n):DataW Unit))[r]?:=by rw[e3]
 rw[Atf,Atf,AsZ (by omega:r<xs.length),AsZ (by omega:r<kz.length),e2]at e4
 have hz:z=kz.getD r 0:=by
  simp only[AtC,AsW,DataW.lit.injEq,Lit.int.injEq,Awv]at e4;rw[e4,List.getD,AsZ (by omega:r<kz.length)];rfl
 rw[World.var?_cell hg hv r,←hz]
 have:cs.toList[r]?=some (.int .u32 z):=by
  have h0:((cs.toList.drop r).take 1)[0]?=some (.int .u32 z):=by rw[e1];rfl
  simpa using h0
 simpa using this
theorem Apk{W:World}(h:laidMetH Tryz.prog Xq W):Mem (B.env noF) W [] []:=by
 refine⟨rfl,fun id b ab h=>by simp at h,fun id id' b b' β h=>by simp at h,fun a h=>h.elim,fun i cs hG=>?_,fun t m h=>(by have h':(none:Option MapS)=some m:=h;cases h'),fun i p h=>(by have h':(none:Option (Array Value))=some p:=h;cases h')⟩;have hG':(if i=3 then some (C1 u32 glob3.l)else none)=some cs:=hG;by_cases hi:i=3
 ·rw[AsU hi]at hG';cases hG';subst hi;refine⟨cell?_lt (Ag9 h 0 (by omega)),(by rintro⟨id,b,hb,_⟩;simp at hb),fun _ hf=>hf,fun j=>.int .u32 (kz.getD j 0),fun j x hj=>?_⟩
  have hj64:j<64:=by
   have:=(AsT.1 hj).1;rwa[Em]at this
  have hx:x=.int .u32 (kz.getD j 0):=by
   simp only[C1,Atf,AsV]at hj;obtain⟨y,hy,rfl⟩:=hj;simp[kz,u32,As8,hy]
  subst hx;exact⟨Ag9 h j hj64,.int _ _ _,rfl⟩
 ·rw[AsX hi]at hG';cases hG'
theorem AaR{f:FuncId}{avs:List AV}(h:Con B f avs [] (fun r σ'=>r=.bool true∧σ'=[])){fn:Func}{c:Code}(hf:B.P.funcs[f]?=some fn)(hb:fn.body=some c)(hn:(fn.name == "runtime.NumGoroutine")=false) {W:World} (hL:laidMetH Tryz.prog Xq W) {args:Array Value} (ha:C8 W (AA (B.env noF) []) [] args.toList avs):Calls B.P f args W fun e W'=>e=.returned (.bool true)∧Below W.heap.size W W':=by
 refine((h.call (fun _=>False) W [] args (Apk hL) ha).calls hf hb hn).mono ?_;rintro e w' ⟨v,r,σ',g',rfl,⟨rfl,rfl⟩,hm,he,hr⟩;exact⟨by rw[F8 hr],he.below⟩
open Go.Rv Go.RowKit
set_option maxRecDepth 20000
theorem Agy:Lib.len8tab.data.toList=([0,1,2,2,3,3,3,3,4,4,4,4,4,4,4,4,5,5,5,5,5,5,5,5,5,5,5,5,5,5,5,5,6,6,6,6,6,6,6,6,6,6,6,6,6,6,6,6,6,6,6,6,6,6,6,6,6,6,6,6,6,6,6,6,7,7,7,7,7,7,7,7,7,7,7,7,7,7,7,7,7,7,7,7,7,7,7,7,7,7,7,7,7,7,7,7,7,7,7,7,7,7,7,7,7,7,7,7,7,7,7,7,7,7,7,7,7,7,7,7,7,7,7,7,7,7,7,7,8,8,8,8,8,8,8,8,8,8,8,8,8,8,8,8,8,8,8,8,8,8,8,8,8,8,8,8,8,8,8,8,8,8,8,8,8,8,8,8,8,8,8,8,8,8,8,8,8,8,8,8,8,8,8,8,8,8,8,8,8,8,8,8,8,8,8,8,8,8,8,8,8,8,8,8,8,8,8,8,8,8,8,8,8,8,8,8,8,8,8,8,8,8,8,8,8,8,8,8,8,8,8,8,8,8,8,8,8,8,8,8,8,8,8,8,8,8,8,8,8,8,8,8,8,8,8,8]:List UInt8):=by kernel_rfl
attribute [go_sem] Agy
theorem NP{σ:Ad}{b:ABlk}:(σ++[b])[σ.length]?=some b:=by
 rw[As0 (Atb _)];simp
theorem ZM{σ:Ad}{b c:ABlk}:(σ++[b]).set σ.length c=σ++[c]:=by
 rw[Aun _ _ (Atb _)];simp
theorem NC{σ:Ad}{id:Nat}:∀F:Addr→Prop,VR (B.env F) 92 [.ref id 0] σ (.agg [.ref id 3,.ref id 4,.ref id 5,.ref id 6,.ref id 7,.ref id 8,.ref id 9,.ref id 10,.ref id 11,.ref id 12,.ref id 13]) σ:=by
  intro F w g vs hm ha
  have hid:id<σ.length:=by
    obtain⟨vs⟩:=vs
    match vs,ha with
    | [u],⟨h1,_⟩=>
      cases h1 with
      |ref _ _ _ β b hb _ _=>have:=(AsT.1 hb).1;rwa[hm.len]at this
  refine Vb (N:=37) (rs:=[.cell 2 178]) σ.length rfl ok Tryz.func92 rfl (by decide +kernel) rfl rfl (AtM rfl) ?_ (fun F=>?_) F w g vs hm ha
  · simp[AV.under,hid]
  have hE:=ok.env F;show Run (B.env F) σ.length _ ⟨Ao 37 [(0,.ref id 0)],σ⟩ _;refine L3 hE [0,2] (fr':=[(0,.ref id 0),(2,.ref σ.length 0)]) (σ':=σ++[.box [.val (.pointer none),.val (.pointer none),.val (.pointer none),.val (.pointer none),.val (.pointer none),.val (.pointer none),.val (.pointer none),.val (.pointer none),.val (.pointer none),.val (.pointer none),.val (.pointer none)] false]) ⟨_,Aa,?_⟩ ?_
  · simp only[go_sem]
  refine Q3 hE MF [[],[0],[0,1],[],[3],[3,4],[],[6],[6,7],[],[9],[9,10],[],[12],[12,13],[],[15],[15,16],[],[18],[18,19],[],[21],[21,22],[],[24],[24,25],[],[27],[27,28],[],[30],[30,31],[0,1,2,3,4,5,6,7,8,9,10,11,12,13,14,15,16,17,18,19,20,21,22,23,24,25,26,27,28,29,30,31,32],[0,1,2,3,4,5,6,7,8,9,10,11,12,13,14,15,16,17,18,19,20,21,22,23,24,25,26,27,28,29,30,31,32,33]] (by kernel_rfl) (by kernel_rfl) [2] (fr':=[(2,.ref σ.length 0)]) (σ':=σ++[.box [.ref id 3,.ref id 4,.ref id 5,.ref id 6,.ref id 7,.ref id 8,.ref id 9,.ref id 10,.ref id 11,.ref id 12,.ref id 13] false]) ⟨_,Aa,?_⟩ ?_
  · simp only[go_sem,NP,ZM,reduceIte,Nat.reduceLT,Nat.reduceEqDiff,Nat.reduceAdd,Nat.reduceGT,Nat.reduceLeDiff]
  refine Xm ?_;refine⟨.inr rfl,[.agg [.ref id 3,.ref id 4,.ref id 5,.ref id 6,.ref id 7,.ref id 8,.ref id 9,.ref id 10,.ref id 11,.ref id 12,.ref id 13]],[.box [.ref id 3,.ref id 4,.ref id 5,.ref id 6,.ref id 7,.ref id 8,.ref id 9,.ref id 10,.ref id 11,.ref id 12,.ref id 13] false],?_,rfl,rfl⟩;rw[ML];simp only[go_sem,NP,reduceIte,Nat.reduceLT,Nat.reduceEqDiff,Nat.reduceAdd,Nat.reduceLeDiff]
theorem MQ{σ:Ad}{id:Nat}:∀F:Addr→Prop,VR (B.env F) 92 [.ref id 9] σ (.agg [.ref id 12,.ref id 13,.ref id 14,.ref id 15,.ref id 16,.ref id 17,.ref id 18,.ref id 19,.ref id 20,.ref id 21,.ref id 22]) σ:=by
  intro F w g vs hm ha
  have hid:id<σ.length:=by
    obtain⟨vs⟩:=vs
    match vs,ha with
    | [u],⟨h1,_⟩=>
      cases h1 with
      |ref _ _ _ β b hb _ _=>have:=(AsT.1 hb).1;rwa[hm.len]at this
  refine Vb (N:=37) (rs:=[.cell 2 178]) σ.length rfl ok Tryz.func92 rfl (by decide +kernel) rfl rfl (AtM rfl) ?_ (fun F=>?_) F w g vs hm ha
  · simp[AV.under,hid]
  have hE:=ok.env F;show Run (B.env F) σ.length _ ⟨Ao 37 [(0,.ref id 9)],σ⟩ _;refine L3 hE [0,2] (fr':=[(0,.ref id 9),(2,.ref σ.length 0)]) (σ':=σ++[.box [.val (.pointer none),.val (.pointer none),.val (.pointer none),.val (.pointer none),.val (.pointer none),.val (.pointer none),.val (.pointer none),.val (.pointer none),.val (.pointer none),.val (.pointer none),.val (.pointer none)] false]) ⟨_,Aa,?_⟩ ?_
  · simp only[go_sem]
  refine Q3 hE MF [[],[0],[0,1],[],[3],[3,4],[],[6],[6,7],[],[9],[9,10],[],[12],[12,13],[],[15],[15,16],[],[18],[18,19],[],[21],[21,22],[],[24],[24,25],[],[27],[27,28],[],[30],[30,31],[0,1,2,3,4,5,6,7,8,9,10,11,12,13,14,15,16,17,18,19,20,21,22,23,24,25,26,27,28,29,30,31,32],[0,1,2,3,4,5,6,7,8,9,10,11,12,13,14,15,16,17,18,19,20,21,22,23,24,25,26,27,28,29,30,31,32,33]] (by kernel_rfl) (by kernel_rfl) [2] (fr':=[(2,.ref σ.length 0)]) (σ':=σ++[.box [.ref id 12,.ref id 13,.ref id 14,.ref id 15,.ref id 16,.ref id 17,.ref id 18,.ref id 19,.ref id 20,.ref id 21,.ref id 22] false]) ⟨_,Aa,?_⟩ ?_
  · simp only[go_sem,NP,ZM,reduceIte,Nat.reduceLT,Nat.reduceEqDiff,Nat.reduceAdd,Nat.reduceGT,Nat.reduceLeDiff]
  refine Xm ?_;refine⟨.inr rfl,[.agg [.ref id 12,.ref id 13,.ref id 14,.ref id 15,.ref id 16,.ref id 17,.ref id 18,.ref id 19,.ref id 20,.ref id 21,.ref id 22]],[.box [.ref id 12,.ref id 13,.ref id 14,.ref id 15,.ref id 16,.ref id 17,.ref id 18,.ref id 19,.ref id 20,.ref id 21,.ref id 22] false],?_,rfl,rfl⟩;rw[ML];simp only[go_sem,NP,reduceIte,Nat.reduceLT,Nat.reduceEqDiff,Nat.reduceAdd,Nat.reduceLeDiff]
set_option maxHeartbeats 4000000
theorem Rc{a b r}(h:IH a b=some r):Con B 83 [u64 a,u64 b] [] (fun r' σ'=>r'=.tup [u64 r.1,u64 r.2]∧σ'=[]):=by
 refine Cw 51 [.tmp 4,.tmp 5] Tryz.func83 (fun F hE=>?_) h;unfold IH;refine T0 [0,1] ?_;refine Lt fun x0_2596 c =>Te (fr':=[(0,_),(1,_),(6,u64 x0_2596)]) [0,1,6] Aa (Ew1 c) ?_
 refine Lt fun x1_2598 d =>Te (fr':=[(0,_),(1,_),(6,_),(7,u64 x1_2598)]) [0,1,6,7] Aa (Ew1 d) ?_
 refine Lt fun y0_2600 e =>Te (fr':=[(0,_),(1,_),(6,_),(7,_),(8,u64 y0_2600)]) [0,1,6,7,8] Aa (Ew1 e) ?_
 refine Lt fun y1_2602 f =>Te (fr':=[(0,_),(1,_),(6,_),(7,_),(8,_),(9,u64 y1_2602)]) [0,1,6,7,8,9] Aa (Ew1 f) ?_
 refine T0 [0,1,6,7,8,9,10] ?_;refine Lt fun g i =>Te (fr':=[(0,_),(1,_),(6,_),(7,_),(9,_),(11,u64 g)]) [0,1,6,7,9,11] Aa (Ew1 i) ?_
 refine Lt fun w1_2606 j =>Te (fr':=[(0,_),(1,_),(6,_),(7,_),(9,_),(11,_),(12,u64 w1_2606)]) [0,1,6,7,9,11,12] Aa (Ew1 j) ?_
 refine Lt fun w2_2608 k =>Te (fr':=[(0,_),(1,_),(6,_),(7,_),(9,_),(12,_),(13,u64 w2_2608)]) [0,1,6,7,9,12,13] Aa (Ew1 k) ?_
 refine Lt fun w1_2610 l =>Te (fr':=[(0,_),(1,_),(7,_),(9,_),(12,u64 w1_2610),(13,_)]) [0,1,7,9,12,13] Aa (Ew1 l) ?_
 refine Lt fun m n =>Te (fr':=[(0,_),(1,_),(4,u64 m)]) [0,1,4] Aa (Ew1 n) ?_
 refine T0 [4,5] ?_;exact Sr <|Rr
theorem HQ{b r}(h:EA b=some r):Con B 85 [u64 b] [] (fun r' σ'=>r'=i64 r∧σ'=[]):=by
 refine Cw 25 [.tmp 2] Tryz.func85 (fun F hE=>?_) h;unfold EA;refine T0 [0,2] ?_;refine Ja (fun(v:UInt64×Int)=>(⟨Ao 25 [(0,u64 v.1),(2,i64 v.2)],[]⟩:St)) ?_ ?_
 ·intro m;refine T0 [0,2,4] ?_;refine Cd ?_ ?_
  ·refine Lt fun d e =>Te (fr':=[(0,u64 d)]) [0] Aa (Ew1 e) ?_
   refine F0 [0,2] ?_;exact Jm (ws [])
  ·exact Sk <|Jm (ws [])
 rintro⟨n,o⟩;refine Ja (fun(v:UInt64×Int)=>(⟨Ao 25 [(0,u64 v.1),(2,i64 v.2)],[]⟩:St)) ?_ ?_
 ·intro p;refine T0 [0,2,8] ?_;refine Cd ?_ ?_
  ·refine Lt fun f g =>Te (fr':=[(0,u64 f),(2,_)]) [0,2] Aa (Ew1 g) ?_
   refine F0 [0,2] ?_;exact Jm (ws [])
  ·exact Sk <|Jm (ws [])
 rintro⟨q,s⟩;refine Ja (fun(v:UInt64×Int)=>(⟨Ao 25 [(0,u64 v.1),(2,i64 v.2)],[]⟩:St)) ?_ ?_
 ·intro t;refine T0 [0,2,14] ?_;refine Cd ?_ ?_
  ·refine Lt fun i j =>Te (fr':=[(0,u64 i),(2,_)]) [0,2] Aa (Ew1 j) ?_
   refine F0 [0,2] ?_;exact Jm (ws [])
  ·exact Sk <|Jm (ws [])
 rintro⟨u,w⟩;refine Ck fun c=>?_
 have a:=c;simp only[Atj,AtH,Ate,Ati,Atr,AtN,Nat.reduceAdd]at a;refine Lt fun k l =>Te (fr':=[(2,i64 k)]) [2] Aa (Ev (by simp only[go_sem,qN c,a,Tv a,Ao3 (Tv a),l];exact AL)) ?_
 exact Sr <|Rr
theorem Jw{a r}(h:CX a=some r):Con B 124 [u64 a] [] (fun r' σ'=>r'=i64 r∧σ'=[]):=by
 refine Cw 6 [.tmp 2] Tryz.func124 (fun F hE=>?_) h;unfold CX;refine T0 [0] ?_;refine Bd fun c b =>Te [2] (o1 4 (HQ b)) Ev ?_
 exact Sr <|Rr
theorem RA{e f g r}(h:Hf e f g=some r):Con B 84 [u64 e,u64 f,u64 g] [] (fun r' σ'=>r'=.tup [u64 r.1,u64 r.2]∧σ'=[]):=by
 refine Cw 135 [.tmp 6,.tmp 7] Tryz.func84 (fun F hE=>?_) h;unfold Hf;refine T0 [0,1,2] ?_;refine Sq <|T0 [0,1,2,20] ?_
 refine Cd ?_ ?_
 ·exact Rn
 ·refine Sk <|Tn <|Sq <|T0 [0,1,2,24] ?_
  refine Cd ?_ ?_
  ·exact Rn
  ·refine Sk <|Tn <|Sq <|T0 [0,1,2,27] ?_
   refine Cd ?_ ?_
   ·refine Ck fun q =>Ck fun s =>De [[],[],[0,1],[],[],[3,4],[0,1,2],[0,1,2,3,4,5,6]] [6,7] Aa (Ew2 q s) ?_
    exact Sr <|Tr <|Rr
   ·refine Sk <|Tn <|Bd fun b t =>Te [0,1,2,8] (o1 35 (Jw t)) Ev ?_
    refine Lt fun a u =>Te (fr':=[(0,_),(1,_),(2,u64 a),(8,_)]) [0,1,2,8] Aa (Ew1 u) ?_
    refine Lt fun yn1_2658 w =>Te (fr':=[(0,_),(1,_),(2,_),(8,_),(9,u64 yn1_2658)]) [0,1,2,8,9] Aa (Ew1 w) ?_
    refine Lt fun yn0_2660 x =>Te (fr':=[(0,_),(1,_),(2,_),(8,_),(9,_),(10,u64 yn0_2660)]) [0,1,2,8,9,10] Aa (Ew1 x) ?_
    refine Lt fun un32_2662 y =>Te (fr':=[(1,_),(2,_),(8,_),(9,_),(10,_),(11,u64 un32_2662)]) [1,2,8,9,10,11] Aa (Ew1 y) ?_
    refine Lt fun un10_2664 z =>Te (fr':=[(2,_),(8,_),(9,_),(10,_),(11,_),(12,u64 un10_2664)]) [2,8,9,10,11,12] Aa (Ew1 z) ?_
    refine Lt fun un1_2666 aa =>Te (fr':=[(2,_),(8,_),(9,_),(10,_),(11,_),(12,_),(13,u64 un1_2666)]) [2,8,9,10,11,12,13] Aa (Ew1 aa) ?_
    refine Lt fun un0_2668 ab =>Te (fr':=[(2,_),(8,_),(9,_),(10,_),(11,_),(13,_),(14,u64 un0_2668)]) [2,8,9,10,11,13,14] Aa (Ew1 ab) ?_
    refine Ck fun ac =>Te [2,8,9,10,11,13,14,15] Aa (Ew1 ac) ?_
    refine Lt fun ad ae =>Te (fr':=[(2,_),(8,_),(9,_),(10,_),(11,_),(13,_),(14,_),(15,_),(16,u64 ad)]) [2,8,9,10,11,13,14,15,16] Aa (Ew1 ae) ?_
    refine Ja (fun q1_2692=>⟨Ao 135 [(2,u64 a),(8,u64 (UInt64.ofInt b)),(9,u64 yn1_2658),(10,u64 yn0_2660),(11,u64 un32_2662),(13,u64 un1_2666),(14,u64 un0_2668),(15,u64 q1_2692)],[]⟩) ?_ ?_
    ·intro ap;refine Sb ?_;refine Lo (fun(v:UInt64×UInt64)=>(⟨Ao 135 [(2,u64 a),(8,u64 (UInt64.ofInt b)),(9,u64 yn1_2658),(10,u64 yn0_2660),(11,u64 un32_2662),(13,u64 un1_2666),(14,u64 un0_2668),(15,u64 v.1),(16,u64 v.2)],[]⟩:St)) (ws []) ?_;rintro⟨q1_2701,i⟩ aq af j k;show EE yn1_2658 yn0_2660 un1_2666 q1_2701 i=some af→_;unfold EE;refine Sq ?_;refine Tw [2,8,9,10,11,13,14,15,16,78] (fun l=>⟨Ao 135 [(2,u64 a),(8,u64 (UInt64.ofInt b)),(9,u64 yn1_2658),(10,u64 yn0_2660),(11,u64 un32_2662),(13,u64 un1_2666),(14,u64 un0_2668),(15,u64 q1_2701),(16,u64 i),(78,.bool l)],[]⟩) ?_ ?_
     ·intro _;refine Sp (fun c=>?_) fun c=>?_
      ·exact Lf Aa (Ew1 c) (ws [])
      ·exact Lf Aa (Ew1 c) (ws [])
     intro l;refine Cd ?_ ?_
     ·refine Sk <|Tn <|Sb <|T0 [2,8,9,10,11,13,14,15,16] ?_
      refine T0 [2,8,9,10,11,13,14,15,16] ?_;refine T0 [2,8,9,10,11,13,14,15,16,85] ?_;refine Cd ?_ ?_
      ·refine Sx <|Bo <|Ly k j <|Bx <|?_
       exact Jm ((ws (l':=[(2,u64 a),(8,u64 (UInt64.ofInt b)),(9,u64 yn1_2658),(10,u64 yn0_2660),(11,u64 un32_2662),(13,u64 un1_2666),(14,u64 un0_2668),(15,u64 (q1_2701-(1:UInt64)))]) (σ':=[]) []).trans (ws []))
      ·exact Sk <|Bn <|Ln (ws [])
     ·refine Sx <|Tx <|Ly k j <|Bx <|?_
      exact Jm ((ws (l':=[(2,u64 a),(8,u64 (UInt64.ofInt b)),(9,u64 yn1_2658),(10,u64 yn0_2660),(11,u64 un32_2662),(13,u64 un1_2666),(14,u64 un0_2668),(15,u64 q1_2701)]) (σ':=[]) []).trans (ws []))
    intro q1_2692;refine Lt fun un21_2715 ag =>Te (fr':=[(2,_),(8,_),(9,_),(10,_),(14,_),(15,_),(17,u64 un21_2715)]) [2,8,9,10,14,15,17] Aa (Ew1 ag) ?_
    refine Ck fun ah =>Te [2,8,9,10,14,15,17,18] Aa (Ew1 ah) ?_
    refine Lt fun ai aj =>Te (fr':=[(2,_),(8,_),(9,_),(10,_),(14,_),(15,_),(16,u64 ai),(17,_),(18,_)]) [2,8,9,10,14,15,16,17,18] Aa (Ew1 aj) ?_
    refine Ja (fun q0_2739=>⟨Ao 135 [(2,u64 a),(8,u64 (UInt64.ofInt b)),(14,u64 un0_2668),(15,u64 q1_2692),(17,u64 un21_2715),(18,u64 q0_2739)],[]⟩) ?_ ?_
    ·intro ar;refine Sb ?_;refine Lo (fun(v:UInt64×UInt64)=>(⟨Ao 135 [(2,u64 a),(8,u64 (UInt64.ofInt b)),(9,u64 yn1_2658),(10,u64 yn0_2660),(14,u64 un0_2668),(15,u64 q1_2692),(16,u64 v.1),(17,u64 un21_2715),(18,u64 v.2)],[]⟩:St)) (ws []) ?_;rintro⟨m,q0_2749⟩ au ak n o;show EM yn1_2658 yn0_2660 un0_2668 m q0_2749=some ak→_;unfold EM;refine Sq ?_;refine Tw [2,8,9,10,14,15,16,17,18,113] (fun p=>⟨Ao 135 [(2,u64 a),(8,u64 (UInt64.ofInt b)),(9,u64 yn1_2658),(10,u64 yn0_2660),(14,u64 un0_2668),(15,u64 q1_2692),(16,u64 m),(17,u64 un21_2715),(18,u64 q0_2749),(113,.bool p)],[]⟩) ?_ ?_
     ·intro _;refine Sp (fun d=>?_) fun d=>?_
      ·exact Lf Aa (Ew1 d) (ws [])
      ·exact Lf Aa (Ew1 d) (ws [])
     intro p;refine Cd ?_ ?_
     ·refine Sk <|Tn <|Sb <|T0 [2,8,9,10,14,15,16,17,18] ?_
      refine T0 [2,8,9,10,14,15,16,17,18] ?_;refine T0 [2,8,9,10,14,15,16,17,18,120] ?_;refine Cd ?_ ?_
      ·refine Sx <|Bo <|Ly o n <|Bx <|?_
       exact Jm ((ws (l':=[(2,u64 a),(8,u64 (UInt64.ofInt b)),(14,u64 un0_2668),(15,u64 q1_2692),(17,u64 un21_2715),(18,u64 (q0_2749-(1:UInt64)))]) (σ':=[]) []).trans (ws []))
      ·exact Sk <|Bn <|Ln (ws [])
     ·refine Sx <|Tx <|Ly o n <|Bx <|?_
      exact Jm ((ws (l':=[(2,u64 a),(8,u64 (UInt64.ofInt b)),(14,u64 un0_2668),(15,u64 q1_2692),(17,u64 un21_2715),(18,u64 q0_2749)]) (σ':=[]) []).trans (ws []))
    intro q0_2739;refine Lt fun al am =>Lt fun an ao =>Te (fr':=[(6,u64 al),(7,u64 an)]) [6,7] Aa (Ew2 am ao) ?_
    exact Sr <|Rr
theorem EB{a b c r}(h:Dj a b c=some r):Con B 82 [u64 a,u64 b,.ref 0 0] [.box [u64 c] false] (fun r' σ'=>r'=u64 r.1∧σ'=[.box [u64 r.2] false]):=by
 refine Co 1 28 [.tmp 5] Tryz.func82 (fun F hE=>?_) h;unfold Dj;refine T0 [0,1,2] ?_;refine Ck fun d =>Ck fun e =>Bd fun i f =>De [[],[],[0,1],[],[],[3,4],[0,1,2,3,4,5],[0,1,2,3,4,5,6],[0,1,2,3,4,5,6,7],[0,1,2,3,4,5,6,7],[0,1,2,3,4,5,6,7,8],[0,1,2,3,4,5,6,7,8,9,10]] [2,6,7] (o1 17 (Rc f)) (Ew2 d e) ?_
 refine Bd fun j g =>Te [9] (o1 24 (RA g)) Ev ?_
 refine T0 [5] ?_;exact Sr <|Ro [0]
theorem Hy{a r}(h:Ew a=some r):Con B 48 [u64 a] [] (fun r' σ'=>r'=.fn 82 [.ref 0 0]∧σ'=[.box [u64 r] false]):=by
 refine Co 0 4 [.tmp 2] Tryz.func48 (fun F hE=>?_) h;unfold Ew;refine T0 [1] ?_;refine T0 [2] ?_;exact Sr <|Ro [0]
theorem GG{a c r}(h:FQ a c=some r):Con B 49 [u64 a,u64 c] [] (fun r' σ'=>r'=u64 r∧σ'=[]):=by
 refine Cw 33 [.tmp 4] Tryz.func49 (fun F hE=>?_) h;unfold FQ;refine T0 [0,1] ?_;refine Bd fun y j =>Te [0,1,5] (Av (l:=[]) (m:=[(8,48,[u64 (2305843009213690799:UInt64)],[],_,_)]) trivial ⟨(wc (Hy j) []),trivial⟩) Ev ?_
 refine T0 [0,1,5,6] ?_;refine Ja (fun g=>⟨Ao 33 [(6,u64 g)],[]⟩) ?_ ?_
 ·intro z;refine Bd fun f k =>Te [0,1,5,6,10,11] (o1 10 (HQ k)) Ev ?_
  refine Sb ?_;refine Lo (fun⟨b,d,e⟩=>⟨Ao 33 [(0,u64 a),(1,u64 c),(5,.fn 82 [.ref 0 0]),(6,u64 b),(10,i64 f),(11,i64 d)],[.box [u64 e] false]⟩) (ws [0]) ?_;rintro⟨b,d,e⟩ aa n o p;show Fm a c f b d e=some n→_;unfold Fm;refine T0 [0,1,5,6,10,11,12] ?_;refine Sq <|Cd ?_ ?_
  ·refine Sk <|Tn <|?_
   refine Ja (fun(v:UInt64×UInt64)=>(⟨Ao 33 [(0,u64 a),(1,u64 c),(5,.fn 82 [.ref 0 0]),(6,u64 v.1),(10,i64 f),(11,i64 d)],[.box [u64 v.2] false]⟩:St)) ?_ ?_
   ·intro ab;refine Sb <|T0 [0,1,5,6,7,10,11] ?_
    refine Bd fun i q =>Te [0,1,5,6,7,10,11] (Av (l:=[]) (m:=[(17,82,[u64 b,u64 b,.ref 0 0],[.box [u64 e] false],_,_)]) trivial ⟨(wc (EB q) [0]),trivial⟩) Ev ?_
    refine Bd fun ac s =>Ck fun t =>Lt fun u w =>Te (fr':=[(0,_),(1,_),(5,_),(6,_),(10,_),(11,_),(26,.bool u)]) [0,1,5,6,10,11,26] (o1 20 (HQ s)) (Ew2 t w) ?_
    refine Cd ?_ ?_
    ·refine Bd fun ad x =>Fe [0,1,5,6,10,11] (Av (l:=[]) (m:=[(30,82,[u64 i.1,u64 a,.ref 0 0],[.box [u64 i.2] false],_,_)]) trivial ⟨(wc (EB x) [0]),trivial⟩) Ev ?_
     exact Bn <|Jm (ws [0])
    ·exact Sk <|Bn <|Jm (ws [0])
   rintro⟨ae,af⟩;refine F0 [0,1,5,6,10,11] ?_;exact Ln (ws [0])
  ·refine Sx <|Tx <|Ly p o <|Bx <|?_
   exact Jm ((ws (l':=[(6,u64 b)]) (σ':=[]) []).trans (ws []))
 intro g;refine T0 [4] ?_;exact Sr <|Rr
theorem KW{c r}(h:Gb c=some r):Con B 47 [u64 c] [] (fun r' σ'=>r'=.bool r∧σ'=[]):=by
 refine Cw 14 [.tmp 2] Tryz.func47 (fun F hE=>?_) h;unfold Gb;refine T0 [0] ?_;refine Tw [2] (fun d=>⟨Ao 14 [(2,.bool d)],[]⟩) ?_ ?_
 ·intro _;refine Sp (fun a=>?_) fun a=>?_
  ·refine Sp (fun b=>?_) fun b=>?_
   ·refine Bd fun f e=>?_
    exact Lf (o1 11 (GG e)) (Ew2 a b) (ws [])
   ·exact Lf Aa (Ew2 a b) (ws [])
  ·exact Lf Aa (Ew1 a) (ws [])
 intro d;exact Sr <|Rr
theorem Kd{a r}(h:IY a=some r):Con B 58 [u64 a] [] (fun r' σ'=>r'=.tup [u64 r.1,i64 r.2]∧σ'=[]):=by
 refine Cw 12 [.tmp 2,.tmp 3] Tryz.func58 (fun F hE=>?_) h;unfold IY;refine T0 [0] ?_;refine Sq ?_;refine Tw [0,9] (fun c=>⟨Ao 12 [(0,u64 a),(9,.bool c)],[]⟩) ?_ ?_
 ·intro _;refine Sp (fun b=>?_) fun b=>?_
  ·exact Lf Aa (Ew1 b) (ws [])
  ·exact Lf Aa (Ew1 b) (ws [])
 intro c;refine Cd ?_ ?_
 ·refine T0 [2,3] ?_;exact Sr <|Tr <|Rr
 ·refine Sk <|Tn <|Bd fun e d =>Te [2,3] (o1 11 (GG d)) Ev ?_
  exact Sr <|Rr
theorem KN{a b r}(h:GY a b=some r):Con B 26 [.agg (Aj a),i64 b] [] (fun r' σ'=>r'=.sl false (L Ab r)∧σ'=[]):=by
 refine Cw 15 [.tmp 4] Tryz.func26 (fun F hE=>?_) h;unfold GY;refine T0 [1,2] ?_;refine Sq <|T0 [1,2,9] ?_
 refine Cd ?_ ?_
 ·refine T0 [4] ?_;exact Sr <|Tr <|Rr
 ·refine Sk <|Tn <|Ck fun c =>Te [4] Aa (Ew1 (qR c)) ?_
  exact Sr <|Rr
theorem GN{a r}(h:G9 a=some r):Con B 80 [i64 a] [] (fun r' σ'=>r'=.agg [i64 r.Za,i64 r.N,.sl false (L cU8 r.B),.sl false (L cApi_Value r.L)]∧σ'=[]):=by
 refine Cw 5 [.cell 2 105] Tryz.func80 (fun F hE=>?_) h;unfold G9;refine T0 [0,2] ?_;refine T0 [2] ?_;exact Sr <|Rr
theorem KM{a r}(h:KG a=some r):Con B 81 [.sl false (L cU8 a)] [] (fun r' σ'=>r'=.agg [i64 r.Za,i64 r.N,.sl false (L cU8 r.B),.sl false (L cApi_Value r.L)]∧σ'=[]):=by
 refine Cw 5 [.cell 2 105] Tryz.func81 (fun F hE=>?_) h;unfold KG;refine T0 [0,2] ?_;refine T0 [2] ?_;exact Sr <|Rr
theorem AJ{a r}(h:Ba a=some r):Con B 106 [i64 a] [] (fun r' σ'=>r'=.agg [i64 r.Za,i64 r.N,.sl false (L cU8 r.B),.sl false (L cApi_Value r.L)]∧σ'=[]):=by
 refine Cw 5 [.cell 2 105] Tryz.func106 (fun F hE=>?_) h;unfold Ba;refine T0 [0,2] ?_;refine T0 [2] ?_;exact Sr <|Rr
theorem MS{r}(h:edi_list_cnil  = some r):Con B 107 [.sl true (L cApi_Value ([]))] [] (fun r' σ'=>r'=.agg [i64 r.Za,i64 r.N,.sl true (L cU8 ([])),.sl true (L cApi_Value ([]))]∧σ'=[]):=by
 refine Co 0 5 [.cell 2 105] Tryz.func107 (fun F hE=>?_) h;unfold edi_list_cnil;refine T0 [0,2] ?_;refine T0 [2] ?_;exact Sr <|Ro []
theorem NB{a r}(h:HD a=some r):Con B 107 [.bs false 0 (a.length) 0 (a.length)] [.buf 4 (L cApi_Value a) false] (fun r' σ'=>r'=.agg [i64 r.Za,i64 r.N,.sl true (L cU8 ([])),.bs false 0 (r.L.length) 0 (r.L.length)]∧σ'=[.buf 4 (L cApi_Value r.L) false]):=by
 refine Co 1 5 [.cell 2 105] Tryz.func107 (fun F hE=>?_) h;unfold HD;refine T0 [0,2] ?_;refine T0 [2] ?_;exact Sr <|Ro [0]
theorem Iy{a r}(h:EJ a=some r):Con B 107 [.sl false (L cApi_Value a)] [] (fun r' σ'=>r'=.agg [i64 r.Za,i64 r.N,.sl true (L cU8 ([])),.sl false (L cApi_Value r.L)]∧σ'=[]):=by
 refine Co 0 5 [.cell 2 105] Tryz.func107 (fun F hE=>?_) h;unfold EJ;refine T0 [0,2] ?_;refine T0 [2] ?_;exact Sr <|Ro []
theorem VD{a r}(h:Oc a=some r):Con B 108 [.str a] [] (fun r' σ'=>r'=.agg [i64 r.Za,i64 r.N,.sl false (L cU8 r.B),.sl false (L cApi_Value r.L)]∧σ'=[]):=by
 refine Cw 6 [.cell 2 105] Tryz.func108 (fun F hE=>?_) h;unfold Oc;refine T0 [0,2] ?_;refine T0 [2] ?_;exact Sr <|Rr
theorem Je{e f a r}(h:H4 e f a=some r):Con B 118 [u64 e,u64 f,u64 a] [] (fun r' σ'=>r'=u64 r∧σ'=[]):=by
 refine Cw 26 [.tmp 6] Tryz.func118 (fun F hE=>?_) h;unfold H4;refine T0 [0,1,2] ?_;refine T0 [0,1,2,7] ?_;refine Ja (fun g=>⟨Ao 26 [(7,u64 g)],[]⟩) ?_ ?_
 ·intro q;refine Sb ?_;refine Lo (fun⟨b,c,d⟩=>⟨Ao 26 [(0,u64 b),(1,u64 c),(2,u64 a),(7,u64 d)],[]⟩) (ws []) ?_;rintro⟨b,c,d⟩ s j k l;show G2 a b c d=some j→_;unfold G2;refine Sq <|T0 [0,1,2,7,9] ?_
  refine Cd ?_ ?_
  ·refine Sk <|Tn <|Sq <|Sb <|?_
   refine Ja (fun i=>⟨Ao 26 [(0,u64 b),(1,u64 c),(2,u64 a),(7,u64 i)],[]⟩) ?_ ?_
   ·intro t;have m:¬(2:UInt64)=0:=by decide
    refine Te [0,1,2,7,14] Aa (Ew1 m) ?_;refine Cd ?_ ?_
    ·refine Ck fun n =>Fe [0,1,2,7] Aa (Ew1 n) ?_
     exact Jm (ws [])
    ·exact Sk <|Jm (ws [])
   intro i;refine Ck fun o =>Fe [0,1,2,7] Aa (Ew1 o) ?_
   refine Bn <|Tn <|?_
   have p:¬(2:UInt64)=0:=by decide
   refine Fe [0,1,2,7] Aa (Ew1 p) ?_;exact Ln (ws [])
  ·refine Sx <|Tx <|Ly l k <|Bx <|?_
   exact Jm ((ws (l':=[(7,u64 d)]) (σ':=[]) []).trans (ws []))
 intro g;refine T0 [6] ?_;exact Sr <|Rr
theorem Jv{d e r}(h:Jk d e=some r):Con B 77 [u64 d,u64 e] [] (fun r' σ'=>r'=u64 r∧σ'=[]):=by
 refine Cw 22 [.tmp 4] Tryz.func77 (fun F hE=>?_) h;unfold Jk;refine T0 [0,1] ?_;refine T0 [0,1,5] ?_;refine Ja (fun f=>⟨Ao 22 [(5,u64 f)],[]⟩) ?_ ?_
 ·intro t;have i:¬(2305843009213690799:UInt64)=0:=by decide
  refine Lt fun j k =>Te (fr':=[(0,u64 j),(1,_),(5,_)]) [0,1,5] Aa (Ew2 i k) ?_
  refine Sb ?_;refine Lo (fun⟨a,b,c⟩=>⟨Ao 22 [(0,u64 a),(1,u64 b),(5,u64 c)],[]⟩) (ws []) ?_;rintro⟨a,b,c⟩ u l m n;show Ij a b c=some l→_;unfold Ij;refine Sq <|T0 [0,1,5,9] ?_
  refine Cd ?_ ?_
  ·refine Sk <|Tn <|Sq <|Sb <|?_
   refine Ja (fun g=>⟨Ao 22 [(0,u64 a),(1,u64 b),(5,u64 g)],[]⟩) ?_ ?_
   ·intro v;have o:¬(2:UInt64)=0:=by decide
    refine Te [0,1,5,14] Aa (Ew1 o) ?_;refine Cd ?_ ?_
    ·refine Bd fun w p =>Fe [0,1,5] (o1 17 (Je p)) Ev ?_
     exact Jm (ws [])
    ·exact Sk <|Jm (ws [])
   intro g;refine Bd fun x q =>Fe [0,1,5] (o1 20 (Je q)) Ev ?_
   refine Bn <|Tn <|?_
   have s:¬(2:UInt64)=0:=by decide
   refine Fe [0,1,5] Aa (Ew1 s) ?_;exact Ln (ws [])
  ·refine Sx <|Tx <|Ly n m <|Bx <|?_
   exact Jm ((ws (l':=[(5,u64 c)]) (σ':=[]) []).trans (ws []))
 intro f;refine T0 [4] ?_;exact Sr <|Rr
theorem Rm{a r}(h:MW a=some r):Con B 56 [u64 a] [] (fun r' σ'=>r'=.tup [u64 r.1,i64 r.2]∧σ'=[]):=by
 refine Cw 12 [.tmp 2,.tmp 3] Tryz.func56 (fun F hE=>?_) h;unfold MW;refine T0 [0] ?_;refine Sq ?_;refine Tw [0,9] (fun c=>⟨Ao 12 [(0,u64 a),(9,.bool c)],[]⟩) ?_ ?_
 ·intro _;refine Sp (fun b=>?_) fun b=>?_
  ·exact Lf Aa (Ew1 b) (ws [])
  ·exact Lf Aa (Ew1 b) (ws [])
 intro c;refine Cd ?_ ?_
 ·refine T0 [2,3] ?_;exact Sr <|Tr <|Rr
 ·refine Sk <|Tn <|Bd fun e d =>Te [2,3] (o1 11 (Jv d)) Ev ?_
  exact Sr <|Rr
theorem OL{r}(h:r14_Example  = some r):Con B 20 [] [] (fun r' σ'=>r'=.agg (Ar r)∧σ'=[]):=by
 refine Cw 50 [.cell 0 36] Tryz.func20 (fun F hE=>?_) h;unfold r14_Example;refine T0 [0] ?_;refine T0 [0,1] ?_;refine Lt fun a k =>Te (σ':=[_,.box [.bs true 2 (a.length) 0 (a.length),.sl true (L Au ([])),.sl true (L Ac ([])),.sl true (L Af ([])),.sl true (L Al ([])),.sl true (L Ak ([])),.sl true (L As ([])),.sl true (L Ap ([])),.sl true (L Ae ([]))] false,.buf 3 (L Am a) false]) [0,1] Aa (Ew1 k) ?_
 refine Lt fun b l =>Te (σ':=[_,.box [.bs true 2 (a.length) 0 (a.length),.bs true 3 (b.length) 0 (b.length),.sl true (L Ac ([])),.sl true (L Af ([])),.sl true (L Al ([])),.sl true (L Ak ([])),.sl true (L As ([])),.sl true (L Ap ([])),.sl true (L Ae ([]))] false,_,.buf 5 (L Au b) false]) [0,1] Aa (Ew1 l) ?_
 refine Lt fun c m =>Te (σ':=[_,.box [.bs true 2 (a.length) 0 (a.length),.bs true 3 (b.length) 0 (b.length),.bs true 4 (c.length) 0 (c.length),.sl true (L Af ([])),.sl true (L Al ([])),.sl true (L Ak ([])),.sl true (L As ([])),.sl true (L Ap ([])),.sl true (L Ae ([]))] false,_,_,.buf 8 (L Ac c) false]) [0,1] Aa (Ew1 m) ?_
 refine Lt fun d n =>Te (σ':=[_,.box [.bs true 2 (a.length) 0 (a.length),.bs true 3 (b.length) 0 (b.length),.bs true 4 (c.length) 0 (c.length),.bs true 5 (d.length) 0 (d.length),.sl true (L Al ([])),.sl true (L Ak ([])),.sl true (L As ([])),.sl true (L Ap ([])),.sl true (L Ae ([]))] false,_,_,_,.buf 5 (L Af d) false]) [0,1] Aa (Ew1 n) ?_
 refine Lt fun e o =>Te (σ':=[_,.box [.bs true 2 (a.length) 0 (a.length),.bs true 3 (b.length) 0 (b.length),.bs true 4 (c.length) 0 (c.length),.bs true 5 (d.length) 0 (d.length),.sl true (L Al ([])),.sl true (L Ak ([])),.bs true 6 (e.length) 0 (e.length),.sl true (L Ap ([])),.sl true (L Ae ([]))] false,_,_,_,_,.buf 3 (L As e) false]) [0,1] Aa (Ew1 o) ?_
 refine Lt fun f p =>Te (σ':=[_,.box [.bs true 2 (a.length) 0 (a.length),.bs true 3 (b.length) 0 (b.length),.bs true 4 (c.length) 0 (c.length),.bs true 5 (d.length) 0 (d.length),.sl true (L Al ([])),.sl true (L Ak ([])),.bs true 6 (e.length) 0 (e.length),.bs true 7 (f.length) 0 (f.length),.sl true (L Ae ([]))] false,_,_,_,_,_,.buf 1 (L Ap f) false]) [0,1] Aa (Ew1 p) ?_
 refine Ja (fun g=>⟨Ao 50 [(0,.ref 0 0),(1,.ref 1 0)],[.box [.sl true (L Am ([])),.sl true (L Au ([])),.sl true (L Ac ([])),.sl true (L Af ([])),.sl true (L Al ([])),.sl true (L Ak ([])),.sl true (L As ([])),.sl true (L Ap ([])),.sl true (L Ae ([]))] false,.box [.bs true 2 (a.length) 0 (a.length),.bs true 3 (b.length) 0 (b.length),.bs true 4 (c.length) 0 (c.length),.bs true 5 (d.length) 0 (d.length),.sl true (L Al ([])),.sl true (L Ak ([])),.bs true 6 (e.length) 0 (e.length),.bs true 7 (f.length) 0 (f.length),.bs false 8 (g.length) 0 (g.length)] false,.buf 3 (L Am a) false,.buf 5 (L Au b) false,.buf 8 (L Ac c) false,.buf 5 (L Af d) false,.buf 3 (L As e) false,.buf 1 (L Ap f) false,.buf 16 (L Ae g) false]⟩) ?_ ?_
 ·intro z;refine T0 [0,1,2] ?_;refine Sb ?_;refine Lo (fun(v:Int×List AsG)=>(⟨Ao 50 [(0,.ref 0 0),(1,.ref 1 0),(2,i64 v.1)],[.box [.sl true (L Am ([])),.sl true (L Au ([])),.sl true (L Ac ([])),.sl true (L Af ([])),.sl true (L Al ([])),.sl true (L Ak ([])),.sl true (L As ([])),.sl true (L Ap ([])),.sl true (L Ae ([]))] false,.box [.bs true 2 (a.length) 0 (a.length),.bs true 3 (b.length) 0 (b.length),.bs true 4 (c.length) 0 (c.length),.bs true 5 (d.length) 0 (d.length),.sl true (L Al ([])),.sl true (L Ak ([])),.bs true 6 (e.length) 0 (e.length),.bs true 7 (f.length) 0 (f.length),.bs false 8 (v.2.length) 0 (v.2.length)] false,.buf 3 (L Am a) false,.buf 5 (L Au b) false,.buf 8 (L Ac c) false,.buf 5 (L Af d) false,.buf 3 (L As e) false,.buf 1 (L Ap f) false,.buf 16 (L Ae v.2) false]⟩:St)) ((HG 1 8 16 rfl rfl).trans (ws [0,1,2,3,4,5,6,7,8])) ?_;rintro⟨q,i⟩ aa s t u;show HZ q i=some s→_;unfold HZ;refine Sq <|T0 [0,1,2,32] ?_
  refine Cd ?_ ?_
  ·refine Sk <|Tn <|Sq <|Sb <|Bd fun ab w =>Te [0,1,2,3] (o1 39 (Rm w)) Ev ?_
   refine Ck fun x =>Lt fun j y =>Fe (σ':=[_,.box [.bs true 2 (a.length) 0 (a.length),.bs true 3 (b.length) 0 (b.length),.bs true 4 (c.length) 0 (c.length),.bs true 5 (d.length) 0 (d.length),.sl true (L Al ([])),.sl true (L Ak ([])),.bs true 6 (e.length) 0 (e.length),.bs true 7 (f.length) 0 (f.length),.bs false 8 (j.length) 0 (j.length)] false,_,_,_,_,_,_,.buf 16 (L Ae j) false,_]) [0,1,2] Aa (Ew2 x y) ?_
   refine Bn <|Tn <|F0 [0,1,2] ?_
   exact Ln (ws [0,1,2,3,4,5,6,7,8])
  ·refine Sx <|Tx <|Ly u t <|Bx <|?_
   exact Jm ((ws (l':=[(0,.ref 0 0),(1,.ref 1 0)]) (σ':=[.box [.sl true (L Am ([])),.sl true (L Au ([])),.sl true (L Ac ([])),.sl true (L Af ([])),.sl true (L Al ([])),.sl true (L Ak ([])),.sl true (L As ([])),.sl true (L Ap ([])),.sl true (L Ae ([]))] false,.box [.bs true 2 (a.length) 0 (a.length),.bs true 3 (b.length) 0 (b.length),.bs true 4 (c.length) 0 (c.length),.bs true 5 (d.length) 0 (d.length),.sl true (L Al ([])),.sl true (L Ak ([])),.bs true 6 (e.length) 0 (e.length),.bs true 7 (f.length) 0 (f.length),.bs false 8 (i.length) 0 (i.length)] false,.buf 3 (L Am a) false,.buf 5 (L Au b) false,.buf 8 (L Ac c) false,.buf 5 (L Af d) false,.buf 3 (L As e) false,.buf 1 (L Ap f) false,.buf 16 (L Ae i) false]) [0,1,2,3,4,5,6,7,8]).trans (ws [0,1,2,3,4,5,6,7,8]))
 intro g;refine T0 [0] ?_;exact Sr <|Rr
theorem Fa{a r}(h:CP a=some r):Con B 22 [i64 a] [] (fun r' σ'=>r'=.agg (A1 r)∧σ'=[]):=by
 refine Cw 5 [.cell 2 47] Tryz.func22 (fun F hE=>?_) h;unfold CP;refine T0 [0,2] ?_;refine T0 [2] ?_;exact Sr <|Rr
theorem M5{a r}(h:FR a=some r):Con B 128 [.agg [i64 a.Za,i64 a.Zb,i64 a.Zc]] [] (fun r' σ'=>r'=.bool r∧σ'=[]):=by
 refine Cw 42 [.tmp 2] Tryz.func128 (fun F hE=>?_) h;unfold FR;refine T0 [1] ?_;refine Sq ?_;refine Tw [1,20] (fun g=>⟨Ao 42 [(1,.ref 0 0),(20,.bool g)],[.box [i64 a.Za,i64 a.Zb,i64 a.Zc] false]⟩) ?_ ?_
 ·intro _;refine Sp (fun b=>?_) fun b=>?_
  ·exact Lf Aa (Ew1 b) (ws [0])
  ·refine Sp (fun c=>?_) fun c=>?_
   ·exact Lf Aa (Ew2 b c) (ws [0])
   ·refine Sp (fun e=>?_) fun e=>?_
    ·exact Lf Aa (Ew3 b c e) (ws [0])
    ·exact Lf Aa (Ew3 b c e) (ws [0])
 intro g;refine Cd ?_ ?_
 ·refine T0 [2] ?_;exact Sr <|Tr <|Rr
 ·refine Sk <|Tn <|Sq <|T0 [1,23] ?_
  refine Cd ?_ ?_
  ·refine T0 [2] ?_;exact Sr <|Tr <|Rr
  ·refine Sk <|Tn <|?_
   refine Tw [2] (fun i=>⟨Ao 42 [(2,.bool i)],[]⟩) ?_ ?_
   ·intro _;refine Sp (fun d=>?_) fun d=>?_
    ·refine Sp (fun f=>?_) fun f=>?_
     ·exact Lf Aa (Ew2 d f) (ws [])
     ·exact Lf Aa (Ew2 d f) (ws [])
    ·exact Lf Aa (Ew1 d) (ws [])
   intro i;exact Sr <|Rr
theorem MI{a r}(h:FG a=some r):Con B 96 [.agg [.sl false (L Am a.Ze),.sl false (L Au a.Zf)]] [] (fun r' σ'=>r'=i64 r∧σ'=[]):=by
 refine Cw 84 [.tmp 2] Tryz.func96 (fun F hE=>?_) h;unfold FG;refine T0 [1] ?_;refine Lt fun b t =>Te (fr':=[(1,_),(3,i64 b)]) [1,3] Aa (Ew1 t) ?_
 refine Sq ?_;refine Tw [1,3,18] (fun m=>⟨Ao 84 [(1,.ref 0 0),(3,i64 b),(18,.bool m)],[.box [.sl false (L Am a.Ze),.sl false (L Au a.Zf)] false]⟩) ?_ ?_
 ·intro _;refine Sp (fun j=>?_) fun j=>?_
  ·exact Lf Aa (Ew1 j) (ws [0])
  ·exact Lf Aa (Ew1 j) (ws [0])
 intro m;refine Cd ?_ ?_
 ·refine T0 [2] ?_;exact Sr <|Tr <|Rr
 ·refine Sk <|Tn <|?_
  refine Jo (fun _=>⟨Ao 84 [(1,.ref 0 0),(3,i64 b)],[.box [.sl false (L Am a.Ze),.sl false (L Au a.Zf)] false]⟩) ?_ ?_
  ·intro ar u;refine T0 [1,3,20,21,22] ?_;refine Sb ?_;refine Lo (fun k=>⟨Ao 84 [(1,.ref 0 0),(3,i64 b),(20,.sl false (L Am a.Ze)),(21,i64 (a.Ze.length:Int)),(22,i64 k)],[.box [.sl false (L Am a.Ze),.sl false (L Au a.Zf)] false]⟩) (ws [0]) ?_;rintro k au v n o;show CH a k=some v→_;unfold CH;refine T0 [1,3,20,21,22,23] ?_;refine Sq <|Cd ?_ ?_
   ·refine Sk <|Tn <|Sq <|Sb <|Ck fun w =>Lt fun x y =>Lt fun z aa =>Lt fun ab ac =>Te (σ':=[_,.box [i64 x,i64 z,i64 ab] false]) [1,3,5,20,21,22] Aa (Ew4 (qR w) y aa ac) ?_
    refine Bd fun av ad =>Te [1,3,20,21,22,28] (o1 27 (M5 ad)) Ev ?_
    refine Cd ?_ ?_
    ·refine T0 [2] ?_;exact Sr <|Br <|Tr <|Lr o n <|Br <|Jr u <|Rr
    ·refine Sk <|Bn <|Tn <|F0 [1,3,20,21,22] ?_
     exact Ln (ws [0])
   ·refine Sx <|Tx <|Lx o n <|Bx <|?_
    exact Jn ((ws (l':=[(1,.ref 0 0),(3,i64 b)]) (σ':=[.box [.sl false (L Am a.Ze),.sl false (L Au a.Zf)] false]) [0]).trans (ws [0]))
  intro _;refine Jo (fun _=>⟨Ao 84 [],[]⟩) ?_ ?_
  ·intro aw ae;refine T0 [3,31,32,33] ?_;refine Sb ?_;refine Lo (fun g=>⟨Ao 84 [(3,i64 b),(31,.sl false (L Au a.Zf)),(32,i64 (a.Zf.length:Int)),(33,i64 g)],[]⟩) (ws []) ?_;rintro g ax af p q;show CC a b g=some af→_;unfold CC;refine T0 [3,31,32,33,34] ?_;refine Sq <|Cd ?_ ?_
   ·refine Sk <|Tn <|Sq <|Sb <|Ck fun ag =>Lt fun ah ai =>Lt fun aj ak =>Lt fun al am =>Lt fun an ao =>Lt fun ap aq =>Te (σ':=[.box [i64 ah,i64 aj,i64 al,i64 an,i64 ap] false]) [3,7,31,32,33] Aa (Ev (by simp only[go_sem,qR ag,ai,ak,am,ao,aq];exact AL)) ?_
    refine Tw [3,31,32,33,82] (fun s=>⟨Ao 84 [(3,i64 b),(31,.sl false (L Au a.Zf)),(32,i64 (a.Zf.length:Int)),(33,i64 g),(82,.bool s)],[]⟩) ?_ ?_
    ·intro _;refine Sp (fun c=>?_) fun c=>?_
     ·exact Lf Aa (Ew1 c) (ws [])
     ·refine Sp (fun d=>?_) fun d=>?_
      ·exact Lf Aa (Ew2 c d) (ws [])
      ·refine Sp (fun e=>?_) fun e=>?_
       ·exact Lf Aa (Ew3 c d e) (ws [])
       ·refine Sp (fun f=>?_) fun f=>?_
        ·exact Lf Aa (Ew4 c d e f) (ws [])
        ·refine Sp (fun i=>?_) fun i=>?_
         ·exact Lf Aa (Ew5 c d e f i) (ws [])
         ·refine Sp (fun l=>?_) fun l=>?_
          ·exact Lf Aa (Ev (by simp only[go_sem,c,d,e,f,i,l];exact AL)) (ws [])
          ·exact Lf Aa (Ev (by simp only[go_sem,c,d,e,f,i,l];exact AL)) (ws [])
    intro s;refine Cd ?_ ?_
    ·refine T0 [2] ?_;exact Sr <|Br <|Tr <|Lr q p <|Br <|Jr ae <|Rr
    ·refine Sk <|Bn <|Tn <|F0 [3,31,32,33] ?_
     exact Ln (ws [])
   ·refine Sx <|Tx <|Lx q p <|Bx <|?_
    exact Jn ((ws (l':=[]) (σ':=[]) []).trans (ws []))
  intro _;refine T0 [2] ?_;exact Sr <|Rr
theorem AF{a b r}(h:AO a b=some r):Con B 129 [.bool a,.ref 0 0] [.box [i64 b] false] (fun r' σ'=>r'=.tup []∧σ'=[.box [i64 r] false]):=by
 refine Co 1 5 [] Tryz.func129 (fun F hE=>?_) h;unfold AO;refine T0 [1,4] ?_;refine Cd ?_ ?_
 ·refine F0 [] ?_;exact Ro [0]
 ·exact Sk <|Ro [0]
theorem Aq{b c d r}(h:AG b c d=some r):Con B 98 [i64 b,i64 c,i64 d] [] (fun r' σ'=>r'=.bool r∧σ'=[]):=by
 refine Cw 15 [.tmp 6] Tryz.func98 (fun F hE=>?_) h;unfold AG;refine T0 [0,1,2] ?_;refine Tw [6] (fun e=>⟨Ao 15 [(6,.bool e)],[]⟩) ?_ ?_
 ·intro _;refine Sp (fun a=>?_) fun a=>?_
  ·exact Lf Aa (Ew1 a) (ws [])
  ·exact Lf Aa (Ew1 a) (ws [])
 intro e;exact Sr <|Rr
end Go.Proofs.YtioapcamanmoiaaGreatDoor
