/-
  Part 50.
-/
import Derived.Test.YtioapcamanmoiaaGreatDoorYR49
namespace Go.Proofs.YtioapcamanmoiaaGreatDoor
open Go.Rv
set_option linter.unusedVariables false
set_option linter.unusedSimpArgs false
set_option maxRecDepth 4000
structure Few(p:Aoy):Prop where
  places:p.Zg1.Ze.length≤4096
  edges:p.Zg1.Zf.length≤4096
  types:p.Zh1.Zx.length≤4096
  wagons:p.Zh1.Zy.length≤4096
  swaps:p.Zh1.Zz.length≤4096
  washes:p.Zh1.Za1.length≤4096
  readers:p.Zi1.length≤4096
  shippers:p.Zj1.length≤4096
  railways:p.Zk1.length≤4096
  days:∀k,k<p.Zk1.length→(nth p.Zk1 k).Zf1.Ze1.length≤1000000
def AhX(c:Aow):Int:=(Hf c).getD 0
theorem AnD{c:Aow}(hl:c.Ze1.length≤1000000):Hf c=some (AhX c):=by
 obtain⟨e,h1,h2⟩:=Aha c hl;unfold AhX;rw[h2];rfl
def OS(x:UInt64):Bool:=(I4 x).getD false
theorem Ak3(x:UInt64):I4 x=some (OS x):=by
 obtain⟨e,h1,h2⟩:=Acm x;unfold OS;rw[h2];rfl
def Ld(n:Int)(r:Aot):Bool:=!(decide (0≤r.Zb1)&&decide (r.Zb1≤n-1))||(decide (r.Low < -1000)||(decide (r.Low>r.Zc1)||decide (r.Zc1>1000)))
def XE(p:Aoy)(s:Aou):Bool:=if 0≤s.Zb1∧s.Zb1<(p.Zg1.Ze.length:Int)then(nth p.Zg1.Ze s.Zb1.toNat).Za != 4 else true
def X5(n:Int)(w:Aop):Bool:=decide (w.Zq≥n)
def Wu(n:Int)(x:Aol):Bool:=decide (x.Zb≥n)||decide (x.Zc≥n)
def Aca(n:Int)(x:Aom):Bool:=decide (x.Zb≥n)
def Adm(r:Aox):Bool:=(AhX r.Zf1 != 0)||!OS r.Key
section
variable {p:Aoy}(h:Few p)
include h
theorem p1(b0:Bool):AF (fun(v:Bool×Int)=>B4 p v.1 v.2) (b0,0)=some (b0||p.Zi1.any (Ld (p.Zg1.Ze.length:Int))):=by
 have hh:=h.readers;have hp:=h.places;have hw:w64 ((p.Zg1.Ze.length:Int)-1)=(p.Zg1.Ze.length:Int)-1:=Ea (by omega);have:=JZ p.Zi1 (fun(v:Bool×Int)=>B4 p v.1 v.2) (fun k b=>(b,k)) (fun b t=>b||Ld (p.Zg1.Ze.length:Int) t) id b0 (by omega) (fun k b hk=>?_) (fun b=>?_)
 ·rw[TF]at this;exact this
 ·simp only;unfold B4;rw[AoO (by simp;omega),AoO (DM hk)];simp only[CA,Apa,GR (k:=k) (by omega),Air,ES,AaK,hw];rfl
 ·simp only;unfold B4;rw[AoQ (by simp)];rfl
theorem p2(b0:Bool):AF (fun(v:Bool×Int)=>B5 p v.1 v.2) (b0,0)=some (b0||p.Zj1.any (XE p)):=by
 have hh:=h.shippers;have hp:=h.places;have hw:w64 ((p.Zg1.Ze.length:Int)-1)=(p.Zg1.Ze.length:Int)-1:=Ea (by omega);have:=JZ p.Zj1 (fun(v:Bool×Int)=>B5 p v.1 v.2) (fun k b=>(b,k)) (fun b t=>b||XE p t) id b0 (by omega) (fun k b hk=>?_) (fun b=>?_)
 ·rw[TF]at this;exact this
 ·simp only;unfold B5;rw[AoO (by simp;omega),AoO (DM hk)];simp only[CA,Apa,GR (k:=k) (by omega),Air,ES,hw];generalize nth p.Zj1 k=s;unfold XE;cases b
  ·rw[AoQ (by simp)];by_cases hq:0≤s.Zb1∧s.Zb1<(p.Zg1.Ze.length:Int)
   ·rw[AoQ (by simp;omega),AoO (show InR s.Zb1 p.Zg1.Ze.length by unfold InR;omega),ES,AoO hq];rfl
   ·rw[AoO (by simp;omega),ES,AoQ hq];rfl
  ·rw[AoO rfl,ES];rfl
 ·simp only;unfold B5;rw[AoQ (by simp)];rfl
theorem p3(b0:Bool):AF (fun(v:Bool×Int)=>B3 p v.1 v.2) (b0,0)=some (b0||p.Zh1.Zy.any (X5 (p.Zg1.Ze.length:Int))):=by
 have hh:=h.wagons;have:=JZ p.Zh1.Zy (fun(v:Bool×Int)=>B3 p v.1 v.2) (fun k b=>(b,k)) (fun b t=>b||X5 (p.Zg1.Ze.length:Int) t) id b0 (by omega) (fun k b hk=>?_) (fun b=>?_)
 ·rw[TF]at this;exact this
 ·simp only;unfold B3;rw[AoO (by simp;omega),AoO (DM hk)];simp only[CA,Apa,GR (k:=k) (by omega),ES,AaK];rfl
 ·simp only;unfold B3;rw[AoQ (by simp)];rfl
theorem r1(n:Int)(hn:n=(p.Zg1.Ze.length:Int)):AF (fun(v:Int)=>Ht p n v) 0=some (if p.Zi1.all (fun x=>!Ld n x)=true then .inl ()else .inr (.inr false)):=by
 have hh:=h.readers;have hp:=h.places;have hw:w64 (n-1)=n-1:=Ea (by omega);refine Hz p.Zi1 (Ht p n) (fun x=>!Ld n x) _ _ (by omega) (fun k hk=>?_) ?_
 ·unfold Ht;rw[AoO (by simp;omega),AoO (DM hk)];simp only[CA,Apa,GR (k:=k) (by omega),Ag9,ES,AaK,hw];generalize nth p.Zi1 k=r;rw[show(!(decide (0≤r.Zb1)&&decide (r.Zb1≤n-1))||(decide (r.Low < -1000)||(decide (r.Zc1<r.Low)||decide (r.Zc1>1000))))=Ld n r from rfl];cases Ld n r<;>rfl
 ·unfold Ht;rw[AoQ (by simp)]
theorem r2:AF (fun(v:Int)=>H8 p (p.Zg1.Ze.length:Int) v) 0=some (if p.Zj1.all (fun x=>!XE p x)=true then .inl ()else .inr (.inr false)):=by
 have hh:=h.shippers;have hp:=h.places;have hw:w64 ((p.Zg1.Ze.length:Int)-1)=(p.Zg1.Ze.length:Int)-1:=Ea (by omega);refine Hz p.Zj1 (H8 p (p.Zg1.Ze.length:Int)) (fun x=>!XE p x) _ _ (by omega) (fun k hk=>?_) ?_
 ·unfold H8;rw[AoO (by simp;omega),AoO (DM hk)];simp only[CA,Apa,GR (k:=k) (by omega),Ag9,ES,hw];rw[AoO (DM hk)];generalize nth p.Zj1 k=s;unfold XE;by_cases hq:0≤s.Zb1∧s.Zb1<(p.Zg1.Ze.length:Int)
  ·rw[AoQ (by simp;omega),AoO (show InR s.Zb1 p.Zg1.Ze.length by unfold InR;omega),ES,AoO hq];cases(nth p.Zg1.Ze s.Zb1.toNat).Za != 4<;>rfl
  ·rw[AoO (by simp;omega),ES,AoQ hq];rfl
 ·unfold H8;rw[AoQ (by simp)]
theorem r3(n:Int):AF (fun(v:Int)=>Hy p n v) 0=some (if p.Zh1.Zy.all (fun x=>!X5 n x)=true then .inl ()else .inr (.inr false)):=by
 have hh:=h.wagons;refine Hz p.Zh1.Zy (Hy p n) (fun x=>!X5 n x) _ _ (by omega) (fun k hk=>?_) ?_
 ·unfold Hy;rw[AoO (by simp;omega),AoO (DM hk)];simp only[CA,Apa,GR (k:=k) (by omega)];rw[show decide ((nth p.Zh1.Zy k).Zq≥n)=X5 n (nth p.Zh1.Zy k)from rfl];cases X5 n (nth p.Zh1.Zy k)<;>rfl
 ·unfold Hy;rw[AoQ (by simp)]
theorem r4(n:Int):AF (fun(v:Int)=>Gk p n v) 0=some (if p.Zg1.Ze.all (fun x=>!Wu n x)=true then .inl ()else .inr (.inr false)):=by
 have hh:=h.places;refine Hz p.Zg1.Ze (Gk p n) (fun x=>!Wu n x) _ _ (by omega) (fun k hk=>?_) ?_
 ·unfold Gk;rw[AoO (by simp;omega),AoO (DM hk)];simp only[CA,Apa,GR (k:=k) (by omega),AaK,ES];generalize nth p.Zg1.Ze k=w;rw[show(decide (w.Zb≥n)||decide (w.Zc≥n))=Wu n w from rfl];cases Wu n w<;>rfl
 ·unfold Gk;rw[AoQ (by simp)]
theorem r5(n:Int):AF (fun(v:Int)=>Gq p n v) 0=some (if p.Zg1.Zf.all (fun x=>!Aca n x)=true then .inl ()else .inr (.inr false)):=by
 have hh:=h.edges;refine Hz p.Zg1.Zf (Gq p n) (fun x=>!Aca n x) _ _ (by omega) (fun k hk=>?_) ?_
 ·unfold Gq;rw[AoO (by simp;omega),AoO (DM hk)];simp only[CA,Apa,GR (k:=k) (by omega)];rw[show decide ((nth p.Zg1.Zf k).Zb≥n)=Aca n (nth p.Zg1.Zf k)from rfl];cases Aca n (nth p.Zg1.Zf k)<;>rfl
 ·unfold Gq;rw[AoQ (by simp)]
theorem r6:AF (fun(v:Int)=>DQ p v) 0=some (if p.Zk1.all (fun x=>!Adm x)=true then .inl ()else .inr (.inr 1)):=by
 have hh:=h.railways;refine Hz p.Zk1 (DQ p) (fun x=>!Adm x) _ _ (by omega) (fun k hk=>?_) ?_
 ·unfold DQ;rw[AoO (by simp;omega),AoO (DM hk)];simp only[CA,Apa,GR (k:=k) (by omega)];have hc:=AnD (h.days k hk);rw[AoO (DM hk)];generalize nth p.Zk1 k=r at *;rw[show Hf _=some (AhX r.Zf1)from hc];simp only[Ak3,ES,AaK];rw[show((AhX r.Zf1 != 0)||!OS r.Key)=Adm r from rfl];cases Adm r<;>rfl
 ·unfold DQ;rw[AoQ (by simp)]
end
def Alv(it:AoB):Bool:=(Rg it).getD false
end Go.Proofs.YtioapcamanmoiaaGreatDoor
