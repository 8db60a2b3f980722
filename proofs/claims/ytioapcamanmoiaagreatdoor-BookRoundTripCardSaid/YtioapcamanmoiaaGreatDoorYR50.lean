/-
  Part 50.
-/
import Derived.Test.YtioapcamanmoiaaGreatDoorYR49
namespace Go.Proofs.YtioapcamanmoiaaGreatDoor
open Go.Rv
set_option linter.unusedVariables false
set_option linter.unusedSimpArgs false
set_option maxRecDepth 4000
structure Few(p:Aoy):Prop where
  places:p.Zg1.Ze.length≤4096
  edges:p.Zg1.Zf.length≤4096
  types:p.Zh1.Zx.length≤4096
  wagons:p.Zh1.Zy.length≤4096
  swaps:p.Zh1.Zz.length≤4096
  washes:p.Zh1.Za1.length≤4096
  readers:p.Zi1.length≤4096
  shippers:p.Zj1.length≤4096
  railways:p.Zk1.length≤4096
  days:∀k,k<p.Zk1.length→(nth p.Zk1 k).Zf1.Ze1.length≤1000000
def Akc(c:Aow):Int:=(Hl c).getD 0
theorem Amy{c:Aow}(hl:c.Ze1.length≤1000000):Hl c=some (Akc c):=by
 obtain⟨e,h1,h2⟩:=Ajh c hl;unfold Akc;rw[h2];rfl
def P8(x:UInt64):Bool:=(Ij x).getD false
theorem Alh(x:UInt64):Ij x=some (P8 x):=by
 obtain⟨e,h1,h2⟩:=Ac0 x;unfold P8;rw[h2];rfl
def Lh(n:Int)(r:Aot):Bool:=!(decide (0≤r.Zb1)&&decide (r.Zb1≤n-1))||(decide (r.Low < -1000)||(decide (r.Low>r.Zc1)||decide (r.Zc1>1000)))
def WP(p:Aoy)(s:Aou):Bool:=if 0≤s.Zb1∧s.Zb1<(p.Zg1.Ze.length:Int)then(nth p.Zg1.Ze s.Zb1.toNat).Za != 4 else true
def Xw(n:Int)(w:Aop):Bool:=decide (w.Zq≥n)
def VU(n:Int)(x:Aol):Bool:=decide (x.Zb≥n)||decide (x.Zc≥n)
def Aco(n:Int)(x:Aom):Bool:=decide (x.Zb≥n)
def Acf(r:Aox):Bool:=(Akc r.Zf1 != 0)||!P8 r.Key
section
variable {p:Aoy}(h:Few p)
include h
theorem p1(b0:Bool):AK (fun(v:Bool×Int)=>B5 p v.1 v.2) (b0,0)=some (b0||p.Zi1.any (Lh (p.Zg1.Ze.length:Int))):=by
 have hh:=h.readers;have hp:=h.places;have hw:w64 ((p.Zg1.Ze.length:Int)-1)=(p.Zg1.Ze.length:Int)-1:=Ef (by omega);have:=JZ p.Zi1 (fun(v:Bool×Int)=>B5 p v.1 v.2) (fun k b=>(b,k)) (fun b t=>b||Lh (p.Zg1.Ze.length:Int) t) id b0 (by omega) (fun k b hk=>?_) (fun b=>?_)
 ·rw[TF]at this;exact this
 ·simp only;unfold B5;rw[AoO (by simp;omega),AoO (DM hk)];simp only[CE,Apa,Hm (k:=k) (by omega),AjX,EW,YN,hw];rfl
 ·simp only;unfold B5;rw[AoQ (by simp)];rfl
theorem p2(b0:Bool):AK (fun(v:Bool×Int)=>B8 p v.1 v.2) (b0,0)=some (b0||p.Zj1.any (WP p)):=by
 have hh:=h.shippers;have hp:=h.places;have hw:w64 ((p.Zg1.Ze.length:Int)-1)=(p.Zg1.Ze.length:Int)-1:=Ef (by omega);have:=JZ p.Zj1 (fun(v:Bool×Int)=>B8 p v.1 v.2) (fun k b=>(b,k)) (fun b t=>b||WP p t) id b0 (by omega) (fun k b hk=>?_) (fun b=>?_)
 ·rw[TF]at this;exact this
 ·simp only;unfold B8;rw[AoO (by simp;omega),AoO (DM hk)];simp only[CE,Apa,Hm (k:=k) (by omega),AjX,EW,hw];generalize nth p.Zj1 k=s;unfold WP;cases b
  ·rw[AoQ (by simp)];by_cases hq:0≤s.Zb1∧s.Zb1<(p.Zg1.Ze.length:Int)
   ·rw[AoQ (by simp;omega),AoO (show InR s.Zb1 p.Zg1.Ze.length by unfold InR;omega),EW,AoO hq];rfl
   ·rw[AoO (by simp;omega),EW,AoQ hq];rfl
  ·rw[AoO rfl,EW];rfl
 ·simp only;unfold B8;rw[AoQ (by simp)];rfl
theorem p3(b0:Bool):AK (fun(v:Bool×Int)=>B7 p v.1 v.2) (b0,0)=some (b0||p.Zh1.Zy.any (Xw (p.Zg1.Ze.length:Int))):=by
 have hh:=h.wagons;have:=JZ p.Zh1.Zy (fun(v:Bool×Int)=>B7 p v.1 v.2) (fun k b=>(b,k)) (fun b t=>b||Xw (p.Zg1.Ze.length:Int) t) id b0 (by omega) (fun k b hk=>?_) (fun b=>?_)
 ·rw[TF]at this;exact this
 ·simp only;unfold B7;rw[AoO (by simp;omega),AoO (DM hk)];simp only[CE,Apa,Hm (k:=k) (by omega),EW,YN];rfl
 ·simp only;unfold B7;rw[AoQ (by simp)];rfl
theorem r1(n:Int)(hn:n=(p.Zg1.Ze.length:Int)):AK (fun(v:Int)=>HA p n v) 0=some (if p.Zi1.all (fun x=>!Lh n x)=true then .inl ()else .inr (.inr false)):=by
 have hh:=h.readers;have hp:=h.places;have hw:w64 (n-1)=n-1:=Ef (by omega);refine HD p.Zi1 (HA p n) (fun x=>!Lh n x) _ _ (by omega) (fun k hk=>?_) ?_
 ·unfold HA;rw[AoO (by simp;omega),AoO (DM hk)];simp only[CE,Apa,Hm (k:=k) (by omega),AjT,EW,YN,hw];generalize nth p.Zi1 k=r;rw[show(!(decide (0≤r.Zb1)&&decide (r.Zb1≤n-1))||(decide (r.Low < -1000)||(decide (r.Zc1<r.Low)||decide (r.Zc1>1000))))=Lh n r from rfl];cases Lh n r<;>rfl
 ·unfold HA;rw[AoQ (by simp)]
theorem r2:AK (fun(v:Int)=>HJ p (p.Zg1.Ze.length:Int) v) 0=some (if p.Zj1.all (fun x=>!WP p x)=true then .inl ()else .inr (.inr false)):=by
 have hh:=h.shippers;have hp:=h.places;have hw:w64 ((p.Zg1.Ze.length:Int)-1)=(p.Zg1.Ze.length:Int)-1:=Ef (by omega);refine HD p.Zj1 (HJ p (p.Zg1.Ze.length:Int)) (fun x=>!WP p x) _ _ (by omega) (fun k hk=>?_) ?_
 ·unfold HJ;rw[AoO (by simp;omega),AoO (DM hk)];simp only[CE,Apa,Hm (k:=k) (by omega),AjT,EW,hw];rw[AoO (DM hk)];generalize nth p.Zj1 k=s;unfold WP;by_cases hq:0≤s.Zb1∧s.Zb1<(p.Zg1.Ze.length:Int)
  ·rw[AoQ (by simp;omega),AoO (show InR s.Zb1 p.Zg1.Ze.length by unfold InR;omega),EW,AoO hq];cases(nth p.Zg1.Ze s.Zb1.toNat).Za != 4<;>rfl
  ·rw[AoO (by simp;omega),EW,AoQ hq];rfl
 ·unfold HJ;rw[AoQ (by simp)]
theorem r3(n:Int):AK (fun(v:Int)=>H7 p n v) 0=some (if p.Zh1.Zy.all (fun x=>!Xw n x)=true then .inl ()else .inr (.inr false)):=by
 have hh:=h.wagons;refine HD p.Zh1.Zy (H7 p n) (fun x=>!Xw n x) _ _ (by omega) (fun k hk=>?_) ?_
 ·unfold H7;rw[AoO (by simp;omega),AoO (DM hk)];simp only[CE,Apa,Hm (k:=k) (by omega)];rw[show decide ((nth p.Zh1.Zy k).Zq≥n)=Xw n (nth p.Zh1.Zy k)from rfl];cases Xw n (nth p.Zh1.Zy k)<;>rfl
 ·unfold H7;rw[AoQ (by simp)]
theorem r4(n:Int):AK (fun(v:Int)=>Gr p n v) 0=some (if p.Zg1.Ze.all (fun x=>!VU n x)=true then .inl ()else .inr (.inr false)):=by
 have hh:=h.places;refine HD p.Zg1.Ze (Gr p n) (fun x=>!VU n x) _ _ (by omega) (fun k hk=>?_) ?_
 ·unfold Gr;rw[AoO (by simp;omega),AoO (DM hk)];simp only[CE,Apa,Hm (k:=k) (by omega),YN,EW];generalize nth p.Zg1.Ze k=w;rw[show(decide (w.Zb≥n)||decide (w.Zc≥n))=VU n w from rfl];cases VU n w<;>rfl
 ·unfold Gr;rw[AoQ (by simp)]
theorem r5(n:Int):AK (fun(v:Int)=>Gf p n v) 0=some (if p.Zg1.Zf.all (fun x=>!Aco n x)=true then .inl ()else .inr (.inr false)):=by
 have hh:=h.edges;refine HD p.Zg1.Zf (Gf p n) (fun x=>!Aco n x) _ _ (by omega) (fun k hk=>?_) ?_
 ·unfold Gf;rw[AoO (by simp;omega),AoO (DM hk)];simp only[CE,Apa,Hm (k:=k) (by omega)];rw[show decide ((nth p.Zg1.Zf k).Zb≥n)=Aco n (nth p.Zg1.Zf k)from rfl];cases Aco n (nth p.Zg1.Zf k)<;>rfl
 ·unfold Gf;rw[AoQ (by simp)]
theorem r6:AK (fun(v:Int)=>DV p v) 0=some (if p.Zk1.all (fun x=>!Acf x)=true then .inl ()else .inr (.inr 1)):=by
 have hh:=h.railways;refine HD p.Zk1 (DV p) (fun x=>!Acf x) _ _ (by omega) (fun k hk=>?_) ?_
 ·unfold DV;rw[AoO (by simp;omega),AoO (DM hk)];simp only[CE,Apa,Hm (k:=k) (by omega)];have hc:=Amy (h.days k hk);rw[AoO (DM hk)];generalize nth p.Zk1 k=r at *;rw[show Hl _=some (Akc r.Zf1)from hc];simp only[Alh,EW,YN];rw[show((Akc r.Zf1 != 0)||!P8 r.Key)=Acf r from rfl];cases Acf r<;>rfl
 ·unfold DV;rw[AoQ (by simp)]
end
def AnM(it:AoB):Bool:=(Qy it).getD false
end Go.Proofs.YtioapcamanmoiaaGreatDoor
