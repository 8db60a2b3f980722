/-
  Part 46.
-/
import Derived.Test.YtioapcamanmoiaaDoorYX326
import Derived.Test.YtioapcamanmoiaaDoorYX343
import Derived.Test.YtioapcamanmoiaaDoorYX344
import Derived.Test.YtioapcamanmoiaaDoorYX345
import Derived.KernelRfl
namespace Go.Proofs.YtioapcamanmoiaaDoor
open Go.Rv
set_option linter.unusedVariables false
set_option linter.unusedSimpArgs false
set_option maxRecDepth 4000
theorem Age (p : Api_Place) : Lg (Hq p):=by
 unfold Hq
 repeat' first | exact Cn | refine D8 (fun _ => ?_) (fun _ => ?_) | refine C5 ?_ (fun _ => ?_)
theorem O0 (n a b : Int) : Lg (Az n a b):=by
 unfold Az
 repeat' first | exact Cn | refine D8 (fun _ => ?_) (fun _ => ?_) | refine C5 ?_ (fun _ => ?_)
theorem Ou (b : Bool) (n : Int) : Lg (Bb b n):=by
 unfold Bb
 exact D8 (fun _ => Cn) (fun _ => Cn)
theorem Aky (n : Api_Network) (hp : n.Ze.length≤4096) (he : n.Zf.length≤4096) : Lg (Ia n):=by
 have l1 : Lg (A6 (fun (v : Int) => Ef n v) 0):=by
  refine Ey n.Ze.length id (by omega) (fun k v hk hv => ?_) (fun v hv => ?_)
  ·obtain rfl : v = (k : Int):=hv
   unfold Ef
   rw [if_pos (decide_eq_true (by omega))]
   refine Ke (Ds hk) ?_
   simp only [Cv,Int.toNat_natCast]
   refine C5 (Age _) fun b => ?_
   refine D8 (fun _ => F2 fun v' e => by cases e) fun _ => F2 fun v' e => by cases e;exact Ff (by omega)
  ·obtain rfl : v = (n.Ze.length : Int):=hv
   unfold Ef
   rw [if_neg (by simp)];exact ⟨_,rfl⟩
 have l2 : Lg (A6 (fun (v : Int) => Eg n (n.Ze.length : Int) v) 0):=by
  refine Ey n.Zf.length id (by omega) (fun k v hk hv => ?_) (fun v hv => ?_)
  ·obtain rfl : v = (k : Int):=hv
   unfold Eg
   rw [if_pos (decide_eq_true (by omega))]
   refine Ke (Ds hk) ?_
   simp only [Cv,Int.toNat_natCast]
   refine C5 ?_ fun b => ?_
   ·repeat' first | exact Cn | refine D8 (fun _ => ?_) (fun _ => ?_)
   ·exact D8 (fun _ => F2 fun v' e => by cases e) fun _ => F2 fun v' e => by cases e;exact Ff (by omega)
  ·obtain rfl : v = (n.Zf.length : Int):=hv
   unfold Eg
   rw [if_neg (by simp)];exact ⟨_,rfl⟩
 obtain ⟨x1,e1,_⟩:=l1
 obtain ⟨x2,e2,_⟩:=l2
 unfold Ia
 simp only [Cv]
 refine C5 ?_ fun b => ?_
 ·repeat' first | exact Cn | refine D8 (fun _ => ?_) (fun _ => ?_)
 ·refine D8 (fun _ => Cn) fun _ => ?_
  rw [e1,e2]
  rcases x1 with u | (u | m) <;> rcases x2 with w | (w | m2) <;> (try cases u) <;> (try cases w) <;> exact ⟨_,rfl,trivial⟩
theorem Ajk (c : Api_Calendar) (hl : c.Ze1.length≤1000000) : Lg (G5 c):=by
 have l1 : Lg (A6 (fun (v : Int×Int) => Eb c v.1 v.2) (-1,0)):=by
  refine Ey c.Ze1.length (fun v => v.2) (by omega) (fun k v hk hv => ?_) (fun v hv => ?_)
  ·obtain ⟨a,t⟩:=v
   obtain rfl : t = (k : Int):=hv
   simp only
   unfold Eb
   rw [if_pos (decide_eq_true (by omega))]
   refine Ke (Ds hk) ?_
   simp only [Cv,Int.toNat_natCast]
   refine C5 ?_ fun b => ?_
   ·repeat' first | exact Cn | refine D8 (fun _ => ?_) (fun _ => ?_)
   ·exact D8 (fun _ => F2 fun v' e => by cases e) fun _ => F2 fun v' e => by cases e;exact Ff (by omega)
  ·obtain ⟨a,t⟩:=v
   obtain rfl : t = (c.Ze1.length : Int):=hv
   simp only
   unfold Eb
   rw [if_neg (by simp)];exact ⟨_,rfl⟩
 obtain ⟨x1,e1,_⟩:=l1
 unfold G5
 simp only [Cv]
 refine C5 ?_ fun b => ?_
 ·repeat' first | exact Cn | refine D8 (fun _ => ?_) (fun _ => ?_) | refine C5 ?_ (fun _ => ?_)
 ·cases b
  ·rw [e1]
   rcases x1 with u | (u | m) <;> (try cases u) <;> exact ⟨_,rfl,trivial⟩
  ·exact ⟨_,rfl,trivial⟩
theorem AgQ (f : Api_Fleet) (h1 : f.Zx.length≤4096) (h2 : f.Zy.length≤4096) (h3 : f.Zz.length≤4096) (h4 : f.Za1.length≤4096) : Lg (Kl f):=by
 have l1 : ∀ (a b c d : Int) (e0 : Int),Lg (A6 (fun (v : Int×Int) => Fj (([a,b,c,d] : List Int).length : Int) [a,b,c,d] v.1 v.2) (0,e0)):=by
  intro a b c d e0
  refine Ey 4 (fun v => v.1) (by omega) (fun k v hk hv => ?_) (fun v hv => ?_)
  ·obtain ⟨t,e⟩:=v
   obtain rfl : t = (k : Int):=hv
   simp only
   unfold Fj
   rw [if_pos (decide_eq_true (by simp;omega))]
   refine Ke (Ds (by simpa using hk)) ?_
   exact C5 (O0 _ _ _) fun _ => C5 (Ou _ _) fun _ => F2 fun v' e => by cases e;exact Ff (by omega)
  ·obtain ⟨t,e⟩:=v
   obtain rfl : t = 4:=hv
   simp only
   unfold Fj
   rw [if_neg (by simp)];exact ⟨_,rfl⟩
 have l2 : ∀ e0,Lg (A6 (fun (v : Int×Int) => Fx f v.1 v.2) (0,e0)):=by
  intro e0
  refine Ey f.Zx.length (fun v => v.1) (by omega) (fun k v hk hv => ?_) (fun v hv => ?_)
  ·obtain ⟨t,e⟩:=v
   obtain rfl : t = (k : Int):=hv
   simp only
   unfold Fx
   rw [if_pos (decide_eq_true (by omega))]
   refine C5 ?_ fun _ => F2 fun v' e => by cases e;exact Ff (by omega)
   refine Ke (Ds hk) ?_
   simp only [Cv,Int.toNat_natCast]
   refine C5 (C5 (l1 _ _ _ _ _) fun _ => Cn) fun _ => ?_
   repeat' first | exact Cn | exact O0 _ _ _ | exact Ou _ _ | refine D8 (fun _ => ?_) (fun _ => ?_) | refine C5 ?_ (fun _ => ?_)
  ·obtain ⟨t,e⟩:=v
   obtain rfl : t = (f.Zx.length : Int):=hv
   simp only
   unfold Fx
   rw [if_neg (by simp)];exact ⟨_,rfl⟩
 have l3 : ∀ e0,Lg (A6 (fun (v : Int×Int) => Ft f v.1 v.2) (0,e0)):=by
  intro e0
  refine Ey f.Zy.length (fun v => v.1) (by omega) (fun k v hk hv => ?_) (fun v hv => ?_)
  ·obtain ⟨t,e⟩:=v
   obtain rfl : t = (k : Int):=hv
   simp only
   unfold Ft
   rw [if_pos (decide_eq_true (by omega))]
   refine Ke (Ds hk) ?_
   simp only [Cv,Int.toNat_natCast]
   refine C5 ?_ fun _ => C5 ?_ fun _ => F2 fun v' e => by cases e;exact Ff (by omega)
   all_goals (repeat' first | exact Cn | exact O0 _ _ _ | exact Ou _ _ | refine D8 (fun _ => ?_) (fun _ => ?_) | refine C5 ?_ (fun _ => ?_))
  ·obtain ⟨t,e⟩:=v
   obtain rfl : t = (f.Zy.length : Int):=hv
   simp only
   unfold Ft
   rw [if_neg (by simp)];exact ⟨_,rfl⟩
 have l4 : ∀ e0,Lg (A6 (fun (v : Int×Int) => Fs f v.1 v.2) (0,e0)):=by
  intro e0
  refine Ey f.Zz.length (fun v => v.1) (by omega) (fun k v hk hv => ?_) (fun v hv => ?_)
  ·obtain ⟨t,e⟩:=v
   obtain rfl : t = (k : Int):=hv
   simp only
   unfold Fs
   rw [if_pos (decide_eq_true (by omega))]
   refine Ke (Ds hk) ?_
   simp only [Cv,Int.toNat_natCast]
   refine C5 ?_ fun _ => F2 fun v' e => by cases e;exact Ff (by omega)
   repeat' first | exact Cn | exact O0 _ _ _ | exact Ou _ _ | refine D8 (fun _ => ?_) (fun _ => ?_) | refine C5 ?_ (fun _ => ?_)
  ·obtain ⟨t,e⟩:=v
   obtain rfl : t = (f.Zz.length : Int):=hv
   simp only
   unfold Fs
   rw [if_neg (by simp)];exact ⟨_,rfl⟩
 have l5 : ∀ e0 g0,Lg (A6 (fun (v : Int×Int×Arr Bool 4096) => Fo f v.1 v.2.1 v.2.2) (0,e0,g0)):=by
  intro e0 g0
  refine Ey f.Za1.length (fun v => v.1) (by omega) (fun k v hk hv => ?_) (fun v hv => ?_)
  ·obtain ⟨t,e,g⟩:=v
   obtain rfl : t = (k : Int):=hv
   simp only
   unfold Fo
   rw [if_pos (decide_eq_true (by omega))]
   refine C5 ?_ fun ⟨_,_⟩ => F2 fun v' e => by cases e;exact Ff (by omega)
   refine Ke (Ds hk) ?_
   simp only [Cv,Int.toNat_natCast]
   generalize nth f.Za1 k = w
   refine Ig (Q:=fun b => b = true→(0≤w.Zw∧w.Zw≤63)∧(0≤w.To∧w.To≤63)) ?_ fun b hb => ?_
   ·have hbt : ∀ n lo hi,TP (Az n lo hi) fun b => b = true→lo≤n∧n≤hi:=by
     intro n lo hi
     unfold Az
     refine Ig (Q:=fun b => b = true→lo≤n∧n≤hi) (D8 (fun h => F2 fun q => ?_) fun _ => F2 fun q => by cases q) fun b hb => F2 hb
     simp only [decide_eq_true_eq] at h q
     exact ⟨h,q⟩
    refine Ig (hbt _ _ _) fun b hb => D8 (fun h => ?_) fun _ => F2 fun q => by cases q
    refine Ig (hbt _ _ _) fun b2 hb2 => D8 (fun h2 => ?_) fun _ => F2 fun q => by cases q
    refine D8 (fun _ => C5 (O0 _ _ _) fun _ => F2 fun _ => ⟨hb h,hb2 h2⟩) fun _ => F2 fun q => by cases q
   ·refine C5 (Ou _ _) fun _ => D8 (fun h => ?_) fun _ => Cn
    have hw:=hb h
    refine Ke ⟨by omega,by omega⟩ (Ke ⟨by omega,by omega⟩ (C5 (Ou _ _) fun _ => Ke ⟨by omega,by omega⟩ (Ke ⟨by omega,by omega⟩ Cn)))
  ·obtain ⟨t,e,g⟩:=v
   obtain rfl : t = (f.Za1.length : Int):=hv
   simp only
   unfold Fo
   rw [if_neg (by simp)];exact ⟨_,rfl⟩
 unfold Kl
 refine C5 ?_ fun b => D8 (fun _ => Cn) fun _ => ?_
 ·repeat' first | exact Cn | refine D8 (fun _ => ?_) (fun _ => ?_)
 ·exact C5 (C5 (l2 _) fun _ => Cn) fun _ => C5 (C5 (l3 _) fun _ => Cn) fun _ => C5 (C5 (l4 _) fun _ => Cn) fun _ => C5 (C5 (l5 _ _) fun _ => Cn) fun _ => Cn
structure Few (p : Api_Pool) : Prop where
 places : p.Zg1.Ze.length≤4096
 edges : p.Zg1.Zf.length≤4096
 types : p.Zh1.Zx.length≤4096
 wagons : p.Zh1.Zy.length≤4096
 swaps : p.Zh1.Zz.length≤4096
 washes : p.Zh1.Za1.length≤4096
 readers : p.Zi1.length≤4096
 shippers : p.Zj1.length≤4096
 railways : p.Zk1.length≤4096
 days : ∀ k,k < p.Zk1.length→(nth p.Zk1 k).Zf1.Ze1.length≤1000000
theorem Ahe {p : Api_Pool} (h : Few p) : Lg (C3 p):=by
 have q1:=h.places
 have q2:=h.edges
 have q3:=h.wagons
 have q4:=h.readers
 have q5:=h.shippers
 have q6:=h.railways
 have l1 : ∀ b0,Lg (A6 (fun (v : Bool×Int) => Dy p v.1 v.2) (b0,0)):=by
  intro b0
  refine Ey p.Zi1.length (fun v => v.2) (by omega) (fun k v hk hv => ?_) (fun v hv => ?_)
  ·obtain ⟨b,t⟩:=v
   obtain rfl : t = (k : Int):=hv
   simp only
   unfold Dy
   rw [if_pos (decide_eq_true (by omega))]
   refine Ke (Ds hk) ?_
   simp only [Cv,Int.toNat_natCast]
   refine C5 ?_ fun _ => F2 fun v' e => by cases e;exact Ff (by omega)
   repeat' first | exact Cn | exact O0 _ _ _ | refine D8 (fun _ => ?_) (fun _ => ?_) | refine C5 ?_ (fun _ => ?_)
  ·obtain ⟨b,t⟩:=v
   obtain rfl : t = (p.Zi1.length : Int):=hv
   simp only
   unfold Dy
   rw [if_neg (by simp)];exact ⟨_,rfl⟩
 have l2 : ∀ b0,Lg (A6 (fun (v : Bool×Int) => Dz p v.1 v.2) (b0,0)):=by
  intro b0
  refine Ey p.Zj1.length (fun v => v.2) (by omega) (fun k v hk hv => ?_) (fun v hv => ?_)
  ·obtain ⟨b,t⟩:=v
   obtain rfl : t = (k : Int):=hv
   simp only
   unfold Dz
   rw [if_pos (decide_eq_true (by omega))]
   refine Ke (Ds hk) ?_
   simp only [Cv,Int.toNat_natCast]
   refine C5 ?_ fun _ => F2 fun v' e => by cases e;exact Ff (by omega)
   refine D8 (fun _ => Cn) fun _ => ?_
   have hw : w64 ((p.Zg1.Ze.length : Int) - 1) = (p.Zg1.Ze.length : Int) - 1:=Cy (by omega)
   rw [hw]
   generalize (nth p.Zj1 k).Zb1 = n
   have hbt : TP (Az n 0 ((p.Zg1.Ze.length : Int) - 1)) fun b => b = true→0≤n∧n≤(p.Zg1.Ze.length : Int) - 1:=by
    unfold Az
    refine Ig (Q:=fun b => b = true→0≤n∧n≤(p.Zg1.Ze.length : Int) - 1) (D8 (fun h => F2 fun q => ?_) fun _ => F2 fun q => by cases q) fun b hb => F2 hb
    simp only [decide_eq_true_eq] at h q
    exact ⟨h,q⟩
   refine Ig hbt fun c hc => D8 (fun _ => Cn) fun hn => ?_
   have hn':=hc (by simpa using hn)
   exact Ke ⟨by omega,by omega⟩ Cn
  ·obtain ⟨b,t⟩:=v
   obtain rfl : t = (p.Zj1.length : Int):=hv
   simp only
   unfold Dz
   rw [if_neg (by simp)];exact ⟨_,rfl⟩
 have l3 : ∀ b0,Lg (A6 (fun (v : Bool×Int) => Dt p v.1 v.2) (b0,0)):=by
  intro b0
  refine Ey p.Zh1.Zy.length (fun v => v.2) (by omega) (fun k v hk hv => ?_) (fun v hv => ?_)
  ·obtain ⟨b,t⟩:=v
   obtain rfl : t = (k : Int):=hv
   simp only
   unfold Dt
   rw [if_pos (decide_eq_true (by omega))]
   refine Ke (Ds hk) ?_
   simp only [Cv,Int.toNat_natCast]
   refine C5 ?_ fun _ => F2 fun v' e => by cases e;exact Ff (by omega)
   exact D8 (fun _ => Cn) (fun _ => Cn)
  ·obtain ⟨b,t⟩:=v
   obtain rfl : t = (p.Zh1.Zy.length : Int):=hv
   simp only
   unfold Dt
   rw [if_neg (by simp)];exact ⟨_,rfl⟩
 have l4 : ∀ n b0,Lg (A6 (fun (v : Bool×Int) => Dx p n v.1 v.2) (b0,0)):=by
  intro n b0
  refine Ey p.Zg1.Ze.length (fun v => v.2) (by omega) (fun k v hk hv => ?_) (fun v hv => ?_)
  ·obtain ⟨b,t⟩:=v
   obtain rfl : t = (k : Int):=hv
   simp only
   unfold Dx
   rw [if_pos (decide_eq_true (by omega))]
   refine Ke (Ds hk) ?_
   simp only [Cv,Int.toNat_natCast]
   refine C5 ?_ fun _ => F2 fun v' e => by cases e;exact Ff (by omega)
   exact D8 (fun _ => Cn) (fun _ => D8 (fun _ => Cn) (fun _ => Cn))
  ·obtain ⟨b,t⟩:=v
   obtain rfl : t = (p.Zg1.Ze.length : Int):=hv
   simp only
   unfold Dx
   rw [if_neg (by simp)];exact ⟨_,rfl⟩
 have l5 : ∀ n b0,Lg (A6 (fun (v : Bool×Int) => Du p n v.1 v.2) (b0,0)):=by
  intro n b0
  refine Ey p.Zg1.Zf.length (fun v => v.2) (by omega) (fun k v hk hv => ?_) (fun v hv => ?_)
  ·obtain ⟨b,t⟩:=v
   obtain rfl : t = (k : Int):=hv
   simp only
   unfold Du
   rw [if_pos (decide_eq_true (by omega))]
   refine Ke (Ds hk) ?_
   simp only [Cv,Int.toNat_natCast]
   refine C5 ?_ fun _ => F2 fun v' e => by cases e;exact Ff (by omega)
   exact D8 (fun _ => Cn) (fun _ => Cn)
  ·obtain ⟨b,t⟩:=v
   obtain rfl : t = (p.Zg1.Zf.length : Int):=hv
   simp only
   unfold Du
   rw [if_neg (by simp)];exact ⟨_,rfl⟩
 have l6 : ∀ b0,Lg (A6 (fun (v : Bool×Int) => Dv p v.1 v.2) (b0,0)):=by
  intro b0
  refine Ey p.Zk1.length (fun v => v.2) (by omega) (fun k v hk hv => ?_) (fun v hv => ?_)
  ·obtain ⟨b,t⟩:=v
   obtain rfl : t = (k : Int):=hv
   simp only
   unfold Dv
   rw [if_pos (decide_eq_true (by omega))]
   refine Ke (Ds hk) ?_
   simp only [Cv,Int.toNat_natCast]
   refine C5 ?_ fun _ => F2 fun v' e => by cases e;exact Ff (by omega)
   refine D8 (fun _ => Cn) fun _ => C5 (Ajk _ (h.days k hk)) fun _ => D8 (fun _ => Cn) fun _ => ?_
   exact C5 (Ae6 _) fun _ => Cn
  ·obtain ⟨b,t⟩:=v
   obtain rfl : t = (p.Zk1.length : Int):=hv
   simp only
   unfold Dv
   rw [if_neg (by simp)];exact ⟨_,rfl⟩
 unfold C3
 simp only [Cv]
 refine C5 (Aky _ h.places h.edges) fun _ => D8 (fun _ => Cn) fun _ => C5 (AgQ _ h.types h.wagons h.swaps h.washes) fun _ => D8 (fun _ => Cn) fun _ => ?_
 refine C5 ?_ fun b => D8 (fun _ => Cn) fun _ => ?_
 ·repeat' first | exact Cn | refine D8 (fun _ => ?_) (fun _ => ?_)
 ·exact C5 (C5 (l1 _) fun _ => Cn) fun _ => C5 (C5 (l2 _) fun _ => Cn) fun _ => C5 (C5 (l3 _) fun _ => Cn) fun _ => C5 (C5 (l4 _ _) fun _ => Cn) fun _ => C5 (C5 (l5 _ _) fun _ => Cn) fun _ => C5 (C5 (l6 _) fun _ => Cn) fun _ => D8 (fun _ => Cn) fun _ => Cn
set_option maxHeartbeats 1000000
def Ck0 (c : Edi_checker) : Prop:=c.it.Zu1.length≤1000000
abbrev CkO (o : Option Edi_checker) : Prop:=TP o Ck0
section
variable {c : Edi_checker} (h : Ck0 c) (a b : Int)
include h
theorem k12 : CkO (Dl c a b):=by
 unfold Dl
 exact C5 (D8 (fun _ => D8 (fun _ => Cn) fun _ => Cn) fun _ => Cn) fun _ => F2 h
theorem k14 : CkO (B8 c a b):=by
 unfold B8
 exact C5 (D8 (fun _ => D8 (fun _ => Cn) fun _ => Cn) fun _ => Cn) fun _ => F2 h
theorem k15 : CkO (B7 c a b):=by
 unfold B7
 exact C5 (D8 (fun _ => D8 (fun _ => Cn) fun _ => Cn) fun _ => Cn) fun _ => F2 h
theorem k16 : CkO (Dm c a b):=by
 unfold Dm
 exact C5 (D8 (fun _ => D8 (fun _ => Cn) fun _ => Cn) fun _ => Cn) fun _ => F2 h
theorem k17 : CkO (Do c a b):=by
 unfold Do
 exact C5 (D8 (fun _ => D8 (fun _ => Cn) fun _ => Cn) fun _ => Cn) fun _ => F2 h
theorem k18 : CkO (Bu c a b):=by
 unfold Bu
 exact C5 (D8 (fun _ => D8 (fun _ => Cn) fun _ => Cn) fun _ => Cn) fun _ => F2 h
theorem k19 : CkO (Di c a b):=by
 unfold Di
 exact C5 (D8 (fun _ => D8 (fun _ => Cn) fun _ => Cn) fun _ => Cn) fun _ => F2 h
theorem k20 : CkO (Dk c a b):=by
 unfold Dk
 exact C5 (D8 (fun _ => D8 (fun _ => Cn) fun _ => Cn) fun _ => Cn) fun _ => F2 h
theorem k21 : CkO (Cu c a b):=by
 unfold Cu
 exact C5 (D8 (fun _ => D8 (fun _ => Cn) fun _ => Cn) fun _ => Cn) fun _ => F2 h
theorem k22 : CkO (Cp c a b):=by
 unfold Cp
 exact C5 (D8 (fun _ => D8 (fun _ => Cn) fun _ => Cn) fun _ => Cn) fun _ => F2 h
omit h in
theorem Tm {o : Option Edi_checker} (h : CkO o) : CkO (o.bind fun y => some y):=Ig h fun _ q => F2 q
theorem Aco : CkO (Db c):=by unfold Db;exact Tm (k12 h _ _)
theorem Vc : CkO (Bw c):=by unfold Bw;exact Tm (k16 h _ _)
theorem Ag9 : CkO (D0 c):=by unfold D0;exact Ig (k17 h _ _) fun _ q => Tm (Vc q)
theorem Vh : CkO (Cl c):=by unfold Cl;exact Tm (k14 h _ _)
theorem Ah7 : CkO (Ec c):=by unfold Ec;exact Tm (k20 h _ _)
theorem R4 (k : Int) : TP (B1 c k) fun y => Ck0 y.2:=by
 unfold B1
 refine C5 ?_ fun ⟨_,_,_⟩ => C5 ?_ fun _ => F2 h
 ·refine Ig (Q:=fun t => t = true→0≤c.it.Zb1∧c.it.Zb1 < (c.p.Zg1.Ze.length : Int)) (D8 (fun h1 => F2 fun h2 => ?_) fun _ => F2 fun q => by cases q) fun t ht => D8 (fun q => ?_) fun _ => Cn
  ·simp only [decide_eq_true_eq] at h1 h2
   exact ⟨h1,h2⟩
  ·have:=ht q
   refine Ke ⟨by omega,by omega⟩ ?_
   simp only [Cv]
   exact Cn
 ·repeat' first | exact Cn | refine D8 (fun _ => ?_) (fun _ => ?_)
end
theorem AiB (l : List Api_Part) (b : Bool) (hl : l.length≤1000000) : Lg (L7 l b):=by
 have l1 : Lg (A6 (fun (v : Int) => Hm l b v) 0):=by
  refine Ey l.length id (by omega) (fun k v hk hv => ?_) (fun v hv => ?_)
  ·obtain rfl : v = (k : Int):=hv
   unfold Hm
   rw [if_pos (decide_eq_true (by omega))]
   refine Ke (Ds hk) ?_
   simp only [Cv]
   refine C5 ?_ fun b => ?_
   ·repeat' first | exact Cn | refine D8 (fun _ => ?_) (fun _ => ?_)
   ·exact D8 (fun _ => F2 fun v' e => by cases e) fun _ => F2 fun v' e => by cases e;exact Ff (by omega)
  ·obtain rfl : v = (l.length : Int):=hv
   unfold Hm
   rw [if_neg (by simp)];exact ⟨_,rfl⟩
 obtain ⟨x1,e1,_⟩:=l1
 unfold L7
 rw [e1]
 rcases x1 with u | (u | m) <;> (try cases u) <;> exact ⟨_,rfl,trivial⟩
theorem Agd {c : Edi_checker} (h : Ck0 c) : CkO (D4 c):=by
 unfold D4
 refine D8 (fun _ => F2 h) fun _ => Ig (Aco h) fun c h => D8 (fun _ => ?_) fun _ => D8 (fun _ => ?_) fun _ => ?_
 ·exact Ig (k14 h _ _) fun c h => Tm (Vc h)
 ·exact Ig (R4 h _) fun c h => Tm (Ag9 h)
 refine C5 (D8 (fun _ => Cn) fun _ => Cn) fun _ => D8 (fun _ => ?_) fun _ => D8 (fun _ => ?_) fun _ => ?_
 ·refine Ig (R4 h _) fun c h => C5 ?_ fun _ => Ig (Vc (show Ck0 _ from h)) fun c h => Tm (k18 h _ _)
  repeat' first | exact Cn | refine D8 (fun _ => ?_) (fun _ => ?_)
 ·exact Ig (k15 h _ _) fun c h => Ig (Vh h) fun c h => Ig (R4 h _) fun c h => Ig (k19 h _ _) fun c h => Ig (Ah7 h) fun c h => Ig (k21 h _ _) fun c h => Tm (Vc h)
 refine C5 (D8 (fun _ => Cn) fun _ => Cn) fun _ => D8 (fun _ => ?_) fun _ => F2 h
 exact Ig (R4 h _) fun c h => Ig (Vh h) fun c h => Ig (Vc h) fun c h => D8 (fun _ => Tm (k18 h _ _)) fun _ => F2 h
theorem Amb {c : Edi_checker} (h : Ck0 c) : CkO (Ez c):=by
 unfold Ez
 refine D8 (fun _ => ?_) fun _ => D8 (fun _ => ?_) fun _ => D8 (fun _ => ?_) fun _ => ?_
 ·exact Ig (Aco h) fun c h => Ig (Vc h) fun c h => Tm (k18 h _ _)
 ·refine Ig (Aco h) fun c h => Ig (R4 h _) fun c h => Ig (Ag9 h) fun c h => Ig (k18 h _ _) fun c h => Ig (k22 h _ _) fun c h => C5 ?_ fun _ => F2 (show Ck0 _ by unfold Ck0;simp)
  exact D8 (fun _ => C5 (AiB _ _ h) fun _ => Cn) fun _ => Cn
 ·refine Ig (k14 h _ _) fun c h => C5 ?_ fun _ => F2 (show Ck0 _ by unfold Ck0;simp)
  exact D8 (fun _ => D8 (fun _ => C5 (AiB _ _ h) fun _ => Cn) fun _ => Cn) fun _ => Cn
 refine C5 ?_ fun _ => D8 (fun _ => ?_) fun _ => D8 (fun _ => F2 h) fun _ => D8 (fun _ => ?_) fun _ => F2 h
 ·exact D8 (fun _ => Cn) fun _ => D8 (fun _ => Cn) fun _ => Cn
 ·refine Ig (k15 h _ _) fun c h => Ig (Vc h) fun c h => D8 (fun _ => C5 ?_ fun _ => F2 h) fun _ => F2 h
  repeat' first | exact Cn | refine D8 (fun _ => ?_) (fun _ => ?_)
 ·exact Ig (Vh h) fun c h => Ig (R4 h _) fun c h => Ig (Ah7 h) fun c h => Ig (k15 h _ _) fun c h => Ig (k21 h _ _) fun c h => Ig (Ag9 h) fun c h => Tm (k22 h _ _)
theorem AdO (p : Api_Pool) (it : Api_Item) (h : it.Zu1.length≤1000000) : Lg (Md p it):=by
 unfold Md
 refine C5 (D8 (fun _ => Ig (Agd (show Ck0 { p:=p,it:=it,ok:=true } from h)) fun _ _ => Cn) fun _ => Ig (Amb (show Ck0 { p:=p,it:=it,ok:=true } from h)) fun _ _ => Cn) ?_
 rintro ⟨_,_,_,_,_,_,_,_,_,_,_,_,_,_,_,_,_,_,_,_,_,_,_,_,_,_⟩
 repeat' first | exact Cn | refine D8 (fun _ => ?_) (fun _ => ?_) | refine C5 ?_ (fun _ => ?_)
theorem Z5 {p : Api_Pool} (h : Few p) : ∃ f,C3 p = some f∧∀ it : Api_Item,it.Zu1.length≤1000000→∃ e,J9 p it = some e:=by
 obtain ⟨f,hf,_⟩:=Ahe h
 refine ⟨f,hf,fun it hp => ?_⟩
 have : Lg (J9 p it):=by
  unfold J9
  rw [hf,Option.bind_some]
  refine D8 (fun _ => Cn) fun _ => C5 ?_ fun _ => D8 (fun _ => Cn) fun _ => Cn
  refine C5 ?_ fun _ => D8 (fun _ => Cn) fun _ => C5 (AdO p it hp) fun _ => Cn
  unfold Jq
  repeat' first | exact Cn | refine D8 (fun _ => ?_) (fun _ => ?_) | refine C5 ?_ (fun _ => ?_)
 obtain ⟨e,he,_⟩:=this
 exact ⟨e,he⟩
end Go.Proofs.YtioapcamanmoiaaDoor
namespace Go.Proofs.YtioapcamanmoiaaDoor.Kc
open Go.Rv
set_option linter.unusedVariables false
set_option linter.unusedSimpArgs false
theorem Cj {α β : Type} {o : Option α} {a : α} {f : α→Option β} (h : o = some a) : o.bind f = f a:=by rw [h];rfl
theorem Aka {α β : Type} (x y : α) (f : α→Option β) (h : x = y) : lt1 x f = f y:=by rw [h];rfl
theorem Ann (x : UInt64) (n : Nat) : (Gb x n).toNat = x.toNat / 2 ^ n:=by
 show (x.toBitVec >>> n).toNat = _
 rw [BitVec.toNat_ushiftRight,Nat.shiftRight_eq_div_pow];rfl
theorem Y8 {k : Nat} (h : k < 9223372036854775807) : w64 ((k : Int) + 1) = ((k + 1 : Nat) : Int):=by
 rw [Cy (by omega)];rfl
theorem Qo (x : Api_Value) : Api_Value.mk x.Za x.N x.B x.L = x:=by cases x;rfl
mutual
def szV : Api_Value→Nat
 | .mk _ _ b l => b.length + 1 + szVs l
def szVs : List Api_Value→Nat
 | [] => 0
 | x :: l => szV x + szVs l
end
theorem Al8 (x : Api_Value) : 0 < szV x:=by
  cases x with
  | mk k n b l => simp only [szV];omega
theorem O2 {l : List Api_Value} {x : Api_Value} (h : x ∈ l) : szV x≤szVs l:=by
  induction l with
  | nil => cases h
  | cons y l ih =>
    simp only [szVs]
    rcases List.mem_cons.1 h with rfl | h
    · omega
    · have:=ih h;omega
theorem AaB (l : List Api_Value) : l.length≤szVs l:=by
  induction l with
  | nil => simp [szVs]
  | cons y l ih =>
    have:=Al8 y
    simp only [szVs,List.length_cons];omega
theorem szV_eq (x : Api_Value) : szV x = x.B.length + 1 + szVs x.L:=by
  cases x with
  | mk k n b l => rfl
def nbF : Nat→Nat→Nat
 | 0,_ => 0
 | f + 1,u => if u = 0 then 0 else nbF f (u / 256) + 1
def nb (u : Nat) : Nat:=nbF 8 u
theorem AqX (f u : Nat) : nbF f u≤f:=by
  induction f generalizing u with
  | zero => exact Nat.le_refl _
  | succ f ih =>
    unfold nbF
    split
    · omega
    · have:=ih (u / 256);omega
theorem AqD (f u : Nat) (h : u < 256 ^ f) (m : Nat) : nbF (f + m) u = nbF f u:=by
  induction f generalizing u with
  | zero =>
    have : u = 0:=by simpa using h
    subst this
    cases m with
    | zero => rfl
    | succ m => rw [Nat.zero_add];unfold nbF;simp
  | succ f ih =>
    rw [show f + 1 + m = (f + m) + 1 by omega]
    unfold nbF
    split
    · rfl
    · rw [ih (u / 256) (by rw [Nat.pow_succ] at h;omega)]
theorem Apu (u : Nat) : nb u≤8:=AqX 8 u
theorem AmJ : nb 0 = 0:=rfl
theorem AlK (u : Nat) (h : u≠0) (hu : u < 256 ^ 8) : nb u = nb (u / 256) + 1:=by
 unfold nb
 rw [show (8 : Nat) = 7 + 1 from rfl]
 rw [AqD 7 (u / 256) (by have : (256 : Nat) ^ 8 = 256 ^ 7 * 256:=rfl;omega) 1]
 conv => lhs;unfold nbF
 rw [if_neg h]
theorem Aiq (u : UInt64) : Da u = some ((nb u.toNat : Nat) : Int):=by
 obtain ⟨x,hx,hq⟩:=Ej (f:=fun (v : UInt64×Int) => B2 v.1 v.2)
  (fun v => ∃ k : Nat,v.2 = (k : Int)∧k + nb v.1.toNat = nb u.toNat) (fun v => v.1.toNat) (fun x => x = ((nb u.toNat : Nat) : Int))
  (by
   rintro ⟨u',k'⟩ ⟨k,hk,hkn⟩
   simp only at hk hkn
   subst hk
   have hlt : u'.toNat < 256 ^ 8:=by have:=u'.toNat_lt;exact this
   by_cases h0 : u'.toNat = 0
   ·right
    refine ⟨(k : Int),?_,?_⟩
    ·show B2 u' (k : Int) = _
     unfold B2
     rw [if_neg]
     simp only [decide_eq_true_eq,gt_iff_lt,UInt64.lt_iff_toNat_lt]
     show ¬ 0 < u'.toNat
     omega
    ·rw [h0,AmJ] at hkn;rw [← hkn];rfl
   ·left
    have hs : (Gb u' ((8 : UInt64)).toNat).toNat = u'.toNat / 256:=by rw [Ann];rfl
    refine ⟨(Gb u' ((8 : UInt64)).toNat,((k + 1 : Nat) : Int)),?_,⟨k + 1,rfl,?_⟩,?_⟩
    ·show B2 u' (k : Int) = _
     unfold B2
     have:=Apu u.toNat
     rw [if_pos,Y8 (by omega)]
     ·rfl
     ·simp only [decide_eq_true_eq,gt_iff_lt,UInt64.lt_iff_toNat_lt]
      show 0 < u'.toNat
      omega
    ·simp only [hs]
     have:=AlK _ h0 hlt
     omega
    ·simp only [hs]
     omega) (v0:=(u,0)) ⟨0,rfl,by simp⟩ (by have:=u.toNat_lt;omega)
 subst hq
 unfold Da
 exact (Cj (Cj hx)).trans rfl
def nbI (n : Int) : Nat:=if n < 0 then nb (~~~(UInt64.ofInt n)).toNat else nb (UInt64.ofInt n).toNat
def Amu (n : Int) : UInt8:=if n < 0 then UInt8.ofInt (31 - (nbI n : Int)) else UInt8.ofInt (32 + (nbI n : Int))
def Ap0 (n : Int) (k i : Nat) : UInt8:=(Gb (UInt64.ofInt n) (8 * (k - 1 - i))).toUInt8
def Aoe (n : Int) : List UInt8:=Amu n :: (List.range (nbI n)).map (Ap0 n (nbI n))
theorem AlA (n : Int) : nbI n≤8:=by unfold nbI;split <;> exact Apu _
theorem Ald (n : Int) : (Aoe n).length = nbI n + 1:=by simp [Aoe]
theorem AbR (b : List UInt8) (n : Int) (hb : b.length≤1099511627776) : F7 b n = some (b ++ Aoe n):=by
 have h8:=AlA n
 have key : ∃ x,A6 (fun (v : Int×List UInt8) => B3 n ((nbI n : Nat) : Int) v.1 v.2) (0,b ++ [Amu n]) = some x∧x = b ++ Aoe n :=
  Kh (f:=fun (v : Int×List UInt8) => B3 n ((nbI n : Nat) : Int) v.1 v.2) (nbI n)
   (fun k v => v = ((k : Int),b ++ Amu n :: (List.range k).map (Ap0 n (nbI n)))) (fun x => x = b ++ Aoe n) (by omega)
   (fun k v hk hv => by
    subst hv
    refine ⟨_,?_,rfl⟩
    show B3 n ((nbI n : Nat) : Int) (k : Int) _ = _
    unfold B3
    have e1 : w64 (((nbI n : Nat) : Int) - 1) = ((nbI n - 1 : Nat) : Int):=by rw [Cy (by omega)];omega
    have e2 : w64 (((nbI n - 1 : Nat) : Int) - (k : Int)) = ((nbI n - 1 - k : Nat) : Int):=by rw [Cy (by omega)];omega
    have e3 : w64 (8 * ((nbI n - 1 - k : Nat) : Int)) = ((8 * (nbI n - 1 - k) : Nat) : Int):=by rw [Cy (by omega)];omega
    rw [if_pos (by simp;omega),e1,e2,e3,if_pos (by unfold H5;omega),if_pos (X9 (by simp;omega)),Y8 (by omega)]
    simp only [lt1,List.range_succ,List.map_append,List.map_cons,List.map_nil,List.append_assoc,List.cons_append]
    rfl)
   (fun v hv => by
    subst hv
    refine ⟨_,?_,rfl⟩
    show B3 n ((nbI n : Nat) : Int) ((nbI n : Nat) : Int) _ = _
    unfold B3
    rw [if_neg (by simp)]
    rfl) (v0:=(0,b ++ [Amu n])) rfl
 obtain ⟨x,hx,rfl⟩:=key
 have hp : (if decide (n < 0) = true then
   (Da (~~~UInt64.ofInt n)).bind fun y => lt1 (UInt8.ofInt (w64 (31 - y))) fun (tag : UInt8) => some (y,tag)
  else some (((nb (UInt64.ofInt n).toNat : Nat) : Int),UInt8.ofInt (w64 (32 + ((nb (UInt64.ofInt n).toNat : Nat) : Int)))) : Option (Int×UInt8)) = some (((nbI n : Nat) : Int),Amu n):=by
  by_cases h : n < 0
  ·rw [if_pos (by simpa using h),Aiq]
   have e : nbI n = nb (~~~(UInt64.ofInt n)).toNat:=if_pos h
   rw [← e]
   show some (((nbI n : Nat) : Int),UInt8.ofInt (w64 (31 - ((nbI n : Nat) : Int)))) = _
   rw [Cy (by omega)]
   unfold Amu
   rw [if_pos h]
  ·rw [if_neg (by simpa using h)]
   have e : nbI n = nb (UInt64.ofInt n).toNat:=if_neg h
   rw [← e,Cy (by omega)]
   unfold Amu
   rw [if_neg h]
 unfold F7
 refine (Cj (Aiq _)).trans ?_
 refine (Aka _ _ _ rfl).trans ?_
 refine (Cj hp).trans ?_
 refine (if_pos (X9 (by omega))).trans ?_
 refine (Aka _ _ _ rfl).trans ?_
 exact (Cj (Cj hx)).trans rfl
mutual
def X6 : Api_Value→Int×Bool
 | .mk k n b l =>
  if k = 1 then (0,b.length == 0 && l.length == 0)
  else if k = 2 then (0,n == 0 && l.length == 0)
  else if k = 3 then (if n = 0∧b.length = 0 then Abm 0 l else (0,false))
  else (0,false)
def Abm (d : Int) : List Api_Value→Int×Bool
 | [] => (d + 1,true)
 | x :: l => if (X6 x).2 = true then Abm (Ty d (X6 x).1) l else (0,false)
end
mutual
theorem Ah2 : ∀ v : Api_Value,0≤(X6 v).1∧(X6 v).1≤szV v
  | .mk k n b l => by
    have h:=Ahu 0 l
    unfold X6 szV
    split
    · simp;omega
    · split
      · simp;omega
      · split
        · split
          · omega
          · simp;omega
        · simp;omega
theorem Ahu : ∀ (d : Int) (l : List Api_Value),0≤d→0≤(Abm d l).1∧(Abm d l).1≤max d (szVs l) + 1
  | d,[] => by intro h;simp [Abm,szVs];omega
  | d,x :: l => by
    intro h
    have h1:=Ah2 x
    have hm : 0≤Ty d (X6 x).1∧Ty d (X6 x).1≤max d (szV x):=by unfold Ty;split <;> omega
    have h2:=Ahu (Ty d (X6 x).1) l hm.1
    unfold Abm szVs
    split
    · omega
    · simp;omega
end
theorem Kn {l : List Api_Value} {k : Nat} (h : k < l.length) : nth l k = l[k]:=by simp [nth,List.getD_eq_getElem?_getD,h]
theorem Ard {α : Type} (l : List α) : ((l.length : Int) == 0) = (l.length == 0):=by
  cases l with
  | nil => rfl
  | cons a l => simp;omega
theorem Akj (d : Int) : Abm d [] = (d + 1,true):=by unfold Abm;rfl
theorem AhN (d : Int) (x : Api_Value) (l : List Api_Value) : Abm d (x :: l) = if (X6 x).2 = true then Abm (Ty d (X6 x).1) l else (0,false):=by
 conv => lhs;unfold Abm
theorem AgI (v : Api_Value) (rec_ : Api_Value→Option (Int×Bool)) (hr : ∀ x ∈ v.L,rec_ x = some (X6 x)) (hs : szV v≤1099511627776) :
  ∃ x,A6 (fun (s : Int×Int) => Df v rec_ s.1 s.2) (0,0) = some x ∧
   ((∃ d : Int,Abm 0 v.L = (d + 1,true)∧0≤d∧d≤1099511627776∧x = .inl d)∨(Abm 0 v.L = (0,false)∧x = .inr (.inr (.inr (0,false))))):=by
 have hsz:=szV_eq v
 have hlen:=AaB v.L
 refine Ej (f:=fun (s : Int×Int) => Df v rec_ s.1 s.2)
  (fun s => ∃ k : Nat,s.2 = (k : Int)∧k≤v.L.length∧0≤s.1∧s.1≤1099511627776∧Abm 0 v.L = Abm s.1 (v.L.drop k)) (fun s => v.L.length - s.2.toNat) _ ?_ ⟨0,rfl,Nat.zero_le _,by simp,by simp,rfl⟩ (by omega)
 rintro ⟨d,t⟩ ⟨k,ht,hk,hd0,hd1,hsp⟩
 simp only at ht hd0 hd1 hsp
 subst ht
 by_cases hkl : k < v.L.length
 ·have hx : v.L.drop k = v.L[k] :: v.L.drop (k + 1):=List.drop_eq_getElem_cons hkl
  have hm : v.L[k] ∈ v.L:=List.getElem_mem hkl
  have hsx:=O2 hm
  have hle:=Ah2 v.L[k]
  rw [hx,AhN] at hsp
  have hb : Df v rec_ d (k : Int) = if (!(X6 v.L[k]).2) = true then some (.inr (.inr (.inr (.inr (0,false))))) else some (.inl (Ty d (X6 v.L[k]).1,((k + 1 : Nat) : Int))):=by
   unfold Df
   rw [if_pos (by simp;omega),if_pos (Ds hkl)]
   simp only [Int.toNat_natCast,Kn hkl,lt1,Qo]
   refine (Cj (hr _ hm)).trans ?_
   rw [Y8 (by omega)]
   rfl
  by_cases hg : (X6 v.L[k]).2 = true
  ·left
   rw [if_pos hg] at hsp
   rw [if_neg (by simp [hg])] at hb
   refine ⟨_,hb,⟨k + 1,rfl,hkl,?_,?_,hsp⟩,?_⟩
   ·simp only [Ty];split <;> omega
   ·simp only [Ty];split <;> omega
   ·simp only [Int.toNat_natCast];omega
  ·right
   rw [if_neg hg] at hsp
   rw [if_pos (by simp [hg])] at hb
   exact ⟨_,hb,.inr ⟨hsp,rfl⟩⟩
 ·right
  have hkk : k = v.L.length:=by omega
  subst hkk
  rw [List.drop_length,Akj] at hsp
  refine ⟨.inl d,?_,.inl ⟨d,hsp,hd0,hd1,rfl⟩⟩
  show Df v rec_ d ((v.L.length : Nat) : Int) = _
  unfold Df
  rw [if_neg (by simp)]
theorem Ai0 : ∀ (n : Nat) (v : Api_Value),szV v < n→szV v≤1099511627776→Gt n v = some (X6 v)
  | 0,v,h,_ => absurd h (Nat.not_lt_zero _)
  | n + 1,v,h,hs => by
    show Hu (Gt n) v = _
    have hsz:=szV_eq v
    obtain ⟨x,hx,hq⟩:=AgI v (Gt n) (fun y hy => Ai0 n y (by have:=O2 hy;omega) (by have:=O2 hy;omega)) hs
    have hv : X6 v = if v.Za = 1 then (0,v.B.length == 0 && v.L.length == 0) else if v.Za = 2 then (0,v.N == 0 && v.L.length == 0) else if v.Za = 3 then (if v.N = 0∧v.B.length = 0 then Abm 0 v.L else (0,false)) else (0,false):=by
      cases v with
      | mk k n b l => unfold X6;rfl
    rw [hv]
    unfold Hu
    by_cases h1 : v.Za = 1
    · rw [if_pos (by simp [h1]),if_pos h1]
      rw [Ard,Ard]
      by_cases hb : v.B.length = 0
      · simp [hb]
      · have : (v.B.length == 0) = false:=by simpa using hb
        simp [this]
    · rw [if_neg (by simp [h1]),if_neg h1]
      by_cases h2 : v.Za = 2
      · rw [if_pos (by simp [h2]),if_pos h2,Ard]
        by_cases hn : v.N = 0
        · simp [hn]
        · simp [hn]
      · rw [if_neg (by simp [h2]),if_neg h2]
        by_cases h3 : v.Za = 3
        · rw [if_pos (by simp [h3]),if_pos h3]
          by_cases hn : v.N = 0
          · by_cases hb : v.B.length = 0
            · rw [if_pos (show v.N = 0∧v.B.length = 0 from ⟨hn,hb⟩)]
              have e1 : (if (v.N != 0) = true then some true else some ((v.B.length : Int) != 0) : Option Bool) = some false:=by simp [hn,hb]
              refine (Cj (a:=(.inr (Abm 0 v.L) : Unit ⊕ (Int×Bool))) ?_).trans rfl
              refine (Cj e1).trans ?_
              rw [if_neg (by simp)]
              rcases hq with ⟨d,e,h0,hd,rfl⟩ | ⟨e,rfl⟩
              · rw [hx,e]
                show some (Sum.inr (w64 (d + 1),true)) = _
                rw [Cy (by omega)]
              · rw [hx,e]
                rfl
            · rw [if_neg (show ¬ (v.N = 0∧v.B.length = 0) from fun h => hb h.2)]
              have e1 : (if (v.N != 0) = true then some true else some ((v.B.length : Int) != 0) : Option Bool) = some true:=by
                rw [if_neg (by simp [hn])];simp;intro e;apply hb;simp [e]
              refine (Cj (a:=(.inr (0,false) : Unit ⊕ (Int×Bool))) ?_).trans rfl
              exact (Cj e1).trans rfl
          · rw [if_neg (show ¬ (v.N = 0∧v.B.length = 0) from fun h => hn h.1)]
            have e1 : (if (v.N != 0) = true then some true else some ((v.B.length : Int) != 0) : Option Bool) = some true:=by simp [hn]
            refine (Cj (a:=(.inr (0,false) : Unit ⊕ (Int×Bool))) ?_).trans rfl
            exact (Cj e1).trans rfl
        · rw [if_neg (by simp [h3]),if_neg h3]
          rfl
def Abs : List UInt8→List UInt8
 | [] => []
 | c :: l => if c = 0 then 0 :: 255 :: Abs l else c :: Abs l
theorem Akf (a b : List UInt8) : Abs (a ++ b) = Abs a ++ Abs b:=by
  induction a with
  | nil => rfl
  | cons c a ih => simp only [List.cons_append,Abs];split <;> simp [ih]
theorem Aag (a : List UInt8) : (Abs a).length≤2 * a.length:=by
  induction a with
  | nil => simp [Abs]
  | cons c a ih => simp only [Abs];split <;> simp only [List.length_cons] <;> omega
mutual
def Ai4 : Api_Value→List UInt8
 | .mk k n b l => if k = 1 then Aoe n else if k = 2 then 48 :: (Abs b ++ [0,0]) else 64 :: (AeE l ++ [0])
def AeE : List Api_Value→List UInt8
 | [] => []
 | x :: l => Ai4 x ++ AeE l
end
theorem AlP (v : Api_Value) : Ai4 v = if v.Za = 1 then Aoe v.N else if v.Za = 2 then 48 :: (Abs v.B ++ [0,0]) else 64 :: (AeE v.L ++ [0]):=by
  cases v with
  | mk k n b l => unfold Ai4;rfl
theorem AjT (a b : List Api_Value) : AeE (a ++ b) = AeE a ++ AeE b:=by
  induction a with
  | nil => rfl
  | cons c a ih => simp only [List.cons_append,AeE,ih,List.append_assoc]
mutual
theorem encV_len : ∀ v : Api_Value,(Ai4 v).length≤9 * szV v
  | .mk k n b l => by
    have h:=Tv l
    have h1:=Ald n
    have h2:=AlA n
    have h3:=Aag b
    unfold Ai4 szV
    split
    · omega
    · split
      · simp only [List.length_cons,List.length_append,List.length_nil];omega
      · simp only [List.length_cons,List.length_append,List.length_nil];omega
theorem Tv : ∀ l : List Api_Value,(AeE l).length≤9 * szVs l
  | [] => by simp [AeE]
  | x :: l => by
    have h1:=encV_len x
    have h2:=Tv l
    unfold AeE szVs
    simp only [List.length_append];omega
end
theorem AgF (v : Api_Value) (a : List UInt8) (ha : a.length + 2 * v.B.length≤100000000000000) :
  ∃ x,A6 (fun (s : Int×List UInt8) => Bq v s.1 s.2) (0,a) = some x∧x = a ++ Abs v.B:=by
 refine Kh (f:=fun (s : Int×List UInt8) => Bq v s.1 s.2) v.B.length (fun k s => s = ((k : Int),a ++ Abs (v.B.take k))) _ (by omega) ?_ ?_ (by simp [Abs])
 ·intro k s hk hs
  subst hs
  have hx : v.B.take (k + 1) = v.B.take k ++ [v.B[k]]:=by rw [List.take_add_one,List.getElem?_eq_getElem hk];rfl
  have hn : nth v.B k = v.B[k]:=by simp [nth,List.getD_eq_getElem?_getD,hk]
  have hl:=Aag (v.B.take k)
  rw [List.length_take] at hl
  refine ⟨_,?_,rfl⟩
  show Bq v (k : Int) _ = _
  unfold Bq
  rw [if_pos (by simp;omega),if_pos (Ds hk),if_pos (X9 (by simp only [List.length_append];omega)),Y8 (by omega)]
  simp only [Int.toNat_natCast,hn,lt1,hx,Akf]
  by_cases h0 : v.B[k] = 0
  ·rw [if_pos (by simp [h0]),if_pos (X9 (by simp only [List.length_append,List.length_cons,List.length_nil];omega))]
   simp [Abs,h0]
  ·rw [if_neg (by simp [h0])]
   simp [Abs,h0]
 ·intro s hs
  subst hs
  refine ⟨_,?_,rfl⟩
  show Bq v ((v.B.length : Nat) : Int) _ = _
  unfold Bq
  rw [if_neg (by simp),List.take_length]
theorem Ah3 (v : Api_Value) (a : List UInt8) (rec_ : List UInt8→Api_Value→Option (List UInt8)) (hr : ∀ x ∈ v.L,∀ b,b.length + 9 * szV x≤a.length + 9 * szVs v.L→rec_ b x = some (b ++ Ai4 x)) (hs : szV v≤1099511627776) :
    ∃ x,A6 (fun (s : Int×List UInt8) => Bp v rec_ s.1 s.2) (0,a) = some x∧x = a ++ AeE v.L:=by
  have hsz:=szV_eq v
  have hlen:=AaB v.L
  refine Kh (f:=fun (s : Int×List UInt8) => Bp v rec_ s.1 s.2) v.L.length (fun k s => s = ((k : Int),a ++ AeE (v.L.take k))) _ (by omega) ?_ ?_ (by simp [AeE])
  · intro k s hk hs'
    subst hs'
    have hx : v.L.take (k + 1) = v.L.take k ++ [v.L[k]]:=by rw [List.take_add_one,List.getElem?_eq_getElem hk];rfl
    have hm : v.L[k] ∈ v.L:=List.getElem_mem hk
    have hsp : szVs v.L = szVs (v.L.take k) + szVs (v.L.drop k):=by
      have key : ∀ a b : List Api_Value,szVs (a ++ b) = szVs a + szVs b:=by
        intro a b
        induction a with
        | nil => simp [szVs]
        | cons y a ih => simp only [List.cons_append,szVs,ih];omega
      rw [← key,List.take_append_drop]
    rw [List.drop_eq_getElem_cons hk] at hsp
    simp only [szVs] at hsp
    have hl:=Tv (v.L.take k)
    refine ⟨_,?_,rfl⟩
    show Bp v rec_ (k : Int) _ = _
    unfold Bp
    rw [if_pos (by simp;omega),if_pos (Ds hk),Y8 (by omega)]
    simp only [Int.toNat_natCast,Kn hk,lt1,Qo]
    refine (Cj (hr _ hm _ (by simp only [List.length_append];omega))).trans ?_
    rw [hx,AjT]
    simp [AeE]
  · intro s hs'
    subst hs'
    refine ⟨_,?_,rfl⟩
    show Bp v rec_ ((v.L.length : Nat) : Int) _ = _
    unfold Bp
    rw [if_neg (by simp),List.take_length]
theorem Ae3 : ∀ (n : Nat) (b : List UInt8) (v : Api_Value),szV v < n→b.length + 9 * szV v≤1099511627776→Dc n b v = some (b ++ Ai4 v)
  | 0,b,v,h,_ => absurd h (Nat.not_lt_zero _)
  | n + 1,b,v,h,hs => by
    show Ed (Dc n) b v = _
    have hsz:=szV_eq v
    rw [AlP]
    unfold Ed
    by_cases h1 : v.Za = 1
    · rw [if_pos (by simp [h1]),if_pos h1]
      rw [AbR b v.N (by omega)]
      rfl
    · rw [if_neg (by simp [h1]),if_neg h1]
      by_cases h2 : v.Za = 2
      · rw [if_pos (by simp [h2]),if_pos h2]
        obtain ⟨x,hx,rfl⟩:=AgF v (b ++ [48]) (by simp only [List.length_append,List.length_cons,List.length_nil];omega)
        have hl:=Aag v.B
        refine (Cj (a:=(.inr (b ++ 48 :: (Abs v.B ++ [0,0])) : Unit ⊕ List UInt8)) ?_).trans rfl
        refine (if_pos (X9 (by omega))).trans ?_
        refine (Aka _ _ _ rfl).trans ?_
        refine (Cj (Cj hx)).trans ?_
        refine (if_pos (X9 (by simp only [List.length_append,List.length_cons,List.length_nil];omega))).trans ?_
        simp [lt1]
      · rw [if_neg (by simp [h2]),if_neg h2]
        obtain ⟨x,hx,rfl⟩:=Ah3 v (b ++ [64]) (Dc n) (fun y hy c hc => Ae3 n c y (by have:=O2 hy;omega) (by simp only [List.length_append,List.length_cons,List.length_nil] at hc;omega)) (by omega)
        have hl:=Tv v.L
        refine (Cj (a:=(.inl () : Unit ⊕ List UInt8)) rfl).trans ?_
        refine (if_pos (X9 (by omega))).trans ?_
        refine (Aka _ _ _ rfl).trans ?_
        refine (Cj (Cj hx)).trans ?_
        refine (if_pos (X9 (by simp only [List.length_append,List.length_cons,List.length_nil];omega))).trans ?_
        simp [lt1]
def Enc (v : Api_Value) : List UInt8×Int :=
 if (X6 v).2 = true then (if (X6 v).1 > 16 then ([],2) else if (Ai4 v).length > 65536 then ([],2) else (Ai4 v,0)) else ([],10)
theorem encode_eq (v : Api_Value) (h : szV v≤100000000000) : Hh v = some (Enc v):=by
 unfold Hh P9 Im Enc
 refine (Cj (Ai0 18446744073709551616 v (by omega) (by omega))).trans ?_
 by_cases h1 : (X6 v).2 = true
 ·rw [if_neg (by simp [h1]),if_pos h1]
  by_cases h2 : (X6 v).1 > 16
  ·rw [if_pos (by simpa using h2),if_pos h2]
  ·rw [if_neg (by simpa using h2),if_neg h2]
   refine (Cj (Ae3 18446744073709551616 [] v (by omega) (by simp;omega))).trans ?_
   by_cases h3 : (Ai4 v).length > 65536
   ·rw [if_pos (by simp;omega),if_pos h3]
   ·rw [if_neg (by simp;omega),if_neg h3]
    rfl
 ·rw [if_pos (by simp [h1]),if_neg h1]
def cmpI (a b : Int) : Int:=if a < b then -1 else if b < a then 1 else 0
def cmpB : List UInt8→List UInt8→Int
 | [],[] => 0
 | [],_ :: _ => -1
 | _ :: _,[] => 1
 | x :: l,y :: m => if x = y then cmpB l m else if x < y then -1 else 1
mutual
def cmpV : Api_Value→Api_Value→Int
 | .mk k n b l,w => if k≠w.Za then cmpI k w.Za else if k = 1 then cmpI n w.N else if k = 2 then cmpB b w.B else if k = 3 then cmpL l w.L else 0
def cmpL : List Api_Value→List Api_Value→Int
 | [],[] => 0
 | [],_ :: _ => -1
 | _ :: _,[] => 1
 | x :: l,y :: m => if cmpV x y≠0 then cmpV x y else cmpL l m
end
theorem cmpV_eq (v w : Api_Value) : cmpV v w = if v.Za≠w.Za then cmpI v.Za w.Za else if v.Za = 1 then cmpI v.N w.N else if v.Za = 2 then cmpB v.B w.B else if v.Za = 3 then cmpL v.L w.L else 0:=by
  cases v with
  | mk k n b l => rw [cmpV];rfl
theorem Ym {α : Type} [Inhabited α] {l : List α} {k : Nat} (h : k < l.length) : nth l k = l[k]:=by simp [nth,List.getD_eq_getElem?_getD,h]
theorem Ag2 {a b : List UInt8} {k : Nat} (ha : k < a.length) (hb : k < b.length) : cmpB (a.drop k) (b.drop k) = if nth a k = nth b k then cmpB (a.drop (k + 1)) (b.drop (k + 1)) else if nth a k < nth b k then -1 else 1:=by
 rw [List.drop_eq_getElem_cons ha,List.drop_eq_getElem_cons hb,Ym ha,Ym hb,cmpB]
theorem Aje {a b : List UInt8} {k : Nat} (hk : k≤a.length) (hk' : k≤b.length) (h : ¬ (k < a.length∧k < b.length)) : cmpB (a.drop k) (b.drop k) = cmpI (a.length : Int) (b.length : Int):=by
 unfold cmpI
 rcases Nat.lt_trichotomy a.length b.length with hl | hl | hl
 ·have hka : k = a.length:=by omega
  rw [if_pos (by omega),hka,List.drop_length,List.drop_eq_getElem_cons (by omega)]
  rfl
 ·have hka : k = a.length:=by omega
  rw [if_neg (by omega),if_neg (by omega),hka,List.drop_length,hl,List.drop_length]
  rfl
 ·have hkb : k = b.length:=by omega
  rw [if_neg (by omega),if_pos (by omega),hkb,List.drop_length,List.drop_eq_getElem_cons (by omega)]
  rfl
theorem AeX {l : List UInt8} {i : Nat} (h : i < l.length) : (⟨l.toArray⟩ : ByteArray)[i]! = nth l i:=by
 rw [Ym h]
 have h2 : i < (⟨l.toArray⟩ : ByteArray).size:=by simpa [ByteArray.size] using h
 rw [getElem!_pos (⟨l.toArray⟩ : ByteArray) i h2]
 show l.toArray[i] = _
 simp
theorem AeD (a b : List UInt8) : ∀ (m k : Nat),k + m = min a.length b.length →
    (match (List.range' k m).find? fun i => (⟨a.toArray⟩ : ByteArray)[i]! != (⟨b.toArray⟩ : ByteArray)[i]! with
      | some i => if (⟨a.toArray⟩ : ByteArray)[i]! < (⟨b.toArray⟩ : ByteArray)[i]! then -1 else 1
      | none => if (⟨a.toArray⟩ : ByteArray).size < (⟨b.toArray⟩ : ByteArray).size then (-1 : Int) else if (⟨a.toArray⟩ : ByteArray).size > (⟨b.toArray⟩ : ByteArray).size then 1 else 0) = cmpB (a.drop k) (b.drop k)
  | 0,k,h => by
    rw [List.range'_zero,List.find?_nil,Aje (by omega) (by omega) (by omega)]
    have e : ∀ l : List UInt8,(⟨l.toArray⟩ : ByteArray).size = l.length:=fun l => by simp [ByteArray.size]
    simp only [e,cmpI,Int.ofNat_lt,gt_iff_lt]
  | m + 1,k,h => by
    have ha : k < a.length:=by omega
    have hb : k < b.length:=by omega
    rw [List.range'_succ,List.find?_cons,Ag2 ha hb,AeX ha,AeX hb]
    by_cases he : nth a k = nth b k
    · have : (nth a k != nth b k) = false:=by simp [he]
      rw [this,if_pos he]
      exact AeD a b m (k + 1) (by omega)
    · have : (nth a k != nth b k) = true:=by simp [he]
      rw [this,if_neg he]
      show (if (⟨a.toArray⟩ : ByteArray)[k]! < (⟨b.toArray⟩ : ByteArray)[k]! then (-1 : Int) else 1) = _
      rw [AeX ha,AeX hb]
theorem AdV (a b : List UInt8) : Ud a b = cmpB a b:=by
 have h:=AeD a b (min a.length b.length) 0 (by omega)
 rw [← List.range_eq_range'] at h
 unfold Ud Extern.BytealgCompare.cmp
 have e : ∀ l : List UInt8,(⟨l.toArray⟩ : ByteArray).size = l.length:=fun l => by simp [ByteArray.size]
 rw [e,e]
 rw [e,e] at h
 exact h
theorem Vr (a b : List UInt8) : H8 a b = some (cmpB a b):=by
 unfold H8 Kk V7
 rw [AdV];rfl
theorem Ab5 (a b : Int) : Fk a b = some (cmpI a b):=by
 unfold Fk I8 cmpI
 by_cases h : a < b
 ·simp [h]
 ·by_cases h2 : b < a <;> simp [h,h2]
theorem AhI {a b : List Api_Value} {k : Nat} (ha : k < a.length) (hb : k < b.length) : cmpL (a.drop k) (b.drop k) = if cmpV (nth a k) (nth b k)≠0 then cmpV (nth a k) (nth b k) else cmpL (a.drop (k + 1)) (b.drop (k + 1)):=by
 rw [List.drop_eq_getElem_cons ha,List.drop_eq_getElem_cons hb,Ym ha,Ym hb,cmpL]
theorem Afg {a b : List Api_Value} {k : Nat} (hk : k≤a.length) (hk' : k≤b.length) (h : ¬ (k < a.length∧k < b.length)) : cmpL (a.drop k) (b.drop k) = cmpI (a.length : Int) (b.length : Int):=by
 unfold cmpI
 rcases Nat.lt_trichotomy a.length b.length with hl | hl | hl
 ·have hka : k = a.length:=by omega
  rw [if_pos (by omega),hka,List.drop_length,List.drop_eq_getElem_cons (by omega),cmpL]
 ·have hka : k = a.length:=by omega
  rw [if_neg (by omega),if_neg (by omega),hka,List.drop_length,hl,List.drop_length,cmpL]
 ·have hkb : k = b.length:=by omega
  rw [if_neg (by omega),if_pos (by omega),hkb,List.drop_length,List.drop_eq_getElem_cons (by omega),cmpL]
theorem Yi (a b : List Api_Value) (f : Api_Value→Api_Value→Option Int) (hf : ∀ x ∈ a,∀ y,f x y = some (cmpV x y)) (ha : a.length≤9223372036854775807) : Dh f a b f = some (cmpL a b):=by
 have key : ∃ x,A6 (fun (v : Int) => B6 a b f v) 0 = some x∧((x = .inl ()∧a.length≤b.length∧cmpL a b = cmpI (a.length : Int) (b.length : Int))∨(x = .inr (.inr (cmpL a b)))):=by
  refine Ej (f:=fun (v : Int) => B6 a b f v) (fun i => ∃ k : Nat,i = (k : Int)∧k≤a.length∧k≤b.length∧cmpL a b = cmpL (a.drop k) (b.drop k)) (fun i => a.length - i.toNat) _ ?_ ⟨0,rfl,by simp,by simp,rfl⟩ (by omega)
  rintro _ ⟨k,rfl,hka,hkb,he⟩
  show _∨_
  unfold B6
  by_cases h1 : k < a.length
  ·have r1 : InR (k : Int) a.length:=⟨by omega,by omega⟩
   rw [if_pos (by simp;omega),if_pos r1]
   simp only [lt1,Int.toNat_natCast]
   by_cases h2 : k < b.length
   ·have r2 : InR (k : Int) b.length:=⟨by omega,by omega⟩
    rw [if_neg (by simp;omega),if_pos r2]
    rw [Qo,Qo,hf _ (by rw [Ym h1];exact List.getElem_mem h1)]
    rw [AhI h1 h2] at he
    by_cases hz : cmpV (nth a k) (nth b k) = 0
    ·left
     rw [if_neg (by simpa using hz)] at he
     refine ⟨_,(Cj rfl).trans ?_,⟨k + 1,rfl,by omega,by omega,he⟩,?_⟩
     ·rw [if_neg (by simp [hz]),Y8 (by omega)]
     ·simp only [Int.toNat_natCast];omega
    ·right
     rw [if_pos hz] at he
     refine ⟨_,(Cj rfl).trans ?_,.inr rfl⟩
     rw [if_pos (by simpa using hz),he];rfl
   ·right
    rw [if_pos (by simp;omega)]
    refine ⟨_,rfl,.inr ?_⟩
    rw [he,Afg hka hkb (by omega)]
    unfold cmpI
    rw [if_neg (by omega),if_pos (by omega)]
  ·right
   rw [if_neg (by simp;omega)]
   exact ⟨_,rfl,.inl ⟨rfl,by omega,by rw [he];exact Afg hka hkb (by omega)⟩⟩
 obtain ⟨x,hx,hq⟩:=key
 unfold Dh
 rcases hq with ⟨rfl,hl,he⟩ | rfl
 ·refine (Cj (a:=.inl ()) ((Cj hx).trans rfl)).trans ?_
  rw [he]
  unfold cmpI
  by_cases h : (a.length : Int) < (b.length : Int)
  ·simp [h]
  ·have : ¬ (b.length : Int) < (a.length : Int):=by omega
   simp [h,this]
 ·exact (Cj (a:=.inr (cmpL a b)) ((Cj hx).trans rfl)).trans rfl
theorem AbL : ∀ (n : Nat) (a b : Api_Value),szV a < n→szV a≤1099511627776→F4 n a b = some (cmpV a b)
  | 0,a,b,h,_ => absurd h (Nat.not_lt_zero _)
  | n + 1,a,b,h,hs => by
    show Gf (F4 n) a b = _
    have hsz:=szV_eq a
    have hlen:=AaB a.L
    unfold Gf
    rw [cmpV_eq]
    refine (Cj (Ab5 _ _)).trans ?_
    by_cases hk : a.Za = b.Za
    · have hz : cmpI a.Za b.Za = 0:=by unfold cmpI;simp [hk]
      rw [if_neg (show ¬ (cmpI a.Za b.Za != 0) = true by simp [hz]),if_neg (show ¬ (a.Za≠b.Za) by simpa using hk)]
      by_cases h1 : a.Za = 1
      · rw [if_pos (show (a.Za == 1) = true by simp [h1]),if_pos h1];exact Cj (Ab5 _ _)
      · rw [if_neg (show ¬ (a.Za == 1) = true by simp [h1]),if_neg h1]
        by_cases h2 : a.Za = 2
        · rw [if_pos (show (a.Za == 2) = true by simp [h2]),if_pos h2];exact Cj (Vr _ _)
        · rw [if_neg (show ¬ (a.Za == 2) = true by simp [h2]),if_neg h2]
          by_cases h3 : a.Za = 3
          · rw [if_pos (show (a.Za == 3) = true by simp [h3]),if_pos h3]
            exact Cj (Yi _ _ _ (fun x hx y => AbL n x y (by have:=O2 hx;omega) (by have:=O2 hx;omega)) (by omega))
          · rw [if_neg (show ¬ (a.Za == 3) = true by simp [h3]),if_neg h3]
    · have hz : cmpI a.Za b.Za≠0:=by
        unfold cmpI
        rcases Int.lt_trichotomy a.Za b.Za with h | h | h
        · rw [if_pos h];decide
        · exact (hk h).elim
        · rw [if_neg (by omega),if_pos h];decide
      rw [if_pos (show (cmpI a.Za b.Za != 0) = true by simpa using hz),if_pos (show a.Za≠b.Za from hk)]
theorem compare_eq (a b : Api_Value) (h : szV a≤100000000000) : Jw a b = some (cmpV a b):=AbL _ a b (by omega) (by omega)
theorem cmpI_zero {a b : Int} : cmpI a b = 0↔a = b:=by
 unfold cmpI
 by_cases h : a < b
 ·rw [if_pos h];constructor
  ·intro h;cases h
  ·intro h;omega
 ·rw [if_neg h]
  by_cases h2 : b < a
  ·rw [if_pos h2];constructor
   ·intro h;cases h
   ·intro h;omega
  ·rw [if_neg h2];constructor <;> intros <;> omega
end Go.Proofs.YtioapcamanmoiaaDoor.Kc
namespace Go.Proofs.YtioapcamanmoiaaDoor
open Go.Rv
set_option linter.unusedVariables false
set_option linter.unusedSimpArgs false
set_option maxRecDepth 100000
theorem AeT {n : Nat} (h : n≤2100000) : Fb n 64:=⟨Nat.le_trans h (by decide),Nat.le_trans (Nat.mul_le_mul_right 64 h) (by decide)⟩
def iV (n : Int) : Api_Value:=Api_Value.mk 1 n [] []
def tV (s : List UInt8) : Api_Value:=Api_Value.mk 2 0 s []
def lV (l : List Api_Value) : Api_Value:=Api_Value.mk 3 0 [] l
def Vq (x : Api_Part) : Api_Value:=lV [iV x.Za,iV x.Zl1,iV (if x.Zm1 = true then 1 else 0)]
def Amg (it : Api_Item) : List Api_Value:=[iV it.Za,lV [iV it.Ref.Zb,iV it.Ref.No],iV it.Zn1,iV it.Zb1,iV it.Zc,iV it.Zo1,iV it.Zw,iV it.To,iV it.Code,iV it.Zp1,iV it.Zq1,iV it.Zr1,iV it.Zs1]
def val (it : Api_Item) : Api_Value:=lV (Amg it ++ [tV it.Zt1,lV (it.Zu1.map Vq)])
theorem map_take {α β : Type} [Inhabited α] (f : α→β) (l : List α) (k : Nat) (hk : k < l.length) : (l.take (k + 1)).map f = (l.take k).map f ++ [f (nth l k)]:=by
 have h : l.take (k + 1) = l.take k ++ [nth l k]:=by
  rw [List.take_add_one,List.getElem?_eq_getElem hk]
  simp [nth,List.getElem?_eq_getElem hk]
 rw [h];simp
theorem AlL {it : Api_Item} (hp : it.Zu1.length≤2000000) : A6 (fun (v : Int×List Api_Value) => Gi it v.1 v.2) (0,[]) = some (it.Zu1.map Vq):=by
 obtain ⟨x,hx,rfl⟩:=Kh (f:=fun (v : Int×List Api_Value) => Gi it v.1 v.2) it.Zu1.length (fun k v => v = ((k : Int),(it.Zu1.take k).map Vq)) (fun x => x = it.Zu1.map Vq) (by omega) (by
   rintro k v hk rfl
   refine ⟨_,?_,rfl⟩
   have hin : InR (k : Int) it.Zu1.length:=⟨by omega,by simpa using hk⟩
   unfold Gi
   rw [if_pos (decide_eq_true (by omega)),if_pos hin,Ff (by omega),map_take _ _ k hk]
   simp only [Int.toNat_natCast,Cv]
   have e : (if (nth it.Zu1 k).Zm1 = true then some 1 else some 0 : Option Int) = some (if (nth it.Zu1 k).Zm1 = true then 1 else 0):=by split <;> rfl
   rw [e]
   simp only [Option.bind_some,Bm,Gx]
   rw [if_pos (AeT (by simp;omega))]
   rfl) (by
   rintro v rfl
   refine ⟨_,?_,rfl⟩
   unfold Gi
   rw [if_neg (by simp)]
   simp) (v0:=(0,[])) (by simp)
 exact hx
theorem AaQ {it : Api_Item} (hp : it.Zu1.length≤2000000) : Kd it = some (val it):=by
 unfold Kd
 simp only [Option.bind_some,Bm,Gx,K7,edi_list_cnil,Us,Cv,AlL hp]
 repeat rw [if_pos (AeT (by simp))]
 simp only [Option.bind_some]
 rw [if_pos (AeT (by simp))]
 rfl
def Akd (n : UInt64) (k : Nat) : UInt8:=(Gb n (56 - 8 * k)).toUInt8
def Ab9 (n : UInt64) : List UInt8:=(List.range 8).map (Akd n)
def Ag6 (n : UInt64) (k : Nat) : List UInt8:=(List.range 8).map fun j => if j < k then Akd n j else 0
theorem AiK (n : UInt64) : ∀ {k : Nat},k < 8→(Ag6 n k).set k (Akd n k) = Ag6 n (k + 1)
  | 0,_ => rfl
  | 1,_ => rfl
  | 2,_ => rfl
  | 3,_ => rfl
  | 4,_ => rfl
  | 5,_ => rfl
  | 6,_ => rfl
  | 7,_ => rfl
  | k + 8,h => by omega
theorem Ah4 (n : UInt64) : L0 n = some (tV (Ab9 n)):=by
 have h : A6 (fun (v : Int×List UInt8) => Gl n (List.replicate 8 (0 : UInt8)) v.1 v.2) (0,List.replicate 8 (0 : UInt8)) = some (Ab9 n):=by
  refine AkM 8 (fun (v : Int×List UInt8) => Gl n (List.replicate 8 (0 : UInt8)) v.1 v.2) (fun k s => (k,s)) (Ag6 n) id (by omega) (fun k hk => ?_) ?_
  ·have e1 : w64 (56 - w64 (8 * (k : Int))) = ((56 - 8 * k : Nat) : Int):=by rw [Cy (x:=8 * (k : Int)) (by omega),Cy (by omega)];omega
   simp only
   unfold Gl
   rw [if_pos (decide_eq_true (by simp;omega)),e1,if_pos (by unfold H5;omega),if_pos (show InR (k : Int) (Ag6 n k).length from Ds (by simpa [Ag6] using hk))]
   simp only [Cv,Int.toNat_natCast]
   rw [Ff (by omega),show (Gb n (56 - 8 * k)).toUInt8 = Akd n k from rfl,AiK n hk]
  ·simp only
   unfold Gl
   rw [if_neg (by simp)]
   rfl
 unfold L0
 rw [if_pos (by unfold Mk maxLen Ko;omega)]
 simp only [Cv]
 rw [h]
 rfl
def Ti (r : Api_Record) : List Api_Value:=[iV r.Zb,iV r.No,tV r.Zv1.l,iV r.Zw1,val r.Zx1]
def AhB (r : Api_Record) : Api_Value:=lV (Ti r ++ [lV [tV (Ab9 r.Sig.C),tV (Ab9 r.Sig.S)]])
theorem Vf {r : Api_Record} (hp : r.Zx1.Zu1.length≤2000000) : Gr r = some (Ti r):=by
 unfold Gr
 rw [AaQ hp]
 rfl
theorem AhS (n : Int) : Kc.szV (iV n) = 1:=by rw [Kc.szV_eq];rfl
theorem Q2 : Kc.szVs [] = 0:=rfl
theorem H0 (x : Api_Value) (l : List Api_Value) : Kc.szVs (x :: l) = Kc.szV x + Kc.szVs l:=rfl
theorem Aff (a b : List Api_Value) : Kc.szVs (a ++ b) = Kc.szVs a + Kc.szVs b:=by
  induction a with
  | nil => rw [List.nil_append,Q2];omega
  | cons x a ih => rw [List.cons_append,H0,H0,ih];omega
theorem AlO (s : List UInt8) : Kc.szV (tV s) = s.length + 1:=by rw [Kc.szV_eq];rfl
theorem Aec (l : List Api_Value) : Kc.szV (lV l) = 1 + Kc.szVs l:=by rw [Kc.szV_eq];show 0 + 1 + Kc.szVs l = _;omega
theorem Ah9 (l : List Api_Part) : Kc.szVs (l.map Vq) = 4 * l.length:=by
  induction l with
  | nil => rfl
  | cons x l ih =>
    rw [List.map_cons,H0,ih]
    unfold Vq
    rw [Aec,H0,H0,H0,Q2,AhS,AhS,AhS,List.length_cons]
    omega
theorem Aic (it : Api_Item) : Kc.szV (val it) = 18 + it.Zt1.length + 4 * it.Zu1.length:=by
 unfold val Amg
 rw [Aec,Aff]
 simp only [H0,Q2,AhS,Aec,AlO,Ah9]
 omega
theorem Afw (r : Api_Record) : Kc.szV (lV (Ti r)) = 55 + r.Zx1.Zt1.length + 4 * r.Zx1.Zu1.length:=by
 unfold Ti
 rw [Aec]
 simp only [H0,Q2,AhS,AlO,Aic,r.Zv1.h]
 omega
theorem Ahb (r : Api_Record) : Kc.szV (AhB r) = 74 + r.Zx1.Zt1.length + 4 * r.Zx1.Zu1.length:=by
 have h:=Afw r
 rw [Aec] at h
 have hw : ∀ n,(Ab9 n).length = 8:=fun n => by simp [Ab9]
 unfold AhB
 rw [Aec,Aff]
 simp only [H0,Q2,Aec,AlO,hw]
 omega
theorem AdP {r : Api_Record} (h : Small r.Zx1) : I6 r = some (Kc.Enc (lV (Ti r))):=by
 have h1:=h.text
 have h2:=h.parts
 unfold I6
 rw [Vf (by omega),Option.bind_some]
 show (some (lV (Ti r))).bind _ = _
 rw [Option.bind_some,Kc.encode_eq _ (by rw [Afw];omega)]
 rfl
theorem Agh {r : Api_Record} (h : Small r.Zx1) : Kr r = some (Kc.Enc (AhB r)):=by
 have h1:=h.text
 have h2:=h.parts
 unfold Kr
 rw [Vf (by omega),Option.bind_some,Ah4,Option.bind_some,Ah4,Option.bind_some]
 show (some (lV [tV (Ab9 r.Sig.C),tV (Ab9 r.Sig.S)])).bind _ = _
 rw [Option.bind_some,if_pos (AeT (by simp [Ti]))]
 show (some (AhB r)).bind _ = _
 rw [Option.bind_some,Kc.encode_eq _ (by rw [Ahb];omega)]
 rfl
theorem AmC (v : Api_Value) : (Kc.Enc v).1.length≤9 * Kc.szV v:=by
 unfold Kc.Enc
 repeat' split
 all_goals first | exact Kc.encV_len v | simp
theorem AdX {r : Api_Record} (h : Small r.Zx1) : ∃ d,Eo r = some d∧((Kc.Enc (AhB r)).2≠0→d.2 = (Kc.Enc (AhB r)).2)∧((Kc.Enc (AhB r)).2 = 0→d.2 = 0∧Ek [114,101,99,111,114,100] (Kc.Enc (AhB r)).1 = some d.1):=by
 have h1:=h.text
 have h2:=h.parts
 have h3:=AmC (AhB r)
 rw [Ahb] at h3
 unfold Eo
 rw [Agh h,Option.bind_some]
 by_cases he : (Kc.Enc (AhB r)).2 = 0
 ·rw [if_neg (by simpa using he)]
  obtain ⟨d,hd⟩:=Se [114,101,99,111,114,100] (Kc.Enc (AhB r)).1 (by simp) (by omega)
  rw [hd]
  exact ⟨_,rfl,fun h => absurd he h,fun _ => ⟨rfl,rfl⟩⟩
 ·rw [if_pos (by simpa using he)]
  exact ⟨_,rfl,fun _ => rfl,fun h => absurd h he⟩
set_option maxRecDepth 8000
theorem z_i {x y : Int} : Kc.cmpV (iV x) (iV y) = 0↔x = y:=by
 rw [Kc.cmpV_eq]
 show (if (1 : Int)≠1 then _ else if (1 : Int) = 1 then Kc.cmpI x y else _) = 0↔_
 rw [if_neg (by simp),if_pos rfl,Kc.cmpI_zero]
theorem z_b : ∀ {a b : List UInt8},Kc.cmpB a b = 0↔a = b
  | [],[] => by simp [Kc.cmpB]
  | [],_ :: _ => by simp [Kc.cmpB]
  | _ :: _,[] => by simp [Kc.cmpB]
  | x :: l,y :: m => by
    unfold Kc.cmpB
    by_cases h : x = y
    · rw [if_pos h,z_b (a:=l) (b:=m),h];simp
    · rw [if_neg h]
      split <;> simp [h]
theorem z_t {a b : List UInt8} : Kc.cmpV (tV a) (tV b) = 0↔a = b:=by
 rw [Kc.cmpV_eq]
 show (if (2 : Int)≠2 then _ else if (2 : Int) = 1 then _ else if (2 : Int) = 2 then Kc.cmpB a b else _) = 0↔_
 rw [if_neg (by simp),if_neg (by decide),if_pos rfl,z_b]
theorem c_l {a b : List Api_Value} : Kc.cmpV (lV a) (lV b) = Kc.cmpL a b:=by
 rw [Kc.cmpV_eq]
 show (if (3 : Int)≠3 then _ else if (3 : Int) = 1 then _ else if (3 : Int) = 2 then _ else if (3 : Int) = 3 then Kc.cmpL a b else _) = _
 rw [if_neg (by simp),if_neg (by decide),if_neg (by decide),if_pos rfl]
theorem z_c {x y : Api_Value} {l m : List Api_Value} : Kc.cmpL (x :: l) (y :: m) = 0↔Kc.cmpV x y = 0∧Kc.cmpL l m = 0:=by
 rw [Kc.cmpL]
 by_cases h : Kc.cmpV x y = 0
 ·rw [if_neg (by simpa using h)];simp [h]
 ·rw [if_pos h];simp [h]
theorem z_n : Kc.cmpL [] [] = 0:=by rw [Kc.cmpL]
theorem z_p {x y : Api_Part} : Kc.cmpV (Vq x) (Vq y) = 0↔x = y:=by
 unfold Vq
 rw [c_l,z_c,z_c,z_c,z_i,z_i,z_i]
 rcases x with ⟨a,b,c⟩
 rcases y with ⟨d,e,f⟩
 simp only [z_n,and_true,Api_Part.mk.injEq]
 cases c <;> cases f <;> simp
theorem z_ps : ∀ {l m : List Api_Part},Kc.cmpL (l.map Vq) (m.map Vq) = 0↔l = m
  | [],[] => by simp [z_n]
  | [],y :: m => by rw [List.map_nil,List.map_cons,Kc.cmpL];simp
  | x :: l,[] => by rw [List.map_nil,List.map_cons,Kc.cmpL];simp
  | x :: l,y :: m => by rw [List.map_cons,List.map_cons,z_c,z_p,z_ps];simp
theorem z_val {a b : Api_Item} : Kc.cmpV (val a) (val b) = 0↔a = b:=by
 unfold val Amg
 simp only [c_l,List.cons_append,List.nil_append,z_c,z_i,z_t,z_ps,z_n,and_true]
 rcases a with ⟨k,⟨r,n⟩,a1,a2,a3,a4,a5,a6,a7,a8,a9,a10,a11,t,p⟩
 rcases b with ⟨k',⟨r',n'⟩,b1,b2,b3,b4,b5,b6,b7,b8,b9,b10,b11,t',p'⟩
 simp only [Api_Item.mk.injEq,Api_Ref.mk.injEq]
theorem Anh {a b : Api_Record} (ha : Small a.Zx1) (hb : Small b.Zx1) : Lw a b = some (decide (a = b)):=by
 have hz : Jw (val a.Zx1) (val b.Zx1) = some (Kc.cmpV (val a.Zx1) (val b.Zx1)):=Kc.compare_eq _ _ (by rw [Aic];have:=ha.text;have:=ha.parts;omega)
 unfold Lw
 by_cases h1 : a.Zb = b.Zb
 case neg => rw [if_neg (by simpa using h1),decide_eq_false (fun h => h1 (by rw [h]))];rfl
 by_cases h2 : a.No = b.No
 case neg => rw [if_pos (by simpa using h1),if_neg (by simpa using h2),decide_eq_false (fun h => h2 (by rw [h]))];rfl
 by_cases h3 : a.Zv1 = b.Zv1
 case neg => rw [if_pos (by simpa using h1),if_pos (by simpa using h2),if_neg (by simpa using h3),decide_eq_false (fun h => h3 (by rw [h]))];rfl
 by_cases h4 : a.Zw1 = b.Zw1
 case neg => rw [if_pos (by simpa using h1),if_pos (by simpa using h2),if_pos (by simpa using h3),if_neg (by simpa using h4),decide_eq_false (fun h => h4 (by rw [h]))];rfl
 rw [if_pos (by simpa using h1),if_pos (by simpa using h2),if_pos (by simpa using h3),if_pos (by simpa using h4),Option.bind_some]
 by_cases h5 : ((a.Sig.C == b.Sig.C) && (a.Sig.S == b.Sig.S)) = true
 case neg =>
  rw [if_neg h5,decide_eq_false (fun h => h5 (by rw [h];simp))];rfl
 rw [if_pos h5,AaQ (by have:=ha.parts;omega),Option.bind_some,AaQ (by have:=hb.parts;omega),Option.bind_some,hz]
 simp only [Option.bind_some]
 simp only [Bool.and_eq_true,beq_iff_eq] at h5
 by_cases h6 : a.Zx1 = b.Zx1
 ·rw [decide_eq_true (Aix h1 h2 h3 h4 h5.1 h5.2 h6),h6,z_val.2 rfl];rfl
 ·rw [decide_eq_false (fun h => h6 (by rw [h]))]
  congr 1
  simp only [beq_eq_false_iff_ne,ne_eq]
  exact fun h => h6 (z_val.1 h)
def Ph (r : Api_Record) (f : Api_Fork) : Bool:=(f.A.Zb == r.Zb) && (f.A.No == r.No)
theorem acc1 (f : Api_Fork) (r : Api_Record) : Hs f r = some (Ph r f,r):=by
 unfold Hs Ph
 by_cases h : f.A.Zb = r.Zb <;> simp [h]
theorem Adn (l : List Api_Fork) (r : Api_Record) (hl : l.length≤1000000) : Bz l r = some (l.any (Ph r),r):=by
 unfold Bz C7
 generalize hF : (fun (v : Int×Int×Int×Arr UInt8 32×Int×Int×Int×Int×Int×Int×Int×Int×Int×Int×Int×Int×Int×Int×Int×List UInt8×List Api_Part×UInt64×UInt64) => Bi l v.1 v.2.1 v.2.2.1 v.2.2.2.1 v.2.2.2.2.1 v.2.2.2.2.2.1 v.2.2.2.2.2.2.1 v.2.2.2.2.2.2.2.1 v.2.2.2.2.2.2.2.2.1 v.2.2.2.2.2.2.2.2.2.1 v.2.2.2.2.2.2.2.2.2.2.1 v.2.2.2.2.2.2.2.2.2.2.2.1 v.2.2.2.2.2.2.2.2.2.2.2.2.1 v.2.2.2.2.2.2.2.2.2.2.2.2.2.1 v.2.2.2.2.2.2.2.2.2.2.2.2.2.2.1 v.2.2.2.2.2.2.2.2.2.2.2.2.2.2.2.1 v.2.2.2.2.2.2.2.2.2.2.2.2.2.2.2.2.1 v.2.2.2.2.2.2.2.2.2.2.2.2.2.2.2.2.2.1 v.2.2.2.2.2.2.2.2.2.2.2.2.2.2.2.2.2.2.1 v.2.2.2.2.2.2.2.2.2.2.2.2.2.2.2.2.2.2.2.1 v.2.2.2.2.2.2.2.2.2.2.2.2.2.2.2.2.2.2.2.2.1 v.2.2.2.2.2.2.2.2.2.2.2.2.2.2.2.2.2.2.2.2.2.1 v.2.2.2.2.2.2.2.2.2.2.2.2.2.2.2.2.2.2.2.2.2.2) = F
 have hs : ∀ k : Nat,F ((k : Int),r.Zb,r.No,r.Zv1,r.Zw1,r.Zx1.Za,r.Zx1.Ref.Zb,r.Zx1.Ref.No,r.Zx1.Zn1,r.Zx1.Zb1,r.Zx1.Zc,r.Zx1.Zo1,r.Zx1.Zw,r.Zx1.To,r.Zx1.Code,r.Zx1.Zp1,r.Zx1.Zq1,r.Zx1.Zr1,r.Zx1.Zs1,r.Zx1.Zt1,r.Zx1.Zu1,r.Sig.C,r.Sig.S) =
   Bi l (k : Int) r.Zb r.No r.Zv1 r.Zw1 r.Zx1.Za r.Zx1.Ref.Zb r.Zx1.Ref.No r.Zx1.Zn1 r.Zx1.Zb1 r.Zx1.Zc r.Zx1.Zo1 r.Zx1.Zw r.Zx1.To r.Zx1.Code r.Zx1.Zp1 r.Zx1.Zq1 r.Zx1.Zr1 r.Zx1.Zs1 r.Zx1.Zt1 r.Zx1.Zu1 r.Sig.C r.Sig.S:=fun k => by rw [← hF]
 have hlp:=Ej (f:=F) (fun v => ∃ k : Nat,k≤l.length∧(l.take k).any (Ph r) = false∧v = ((k : Int),r.Zb,r.No,r.Zv1,r.Zw1,r.Zx1.Za,r.Zx1.Ref.Zb,r.Zx1.Ref.No,r.Zx1.Zn1,r.Zx1.Zb1,r.Zx1.Zc,r.Zx1.Zo1,r.Zx1.Zw,r.Zx1.To,r.Zx1.Code,r.Zx1.Zp1,r.Zx1.Zq1,r.Zx1.Zr1,r.Zx1.Zs1,r.Zx1.Zt1,r.Zx1.Zu1,r.Sig.C,r.Sig.S)) (fun v => (l.length - v.1).toNat)
  (fun x => (l.any (Ph r) = false∧x = .inl (r.Zb,r.No,r.Zv1,r.Zw1,r.Zx1.Za,r.Zx1.Ref.Zb,r.Zx1.Ref.No,r.Zx1.Zn1,r.Zx1.Zb1,r.Zx1.Zc,r.Zx1.Zo1,r.Zx1.Zw,r.Zx1.To,r.Zx1.Code,r.Zx1.Zp1,r.Zx1.Zq1,r.Zx1.Zr1,r.Zx1.Zs1,r.Zx1.Zt1,r.Zx1.Zu1,r.Sig.C,r.Sig.S))∨(l.any (Ph r) = true∧∃ k : Nat,x = .inr (.inr ((k : Int),r)))) ?_ ⟨0,by omega,rfl,rfl⟩ (by simp;omega)
 ·obtain ⟨x,hx,hq⟩:=hlp
  show ((((A6 F ((0 : Int),r.Zb,r.No,r.Zv1,r.Zw1,r.Zx1.Za,r.Zx1.Ref.Zb,r.Zx1.Ref.No,r.Zx1.Zn1,r.Zx1.Zb1,r.Zx1.Zc,r.Zx1.Zo1,r.Zx1.Zw,r.Zx1.To,r.Zx1.Code,r.Zx1.Zp1,r.Zx1.Zq1,r.Zx1.Zr1,r.Zx1.Zs1,r.Zx1.Zt1,r.Zx1.Zu1,r.Sig.C,r.Sig.S)).bind _).bind _).bind _) = _
  rw [show A6 F ((0 : Int),r.Zb,r.No,r.Zv1,r.Zw1,r.Zx1.Za,r.Zx1.Ref.Zb,r.Zx1.Ref.No,r.Zx1.Zn1,r.Zx1.Zb1,r.Zx1.Zc,r.Zx1.Zo1,r.Zx1.Zw,r.Zx1.To,r.Zx1.Code,r.Zx1.Zp1,r.Zx1.Zq1,r.Zx1.Zr1,r.Zx1.Zs1,r.Zx1.Zt1,r.Zx1.Zu1,r.Sig.C,r.Sig.S) = some x from hx]
  rcases hq with ⟨h1,rfl⟩ | ⟨h1,k,rfl⟩
  ·rw [h1];rfl
  ·rw [h1]
   simp only [Option.bind_some]
   rw [decide_eq_true (by omega)]
 ·rintro v ⟨k,hk,ht,rfl⟩
  rw [hs]
  unfold Bi
  by_cases h1 : k < l.length
  ·rw [if_pos (decide_eq_true (by omega)),if_pos (Ds h1)]
   simp only [Int.toNat_natCast]
   rw [acc1,Option.bind_some]
   show (∃ v',(if Ph r (nth l k) = true then _ else _) = _∧_)∨_
   have hn : nth l k = l[k]:=by simp [nth,h1]
   by_cases h2 : Ph r (nth l k) = true
   ·right
    refine ⟨_,by rw [if_pos h2];rfl,.inr ⟨?_,k,rfl⟩⟩
    rw [List.any_eq_true]
    exact ⟨_,Kn h1,h2⟩
   ·left
    refine ⟨_,by rw [if_neg h2],⟨k + 1,by omega,?_,by rw [Ff (by omega)]⟩,?_⟩
    ·rw [List.take_succ_eq_append_getElem h1,List.any_append,ht,← hn]
     simpa using h2
    ·show ((l.length : Int) - w64 ((k : Int) + 1)).toNat < ((l.length : Int) - (k : Int)).toNat
     rw [Ff (by omega)];omega
  ·have : k = l.length:=by omega
   subst this
   rw [List.take_length] at ht
   right
   exact ⟨_,by rw [if_neg (by simp)],.inl ⟨ht,rfl⟩⟩
structure SingleOk (p : Api_Pool) (r : Api_Record) : Prop where
 pool : C3 p = some 0
 rail : 0≤r.Zb∧r.Zb < (p.Zk1.length : Int)
 no : 1≤r.No∧r.No≤4096
 time : 0≤r.Zw1∧r.Zw1≤1073741824
 item : J9 p r.Zx1 = some 0
 body : (Kc.Enc (lV (Ti r))).2 = 0
 ver : F9 (nth p.Zk1 r.Zb.toNat).Key (Kc.Enc (lV (Ti r))).1 r.Sig = some true
theorem Adg {p : Api_Pool} {r : Api_Record} (h : Few p) (hs : Small r.Zx1) : ∃ e,Hc p r = some e∧(e = 0→SingleOk p r):=by
 obtain ⟨f,hf,hc⟩:=Z5 h
 obtain ⟨u,hi⟩:=hc r.Zx1 (by have:=hs.parts;omega)
 unfold Hc
 rw [hf,Option.bind_some]
 by_cases h0 : (f != 0) = true
 ·rw [if_pos h0]
  exact ⟨f,rfl,fun e => by subst e;exact absurd h0 (by decide)⟩
 rw [if_neg h0]
 have f0 : f = 0:=by simpa using h0
 simp only [Ans,Nw]
 split
 ·exact ⟨_,rfl,fun e => absurd e (by decide)⟩
 rename_i h1
 simp only [Bool.or_eq_true,not_or,decide_eq_true_eq] at h1
 obtain ⟨a1,a2,a3,a4,a5,a6,a7⟩:=h1
 rw [hi,Option.bind_some]
 by_cases h2 : (u != 0) = true
 ·rw [if_pos h2]
  exact ⟨_,rfl,fun e => by rw [e] at h2;exact absurd h2 (by decide)⟩
 rw [if_neg h2,AdP hs,Option.bind_some]
 by_cases h3 : ((Kc.Enc (lV (Ti r))).2 != 0) = true
 ·rw [if_pos h3]
  exact ⟨_,rfl,fun e => by rw [e] at h3;exact absurd h3 (by decide)⟩
 rw [if_neg h3,if_pos (show InR r.Zb p.Zk1.length from ⟨by omega,by omega⟩)]
 obtain ⟨b,hb⟩:=Acz (nth p.Zk1 r.Zb.toNat).Key (Kc.Enc (lV (Ti r))).1 r.Sig
 rw [hb,Option.bind_some]
 cases b
 ·exact ⟨31,rfl,fun e => absurd e (by decide)⟩
 ·refine ⟨0,rfl,fun _ => ⟨by rw [hf,f0],⟨by omega,by omega⟩,⟨by omega,by omega⟩,⟨by omega,by omega⟩,?_,by simpa using h3,hb⟩⟩
  rw [hi]
  congr 1
  simpa using h2
def AfL (r : Api_Ref) : Bool:=(r.Zb == 0) && (r.No == 0)
structure FollowsOk (l : List Api_Record) (r : Api_Record) : Prop where
 no : r.No≤(l.length : Int) + 1
 prev : 1 < r.No→Eo (nth l (r.No - 2).toNat) = some (r.Zv1,0)∧(nth l (r.No - 2).toNat).Zw1≤r.Zw1
 first : ¬ 1 < r.No→r.Zv1 = Arr.rep 32 (0 : UInt8)
 ref : AfL r.Zx1.Ref = true∨(r.Zx1.Ref.Zb = r.Zb∧1≤r.Zx1.Ref.No∧r.Zx1.Ref.No < r.No∧AfL (nth l (r.Zx1.Ref.No - 1).toNat).Zx1.Ref = true)
theorem Yp {r : Api_Record} (h : Small r.Zx1) : ∃ d,Eo r = some d:=by
 obtain ⟨d,h1,_⟩:=AdX h
 exact ⟨d,h1⟩
theorem Abj {l : List Api_Record} {r : Api_Record} (hl : l.length≤10000) (hs : ∀ x ∈ l,Small x.Zx1) (hn : 1≤r.No) : ∃ e,Jg l r = some e∧(e = 0↔FollowsOk l r):=by
 have w1 : w64 ((l.length : Int) + 1) = (l.length : Int) + 1:=Cy (by omega)
 unfold Jg
 rw [w1]
 by_cases h1 : r.No > (l.length : Int) + 1
 ·rw [if_pos (decide_eq_true h1)]
  exact ⟨140,rfl,⟨fun e => absurd e (by decide),fun h => by have:=h.no;omega⟩⟩
 rw [if_neg (by simpa using h1)]
 have w2 : w64 (r.No - 2) = r.No - 2:=Cy (by omega)
 have tail : ∀ d : Arr UInt8 32,∃ e,(if (!(d == r.Zv1)) = true then some 140 else
    (if (!((r.Zx1.Ref.Zb == 0) && (r.Zx1.Ref.No == 0))) = true then
     if (r.Zx1.Ref.Zb != r.Zb) = true then some true
     else
      if (decide (r.Zx1.Ref.No < 1)) = true then some true
      else
       if (decide (r.Zx1.Ref.No ≥ r.No)) = true then some true
       else
        if InR ((w64 (r.Zx1.Ref.No - 1))) l.length then
         some ((!(((((nth l (((w64 (r.Zx1.Ref.No - 1))).toNat)).Zx1).Ref).Zb == 0) && ((((nth l (((w64 (r.Zx1.Ref.No - 1))).toNat)).Zx1).Ref).No == 0))))
        else none
    else some false : Option (Bool)).bind fun t => if t = true then some 110 else some 0 : Option Int) = some e ∧
   (e = 0↔d = r.Zv1∧(AfL r.Zx1.Ref = true∨(r.Zx1.Ref.Zb = r.Zb∧1≤r.Zx1.Ref.No∧r.Zx1.Ref.No < r.No∧AfL (nth l (r.Zx1.Ref.No - 1).toNat).Zx1.Ref = true))):=by
  intro d
  by_cases h2 : d = r.Zv1
  case neg => rw [if_pos (by simpa using h2)];exact ⟨140,rfl,⟨fun e => absurd e (by decide),fun h => absurd h.1 h2⟩⟩
  rw [if_neg (by simpa using h2)]
  by_cases h3 : AfL r.Zx1.Ref = true
  ·have h3' : (!((r.Zx1.Ref.Zb == 0) && (r.Zx1.Ref.No == 0))) = false:=by rw [show ((r.Zx1.Ref.Zb == 0) && (r.Zx1.Ref.No == 0)) = true from h3];rfl
   rw [h3',if_neg (by simp)]
   exact ⟨0,rfl,⟨fun _ => ⟨h2,.inl h3⟩,fun _ => rfl⟩⟩
  have h3' : (!((r.Zx1.Ref.Zb == 0) && (r.Zx1.Ref.No == 0))) = true:=by
   rw [Bool.not_eq_true] at h3
   rw [show ((r.Zx1.Ref.Zb == 0) && (r.Zx1.Ref.No == 0)) = false from h3];rfl
  rw [if_pos h3']
  by_cases h4 : r.Zx1.Ref.Zb = r.Zb
  case neg => rw [if_pos (by simpa using h4)];exact ⟨110,rfl,⟨fun e => absurd e (by decide),fun h => (h.2.resolve_left h3).1 |> fun q => absurd q h4⟩⟩
  rw [if_neg (by simpa using h4)]
  by_cases h5 : r.Zx1.Ref.No < 1
  ·rw [if_pos (decide_eq_true h5)];exact ⟨110,rfl,⟨fun e => absurd e (by decide),fun h => by have:=(h.2.resolve_left h3).2.1;omega⟩⟩
  rw [if_neg (by simpa using h5)]
  by_cases h6 : r.Zx1.Ref.No ≥ r.No
  ·rw [if_pos (decide_eq_true h6)];exact ⟨110,rfl,⟨fun e => absurd e (by decide),fun h => by have:=(h.2.resolve_left h3).2.2.1;omega⟩⟩
  rw [if_neg (by simpa using h6)]
  have w3 : w64 (r.Zx1.Ref.No - 1) = r.Zx1.Ref.No - 1:=Cy (by omega)
  rw [w3,if_pos (show InR (r.Zx1.Ref.No - 1) l.length from ⟨by omega,by omega⟩),Option.bind_some]
  by_cases h7 : AfL (nth l (r.Zx1.Ref.No - 1).toNat).Zx1.Ref = true
  ·have h7' : (!((((nth l (r.Zx1.Ref.No - 1).toNat).Zx1.Ref.Zb == 0) && ((nth l (r.Zx1.Ref.No - 1).toNat).Zx1.Ref.No == 0)))) = false:=by
    rw [show (((nth l (r.Zx1.Ref.No - 1).toNat).Zx1.Ref.Zb == 0) && ((nth l (r.Zx1.Ref.No - 1).toNat).Zx1.Ref.No == 0)) = true from h7];rfl
   rw [h7',if_neg (by simp)]
   exact ⟨0,rfl,⟨fun _ => ⟨h2,.inr ⟨h4,by omega,by omega,h7⟩⟩,fun _ => rfl⟩⟩
  ·have h7' : (!((((nth l (r.Zx1.Ref.No - 1).toNat).Zx1.Ref.Zb == 0) && ((nth l (r.Zx1.Ref.No - 1).toNat).Zx1.Ref.No == 0)))) = true:=by
    rw [Bool.not_eq_true] at h7
    rw [show (((nth l (r.Zx1.Ref.No - 1).toNat).Zx1.Ref.Zb == 0) && ((nth l (r.Zx1.Ref.No - 1).toNat).Zx1.Ref.No == 0)) = false from h7];rfl
   rw [h7',if_pos rfl]
   exact ⟨110,rfl,⟨fun e => absurd e (by decide),fun h => absurd (h.2.resolve_left h3).2.2.2 h7⟩⟩
 by_cases h2 : r.No > 1
 ·rw [if_pos (decide_eq_true h2),w2]
  have hin : InR (r.No - 2) l.length:=⟨by omega,by omega⟩
  rw [if_pos hin]
  have hk : (r.No - 2).toNat < l.length:=by omega
  obtain ⟨d,hd⟩:=Yp (hs _ (Kn hk))
  rw [hd,Option.bind_some]
  by_cases h3 : d.2 = 0
  case neg =>
   rw [if_pos (by simpa using h3)]
   refine ⟨140,rfl,⟨fun e => absurd e (by decide),fun h => ?_⟩⟩
   have:=(h.prev h2).1
   rw [hd] at this
   exact absurd (congrArg Prod.snd (Option.some.inj this)) h3
  rw [if_neg (by simpa using h3),if_pos hin,Option.bind_some]
  by_cases h4 : r.Zw1 < (nth l (r.No - 2).toNat).Zw1
  ·rw [if_pos (decide_eq_true h4)]
   exact ⟨140,rfl,⟨fun e => absurd e (by decide),fun h => by have:=(h.prev h2).2;omega⟩⟩
  rw [if_neg (by simpa using h4),Option.bind_some]
  obtain ⟨e,he,hq⟩:=tail d.1
  refine ⟨e,he,hq.trans ⟨fun h => ⟨by omega,fun _ => ⟨?_,by omega⟩,fun h5 => absurd h2 h5,h.2⟩,fun h => ⟨?_,h.ref⟩⟩⟩
  ·rw [hd,← h.1,← h3]
  ·have:=(h.prev h2).1
   rw [hd] at this
   exact congrArg Prod.fst (Option.some.inj this)
 ·rw [if_neg (by simpa using h2),Option.bind_some]
  obtain ⟨e,he,hq⟩:=tail (Arr.rep 32 (0 : UInt8))
  exact ⟨e,he,hq.trans ⟨fun h => ⟨by omega,fun h5 => absurd h5 h2,fun _ => h.1.symm,h.2⟩,fun h => ⟨(h.first h2).symm,h.ref⟩⟩⟩
structure Mid (n : Nat) (b : Api_Books) : Prop where
 logs : b.Zy1.length≤n
 forks : b.Zz1.length≤n
 row : ∀ l ∈ b.Zy1,l.length≤n
 item : ∀ l ∈ b.Zy1,∀ r ∈ l,Small r.Zx1
theorem Short.mid {b : Api_Books} (h : Short b) : Mid 12 b:=⟨by have:=h.logs;omega,by have:=h.forks;omega,h.row,h.item⟩
def logV (b : Api_Books) (rw : Int) : List Api_Record:=if 0≤rw∧rw < (b.Zy1.length : Int) then nth b.Zy1 rw.toNat else []
theorem AeP {b : Api_Books} {rw : Int} (h : 0≤rw) : Jy b rw = some (logV b rw):=by
 unfold Jy logV
 by_cases h1 : rw < (b.Zy1.length : Int)
 ·rw [if_neg (by simp;omega),if_pos (show InR rw b.Zy1.length from ⟨h,by omega⟩),if_pos ⟨h,h1⟩]
 ·rw [if_pos (by simp;omega),if_neg (fun h2 => h1 h2.2)]
theorem AoK (b : Api_Books) (rw : Int) : W8 b rw = some (logV b rw):=by
 unfold W8 logV
 rw [Ans,Option.bind_some]
 by_cases h : 0≤rw∧rw < (b.Zy1.length : Int)
 ·rw [if_neg (by simp;omega),if_pos (show InR rw b.Zy1.length from ⟨h.1,by omega⟩),if_pos h]
 ·rw [if_pos (by simp;omega),if_neg h]
theorem Mid.logV {n : Nat} {b : Api_Books} (h : Mid n b) (rw : Int) : (logV b rw).length≤n∧∀ r ∈ Proofs.YtioapcamanmoiaaDoor.logV b rw,Small r.Zx1:=by
 unfold Proofs.YtioapcamanmoiaaDoor.logV
 split
 ·rename_i h1
  have hk : rw.toNat < b.Zy1.length:=by omega
  exact ⟨h.row _ (Kn hk),h.item _ (Kn hk)⟩
 ·exact ⟨by simp,fun r hr => by simp at hr⟩
def AjY (N : Nat) (L : List (List Api_Record)) : List (List Api_Record):=L ++ List.replicate (N - L.length) []
theorem Ama (N : Nat) (L : List (List Api_Record)) (h : L.length≤N) : ovl (List.replicate N ([] : List Api_Record)) (L.take (min L.length (List.replicate N ([] : List Api_Record)).length)) 0 = AjY N L:=by
 unfold ovl AjY
 rw [List.length_replicate,Nat.min_eq_left h,List.take_length]
 simp
def Ai5 (p : Api_Pool) (b : Api_Books) (r : Api_Record) : Api_Books:={ Zy1:=(AjY (max b.Zy1.length p.Zk1.length) b.Zy1).set r.Zb.toNat (logV b r.Zb ++ [r]),Zz1:=b.Zz1 }
def AoN (b : Api_Books) (r : Api_Record) : Api_Books:={ Zy1:=b.Zy1,Zz1:=if b.Zz1.any (Ph r) = true then b.Zz1 else b.Zz1 ++ [{ A:=nth (logV b r.Zb) (r.No - 1).toNat,B:=r }] }
abbrev noB : Api_Books:={ Zy1:=[],Zz1:=[] }
def M4 (p : Api_Pool) (b : Api_Books) (r : Api_Record) (es ef : Int) : Api_Books×Int :=
 if es≠0 then (noB,es) else if r.No≤((logV b r.Zb).length : Int)∧nth (logV b r.Zb) (r.No - 1).toNat = r then (b,0)
 else if ef≠0 then (noB,ef) else if r.No = ((logV b r.Zb).length : Int) + 1 then (Ai5 p b r,0) else (AoN b r,0)
theorem AmQ {l : List Api_Record} (h : l.length≤100000) : F6 l = some l:=by
 unfold F6
 rw [if_pos (by unfold Fb maxLen Ko;omega)]
 simp only [Cv,List.nil_append]
theorem Aoi {l : List Api_Fork} (h : l.length≤100000) : Gk l = some l:=by
 unfold Gk
 rw [if_pos (by unfold Fb maxLen Ko;omega)]
 simp only [Cv,List.nil_append]
theorem Ahj {p : Api_Pool} {b : Api_Books} {r : Api_Record} {n : Nat} (h : Few p) (hm : Mid n b) (hn : n≤10000) (hr : Small r.Zx1) :
  ∃ es ef,Hc p r = some es∧(es = 0→SingleOk p r∧(ef = 0↔FollowsOk (logV b r.Zb) r))∧Bl p b r = some (M4 p b r es ef):=by
 obtain ⟨es,h1,h2⟩:=Adg h hr
 by_cases h0 : es = 0
 case neg =>
  refine ⟨es,0,h1,fun e => absurd e h0,?_⟩
  unfold Bl M4
  rw [h1,Option.bind_some,if_pos (by simpa using h0),if_pos h0]
 have hs:=h2 h0
 obtain ⟨l1,l2⟩:=hm.logV r.Zb
 obtain ⟨ef,f1,f2⟩:=Abj (l:=logV b r.Zb) (r:=r) (by omega) l2 hs.no.1
 refine ⟨es,ef,h1,fun _ => ⟨hs,f2⟩,?_⟩
 unfold Bl M4
 rw [h1,Option.bind_some,if_neg (show ¬(es != 0) = true by simpa using h0),AeP hs.rail.1,Option.bind_some,if_neg (show ¬ es≠0 from fun h => h h0)]
 generalize hl : logV b r.Zb = l at *
 obtain ⟨n1,n2⟩:=hs.no
 have w1 : w64 (r.No - 1) = r.No - 1:=Cy (by omega)
 have w2 : w64 ((l.length : Int) + 1) = (l.length : Int) + 1:=Cy (by omega)
 have hsame : (if (decide (r.No≤(l.length : Int))) = true then if InR ((w64 (r.No - 1))) l.length then (Lw (nth l (((w64 (r.No - 1))).toNat)) r).bind fun y => some y else none else some false : Option Bool) = some (decide (r.No≤(l.length : Int)∧nth l (r.No - 1).toNat = r)):=by
  by_cases h3 : r.No≤(l.length : Int)
  ·have hk : (r.No - 1).toNat < l.length:=by omega
   rw [if_pos (decide_eq_true h3),w1,if_pos (show InR (r.No - 1) l.length from ⟨by omega,by omega⟩),Anh (l2 _ (Kn hk)) hr,Option.bind_some]
   congr 1
   simp [h3]
  ·rw [if_neg (by simpa using h3),decide_eq_false (fun h => h3 h.1)]
 rw [hsame,Option.bind_some]
 by_cases h4 : r.No≤(l.length : Int)∧nth l (r.No - 1).toNat = r
 ·rw [if_pos (decide_eq_true h4),if_pos h4]
 rw [if_neg (by simpa using h4),if_neg h4,f1,Option.bind_some]
 by_cases h5 : ef = 0
 case neg => rw [if_pos (by simpa using h5),if_pos h5]
 rw [if_neg (show ¬(ef != 0) = true by simpa using h5),if_neg (show ¬ ef≠0 from fun h => h h5),w2]
 have hno:=(f2.1 h5).no
 by_cases h6 : r.No = (l.length : Int) + 1
 ·have hmx : Ty (b.Zy1.length : Int) (p.Zk1.length : Int) = ((max b.Zy1.length p.Zk1.length : Nat) : Int):=by unfold Ty;split <;> omega
  have hb:=hm.logs
  have hp:=h.railways
  rw [if_pos (by simpa using h6),if_pos h6,hmx,if_pos (by unfold Mk maxLen Ko;omega)]
  simp only [Cv,Int.toNat_natCast]
  rw [Ama _ _ (by omega),AmQ (by omega),Option.bind_some,if_pos (by unfold Fb maxLen Ko;omega)]
  have hlen : (AjY (max b.Zy1.length p.Zk1.length) b.Zy1).length = max b.Zy1.length p.Zk1.length:=by simp [AjY];omega
  rw [if_pos (show InR r.Zb (AjY (max b.Zy1.length p.Zk1.length) b.Zy1).length by
   rw [hlen]
   have r1:=hs.rail.1
   have r2:=hs.rail.2
   exact ⟨r1,by omega⟩)]
  unfold Ai5
  rw [hl]
 ·rw [if_neg (by simpa using h6),if_neg h6,Adn _ _ (by have:=hm.forks;omega),Option.bind_some]
  unfold AoN
  have hk : (r.No - 1).toNat < l.length:=by omega
  by_cases h7 : b.Zz1.any (Ph r) = true
  ·rw [if_neg (by simpa using h7),if_pos h7];rfl
  ·rw [if_pos (by simpa using h7),if_neg h7,Aoi (by have:=hm.forks;omega),Option.bind_some,w1,if_pos (show InR (r.No - 1) l.length from ⟨by omega,by omega⟩),if_pos (by have:=hm.forks;unfold Fb maxLen Ko;omega)]
   simp only [Cv,Option.bind_some]
   rw [hl]
set_option maxRecDepth 100000
def exQ : Api_Pool:=r14_Example.getD default
def Aql : Api_Item:={ Za:=8,Ref:={ Zb:=0,No:=0 },Zn1:=0,Zb1:=0,Zc:=0,Zo1:=0,Zw:=3,To:=0,Code:=1,Zp1:=0,Zq1:=0,Zr1:=0,Zs1:=0,Zt1:=[],Zu1:=[] }
def Atu : Api_Item:={ Za:=8,Ref:={ Zb:=0,No:=0 },Zn1:=0,Zb1:=0,Zc:=0,Zo1:=0,Zw:=3,To:=0,Code:=2,Zp1:=0,Zq1:=0,Zr1:=0,Zs1:=0,Zt1:=[],Zu1:=[] }
def Aru : Api_Item:={ Za:=14,Ref:={ Zb:=0,No:=1 },Zn1:=0,Zb1:=0,Zc:=0,Zo1:=0,Zw:=0,To:=0,Code:=0,Zp1:=0,Zq1:=0,Zr1:=0,Zs1:=0,Zt1:=[],Zu1:=[] }
def bk0 : Api_Books:={ Zy1:=[],Zz1:=[] }
def AlT : Api_Record:={ Zb:=0,No:=1,Zv1:=⟨[(0 : UInt8),(0 : UInt8),(0 : UInt8),(0 : UInt8),(0 : UInt8),(0 : UInt8),(0 : UInt8),(0 : UInt8),(0 : UInt8),(0 : UInt8),(0 : UInt8),(0 : UInt8),(0 : UInt8),(0 : UInt8),(0 : UInt8),(0 : UInt8),(0 : UInt8),(0 : UInt8),(0 : UInt8),(0 : UInt8),(0 : UInt8),(0 : UInt8),(0 : UInt8),(0 : UInt8),(0 : UInt8),(0 : UInt8),(0 : UInt8),(0 : UInt8),(0 : UInt8),(0 : UInt8),(0 : UInt8),(0 : UInt8)],rfl⟩,Zw1:=5,Zx1:=Aql,Sig:={ C:=132576837295297174,S:=235879338771529970 } }
def Att : Api_Record:={ Zb:=0,No:=1,Zv1:=⟨[(0 : UInt8),(0 : UInt8),(0 : UInt8),(0 : UInt8),(0 : UInt8),(0 : UInt8),(0 : UInt8),(0 : UInt8),(0 : UInt8),(0 : UInt8),(0 : UInt8),(0 : UInt8),(0 : UInt8),(0 : UInt8),(0 : UInt8),(0 : UInt8),(0 : UInt8),(0 : UInt8),(0 : UInt8),(0 : UInt8),(0 : UInt8),(0 : UInt8),(0 : UInt8),(0 : UInt8),(0 : UInt8),(0 : UInt8),(0 : UInt8),(0 : UInt8),(0 : UInt8),(0 : UInt8),(0 : UInt8),(0 : UInt8)],rfl⟩,Zw1:=5,Zx1:=Atu,Sig:={ C:=1010642900596539425,S:=208674642754336471 } }
def AtT : Api_Record:={ Zb:=0,No:=2,Zv1:=⟨[(20 : UInt8),(74 : UInt8),(221 : UInt8),(126 : UInt8),(247 : UInt8),(131 : UInt8),(164 : UInt8),(99 : UInt8),(193 : UInt8),(192 : UInt8),(56 : UInt8),(34 : UInt8),(114 : UInt8),(40 : UInt8),(146 : UInt8),(82 : UInt8),(204 : UInt8),(54 : UInt8),(168 : UInt8),(83 : UInt8),(74 : UInt8),(158 : UInt8),(104 : UInt8),(72 : UInt8),(195 : UInt8),(63 : UInt8),(51 : UInt8),(126 : UInt8),(164 : UInt8),(162 : UInt8),(16 : UInt8),(232 : UInt8)],rfl⟩,Zw1:=6,Zx1:=Aru,Sig:={ C:=531156149537135704,S:=378193558781781181 } }
def Ar4 : Api_Record:={ Zb:=0,No:=0,Zv1:=(Arr.rep 32 (0 : UInt8)),Zw1:=0,Zx1:={ Za:=0,Ref:={ Zb:=0,No:=0 },Zn1:=0,Zb1:=0,Zc:=0,Zo1:=0,Zw:=0,To:=0,Code:=0,Zp1:=0,Zq1:=0,Zr1:=0,Zs1:=0,Zt1:=([] : List UInt8),Zu1:=[] },Sig:={ C:=(0 : UInt64),S:=(0 : UInt64) } }
def bk1 : Api_Books:={ Zy1:=[[AlT],[]],Zz1:=[] }
def bk2 : Api_Books:={ Zy1:=[[AlT],[]],Zz1:=[{ A:=AlT,B:=Att }] }
def bk3 : Api_Books:={ Zy1:=[[AlT,AtT],[]],Zz1:=[] }
theorem AmY {p : Api_Pool} {d1 d2 : Api_Item} {R S T Z1 Z2 Z3 : Api_Record} {b1 b2 b3 : Api_Books} {l1 l2 l3 : List Api_Report} (hp : r14_Example = some p) (h1 : D6 1 = some d1) (h2 : D6 2 = some d2)
  (n1 : B9 p { Zy1:=[],Zz1:=[] } 0 7 5 d1 = some (R,0)) (a1 : Bl p { Zy1:=[],Zz1:=[] } R = some (b1,0)) (a2 : Bl p b1 R = some (b1,0)) (n2 : B9 p b1 0 7 4 d1 = some (Z1,140))
  (n3 : B9 p { Zy1:=[],Zz1:=[] } 0 7 5 d2 = some (S,0)) (a3 : Bl p b1 S = some (b2,0)) (n4 : B9 p { Zy1:=[],Zz1:=[] } 0 8 5 d1 = some (Z2,30)) (n5 : B9 p b1 0 7 6 { Za:=14,Ref:={ Zb:=0,No:=1 },Zn1:=0,Zb1:=0,Zc:=0,Zo1:=0,Zw:=0,To:=0,Code:=0,Zp1:=0,Zq1:=0,Zr1:=0,Zs1:=0,Zt1:=[],Zu1:=[] } = some (T,0)) (a4 : Bl p b1 T = some (b3,0)) (n6 : B9 p { Zy1:=[],Zz1:=[] } 0 7 5 { Za:=14,Ref:={ Zb:=0,No:=1 },Zn1:=0,Zb1:=0,Zc:=0,Zo1:=0,Zw:=0,To:=0,Code:=0,Zp1:=0,Zq1:=0,Zr1:=0,Zs1:=0,Zt1:=[],Zu1:=[] } = some (Z3,110))
  (c1 : R.No = 1) (c2 : R.Zv1 = ⟨[(0 : UInt8),(0 : UInt8),(0 : UInt8),(0 : UInt8),(0 : UInt8),(0 : UInt8),(0 : UInt8),(0 : UInt8),(0 : UInt8),(0 : UInt8),(0 : UInt8),(0 : UInt8),(0 : UInt8),(0 : UInt8),(0 : UInt8),(0 : UInt8),(0 : UInt8),(0 : UInt8),(0 : UInt8),(0 : UInt8),(0 : UInt8),(0 : UInt8),(0 : UInt8),(0 : UInt8),(0 : UInt8),(0 : UInt8),(0 : UInt8),(0 : UInt8),(0 : UInt8),(0 : UInt8),(0 : UInt8),(0 : UInt8)],rfl⟩) (c3 : b1.Zy1.length = 2) (c4 : (nth b1.Zy1 0).length = 1) (s1 : Qu b1 b1 = some true) (c5 : b2.Zz1.length = 1) (f1 : Fa b2 0 = some 1) (f2 : Fa b1 0 = some 0)
  (r1 : Cq b2 = some l1) (q1 : l1.length = 0) (r2 : Cq b1 = some l2) (q2 : l2.length = 1) (r3 : Cq b3 = some l3) (q3 : l3.length = 0) : law14_sane = some true:=by
 have k0 : InR 0 2:=by decide
 have k1 : ((2 : Nat) : Int) = 2:=rfl
 have k2 : ((1 : Nat) : Int) = 1:=rfl
 have k3 : ((0 : Nat) : Int) = 0:=rfl
 unfold law14_sane
 simp only [hp,h1,h2,Option.bind_some,n1,a1,a2,n2,n3,a3,n4,n5,a4,n6,c1,c2,c3,c4,s1,c5,f1,f2,r1,q1,r2,q2,r3,q3,k1,k2,k3,beq_self_eq_true,if_true,if_pos k0]
theorem e_ex : r14_Example = some exQ:=by kernel_rfl
theorem e_d1 : D6 1 = some Aql:=rfl
theorem e_d2 : D6 2 = some Atu:=rfl
theorem e_n1 : B9 exQ bk0 0 7 5 Aql = some (AlT,0):=by decide +kernel
theorem e_a1 : Bl exQ bk0 AlT = some (bk1,0):=by decide +kernel
theorem e_a2 : Bl exQ bk1 AlT = some (bk1,0):=by decide +kernel
theorem e_n2 : B9 exQ bk1 0 7 4 Aql = some (Ar4,140):=by decide +kernel
theorem e_n3 : B9 exQ bk0 0 7 5 Atu = some (Att,0):=by decide +kernel
theorem e_a3 : Bl exQ bk1 Att = some (bk2,0):=by decide +kernel
theorem e_n4 : B9 exQ bk0 0 8 5 Aql = some (Ar4,30):=by decide +kernel
theorem e_n5 : B9 exQ bk1 0 7 6 Aru = some (AtT,0):=by decide +kernel
theorem e_a4 : Bl exQ bk1 AtT = some (bk3,0):=by decide +kernel
theorem e_n6 : B9 exQ bk0 0 7 5 Aru = some (Ar4,110):=by decide +kernel
theorem e_s1 : Qu bk1 bk1 = some true:=by decide +kernel
theorem e_f1 : Fa bk2 0 = some 1:=by decide +kernel
theorem e_f2 : Fa bk1 0 = some 0:=by decide +kernel
theorem e_r1 : (Cq bk2) = some []:=by decide +kernel
theorem e_r2 : (Cq bk1).map List.length = some 1:=by decide +kernel
theorem e_r3 : (Cq bk3) = some []:=by decide +kernel
theorem AnU : law14_sane = some true:=by
  obtain ⟨l,hl,hr⟩ : ∃ l,Cq bk1 = some l∧l.length = 1:=by
    have:=e_r2
    cases h : Cq bk1 with
    | none => rw [h] at this;cases this
    | some l => rw [h] at this;exact ⟨l,rfl,by simpa using this⟩
  exact AmY e_ex e_d1 e_d2 e_n1 e_a1 e_a2 e_n2 e_n3 e_a3 e_n4 e_n5 e_a4 e_n6 rfl rfl rfl rfl e_s1 rfl e_f1 e_f2 e_r1 rfl hl hr e_r3 rfl
set_option maxRecDepth 8000
structure FewP (p : Api_Pool) : Prop where
 few : Few p
 rails : p.Zk1.length≤4
theorem AjP (p : Api_Pool) : ∃ b,L4 p = some b∧(b = true→FewP p):=by
 obtain ⟨x,hx,hq⟩ : ∃ x,A6 (fun (v : Int) => Je p v) 0 = some x∧(x = .inr (.inr false)∨(x = .inl ()∧∀ j,j < p.Zk1.length→j < 5→(nth p.Zk1 j).Zf1.Ze1.length≤5)):=by
  refine Ej (fun v => ∃ k : Nat,v = (k : Int)∧k≤5∧k≤p.Zk1.length∧∀ j,j < k→(nth p.Zk1 j).Zf1.Ze1.length≤5) (fun v => (5 - v).toNat) _ ?_ ⟨0,rfl,by omega,by omega,fun j hj => by omega⟩ (by simp)
  rintro v ⟨k,rfl,h1,h2,h3⟩
  unfold Je
  simp only [Ap7,Nw]
  by_cases hk : k < p.Zk1.length∧k < 5
  ·rw [if_pos (by simp;omega),if_pos (Ds hk.1)]
   simp only [Cv,Int.toNat_natCast,Ff (k:=k) (by omega)]
   by_cases hd : (nth p.Zk1 k).Zf1.Ze1.length≤5
   ·left
    rw [if_neg (by simp;omega)]
    refine ⟨_,rfl,⟨k + 1,rfl,by omega,by omega,fun j hj => ?_⟩,by omega⟩
    by_cases e : j = k
    ·subst e;exact hd
    ·exact h3 j (by omega)
   ·right
    rw [if_pos (by simp;omega)]
    exact ⟨_,rfl,.inl rfl⟩
  ·right
   rw [if_neg (by simp;omega)]
   exact ⟨_,rfl,.inr ⟨rfl,fun j hj hj2 => h3 j (by omega)⟩⟩
 unfold L4
 rw [hx]
 rcases hq with rfl | ⟨rfl,hall⟩
 ·exact ⟨false,rfl,fun e => by cases e⟩
 ·simp only [Nw,Ap7]
  refine ⟨_,rfl,fun e => ?_⟩
  simp only [Bool.and_eq_true,decide_eq_true_eq] at e
  obtain ⟨⟨a1,a2⟩,⟨b1,b2,b3,b4⟩,c1,c2,c3⟩:=e
  exact ⟨⟨by omega,by omega,by omega,by omega,by omega,by omega,by omega,by omega,by omega,fun k hk => by have:=hall k hk (by omega);omega⟩,by omega⟩
theorem AkO {α : Type} {p : Api_Pool} {b : Api_Books} {it : Api_Item} {X : Option Bool} (hX : FewP p→Short b→Small it→X = some true) :
  (((L4 p).bind fun y => if (!y) = true then some true else (Ir b).bind fun y => if (!y) = true then some true else (E5 it).bind fun y => some (!y) : Option Bool).bind fun t => if t = true then some true else X) = some true:=by
 obtain ⟨f,hf,hq⟩:=AjP p
 rw [hf,Option.bind_some]
 cases f
 ·rfl
 rw [if_neg (by simp),AjA,Option.bind_some]
 by_cases hs : Qi b = true
 case neg => rw [if_pos (by simpa using hs)];rfl
 rw [if_neg (by simpa using hs),Aau,Option.bind_some,Option.bind_some]
 by_cases hi : Kw it = true
 case neg => rw [if_pos (by simpa using hi)]
 rw [if_neg (by simpa using hi)]
 exact hX (hq rfl) (AkL hs) (Uo hi)
theorem AeR {it : Api_Item} (h : Small it) : it.Zu1.length≤1000000:=by have:=h.parts;omega
theorem Xv {p : Api_Pool} {b : Api_Books} {r : Api_Record} {es ef : Int} (h : (M4 p b r es ef).2 = 0) : es = 0:=by
 unfold M4 at h
 split at h
 ·exact h
 ·rename_i h';exact Decidable.not_not.1 h'
set_option maxHeartbeats 1000000
def AfY : Api_Record:={ Zb:=0,No:=0,Zv1:=Arr.rep 32 (0 : UInt8),Zw1:=0,Zx1:={ Za:=0,Ref:={ Zb:=0,No:=0 },Zn1:=0,Zb1:=0,Zc:=0,Zo1:=0,Zw:=0,To:=0,Code:=0,Zp1:=0,Zq1:=0,Zr1:=0,Zs1:=0,Zt1:=[],Zu1:=[] },Sig:={ C:=0,S:=0 } }
structure NextOk (p : Api_Pool) (b : Api_Books) (rw : Int) (tm : Int) (it : Api_Item) (r : Api_Record) : Prop where
 rail : r.Zb = rw
 rng : 0≤rw∧rw < (p.Zk1.length : Int)
 no : r.No = ((logV b rw).length : Int) + 1
 time : r.Zw1 = tm
 item : r.Zx1 = it
 single0 : Hc p r = some 0
 single : SingleOk p r
 foll : FollowsOk (logV b rw) r
 acc : Bl p b r = some (Ai5 p b r,0)
theorem Acw {p : Api_Pool} {b : Api_Books} {r : Api_Record} {es ef : Int} (hn : r.No = ((logV b r.Zb).length : Int) + 1) (h : (M4 p b r es ef).2 = 0) : es = 0∧ef = 0∧M4 p b r es ef = (Ai5 p b r,0):=by
 have h0:=Xv h
 refine ⟨h0,?_⟩
 unfold M4 at h ⊢
 have h1 : ¬(r.No≤((logV b r.Zb).length : Int)∧nth (logV b r.Zb) (r.No - 1).toNat = r):=fun q => by have:=q.1;omega
 rw [if_neg (fun h => h h0),if_neg h1] at h ⊢
 by_cases h2 : ef = 0
 ·refine ⟨h2,?_⟩
  rw [if_neg (fun h => h h2),if_pos hn]
 ·rw [if_pos h2] at h
  exact absurd h h2
theorem AhP {p : Api_Pool} {b : Api_Books} {rw : Int} {sec : UInt64} {tm : Int} {it : Api_Item} {n : Nat} (h : Few p) (hm : Mid n b) (hn : n≤4000) (hi : Small it) :
  ∃ r e,B9 p b rw sec tm it = some (r,e)∧(e≠0→r = AfY)∧(e = 0→NextOk p b rw tm it r):=by
 obtain ⟨f,hf,_⟩:=Z5 h
 unfold B9
 rw [hf,Option.bind_some]
 by_cases h0 : (f != 0) = true
 ·rw [if_pos h0]
  exact ⟨_,_,rfl,fun _ => rfl,fun e => by subst e;exact absurd h0 (by decide)⟩
 rw [if_neg h0,Ans,Option.bind_some]
 by_cases h1 : (decide (rw < 0) || decide (rw ≥ (p.Zk1.length : Int))) = true
 ·rw [if_pos h1]
  exact ⟨_,_,rfl,fun _ => rfl,fun e => absurd e (by decide)⟩
 rw [if_neg h1]
 simp only [Bool.or_eq_true,not_or,decide_eq_true_eq] at h1
 obtain ⟨k,hk⟩:=Wq sec
 rw [hk,Option.bind_some]
 by_cases h2 : (k.2 != 0) = true
 ·rw [if_pos h2]
  exact ⟨_,_,rfl,fun _ => rfl,fun e => by rw [e] at h2;exact absurd h2 (by decide)⟩
 rw [if_neg h2,if_pos (show InR rw p.Zk1.length from ⟨by omega,by omega⟩)]
 by_cases h3 : (k.1 != (nth p.Zk1 rw.toNat).Key) = true
 ·rw [if_pos h3]
  exact ⟨_,_,rfl,fun _ => rfl,fun e => absurd e (by decide)⟩
 rw [if_neg h3,AeP (by omega),Option.bind_some]
 simp only [Cv]
 obtain ⟨l1,l2⟩:=hm.logV rw
 have w1 : w64 (((logV b rw).length : Int) + 1) = ((logV b rw).length : Int) + 1:=Cy (by omega)
 have w2 : w64 (((logV b rw).length : Int) - 1) = ((logV b rw).length : Int) - 1:=Cy (by omega)
 rw [w1,w2]
 have tail : ∀ d : Arr UInt8 32,∃ r e,((I6 { Zb:=rw,No:=((logV b rw).length : Int) + 1,Zv1:=d,Zw1:=tm,Zx1:=it,Sig:={ C:=0,S:=0 } }).bind fun y =>
   if (y.2 != 0) = true then some (AfY,y.2) else (Kg sec y.1).bind fun z =>
    if (z.2 != 0) = true then some (AfY,z.2) else (Bl p b { Zb:=rw,No:=((logV b rw).length : Int) + 1,Zv1:=d,Zw1:=tm,Zx1:=it,Sig:=z.1 }).bind fun u =>
     if (u.2 != 0) = true then some (AfY,u.2) else some (({ Zb:=rw,No:=((logV b rw).length : Int) + 1,Zv1:=d,Zw1:=tm,Zx1:=it,Sig:=z.1 } : Api_Record),(0 : Int)) : Option (Api_Record×Int)) = some (r,e)∧(e≠0→r = AfY)∧(e = 0→NextOk p b rw tm it r):=by
  intro d
  rw [AdP (r:={ Zb:=rw,No:=((logV b rw).length : Int) + 1,Zv1:=d,Zw1:=tm,Zx1:=it,Sig:={ C:=0,S:=0 } }) hi,Option.bind_some]
  generalize Kc.Enc (lV (Ti { Zb:=rw,No:=((logV b rw).length : Int) + 1,Zv1:=d,Zw1:=tm,Zx1:=it,Sig:={ C:=0,S:=0 } })) = y
  by_cases h4 : (y.2 != 0) = true
  ·rw [if_pos h4]
   exact ⟨_,_,rfl,fun _ => rfl,fun e => by rw [e] at h4;exact absurd h4 (by decide)⟩
  rw [if_neg h4]
  obtain ⟨z,hz⟩:=Ahh sec y.1
  rw [hz,Option.bind_some]
  by_cases h5 : (z.2 != 0) = true
  ·rw [if_pos h5]
   exact ⟨_,_,rfl,fun _ => rfl,fun e => by rw [e] at h5;exact absurd h5 (by decide)⟩
  rw [if_neg h5]
  obtain ⟨es,ef,q1,q2,q3⟩:=Ahj (r:={ Zb:=rw,No:=((logV b rw).length : Int) + 1,Zv1:=d,Zw1:=tm,Zx1:=it,Sig:=z.1 }) h hm (by omega) hi
  rw [q3,Option.bind_some]
  by_cases h6 : ((M4 p b { Zb:=rw,No:=((logV b rw).length : Int) + 1,Zv1:=d,Zw1:=tm,Zx1:=it,Sig:=z.1 } es ef).2 != 0) = true
  ·rw [if_pos h6]
   exact ⟨_,_,rfl,fun _ => rfl,fun e => by rw [e] at h6;exact absurd h6 (by decide)⟩
  rw [if_neg h6]
  obtain ⟨e1,e2,e3⟩:=Acw (r:={ Zb:=rw,No:=((logV b rw).length : Int) + 1,Zv1:=d,Zw1:=tm,Zx1:=it,Sig:=z.1 }) rfl (by simpa using h6)
  obtain ⟨s1,s2⟩:=q2 e1
  exact ⟨_,_,rfl,fun e => absurd rfl e,fun _ => ⟨rfl,⟨by omega,by omega⟩,rfl,rfl,rfl,by rw [q1,e1],s1,s2.1 e2,by rw [q3,e3]⟩⟩
 by_cases h4 : ((logV b rw).length : Int) > 0
 ·rw [if_pos (decide_eq_true h4)]
  have hk : (((logV b rw).length : Int) - 1).toNat < (logV b rw).length:=by omega
  rw [if_pos (show InR (((logV b rw).length : Int) - 1) (logV b rw).length from ⟨by omega,by omega⟩)]
  obtain ⟨d,hd⟩:=Yp (l2 _ (Kn hk))
  rw [hd,Option.bind_some]
  by_cases h5 : (d.2 != 0) = true
  ·rw [if_pos h5]
   exact ⟨_,_,rfl,fun _ => rfl,fun e => by rw [e] at h5;exact absurd h5 (by decide)⟩
  rw [if_neg h5,Option.bind_some]
  obtain ⟨r,e,t1,t2,t3⟩:=tail d.1
  exact ⟨r,e,t1,t2,t3⟩
 ·rw [if_neg (by simpa using h4),Option.bind_some]
  obtain ⟨r,e,t1,t2,t3⟩:=tail (Arr.rep 32 (0 : UInt8))
  exact ⟨r,e,t1,t2,t3⟩
theorem AhO (N : Nat) (L : List (List Api_Record)) (h : L.length≤N) : (AjY N L).length = N:=by simp [AjY];omega
theorem Aj1 {p : Api_Pool} {b : Api_Books} {r : Api_Record} (h : 0≤r.Zb∧r.Zb < (p.Zk1.length : Int)) : nth (Ai5 p b r).Zy1 r.Zb.toNat = logV b r.Zb ++ [r]:=by
 unfold Ai5
 have : r.Zb.toNat < (AjY (max b.Zy1.length p.Zk1.length) b.Zy1).length:=by rw [AhO _ _ (by omega)];omega
 simp [nth,this]
theorem Ae8 {p : Api_Pool} {b : Api_Books} {r : Api_Record} : (Ai5 p b r).Zy1.length = max b.Zy1.length p.Zk1.length:=by
 unfold Ai5
 rw [List.length_set,AhO _ _ (by omega)]
theorem Abh (p : Api_Pool) (b : Api_Books) (rw : Int) (sec : UInt64) (tm : Int) (it : Api_Item) : Cr p b rw sec tm it = some true:=by
 unfold Cr
 rw [AnU,Option.bind_some,if_neg (by simp)]
 refine AkO (α:=Unit) fun hp hb hi => ?_
 obtain ⟨r,e,h1,h2,h3⟩:=AhP (rw:=rw) (sec:=sec) (tm:=tm) hp.few hb.mid (by omega) hi
 rw [h1,Option.bind_some]
 by_cases he : e = 0
 case neg =>
  rw [if_pos (by simpa using he),h2 he]
  rw [Afe (by simp [AfY]),Option.bind_some]
  congr 1
 obtain ⟨o1,o2,o3,o4,o5,o6,o7,o8,o9⟩:=h3 he
 rw [if_neg (by simpa using he)]
 obtain ⟨l1,l2⟩:=hb.mid.logV rw
 simp only
 rw [o9,Option.bind_some,AdP (by rw [o5];exact hi),Option.bind_some]
 rw [if_neg (by simp),if_neg (by simp [o7.body])]
 rw [if_neg (by simp;omega),if_neg (by simp;omega),if_neg (by rw [Ae8];simp;omega),if_pos (show InR rw p.Zk1.length from ⟨o2.1,by omega⟩)]
 have hver:=o7.ver
 rw [o1] at hver
 rw [hver,Option.bind_some,Option.bind_some,if_neg (by simp),AoK,Option.bind_some]
 simp only [Cv]
 have w1 : w64 (((logV b rw).length : Int) + 1) = ((logV b rw).length : Int) + 1:=Cy (by omega)
 have w2 : w64 (((logV b rw).length : Int) - 1) = ((logV b rw).length : Int) - 1:=Cy (by omega)
 have hprev : ∀ z : Arr UInt8 32,z = Arr.rep 32 (0 : UInt8)→(if decide (((logV b rw).length : Int) > 0) = true then if InR (w64 (((logV b rw).length : Int) - 1)) (logV b rw).length then (Eo (nth (logV b rw) (w64 (((logV b rw).length : Int) - 1)).toNat)).bind fun y => some y.1 else none else some z : Option (Arr UInt8 32)) = some r.Zv1:=by
  intro z hz
  by_cases h4 : ((logV b rw).length : Int) > 0
  ·rw [if_pos (decide_eq_true h4),w2,if_pos (show InR (((logV b rw).length : Int) - 1) (logV b rw).length from ⟨by omega,by omega⟩)]
   obtain ⟨q1,_⟩:=o8.prev (by omega)
   rw [show (r.No - 2).toNat = (((logV b rw).length : Int) - 1).toNat by omega] at q1
   rw [q1];rfl
  ·rw [if_neg (by simpa using h4),o8.first (by omega),hz]
 rw [hprev (⟨[0,0,0,0,0,0,0,0,0,0,0,0,0,0,0,0,0,0,0,0,0,0,0,0,0,0,0,0,0,0,0,0],rfl⟩ : Arr UInt8 32) (Arr.ext' rfl),Option.bind_some,if_pos (by unfold Fb maxLen Ko;omega),w1]
 rw [if_pos (by simpa using o3),if_pos (by simpa using o4),if_pos (by simp),if_pos (by simpa using o1),if_pos (by simp [Ai5])]
 rw [if_pos (show InR rw (Ai5 p b r).Zy1.length by rw [Ae8];exact ⟨o2.1,by omega⟩),if_pos (by simp only [List.nil_append];unfold Fb maxLen Ko;omega)]
 have hrow:=Aj1 (b:=b) o7.rail
 rw [o1] at hrow
 rw [hrow,List.nil_append,Ajq (by simp;omega) (fun x hx => ?_),Option.bind_some,Option.bind_some]
 ·simp
 ·rcases List.mem_append.1 hx with hx | hx
  ·exact AeR (l2 x hx)
  ·rw [List.mem_singleton] at hx
   rw [hx,o5]
   exact AeR hi
set_option maxRecDepth 4000
def AoV (r : Api_Record) : Bool:=!((r.Zx1.Ref.Zb == 0) && (r.Zx1.Ref.No == 0))
def Atj (r : Api_Record) (i k : Int) : Api_Report:={ Ref:=r.Zx1.Ref,By:={ Zb:=i,No:=k },Zw1:=r.Zw1,Zx1:=r.Zx1 }
def bare (it : Api_Item) : Api_Item:={ it with Ref:={ Zb:=0,No:=0 } }
def AtV (o : Option Api_Report) (i k : Int) (r : Api_Record) : Option Api_Report :=
 if AoV r = true then none else match o with
 | none => some { Ref:={ Zb:=i,No:=k },By:={ Zb:=i,No:=k },Zw1:=r.Zw1,Zx1:=bare r.Zx1 }
 | some p => if (p.Zx1.Za == 14) = true then none else some { p with Zx1:=bare p.Zx1 }
def Aln (row : List Api_Record) (i n : Int) : Nat→Option Api_Report
 | 0 => none
 | k + 1 => if (nth row k).Zx1.Ref = { Zb:=i,No:=n } then some (Atj (nth row k) i ((k + 1 : Nat) : Int)) else Aln row i n k
def rep (row : List Api_Record) (i : Nat) (k : Nat) : Option Api_Report:=AtV (Aln row (i : Int) ((k + 1 : Nat) : Int) row.length) (i : Int) ((k + 1 : Nat) : Int) (nth row k)
structure SB (b : Api_Books) : Prop where
 logs : b.Zy1.length≤4
 forks : b.Zz1.length≤6
 row : ∀ l ∈ b.Zy1,l.length≤12
 ref : ∀ l ∈ b.Zy1,∀ r ∈ l,I64 r.Zx1.Ref.Zb∧I64 r.Zx1.Ref.No
 parts : ∀ l ∈ b.Zy1,∀ r ∈ l,r.Zx1.Zu1.length≤20
 fno : ∀ f ∈ b.Zz1,I64 f.A.No
structure BookInts (b : Api_Books) : Prop where
 ref : ∀ l ∈ b.Zy1,∀ r ∈ l,I64 r.Zx1.Ref.Zb∧I64 r.Zx1.Ref.No
 fno : ∀ f ∈ b.Zz1,I64 f.A.No
end Go.Proofs.YtioapcamanmoiaaDoor
