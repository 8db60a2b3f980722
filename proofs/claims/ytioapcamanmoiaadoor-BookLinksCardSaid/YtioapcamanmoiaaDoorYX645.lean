/-
  Part 45.
-/
import Derived.Test.YtioapcamanmoiaaDoorYX626
import Derived.Test.YtioapcamanmoiaaDoorYX642
import Derived.Test.YtioapcamanmoiaaDoorYX643
import Derived.Test.YtioapcamanmoiaaDoorYX644
import Derived.KernelRfl
namespace Go.Proofs.YtioapcamanmoiaaDoor
open Go.Rv
set_option linter.unusedVariables false
set_option linter.unusedSimpArgs false
set_option maxRecDepth 4000
theorem AfX (p : Api_Place) : Lg (H6 p):=by
 unfold H6
 repeat' first | exact Cu | refine Eb (fun _ => ?_) (fun _ => ?_) | refine C6 ?_ (fun _ => ?_)
theorem Oq (n a b : Int) : Lg (Az n a b):=by
 unfold Az
 repeat' first | exact Cu | refine Eb (fun _ => ?_) (fun _ => ?_) | refine C6 ?_ (fun _ => ?_)
theorem Of (b : Bool) (n : Int) : Lg (Bb b n):=by
 unfold Bb
 exact Eb (fun _ => Cu) (fun _ => Cu)
theorem Ajq (n : Api_Network) (hp : n.Ze.length≤4096) (he : n.Zf.length≤4096) : Lg (Hx n):=by
 have l1 : Lg (A4 (fun (v : Int) => Ej n v) 0):=by
  refine Et n.Ze.length id (by omega) (fun k v hk hv => ?_) (fun v hv => ?_)
  ·obtain rfl : v = (k : Int):=hv
   unfold Ej
   rw [if_pos (decide_eq_true (by omega))]
   refine Jv (D6 hk) ?_
   simp only [Cv,Int.toNat_natCast]
   refine C6 (AfX _) fun b => ?_
   refine Eb (fun _ => Fv fun v' e => by cases e) fun _ => Fv fun v' e => by cases e;exact Fq (by omega)
  ·obtain rfl : v = (n.Ze.length : Int):=hv
   unfold Ej
   rw [if_neg (by simp)];exact ⟨_,rfl⟩
 have l2 : Lg (A4 (fun (v : Int) => Eg n (n.Ze.length : Int) v) 0):=by
  refine Et n.Zf.length id (by omega) (fun k v hk hv => ?_) (fun v hv => ?_)
  ·obtain rfl : v = (k : Int):=hv
   unfold Eg
   rw [if_pos (decide_eq_true (by omega))]
   refine Jv (D6 hk) ?_
   simp only [Cv,Int.toNat_natCast]
   refine C6 ?_ fun b => ?_
   ·repeat' first | exact Cu | refine Eb (fun _ => ?_) (fun _ => ?_)
   ·exact Eb (fun _ => Fv fun v' e => by cases e) fun _ => Fv fun v' e => by cases e;exact Fq (by omega)
  ·obtain rfl : v = (n.Zf.length : Int):=hv
   unfold Eg
   rw [if_neg (by simp)];exact ⟨_,rfl⟩
 obtain ⟨x1,e1,_⟩:=l1
 obtain ⟨x2,e2,_⟩:=l2
 unfold Hx
 simp only [Cv]
 refine C6 ?_ fun b => ?_
 ·repeat' first | exact Cu | refine Eb (fun _ => ?_) (fun _ => ?_)
 ·refine Eb (fun _ => Cu) fun _ => ?_
  rw [e1,e2]
  rcases x1 with u | (u | m) <;> rcases x2 with w | (w | m2) <;> (try cases u) <;> (try cases w) <;> exact ⟨_,rfl,trivial⟩
theorem Ajd (c : Api_Calendar) (hl : c.Ze1.length≤1000000) : Lg (G1 c):=by
 have l1 : Lg (A4 (fun (v : Int×Int) => D8 c v.1 v.2) (-1,0)):=by
  refine Et c.Ze1.length (fun v => v.2) (by omega) (fun k v hk hv => ?_) (fun v hv => ?_)
  ·obtain ⟨a,t⟩:=v
   obtain rfl : t = (k : Int):=hv
   simp only
   unfold D8
   rw [if_pos (decide_eq_true (by omega))]
   refine Jv (D6 hk) ?_
   simp only [Cv,Int.toNat_natCast]
   refine C6 ?_ fun b => ?_
   ·repeat' first | exact Cu | refine Eb (fun _ => ?_) (fun _ => ?_)
   ·exact Eb (fun _ => Fv fun v' e => by cases e) fun _ => Fv fun v' e => by cases e;exact Fq (by omega)
  ·obtain ⟨a,t⟩:=v
   obtain rfl : t = (c.Ze1.length : Int):=hv
   simp only
   unfold D8
   rw [if_neg (by simp)];exact ⟨_,rfl⟩
 obtain ⟨x1,e1,_⟩:=l1
 unfold G1
 simp only [Cv]
 refine C6 ?_ fun b => ?_
 ·repeat' first | exact Cu | refine Eb (fun _ => ?_) (fun _ => ?_) | refine C6 ?_ (fun _ => ?_)
 ·cases b
  ·rw [e1]
   rcases x1 with u | (u | m) <;> (try cases u) <;> exact ⟨_,rfl,trivial⟩
  ·exact ⟨_,rfl,trivial⟩
theorem AfH (f : Api_Fleet) (h1 : f.Zx.length≤4096) (h2 : f.Zy.length≤4096) (h3 : f.Zz.length≤4096) (h4 : f.Za1.length≤4096) : Lg (Jz f):=by
 have l1 : ∀ (a b c d : Int) (e0 : Int),Lg (A4 (fun (v : Int×Int) => Fm (([a,b,c,d] : List Int).length : Int) [a,b,c,d] v.1 v.2) (0,e0)):=by
  intro a b c d e0
  refine Et 4 (fun v => v.1) (by omega) (fun k v hk hv => ?_) (fun v hv => ?_)
  ·obtain ⟨t,e⟩:=v
   obtain rfl : t = (k : Int):=hv
   simp only
   unfold Fm
   rw [if_pos (decide_eq_true (by simp;omega))]
   refine Jv (D6 (by simpa using hk)) ?_
   exact C6 (Oq _ _ _) fun _ => C6 (Of _ _) fun _ => Fv fun v' e => by cases e;exact Fq (by omega)
  ·obtain ⟨t,e⟩:=v
   obtain rfl : t = 4:=hv
   simp only
   unfold Fm
   rw [if_neg (by simp)];exact ⟨_,rfl⟩
 have l2 : ∀ e0,Lg (A4 (fun (v : Int×Int) => Fg f v.1 v.2) (0,e0)):=by
  intro e0
  refine Et f.Zx.length (fun v => v.1) (by omega) (fun k v hk hv => ?_) (fun v hv => ?_)
  ·obtain ⟨t,e⟩:=v
   obtain rfl : t = (k : Int):=hv
   simp only
   unfold Fg
   rw [if_pos (decide_eq_true (by omega))]
   refine C6 ?_ fun _ => Fv fun v' e => by cases e;exact Fq (by omega)
   refine Jv (D6 hk) ?_
   simp only [Cv,Int.toNat_natCast]
   refine C6 (C6 (l1 _ _ _ _ _) fun _ => Cu) fun _ => ?_
   repeat' first | exact Cu | exact Oq _ _ _ | exact Of _ _ | refine Eb (fun _ => ?_) (fun _ => ?_) | refine C6 ?_ (fun _ => ?_)
  ·obtain ⟨t,e⟩:=v
   obtain rfl : t = (f.Zx.length : Int):=hv
   simp only
   unfold Fg
   rw [if_neg (by simp)];exact ⟨_,rfl⟩
 have l3 : ∀ e0,Lg (A4 (fun (v : Int×Int) => Fj f v.1 v.2) (0,e0)):=by
  intro e0
  refine Et f.Zy.length (fun v => v.1) (by omega) (fun k v hk hv => ?_) (fun v hv => ?_)
  ·obtain ⟨t,e⟩:=v
   obtain rfl : t = (k : Int):=hv
   simp only
   unfold Fj
   rw [if_pos (decide_eq_true (by omega))]
   refine Jv (D6 hk) ?_
   simp only [Cv,Int.toNat_natCast]
   refine C6 ?_ fun _ => C6 ?_ fun _ => Fv fun v' e => by cases e;exact Fq (by omega)
   all_goals (repeat' first | exact Cu | exact Oq _ _ _ | exact Of _ _ | refine Eb (fun _ => ?_) (fun _ => ?_) | refine C6 ?_ (fun _ => ?_))
  ·obtain ⟨t,e⟩:=v
   obtain rfl : t = (f.Zy.length : Int):=hv
   simp only
   unfold Fj
   rw [if_neg (by simp)];exact ⟨_,rfl⟩
 have l4 : ∀ e0,Lg (A4 (fun (v : Int×Int) => Fb f v.1 v.2) (0,e0)):=by
  intro e0
  refine Et f.Zz.length (fun v => v.1) (by omega) (fun k v hk hv => ?_) (fun v hv => ?_)
  ·obtain ⟨t,e⟩:=v
   obtain rfl : t = (k : Int):=hv
   simp only
   unfold Fb
   rw [if_pos (decide_eq_true (by omega))]
   refine Jv (D6 hk) ?_
   simp only [Cv,Int.toNat_natCast]
   refine C6 ?_ fun _ => Fv fun v' e => by cases e;exact Fq (by omega)
   repeat' first | exact Cu | exact Oq _ _ _ | exact Of _ _ | refine Eb (fun _ => ?_) (fun _ => ?_) | refine C6 ?_ (fun _ => ?_)
  ·obtain ⟨t,e⟩:=v
   obtain rfl : t = (f.Zz.length : Int):=hv
   simp only
   unfold Fb
   rw [if_neg (by simp)];exact ⟨_,rfl⟩
 have l5 : ∀ e0 g0,Lg (A4 (fun (v : Int×Int×Arr Bool 4096) => Fl f v.1 v.2.1 v.2.2) (0,e0,g0)):=by
  intro e0 g0
  refine Et f.Za1.length (fun v => v.1) (by omega) (fun k v hk hv => ?_) (fun v hv => ?_)
  ·obtain ⟨t,e,g⟩:=v
   obtain rfl : t = (k : Int):=hv
   simp only
   unfold Fl
   rw [if_pos (decide_eq_true (by omega))]
   refine C6 ?_ fun ⟨_,_⟩ => Fv fun v' e => by cases e;exact Fq (by omega)
   refine Jv (D6 hk) ?_
   simp only [Cv,Int.toNat_natCast]
   generalize nth f.Za1 k = w
   refine Iu (Q:=fun b => b = true→(0≤w.Zw∧w.Zw≤63)∧(0≤w.To∧w.To≤63)) ?_ fun b hb => ?_
   ·have hbt : ∀ n lo hi,TP (Az n lo hi) fun b => b = true→lo≤n∧n≤hi:=by
     intro n lo hi
     unfold Az
     refine Iu (Q:=fun b => b = true→lo≤n∧n≤hi) (Eb (fun h => Fv fun q => ?_) fun _ => Fv fun q => by cases q) fun b hb => Fv hb
     simp only [decide_eq_true_eq] at h q
     exact ⟨h,q⟩
    refine Iu (hbt _ _ _) fun b hb => Eb (fun h => ?_) fun _ => Fv fun q => by cases q
    refine Iu (hbt _ _ _) fun b2 hb2 => Eb (fun h2 => ?_) fun _ => Fv fun q => by cases q
    refine Eb (fun _ => C6 (Oq _ _ _) fun _ => Fv fun _ => ⟨hb h,hb2 h2⟩) fun _ => Fv fun q => by cases q
   ·refine C6 (Of _ _) fun _ => Eb (fun h => ?_) fun _ => Cu
    have hw:=hb h
    refine Jv ⟨by omega,by omega⟩ (Jv ⟨by omega,by omega⟩ (C6 (Of _ _) fun _ => Jv ⟨by omega,by omega⟩ (Jv ⟨by omega,by omega⟩ Cu)))
  ·obtain ⟨t,e,g⟩:=v
   obtain rfl : t = (f.Za1.length : Int):=hv
   simp only
   unfold Fl
   rw [if_neg (by simp)];exact ⟨_,rfl⟩
 unfold Jz
 refine C6 ?_ fun b => Eb (fun _ => Cu) fun _ => ?_
 ·repeat' first | exact Cu | refine Eb (fun _ => ?_) (fun _ => ?_)
 ·exact C6 (C6 (l2 _) fun _ => Cu) fun _ => C6 (C6 (l3 _) fun _ => Cu) fun _ => C6 (C6 (l4 _) fun _ => Cu) fun _ => C6 (C6 (l5 _ _) fun _ => Cu) fun _ => Cu
structure Few (p : Api_Pool) : Prop where
 places : p.Zg1.Ze.length≤4096
 edges : p.Zg1.Zf.length≤4096
 types : p.Zh1.Zx.length≤4096
 wagons : p.Zh1.Zy.length≤4096
 swaps : p.Zh1.Zz.length≤4096
 washes : p.Zh1.Za1.length≤4096
 readers : p.Zi1.length≤4096
 shippers : p.Zj1.length≤4096
 railways : p.Zk1.length≤4096
 days : ∀ k,k < p.Zk1.length→(nth p.Zk1 k).Zf1.Ze1.length≤1000000
theorem AhL {p : Api_Pool} (h : Few p) : Lg (Cx p):=by
 have q1:=h.places
 have q2:=h.edges
 have q3:=h.wagons
 have q4:=h.readers
 have q5:=h.shippers
 have q6:=h.railways
 have l1 : ∀ b0,Lg (A4 (fun (v : Bool×Int) => Du p v.1 v.2) (b0,0)):=by
  intro b0
  refine Et p.Zi1.length (fun v => v.2) (by omega) (fun k v hk hv => ?_) (fun v hv => ?_)
  ·obtain ⟨b,t⟩:=v
   obtain rfl : t = (k : Int):=hv
   simp only
   unfold Du
   rw [if_pos (decide_eq_true (by omega))]
   refine Jv (D6 hk) ?_
   simp only [Cv,Int.toNat_natCast]
   refine C6 ?_ fun _ => Fv fun v' e => by cases e;exact Fq (by omega)
   repeat' first | exact Cu | exact Oq _ _ _ | refine Eb (fun _ => ?_) (fun _ => ?_) | refine C6 ?_ (fun _ => ?_)
  ·obtain ⟨b,t⟩:=v
   obtain rfl : t = (p.Zi1.length : Int):=hv
   simp only
   unfold Du
   rw [if_neg (by simp)];exact ⟨_,rfl⟩
 have l2 : ∀ b0,Lg (A4 (fun (v : Bool×Int) => Dr p v.1 v.2) (b0,0)):=by
  intro b0
  refine Et p.Zj1.length (fun v => v.2) (by omega) (fun k v hk hv => ?_) (fun v hv => ?_)
  ·obtain ⟨b,t⟩:=v
   obtain rfl : t = (k : Int):=hv
   simp only
   unfold Dr
   rw [if_pos (decide_eq_true (by omega))]
   refine Jv (D6 hk) ?_
   simp only [Cv,Int.toNat_natCast]
   refine C6 ?_ fun _ => Fv fun v' e => by cases e;exact Fq (by omega)
   refine Eb (fun _ => Cu) fun _ => ?_
   have hw : w64 ((p.Zg1.Ze.length : Int) - 1) = (p.Zg1.Ze.length : Int) - 1:=C4 (by omega)
   rw [hw]
   generalize (nth p.Zj1 k).Zb1 = n
   have hbt : TP (Az n 0 ((p.Zg1.Ze.length : Int) - 1)) fun b => b = true→0≤n∧n≤(p.Zg1.Ze.length : Int) - 1:=by
    unfold Az
    refine Iu (Q:=fun b => b = true→0≤n∧n≤(p.Zg1.Ze.length : Int) - 1) (Eb (fun h => Fv fun q => ?_) fun _ => Fv fun q => by cases q) fun b hb => Fv hb
    simp only [decide_eq_true_eq] at h q
    exact ⟨h,q⟩
   refine Iu hbt fun c hc => Eb (fun _ => Cu) fun hn => ?_
   have hn':=hc (by simpa using hn)
   exact Jv ⟨by omega,by omega⟩ Cu
  ·obtain ⟨b,t⟩:=v
   obtain rfl : t = (p.Zj1.length : Int):=hv
   simp only
   unfold Dr
   rw [if_neg (by simp)];exact ⟨_,rfl⟩
 have l3 : ∀ b0,Lg (A4 (fun (v : Bool×Int) => Dt p v.1 v.2) (b0,0)):=by
  intro b0
  refine Et p.Zh1.Zy.length (fun v => v.2) (by omega) (fun k v hk hv => ?_) (fun v hv => ?_)
  ·obtain ⟨b,t⟩:=v
   obtain rfl : t = (k : Int):=hv
   simp only
   unfold Dt
   rw [if_pos (decide_eq_true (by omega))]
   refine Jv (D6 hk) ?_
   simp only [Cv,Int.toNat_natCast]
   refine C6 ?_ fun _ => Fv fun v' e => by cases e;exact Fq (by omega)
   exact Eb (fun _ => Cu) (fun _ => Cu)
  ·obtain ⟨b,t⟩:=v
   obtain rfl : t = (p.Zh1.Zy.length : Int):=hv
   simp only
   unfold Dt
   rw [if_neg (by simp)];exact ⟨_,rfl⟩
 have l4 : ∀ n b0,Lg (A4 (fun (v : Bool×Int) => Dv p n v.1 v.2) (b0,0)):=by
  intro n b0
  refine Et p.Zg1.Ze.length (fun v => v.2) (by omega) (fun k v hk hv => ?_) (fun v hv => ?_)
  ·obtain ⟨b,t⟩:=v
   obtain rfl : t = (k : Int):=hv
   simp only
   unfold Dv
   rw [if_pos (decide_eq_true (by omega))]
   refine Jv (D6 hk) ?_
   simp only [Cv,Int.toNat_natCast]
   refine C6 ?_ fun _ => Fv fun v' e => by cases e;exact Fq (by omega)
   exact Eb (fun _ => Cu) (fun _ => Eb (fun _ => Cu) (fun _ => Cu))
  ·obtain ⟨b,t⟩:=v
   obtain rfl : t = (p.Zg1.Ze.length : Int):=hv
   simp only
   unfold Dv
   rw [if_neg (by simp)];exact ⟨_,rfl⟩
 have l5 : ∀ n b0,Lg (A4 (fun (v : Bool×Int) => Dx p n v.1 v.2) (b0,0)):=by
  intro n b0
  refine Et p.Zg1.Zf.length (fun v => v.2) (by omega) (fun k v hk hv => ?_) (fun v hv => ?_)
  ·obtain ⟨b,t⟩:=v
   obtain rfl : t = (k : Int):=hv
   simp only
   unfold Dx
   rw [if_pos (decide_eq_true (by omega))]
   refine Jv (D6 hk) ?_
   simp only [Cv,Int.toNat_natCast]
   refine C6 ?_ fun _ => Fv fun v' e => by cases e;exact Fq (by omega)
   exact Eb (fun _ => Cu) (fun _ => Cu)
  ·obtain ⟨b,t⟩:=v
   obtain rfl : t = (p.Zg1.Zf.length : Int):=hv
   simp only
   unfold Dx
   rw [if_neg (by simp)];exact ⟨_,rfl⟩
 have l6 : ∀ b0,Lg (A4 (fun (v : Bool×Int) => Ds p v.1 v.2) (b0,0)):=by
  intro b0
  refine Et p.Zk1.length (fun v => v.2) (by omega) (fun k v hk hv => ?_) (fun v hv => ?_)
  ·obtain ⟨b,t⟩:=v
   obtain rfl : t = (k : Int):=hv
   simp only
   unfold Ds
   rw [if_pos (decide_eq_true (by omega))]
   refine Jv (D6 hk) ?_
   simp only [Cv,Int.toNat_natCast]
   refine C6 ?_ fun _ => Fv fun v' e => by cases e;exact Fq (by omega)
   refine Eb (fun _ => Cu) fun _ => C6 (Ajd _ (h.days k hk)) fun _ => Eb (fun _ => Cu) fun _ => ?_
   exact C6 (AeR _) fun _ => Cu
  ·obtain ⟨b,t⟩:=v
   obtain rfl : t = (p.Zk1.length : Int):=hv
   simp only
   unfold Ds
   rw [if_neg (by simp)];exact ⟨_,rfl⟩
 unfold Cx
 simp only [Cv]
 refine C6 (Ajq _ h.places h.edges) fun _ => Eb (fun _ => Cu) fun _ => C6 (AfH _ h.types h.wagons h.swaps h.washes) fun _ => Eb (fun _ => Cu) fun _ => ?_
 refine C6 ?_ fun b => Eb (fun _ => Cu) fun _ => ?_
 ·repeat' first | exact Cu | refine Eb (fun _ => ?_) (fun _ => ?_)
 ·exact C6 (C6 (l1 _) fun _ => Cu) fun _ => C6 (C6 (l2 _) fun _ => Cu) fun _ => C6 (C6 (l3 _) fun _ => Cu) fun _ => C6 (C6 (l4 _ _) fun _ => Cu) fun _ => C6 (C6 (l5 _ _) fun _ => Cu) fun _ => C6 (C6 (l6 _) fun _ => Cu) fun _ => Eb (fun _ => Cu) fun _ => Cu
set_option maxHeartbeats 1000000
def Ck0 (c : Edi_checker) : Prop:=c.it.Zu1.length≤1000000
abbrev CkO (o : Option Edi_checker) : Prop:=TP o Ck0
section
variable {c : Edi_checker} (h : Ck0 c) (a b : Int)
include h
theorem k12 : CkO (Di c a b):=by
 unfold Di
 exact C6 (Eb (fun _ => Eb (fun _ => Cu) fun _ => Cu) fun _ => Cu) fun _ => Fv h
theorem k14 : CkO (B6 c a b):=by
 unfold B6
 exact C6 (Eb (fun _ => Eb (fun _ => Cu) fun _ => Cu) fun _ => Cu) fun _ => Fv h
theorem k15 : CkO (B7 c a b):=by
 unfold B7
 exact C6 (Eb (fun _ => Eb (fun _ => Cu) fun _ => Cu) fun _ => Cu) fun _ => Fv h
theorem k16 : CkO (Dg c a b):=by
 unfold Dg
 exact C6 (Eb (fun _ => Eb (fun _ => Cu) fun _ => Cu) fun _ => Cu) fun _ => Fv h
theorem k17 : CkO (Dn c a b):=by
 unfold Dn
 exact C6 (Eb (fun _ => Eb (fun _ => Cu) fun _ => Cu) fun _ => Cu) fun _ => Fv h
theorem k18 : CkO (Bt c a b):=by
 unfold Bt
 exact C6 (Eb (fun _ => Eb (fun _ => Cu) fun _ => Cu) fun _ => Cu) fun _ => Fv h
theorem k19 : CkO (Dk c a b):=by
 unfold Dk
 exact C6 (Eb (fun _ => Eb (fun _ => Cu) fun _ => Cu) fun _ => Cu) fun _ => Fv h
theorem k20 : CkO (Dp c a b):=by
 unfold Dp
 exact C6 (Eb (fun _ => Eb (fun _ => Cu) fun _ => Cu) fun _ => Cu) fun _ => Fv h
theorem k21 : CkO (Cq c a b):=by
 unfold Cq
 exact C6 (Eb (fun _ => Eb (fun _ => Cu) fun _ => Cu) fun _ => Cu) fun _ => Fv h
theorem k22 : CkO (Cn c a b):=by
 unfold Cn
 exact C6 (Eb (fun _ => Eb (fun _ => Cu) fun _ => Cu) fun _ => Cu) fun _ => Fv h
omit h in
theorem Tf {o : Option Edi_checker} (h : CkO o) : CkO (o.bind fun y => some y):=Iu h fun _ q => Fv q
theorem Acy : CkO (C9 c):=by unfold C9;exact Tf (k12 h _ _)
theorem Vm : CkO (Bw c):=by unfold Bw;exact Tf (k16 h _ _)
theorem AhV : CkO (Dy c):=by unfold Dy;exact Iu (k17 h _ _) fun _ q => Tf (Vm q)
theorem Vw : CkO (Ci c):=by unfold Ci;exact Tf (k14 h _ _)
theorem AgZ : CkO (D9 c):=by unfold D9;exact Tf (k20 h _ _)
theorem Rh (k : Int) : TP (B0 c k) fun y => Ck0 y.2:=by
 unfold B0
 refine C6 ?_ fun ⟨_,_,_⟩ => C6 ?_ fun _ => Fv h
 ·refine Iu (Q:=fun t => t = true→0≤c.it.Zb1∧c.it.Zb1 < (c.p.Zg1.Ze.length : Int)) (Eb (fun h1 => Fv fun h2 => ?_) fun _ => Fv fun q => by cases q) fun t ht => Eb (fun q => ?_) fun _ => Cu
  ·simp only [decide_eq_true_eq] at h1 h2
   exact ⟨h1,h2⟩
  ·have:=ht q
   refine Jv ⟨by omega,by omega⟩ ?_
   simp only [Cv]
   exact Cu
 ·repeat' first | exact Cu | refine Eb (fun _ => ?_) (fun _ => ?_)
end
theorem Ag5 (l : List Api_Part) (b : Bool) (hl : l.length≤1000000) : Lg (Li l b):=by
 have l1 : Lg (A4 (fun (v : Int) => Hk l b v) 0):=by
  refine Et l.length id (by omega) (fun k v hk hv => ?_) (fun v hv => ?_)
  ·obtain rfl : v = (k : Int):=hv
   unfold Hk
   rw [if_pos (decide_eq_true (by omega))]
   refine Jv (D6 hk) ?_
   simp only [Cv]
   refine C6 ?_ fun b => ?_
   ·repeat' first | exact Cu | refine Eb (fun _ => ?_) (fun _ => ?_)
   ·exact Eb (fun _ => Fv fun v' e => by cases e) fun _ => Fv fun v' e => by cases e;exact Fq (by omega)
  ·obtain rfl : v = (l.length : Int):=hv
   unfold Hk
   rw [if_neg (by simp)];exact ⟨_,rfl⟩
 obtain ⟨x1,e1,_⟩:=l1
 unfold Li
 rw [e1]
 rcases x1 with u | (u | m) <;> (try cases u) <;> exact ⟨_,rfl,trivial⟩
theorem Agc {c : Edi_checker} (h : Ck0 c) : CkO (Dz c):=by
 unfold Dz
 refine Eb (fun _ => Fv h) fun _ => Iu (Acy h) fun c h => Eb (fun _ => ?_) fun _ => Eb (fun _ => ?_) fun _ => ?_
 ·exact Iu (k14 h _ _) fun c h => Tf (Vm h)
 ·exact Iu (Rh h _) fun c h => Tf (AhV h)
 refine C6 (Eb (fun _ => Cu) fun _ => Cu) fun _ => Eb (fun _ => ?_) fun _ => Eb (fun _ => ?_) fun _ => ?_
 ·refine Iu (Rh h _) fun c h => C6 ?_ fun _ => Iu (Vm (show Ck0 _ from h)) fun c h => Tf (k18 h _ _)
  repeat' first | exact Cu | refine Eb (fun _ => ?_) (fun _ => ?_)
 ·exact Iu (k15 h _ _) fun c h => Iu (Vw h) fun c h => Iu (Rh h _) fun c h => Iu (k19 h _ _) fun c h => Iu (AgZ h) fun c h => Iu (k21 h _ _) fun c h => Tf (Vm h)
 refine C6 (Eb (fun _ => Cu) fun _ => Cu) fun _ => Eb (fun _ => ?_) fun _ => Fv h
 exact Iu (Rh h _) fun c h => Iu (Vw h) fun c h => Iu (Vm h) fun c h => Eb (fun _ => Tf (k18 h _ _)) fun _ => Fv h
theorem Al9 {c : Edi_checker} (h : Ck0 c) : CkO (Ez c):=by
 unfold Ez
 refine Eb (fun _ => ?_) fun _ => Eb (fun _ => ?_) fun _ => Eb (fun _ => ?_) fun _ => ?_
 ·exact Iu (Acy h) fun c h => Iu (Vm h) fun c h => Tf (k18 h _ _)
 ·refine Iu (Acy h) fun c h => Iu (Rh h _) fun c h => Iu (AhV h) fun c h => Iu (k18 h _ _) fun c h => Iu (k22 h _ _) fun c h => C6 ?_ fun _ => Fv (show Ck0 _ by unfold Ck0;simp)
  exact Eb (fun _ => C6 (Ag5 _ _ h) fun _ => Cu) fun _ => Cu
 ·refine Iu (k14 h _ _) fun c h => C6 ?_ fun _ => Fv (show Ck0 _ by unfold Ck0;simp)
  exact Eb (fun _ => Eb (fun _ => C6 (Ag5 _ _ h) fun _ => Cu) fun _ => Cu) fun _ => Cu
 refine C6 ?_ fun _ => Eb (fun _ => ?_) fun _ => Eb (fun _ => Fv h) fun _ => Eb (fun _ => ?_) fun _ => Fv h
 ·exact Eb (fun _ => Cu) fun _ => Eb (fun _ => Cu) fun _ => Cu
 ·refine Iu (k15 h _ _) fun c h => Iu (Vm h) fun c h => Eb (fun _ => C6 ?_ fun _ => Fv h) fun _ => Fv h
  repeat' first | exact Cu | refine Eb (fun _ => ?_) (fun _ => ?_)
 ·exact Iu (Vw h) fun c h => Iu (Rh h _) fun c h => Iu (AgZ h) fun c h => Iu (k15 h _ _) fun c h => Iu (k21 h _ _) fun c h => Iu (AhV h) fun c h => Tf (k22 h _ _)
theorem AcY (p : Api_Pool) (it : Api_Item) (h : it.Zu1.length≤1000000) : Lg (L5 p it):=by
 unfold L5
 refine C6 (Eb (fun _ => Iu (Agc (show Ck0 { p:=p,it:=it,ok:=true } from h)) fun _ _ => Cu) fun _ => Iu (Al9 (show Ck0 { p:=p,it:=it,ok:=true } from h)) fun _ _ => Cu) ?_
 rintro ⟨_,_,_,_,_,_,_,_,_,_,_,_,_,_,_,_,_,_,_,_,_,_,_,_,_,_⟩
 repeat' first | exact Cu | refine Eb (fun _ => ?_) (fun _ => ?_) | refine C6 ?_ (fun _ => ?_)
theorem Agf {p : Api_Pool} (h : Few p) : ∃ f,Cx p = some f∧∀ it : Api_Item,it.Zu1.length≤1000000→∃ e,Ki p it = some e:=by
 obtain ⟨f,hf,_⟩:=AhL h
 refine ⟨f,hf,fun it hp => ?_⟩
 have : Lg (Ki p it):=by
  unfold Ki
  rw [hf,Option.bind_some]
  refine Eb (fun _ => Cu) fun _ => C6 ?_ fun _ => Eb (fun _ => Cu) fun _ => Cu
  refine C6 ?_ fun _ => Eb (fun _ => Cu) fun _ => C6 (AcY p it hp) fun _ => Cu
  unfold Jk
  repeat' first | exact Cu | refine Eb (fun _ => ?_) (fun _ => ?_) | refine C6 ?_ (fun _ => ?_)
 obtain ⟨e,he,_⟩:=this
 exact ⟨e,he⟩
end Go.Proofs.YtioapcamanmoiaaDoor
namespace Go.Proofs.YtioapcamanmoiaaDoor.Kc
open Go.Rv
set_option linter.unusedVariables false
set_option linter.unusedSimpArgs false
theorem Ch {α β : Type} {o : Option α} {a : α} {f : α→Option β} (h : o = some a) : o.bind f = f a:=by rw [h];rfl
theorem Akx {α β : Type} (x y : α) (f : α→Option β) (h : x = y) : lt1 x f = f y:=by rw [h];rfl
theorem Anw (x : UInt64) (n : Nat) : (F8 x n).toNat = x.toNat / 2 ^ n:=by
 show (x.toBitVec >>> n).toNat = _
 rw [BitVec.toNat_ushiftRight,Nat.shiftRight_eq_div_pow];rfl
theorem Yu {k : Nat} (h : k < 9223372036854775807) : w64 ((k : Int) + 1) = ((k + 1 : Nat) : Int):=by
 rw [C4 (by omega)];rfl
theorem Qq (x : Api_Value) : Api_Value.mk x.Za x.N x.B x.L = x:=by cases x;rfl
mutual
def szV : Api_Value→Nat
 | .mk _ _ b l => b.length + 1 + szVs l
def szVs : List Api_Value→Nat
 | [] => 0
 | x :: l => szV x + szVs l
end
theorem Alt (x : Api_Value) : 0 < szV x:=by
  cases x with
  | mk k n b l => simp only [szV];omega
theorem Oe {l : List Api_Value} {x : Api_Value} (h : x ∈ l) : szV x≤szVs l:=by
  induction l with
  | nil => cases h
  | cons y l ih =>
    simp only [szVs]
    rcases List.mem_cons.1 h with rfl | h
    · omega
    · have:=ih h;omega
theorem Aab (l : List Api_Value) : l.length≤szVs l:=by
  induction l with
  | nil => simp [szVs]
  | cons y l ih =>
    have:=Alt y
    simp only [szVs,List.length_cons];omega
theorem szV_eq (x : Api_Value) : szV x = x.B.length + 1 + szVs x.L:=by
  cases x with
  | mk k n b l => rfl
def nbF : Nat→Nat→Nat
 | 0,_ => 0
 | f + 1,u => if u = 0 then 0 else nbF f (u / 256) + 1
def nb (u : Nat) : Nat:=nbF 8 u
theorem Aqn (f u : Nat) : nbF f u≤f:=by
  induction f generalizing u with
  | zero => exact Nat.le_refl _
  | succ f ih =>
    unfold nbF
    split
    · omega
    · have:=ih (u / 256);omega
theorem Ap0 (f u : Nat) (h : u < 256 ^ f) (m : Nat) : nbF (f + m) u = nbF f u:=by
  induction f generalizing u with
  | zero =>
    have : u = 0:=by simpa using h
    subst this
    cases m with
    | zero => rfl
    | succ m => rw [Nat.zero_add];unfold nbF;simp
  | succ f ih =>
    rw [show f + 1 + m = (f + m) + 1 by omega]
    unfold nbF
    split
    · rfl
    · rw [ih (u / 256) (by rw [Nat.pow_succ] at h;omega)]
theorem ApC (u : Nat) : nb u≤8:=Aqn 8 u
theorem Ano : nb 0 = 0:=rfl
theorem Amz (u : Nat) (h : u≠0) (hu : u < 256 ^ 8) : nb u = nb (u / 256) + 1:=by
 unfold nb
 rw [show (8 : Nat) = 7 + 1 from rfl]
 rw [Ap0 7 (u / 256) (by have : (256 : Nat) ^ 8 = 256 ^ 7 * 256:=rfl;omega) 1]
 conv => lhs;unfold nbF
 rw [if_neg h]
theorem AgT (u : UInt64) : Da u = some ((nb u.toNat : Nat) : Int):=by
 obtain ⟨x,hx,hq⟩:=Ek (f:=fun (v : UInt64×Int) => B1 v.1 v.2)
  (fun v => ∃ k : Nat,v.2 = (k : Int)∧k + nb v.1.toNat = nb u.toNat) (fun v => v.1.toNat) (fun x => x = ((nb u.toNat : Nat) : Int))
  (by
   rintro ⟨u',k'⟩ ⟨k,hk,hkn⟩
   simp only at hk hkn
   subst hk
   have hlt : u'.toNat < 256 ^ 8:=by have:=u'.toNat_lt;exact this
   by_cases h0 : u'.toNat = 0
   ·right
    refine ⟨(k : Int),?_,?_⟩
    ·show B1 u' (k : Int) = _
     unfold B1
     rw [if_neg]
     simp only [decide_eq_true_eq,gt_iff_lt,UInt64.lt_iff_toNat_lt]
     show ¬ 0 < u'.toNat
     omega
    ·rw [h0,Ano] at hkn;rw [← hkn];rfl
   ·left
    have hs : (F8 u' ((8 : UInt64)).toNat).toNat = u'.toNat / 256:=by rw [Anw];rfl
    refine ⟨(F8 u' ((8 : UInt64)).toNat,((k + 1 : Nat) : Int)),?_,⟨k + 1,rfl,?_⟩,?_⟩
    ·show B1 u' (k : Int) = _
     unfold B1
     have:=ApC u.toNat
     rw [if_pos,Yu (by omega)]
     ·rfl
     ·simp only [decide_eq_true_eq,gt_iff_lt,UInt64.lt_iff_toNat_lt]
      show 0 < u'.toNat
      omega
    ·simp only [hs]
     have:=Amz _ h0 hlt
     omega
    ·simp only [hs]
     omega) (v0:=(u,0)) ⟨0,rfl,by simp⟩ (by have:=u.toNat_lt;omega)
 subst hq
 unfold Da
 exact (Ch (Ch hx)).trans rfl
def nbI (n : Int) : Nat:=if n < 0 then nb (~~~(UInt64.ofInt n)).toNat else nb (UInt64.ofInt n).toNat
def AnR (n : Int) : UInt8:=if n < 0 then UInt8.ofInt (31 - (nbI n : Int)) else UInt8.ofInt (32 + (nbI n : Int))
def Apk (n : Int) (k i : Nat) : UInt8:=(F8 (UInt64.ofInt n) (8 * (k - 1 - i))).toUInt8
def Alv (n : Int) : List UInt8:=AnR n :: (List.range (nbI n)).map (Apk n (nbI n))
theorem AkU (n : Int) : nbI n≤8:=by unfold nbI;split <;> exact ApC _
theorem AkN (n : Int) : (Alv n).length = nbI n + 1:=by simp [Alv]
theorem Ab7 (b : List UInt8) (n : Int) (hb : b.length≤1099511627776) : Fy b n = some (b ++ Alv n):=by
 have h8:=AkU n
 have key : ∃ x,A4 (fun (v : Int×List UInt8) => B2 n ((nbI n : Nat) : Int) v.1 v.2) (0,b ++ [AnR n]) = some x∧x = b ++ Alv n :=
  J7 (f:=fun (v : Int×List UInt8) => B2 n ((nbI n : Nat) : Int) v.1 v.2) (nbI n)
   (fun k v => v = ((k : Int),b ++ AnR n :: (List.range k).map (Apk n (nbI n)))) (fun x => x = b ++ Alv n) (by omega)
   (fun k v hk hv => by
    subst hv
    refine ⟨_,?_,rfl⟩
    show B2 n ((nbI n : Nat) : Int) (k : Int) _ = _
    unfold B2
    have e1 : w64 (((nbI n : Nat) : Int) - 1) = ((nbI n - 1 : Nat) : Int):=by rw [C4 (by omega)];omega
    have e2 : w64 (((nbI n - 1 : Nat) : Int) - (k : Int)) = ((nbI n - 1 - k : Nat) : Int):=by rw [C4 (by omega)];omega
    have e3 : w64 (8 * ((nbI n - 1 - k : Nat) : Int)) = ((8 * (nbI n - 1 - k) : Nat) : Int):=by rw [C4 (by omega)];omega
    rw [if_pos (by simp;omega),e1,e2,e3,if_pos (by unfold Hs;omega),if_pos (Xs (by simp;omega)),Yu (by omega)]
    simp only [lt1,List.range_succ,List.map_append,List.map_cons,List.map_nil,List.append_assoc,List.cons_append]
    rfl)
   (fun v hv => by
    subst hv
    refine ⟨_,?_,rfl⟩
    show B2 n ((nbI n : Nat) : Int) ((nbI n : Nat) : Int) _ = _
    unfold B2
    rw [if_neg (by simp)]
    rfl) (v0:=(0,b ++ [AnR n])) rfl
 obtain ⟨x,hx,rfl⟩:=key
 have hp : (if decide (n < 0) = true then
   (Da (~~~UInt64.ofInt n)).bind fun y => lt1 (UInt8.ofInt (w64 (31 - y))) fun (tag : UInt8) => some (y,tag)
  else some (((nb (UInt64.ofInt n).toNat : Nat) : Int),UInt8.ofInt (w64 (32 + ((nb (UInt64.ofInt n).toNat : Nat) : Int)))) : Option (Int×UInt8)) = some (((nbI n : Nat) : Int),AnR n):=by
  by_cases h : n < 0
  ·rw [if_pos (by simpa using h),AgT]
   have e : nbI n = nb (~~~(UInt64.ofInt n)).toNat:=if_pos h
   rw [← e]
   show some (((nbI n : Nat) : Int),UInt8.ofInt (w64 (31 - ((nbI n : Nat) : Int)))) = _
   rw [C4 (by omega)]
   unfold AnR
   rw [if_pos h]
  ·rw [if_neg (by simpa using h)]
   have e : nbI n = nb (UInt64.ofInt n).toNat:=if_neg h
   rw [← e,C4 (by omega)]
   unfold AnR
   rw [if_neg h]
 unfold Fy
 refine (Ch (AgT _)).trans ?_
 refine (Akx _ _ _ rfl).trans ?_
 refine (Ch hp).trans ?_
 refine (if_pos (Xs (by omega))).trans ?_
 refine (Akx _ _ _ rfl).trans ?_
 exact (Ch (Ch hx)).trans rfl
mutual
def Xg : Api_Value→Int×Bool
 | .mk k n b l =>
  if k = 1 then (0,b.length == 0 && l.length == 0)
  else if k = 2 then (0,n == 0 && l.length == 0)
  else if k = 3 then (if n = 0∧b.length = 0 then Abr 0 l else (0,false))
  else (0,false)
def Abr (d : Int) : List Api_Value→Int×Bool
 | [] => (d + 1,true)
 | x :: l => if (Xg x).2 = true then Abr (Tq d (Xg x).1) l else (0,false)
end
mutual
theorem Ahu : ∀ v : Api_Value,0≤(Xg v).1∧(Xg v).1≤szV v
  | .mk k n b l => by
    have h:=AiE 0 l
    unfold Xg szV
    split
    · simp;omega
    · split
      · simp;omega
      · split
        · split
          · omega
          · simp;omega
        · simp;omega
theorem AiE : ∀ (d : Int) (l : List Api_Value),0≤d→0≤(Abr d l).1∧(Abr d l).1≤max d (szVs l) + 1
  | d,[] => by intro h;simp [Abr,szVs];omega
  | d,x :: l => by
    intro h
    have h1:=Ahu x
    have hm : 0≤Tq d (Xg x).1∧Tq d (Xg x).1≤max d (szV x):=by unfold Tq;split <;> omega
    have h2:=AiE (Tq d (Xg x).1) l hm.1
    unfold Abr szVs
    split
    · omega
    · simp;omega
end
theorem J3 {l : List Api_Value} {k : Nat} (h : k < l.length) : nth l k = l[k]:=by simp [nth,List.getD_eq_getElem?_getD,h]
theorem AtF {α : Type} (l : List α) : ((l.length : Int) == 0) = (l.length == 0):=by
  cases l with
  | nil => rfl
  | cons a l => simp;omega
theorem AjP (d : Int) : Abr d [] = (d + 1,true):=by unfold Abr;rfl
theorem Ahn (d : Int) (x : Api_Value) (l : List Api_Value) : Abr d (x :: l) = if (Xg x).2 = true then Abr (Tq d (Xg x).1) l else (0,false):=by
 conv => lhs;unfold Abr
theorem Agj (v : Api_Value) (rec_ : Api_Value→Option (Int×Bool)) (hr : ∀ x ∈ v.L,rec_ x = some (Xg x)) (hs : szV v≤1099511627776) :
  ∃ x,A4 (fun (s : Int×Int) => Df v rec_ s.1 s.2) (0,0) = some x ∧
   ((∃ d : Int,Abr 0 v.L = (d + 1,true)∧0≤d∧d≤1099511627776∧x = .inl d)∨(Abr 0 v.L = (0,false)∧x = .inr (.inr (.inr (0,false))))):=by
 have hsz:=szV_eq v
 have hlen:=Aab v.L
 refine Ek (f:=fun (s : Int×Int) => Df v rec_ s.1 s.2)
  (fun s => ∃ k : Nat,s.2 = (k : Int)∧k≤v.L.length∧0≤s.1∧s.1≤1099511627776∧Abr 0 v.L = Abr s.1 (v.L.drop k)) (fun s => v.L.length - s.2.toNat) _ ?_ ⟨0,rfl,Nat.zero_le _,by simp,by simp,rfl⟩ (by omega)
 rintro ⟨d,t⟩ ⟨k,ht,hk,hd0,hd1,hsp⟩
 simp only at ht hd0 hd1 hsp
 subst ht
 by_cases hkl : k < v.L.length
 ·have hx : v.L.drop k = v.L[k] :: v.L.drop (k + 1):=List.drop_eq_getElem_cons hkl
  have hm : v.L[k] ∈ v.L:=List.getElem_mem hkl
  have hsx:=Oe hm
  have hle:=Ahu v.L[k]
  rw [hx,Ahn] at hsp
  have hb : Df v rec_ d (k : Int) = if (!(Xg v.L[k]).2) = true then some (.inr (.inr (.inr (.inr (0,false))))) else some (.inl (Tq d (Xg v.L[k]).1,((k + 1 : Nat) : Int))):=by
   unfold Df
   rw [if_pos (by simp;omega),if_pos (D6 hkl)]
   simp only [Int.toNat_natCast,J3 hkl,lt1,Qq]
   refine (Ch (hr _ hm)).trans ?_
   rw [Yu (by omega)]
   rfl
  by_cases hg : (Xg v.L[k]).2 = true
  ·left
   rw [if_pos hg] at hsp
   rw [if_neg (by simp [hg])] at hb
   refine ⟨_,hb,⟨k + 1,rfl,hkl,?_,?_,hsp⟩,?_⟩
   ·simp only [Tq];split <;> omega
   ·simp only [Tq];split <;> omega
   ·simp only [Int.toNat_natCast];omega
  ·right
   rw [if_neg hg] at hsp
   rw [if_pos (by simp [hg])] at hb
   exact ⟨_,hb,.inr ⟨hsp,rfl⟩⟩
 ·right
  have hkk : k = v.L.length:=by omega
  subst hkk
  rw [List.drop_length,AjP] at hsp
  refine ⟨.inl d,?_,.inl ⟨d,hsp,hd0,hd1,rfl⟩⟩
  show Df v rec_ d ((v.L.length : Nat) : Int) = _
  unfold Df
  rw [if_neg (by simp)]
theorem Ain : ∀ (n : Nat) (v : Api_Value),szV v < n→szV v≤1099511627776→Gy n v = some (Xg v)
  | 0,v,h,_ => absurd h (Nat.not_lt_zero _)
  | n + 1,v,h,hs => by
    show Hr (Gy n) v = _
    have hsz:=szV_eq v
    obtain ⟨x,hx,hq⟩:=Agj v (Gy n) (fun y hy => Ain n y (by have:=Oe hy;omega) (by have:=Oe hy;omega)) hs
    have hv : Xg v = if v.Za = 1 then (0,v.B.length == 0 && v.L.length == 0) else if v.Za = 2 then (0,v.N == 0 && v.L.length == 0) else if v.Za = 3 then (if v.N = 0∧v.B.length = 0 then Abr 0 v.L else (0,false)) else (0,false):=by
      cases v with
      | mk k n b l => unfold Xg;rfl
    rw [hv]
    unfold Hr
    by_cases h1 : v.Za = 1
    · rw [if_pos (by simp [h1]),if_pos h1]
      rw [AtF,AtF]
      by_cases hb : v.B.length = 0
      · simp [hb]
      · have : (v.B.length == 0) = false:=by simpa using hb
        simp [this]
    · rw [if_neg (by simp [h1]),if_neg h1]
      by_cases h2 : v.Za = 2
      · rw [if_pos (by simp [h2]),if_pos h2,AtF]
        by_cases hn : v.N = 0
        · simp [hn]
        · simp [hn]
      · rw [if_neg (by simp [h2]),if_neg h2]
        by_cases h3 : v.Za = 3
        · rw [if_pos (by simp [h3]),if_pos h3]
          by_cases hn : v.N = 0
          · by_cases hb : v.B.length = 0
            · rw [if_pos (show v.N = 0∧v.B.length = 0 from ⟨hn,hb⟩)]
              have e1 : (if (v.N != 0) = true then some true else some ((v.B.length : Int) != 0) : Option Bool) = some false:=by simp [hn,hb]
              refine (Ch (a:=(.inr (Abr 0 v.L) : Unit ⊕ (Int×Bool))) ?_).trans rfl
              refine (Ch e1).trans ?_
              rw [if_neg (by simp)]
              rcases hq with ⟨d,e,h0,hd,rfl⟩ | ⟨e,rfl⟩
              · rw [hx,e]
                show some (Sum.inr (w64 (d + 1),true)) = _
                rw [C4 (by omega)]
              · rw [hx,e]
                rfl
            · rw [if_neg (show ¬ (v.N = 0∧v.B.length = 0) from fun h => hb h.2)]
              have e1 : (if (v.N != 0) = true then some true else some ((v.B.length : Int) != 0) : Option Bool) = some true:=by
                rw [if_neg (by simp [hn])];simp;intro e;apply hb;simp [e]
              refine (Ch (a:=(.inr (0,false) : Unit ⊕ (Int×Bool))) ?_).trans rfl
              exact (Ch e1).trans rfl
          · rw [if_neg (show ¬ (v.N = 0∧v.B.length = 0) from fun h => hn h.1)]
            have e1 : (if (v.N != 0) = true then some true else some ((v.B.length : Int) != 0) : Option Bool) = some true:=by simp [hn]
            refine (Ch (a:=(.inr (0,false) : Unit ⊕ (Int×Bool))) ?_).trans rfl
            exact (Ch e1).trans rfl
        · rw [if_neg (by simp [h3]),if_neg h3]
          rfl
def Aa8 : List UInt8→List UInt8
 | [] => []
 | c :: l => if c = 0 then 0 :: 255 :: Aa8 l else c :: Aa8 l
theorem AjI (a b : List UInt8) : Aa8 (a ++ b) = Aa8 a ++ Aa8 b:=by
  induction a with
  | nil => rfl
  | cons c a ih => simp only [List.cons_append,Aa8];split <;> simp [ih]
theorem AaJ (a : List UInt8) : (Aa8 a).length≤2 * a.length:=by
  induction a with
  | nil => simp [Aa8]
  | cons c a ih => simp only [Aa8];split <;> simp only [List.length_cons] <;> omega
mutual
def AiJ : Api_Value→List UInt8
 | .mk k n b l => if k = 1 then Alv n else if k = 2 then 48 :: (Aa8 b ++ [0,0]) else 64 :: (AeK l ++ [0])
def AeK : List Api_Value→List UInt8
 | [] => []
 | x :: l => AiJ x ++ AeK l
end
theorem AmS (v : Api_Value) : AiJ v = if v.Za = 1 then Alv v.N else if v.Za = 2 then 48 :: (Aa8 v.B ++ [0,0]) else 64 :: (AeK v.L ++ [0]):=by
  cases v with
  | mk k n b l => unfold AiJ;rfl
theorem Ajj (a b : List Api_Value) : AeK (a ++ b) = AeK a ++ AeK b:=by
  induction a with
  | nil => rfl
  | cons c a ih => simp only [List.cons_append,AeK,ih,List.append_assoc]
mutual
theorem encV_len : ∀ v : Api_Value,(AiJ v).length≤9 * szV v
  | .mk k n b l => by
    have h:=Tt l
    have h1:=AkN n
    have h2:=AkU n
    have h3:=AaJ b
    unfold AiJ szV
    split
    · omega
    · split
      · simp only [List.length_cons,List.length_append,List.length_nil];omega
      · simp only [List.length_cons,List.length_append,List.length_nil];omega
theorem Tt : ∀ l : List Api_Value,(AeK l).length≤9 * szVs l
  | [] => by simp [AeK]
  | x :: l => by
    have h1:=encV_len x
    have h2:=Tt l
    unfold AeK szVs
    simp only [List.length_append];omega
end
theorem AfP (v : Api_Value) (a : List UInt8) (ha : a.length + 2 * v.B.length≤100000000000000) :
  ∃ x,A4 (fun (s : Int×List UInt8) => Bp v s.1 s.2) (0,a) = some x∧x = a ++ Aa8 v.B:=by
 refine J7 (f:=fun (s : Int×List UInt8) => Bp v s.1 s.2) v.B.length (fun k s => s = ((k : Int),a ++ Aa8 (v.B.take k))) _ (by omega) ?_ ?_ (by simp [Aa8])
 ·intro k s hk hs
  subst hs
  have hx : v.B.take (k + 1) = v.B.take k ++ [v.B[k]]:=by rw [List.take_add_one,List.getElem?_eq_getElem hk];rfl
  have hn : nth v.B k = v.B[k]:=by simp [nth,List.getD_eq_getElem?_getD,hk]
  have hl:=AaJ (v.B.take k)
  rw [List.length_take] at hl
  refine ⟨_,?_,rfl⟩
  show Bp v (k : Int) _ = _
  unfold Bp
  rw [if_pos (by simp;omega),if_pos (D6 hk),if_pos (Xs (by simp only [List.length_append];omega)),Yu (by omega)]
  simp only [Int.toNat_natCast,hn,lt1,hx,AjI]
  by_cases h0 : v.B[k] = 0
  ·rw [if_pos (by simp [h0]),if_pos (Xs (by simp only [List.length_append,List.length_cons,List.length_nil];omega))]
   simp [Aa8,h0]
  ·rw [if_neg (by simp [h0])]
   simp [Aa8,h0]
 ·intro s hs
  subst hs
  refine ⟨_,?_,rfl⟩
  show Bp v ((v.B.length : Nat) : Int) _ = _
  unfold Bp
  rw [if_neg (by simp),List.take_length]
theorem AgI (v : Api_Value) (a : List UInt8) (rec_ : List UInt8→Api_Value→Option (List UInt8)) (hr : ∀ x ∈ v.L,∀ b,b.length + 9 * szV x≤a.length + 9 * szVs v.L→rec_ b x = some (b ++ AiJ x)) (hs : szV v≤1099511627776) :
    ∃ x,A4 (fun (s : Int×List UInt8) => Bm v rec_ s.1 s.2) (0,a) = some x∧x = a ++ AeK v.L:=by
  have hsz:=szV_eq v
  have hlen:=Aab v.L
  refine J7 (f:=fun (s : Int×List UInt8) => Bm v rec_ s.1 s.2) v.L.length (fun k s => s = ((k : Int),a ++ AeK (v.L.take k))) _ (by omega) ?_ ?_ (by simp [AeK])
  · intro k s hk hs'
    subst hs'
    have hx : v.L.take (k + 1) = v.L.take k ++ [v.L[k]]:=by rw [List.take_add_one,List.getElem?_eq_getElem hk];rfl
    have hm : v.L[k] ∈ v.L:=List.getElem_mem hk
    have hsp : szVs v.L = szVs (v.L.take k) + szVs (v.L.drop k):=by
      have key : ∀ a b : List Api_Value,szVs (a ++ b) = szVs a + szVs b:=by
        intro a b
        induction a with
        | nil => simp [szVs]
        | cons y a ih => simp only [List.cons_append,szVs,ih];omega
      rw [← key,List.take_append_drop]
    rw [List.drop_eq_getElem_cons hk] at hsp
    simp only [szVs] at hsp
    have hl:=Tt (v.L.take k)
    refine ⟨_,?_,rfl⟩
    show Bm v rec_ (k : Int) _ = _
    unfold Bm
    rw [if_pos (by simp;omega),if_pos (D6 hk),Yu (by omega)]
    simp only [Int.toNat_natCast,J3 hk,lt1,Qq]
    refine (Ch (hr _ hm _ (by simp only [List.length_append];omega))).trans ?_
    rw [hx,Ajj]
    simp [AeK]
  · intro s hs'
    subst hs'
    refine ⟨_,?_,rfl⟩
    show Bm v rec_ ((v.L.length : Nat) : Int) _ = _
    unfold Bm
    rw [if_neg (by simp),List.take_length]
theorem Ae8 : ∀ (n : Nat) (b : List UInt8) (v : Api_Value),szV v < n→b.length + 9 * szV v≤1099511627776→C7 n b v = some (b ++ AiJ v)
  | 0,b,v,h,_ => absurd h (Nat.not_lt_zero _)
  | n + 1,b,v,h,hs => by
    show Ed (C7 n) b v = _
    have hsz:=szV_eq v
    rw [AmS]
    unfold Ed
    by_cases h1 : v.Za = 1
    · rw [if_pos (by simp [h1]),if_pos h1]
      rw [Ab7 b v.N (by omega)]
      rfl
    · rw [if_neg (by simp [h1]),if_neg h1]
      by_cases h2 : v.Za = 2
      · rw [if_pos (by simp [h2]),if_pos h2]
        obtain ⟨x,hx,rfl⟩:=AfP v (b ++ [48]) (by simp only [List.length_append,List.length_cons,List.length_nil];omega)
        have hl:=AaJ v.B
        refine (Ch (a:=(.inr (b ++ 48 :: (Aa8 v.B ++ [0,0])) : Unit ⊕ List UInt8)) ?_).trans rfl
        refine (if_pos (Xs (by omega))).trans ?_
        refine (Akx _ _ _ rfl).trans ?_
        refine (Ch (Ch hx)).trans ?_
        refine (if_pos (Xs (by simp only [List.length_append,List.length_cons,List.length_nil];omega))).trans ?_
        simp [lt1]
      · rw [if_neg (by simp [h2]),if_neg h2]
        obtain ⟨x,hx,rfl⟩:=AgI v (b ++ [64]) (C7 n) (fun y hy c hc => Ae8 n c y (by have:=Oe hy;omega) (by simp only [List.length_append,List.length_cons,List.length_nil] at hc;omega)) (by omega)
        have hl:=Tt v.L
        refine (Ch (a:=(.inl () : Unit ⊕ List UInt8)) rfl).trans ?_
        refine (if_pos (Xs (by omega))).trans ?_
        refine (Akx _ _ _ rfl).trans ?_
        refine (Ch (Ch hx)).trans ?_
        refine (if_pos (Xs (by simp only [List.length_append,List.length_cons,List.length_nil];omega))).trans ?_
        simp [lt1]
def Enc (v : Api_Value) : List UInt8×Int :=
 if (Xg v).2 = true then (if (Xg v).1 > 16 then ([],2) else if (AiJ v).length > 65536 then ([],2) else (AiJ v,0)) else ([],10)
theorem encode_eq (v : Api_Value) (h : szV v≤100000000000) : Hn v = some (Enc v):=by
 unfold Hn Pl Ip Enc
 refine (Ch (Ain 18446744073709551616 v (by omega) (by omega))).trans ?_
 by_cases h1 : (Xg v).2 = true
 ·rw [if_neg (by simp [h1]),if_pos h1]
  by_cases h2 : (Xg v).1 > 16
  ·rw [if_pos (by simpa using h2),if_pos h2]
  ·rw [if_neg (by simpa using h2),if_neg h2]
   refine (Ch (Ae8 18446744073709551616 [] v (by omega) (by simp;omega))).trans ?_
   by_cases h3 : (AiJ v).length > 65536
   ·rw [if_pos (by simp;omega),if_pos h3]
   ·rw [if_neg (by simp;omega),if_neg h3]
    rfl
 ·rw [if_pos (by simp [h1]),if_neg h1]
def cmpI (a b : Int) : Int:=if a < b then -1 else if b < a then 1 else 0
def cmpB : List UInt8→List UInt8→Int
 | [],[] => 0
 | [],_ :: _ => -1
 | _ :: _,[] => 1
 | x :: l,y :: m => if x = y then cmpB l m else if x < y then -1 else 1
mutual
def cmpV : Api_Value→Api_Value→Int
 | .mk k n b l,w => if k≠w.Za then cmpI k w.Za else if k = 1 then cmpI n w.N else if k = 2 then cmpB b w.B else if k = 3 then cmpL l w.L else 0
def cmpL : List Api_Value→List Api_Value→Int
 | [],[] => 0
 | [],_ :: _ => -1
 | _ :: _,[] => 1
 | x :: l,y :: m => if cmpV x y≠0 then cmpV x y else cmpL l m
end
theorem cmpV_eq (v w : Api_Value) : cmpV v w = if v.Za≠w.Za then cmpI v.Za w.Za else if v.Za = 1 then cmpI v.N w.N else if v.Za = 2 then cmpB v.B w.B else if v.Za = 3 then cmpL v.L w.L else 0:=by
  cases v with
  | mk k n b l => rw [cmpV];rfl
theorem Yi {α : Type} [Inhabited α] {l : List α} {k : Nat} (h : k < l.length) : nth l k = l[k]:=by simp [nth,List.getD_eq_getElem?_getD,h]
theorem Aiw {a b : List UInt8} {k : Nat} (ha : k < a.length) (hb : k < b.length) : cmpB (a.drop k) (b.drop k) = if nth a k = nth b k then cmpB (a.drop (k + 1)) (b.drop (k + 1)) else if nth a k < nth b k then -1 else 1:=by
 rw [List.drop_eq_getElem_cons ha,List.drop_eq_getElem_cons hb,Yi ha,Yi hb,cmpB]
theorem Aja {a b : List UInt8} {k : Nat} (hk : k≤a.length) (hk' : k≤b.length) (h : ¬ (k < a.length∧k < b.length)) : cmpB (a.drop k) (b.drop k) = cmpI (a.length : Int) (b.length : Int):=by
 unfold cmpI
 rcases Nat.lt_trichotomy a.length b.length with hl | hl | hl
 ·have hka : k = a.length:=by omega
  rw [if_pos (by omega),hka,List.drop_length,List.drop_eq_getElem_cons (by omega)]
  rfl
 ·have hka : k = a.length:=by omega
  rw [if_neg (by omega),if_neg (by omega),hka,List.drop_length,hl,List.drop_length]
  rfl
 ·have hkb : k = b.length:=by omega
  rw [if_neg (by omega),if_pos (by omega),hkb,List.drop_length,List.drop_eq_getElem_cons (by omega)]
  rfl
theorem Aen {l : List UInt8} {i : Nat} (h : i < l.length) : (⟨l.toArray⟩ : ByteArray)[i]! = nth l i:=by
 rw [Yi h]
 have h2 : i < (⟨l.toArray⟩ : ByteArray).size:=by simpa [ByteArray.size] using h
 rw [getElem!_pos (⟨l.toArray⟩ : ByteArray) i h2]
 show l.toArray[i] = _
 simp
theorem Ae2 (a b : List UInt8) : ∀ (m k : Nat),k + m = min a.length b.length →
    (match (List.range' k m).find? fun i => (⟨a.toArray⟩ : ByteArray)[i]! != (⟨b.toArray⟩ : ByteArray)[i]! with
      | some i => if (⟨a.toArray⟩ : ByteArray)[i]! < (⟨b.toArray⟩ : ByteArray)[i]! then -1 else 1
      | none => if (⟨a.toArray⟩ : ByteArray).size < (⟨b.toArray⟩ : ByteArray).size then (-1 : Int) else if (⟨a.toArray⟩ : ByteArray).size > (⟨b.toArray⟩ : ByteArray).size then 1 else 0) = cmpB (a.drop k) (b.drop k)
  | 0,k,h => by
    rw [List.range'_zero,List.find?_nil,Aja (by omega) (by omega) (by omega)]
    have e : ∀ l : List UInt8,(⟨l.toArray⟩ : ByteArray).size = l.length:=fun l => by simp [ByteArray.size]
    simp only [e,cmpI,Int.ofNat_lt,gt_iff_lt]
  | m + 1,k,h => by
    have ha : k < a.length:=by omega
    have hb : k < b.length:=by omega
    rw [List.range'_succ,List.find?_cons,Aiw ha hb,Aen ha,Aen hb]
    by_cases he : nth a k = nth b k
    · have : (nth a k != nth b k) = false:=by simp [he]
      rw [this,if_pos he]
      exact Ae2 a b m (k + 1) (by omega)
    · have : (nth a k != nth b k) = true:=by simp [he]
      rw [this,if_neg he]
      show (if (⟨a.toArray⟩ : ByteArray)[k]! < (⟨b.toArray⟩ : ByteArray)[k]! then (-1 : Int) else 1) = _
      rw [Aen ha,Aen hb]
theorem AdT (a b : List UInt8) : T5 a b = cmpB a b:=by
 have h:=Ae2 a b (min a.length b.length) 0 (by omega)
 rw [← List.range_eq_range'] at h
 unfold T5 Extern.BytealgCompare.cmp
 have e : ∀ l : List UInt8,(⟨l.toArray⟩ : ByteArray).size = l.length:=fun l => by simp [ByteArray.size]
 rw [e,e]
 rw [e,e] at h
 exact h
theorem Vo (a b : List UInt8) : H0 a b = some (cmpB a b):=by
 unfold H0 Kd Uq
 rw [AdT];rfl
theorem AbU (a b : Int) : Fp a b = some (cmpI a b):=by
 unfold Fp Ix cmpI
 by_cases h : a < b
 ·simp [h]
 ·by_cases h2 : b < a <;> simp [h,h2]
theorem Ait {a b : List Api_Value} {k : Nat} (ha : k < a.length) (hb : k < b.length) : cmpL (a.drop k) (b.drop k) = if cmpV (nth a k) (nth b k)≠0 then cmpV (nth a k) (nth b k) else cmpL (a.drop (k + 1)) (b.drop (k + 1)):=by
 rw [List.drop_eq_getElem_cons ha,List.drop_eq_getElem_cons hb,Yi ha,Yi hb,cmpL]
theorem Aet {a b : List Api_Value} {k : Nat} (hk : k≤a.length) (hk' : k≤b.length) (h : ¬ (k < a.length∧k < b.length)) : cmpL (a.drop k) (b.drop k) = cmpI (a.length : Int) (b.length : Int):=by
 unfold cmpI
 rcases Nat.lt_trichotomy a.length b.length with hl | hl | hl
 ·have hka : k = a.length:=by omega
  rw [if_pos (by omega),hka,List.drop_length,List.drop_eq_getElem_cons (by omega),cmpL]
 ·have hka : k = a.length:=by omega
  rw [if_neg (by omega),if_neg (by omega),hka,List.drop_length,hl,List.drop_length,cmpL]
 ·have hkb : k = b.length:=by omega
  rw [if_neg (by omega),if_pos (by omega),hkb,List.drop_length,List.drop_eq_getElem_cons (by omega),cmpL]
theorem Xu (a b : List Api_Value) (f : Api_Value→Api_Value→Option Int) (hf : ∀ x ∈ a,∀ y,f x y = some (cmpV x y)) (ha : a.length≤9223372036854775807) : Dm f a b f = some (cmpL a b):=by
 have key : ∃ x,A4 (fun (v : Int) => B5 a b f v) 0 = some x∧((x = .inl ()∧a.length≤b.length∧cmpL a b = cmpI (a.length : Int) (b.length : Int))∨(x = .inr (.inr (cmpL a b)))):=by
  refine Ek (f:=fun (v : Int) => B5 a b f v) (fun i => ∃ k : Nat,i = (k : Int)∧k≤a.length∧k≤b.length∧cmpL a b = cmpL (a.drop k) (b.drop k)) (fun i => a.length - i.toNat) _ ?_ ⟨0,rfl,by simp,by simp,rfl⟩ (by omega)
  rintro _ ⟨k,rfl,hka,hkb,he⟩
  show _∨_
  unfold B5
  by_cases h1 : k < a.length
  ·have r1 : InR (k : Int) a.length:=⟨by omega,by omega⟩
   rw [if_pos (by simp;omega),if_pos r1]
   simp only [lt1,Int.toNat_natCast]
   by_cases h2 : k < b.length
   ·have r2 : InR (k : Int) b.length:=⟨by omega,by omega⟩
    rw [if_neg (by simp;omega),if_pos r2]
    rw [Qq,Qq,hf _ (by rw [Yi h1];exact List.getElem_mem h1)]
    rw [Ait h1 h2] at he
    by_cases hz : cmpV (nth a k) (nth b k) = 0
    ·left
     rw [if_neg (by simpa using hz)] at he
     refine ⟨_,(Ch rfl).trans ?_,⟨k + 1,rfl,by omega,by omega,he⟩,?_⟩
     ·rw [if_neg (by simp [hz]),Yu (by omega)]
     ·simp only [Int.toNat_natCast];omega
    ·right
     rw [if_pos hz] at he
     refine ⟨_,(Ch rfl).trans ?_,.inr rfl⟩
     rw [if_pos (by simpa using hz),he];rfl
   ·right
    rw [if_pos (by simp;omega)]
    refine ⟨_,rfl,.inr ?_⟩
    rw [he,Aet hka hkb (by omega)]
    unfold cmpI
    rw [if_neg (by omega),if_pos (by omega)]
  ·right
   rw [if_neg (by simp;omega)]
   exact ⟨_,rfl,.inl ⟨rfl,by omega,by rw [he];exact Aet hka hkb (by omega)⟩⟩
 obtain ⟨x,hx,hq⟩:=key
 unfold Dm
 rcases hq with ⟨rfl,hl,he⟩ | rfl
 ·refine (Ch (a:=.inl ()) ((Ch hx).trans rfl)).trans ?_
  rw [he]
  unfold cmpI
  by_cases h : (a.length : Int) < (b.length : Int)
  ·simp [h]
  ·have : ¬ (b.length : Int) < (a.length : Int):=by omega
   simp [h,this]
 ·exact (Ch (a:=.inr (cmpL a b)) ((Ch hx).trans rfl)).trans rfl
theorem Aa3 : ∀ (n : Nat) (a b : Api_Value),szV a < n→szV a≤1099511627776→Fz n a b = some (cmpV a b)
  | 0,a,b,h,_ => absurd h (Nat.not_lt_zero _)
  | n + 1,a,b,h,hs => by
    show F9 (Fz n) a b = _
    have hsz:=szV_eq a
    have hlen:=Aab a.L
    unfold F9
    rw [cmpV_eq]
    refine (Ch (AbU _ _)).trans ?_
    by_cases hk : a.Za = b.Za
    · have hz : cmpI a.Za b.Za = 0:=by unfold cmpI;simp [hk]
      rw [if_neg (show ¬ (cmpI a.Za b.Za != 0) = true by simp [hz]),if_neg (show ¬ (a.Za≠b.Za) by simpa using hk)]
      by_cases h1 : a.Za = 1
      · rw [if_pos (show (a.Za == 1) = true by simp [h1]),if_pos h1];exact Ch (AbU _ _)
      · rw [if_neg (show ¬ (a.Za == 1) = true by simp [h1]),if_neg h1]
        by_cases h2 : a.Za = 2
        · rw [if_pos (show (a.Za == 2) = true by simp [h2]),if_pos h2];exact Ch (Vo _ _)
        · rw [if_neg (show ¬ (a.Za == 2) = true by simp [h2]),if_neg h2]
          by_cases h3 : a.Za = 3
          · rw [if_pos (show (a.Za == 3) = true by simp [h3]),if_pos h3]
            exact Ch (Xu _ _ _ (fun x hx y => Aa3 n x y (by have:=Oe hx;omega) (by have:=Oe hx;omega)) (by omega))
          · rw [if_neg (show ¬ (a.Za == 3) = true by simp [h3]),if_neg h3]
    · have hz : cmpI a.Za b.Za≠0:=by
        unfold cmpI
        rcases Int.lt_trichotomy a.Za b.Za with h | h | h
        · rw [if_pos h];decide
        · exact (hk h).elim
        · rw [if_neg (by omega),if_pos h];decide
      rw [if_pos (show (cmpI a.Za b.Za != 0) = true by simpa using hz),if_pos (show a.Za≠b.Za from hk)]
theorem compare_eq (a b : Api_Value) (h : szV a≤100000000000) : Jh a b = some (cmpV a b):=Aa3 _ a b (by omega) (by omega)
theorem cmpI_zero {a b : Int} : cmpI a b = 0↔a = b:=by
 unfold cmpI
 by_cases h : a < b
 ·rw [if_pos h];constructor
  ·intro h;cases h
  ·intro h;omega
 ·rw [if_neg h]
  by_cases h2 : b < a
  ·rw [if_pos h2];constructor
   ·intro h;cases h
   ·intro h;omega
  ·rw [if_neg h2];constructor <;> intros <;> omega
end Go.Proofs.YtioapcamanmoiaaDoor.Kc
namespace Go.Proofs.YtioapcamanmoiaaDoor
open Go.Rv
set_option linter.unusedVariables false
set_option linter.unusedSimpArgs false
set_option maxRecDepth 100000
theorem AeP {n : Nat} (h : n≤2100000) : Fs n 64:=⟨Nat.le_trans h (by decide),Nat.le_trans (Nat.mul_le_mul_right 64 h) (by decide)⟩
def iV (n : Int) : Api_Value:=Api_Value.mk 1 n [] []
def tV (s : List UInt8) : Api_Value:=Api_Value.mk 2 0 s []
def lV (l : List Api_Value) : Api_Value:=Api_Value.mk 3 0 [] l
def V7 (x : Api_Part) : Api_Value:=lV [iV x.Za,iV x.Zl1,iV (if x.Zm1 = true then 1 else 0)]
def AmH (it : Api_Item) : List Api_Value:=[iV it.Za,lV [iV it.Ref.Zb,iV it.Ref.No],iV it.Zn1,iV it.Zb1,iV it.Zc,iV it.Zo1,iV it.Zw,iV it.To,iV it.Code,iV it.Zp1,iV it.Zq1,iV it.Zr1,iV it.Zs1]
def val (it : Api_Item) : Api_Value:=lV (AmH it ++ [tV it.Zt1,lV (it.Zu1.map V7)])
theorem map_take {α β : Type} [Inhabited α] (f : α→β) (l : List α) (k : Nat) (hk : k < l.length) : (l.take (k + 1)).map f = (l.take k).map f ++ [f (nth l k)]:=by
 have h : l.take (k + 1) = l.take k ++ [nth l k]:=by
  rw [List.take_add_one,List.getElem?_eq_getElem hk]
  simp [nth,List.getElem?_eq_getElem hk]
 rw [h];simp
theorem Al8 {it : Api_Item} (hp : it.Zu1.length≤2000000) : A4 (fun (v : Int×List Api_Value) => F2 it v.1 v.2) (0,[]) = some (it.Zu1.map V7):=by
 obtain ⟨x,hx,rfl⟩:=J7 (f:=fun (v : Int×List Api_Value) => F2 it v.1 v.2) it.Zu1.length (fun k v => v = ((k : Int),(it.Zu1.take k).map V7)) (fun x => x = it.Zu1.map V7) (by omega) (by
   rintro k v hk rfl
   refine ⟨_,?_,rfl⟩
   have hin : InR (k : Int) it.Zu1.length:=⟨by omega,by simpa using hk⟩
   unfold F2
   rw [if_pos (decide_eq_true (by omega)),if_pos hin,Fq (by omega),map_take _ _ k hk]
   simp only [Int.toNat_natCast,Cv]
   have e : (if (nth it.Zu1 k).Zm1 = true then some 1 else some 0 : Option Int) = some (if (nth it.Zu1 k).Zm1 = true then 1 else 0):=by split <;> rfl
   rw [e]
   simp only [Option.bind_some,Bk,Gp]
   rw [if_pos (AeP (by simp;omega))]
   rfl) (by
   rintro v rfl
   refine ⟨_,?_,rfl⟩
   unfold F2
   rw [if_neg (by simp)]
   simp) (v0:=(0,[])) (by simp)
 exact hx
theorem Aac {it : Api_Item} (hp : it.Zu1.length≤2000000) : J9 it = some (val it):=by
 unfold J9
 simp only [Option.bind_some,Bk,Gp,Kl,edi_list_cnil,Ts,Cv,Al8 hp]
 repeat rw [if_pos (AeP (by simp))]
 simp only [Option.bind_some]
 rw [if_pos (AeP (by simp))]
 rfl
def Ajk (n : UInt64) (k : Nat) : UInt8:=(F8 n (56 - 8 * k)).toUInt8
def Abf (n : UInt64) : List UInt8:=(List.range 8).map (Ajk n)
def Ag3 (n : UInt64) (k : Nat) : List UInt8:=(List.range 8).map fun j => if j < k then Ajk n j else 0
theorem Ah9 (n : UInt64) : ∀ {k : Nat},k < 8→(Ag3 n k).set k (Ajk n k) = Ag3 n (k + 1)
  | 0,_ => rfl
  | 1,_ => rfl
  | 2,_ => rfl
  | 3,_ => rfl
  | 4,_ => rfl
  | 5,_ => rfl
  | 6,_ => rfl
  | 7,_ => rfl
  | k + 8,h => by omega
theorem AgU (n : UInt64) : L8 n = some (tV (Abf n)):=by
 have h : A4 (fun (v : Int×List UInt8) => Ga n (List.replicate 8 (0 : UInt8)) v.1 v.2) (0,List.replicate 8 (0 : UInt8)) = some (Abf n):=by
  refine AjF 8 (fun (v : Int×List UInt8) => Ga n (List.replicate 8 (0 : UInt8)) v.1 v.2) (fun k s => (k,s)) (Ag3 n) id (by omega) (fun k hk => ?_) ?_
  ·have e1 : w64 (56 - w64 (8 * (k : Int))) = ((56 - 8 * k : Nat) : Int):=by rw [C4 (x:=8 * (k : Int)) (by omega),C4 (by omega)];omega
   simp only
   unfold Ga
   rw [if_pos (decide_eq_true (by simp;omega)),e1,if_pos (by unfold Hs;omega),if_pos (show InR (k : Int) (Ag3 n k).length from D6 (by simpa [Ag3] using hk))]
   simp only [Cv,Int.toNat_natCast]
   rw [Fq (by omega),show (F8 n (56 - 8 * k)).toUInt8 = Ajk n k from rfl,Ah9 n hk]
  ·simp only
   unfold Ga
   rw [if_neg (by simp)]
   rfl
 unfold L8
 rw [if_pos (by unfold Mk maxLen K6;omega)]
 simp only [Cv]
 rw [h]
 rfl
def Uj (r : Api_Record) : List Api_Value:=[iV r.Zb,iV r.No,tV r.Zv1.l,iV r.Zw1,val r.Zx1]
def AeD (r : Api_Record) : Api_Value:=lV (Uj r ++ [lV [tV (Abf r.Sig.C),tV (Abf r.Sig.S)]])
theorem U8 {r : Api_Record} (hp : r.Zx1.Zu1.length≤2000000) : Gu r = some (Uj r):=by
 unfold Gu
 rw [Aac hp]
 rfl
theorem Aim (n : Int) : Kc.szV (iV n) = 1:=by rw [Kc.szV_eq];rfl
theorem Pz : Kc.szVs [] = 0:=rfl
theorem H3 (x : Api_Value) (l : List Api_Value) : Kc.szVs (x :: l) = Kc.szV x + Kc.szVs l:=rfl
theorem AeJ (a b : List Api_Value) : Kc.szVs (a ++ b) = Kc.szVs a + Kc.szVs b:=by
  induction a with
  | nil => rw [List.nil_append,Pz];omega
  | cons x a ih => rw [List.cons_append,H3,H3,ih];omega
theorem AmX (s : List UInt8) : Kc.szV (tV s) = s.length + 1:=by rw [Kc.szV_eq];rfl
theorem AcU (l : List Api_Value) : Kc.szV (lV l) = 1 + Kc.szVs l:=by rw [Kc.szV_eq];show 0 + 1 + Kc.szVs l = _;omega
theorem AiF (l : List Api_Part) : Kc.szVs (l.map V7) = 4 * l.length:=by
  induction l with
  | nil => rfl
  | cons x l ih =>
    rw [List.map_cons,H3,ih]
    unfold V7
    rw [AcU,H3,H3,H3,Pz,Aim,Aim,Aim,List.length_cons]
    omega
theorem Ahg (it : Api_Item) : Kc.szV (val it) = 18 + it.Zt1.length + 4 * it.Zu1.length:=by
 unfold val AmH
 rw [AcU,AeJ]
 simp only [H3,Pz,Aim,AcU,AmX,AiF]
 omega
theorem AeC (r : Api_Record) : Kc.szV (lV (Uj r)) = 55 + r.Zx1.Zt1.length + 4 * r.Zx1.Zu1.length:=by
 unfold Uj
 rw [AcU]
 simp only [H3,Pz,Aim,AmX,Ahg,r.Zv1.h]
 omega
theorem Aho (r : Api_Record) : Kc.szV (AeD r) = 74 + r.Zx1.Zt1.length + 4 * r.Zx1.Zu1.length:=by
 have h:=AeC r
 rw [AcU] at h
 have hw : ∀ n,(Abf n).length = 8:=fun n => by simp [Abf]
 unfold AeD
 rw [AcU,AeJ]
 simp only [H3,Pz,AcU,AmX,hw]
 omega
theorem AmE {r : Api_Record} (h : Small r.Zx1) : Lm r = some (Kc.Enc (lV (Uj r))):=by
 have h1:=h.text
 have h2:=h.parts
 unfold Lm
 rw [U8 (by omega),Option.bind_some]
 show (some (lV (Uj r))).bind _ = _
 rw [Option.bind_some,Kc.encode_eq _ (by rw [AeC];omega)]
 rfl
theorem X6 {r : Api_Record} (h : Small r.Zx1) : Gf r = some (Kc.Enc (AeD r)):=by
 have h1:=h.text
 have h2:=h.parts
 unfold Gf
 rw [U8 (by omega),Option.bind_some,AgU,Option.bind_some,AgU,Option.bind_some]
 show (some (lV [tV (Abf r.Sig.C),tV (Abf r.Sig.S)])).bind _ = _
 rw [Option.bind_some,if_pos (AeP (by simp [Uj]))]
 show (some (AeD r)).bind _ = _
 rw [Option.bind_some,Kc.encode_eq _ (by rw [Aho];omega)]
 rfl
theorem AnX (v : Api_Value) : (Kc.Enc v).1.length≤9 * Kc.szV v:=by
 unfold Kc.Enc
 repeat' split
 all_goals first | exact Kc.encV_len v | simp
theorem We {r : Api_Record} (h : Small r.Zx1) : ∃ d,Ec r = some d∧((Kc.Enc (AeD r)).2≠0→d.2 = (Kc.Enc (AeD r)).2)∧((Kc.Enc (AeD r)).2 = 0→d.2 = 0∧Dc [114,101,99,111,114,100] (Kc.Enc (AeD r)).1 = some d.1):=by
 have h1:=h.text
 have h2:=h.parts
 have h3:=AnX (AeD r)
 rw [Aho] at h3
 unfold Ec
 rw [X6 h,Option.bind_some]
 by_cases he : (Kc.Enc (AeD r)).2 = 0
 ·rw [if_neg (by simpa using he)]
  obtain ⟨d,hd⟩:=Yt [114,101,99,111,114,100] (Kc.Enc (AeD r)).1 (by simp) (by omega)
  rw [hd]
  exact ⟨_,rfl,fun h => absurd he h,fun _ => ⟨rfl,rfl⟩⟩
 ·rw [if_pos (by simpa using he)]
  exact ⟨_,rfl,fun _ => rfl,fun h => absurd h he⟩
set_option maxRecDepth 8000
theorem z_i {x y : Int} : Kc.cmpV (iV x) (iV y) = 0↔x = y:=by
 rw [Kc.cmpV_eq]
 show (if (1 : Int)≠1 then _ else if (1 : Int) = 1 then Kc.cmpI x y else _) = 0↔_
 rw [if_neg (by simp),if_pos rfl,Kc.cmpI_zero]
theorem z_b : ∀ {a b : List UInt8},Kc.cmpB a b = 0↔a = b
  | [],[] => by simp [Kc.cmpB]
  | [],_ :: _ => by simp [Kc.cmpB]
  | _ :: _,[] => by simp [Kc.cmpB]
  | x :: l,y :: m => by
    unfold Kc.cmpB
    by_cases h : x = y
    · rw [if_pos h,z_b (a:=l) (b:=m),h];simp
    · rw [if_neg h]
      split <;> simp [h]
theorem z_t {a b : List UInt8} : Kc.cmpV (tV a) (tV b) = 0↔a = b:=by
 rw [Kc.cmpV_eq]
 show (if (2 : Int)≠2 then _ else if (2 : Int) = 1 then _ else if (2 : Int) = 2 then Kc.cmpB a b else _) = 0↔_
 rw [if_neg (by simp),if_neg (by decide),if_pos rfl,z_b]
theorem c_l {a b : List Api_Value} : Kc.cmpV (lV a) (lV b) = Kc.cmpL a b:=by
 rw [Kc.cmpV_eq]
 show (if (3 : Int)≠3 then _ else if (3 : Int) = 1 then _ else if (3 : Int) = 2 then _ else if (3 : Int) = 3 then Kc.cmpL a b else _) = _
 rw [if_neg (by simp),if_neg (by decide),if_neg (by decide),if_pos rfl]
theorem z_c {x y : Api_Value} {l m : List Api_Value} : Kc.cmpL (x :: l) (y :: m) = 0↔Kc.cmpV x y = 0∧Kc.cmpL l m = 0:=by
 rw [Kc.cmpL]
 by_cases h : Kc.cmpV x y = 0
 ·rw [if_neg (by simpa using h)];simp [h]
 ·rw [if_pos h];simp [h]
theorem z_n : Kc.cmpL [] [] = 0:=by rw [Kc.cmpL]
theorem z_p {x y : Api_Part} : Kc.cmpV (V7 x) (V7 y) = 0↔x = y:=by
 unfold V7
 rw [c_l,z_c,z_c,z_c,z_i,z_i,z_i]
 rcases x with ⟨a,b,c⟩
 rcases y with ⟨d,e,f⟩
 simp only [z_n,and_true,Api_Part.mk.injEq]
 cases c <;> cases f <;> simp
theorem z_ps : ∀ {l m : List Api_Part},Kc.cmpL (l.map V7) (m.map V7) = 0↔l = m
  | [],[] => by simp [z_n]
  | [],y :: m => by rw [List.map_nil,List.map_cons,Kc.cmpL];simp
  | x :: l,[] => by rw [List.map_nil,List.map_cons,Kc.cmpL];simp
  | x :: l,y :: m => by rw [List.map_cons,List.map_cons,z_c,z_p,z_ps];simp
theorem z_val {a b : Api_Item} : Kc.cmpV (val a) (val b) = 0↔a = b:=by
 unfold val AmH
 simp only [c_l,List.cons_append,List.nil_append,z_c,z_i,z_t,z_ps,z_n,and_true]
 rcases a with ⟨k,⟨r,n⟩,a1,a2,a3,a4,a5,a6,a7,a8,a9,a10,a11,t,p⟩
 rcases b with ⟨k',⟨r',n'⟩,b1,b2,b3,b4,b5,b6,b7,b8,b9,b10,b11,t',p'⟩
 simp only [Api_Item.mk.injEq,Api_Ref.mk.injEq]
theorem Anf {a b : Api_Record} (ha : Small a.Zx1) (hb : Small b.Zx1) : L7 a b = some (decide (a = b)):=by
 have hz : Jh (val a.Zx1) (val b.Zx1) = some (Kc.cmpV (val a.Zx1) (val b.Zx1)):=Kc.compare_eq _ _ (by rw [Ahg];have:=ha.text;have:=ha.parts;omega)
 unfold L7
 by_cases h1 : a.Zb = b.Zb
 case neg => rw [if_neg (by simpa using h1),decide_eq_false (fun h => h1 (by rw [h]))];rfl
 by_cases h2 : a.No = b.No
 case neg => rw [if_pos (by simpa using h1),if_neg (by simpa using h2),decide_eq_false (fun h => h2 (by rw [h]))];rfl
 by_cases h3 : a.Zv1 = b.Zv1
 case neg => rw [if_pos (by simpa using h1),if_pos (by simpa using h2),if_neg (by simpa using h3),decide_eq_false (fun h => h3 (by rw [h]))];rfl
 by_cases h4 : a.Zw1 = b.Zw1
 case neg => rw [if_pos (by simpa using h1),if_pos (by simpa using h2),if_pos (by simpa using h3),if_neg (by simpa using h4),decide_eq_false (fun h => h4 (by rw [h]))];rfl
 rw [if_pos (by simpa using h1),if_pos (by simpa using h2),if_pos (by simpa using h3),if_pos (by simpa using h4),Option.bind_some]
 by_cases h5 : ((a.Sig.C == b.Sig.C) && (a.Sig.S == b.Sig.S)) = true
 case neg =>
  rw [if_neg h5,decide_eq_false (fun h => h5 (by rw [h];simp))];rfl
 rw [if_pos h5,Aac (by have:=ha.parts;omega),Option.bind_some,Aac (by have:=hb.parts;omega),Option.bind_some,hz]
 simp only [Option.bind_some]
 simp only [Bool.and_eq_true,beq_iff_eq] at h5
 by_cases h6 : a.Zx1 = b.Zx1
 ·rw [decide_eq_true (Ag0 h1 h2 h3 h4 h5.1 h5.2 h6),h6,z_val.2 rfl];rfl
 ·rw [decide_eq_false (fun h => h6 (by rw [h]))]
  congr 1
  simp only [beq_eq_false_iff_ne,ne_eq]
  exact fun h => h6 (z_val.1 h)
def Oy (r : Api_Record) (f : Api_Fork) : Bool:=(f.A.Zb == r.Zb) && (f.A.No == r.No)
theorem acc1 (f : Api_Fork) (r : Api_Record) : Hw f r = some (Oy r f,r):=by
 unfold Hw Oy
 by_cases h : f.A.Zb = r.Zb <;> simp [h]
theorem AdF (l : List Api_Fork) (r : Api_Record) (hl : l.length≤1000000) : Bz l r = some (l.any (Oy r),r):=by
 unfold Bz C5
 generalize hF : (fun (v : Int×Int×Int×Arr UInt8 32×Int×Int×Int×Int×Int×Int×Int×Int×Int×Int×Int×Int×Int×Int×Int×List UInt8×List Api_Part×UInt64×UInt64) => Bh l v.1 v.2.1 v.2.2.1 v.2.2.2.1 v.2.2.2.2.1 v.2.2.2.2.2.1 v.2.2.2.2.2.2.1 v.2.2.2.2.2.2.2.1 v.2.2.2.2.2.2.2.2.1 v.2.2.2.2.2.2.2.2.2.1 v.2.2.2.2.2.2.2.2.2.2.1 v.2.2.2.2.2.2.2.2.2.2.2.1 v.2.2.2.2.2.2.2.2.2.2.2.2.1 v.2.2.2.2.2.2.2.2.2.2.2.2.2.1 v.2.2.2.2.2.2.2.2.2.2.2.2.2.2.1 v.2.2.2.2.2.2.2.2.2.2.2.2.2.2.2.1 v.2.2.2.2.2.2.2.2.2.2.2.2.2.2.2.2.1 v.2.2.2.2.2.2.2.2.2.2.2.2.2.2.2.2.2.1 v.2.2.2.2.2.2.2.2.2.2.2.2.2.2.2.2.2.2.1 v.2.2.2.2.2.2.2.2.2.2.2.2.2.2.2.2.2.2.2.1 v.2.2.2.2.2.2.2.2.2.2.2.2.2.2.2.2.2.2.2.2.1 v.2.2.2.2.2.2.2.2.2.2.2.2.2.2.2.2.2.2.2.2.2.1 v.2.2.2.2.2.2.2.2.2.2.2.2.2.2.2.2.2.2.2.2.2.2) = F
 have hs : ∀ k : Nat,F ((k : Int),r.Zb,r.No,r.Zv1,r.Zw1,r.Zx1.Za,r.Zx1.Ref.Zb,r.Zx1.Ref.No,r.Zx1.Zn1,r.Zx1.Zb1,r.Zx1.Zc,r.Zx1.Zo1,r.Zx1.Zw,r.Zx1.To,r.Zx1.Code,r.Zx1.Zp1,r.Zx1.Zq1,r.Zx1.Zr1,r.Zx1.Zs1,r.Zx1.Zt1,r.Zx1.Zu1,r.Sig.C,r.Sig.S) =
   Bh l (k : Int) r.Zb r.No r.Zv1 r.Zw1 r.Zx1.Za r.Zx1.Ref.Zb r.Zx1.Ref.No r.Zx1.Zn1 r.Zx1.Zb1 r.Zx1.Zc r.Zx1.Zo1 r.Zx1.Zw r.Zx1.To r.Zx1.Code r.Zx1.Zp1 r.Zx1.Zq1 r.Zx1.Zr1 r.Zx1.Zs1 r.Zx1.Zt1 r.Zx1.Zu1 r.Sig.C r.Sig.S:=fun k => by rw [← hF]
 have hlp:=Ek (f:=F) (fun v => ∃ k : Nat,k≤l.length∧(l.take k).any (Oy r) = false∧v = ((k : Int),r.Zb,r.No,r.Zv1,r.Zw1,r.Zx1.Za,r.Zx1.Ref.Zb,r.Zx1.Ref.No,r.Zx1.Zn1,r.Zx1.Zb1,r.Zx1.Zc,r.Zx1.Zo1,r.Zx1.Zw,r.Zx1.To,r.Zx1.Code,r.Zx1.Zp1,r.Zx1.Zq1,r.Zx1.Zr1,r.Zx1.Zs1,r.Zx1.Zt1,r.Zx1.Zu1,r.Sig.C,r.Sig.S)) (fun v => (l.length - v.1).toNat)
  (fun x => (l.any (Oy r) = false∧x = .inl (r.Zb,r.No,r.Zv1,r.Zw1,r.Zx1.Za,r.Zx1.Ref.Zb,r.Zx1.Ref.No,r.Zx1.Zn1,r.Zx1.Zb1,r.Zx1.Zc,r.Zx1.Zo1,r.Zx1.Zw,r.Zx1.To,r.Zx1.Code,r.Zx1.Zp1,r.Zx1.Zq1,r.Zx1.Zr1,r.Zx1.Zs1,r.Zx1.Zt1,r.Zx1.Zu1,r.Sig.C,r.Sig.S))∨(l.any (Oy r) = true∧∃ k : Nat,x = .inr (.inr ((k : Int),r)))) ?_ ⟨0,by omega,rfl,rfl⟩ (by simp;omega)
 ·obtain ⟨x,hx,hq⟩:=hlp
  show ((((A4 F ((0 : Int),r.Zb,r.No,r.Zv1,r.Zw1,r.Zx1.Za,r.Zx1.Ref.Zb,r.Zx1.Ref.No,r.Zx1.Zn1,r.Zx1.Zb1,r.Zx1.Zc,r.Zx1.Zo1,r.Zx1.Zw,r.Zx1.To,r.Zx1.Code,r.Zx1.Zp1,r.Zx1.Zq1,r.Zx1.Zr1,r.Zx1.Zs1,r.Zx1.Zt1,r.Zx1.Zu1,r.Sig.C,r.Sig.S)).bind _).bind _).bind _) = _
  rw [show A4 F ((0 : Int),r.Zb,r.No,r.Zv1,r.Zw1,r.Zx1.Za,r.Zx1.Ref.Zb,r.Zx1.Ref.No,r.Zx1.Zn1,r.Zx1.Zb1,r.Zx1.Zc,r.Zx1.Zo1,r.Zx1.Zw,r.Zx1.To,r.Zx1.Code,r.Zx1.Zp1,r.Zx1.Zq1,r.Zx1.Zr1,r.Zx1.Zs1,r.Zx1.Zt1,r.Zx1.Zu1,r.Sig.C,r.Sig.S) = some x from hx]
  rcases hq with ⟨h1,rfl⟩ | ⟨h1,k,rfl⟩
  ·rw [h1];rfl
  ·rw [h1]
   simp only [Option.bind_some]
   rw [decide_eq_true (by omega)]
 ·rintro v ⟨k,hk,ht,rfl⟩
  rw [hs]
  unfold Bh
  by_cases h1 : k < l.length
  ·rw [if_pos (decide_eq_true (by omega)),if_pos (D6 h1)]
   simp only [Int.toNat_natCast]
   rw [acc1,Option.bind_some]
   show (∃ v',(if Oy r (nth l k) = true then _ else _) = _∧_)∨_
   have hn : nth l k = l[k]:=by simp [nth,h1]
   by_cases h2 : Oy r (nth l k) = true
   ·right
    refine ⟨_,by rw [if_pos h2];rfl,.inr ⟨?_,k,rfl⟩⟩
    rw [List.any_eq_true]
    exact ⟨_,J3 h1,h2⟩
   ·left
    refine ⟨_,by rw [if_neg h2],⟨k + 1,by omega,?_,by rw [Fq (by omega)]⟩,?_⟩
    ·rw [List.take_succ_eq_append_getElem h1,List.any_append,ht,← hn]
     simpa using h2
    ·show ((l.length : Int) - w64 ((k : Int) + 1)).toNat < ((l.length : Int) - (k : Int)).toNat
     rw [Fq (by omega)];omega
  ·have : k = l.length:=by omega
   subst this
   rw [List.take_length] at ht
   right
   exact ⟨_,by rw [if_neg (by simp)],.inl ⟨ht,rfl⟩⟩
structure SingleOk (p : Api_Pool) (r : Api_Record) : Prop where
 pool : Cx p = some 0
 rail : 0≤r.Zb∧r.Zb < (p.Zk1.length : Int)
 no : 1≤r.No∧r.No≤4096
 time : 0≤r.Zw1∧r.Zw1≤1073741824
 item : Ki p r.Zx1 = some 0
 body : (Kc.Enc (lV (Uj r))).2 = 0
 ver : Hd (nth p.Zk1 r.Zb.toNat).Key (Kc.Enc (lV (Uj r))).1 r.Sig = some true
theorem AcC {p : Api_Pool} {r : Api_Record} (h : Few p) (hs : Small r.Zx1) : ∃ e,G8 p r = some e∧(e = 0→SingleOk p r):=by
 obtain ⟨f,hf,hc⟩:=Agf h
 obtain ⟨u,hi⟩:=hc r.Zx1 (by have:=hs.parts;omega)
 unfold G8
 rw [hf,Option.bind_some]
 by_cases h0 : (f != 0) = true
 ·rw [if_pos h0]
  exact ⟨f,rfl,fun e => by subst e;exact absurd h0 (by decide)⟩
 rw [if_neg h0]
 have f0 : f = 0:=by simpa using h0
 simp only [Ao8,Nu]
 split
 ·exact ⟨_,rfl,fun e => absurd e (by decide)⟩
 rename_i h1
 simp only [Bool.or_eq_true,not_or,decide_eq_true_eq] at h1
 obtain ⟨a1,a2,a3,a4,a5,a6,a7⟩:=h1
 rw [hi,Option.bind_some]
 by_cases h2 : (u != 0) = true
 ·rw [if_pos h2]
  exact ⟨_,rfl,fun e => by rw [e] at h2;exact absurd h2 (by decide)⟩
 rw [if_neg h2,AmE hs,Option.bind_some]
 by_cases h3 : ((Kc.Enc (lV (Uj r))).2 != 0) = true
 ·rw [if_pos h3]
  exact ⟨_,rfl,fun e => by rw [e] at h3;exact absurd h3 (by decide)⟩
 rw [if_neg h3,if_pos (show InR r.Zb p.Zk1.length from ⟨by omega,by omega⟩)]
 obtain ⟨b,hb⟩:=Adu (nth p.Zk1 r.Zb.toNat).Key (Kc.Enc (lV (Uj r))).1 r.Sig
 rw [hb,Option.bind_some]
 cases b
 ·exact ⟨31,rfl,fun e => absurd e (by decide)⟩
 ·refine ⟨0,rfl,fun _ => ⟨by rw [hf,f0],⟨by omega,by omega⟩,⟨by omega,by omega⟩,⟨by omega,by omega⟩,?_,by simpa using h3,hb⟩⟩
  rw [hi]
  congr 1
  simpa using h2
def Agy (r : Api_Ref) : Bool:=(r.Zb == 0) && (r.No == 0)
structure FollowsOk (l : List Api_Record) (r : Api_Record) : Prop where
 no : r.No≤(l.length : Int) + 1
 prev : 1 < r.No→Ec (nth l (r.No - 2).toNat) = some (r.Zv1,0)∧(nth l (r.No - 2).toNat).Zw1≤r.Zw1
 first : ¬ 1 < r.No→r.Zv1 = Arr.rep 32 (0 : UInt8)
 ref : Agy r.Zx1.Ref = true∨(r.Zx1.Ref.Zb = r.Zb∧1≤r.Zx1.Ref.No∧r.Zx1.Ref.No < r.No∧Agy (nth l (r.Zx1.Ref.No - 1).toNat).Zx1.Ref = true)
theorem Agd {r : Api_Record} (h : Small r.Zx1) : ∃ d,Ec r = some d:=by
 obtain ⟨d,h1,_⟩:=We h
 exact ⟨d,h1⟩
theorem Abd {l : List Api_Record} {r : Api_Record} (hl : l.length≤10000) (hs : ∀ x ∈ l,Small x.Zx1) (hn : 1≤r.No) : ∃ e,Iv l r = some e∧(e = 0↔FollowsOk l r):=by
 have w1 : w64 ((l.length : Int) + 1) = (l.length : Int) + 1:=C4 (by omega)
 unfold Iv
 rw [w1]
 by_cases h1 : r.No > (l.length : Int) + 1
 ·rw [if_pos (decide_eq_true h1)]
  exact ⟨140,rfl,⟨fun e => absurd e (by decide),fun h => by have:=h.no;omega⟩⟩
 rw [if_neg (by simpa using h1)]
 have w2 : w64 (r.No - 2) = r.No - 2:=C4 (by omega)
 have tail : ∀ d : Arr UInt8 32,∃ e,(if (!(d == r.Zv1)) = true then some 140 else
    (if (!((r.Zx1.Ref.Zb == 0) && (r.Zx1.Ref.No == 0))) = true then
     if (r.Zx1.Ref.Zb != r.Zb) = true then some true
     else
      if (decide (r.Zx1.Ref.No < 1)) = true then some true
      else
       if (decide (r.Zx1.Ref.No ≥ r.No)) = true then some true
       else
        if InR ((w64 (r.Zx1.Ref.No - 1))) l.length then
         some ((!(((((nth l (((w64 (r.Zx1.Ref.No - 1))).toNat)).Zx1).Ref).Zb == 0) && ((((nth l (((w64 (r.Zx1.Ref.No - 1))).toNat)).Zx1).Ref).No == 0))))
        else none
    else some false : Option (Bool)).bind fun t => if t = true then some 110 else some 0 : Option Int) = some e ∧
   (e = 0↔d = r.Zv1∧(Agy r.Zx1.Ref = true∨(r.Zx1.Ref.Zb = r.Zb∧1≤r.Zx1.Ref.No∧r.Zx1.Ref.No < r.No∧Agy (nth l (r.Zx1.Ref.No - 1).toNat).Zx1.Ref = true))):=by
  intro d
  by_cases h2 : d = r.Zv1
  case neg => rw [if_pos (by simpa using h2)];exact ⟨140,rfl,⟨fun e => absurd e (by decide),fun h => absurd h.1 h2⟩⟩
  rw [if_neg (by simpa using h2)]
  by_cases h3 : Agy r.Zx1.Ref = true
  ·have h3' : (!((r.Zx1.Ref.Zb == 0) && (r.Zx1.Ref.No == 0))) = false:=by rw [show ((r.Zx1.Ref.Zb == 0) && (r.Zx1.Ref.No == 0)) = true from h3];rfl
   rw [h3',if_neg (by simp)]
   exact ⟨0,rfl,⟨fun _ => ⟨h2,.inl h3⟩,fun _ => rfl⟩⟩
  have h3' : (!((r.Zx1.Ref.Zb == 0) && (r.Zx1.Ref.No == 0))) = true:=by
   rw [Bool.not_eq_true] at h3
   rw [show ((r.Zx1.Ref.Zb == 0) && (r.Zx1.Ref.No == 0)) = false from h3];rfl
  rw [if_pos h3']
  by_cases h4 : r.Zx1.Ref.Zb = r.Zb
  case neg => rw [if_pos (by simpa using h4)];exact ⟨110,rfl,⟨fun e => absurd e (by decide),fun h => (h.2.resolve_left h3).1 |> fun q => absurd q h4⟩⟩
  rw [if_neg (by simpa using h4)]
  by_cases h5 : r.Zx1.Ref.No < 1
  ·rw [if_pos (decide_eq_true h5)];exact ⟨110,rfl,⟨fun e => absurd e (by decide),fun h => by have:=(h.2.resolve_left h3).2.1;omega⟩⟩
  rw [if_neg (by simpa using h5)]
  by_cases h6 : r.Zx1.Ref.No ≥ r.No
  ·rw [if_pos (decide_eq_true h6)];exact ⟨110,rfl,⟨fun e => absurd e (by decide),fun h => by have:=(h.2.resolve_left h3).2.2.1;omega⟩⟩
  rw [if_neg (by simpa using h6)]
  have w3 : w64 (r.Zx1.Ref.No - 1) = r.Zx1.Ref.No - 1:=C4 (by omega)
  rw [w3,if_pos (show InR (r.Zx1.Ref.No - 1) l.length from ⟨by omega,by omega⟩),Option.bind_some]
  by_cases h7 : Agy (nth l (r.Zx1.Ref.No - 1).toNat).Zx1.Ref = true
  ·have h7' : (!((((nth l (r.Zx1.Ref.No - 1).toNat).Zx1.Ref.Zb == 0) && ((nth l (r.Zx1.Ref.No - 1).toNat).Zx1.Ref.No == 0)))) = false:=by
    rw [show (((nth l (r.Zx1.Ref.No - 1).toNat).Zx1.Ref.Zb == 0) && ((nth l (r.Zx1.Ref.No - 1).toNat).Zx1.Ref.No == 0)) = true from h7];rfl
   rw [h7',if_neg (by simp)]
   exact ⟨0,rfl,⟨fun _ => ⟨h2,.inr ⟨h4,by omega,by omega,h7⟩⟩,fun _ => rfl⟩⟩
  ·have h7' : (!((((nth l (r.Zx1.Ref.No - 1).toNat).Zx1.Ref.Zb == 0) && ((nth l (r.Zx1.Ref.No - 1).toNat).Zx1.Ref.No == 0)))) = true:=by
    rw [Bool.not_eq_true] at h7
    rw [show (((nth l (r.Zx1.Ref.No - 1).toNat).Zx1.Ref.Zb == 0) && ((nth l (r.Zx1.Ref.No - 1).toNat).Zx1.Ref.No == 0)) = false from h7];rfl
   rw [h7',if_pos rfl]
   exact ⟨110,rfl,⟨fun e => absurd e (by decide),fun h => absurd (h.2.resolve_left h3).2.2.2 h7⟩⟩
 by_cases h2 : r.No > 1
 ·rw [if_pos (decide_eq_true h2),w2]
  have hin : InR (r.No - 2) l.length:=⟨by omega,by omega⟩
  rw [if_pos hin]
  have hk : (r.No - 2).toNat < l.length:=by omega
  obtain ⟨d,hd⟩:=Agd (hs _ (J3 hk))
  rw [hd,Option.bind_some]
  by_cases h3 : d.2 = 0
  case neg =>
   rw [if_pos (by simpa using h3)]
   refine ⟨140,rfl,⟨fun e => absurd e (by decide),fun h => ?_⟩⟩
   have:=(h.prev h2).1
   rw [hd] at this
   exact absurd (congrArg Prod.snd (Option.some.inj this)) h3
  rw [if_neg (by simpa using h3),if_pos hin,Option.bind_some]
  by_cases h4 : r.Zw1 < (nth l (r.No - 2).toNat).Zw1
  ·rw [if_pos (decide_eq_true h4)]
   exact ⟨140,rfl,⟨fun e => absurd e (by decide),fun h => by have:=(h.prev h2).2;omega⟩⟩
  rw [if_neg (by simpa using h4),Option.bind_some]
  obtain ⟨e,he,hq⟩:=tail d.1
  refine ⟨e,he,hq.trans ⟨fun h => ⟨by omega,fun _ => ⟨?_,by omega⟩,fun h5 => absurd h2 h5,h.2⟩,fun h => ⟨?_,h.ref⟩⟩⟩
  ·rw [hd,← h.1,← h3]
  ·have:=(h.prev h2).1
   rw [hd] at this
   exact congrArg Prod.fst (Option.some.inj this)
 ·rw [if_neg (by simpa using h2),Option.bind_some]
  obtain ⟨e,he,hq⟩:=tail (Arr.rep 32 (0 : UInt8))
  exact ⟨e,he,hq.trans ⟨fun h => ⟨by omega,fun h5 => absurd h5 h2,fun _ => h.1.symm,h.2⟩,fun h => ⟨(h.first h2).symm,h.ref⟩⟩⟩
structure Mid (n : Nat) (b : Api_Books) : Prop where
 logs : b.Zy1.length≤n
 forks : b.Zz1.length≤n
 row : ∀ l ∈ b.Zy1,l.length≤n
 item : ∀ l ∈ b.Zy1,∀ r ∈ l,Small r.Zx1
theorem Short.mid {b : Api_Books} (h : Short b) : Mid 12 b:=⟨by have:=h.logs;omega,by have:=h.forks;omega,h.row,h.item⟩
def logV (b : Api_Books) (rw : Int) : List Api_Record:=if 0≤rw∧rw < (b.Zy1.length : Int) then nth b.Zy1 rw.toNat else []
theorem Akz {b : Api_Books} {rw : Int} (h : 0≤rw) : Jq b rw = some (logV b rw):=by
 unfold Jq logV
 by_cases h1 : rw < (b.Zy1.length : Int)
 ·rw [if_neg (by simp;omega),if_pos (show InR rw b.Zy1.length from ⟨h,by omega⟩),if_pos ⟨h,h1⟩]
 ·rw [if_pos (by simp;omega),if_neg (fun h2 => h1 h2.2)]
theorem Aoz (b : Api_Books) (rw : Int) : Uz b rw = some (logV b rw):=by
 unfold Uz logV
 rw [Ao8,Option.bind_some]
 by_cases h : 0≤rw∧rw < (b.Zy1.length : Int)
 ·rw [if_neg (by simp;omega),if_pos (show InR rw b.Zy1.length from ⟨h.1,by omega⟩),if_pos h]
 ·rw [if_pos (by simp;omega),if_neg h]
theorem Mid.logV {n : Nat} {b : Api_Books} (h : Mid n b) (rw : Int) : (logV b rw).length≤n∧∀ r ∈ Proofs.YtioapcamanmoiaaDoor.logV b rw,Small r.Zx1:=by
 unfold Proofs.YtioapcamanmoiaaDoor.logV
 split
 ·rename_i h1
  have hk : rw.toNat < b.Zy1.length:=by omega
  exact ⟨h.row _ (J3 hk),h.item _ (J3 hk)⟩
 ·exact ⟨by simp,fun r hr => by simp at hr⟩
def An3 (N : Nat) (L : List (List Api_Record)) : List (List Api_Record):=L ++ List.replicate (N - L.length) []
theorem Ali (N : Nat) (L : List (List Api_Record)) (h : L.length≤N) : ovl (List.replicate N ([] : List Api_Record)) (L.take (min L.length (List.replicate N ([] : List Api_Record)).length)) 0 = An3 N L:=by
 unfold ovl An3
 rw [List.length_replicate,Nat.min_eq_left h,List.take_length]
 simp
def AtW (p : Api_Pool) (b : Api_Books) (r : Api_Record) : Api_Books:={ Zy1:=(An3 (max b.Zy1.length p.Zk1.length) b.Zy1).set r.Zb.toNat (logV b r.Zb ++ [r]),Zz1:=b.Zz1 }
def Ap6 (b : Api_Books) (r : Api_Record) : Api_Books:={ Zy1:=b.Zy1,Zz1:=if b.Zz1.any (Oy r) = true then b.Zz1 else b.Zz1 ++ [{ A:=nth (logV b r.Zb) (r.No - 1).toNat,B:=r }] }
abbrev noB : Api_Books:={ Zy1:=[],Zz1:=[] }
def M7 (p : Api_Pool) (b : Api_Books) (r : Api_Record) (es ef : Int) : Api_Books×Int :=
 if es≠0 then (noB,es) else if r.No≤((logV b r.Zb).length : Int)∧nth (logV b r.Zb) (r.No - 1).toNat = r then (b,0)
 else if ef≠0 then (noB,ef) else if r.No = ((logV b r.Zb).length : Int) + 1 then (AtW p b r,0) else (Ap6 b r,0)
theorem AmN {l : List Api_Record} (h : l.length≤100000) : Gl l = some l:=by
 unfold Gl
 rw [if_pos (by unfold Fs maxLen K6;omega)]
 simp only [Cv,List.nil_append]
theorem AlN {l : List Api_Fork} (h : l.length≤100000) : F5 l = some l:=by
 unfold F5
 rw [if_pos (by unfold Fs maxLen K6;omega)]
 simp only [Cv,List.nil_append]
theorem AhB {p : Api_Pool} {b : Api_Books} {r : Api_Record} {n : Nat} (h : Few p) (hm : Mid n b) (hn : n≤10000) (hr : Small r.Zx1) :
  ∃ es ef,G8 p r = some es∧(es = 0→SingleOk p r∧(ef = 0↔FollowsOk (logV b r.Zb) r))∧Bq p b r = some (M7 p b r es ef):=by
 obtain ⟨es,h1,h2⟩:=AcC h hr
 by_cases h0 : es = 0
 case neg =>
  refine ⟨es,0,h1,fun e => absurd e h0,?_⟩
  unfold Bq M7
  rw [h1,Option.bind_some,if_pos (by simpa using h0),if_pos h0]
 have hs:=h2 h0
 obtain ⟨l1,l2⟩:=hm.logV r.Zb
 obtain ⟨ef,f1,f2⟩:=Abd (l:=logV b r.Zb) (r:=r) (by omega) l2 hs.no.1
 refine ⟨es,ef,h1,fun _ => ⟨hs,f2⟩,?_⟩
 unfold Bq M7
 rw [h1,Option.bind_some,if_neg (show ¬(es != 0) = true by simpa using h0),Akz hs.rail.1,Option.bind_some,if_neg (show ¬ es≠0 from fun h => h h0)]
 generalize hl : logV b r.Zb = l at *
 obtain ⟨n1,n2⟩:=hs.no
 have w1 : w64 (r.No - 1) = r.No - 1:=C4 (by omega)
 have w2 : w64 ((l.length : Int) + 1) = (l.length : Int) + 1:=C4 (by omega)
 have hsame : (if (decide (r.No≤(l.length : Int))) = true then if InR ((w64 (r.No - 1))) l.length then (L7 (nth l (((w64 (r.No - 1))).toNat)) r).bind fun y => some y else none else some false : Option Bool) = some (decide (r.No≤(l.length : Int)∧nth l (r.No - 1).toNat = r)):=by
  by_cases h3 : r.No≤(l.length : Int)
  ·have hk : (r.No - 1).toNat < l.length:=by omega
   rw [if_pos (decide_eq_true h3),w1,if_pos (show InR (r.No - 1) l.length from ⟨by omega,by omega⟩),Anf (l2 _ (J3 hk)) hr,Option.bind_some]
   congr 1
   simp [h3]
  ·rw [if_neg (by simpa using h3),decide_eq_false (fun h => h3 h.1)]
 rw [hsame,Option.bind_some]
 by_cases h4 : r.No≤(l.length : Int)∧nth l (r.No - 1).toNat = r
 ·rw [if_pos (decide_eq_true h4),if_pos h4]
 rw [if_neg (by simpa using h4),if_neg h4,f1,Option.bind_some]
 by_cases h5 : ef = 0
 case neg => rw [if_pos (by simpa using h5),if_pos h5]
 rw [if_neg (show ¬(ef != 0) = true by simpa using h5),if_neg (show ¬ ef≠0 from fun h => h h5),w2]
 have hno:=(f2.1 h5).no
 by_cases h6 : r.No = (l.length : Int) + 1
 ·have hmx : Tq (b.Zy1.length : Int) (p.Zk1.length : Int) = ((max b.Zy1.length p.Zk1.length : Nat) : Int):=by unfold Tq;split <;> omega
  have hb:=hm.logs
  have hp:=h.railways
  rw [if_pos (by simpa using h6),if_pos h6,hmx,if_pos (by unfold Mk maxLen K6;omega)]
  simp only [Cv,Int.toNat_natCast]
  rw [Ali _ _ (by omega),AmN (by omega),Option.bind_some,if_pos (by unfold Fs maxLen K6;omega)]
  have hlen : (An3 (max b.Zy1.length p.Zk1.length) b.Zy1).length = max b.Zy1.length p.Zk1.length:=by simp [An3];omega
  rw [if_pos (show InR r.Zb (An3 (max b.Zy1.length p.Zk1.length) b.Zy1).length by
   rw [hlen]
   have r1:=hs.rail.1
   have r2:=hs.rail.2
   exact ⟨r1,by omega⟩)]
  unfold AtW
  rw [hl]
 ·rw [if_neg (by simpa using h6),if_neg h6,AdF _ _ (by have:=hm.forks;omega),Option.bind_some]
  unfold Ap6
  have hk : (r.No - 1).toNat < l.length:=by omega
  by_cases h7 : b.Zz1.any (Oy r) = true
  ·rw [if_neg (by simpa using h7),if_pos h7];rfl
  ·rw [if_pos (by simpa using h7),if_neg h7,AlN (by have:=hm.forks;omega),Option.bind_some,w1,if_pos (show InR (r.No - 1) l.length from ⟨by omega,by omega⟩),if_pos (by have:=hm.forks;unfold Fs maxLen K6;omega)]
   simp only [Cv,Option.bind_some]
   rw [hl]
set_option maxRecDepth 100000
def exQ : Api_Pool:=r14_Example.getD default
def Ape : Api_Item:={ Za:=8,Ref:={ Zb:=0,No:=0 },Zn1:=0,Zb1:=0,Zc:=0,Zo1:=0,Zw:=3,To:=0,Code:=1,Zp1:=0,Zq1:=0,Zr1:=0,Zs1:=0,Zt1:=[],Zu1:=[] }
def AsM : Api_Item:={ Za:=8,Ref:={ Zb:=0,No:=0 },Zn1:=0,Zb1:=0,Zc:=0,Zo1:=0,Zw:=3,To:=0,Code:=2,Zp1:=0,Zq1:=0,Zr1:=0,Zs1:=0,Zt1:=[],Zu1:=[] }
def AsI : Api_Item:={ Za:=14,Ref:={ Zb:=0,No:=1 },Zn1:=0,Zb1:=0,Zc:=0,Zo1:=0,Zw:=0,To:=0,Code:=0,Zp1:=0,Zq1:=0,Zr1:=0,Zs1:=0,Zt1:=[],Zu1:=[] }
def bk0 : Api_Books:={ Zy1:=[],Zz1:=[] }
def Alo : Api_Record:={ Zb:=0,No:=1,Zv1:=⟨[(0 : UInt8),(0 : UInt8),(0 : UInt8),(0 : UInt8),(0 : UInt8),(0 : UInt8),(0 : UInt8),(0 : UInt8),(0 : UInt8),(0 : UInt8),(0 : UInt8),(0 : UInt8),(0 : UInt8),(0 : UInt8),(0 : UInt8),(0 : UInt8),(0 : UInt8),(0 : UInt8),(0 : UInt8),(0 : UInt8),(0 : UInt8),(0 : UInt8),(0 : UInt8),(0 : UInt8),(0 : UInt8),(0 : UInt8),(0 : UInt8),(0 : UInt8),(0 : UInt8),(0 : UInt8),(0 : UInt8),(0 : UInt8)],rfl⟩,Zw1:=5,Zx1:=Ape,Sig:={ C:=132576837295297174,S:=235879338771529970 } }
def AsW : Api_Record:={ Zb:=0,No:=1,Zv1:=⟨[(0 : UInt8),(0 : UInt8),(0 : UInt8),(0 : UInt8),(0 : UInt8),(0 : UInt8),(0 : UInt8),(0 : UInt8),(0 : UInt8),(0 : UInt8),(0 : UInt8),(0 : UInt8),(0 : UInt8),(0 : UInt8),(0 : UInt8),(0 : UInt8),(0 : UInt8),(0 : UInt8),(0 : UInt8),(0 : UInt8),(0 : UInt8),(0 : UInt8),(0 : UInt8),(0 : UInt8),(0 : UInt8),(0 : UInt8),(0 : UInt8),(0 : UInt8),(0 : UInt8),(0 : UInt8),(0 : UInt8),(0 : UInt8)],rfl⟩,Zw1:=5,Zx1:=AsM,Sig:={ C:=1010642900596539425,S:=208674642754336471 } }
def Asz : Api_Record:={ Zb:=0,No:=2,Zv1:=⟨[(20 : UInt8),(74 : UInt8),(221 : UInt8),(126 : UInt8),(247 : UInt8),(131 : UInt8),(164 : UInt8),(99 : UInt8),(193 : UInt8),(192 : UInt8),(56 : UInt8),(34 : UInt8),(114 : UInt8),(40 : UInt8),(146 : UInt8),(82 : UInt8),(204 : UInt8),(54 : UInt8),(168 : UInt8),(83 : UInt8),(74 : UInt8),(158 : UInt8),(104 : UInt8),(72 : UInt8),(195 : UInt8),(63 : UInt8),(51 : UInt8),(126 : UInt8),(164 : UInt8),(162 : UInt8),(16 : UInt8),(232 : UInt8)],rfl⟩,Zw1:=6,Zx1:=AsI,Sig:={ C:=531156149537135704,S:=378193558781781181 } }
def Aui : Api_Record:={ Zb:=0,No:=0,Zv1:=(Arr.rep 32 (0 : UInt8)),Zw1:=0,Zx1:={ Za:=0,Ref:={ Zb:=0,No:=0 },Zn1:=0,Zb1:=0,Zc:=0,Zo1:=0,Zw:=0,To:=0,Code:=0,Zp1:=0,Zq1:=0,Zr1:=0,Zs1:=0,Zt1:=([] : List UInt8),Zu1:=[] },Sig:={ C:=(0 : UInt64),S:=(0 : UInt64) } }
def bk1 : Api_Books:={ Zy1:=[[Alo],[]],Zz1:=[] }
def bk2 : Api_Books:={ Zy1:=[[Alo],[]],Zz1:=[{ A:=Alo,B:=AsW }] }
def bk3 : Api_Books:={ Zy1:=[[Alo,Asz],[]],Zz1:=[] }
theorem AlY {p : Api_Pool} {d1 d2 : Api_Item} {R S T Z1 Z2 Z3 : Api_Record} {b1 b2 b3 : Api_Books} {l1 l2 l3 : List Api_Report} (hp : r14_Example = some p) (h1 : D5 1 = some d1) (h2 : D5 2 = some d2)
  (n1 : Cl p { Zy1:=[],Zz1:=[] } 0 7 5 d1 = some (R,0)) (a1 : Bq p { Zy1:=[],Zz1:=[] } R = some (b1,0)) (a2 : Bq p b1 R = some (b1,0)) (n2 : Cl p b1 0 7 4 d1 = some (Z1,140))
  (n3 : Cl p { Zy1:=[],Zz1:=[] } 0 7 5 d2 = some (S,0)) (a3 : Bq p b1 S = some (b2,0)) (n4 : Cl p { Zy1:=[],Zz1:=[] } 0 8 5 d1 = some (Z2,30)) (n5 : Cl p b1 0 7 6 { Za:=14,Ref:={ Zb:=0,No:=1 },Zn1:=0,Zb1:=0,Zc:=0,Zo1:=0,Zw:=0,To:=0,Code:=0,Zp1:=0,Zq1:=0,Zr1:=0,Zs1:=0,Zt1:=[],Zu1:=[] } = some (T,0)) (a4 : Bq p b1 T = some (b3,0)) (n6 : Cl p { Zy1:=[],Zz1:=[] } 0 7 5 { Za:=14,Ref:={ Zb:=0,No:=1 },Zn1:=0,Zb1:=0,Zc:=0,Zo1:=0,Zw:=0,To:=0,Code:=0,Zp1:=0,Zq1:=0,Zr1:=0,Zs1:=0,Zt1:=[],Zu1:=[] } = some (Z3,110))
  (c1 : R.No = 1) (c2 : R.Zv1 = ⟨[(0 : UInt8),(0 : UInt8),(0 : UInt8),(0 : UInt8),(0 : UInt8),(0 : UInt8),(0 : UInt8),(0 : UInt8),(0 : UInt8),(0 : UInt8),(0 : UInt8),(0 : UInt8),(0 : UInt8),(0 : UInt8),(0 : UInt8),(0 : UInt8),(0 : UInt8),(0 : UInt8),(0 : UInt8),(0 : UInt8),(0 : UInt8),(0 : UInt8),(0 : UInt8),(0 : UInt8),(0 : UInt8),(0 : UInt8),(0 : UInt8),(0 : UInt8),(0 : UInt8),(0 : UInt8),(0 : UInt8),(0 : UInt8)],rfl⟩) (c3 : b1.Zy1.length = 2) (c4 : (nth b1.Zy1 0).length = 1) (s1 : P1 b1 b1 = some true) (c5 : b2.Zz1.length = 1) (f1 : E4 b2 0 = some 1) (f2 : E4 b1 0 = some 0)
  (r1 : Cr b2 = some l1) (q1 : l1.length = 0) (r2 : Cr b1 = some l2) (q2 : l2.length = 1) (r3 : Cr b3 = some l3) (q3 : l3.length = 0) : law14_sane = some true:=by
 have k0 : InR 0 2:=by decide
 have k1 : ((2 : Nat) : Int) = 2:=rfl
 have k2 : ((1 : Nat) : Int) = 1:=rfl
 have k3 : ((0 : Nat) : Int) = 0:=rfl
 unfold law14_sane
 simp only [hp,h1,h2,Option.bind_some,n1,a1,a2,n2,n3,a3,n4,n5,a4,n6,c1,c2,c3,c4,s1,c5,f1,f2,r1,q1,r2,q2,r3,q3,k1,k2,k3,beq_self_eq_true,if_true,if_pos k0]
theorem e_ex : r14_Example = some exQ:=by kernel_rfl
theorem e_d1 : D5 1 = some Ape:=rfl
theorem e_d2 : D5 2 = some AsM:=rfl
theorem e_n1 : Cl exQ bk0 0 7 5 Ape = some (Alo,0):=by decide +kernel
theorem e_a1 : Bq exQ bk0 Alo = some (bk1,0):=by decide +kernel
theorem e_a2 : Bq exQ bk1 Alo = some (bk1,0):=by decide +kernel
theorem e_n2 : Cl exQ bk1 0 7 4 Ape = some (Aui,140):=by decide +kernel
theorem e_n3 : Cl exQ bk0 0 7 5 AsM = some (AsW,0):=by decide +kernel
theorem e_a3 : Bq exQ bk1 AsW = some (bk2,0):=by decide +kernel
theorem e_n4 : Cl exQ bk0 0 8 5 Ape = some (Aui,30):=by decide +kernel
theorem e_n5 : Cl exQ bk1 0 7 6 AsI = some (Asz,0):=by decide +kernel
theorem e_a4 : Bq exQ bk1 Asz = some (bk3,0):=by decide +kernel
theorem e_n6 : Cl exQ bk0 0 7 5 AsI = some (Aui,110):=by decide +kernel
theorem e_s1 : P1 bk1 bk1 = some true:=by decide +kernel
theorem e_f1 : E4 bk2 0 = some 1:=by decide +kernel
theorem e_f2 : E4 bk1 0 = some 0:=by decide +kernel
theorem e_r1 : (Cr bk2) = some []:=by decide +kernel
theorem e_r2 : (Cr bk1).map List.length = some 1:=by decide +kernel
theorem e_r3 : (Cr bk3) = some []:=by decide +kernel
theorem Amw : law14_sane = some true:=by
  obtain ⟨l,hl,hr⟩ : ∃ l,Cr bk1 = some l∧l.length = 1:=by
    have:=e_r2
    cases h : Cr bk1 with
    | none => rw [h] at this;cases this
    | some l => rw [h] at this;exact ⟨l,rfl,by simpa using this⟩
  exact AlY e_ex e_d1 e_d2 e_n1 e_a1 e_a2 e_n2 e_n3 e_a3 e_n4 e_n5 e_a4 e_n6 rfl rfl rfl rfl e_s1 rfl e_f1 e_f2 e_r1 rfl hl hr e_r3 rfl
set_option maxRecDepth 8000
structure FewP (p : Api_Pool) : Prop where
 few : Few p
 rails : p.Zk1.length≤4
theorem Ajs (p : Api_Pool) : ∃ b,L6 p = some b∧(b = true→FewP p):=by
 obtain ⟨x,hx,hq⟩ : ∃ x,A4 (fun (v : Int) => I4 p v) 0 = some x∧(x = .inr (.inr false)∨(x = .inl ()∧∀ j,j < p.Zk1.length→j < 5→(nth p.Zk1 j).Zf1.Ze1.length≤5)):=by
  refine Ek (fun v => ∃ k : Nat,v = (k : Int)∧k≤5∧k≤p.Zk1.length∧∀ j,j < k→(nth p.Zk1 j).Zf1.Ze1.length≤5) (fun v => (5 - v).toNat) _ ?_ ⟨0,rfl,by omega,by omega,fun j hj => by omega⟩ (by simp)
  rintro v ⟨k,rfl,h1,h2,h3⟩
  unfold I4
  simp only [AoW,Nu]
  by_cases hk : k < p.Zk1.length∧k < 5
  ·rw [if_pos (by simp;omega),if_pos (D6 hk.1)]
   simp only [Cv,Int.toNat_natCast,Fq (k:=k) (by omega)]
   by_cases hd : (nth p.Zk1 k).Zf1.Ze1.length≤5
   ·left
    rw [if_neg (by simp;omega)]
    refine ⟨_,rfl,⟨k + 1,rfl,by omega,by omega,fun j hj => ?_⟩,by omega⟩
    by_cases e : j = k
    ·subst e;exact hd
    ·exact h3 j (by omega)
   ·right
    rw [if_pos (by simp;omega)]
    exact ⟨_,rfl,.inl rfl⟩
  ·right
   rw [if_neg (by simp;omega)]
   exact ⟨_,rfl,.inr ⟨rfl,fun j hj hj2 => h3 j (by omega)⟩⟩
 unfold L6
 rw [hx]
 rcases hq with rfl | ⟨rfl,hall⟩
 ·exact ⟨false,rfl,fun e => by cases e⟩
 ·simp only [Nu,AoW]
  refine ⟨_,rfl,fun e => ?_⟩
  simp only [Bool.and_eq_true,decide_eq_true_eq] at e
  obtain ⟨⟨a1,a2⟩,⟨b1,b2,b3,b4⟩,c1,c2,c3⟩:=e
  exact ⟨⟨by omega,by omega,by omega,by omega,by omega,by omega,by omega,by omega,by omega,fun k hk => by have:=hall k hk (by omega);omega⟩,by omega⟩
theorem Akj {α : Type} {p : Api_Pool} {b : Api_Books} {it : Api_Item} {X : Option Bool} (hX : FewP p→Short b→Small it→X = some true) :
  (((L6 p).bind fun y => if (!y) = true then some true else (Im b).bind fun y => if (!y) = true then some true else (E2 it).bind fun y => some (!y) : Option Bool).bind fun t => if t = true then some true else X) = some true:=by
 obtain ⟨f,hf,hq⟩:=Ajs p
 rw [hf,Option.bind_some]
 cases f
 ·rfl
 rw [if_neg (by simp),AiY,Option.bind_some]
 by_cases hs : Qb b = true
 case neg => rw [if_pos (by simpa using hs)];rfl
 rw [if_neg (by simpa using hs),AaN,Option.bind_some,Option.bind_some]
 by_cases hi : Ks it = true
 case neg => rw [if_pos (by simpa using hi)]
 rw [if_neg (by simpa using hi)]
 exact hX (hq rfl) (AkR hs) (Tl hi)
theorem Ai5 {it : Api_Item} (h : Small it) : it.Zu1.length≤1000000:=by have:=h.parts;omega
theorem Ail {r : Api_Record} (h : Small r.Zx1) {d : Arr UInt8 32} (hd : Ec r = some (d,0)) : ∃ m,Gf r = some (m,0)∧Dc [114,101,99,111,114,100] m = some d:=by
 obtain ⟨d',h1,h2,h3⟩:=We h
 rw [hd] at h1
 cases h1
 have h0 : (Kc.Enc (AeD r)).2 = 0:=by
  by_cases he : (Kc.Enc (AeD r)).2 = 0
  ·exact he
  ·exact (h2 he).symm
 obtain ⟨_,h4⟩:=h3 h0
 exact ⟨(Kc.Enc (AeD r)).1,by rw [X6 h,← h0],h4⟩
theorem AaM {p : Api_Pool} {b : Api_Books} {r : Api_Record} {es ef : Int} (h0 : es = 0) (h : (M7 p b r es ef).2 = 0) : (r.No≤((logV b r.Zb).length : Int)∧nth (logV b r.Zb) (r.No - 1).toNat = r)∨ef = 0:=by
 unfold M7 at h
 rw [if_neg (fun h => h h0)] at h
 split at h
 ·exact .inl (by assumption)
 ·split at h
  ·exact .inr (by assumption |> fun h' => absurd h h')
  ·exact .inr (by rename_i h';exact Decidable.not_not.1 h')
theorem Xh {p : Api_Pool} {b : Api_Books} {r : Api_Record} {es ef : Int} (h : (M7 p b r es ef).2 = 0) : es = 0:=by
 unfold M7 at h
 split at h
 ·exact h
 ·rename_i h';exact Decidable.not_not.1 h'
theorem AaS (p : Api_Pool) (b : Api_Books) (r : Api_Record) : Gg p b r = some true:=by
 unfold Gg
 rw [Amw,Option.bind_some,if_neg (by simp)]
 refine Akj (α:=Unit) fun hp hb hr => ?_
 obtain ⟨es,ef,h1,h2,h3⟩:=AhB hp.few hb.mid (by omega) hr
 rw [Aoz,Option.bind_some,h3,Option.bind_some]
 by_cases he : (M7 p b r es ef).2 = 0
 case neg => rw [if_pos (by simpa using he)];rfl
 rw [if_neg (by simpa using he)]
 by_cases hn : r.No < 2
 ·rw [if_pos (decide_eq_true hn)];rfl
 rw [if_neg (by simpa using hn)]
 have hes:=Xh he
 obtain ⟨hs,hf⟩:=h2 hes
 obtain ⟨l1,l2⟩:=hb.mid.logV r.Zb
 generalize hl : logV b r.Zb = l at *
 have w1 : w64 (r.No - 1) = r.No - 1:=C4 (by have:=hs.no;omega)
 have w2 : w64 (r.No - 2) = r.No - 2:=C4 (by have:=hs.no;omega)
 have hsame : (if (decide (r.No≤(l.length : Int))) = true then if InR ((w64 (r.No - 1))) l.length then (Dd (nth l (((w64 (r.No - 1))).toNat)) r).bind fun y => some y else none else some false : Option Bool) = some (decide (r.No≤(l.length : Int)∧nth l (r.No - 1).toNat = r)):=by
  by_cases h3 : r.No≤(l.length : Int)
  ·have hk : (r.No - 1).toNat < l.length:=by omega
   rw [if_pos (decide_eq_true h3),w1,if_pos (show InR (r.No - 1) l.length from ⟨by omega,by omega⟩),Ajy (Ai5 (l2 _ (J3 hk))),Option.bind_some]
   congr 1
   simp [h3]
  ·rw [if_neg (by simpa using h3),decide_eq_false (fun h => h3 h.1)]
 rw [hsame,Option.bind_some]
 by_cases h4 : r.No≤(l.length : Int)∧nth l (r.No - 1).toNat = r
 ·rw [if_pos (decide_eq_true h4)]
 rw [if_neg (by simpa using h4),w2]
 have hef : ef = 0:=by
  rcases AaM hes he with h5 | h5
  ·rw [hl] at h5;exact absurd h5 h4
  ·exact h5
 have hfo:=hf.1 hef
 have hno:=hfo.no
 obtain ⟨q1,q2⟩:=hfo.prev (by omega)
 have hk : (r.No - 2).toNat < l.length:=by omega
 rw [if_neg (by simp;omega),if_pos (show InR (r.No - 2) l.length from ⟨by omega,by omega⟩)]
 simp only [Cv]
 obtain ⟨m,e1,e2⟩:=Ail (l2 _ (J3 hk)) q1
 rw [show Ec _ = some (r.Zv1,0) from q1,Option.bind_some,show Gf _ = some (m,0) from e1,Option.bind_some,if_pos (by rfl),if_pos (by rfl),if_pos (by simp),e2,Option.bind_some,if_pos (by simp),Option.bind_some]
 rw [decide_eq_true (by omega)]
set_option maxHeartbeats 1000000
structure NextOk (p : Api_Pool) (b : Api_Books) (rw : Int) (tm : Int) (it : Api_Item) (r : Api_Record) : Prop where
 rail : r.Zb = rw
 rng : 0≤rw∧rw < (p.Zk1.length : Int)
 no : r.No = ((logV b rw).length : Int) + 1
 time : r.Zw1 = tm
 item : r.Zx1 = it
 single0 : G8 p r = some 0
 single : SingleOk p r
 foll : FollowsOk (logV b rw) r
 acc : Bq p b r = some (AtW p b r,0)
set_option maxRecDepth 4000
def Aor (r : Api_Record) : Bool:=!((r.Zx1.Ref.Zb == 0) && (r.Zx1.Ref.No == 0))
def Asv (r : Api_Record) (i k : Int) : Api_Report:={ Ref:=r.Zx1.Ref,By:={ Zb:=i,No:=k },Zw1:=r.Zw1,Zx1:=r.Zx1 }
def bare (it : Api_Item) : Api_Item:={ it with Ref:={ Zb:=0,No:=0 } }
def AtS (o : Option Api_Report) (i k : Int) (r : Api_Record) : Option Api_Report :=
 if Aor r = true then none else match o with
 | none => some { Ref:={ Zb:=i,No:=k },By:={ Zb:=i,No:=k },Zw1:=r.Zw1,Zx1:=bare r.Zx1 }
 | some p => if (p.Zx1.Za == 14) = true then none else some { p with Zx1:=bare p.Zx1 }
def Ala (row : List Api_Record) (i n : Int) : Nat→Option Api_Report
 | 0 => none
 | k + 1 => if (nth row k).Zx1.Ref = { Zb:=i,No:=n } then some (Asv (nth row k) i ((k + 1 : Nat) : Int)) else Ala row i n k
def rep (row : List Api_Record) (i : Nat) (k : Nat) : Option Api_Report:=AtS (Ala row (i : Int) ((k + 1 : Nat) : Int) row.length) (i : Int) ((k + 1 : Nat) : Int) (nth row k)
structure SB (b : Api_Books) : Prop where
 logs : b.Zy1.length≤4
 forks : b.Zz1.length≤6
 row : ∀ l ∈ b.Zy1,l.length≤12
 ref : ∀ l ∈ b.Zy1,∀ r ∈ l,I64 r.Zx1.Ref.Zb∧I64 r.Zx1.Ref.No
 parts : ∀ l ∈ b.Zy1,∀ r ∈ l,r.Zx1.Zu1.length≤20
 fno : ∀ f ∈ b.Zz1,I64 f.A.No
structure BookInts (b : Api_Books) : Prop where
 ref : ∀ l ∈ b.Zy1,∀ r ∈ l,I64 r.Zx1.Ref.Zb∧I64 r.Zx1.Ref.No
 fno : ∀ f ∈ b.Zz1,I64 f.A.No
end Go.Proofs.YtioapcamanmoiaaDoor
