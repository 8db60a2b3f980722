/-
  Part 44.
-/
import Derived.Test.YtioapcamanmoiaaDoorRows
import Derived.Test.YtioapcamanmoiaaDoorYX326
import Derived.Test.YtioapcamanmoiaaDoorYX329
import Derived.Test.YtioapcamanmoiaaDoorYX339
import Derived.Test.YtioapcamanmoiaaDoorYX343
import Derived.WalkKit
import Derived.ProofKit
import Derived.OpenShut
import Derived.JoinedCond
import Derived.LaidMore
import Derived.Lay
import Derived.SevenTiedAt
import Derived.Stop.Joined
import Derived.Lib.Tables
import Derived.KernelRfl
namespace Go.Proofs.YtioapcamanmoiaaDoor
open Go.Rv
set_option linter.unusedVariables false
set_option linter.unusedSimpArgs false
set_option maxRecDepth 4000
theorem Cv {α β : Type} (x : α) (f : α→Option β) : lt1 x f = f x:=of_eq_true (eq_self (f x))
theorem Ff {k : Nat} (h : k < 9223372036854775807) : w64 ((k : Int) + 1) = ((k + 1 : Nat) : Int):=by rw [Cy (by omega)];rfl
theorem Ans (b c : Bool) : (if b = true then some true else some c) = some (b || c):=by cases b <;> rfl
theorem Ap7 (b c : Bool) : (if b = true then some c else some false) = some (b && c):=by cases b <;> rfl
theorem Nw {α β : Type} (x : α) (f : α→Option β) : (some x).bind f = f x:=of_eq_true (eq_self (f x))
theorem AaL {α X : Type} [Inhabited α] (l : List α) (f : Int→Option (Int ⊕ X)) (p : α→Bool) (good bad : X) (hl : l.length < 1152921504606846976)
  (hs : ∀ k : Nat,k < l.length→f (k : Int) = some (if p (nth l k) = true then .inl ((k + 1 : Nat) : Int) else .inr bad)) (he : f (l.length : Int) = some (.inr good)) :
  A6 (fun v => f v) 0 = some (if l.all p = true then good else bad):=by
 obtain ⟨x,hx,hq⟩ : ∃ x,A6 (fun v => f v) 0 = some x∧x = (if l.all p = true then good else bad):=by
  refine Ej (fun v => ∃ k : Nat,v = (k : Int)∧k≤l.length∧(l.take k).all p = true) (fun v => (l.length - v).toNat) _ ?_ ⟨0,rfl,Nat.zero_le _,rfl⟩ (by simp;omega)
  rintro v ⟨k,rfl,hk,ht⟩
  by_cases h1 : k < l.length
  ·have hn : nth l k = l[k]:=by simp [nth,h1]
   rw [hs k h1]
   by_cases hp : p (nth l k) = true
   ·left
    refine ⟨_,by rw [if_pos hp],⟨k + 1,rfl,by omega,?_⟩,by omega⟩
    rw [List.take_succ_eq_append_getElem h1,List.all_append,ht,← hn]
    simp [hp]
   ·right
    refine ⟨_,by rw [if_neg hp],?_⟩
    rw [if_neg]
    intro ha
    rw [List.all_eq_true] at ha
    exact hp (by rw [hn];exact ha _ (List.getElem_mem h1))
  ·right
   have : k = l.length:=by omega
   subst this
   rw [List.take_length] at ht
   exact ⟨_,he,by rw [if_pos ht]⟩
 rw [hx,hq]
theorem AkM {V X S : Type} (n : Nat) (f : V→Option (V ⊕ X)) (st : Int→S→V) (F : Nat→S) (out : S→X) (hn : n < 1152921504606846976)
  (hs : ∀ k : Nat,k < n→f (st (k : Int) (F k)) = some (.inl (st ((k + 1 : Nat) : Int) (F (k + 1))))) (he : f (st (n : Int) (F n)) = some (.inr (out (F n)))) :
  A6 f (st 0 (F 0)) = some (out (F n)):=by
 obtain ⟨x,hx,hq⟩ : ∃ x,A6 f (st 0 (F 0)) = some x∧x = out (F n):=by
  refine Kh n (fun k v => v = st (k : Int) (F k)) _ (by omega) ?_ ?_ rfl
  ·rintro k v hk rfl
   exact ⟨_,hs k hk,rfl⟩
  ·rintro v rfl
   exact ⟨_,he,rfl⟩
 rw [hx,hq]
theorem AdN {α : Type} [Inhabited α] [DecidableEq α] (a b : List α) (f : Int→Option (Int ⊕ (Unit ⊕ (Unit ⊕ Bool)))) (hl : a.length = b.length) (hb : a.length < 1152921504606846976)
  (hs : ∀ k : Nat,k < a.length→f (k : Int) = some (if nth a k = nth b k then .inl ((k + 1 : Nat) : Int) else .inr (.inr (.inr false)))) (he : f (a.length : Int) = some (.inr (.inl ()))) :
  A6 (fun v => f v) 0 = some (if a = b then .inl () else .inr (.inr false)):=by
 obtain ⟨x,hx,hq⟩ : ∃ x,A6 (fun v => f v) 0 = some x∧x = (if a = b then .inl () else .inr (.inr false)):=by
  refine Ej (fun v => ∃ k : Nat,v = (k : Int)∧k≤a.length∧a.take k = b.take k) (fun v => (a.length - v).toNat) _ ?_ ⟨0,rfl,Nat.zero_le _,rfl⟩ (by simp;omega)
  rintro v ⟨k,rfl,hk,ht⟩
  by_cases h1 : k < a.length
  ·have h2 : k < b.length:=by omega
   rw [hs k h1]
   have ea : a.take (k + 1) = a.take k ++ [nth a k]:=by rw [List.take_add_one,List.getElem?_eq_getElem h1];simp [nth,List.getElem?_eq_getElem h1]
   have eb : b.take (k + 1) = b.take k ++ [nth b k]:=by rw [List.take_add_one,List.getElem?_eq_getElem h2];simp [nth,List.getElem?_eq_getElem h2]
   by_cases hk' : nth a k = nth b k
   ·left
    exact ⟨_,by rw [if_pos hk'],⟨k + 1,rfl,by omega,by rw [ea,eb,ht,hk']⟩,by omega⟩
   ·right
    refine ⟨_,by rw [if_neg hk'],?_⟩
    rw [if_neg (fun h => hk' (by rw [h]))]
  ·right
   have : k = a.length:=by omega
   subst this
   refine ⟨_,he,?_⟩
   rw [List.take_length,List.take_of_length_le (by omega)] at ht
   rw [if_pos ht]
 rw [hx,hq]
theorem Aml (x y : Api_Part) : (!((x.Za == y.Za) && ((x.Zl1 == y.Zl1) && (x.Zm1 == y.Zm1)))) = decide (x≠y):=by
 by_cases h : x = y
 ·subst h;simp
 ·rw [decide_eq_true h]
  rcases x with ⟨a,b,c⟩
  rcases y with ⟨d,e,f⟩
  simp only [Api_Part.mk.injEq,not_and] at h
  simp only [Bool.not_eq_true',Bool.and_eq_false_iff,beq_eq_false_iff_ne,ne_eq]
  by_cases h1 : a = d
  ·by_cases h2 : b = e
   ·exact .inr (.inr (by simpa using h h1 h2))
   ·exact .inr (.inl h2)
  ·exact .inl h1
theorem Agy {a b : List Api_Part} (ha : a.length≤1000000) : H4 a b = some (decide (a = b)):=by
 unfold H4
 by_cases hl : a.length = b.length
 ·rw [if_neg (by simp [hl]),AdN a b (fun v => Eh a b v) hl (by omega) ?_ ?_]
  ·by_cases h : a = b <;> simp [h]
  ·intro k hk
   unfold Eh
   rw [if_pos (decide_eq_true (by omega)),if_pos (Ds hk),if_pos (Ds (by omega))]
   simp only [Cv,Int.toNat_natCast,Aml]
   by_cases he : nth a k = nth b k
   ·rw [if_neg (by simp [he]),if_pos he,Ff (by omega)]
   ·rw [if_pos (by simp [he]),if_neg he];rfl
  ·unfold Eh
   rw [if_neg (by simp)]
 ·rw [if_pos (by simp;omega),decide_eq_false (fun h => hl (by rw [h]))]
def Vl (it : Api_Item) : List Int:=[it.Zn1,it.Zb1,it.Zc,it.Zo1,it.Zw,it.To,it.Code,it.Zp1,it.Zq1,it.Zr1,it.Zs1]
theorem Ae5 (it : Api_Item) : ∀ {k : Nat},k < 11→Nv it (nth [119,112,111,110,102,116,99,100,107,103,97] k) = some (nth (Vl it) k)
  | 0,_ => rfl
  | 1,_ => rfl
  | 2,_ => rfl
  | 3,_ => rfl
  | 4,_ => rfl
  | 5,_ => rfl
  | 6,_ => rfl
  | 7,_ => rfl
  | 8,_ => rfl
  | 9,_ => rfl
  | 10,_ => rfl
  | k + 11,h => by omega
theorem AjI {a b : Api_Item} (h : Vl a = Vl b) (hk : a.Za = b.Za) (hr1 : a.Ref.Zb = b.Ref.Zb) (hr2 : a.Ref.No = b.Ref.No) (ht : a.Zt1 = b.Zt1) (hp : a.Zu1 = b.Zu1) : a = b:=by
 rcases a with ⟨k,⟨r,n⟩,a1,a2,a3,a4,a5,a6,a7,a8,a9,a10,a11,t,p⟩
 rcases b with ⟨k',⟨r',n'⟩,b1,b2,b3,b4,b5,b6,b7,b8,b9,b10,b11,t',p'⟩
 simp only [Vl,List.cons.injEq,and_true] at h
 obtain ⟨rfl,rfl,rfl,rfl,rfl,rfl,rfl,rfl,rfl,rfl,rfl⟩:=h
 simp only at hk hr1 hr2 ht hp
 subst hk hr1 hr2 ht hp
 rfl
theorem Ag5 {a b : Api_Item} (ha : a.Zu1.length≤1000000) : Qc a b = some (decide (a = b)):=by
 unfold Qc
 have l11 : ∀ it : Api_Item,(Vl it).length = 11:=fun _ => rfl
 rw [AdN (Vl a) (Vl b) (fun v => Il a b v) rfl (by rw [l11];omega) ?_ ?_]
 ·by_cases hn : Vl a = Vl b
  ·simp only [if_pos hn,Option.bind_some]
   by_cases h1 : a.Za = b.Za
   ·by_cases h2 : a.Ref.Zb = b.Ref.Zb
    ·by_cases h3 : a.Ref.No = b.Ref.No
     ·by_cases h4 : a.Zt1 = b.Zt1
      ·rw [if_pos (by simpa using h1),if_pos (by simp [h2,h3]),if_pos (by simpa using h4),Agy ha]
       by_cases h5 : a.Zu1 = b.Zu1
       ·rw [decide_eq_true h5,decide_eq_true (AjI hn h1 h2 h3 h4 h5)];rfl
       ·rw [decide_eq_false h5,decide_eq_false (fun h => h5 (by rw [h]))];rfl
      ·rw [if_pos (by simpa using h1),if_pos (by simp [h2,h3]),if_neg (by simpa using h4),decide_eq_false (fun h => h4 (by rw [h]))];rfl
     ·rw [if_pos (by simpa using h1),if_neg (by simp [h3]),decide_eq_false (fun h => h3 (by rw [h]))];rfl
    ·rw [if_pos (by simpa using h1),if_neg (by simp [h2]),decide_eq_false (fun h => h2 (by rw [h]))];rfl
   ·rw [if_neg (by simpa using h1),decide_eq_false (fun h => h1 (by rw [h]))];rfl
  ·rw [decide_eq_false (fun h => hn (by rw [h])),if_neg hn];rfl
 ·intro k hk
  rw [l11] at hk
  unfold Il
  have hin : InR (k : Int) ([119,112,111,110,102,116,99,100,107,103,97] : List UInt8).length:=⟨by omega,by simpa using hk⟩
  rw [if_pos (decide_eq_true (by omega)),if_pos hin]
  simp only [Int.toNat_natCast]
  rw [Ae5 a hk,Option.bind_some,if_pos hin,Ae5 b hk,Option.bind_some]
  by_cases he : nth (Vl a) k = nth (Vl b) k
  ·rw [if_neg (by simp [he]),if_pos he,Ff (by omega)]
  ·rw [if_pos (by simpa using he),if_neg he];rfl
 ·unfold Il
  rw [l11,if_neg (by simp)]
theorem Aix {a b : Api_Record} (h1 : a.Zb = b.Zb) (h2 : a.No = b.No) (h3 : a.Zv1 = b.Zv1) (h4 : a.Zw1 = b.Zw1) (h5 : a.Sig.C = b.Sig.C) (h6 : a.Sig.S = b.Sig.S) (h7 : a.Zx1 = b.Zx1) : a = b:=by
 rcases a with ⟨a1,a2,a3,a4,a5,c,s⟩
 rcases b with ⟨b1,b2,b3,b4,b5,c',s'⟩
 simp only at h1 h2 h3 h4 h5 h6 h7
 subst h1 h2 h3 h4 h5 h6 h7
 rfl
theorem Afe {a b : Api_Record} (ha : a.Zx1.Zu1.length≤1000000) : D9 a b = some (decide (a = b)):=by
 unfold D9
 by_cases h1 : a.Zb = b.Zb
 case neg => rw [if_neg (by simpa using h1),decide_eq_false (fun h => h1 (by rw [h]))];rfl
 by_cases h2 : a.No = b.No
 case neg => rw [if_pos (by simpa using h1),if_neg (by simpa using h2),decide_eq_false (fun h => h2 (by rw [h]))];rfl
 by_cases h3 : a.Zv1 = b.Zv1
 case neg => rw [if_pos (by simpa using h1),if_pos (by simpa using h2),if_neg (by simpa using h3),decide_eq_false (fun h => h3 (by rw [h]))];rfl
 by_cases h4 : a.Zw1 = b.Zw1
 case neg => rw [if_pos (by simpa using h1),if_pos (by simpa using h2),if_pos (by simpa using h3),if_neg (by simpa using h4),decide_eq_false (fun h => h4 (by rw [h]))];rfl
 by_cases h5 : a.Sig.C = b.Sig.C
 case neg => rw [if_pos (by simpa using h1),if_pos (by simpa using h2),if_pos (by simpa using h3),if_pos (by simpa using h4),if_neg (by simp [h5]),decide_eq_false (fun h => h5 (by rw [h]))];rfl
 by_cases h6 : a.Sig.S = b.Sig.S
 case neg => rw [if_pos (by simpa using h1),if_pos (by simpa using h2),if_pos (by simpa using h3),if_pos (by simpa using h4),if_neg (by simp [h6]),decide_eq_false (fun h => h6 (by rw [h]))];rfl
 rw [if_pos (by simpa using h1),if_pos (by simpa using h2),if_pos (by simpa using h3),if_pos (by simpa using h4),if_pos (by simp [h5,h6]),Ag5 ha]
 by_cases h7 : a.Zx1 = b.Zx1
 ·rw [decide_eq_true h7,decide_eq_true (Aix h1 h2 h3 h4 h5 h6 h7)];rfl
 ·rw [decide_eq_false h7,decide_eq_false (fun h => h7 (by rw [h]))];rfl
theorem Kn {α : Type} [Inhabited α] {l : List α} {k : Nat} (h : k < l.length) : nth l k ∈ l:=by
 simp [nth,List.getElem?_eq_getElem h]
def Ajp (l : List Api_Record) : Prop:=∀ r ∈ l,r.Zx1.Zu1.length≤1000000
theorem Ajq {a b : List Api_Record} (ha : a.length≤1000000) (hp : Ajp a) : Ip a b = some (decide (a = b)):=by
 unfold Ip
 by_cases hl : a.length = b.length
 ·rw [if_neg (by simp [hl]),AdN a b (fun v => Fq a b v) hl (by omega) ?_ ?_]
  ·by_cases h : a = b <;> simp [h]
  ·intro k hk
   unfold Fq
   rw [if_pos (decide_eq_true (by omega)),if_pos (Ds hk),if_pos (Ds (by omega))]
   simp only [Int.toNat_natCast]
   rw [Afe (hp _ (Kn hk)),Option.bind_some]
   by_cases he : nth a k = nth b k
   ·rw [if_neg (by simp [he]),if_pos he,Ff (by omega)]
   ·rw [if_pos (by simp [he]),if_neg he];rfl
  ·unfold Fq
   rw [if_neg (by simp)]
 ·rw [if_pos (by simp;omega),decide_eq_false (fun h => hl (by rw [h]))]
def Kw (it : Api_Item) : Bool:=decide (it.Zt1.length≤1000) && decide (it.Zu1.length≤20)
theorem Aau (it : Api_Item) : E5 it = some (Kw it):=by
 unfold E5 Kw
 have e1 : decide ((it.Zt1.length : Int)≤1000) = decide (it.Zt1.length≤1000):=by simp;omega
 have e2 : decide ((it.Zu1.length : Int)≤20) = decide (it.Zu1.length≤20):=by simp;omega
 rw [e1,e2]
 by_cases h : it.Zt1.length≤1000 <;> simp [h]
structure Small (it : Api_Item) : Prop where
 text : it.Zt1.length≤1000
 parts : it.Zu1.length≤20
theorem Uo {it : Api_Item} (h : Kw it = true) : Small it:=by
 simp only [Kw,Bool.and_eq_true,decide_eq_true_eq] at h
 exact ⟨h.1,h.2⟩
def Alk (l : List Api_Record) : Bool:=decide (l.length≤12) && l.all fun r => Kw r.Zx1
def AcD (f : Api_Fork) : Bool:=Kw f.A.Zx1 && Kw f.B.Zx1
def Qi (b : Api_Books) : Bool:=decide (b.Zy1.length≤4) && decide (b.Zz1.length≤6) && b.Zy1.all Alk && b.Zz1.all AcD
theorem Ak3 (b : Api_Books) {i : Nat} (hi : i < b.Zy1.length) (hr : (nth b.Zy1 i).length≤12) :
  A6 (fun (v : Int) => Ep b (i : Int) v) 0 = some (if (nth b.Zy1 i).all (fun r => Kw r.Zx1) = true then .inl () else .inr (.inr (.inr (.inr (.inr false))))):=by
 refine AaL (nth b.Zy1 i) (fun v => Ep b (i : Int) v) (fun r => Kw r.Zx1) _ _ (by omega) (fun k hk => ?_) ?_
 ·unfold Ep
  simp only [if_pos (Ds hi),Cv,Int.toNat_natCast,if_pos (Ds hk),Aau,Option.bind_some]
  rw [if_pos (decide_eq_true (by omega))]
  by_cases h : Kw (nth (nth b.Zy1 i) k).Zx1 = true
  ·rw [if_neg (by simp [h]),if_pos h,Ff (by omega)]
  ·rw [if_pos (by simpa using h),if_neg h]
 ·unfold Ep
  simp only [if_pos (Ds hi),Cv,Int.toNat_natCast]
  rw [if_neg (by simp)]
theorem AjA (b : Api_Books) : Ir b = some (Qi b):=by
 unfold Ir
 by_cases h1 : b.Zy1.length≤4
 case neg => rw [if_pos (by simp;omega)];simp [Qi,h1]
 by_cases h2 : b.Zz1.length≤6
 case neg => rw [if_neg (by simp;omega)];simp only [Nw];rw [if_pos (by simp;omega)];simp [Qi,h2]
 rw [if_neg (by simp;omega)]
 simp only [Nw]
 rw [if_neg (by simp;omega)]
 rw [AaL b.Zy1 (fun v => Fl b v) Alk (.inl ()) (.inr (.inr false)) (by omega) ?_ ?_]
 ·by_cases h3 : b.Zy1.all Alk = true
  ·rw [if_pos h3]
   simp only [Nw]
   rw [AaL b.Zz1 (fun v => Fv b v) AcD (.inl ()) (.inr (.inr false)) (by omega) ?_ ?_]
   ·by_cases h4 : b.Zz1.all AcD = true
    ·rw [if_pos h4];simp [Qi,h1,h2,h3,h4]
    ·rw [if_neg h4];simp only [Nw];rw [Bool.not_eq_true] at h4;simp [Qi,h4]
   ·intro k hk
    unfold Fv
    rw [if_pos (decide_eq_true (by omega))]
    simp only [if_pos (Ds hk),Int.toNat_natCast,Aau,Nw]
    by_cases h5 : Kw (nth b.Zz1 k).A.Zx1 = true
    ·by_cases h6 : Kw (nth b.Zz1 k).B.Zx1 = true
     ·simp [h5,h6,AcD,Ff (k:=k) (by omega)]
     ·simp [h5,h6,AcD]
    ·simp [h5,AcD]
   ·unfold Fv
    rw [if_neg (by simp)]
  ·rw [if_neg h3];simp only [Nw];rw [Bool.not_eq_true] at h3;simp [Qi,h3]
 ·intro k hk
  unfold Fl
  rw [if_pos (decide_eq_true (by omega))]
  simp only [if_pos (Ds hk),Int.toNat_natCast,Cv]
  by_cases h5 : (nth b.Zy1 k).length≤12
  ·rw [if_neg (by simp;omega),Ak3 b hk h5]
   by_cases h6 : (nth b.Zy1 k).all (fun r => Kw r.Zx1) = true
   ·rw [if_pos h6,if_pos (by simp only [Alk,h5,decide_true,Bool.true_and,h6])]
    simp only [Nw]
    rw [Ff (by omega)]
   ·rw [if_neg h6,if_neg (by simp only [Alk,h5,decide_true,Bool.true_and];exact h6)]
    rfl
  ·rw [if_pos (by simp;omega),if_neg (by simp [Alk,h5])]
   rfl
 ·unfold Fl
  rw [if_neg (by simp)]
structure Short (b : Api_Books) : Prop where
 logs : b.Zy1.length≤4
 forks : b.Zz1.length≤6
 row : ∀ l ∈ b.Zy1,l.length≤12
 item : ∀ l ∈ b.Zy1,∀ r ∈ l,Small r.Zx1
 fork : ∀ f ∈ b.Zz1,Small f.A.Zx1∧Small f.B.Zx1
theorem AkL {b : Api_Books} (h : Qi b = true) : Short b:=by
 simp only [Qi,Bool.and_eq_true,decide_eq_true_eq,List.all_eq_true] at h
 obtain ⟨⟨⟨h1,h2⟩,h3⟩,h4⟩:=h
 refine ⟨h1,h2,fun l hl => ?_,fun l hl r hr => ?_,fun f hf => ?_⟩
 ·have:=h3 l hl;simp only [Alk,Bool.and_eq_true,decide_eq_true_eq] at this;exact this.1
 ·have:=h3 l hl;simp only [Alk,Bool.and_eq_true,decide_eq_true_eq,List.all_eq_true] at this;exact Uo (this.2 r hr)
 ·have:=h4 f hf;simp only [AcD,Bool.and_eq_true] at this;exact ⟨Uo this.1,Uo this.2⟩
def I64 (x : Int) : Prop:=-9223372036854775808≤x∧x≤9223372036854775807
open Go.Rv Go.ChangeShapes Go.WideShapes Go.ChangeAt Go.RowKit
theorem Aez (H : Type) (l : List (DataW H)) : (l.map (Rows.uptoBulk (H:=H))).sum = Rows.uptoBulkAll l:=by
  induction l with
  | nil => rfl
  | cons x l ih => simp only [List.map_cons,List.sum_cons,ih,Rows.uptoBulkAll]
theorem Bs : BulkOk (fun H => Rows.uptoBulk (H:=H)) where
  one:=fun H d => by
    cases d with
    | lit l => cases l <;> simp [Rows.uptoBulk]
    | _ => simp [Rows.uptoBulk]
  str:=fun H l => by simp [Rows.uptoBulk]
  slice:=fun H e s => by rw [Aez];simp only [Rows.uptoBulk];omega
  agg:=fun H p => by rw [Aez];simp only [Rows.uptoBulk];omega
theorem Af4 {P : Program} {B : ∀ H : Type,DataW H→Nat} {t : TypeId} {α : Type} {c : α→List AV} {sz sz' : α→Nat} {ok ok' : α→Prop} (h : Opens P B t c sz ok) (h1 : ∀ x,sz' x≤sz x) (h2 : ∀ x,ok x→ok' x) : Opens P B t c sz' ok':=by
 intro H enc W pr hpr fuel cs d ps hd
 obtain ⟨x,e1,e2,e3,e4⟩:=h H enc W pr hpr fuel cs d ps hd
 exact ⟨x,e1,Nat.le_trans (h1 x) e2,h2 x e3,e4⟩
theorem AkJ {α : Type} {c : α→List AV} {k : Nat} (hk : ∀ x,(c x).length = k) : ∀ (l : List α) (j : Nat) (y : AV),(l.flatMap c)[j]? = some y→∃ i r x,j = i * k + r∧r < k∧l[i]? = some x∧(c x)[r]? = some y:=by
  intro l
  induction l with
  | nil => intro j y h;simp at h
  | cons a l ih =>
    intro j y h
    rw [List.flatMap_cons] at h
    by_cases hj : j < k
    · rw [List.getElem?_append_left (by rw [hk];exact hj)] at h
      exact ⟨0,j,a,by omega,hj,rfl,h⟩
    · rw [List.getElem?_append_right (by rw [hk];omega),hk] at h
      obtain ⟨i,r,x,e1,e2,e3,e4⟩:=ih _ _ h
      exact ⟨i + 1,r,x,by rw [Nat.add_mul,Nat.one_mul];omega,e2,by simpa using e3,e4⟩
theorem AeO {α : Type} {c : α→List AV} {k : Nat} (hk : ∀ x,(c x).length = k) : ∀ l : List α,(l.flatMap c).length = l.length * k:=by
  intro l
  induction l with
  | nil => simp
  | cons a l ih => rw [List.flatMap_cons,List.length_append,hk,ih,List.length_cons,Nat.add_mul,Nat.one_mul,Nat.add_comm]
theorem AjB {α : Type} {c : α→List AV} {k n : Nat} (hk : ∀ x,(c x).length = k) (a : Arr α n) : (a.l.flatMap c).length = n * k:=by rw [AeO hk,a.h]
theorem Af5 {P : Program} {B : ∀ H : Type,DataW H→Nat} {t e : TypeId} {n k m : Nat} (ht : P.underlying t = some (.array n e)) (hn : P.cellsOf t = m) (h1 : P.cellsOf e = k) {α : Type} {c : α→List AV} {sz : α→Nat} {ok : α→Prop} (hck : ∀ x,(c x).length = k)
    (he : Opens P B e c sz ok) (hm : m = n * k:=by decide) : Opens P B t (fun a : Arr α n => a.l.flatMap c) (fun _ => 0) (fun _ => True):=by
  subst hm
  intro H enc W pr hpr fuel cs d ps h
  cases fuel with
  | zero => cases h
  | succ fuel =>
    unfold DataW.trod at h
    rw [ht] at h
    split at h <;> try (rename_i hh;cases hh;done)
    all_goals try (rename_i hh _;cases hh;done)
    all_goals try (cases h;done)
    all_goals try (exfalso;rename ∀ (n' : Nat) (e' : TypeId),some (TypeDesc.array n e) = some (TypeDesc.array n' e')→False => hh;exact hh _ _ rfl)
    rename_i cs _ _ n' e' hk
    cases hk
    split at h
    case isFalse => cases h
    rename_i hl
    rw [hn] at hl
    rw [Option.map_eq_some_iff] at h
    obtain ⟨xs,hxs,h⟩:=h
    simp only [Prod.mk.injEq] at h
    obtain ⟨rfl,_⟩:=h
    obtain ⟨hlen,hget⟩:=Q8 hxs
    rw [List.length_range] at hlen
    have hex : ∀ i,i < n→∃ x : α,∀ (r : Nat) (y : AV),r < k→(c x)[r]? = some y→Rep W pr [] (cs.getD (i * k + r) undef) y∧one (cs.getD (i * k + r) undef) = true:=by
      intro i hi
      obtain ⟨i',hi',hf⟩:=hget i (xs[i]'(by omega)) (List.getElem?_eq_getElem _)
      rw [List.getElem?_range hi] at hi'
      cases hi'
      rw [h1] at hf
      obtain ⟨x,r1,r2,r3,r4⟩:=he H enc W pr hpr fuel _ _ _ hf
      refine ⟨x,fun r y hr hy => ?_⟩
      have:=r4 r y hy
      have ed : ((cs.drop (i * k)).take k).getD r undef = cs.getD (i * k + r) undef:=by
        simp only [List.getD_eq_getElem?_getD,List.getElem?_take,List.getElem?_drop,hr,if_true]
      rwa [ed] at this
    obtain ⟨l,hll,hl2⟩:=Mz _ n hex
    refine ⟨⟨l,hll⟩,?_,Nat.zero_le _,trivial,fun j y hj => ?_⟩
    · show cs.length = (l.flatMap c).length
      rw [AeO hck,hll,hl]
    · obtain ⟨i,r,x,e1,e2,e3,e4⟩:=AkJ hck l j y hj
      subst e1
      exact hl2 i x e3 r y e2 e4
theorem AcJ : Tryd.prog.cellsOf 40 = 2:=by kernel_rfl
theorem Ac4 : Tryd.prog.cellsOf 37 = 1:=by kernel_rfl
theorem Aed : Tryd.prog.cellsOf 75 = 1:=by kernel_rfl
theorem Mw : Tryd.prog.cellsOf 56 = 53:=by kernel_rfl
theorem Au : Tryd.prog.cellsOf 3 = 1:=by kernel_rfl
theorem Bt : Opens Tryd.prog (fun H => Rows.uptoBulk (H:=H)) 3 Pc (fun _ => 1) I64:=AgW Bs Tryd.underlying3
theorem Vs : Tryd.prog.cellsOf 52 = 32:=by kernel_rfl
theorem AfF : Tryd.prog.cellsOf 5 = 1:=by kernel_rfl
theorem Apd : Opens Tryd.prog (fun H => Rows.uptoBulk (H:=H)) 5 cU8 (fun _ => 1) (fun s => True):=AjG Bs Tryd.underlying5
theorem AlU : Opens Tryd.prog (fun H => Rows.uptoBulk (H:=H)) 52 (fun a : Arr UInt8 32 => C1 u8 a.l) (fun _ => 0) (fun s => True):=Af4 (Ahi Bs Tryd.underlying52 Vs AfF Apd) (fun _ => Nat.zero_le _) (fun _ _ => trivial)
theorem Va : Tryd.prog.cellsOf 46 = 16:=by kernel_rfl
theorem Xg : Tryd.prog.cellsOf 43 = 2:=by kernel_rfl
def Aft (s : Api_Ref) : Prop:=I64 s.Zb∧I64 s.No∧True
theorem Ami : Opens Tryd.prog (fun H => Rows.uptoBulk (H:=H)) 43 AeQ (fun _ => 0) (fun s => Aft s) :=
 Be Bs Tryd.underlying43 (n:=2) Xg
  (Ao (k:=1) rfl Au (fun _ => rfl) Bt (Ao (k:=1) rfl Au (fun _ => rfl) Bt Bk))
  (fun x => (⟨x.1,x.2.1⟩ : Api_Ref)) (fun _ => rfl) (fun _ => rfl) (fun x => Nat.zero_le _) (fun x h => h)
theorem Agw : Tryd.prog.cellsOf 9 = 1:=by kernel_rfl
theorem ApR : Opens Tryd.prog (fun H => Rows.uptoBulk (H:=H)) 9 AqU (fun l => l.length + 1) (fun s => s.length≤maxLen):=Aih Bs Tryd.underlying9
theorem AcC : Tryd.prog.cellsOf 44 = 1:=by kernel_rfl
theorem Sy : Tryd.prog.cellsOf 175 = 3:=by kernel_rfl
theorem AgG : Tryd.prog.cellsOf 4 = 1:=by kernel_rfl
theorem Aoz : Opens Tryd.prog (fun H => Rows.uptoBulk (H:=H)) 4 AhA (fun _ => 1) (fun s => True):=AgC Bs Tryd.underlying4
def Wj (s : Api_Part) : Prop:=I64 s.Za∧I64 s.Zl1∧True∧True
theorem Aji : Opens Tryd.prog (fun H => Rows.uptoBulk (H:=H)) 175 Aj (fun _ => 0) (fun s => Wj s) :=
 Be Bs Tryd.underlying175 (n:=3) Sy
  (Ao (k:=1) rfl Au (fun _ => rfl) Bt (Ao (k:=1) rfl Au (fun _ => rfl) Bt (Ao (k:=1) rfl AgG (fun _ => rfl) Aoz Bk)))
  (fun x => (⟨x.1,x.2.1,x.2.2.1⟩ : Api_Part)) (fun _ => rfl) (fun _ => rfl) (fun x => Nat.zero_le _) (fun x h => h)
theorem AlQ : Opens Tryd.prog (fun H => Rows.uptoBulk (H:=H)) 44 (cSl Aj) (szL (fun _ => 0)) (fun s => (s.length≤maxLen∧∀ t ∈ s,Wj t)):=Cz Bs Tryd.underlying44 Sy (fun _ => rfl) Aji
def Xc (s : Api_Item) : Prop:=I64 s.Za∧Aft s.Ref∧I64 s.Zn1∧I64 s.Zb1∧I64 s.Zc∧I64 s.Zo1∧I64 s.Zw∧I64 s.To∧I64 s.Code∧I64 s.Zp1∧I64 s.Zq1∧I64 s.Zr1∧I64 s.Zs1∧s.Zt1.length≤maxLen∧(s.Zu1.length≤maxLen∧∀ t ∈ s.Zu1,Wj t)∧True
theorem Aid : Opens Tryd.prog (fun H => Rows.uptoBulk (H:=H)) 46 A5 (fun _ => 0) (fun s => Xc s) :=
 Be Bs Tryd.underlying46 (n:=16) Va
  (Ao (k:=1) rfl Au (fun _ => rfl) Bt (Ao (k:=2) rfl Xg (fun _ => rfl) Ami (Ao (k:=1) rfl Au (fun _ => rfl) Bt (Ao (k:=1) rfl Au (fun _ => rfl) Bt (Ao (k:=1) rfl Au (fun _ => rfl) Bt (Ao (k:=1) rfl Au (fun _ => rfl) Bt (Ao (k:=1) rfl Au (fun _ => rfl) Bt (Ao (k:=1) rfl Au (fun _ => rfl) Bt (Ao (k:=1) rfl Au (fun _ => rfl) Bt (Ao (k:=1) rfl Au (fun _ => rfl) Bt (Ao (k:=1) rfl Au (fun _ => rfl) Bt (Ao (k:=1) rfl Au (fun _ => rfl) Bt (Ao (k:=1) rfl Au (fun _ => rfl) Bt (Ao (k:=1) rfl Agw (fun _ => rfl) ApR (Ao (k:=1) rfl AcC (fun _ => rfl) AlQ Bk)))))))))))))))
  (fun x => (⟨x.1,x.2.1,x.2.2.1,x.2.2.2.1,x.2.2.2.2.1,x.2.2.2.2.2.1,x.2.2.2.2.2.2.1,x.2.2.2.2.2.2.2.1,x.2.2.2.2.2.2.2.2.1,x.2.2.2.2.2.2.2.2.2.1,x.2.2.2.2.2.2.2.2.2.2.1,x.2.2.2.2.2.2.2.2.2.2.2.1,x.2.2.2.2.2.2.2.2.2.2.2.2.1,x.2.2.2.2.2.2.2.2.2.2.2.2.2.1,x.2.2.2.2.2.2.2.2.2.2.2.2.2.2.1⟩ : Api_Item)) (fun _ => rfl) (fun _ => rfl) (fun x => Nat.zero_le _) (fun x h => h)
theorem Xf : Tryd.prog.cellsOf 54 = 2:=by kernel_rfl
theorem Ms : Tryd.prog.cellsOf 41 = 1:=by kernel_rfl
theorem Xr : Opens Tryd.prog (fun H => Rows.uptoBulk (H:=H)) 41 AaM (fun _ => 1) (fun s => True):=Ah1 Bs Tryd.underlying41
def Afi (s : Api_Sig) : Prop:=True∧True∧True
theorem Al5 : Opens Tryd.prog (fun H => Rows.uptoBulk (H:=H)) 54 Aab (fun _ => 0) (fun s => Afi s) :=
 Be Bs Tryd.underlying54 (n:=2) Xf
  (Ao (k:=1) rfl Ms (fun _ => rfl) Xr (Ao (k:=1) rfl Ms (fun _ => rfl) Xr Bk))
  (fun x => (⟨x.1,x.2.1⟩ : Api_Sig)) (fun _ => rfl) (fun _ => rfl) (fun x => Nat.zero_le _) (fun x h => h)
def Ih (s : Api_Record) : Prop:=I64 s.Zb∧I64 s.No∧True∧I64 s.Zw1∧Xc s.Zx1∧Afi s.Sig∧True
theorem Ae1 (x : Api_Record) : (Ak x).length = 53:=by
 simp only [Ak,List.length_append,List.length_cons,List.length_nil,Gc,Arr.h]
theorem AcS : Opens Tryd.prog (fun H => Rows.uptoBulk (H:=H)) 56 Ak (fun _ => 0) (fun s => Ih s) :=
 Be Bs Tryd.underlying56 (n:=53) Mw
  (Ao (k:=1) rfl Au (fun _ => rfl) Bt (Ao (k:=1) rfl Au (fun _ => rfl) Bt (Ao (k:=32) rfl Vs (fun a => by simp [Gc,a.h]) AlU (Ao (k:=1) rfl Au (fun _ => rfl) Bt (Ao (k:=16) rfl Va (fun _ => rfl) Aid (Ao (k:=2) rfl Xf (fun _ => rfl) Al5 Bk))))))
  (fun x => (⟨x.1,x.2.1,x.2.2.1,x.2.2.2.1,x.2.2.2.2.1,x.2.2.2.2.2.1⟩ : Api_Record)) (fun x => by simp only [Ak,A5,Aab,List.cons_append,List.nil_append,List.append_assoc,List.append_nil,Pc,AaM,cU8,AqU,AhA,cSl]) Ae1 (fun x => Nat.zero_le _) (fun x h => h)
theorem Am2 : Opens Tryd.prog (fun H => Rows.uptoBulk (H:=H)) 75 (cSl Ak) (szL (fun _ => 0)) (fun s => (s.length≤maxLen∧∀ t ∈ s,Ih t)):=Cz Bs Tryd.underlying75 Mw Ae1 AcS
theorem AmR : Opens Tryd.prog (fun H => Rows.uptoBulk (H:=H)) 37 (cSl (cSl Ak)) (szL (szL (fun _ => 0))) (fun s => (s.length≤maxLen∧∀ t ∈ s,(t.length≤maxLen∧∀ u ∈ t,Ih u))):=Cz Bs Tryd.underlying37 Aed (fun _ => rfl) Am2
theorem Ad1 : Tryd.prog.cellsOf 38 = 1:=by kernel_rfl
theorem Vu : Tryd.prog.cellsOf 96 = 106:=by kernel_rfl
def U9 (s : Api_Fork) : Prop:=Ih s.A∧Ih s.B∧True
theorem Alj (x : Api_Fork) : (Ax x).length = 106:=by
 simp only [Ax,List.length_append,List.length_cons,List.length_nil,Gc,Arr.h]
theorem AnT : Opens Tryd.prog (fun H => Rows.uptoBulk (H:=H)) 96 Ax (fun _ => 0) (fun s => U9 s) :=
 Be Bs Tryd.underlying96 (n:=106) Vu
  (Ao (k:=53) rfl Mw Ae1 AcS (Ao (k:=53) rfl Mw Ae1 AcS Bk))
  (fun x => (⟨x.1,x.2.1⟩ : Api_Fork)) (fun x => by simp only [Ax,Ak,Ak,List.cons_append,List.nil_append,List.append_assoc,List.append_nil,Pc,AaM,cU8,AqU,AhA,cSl]) Alj (fun x => Nat.zero_le _) (fun x h => h)
theorem Anc : Opens Tryd.prog (fun H => Rows.uptoBulk (H:=H)) 38 (cSl Ax) (szL (fun _ => 0)) (fun s => (s.length≤maxLen∧∀ t ∈ s,U9 t)):=Cz Bs Tryd.underlying38 Vu Alj AnT
def Y6 (s : Api_Books) : Prop:=(s.Zy1.length≤maxLen∧∀ t ∈ s.Zy1,(t.length≤maxLen∧∀ u ∈ t,Ih u))∧(s.Zz1.length≤maxLen∧∀ t ∈ s.Zz1,U9 t)∧True
theorem Aod : Opens Tryd.prog (fun H => Rows.uptoBulk (H:=H)) 40 Ap (fun _ => 0) (fun s => Y6 s) :=
 Be Bs Tryd.underlying40 (n:=2) AcJ
  (Ao (k:=1) rfl Ac4 (fun _ => rfl) AmR (Ao (k:=1) rfl Ad1 (fun _ => rfl) Anc Bk))
  (fun x => (⟨x.1,x.2.1⟩ : Api_Books)) (fun _ => rfl) (fun _ => rfl) (fun x => Nat.zero_le _) (fun x h => h)
theorem Adp : Tryd.prog.cellsOf 36 = 9:=by kernel_rfl
theorem U3 : Tryd.prog.cellsOf 25 = 2:=by kernel_rfl
theorem AcA : Tryd.prog.cellsOf 22 = 1:=by kernel_rfl
theorem Su : Tryd.prog.cellsOf 127 = 3:=by kernel_rfl
def Rf (s : Api_Place) : Prop:=I64 s.Za∧I64 s.Zb∧I64 s.Zc∧True
theorem AjZ : Opens Tryd.prog (fun H => Rows.uptoBulk (H:=H)) 127 Ag (fun _ => 0) (fun s => Rf s) :=
 Be Bs Tryd.underlying127 (n:=3) Su
  (Ao (k:=1) rfl Au (fun _ => rfl) Bt (Ao (k:=1) rfl Au (fun _ => rfl) Bt (Ao (k:=1) rfl Au (fun _ => rfl) Bt Bk)))
  (fun x => (⟨x.1,x.2.1,x.2.2.1⟩ : Api_Place)) (fun _ => rfl) (fun _ => rfl) (fun x => Nat.zero_le _) (fun x h => h)
theorem Ano : Opens Tryd.prog (fun H => Rows.uptoBulk (H:=H)) 22 (cSl Ag) (szL (fun _ => 0)) (fun s => (s.length≤maxLen∧∀ t ∈ s,Rf t)):=Cz Bs Tryd.underlying22 Su (fun _ => rfl) AjZ
theorem AdS : Tryd.prog.cellsOf 23 = 1:=by kernel_rfl
theorem S2 : Tryd.prog.cellsOf 129 = 5:=by kernel_rfl
def V5 (s : Api_Edge) : Prop:=I64 s.A∧I64 s.B∧I64 s.Zb∧I64 s.Zd∧I64 s.Km∧True
theorem Akp : Opens Tryd.prog (fun H => Rows.uptoBulk (H:=H)) 129 An (fun _ => 0) (fun s => V5 s) :=
 Be Bs Tryd.underlying129 (n:=5) S2
  (Ao (k:=1) rfl Au (fun _ => rfl) Bt (Ao (k:=1) rfl Au (fun _ => rfl) Bt (Ao (k:=1) rfl Au (fun _ => rfl) Bt (Ao (k:=1) rfl Au (fun _ => rfl) Bt (Ao (k:=1) rfl Au (fun _ => rfl) Bt Bk)))))
  (fun x => (⟨x.1,x.2.1,x.2.2.1,x.2.2.2.1,x.2.2.2.2.1⟩ : Api_Edge)) (fun _ => rfl) (fun _ => rfl) (fun x => Nat.zero_le _) (fun x h => h)
theorem Am0 : Opens Tryd.prog (fun H => Rows.uptoBulk (H:=H)) 23 (cSl An) (szL (fun _ => 0)) (fun s => (s.length≤maxLen∧∀ t ∈ s,V5 t)):=Cz Bs Tryd.underlying23 S2 (fun _ => rfl) Akp
def Sn (s : Api_Network) : Prop:=(s.Ze.length≤maxLen∧∀ t ∈ s.Ze,Rf t)∧(s.Zf.length≤maxLen∧∀ t ∈ s.Zf,V5 t)∧True
theorem Aoj : Opens Tryd.prog (fun H => Rows.uptoBulk (H:=H)) 25 S9 (fun _ => 0) (fun s => Sn s) :=
 Be Bs Tryd.underlying25 (n:=2) U3
  (Ao (k:=1) rfl AcA (fun _ => rfl) Ano (Ao (k:=1) rfl AdS (fun _ => rfl) Am0 Bk))
  (fun x => (⟨x.1,x.2.1⟩ : Api_Network)) (fun _ => rfl) (fun _ => rfl) (fun x => Nat.zero_le _) (fun x h => h)
theorem Xq : Tryd.prog.cellsOf 31 = 4:=by kernel_rfl
theorem AcT : Tryd.prog.cellsOf 26 = 1:=by kernel_rfl
theorem Sv : Tryd.prog.cellsOf 131 = 8:=by kernel_rfl
def Lk (s : Api_WagonType) : Prop:=I64 s.Zg∧I64 s.Zh∧I64 s.Zi∧I64 s.Zj∧I64 s.Zk∧True∧I64 s.Zm∧I64 s.Zn∧True
theorem Aju : Opens Tryd.prog (fun H => Rows.uptoBulk (H:=H)) 131 Ab (fun _ => 0) (fun s => Lk s) :=
 Be Bs Tryd.underlying131 (n:=8) Sv
  (Ao (k:=1) rfl Au (fun _ => rfl) Bt (Ao (k:=1) rfl Au (fun _ => rfl) Bt (Ao (k:=1) rfl Au (fun _ => rfl) Bt (Ao (k:=1) rfl Au (fun _ => rfl) Bt (Ao (k:=1) rfl Au (fun _ => rfl) Bt (Ao (k:=1) rfl Ms (fun _ => rfl) Xr (Ao (k:=1) rfl Au (fun _ => rfl) Bt (Ao (k:=1) rfl Au (fun _ => rfl) Bt Bk))))))))
  (fun x => (⟨x.1,x.2.1,x.2.2.1,x.2.2.2.1,x.2.2.2.2.1,x.2.2.2.2.2.1,x.2.2.2.2.2.2.1,x.2.2.2.2.2.2.2.1⟩ : Api_WagonType)) (fun _ => rfl) (fun _ => rfl) (fun x => Nat.zero_le _) (fun x h => h)
theorem AnC : Opens Tryd.prog (fun H => Rows.uptoBulk (H:=H)) 26 (cSl Ab) (szL (fun _ => 0)) (fun s => (s.length≤maxLen∧∀ t ∈ s,Lk t)):=Cz Bs Tryd.underlying26 Sv (fun _ => rfl) Aju
theorem Ad0 : Tryd.prog.cellsOf 27 = 1:=by kernel_rfl
theorem S1 : Tryd.prog.cellsOf 133 = 5:=by kernel_rfl
def R6 (s : Api_Wagon) : Prop:=I64 s.Zo∧I64 s.Zp∧I64 s.Zq∧I64 s.Zr∧I64 s.Zs∧True
theorem Ajx : Opens Tryd.prog (fun H => Rows.uptoBulk (H:=H)) 133 Ae (fun _ => 0) (fun s => R6 s) :=
 Be Bs Tryd.underlying133 (n:=5) S1
  (Ao (k:=1) rfl Au (fun _ => rfl) Bt (Ao (k:=1) rfl Au (fun _ => rfl) Bt (Ao (k:=1) rfl Au (fun _ => rfl) Bt (Ao (k:=1) rfl Au (fun _ => rfl) Bt (Ao (k:=1) rfl Au (fun _ => rfl) Bt Bk)))))
  (fun x => (⟨x.1,x.2.1,x.2.2.1,x.2.2.2.1,x.2.2.2.2.1⟩ : Api_Wagon)) (fun _ => rfl) (fun _ => rfl) (fun x => Nat.zero_le _) (fun x h => h)
theorem Anu : Opens Tryd.prog (fun H => Rows.uptoBulk (H:=H)) 27 (cSl Ae) (szL (fun _ => 0)) (fun s => (s.length≤maxLen∧∀ t ∈ s,R6 t)):=Cz Bs Tryd.underlying27 S1 (fun _ => rfl) Ajx
theorem Adj : Tryd.prog.cellsOf 28 = 1:=by kernel_rfl
theorem Sz : Tryd.prog.cellsOf 167 = 3:=by kernel_rfl
def V0 (s : Api_Swap) : Prop:=I64 s.Zt∧I64 s.Zu∧I64 s.Zv∧True
theorem Akx : Opens Tryd.prog (fun H => Rows.uptoBulk (H:=H)) 167 Ai (fun _ => 0) (fun s => V0 s) :=
 Be Bs Tryd.underlying167 (n:=3) Sz
  (Ao (k:=1) rfl Au (fun _ => rfl) Bt (Ao (k:=1) rfl Au (fun _ => rfl) Bt (Ao (k:=1) rfl Au (fun _ => rfl) Bt Bk)))
  (fun x => (⟨x.1,x.2.1,x.2.2.1⟩ : Api_Swap)) (fun _ => rfl) (fun _ => rfl) (fun x => Nat.zero_le _) (fun x h => h)
theorem Am1 : Opens Tryd.prog (fun H => Rows.uptoBulk (H:=H)) 28 (cSl Ai) (szL (fun _ => 0)) (fun s => (s.length≤maxLen∧∀ t ∈ s,V0 t)):=Cz Bs Tryd.underlying28 Sz (fun _ => rfl) Akx
theorem AcZ : Tryd.prog.cellsOf 29 = 1:=by kernel_rfl
theorem Sw : Tryd.prog.cellsOf 171 = 3:=by kernel_rfl
def W9 (s : Api_Wash) : Prop:=I64 s.Zw∧I64 s.To∧I64 s.Zd∧True
theorem Akh : Opens Tryd.prog (fun H => Rows.uptoBulk (H:=H)) 171 Ah (fun _ => 0) (fun s => W9 s) :=
 Be Bs Tryd.underlying171 (n:=3) Sw
  (Ao (k:=1) rfl Au (fun _ => rfl) Bt (Ao (k:=1) rfl Au (fun _ => rfl) Bt (Ao (k:=1) rfl Au (fun _ => rfl) Bt Bk)))
  (fun x => (⟨x.1,x.2.1,x.2.2.1⟩ : Api_Wash)) (fun _ => rfl) (fun _ => rfl) (fun x => Nat.zero_le _) (fun x h => h)
theorem AmH : Opens Tryd.prog (fun H => Rows.uptoBulk (H:=H)) 29 (cSl Ah) (szL (fun _ => 0)) (fun s => (s.length≤maxLen∧∀ t ∈ s,W9 t)):=Cz Bs Tryd.underlying29 Sw (fun _ => rfl) Akh
def Yo (s : Api_Fleet) : Prop:=(s.Zx.length≤maxLen∧∀ t ∈ s.Zx,Lk t)∧(s.Zy.length≤maxLen∧∀ t ∈ s.Zy,R6 t)∧(s.Zz.length≤maxLen∧∀ t ∈ s.Zz,V0 t)∧(s.Za1.length≤maxLen∧∀ t ∈ s.Za1,W9 t)∧True
theorem AmO : Opens Tryd.prog (fun H => Rows.uptoBulk (H:=H)) 31 Y5 (fun _ => 0) (fun s => Yo s) :=
 Be Bs Tryd.underlying31 (n:=4) Xq
  (Ao (k:=1) rfl AcT (fun _ => rfl) AnC (Ao (k:=1) rfl Ad0 (fun _ => rfl) Anu (Ao (k:=1) rfl Adj (fun _ => rfl) Am1 (Ao (k:=1) rfl AcZ (fun _ => rfl) AmH Bk))))
  (fun x => (⟨x.1,x.2.1,x.2.2.1,x.2.2.2.1⟩ : Api_Fleet)) (fun _ => rfl) (fun _ => rfl) (fun x => Nat.zero_le _) (fun x h => h)
theorem Acs : Tryd.prog.cellsOf 32 = 1:=by kernel_rfl
theorem Tb : Tryd.prog.cellsOf 135 = 3:=by kernel_rfl
def Qb (s : Api_Reader) : Prop:=I64 s.Zb1∧I64 s.Low∧I64 s.Zc1∧True
theorem Ajw : Opens Tryd.prog (fun H => Rows.uptoBulk (H:=H)) 135 Af (fun _ => 0) (fun s => Qb s) :=
 Be Bs Tryd.underlying135 (n:=3) Tb
  (Ao (k:=1) rfl Au (fun _ => rfl) Bt (Ao (k:=1) rfl Au (fun _ => rfl) Bt (Ao (k:=1) rfl Au (fun _ => rfl) Bt Bk)))
  (fun x => (⟨x.1,x.2.1,x.2.2.1⟩ : Api_Reader)) (fun _ => rfl) (fun _ => rfl) (fun x => Nat.zero_le _) (fun x h => h)
theorem Anw : Opens Tryd.prog (fun H => Rows.uptoBulk (H:=H)) 32 (cSl Af) (szL (fun _ => 0)) (fun s => (s.length≤maxLen∧∀ t ∈ s,Qb t)):=Cz Bs Tryd.underlying32 Tb (fun _ => rfl) Ajw
theorem Adf : Tryd.prog.cellsOf 33 = 1:=by kernel_rfl
theorem Sl : Tryd.prog.cellsOf 137 = 1:=by kernel_rfl
def Ny (s : Api_Shipper) : Prop:=I64 s.Zb1∧True
theorem Akc : Opens Tryd.prog (fun H => Rows.uptoBulk (H:=H)) 137 Ad (fun _ => 0) (fun s => Ny s) :=
 Be Bs Tryd.underlying137 (n:=1) Sl
  (Ao (k:=1) rfl Au (fun _ => rfl) Bt Bk)
  (fun x => (⟨x.1⟩ : Api_Shipper)) (fun _ => rfl) (fun _ => rfl) (fun x => Nat.zero_le _) (fun x h => h)
theorem Am7 : Opens Tryd.prog (fun H => Rows.uptoBulk (H:=H)) 33 (cSl Ad) (szL (fun _ => 0)) (fun s => (s.length≤maxLen∧∀ t ∈ s,Ny t)):=Cz Bs Tryd.underlying33 Sl (fun _ => rfl) Akc
theorem Acx : Tryd.prog.cellsOf 34 = 1:=by kernel_rfl
theorem Ws : Tryd.prog.cellsOf 74 = 16:=by kernel_rfl
theorem Ut : Tryd.prog.cellsOf 72 = 15:=by kernel_rfl
theorem W2 : Tryd.prog.cellsOf 69 = 14:=by kernel_rfl
theorem W6 : Tryd.prog.cellsOf 68 = 2:=by kernel_rfl
def AiC (s : Api_Span) : Prop:=I64 s.Zw∧I64 s.To∧True
theorem Amh : Opens Tryd.prog (fun H => Rows.uptoBulk (H:=H)) 68 Q0 (fun _ => 0) (fun s => AiC s) :=
 Be Bs Tryd.underlying68 (n:=2) W6
  (Ao (k:=1) rfl Au (fun _ => rfl) Bt (Ao (k:=1) rfl Au (fun _ => rfl) Bt Bk))
  (fun x => (⟨x.1,x.2.1⟩ : Api_Span)) (fun _ => rfl) (fun _ => rfl) (fun x => Nat.zero_le _) (fun x h => h)
theorem AlF : Opens Tryd.prog (fun H => Rows.uptoBulk (H:=H)) 69 (fun a : Arr Api_Span 7 => a.l.flatMap Q0) (fun _ => 0) (fun s => True):=Af5 (n:=7) Tryd.underlying69 W2 W6 (fun _ => rfl) Amh
theorem Aep : Tryd.prog.cellsOf 70 = 1:=by kernel_rfl
theorem Ana : Opens Tryd.prog (fun H => Rows.uptoBulk (H:=H)) 70 (cSl Pc) (szL (fun _ => 1)) (fun s => (s.length≤maxLen∧∀ t ∈ s,I64 t)):=Cz Bs Tryd.underlying70 Au (fun _ => rfl) Bt
def Qx (s : Api_Calendar) : Prop:=True∧(s.Ze1.length≤maxLen∧∀ t ∈ s.Ze1,I64 t)∧True
theorem AmX : Opens Tryd.prog (fun H => Rows.uptoBulk (H:=H)) 72 Qw (fun _ => 0) (fun s => Qx s) :=
 Be Bs Tryd.underlying72 (n:=15) Ut
  (Ao (k:=14) rfl W2 (AjB (c:=Q0) (k:=2) (n:=7) (fun _ => rfl)) AlF (Ao (k:=1) rfl Aep (fun _ => rfl) Ana Bk))
  (fun x => (⟨(nth x.1.l 0,nth x.1.l 1,nth x.1.l 2,nth x.1.l 3,nth x.1.l 4,nth x.1.l 5,nth x.1.l 6),x.2.1⟩ : Api_Calendar)) (fun x => by obtain ⟨⟨l,hl⟩,y⟩:=x;match l,hl with | [_,_,_,_,_,_,_],_ => rfl) (fun _ => rfl) (fun x => Nat.zero_le _) (fun x h => h)
def Jj (s : Api_RailwayInfo) : Prop:=True∧Qx s.Zf1∧True
theorem Amz : Opens Tryd.prog (fun H => Rows.uptoBulk (H:=H)) 74 Ac (fun _ => 0) (fun s => Jj s) :=
 Be Bs Tryd.underlying74 (n:=16) Ws
  (Ao (k:=1) rfl Ms (fun _ => rfl) Xr (Ao (k:=15) rfl Ut (fun _ => rfl) AmX Bk))
  (fun x => (⟨x.1,x.2.1⟩ : Api_RailwayInfo)) (fun _ => rfl) (fun _ => rfl) (fun x => Nat.zero_le _) (fun x h => h)
theorem Amj : Opens Tryd.prog (fun H => Rows.uptoBulk (H:=H)) 34 (cSl Ac) (szL (fun _ => 0)) (fun s => (s.length≤maxLen∧∀ t ∈ s,Jj t)):=Cz Bs Tryd.underlying34 Ws (fun _ => rfl) Amz
def Abu (s : Api_Pool) : Prop:=Sn s.Zg1∧Yo s.Zh1∧(s.Zi1.length≤maxLen∧∀ t ∈ s.Zi1,Qb t)∧(s.Zj1.length≤maxLen∧∀ t ∈ s.Zj1,Ny t)∧(s.Zk1.length≤maxLen∧∀ t ∈ s.Zk1,Jj t)∧True
theorem Aof : Opens Tryd.prog (fun H => Rows.uptoBulk (H:=H)) 36 Aw (fun _ => 0) (fun s => Abu s) :=
 Be Bs Tryd.underlying36 (n:=9) Adp
  (Ao (k:=2) rfl U3 (fun _ => rfl) Aoj (Ao (k:=4) rfl Xq (fun _ => rfl) AmO (Ao (k:=1) rfl Acs (fun _ => rfl) Anw (Ao (k:=1) rfl Adf (fun _ => rfl) Am7 (Ao (k:=1) rfl Acx (fun _ => rfl) Amj Bk)))))
  (fun x => (⟨x.1,x.2.1,x.2.2.1,x.2.2.2.1,x.2.2.2.2.1⟩ : Api_Pool)) (fun _ => rfl) (fun _ => rfl) (fun x => Nat.zero_le _) (fun x h => h)
theorem own : ownKnob Tryd.prog.godebug = none:=by kernel_rfl
theorem AlD : laidOutB Tryd.prog = true:=by kernel_rfl
abbrev Ad2 : List (String×DataW Unit):=[("wagonpool/digest.k", Rows.laid_wagonpool_digest_k)]
def kz : List Int:=glob2.l.map fun x => (x.toNat : Int)
theorem AoQ : kz.length = 64:=by simp [kz,glob2.h]
theorem Aoa : (Rows.laid_wagonpool_digest_k : DataW Unit) = .agg (kz.map fun n => .lit (.int .u32 n)):=by kernel_rfl
theorem AlB {W : World} (h : laidMetH Tryd.prog Ad2 W) (r : Nat) (hr : r < 64) : W.cell? ⟨2,r,none⟩ = some (.int .u32 (kz.getD r 0)):=by
 rw [MakeChecks.laidMetH_plain _ _ _ (by kernel_rfl)] at h
 obtain ⟨ps,⟨g,t,cs,fuel,p,q,hg,ht,hv,hd,_,_⟩,_,_⟩:=h
 obtain rfl:=Option.some.inj ((show Tryd.prog.globalNamed "wagonpool/digest.k" = some 2 by kernel_rfl).symm.trans hg)
 obtain rfl:=Option.some.inj ((show (Tryd.prog.globals[2]?).map (·.type) = some 188 by kernel_rfl).symm.trans ht)
 rw [Aoa] at hd
 obtain ⟨xs,m,_,ex,_,hl,hel⟩:=DataW.trod_array Tryd.underlying188 hd
 have c5 : Tryd.prog.cellsOf 161 = 1:=by kernel_rfl
 have hE:=hel r hr
 rw [c5,Nat.mul_one,List.getElem?_eq_getElem (by omega)] at hE
 obtain ⟨z,e1,e2,_⟩:=DataW.trod_int Tryd.underlying161 hE
 have hlen:=AoQ
 have e3 : (xs.map (·.1)) = kz.map fun n => .lit (.int .u32 n):=(DataW.agg.inj (Prod.mk.inj ex).1).symm
 have e4 : (xs.map (·.1))[r]? = (kz.map fun n => (DataW.lit (.int .u32 n) : DataW Unit))[r]?:=by rw [e3]
 rw [List.getElem?_map,List.getElem?_map,List.getElem?_eq_getElem (by omega : r < xs.length),List.getElem?_eq_getElem (by omega : r < kz.length),e2] at e4
 have hz : z = kz.getD r 0:=by
  simp only [Option.map_some,Option.some.injEq,DataW.lit.injEq,Lit.int.injEq,true_and] at e4
  rw [e4,List.getD,List.getElem?_eq_getElem (by omega : r < kz.length)];rfl
 rw [World.var?_cell hg hv r,← hz]
 have : cs.toList[r]? = some (.int .u32 z):=by
  have h0 : ((cs.toList.drop r).take 1)[0]? = some (.int .u32 z):=by rw [e1];rfl
  simpa using h0
 simpa using this
theorem As3 {W : World} (h : laidMetH Tryd.prog Ad2 W) : Mem (B.env noF) W [] []:=by
 refine ⟨rfl,fun id b ab h => by simp at h,fun id id' b b' β h => by simp at h,fun a h => h.elim,fun i cs hG => ?_,fun t m h => (by have h' : (none : Option MapS) = some m:=h;cases h'),fun i p h => (by have h' : (none : Option (Array Value)) = some p:=h;cases h')⟩
 have hG' : (if i = 2 then some (C1 u32 glob2.l) else none) = some cs:=hG
 by_cases hi : i = 2
 ·rw [if_pos hi] at hG'
  cases hG'
  subst hi
  refine ⟨cell?_lt (AlB h 0 (by omega)),(by rintro ⟨id,b,hb,_⟩;simp at hb),fun _ hf => hf,fun j => .int .u32 (kz.getD j 0),fun j x hj => ?_⟩
  have hj64 : j < 64:=by
   have:=(List.getElem?_eq_some_iff.1 hj).1
   rwa [Gc] at this
  have hx : x = .int .u32 (kz.getD j 0):=by
   simp only [C1,List.getElem?_map,Option.map_eq_some_iff] at hj
   obtain ⟨y,hy,rfl⟩:=hj
   simp [kz,u32,List.getD_eq_getElem?_getD,hy]
  subst hx
  exact ⟨AlB h j hj64,.int _ _ _,rfl⟩
 ·rw [if_neg hi] at hG';cases hG'
theorem Agu {f : FuncId} {avs : List AV} (h : Con B f avs [] (fun r σ' => r = .bool true∧σ' = [])) {fn : Func} {c : Code} (hf : B.P.funcs[f]? = some fn) (hb : fn.body = some c) (hn : (fn.name == "runtime.NumGoroutine") = false) {W : World} (hL : laidMetH Tryd.prog Ad2 W) {args : Array Value}
  (ha : Dn W (A1 (B.env noF) []) [] args.toList avs) : Calls B.P f args W fun e W' => e = .returned (.bool true)∧Below W.heap.size W W':=by
 refine ((h.call (fun _ => False) W [] args (As3 hL) ha).calls hf hb hn).mono ?_
 rintro e w' ⟨v,r,σ',g',rfl,⟨rfl,rfl⟩,hm,he,hr⟩
 exact ⟨by rw [Hx hr],he.below⟩
open Go.Rv Go.RowKit
set_option maxRecDepth 20000
theorem Apf (F : Out) : ((B.env F).bty = some 181) = False:=eq_false (fun h => nomatch (show (none : Option Nat) = some 181 from h))
attribute [local go_sem] Apf
theorem Ajz : Lib.len8tab.data.toList = ([0,1,2,2,3,3,3,3,4,4,4,4,4,4,4,4,5,5,5,5,5,5,5,5,5,5,5,5,5,5,5,5,6,6,6,6,6,6,6,6,6,6,6,6,6,6,6,6,6,6,6,6,6,6,6,6,6,6,6,6,6,6,6,6,7,7,7,7,7,7,7,7,7,7,7,7,7,7,7,7,7,7,7,7,7,7,7,7,7,7,7,7,7,7,7,7,7,7,7,7,7,7,7,7,7,7,7,7,7,7,7,7,7,7,7,7,7,7,7,7,7,7,7,7,7,7,7,7,8,8,8,8,8,8,8,8,8,8,8,8,8,8,8,8,8,8,8,8,8,8,8,8,8,8,8,8,8,8,8,8,8,8,8,8,8,8,8,8,8,8,8,8,8,8,8,8,8,8,8,8,8,8,8,8,8,8,8,8,8,8,8,8,8,8,8,8,8,8,8,8,8,8,8,8,8,8,8,8,8,8,8,8,8,8,8,8,8,8,8,8,8,8,8,8,8,8,8,8,8,8,8,8,8,8,8,8,8,8,8,8,8,8,8,8,8,8,8,8,8,8,8,8,8,8,8,8] : List UInt8):=by kernel_rfl
attribute [go_sem] Ajz
theorem T1 {σ : Am} {b : ABlk} : (σ ++ [b])[σ.length]? = some b:=by
 rw [List.getElem?_append_right (Nat.le_refl _)];simp
theorem Aew {σ : Am} {b c : ABlk} : (σ ++ [b]).set σ.length c = σ ++ [c]:=by
 rw [List.set_append_right _ _ (Nat.le_refl _)];simp
theorem Tg {σ : Am} {id : Nat} : ∀ F : Addr→Prop,Acl (B.env F) 86 [.ref id 0] σ (.agg [.ref id 3,.ref id 4,.ref id 5,.ref id 6,.ref id 7,.ref id 8,.ref id 9,.ref id 10,.ref id 11,.ref id 12,.ref id 13]) σ:=by
  intro F w g vs hm ha
  have hid : id < σ.length:=by
    obtain ⟨vs⟩:=vs
    match vs,ha with
    | [u],⟨h1,_⟩ =>
      cases h1 with
      | ref _ _ _ β b hb _ _ => have:=(List.getElem?_eq_some_iff.1 hb).1;rwa [hm.len] at this
  refine Abk (N:=37) (rs:=[.cell 2 181]) σ.length rfl ok Tryd.func86 rfl (by decide +kernel) rfl rfl (Nat.le_of_ble_eq_true rfl) ?_ (fun F => ?_) F w g vs hm ha
  · simp [AV.under,hid]
  have hE:=ok.env F
  show Run (B.env F) σ.length _ ⟨Ar 37 [(0,.ref id 0)],σ⟩ _
  refine Qr hE [0,2] (fr':=[(0,.ref id 0),(2,.ref σ.length 0)]) (σ':=σ ++ [.box [.val (.pointer none),.val (.pointer none),.val (.pointer none),.val (.pointer none),.val (.pointer none),.val (.pointer none),.val (.pointer none),.val (.pointer none),.val (.pointer none),.val (.pointer none),.val (.pointer none)] false]) ⟨_,Aa,?_⟩ ?_
  · simp only [go_sem]
  refine W0 hE Tt [[],[0],[0,1],[],[3],[3,4],[],[6],[6,7],[],[9],[9,10],[],[12],[12,13],[],[15],[15,16],[],[18],[18,19],[],[21],[21,22],[],[24],[24,25],[],[27],[27,28],[],[30],[30,31],[0,1,2,3,4,5,6,7,8,9,10,11,12,13,14,15,16,17,18,19,20,21,22,23,24,25,26,27,28,29,30,31,32],[0,1,2,3,4,5,6,7,8,9,10,11,12,13,14,15,16,17,18,19,20,21,22,23,24,25,26,27,28,29,30,31,32,33]] (by kernel_rfl) (by kernel_rfl) [2] (fr':=[(2,.ref σ.length 0)]) (σ':=σ ++ [.box [.ref id 3,.ref id 4,.ref id 5,.ref id 6,.ref id 7,.ref id 8,.ref id 9,.ref id 10,.ref id 11,.ref id 12,.ref id 13] false]) ⟨_,Aa,?_⟩ ?_
  · simp only [go_sem,T1,Aew,reduceIte,Nat.reduceLT,Nat.reduceEqDiff,Nat.reduceAdd,Nat.reduceGT,Nat.reduceLeDiff]
  refine AcB ?_
  refine ⟨.inr rfl,[.agg [.ref id 3,.ref id 4,.ref id 5,.ref id 6,.ref id 7,.ref id 8,.ref id 9,.ref id 10,.ref id 11,.ref id 12,.ref id 13]],[.box [.ref id 3,.ref id 4,.ref id 5,.ref id 6,.ref id 7,.ref id 8,.ref id 9,.ref id 10,.ref id 11,.ref id 12,.ref id 13] false],?_,rfl,rfl⟩
  rw [Sa]
  simp only [go_sem,T1,reduceIte,Nat.reduceLT,Nat.reduceEqDiff,Nat.reduceAdd,Nat.reduceLeDiff]
theorem Rx {σ : Am} {id : Nat} : ∀ F : Addr→Prop,Acl (B.env F) 86 [.ref id 9] σ (.agg [.ref id 12,.ref id 13,.ref id 14,.ref id 15,.ref id 16,.ref id 17,.ref id 18,.ref id 19,.ref id 20,.ref id 21,.ref id 22]) σ:=by
  intro F w g vs hm ha
  have hid : id < σ.length:=by
    obtain ⟨vs⟩:=vs
    match vs,ha with
    | [u],⟨h1,_⟩ =>
      cases h1 with
      | ref _ _ _ β b hb _ _ => have:=(List.getElem?_eq_some_iff.1 hb).1;rwa [hm.len] at this
  refine Abk (N:=37) (rs:=[.cell 2 181]) σ.length rfl ok Tryd.func86 rfl (by decide +kernel) rfl rfl (Nat.le_of_ble_eq_true rfl) ?_ (fun F => ?_) F w g vs hm ha
  · simp [AV.under,hid]
  have hE:=ok.env F
  show Run (B.env F) σ.length _ ⟨Ar 37 [(0,.ref id 9)],σ⟩ _
  refine Qr hE [0,2] (fr':=[(0,.ref id 9),(2,.ref σ.length 0)]) (σ':=σ ++ [.box [.val (.pointer none),.val (.pointer none),.val (.pointer none),.val (.pointer none),.val (.pointer none),.val (.pointer none),.val (.pointer none),.val (.pointer none),.val (.pointer none),.val (.pointer none),.val (.pointer none)] false]) ⟨_,Aa,?_⟩ ?_
  · simp only [go_sem]
  refine W0 hE Tt [[],[0],[0,1],[],[3],[3,4],[],[6],[6,7],[],[9],[9,10],[],[12],[12,13],[],[15],[15,16],[],[18],[18,19],[],[21],[21,22],[],[24],[24,25],[],[27],[27,28],[],[30],[30,31],[0,1,2,3,4,5,6,7,8,9,10,11,12,13,14,15,16,17,18,19,20,21,22,23,24,25,26,27,28,29,30,31,32],[0,1,2,3,4,5,6,7,8,9,10,11,12,13,14,15,16,17,18,19,20,21,22,23,24,25,26,27,28,29,30,31,32,33]] (by kernel_rfl) (by kernel_rfl) [2] (fr':=[(2,.ref σ.length 0)]) (σ':=σ ++ [.box [.ref id 12,.ref id 13,.ref id 14,.ref id 15,.ref id 16,.ref id 17,.ref id 18,.ref id 19,.ref id 20,.ref id 21,.ref id 22] false]) ⟨_,Aa,?_⟩ ?_
  · simp only [go_sem,T1,Aew,reduceIte,Nat.reduceLT,Nat.reduceEqDiff,Nat.reduceAdd,Nat.reduceGT,Nat.reduceLeDiff]
  refine AcB ?_
  refine ⟨.inr rfl,[.agg [.ref id 12,.ref id 13,.ref id 14,.ref id 15,.ref id 16,.ref id 17,.ref id 18,.ref id 19,.ref id 20,.ref id 21,.ref id 22]],[.box [.ref id 12,.ref id 13,.ref id 14,.ref id 15,.ref id 16,.ref id 17,.ref id 18,.ref id 19,.ref id 20,.ref id 21,.ref id 22] false],?_,rfl,rfl⟩
  rw [Sa]
  simp only [go_sem,T1,reduceIte,Nat.reduceLT,Nat.reduceEqDiff,Nat.reduceAdd,Nat.reduceLeDiff]
set_option maxHeartbeats 4000000
theorem Xu {a b r} (h : Mg a b = some r) : Con B 71 [u64 a,u64 b] [] (fun r' σ' => r' = .tup [u64 r.1,u64 r.2]∧σ' = []):=by
 refine Cw 51 [.tmp 4,.tmp 5] Tryd.func71 (fun F hE => ?_) h
 unfold Mg
 refine T0 [0,1] ?_
 refine Lt fun x0_2596 c =>Te (fr':=[(0,_),(1,_),(6,u64 x0_2596)]) [0,1,6] Aa (Ev (by simp only [go_sem,c];exact Al)) ?_
 refine Lt fun x1_2598 d =>Te (fr':=[(0,_),(1,_),(6,_),(7,u64 x1_2598)]) [0,1,6,7] Aa (Ev (by simp only [go_sem,d];exact Al)) ?_
 refine Lt fun y0_2600 e =>Te (fr':=[(0,_),(1,_),(6,_),(7,_),(8,u64 y0_2600)]) [0,1,6,7,8] Aa (Ev (by simp only [go_sem,e];exact Al)) ?_
 refine Lt fun y1_2602 f =>Te (fr':=[(0,_),(1,_),(6,_),(7,_),(8,_),(9,u64 y1_2602)]) [0,1,6,7,8,9] Aa (Ev (by simp only [go_sem,f];exact Al)) ?_
 refine T0 [0,1,6,7,8,9,10] ?_
 refine Lt fun g i =>Te (fr':=[(0,_),(1,_),(6,_),(7,_),(9,_),(11,u64 g)]) [0,1,6,7,9,11] Aa (Ev (by simp only [go_sem,i];exact Al)) ?_
 refine Lt fun w1_2606 j =>Te (fr':=[(0,_),(1,_),(6,_),(7,_),(9,_),(11,_),(12,u64 w1_2606)]) [0,1,6,7,9,11,12] Aa (Ev (by simp only [go_sem,j];exact Al)) ?_
 refine Lt fun w2_2608 k =>Te (fr':=[(0,_),(1,_),(6,_),(7,_),(9,_),(12,_),(13,u64 w2_2608)]) [0,1,6,7,9,12,13] Aa (Ev (by simp only [go_sem,k];exact Al)) ?_
 refine Lt fun w1_2610 l =>Te (fr':=[(0,_),(1,_),(7,_),(9,_),(12,u64 w1_2610),(13,_)]) [0,1,7,9,12,13] Aa (Ev (by simp only [go_sem,l];exact Al)) ?_
 refine Lt fun m n =>Te (fr':=[(0,_),(1,_),(4,u64 m)]) [0,1,4] Aa (Ev (by simp only [go_sem,n];exact Al)) ?_
 refine T0 [4,5] ?_
 exact Sr <|Rr
theorem Lp {b r} (h : It b = some r) : Con B 73 [u64 b] [] (fun r' σ' => r' = i64 r∧σ' = []):=by
 refine Cw 25 [.tmp 2] Tryd.func73 (fun F hE => ?_) h
 unfold It
 refine T0 [0,2] ?_
 refine Ja (fun (v : UInt64×Int) => (⟨Ar 25 [(0,u64 v.1),(2,i64 v.2)],[]⟩ : St)) ?_ ?_
 ·intro m
  refine T0 [0,2,4] ?_
  refine Cd ?_ ?_
  ·refine Lt fun d e =>Te (fr':=[(0,u64 d)]) [0] Aa (Ev (by simp only [go_sem,e];exact Al)) ?_
   refine F0 [0,2] ?_
   exact Jm (ws [])
  ·exact Sk <|Jm (ws [])
 rintro ⟨n,o⟩
 refine Ja (fun (v : UInt64×Int) => (⟨Ar 25 [(0,u64 v.1),(2,i64 v.2)],[]⟩ : St)) ?_ ?_
 ·intro p
  refine T0 [0,2,8] ?_
  refine Cd ?_ ?_
  ·refine Lt fun f g =>Te (fr':=[(0,u64 f),(2,_)]) [0,2] Aa (Ev (by simp only [go_sem,g];exact Al)) ?_
   refine F0 [0,2] ?_
   exact Jm (ws [])
  ·exact Sk <|Jm (ws [])
 rintro ⟨q,s⟩
 refine Ja (fun (v : UInt64×Int) => (⟨Ar 25 [(0,u64 v.1),(2,i64 v.2)],[]⟩ : St)) ?_ ?_
 ·intro t
  refine T0 [0,2,14] ?_
  refine Cd ?_ ?_
  ·refine Lt fun i j =>Te (fr':=[(0,u64 i),(2,_)]) [0,2] Aa (Ev (by simp only [go_sem,j];exact Al)) ?_
   refine F0 [0,2] ?_
   exact Jm (ws [])
  ·exact Sk <|Jm (ws [])
 rintro ⟨u,w⟩
 refine Ck fun c => ?_
 have a:=c;simp only [List.cons_append,List.nil_append,List.length_append,List.length_cons,List.length_nil,Nat.zero_add,Nat.reduceAdd] at a
 refine Lt fun k l =>Te (fr':=[(2,i64 k)]) [2] Aa (Ev (by simp only [go_sem,qN c,a,Aat a,Ath (Aat a),l];exact Al)) ?_
 exact Sr <|Rr
theorem Na {a r} (h : Ee a = some r) : Con B 89 [u64 a] [] (fun r' σ' => r' = i64 r∧σ' = []):=by
 refine Cw 6 [.tmp 2] Tryd.func89 (fun F hE => ?_) h
 unfold Ee
 refine T0 [0] ?_
 refine Bd fun c b =>Te [2] (o1 4 (Lp b)) Ev ?_
 exact Sr <|Rr
theorem X0 {e f g r} (h : L3 e f g = some r) : Con B 72 [u64 e,u64 f,u64 g] [] (fun r' σ' => r' = .tup [u64 r.1,u64 r.2]∧σ' = []):=by
 refine Cw 135 [.tmp 6,.tmp 7] Tryd.func72 (fun F hE => ?_) h
 unfold L3
 refine T0 [0,1,2] ?_
 refine Sq <|T0 [0,1,2,20] ?_
 refine Cd ?_ ?_
 ·exact Rn
 ·refine Sk <|Tn <|Sq <|T0 [0,1,2,24] ?_
  refine Cd ?_ ?_
  ·exact Rn
  ·refine Sk <|Tn <|Sq <|T0 [0,1,2,27] ?_
   refine Cd ?_ ?_
   ·refine Ck fun q =>Ck fun s =>De [[],[],[0,1],[],[],[3,4],[0,1,2],[0,1,2,3,4,5,6]] [6,7] Aa (Ev (by simp only [go_sem,q,s];exact Al)) ?_
    exact Sr <|Tr <|Rr
   ·refine Sk <|Tn <|Bd fun b t =>Te [0,1,2,8] (o1 35 (Na t)) Ev ?_
    refine Lt fun a u =>Te (fr':=[(0,_),(1,_),(2,u64 a),(8,_)]) [0,1,2,8] Aa (Ev (by simp only [go_sem,u];exact Al)) ?_
    refine Lt fun yn1_2658 w =>Te (fr':=[(0,_),(1,_),(2,_),(8,_),(9,u64 yn1_2658)]) [0,1,2,8,9] Aa (Ev (by simp only [go_sem,w];exact Al)) ?_
    refine Lt fun yn0_2660 x =>Te (fr':=[(0,_),(1,_),(2,_),(8,_),(9,_),(10,u64 yn0_2660)]) [0,1,2,8,9,10] Aa (Ev (by simp only [go_sem,x];exact Al)) ?_
    refine Lt fun un32_2662 y =>Te (fr':=[(1,_),(2,_),(8,_),(9,_),(10,_),(11,u64 un32_2662)]) [1,2,8,9,10,11] Aa (Ev (by simp only [go_sem,y];exact Al)) ?_
    refine Lt fun un10_2664 z =>Te (fr':=[(2,_),(8,_),(9,_),(10,_),(11,_),(12,u64 un10_2664)]) [2,8,9,10,11,12] Aa (Ev (by simp only [go_sem,z];exact Al)) ?_
    refine Lt fun un1_2666 aa =>Te (fr':=[(2,_),(8,_),(9,_),(10,_),(11,_),(12,_),(13,u64 un1_2666)]) [2,8,9,10,11,12,13] Aa (Ev (by simp only [go_sem,aa];exact Al)) ?_
    refine Lt fun un0_2668 ab =>Te (fr':=[(2,_),(8,_),(9,_),(10,_),(11,_),(13,_),(14,u64 un0_2668)]) [2,8,9,10,11,13,14] Aa (Ev (by simp only [go_sem,ab];exact Al)) ?_
    refine Ck fun ac =>Te [2,8,9,10,11,13,14,15] Aa (Ev (by simp only [go_sem,ac];exact Al)) ?_
    refine Lt fun ad ae =>Te (fr':=[(2,_),(8,_),(9,_),(10,_),(11,_),(13,_),(14,_),(15,_),(16,u64 ad)]) [2,8,9,10,11,13,14,15,16] Aa (Ev (by simp only [go_sem,ae];exact Al)) ?_
    refine Ja (fun q1_2692 => ⟨Ar 135 [(2,u64 a),(8,u64 (UInt64.ofInt b)),(9,u64 yn1_2658),(10,u64 yn0_2660),(11,u64 un32_2662),(13,u64 un1_2666),(14,u64 un0_2668),(15,u64 q1_2692)],[]⟩) ?_ ?_
    ·intro ap
     refine Sb ?_
     refine Lo (fun (v : UInt64×UInt64) => (⟨Ar 135 [(2,u64 a),(8,u64 (UInt64.ofInt b)),(9,u64 yn1_2658),(10,u64 yn0_2660),(11,u64 un32_2662),(13,u64 un1_2666),(14,u64 un0_2668),(15,u64 v.1),(16,u64 v.2)],[]⟩ : St)) (ws []) ?_
     rintro ⟨q1_2701,i⟩ aq af j k
     show Gz yn1_2658 yn0_2660 un1_2666 q1_2701 i = some af→_
     unfold Gz
     refine Sq ?_
     refine Tw [2,8,9,10,11,13,14,15,16,78] (fun l => ⟨Ar 135 [(2,u64 a),(8,u64 (UInt64.ofInt b)),(9,u64 yn1_2658),(10,u64 yn0_2660),(11,u64 un32_2662),(13,u64 un1_2666),(14,u64 un0_2668),(15,u64 q1_2701),(16,u64 i),(78,.bool l)],[]⟩) ?_ ?_
     ·intro _
      refine Sp (fun c => ?_) fun c => ?_
      ·exact Lf Aa (Ev (by simp only [go_sem,c];exact Al)) (ws [])
      ·exact Lf Aa (Ev (by simp only [go_sem,c];exact Al)) (ws [])
     intro l
     refine Cd ?_ ?_
     ·refine Sk <|Tn <|Sb <|T0 [2,8,9,10,11,13,14,15,16] ?_
      refine T0 [2,8,9,10,11,13,14,15,16] ?_
      refine T0 [2,8,9,10,11,13,14,15,16,85] ?_
      refine Cd ?_ ?_
      ·refine Sx <|Bo <|Ly k j <|Bx <|?_
       exact Jm ((ws (l':=[(2,u64 a),(8,u64 (UInt64.ofInt b)),(9,u64 yn1_2658),(10,u64 yn0_2660),(11,u64 un32_2662),(13,u64 un1_2666),(14,u64 un0_2668),(15,u64 (q1_2701 - (1 : UInt64)))]) (σ':=[]) []).trans (ws []))
      ·exact Sk <|Bn <|Ln (ws [])
     ·refine Sx <|Tx <|Ly k j <|Bx <|?_
      exact Jm ((ws (l':=[(2,u64 a),(8,u64 (UInt64.ofInt b)),(9,u64 yn1_2658),(10,u64 yn0_2660),(11,u64 un32_2662),(13,u64 un1_2666),(14,u64 un0_2668),(15,u64 q1_2701)]) (σ':=[]) []).trans (ws []))
    intro q1_2692
    refine Lt fun un21_2715 ag =>Te (fr':=[(2,_),(8,_),(9,_),(10,_),(14,_),(15,_),(17,u64 un21_2715)]) [2,8,9,10,14,15,17] Aa (Ev (by simp only [go_sem,ag];exact Al)) ?_
    refine Ck fun ah =>Te [2,8,9,10,14,15,17,18] Aa (Ev (by simp only [go_sem,ah];exact Al)) ?_
    refine Lt fun ai aj =>Te (fr':=[(2,_),(8,_),(9,_),(10,_),(14,_),(15,_),(16,u64 ai),(17,_),(18,_)]) [2,8,9,10,14,15,16,17,18] Aa (Ev (by simp only [go_sem,aj];exact Al)) ?_
    refine Ja (fun q0_2739 => ⟨Ar 135 [(2,u64 a),(8,u64 (UInt64.ofInt b)),(14,u64 un0_2668),(15,u64 q1_2692),(17,u64 un21_2715),(18,u64 q0_2739)],[]⟩) ?_ ?_
    ·intro ar
     refine Sb ?_
     refine Lo (fun (v : UInt64×UInt64) => (⟨Ar 135 [(2,u64 a),(8,u64 (UInt64.ofInt b)),(9,u64 yn1_2658),(10,u64 yn0_2660),(14,u64 un0_2668),(15,u64 q1_2692),(16,u64 v.1),(17,u64 un21_2715),(18,u64 v.2)],[]⟩ : St)) (ws []) ?_
     rintro ⟨m,q0_2749⟩ au ak n o
     show Gs yn1_2658 yn0_2660 un0_2668 m q0_2749 = some ak→_
     unfold Gs
     refine Sq ?_
     refine Tw [2,8,9,10,14,15,16,17,18,113] (fun p => ⟨Ar 135 [(2,u64 a),(8,u64 (UInt64.ofInt b)),(9,u64 yn1_2658),(10,u64 yn0_2660),(14,u64 un0_2668),(15,u64 q1_2692),(16,u64 m),(17,u64 un21_2715),(18,u64 q0_2749),(113,.bool p)],[]⟩) ?_ ?_
     ·intro _
      refine Sp (fun d => ?_) fun d => ?_
      ·exact Lf Aa (Ev (by simp only [go_sem,d];exact Al)) (ws [])
      ·exact Lf Aa (Ev (by simp only [go_sem,d];exact Al)) (ws [])
     intro p
     refine Cd ?_ ?_
     ·refine Sk <|Tn <|Sb <|T0 [2,8,9,10,14,15,16,17,18] ?_
      refine T0 [2,8,9,10,14,15,16,17,18] ?_
      refine T0 [2,8,9,10,14,15,16,17,18,120] ?_
      refine Cd ?_ ?_
      ·refine Sx <|Bo <|Ly o n <|Bx <|?_
       exact Jm ((ws (l':=[(2,u64 a),(8,u64 (UInt64.ofInt b)),(14,u64 un0_2668),(15,u64 q1_2692),(17,u64 un21_2715),(18,u64 (q0_2749 - (1 : UInt64)))]) (σ':=[]) []).trans (ws []))
      ·exact Sk <|Bn <|Ln (ws [])
     ·refine Sx <|Tx <|Ly o n <|Bx <|?_
      exact Jm ((ws (l':=[(2,u64 a),(8,u64 (UInt64.ofInt b)),(14,u64 un0_2668),(15,u64 q1_2692),(17,u64 un21_2715),(18,u64 q0_2749)]) (σ':=[]) []).trans (ws []))
    intro q0_2739
    refine Lt fun al am =>Lt fun an ao =>Te (fr':=[(6,u64 al),(7,u64 an)]) [6,7] Aa (Ev (by simp only [go_sem,am,ao];exact Al)) ?_
    exact Sr <|Rr
theorem Gu {a b c r} (h : Dg a b c = some r) : Con B 70 [u64 a,u64 b,.ref 0 0] [.box [u64 c] false] (fun r' σ' => r' = u64 r.1∧σ' = [.box [u64 r.2] false]):=by
 refine Co 1 28 [.tmp 5] Tryd.func70 (fun F hE => ?_) h
 unfold Dg
 refine T0 [0,1,2] ?_
 refine Ck fun d =>Ck fun e =>Bd fun i f =>De [[],[],[0,1],[],[],[3,4],[0,1,2,3,4,5],[0,1,2,3,4,5,6],[0,1,2,3,4,5,6,7],[0,1,2,3,4,5,6,7],[0,1,2,3,4,5,6,7,8],[0,1,2,3,4,5,6,7,8,9,10]] [2,6,7] (o1 17 (Xu f)) (Ev (by simp only [go_sem,d,e];exact Al)) ?_
 refine Bd fun j g =>Te [9] (o1 24 (X0 g)) Ev ?_
 refine T0 [5] ?_
 exact Sr <|Ro [0]
theorem Ka {a r} (h : Hd a = some r) : Con B 47 [u64 a] [] (fun r' σ' => r' = .fn 70 [.ref 0 0]∧σ' = [.box [u64 r] false]):=by
 refine Co 0 4 [.tmp 2] Tryd.func47 (fun F hE => ?_) h
 unfold Hd
 refine T0 [1] ?_
 refine T0 [2] ?_
 exact Sr <|Ro [0]
theorem Jf {a c r} (h : Jt a c = some r) : Con B 48 [u64 a,u64 c] [] (fun r' σ' => r' = u64 r∧σ' = []):=by
 refine Cw 33 [.tmp 4] Tryd.func48 (fun F hE => ?_) h
 unfold Jt
 refine T0 [0,1] ?_
 refine Bd fun y j =>Te [0,1,5] (As (l:=[]) (m:=[(8,47,[u64 (2305843009213690799 : UInt64)],[],_,_)]) trivial ⟨(wc (Ka j) []),trivial⟩) Ev ?_
 refine T0 [0,1,5,6] ?_
 refine Ja (fun g => ⟨Ar 33 [(6,u64 g)],[]⟩) ?_ ?_
 ·intro z
  refine Bd fun f k =>Te [0,1,5,6,10,11] (o1 10 (Lp k)) Ev ?_
  refine Sb ?_
  refine Lo (fun ⟨b,d,e⟩ => ⟨Ar 33 [(0,u64 a),(1,u64 c),(5,.fn 70 [.ref 0 0]),(6,u64 b),(10,i64 f),(11,i64 d)],[.box [u64 e] false]⟩) (ws [0]) ?_
  rintro ⟨b,d,e⟩ aa n o p
  show Kf a c f b d e = some n→_
  unfold Kf
  refine T0 [0,1,5,6,10,11,12] ?_
  refine Sq <|Cd ?_ ?_
  ·refine Sk <|Tn <|?_
   refine Ja (fun (v : UInt64×UInt64) => (⟨Ar 33 [(0,u64 a),(1,u64 c),(5,.fn 70 [.ref 0 0]),(6,u64 v.1),(10,i64 f),(11,i64 d)],[.box [u64 v.2] false]⟩ : St)) ?_ ?_
   ·intro ab
    refine Sb <|T0 [0,1,5,6,7,10,11] ?_
    refine Bd fun i q =>Te [0,1,5,6,7,10,11] (As (l:=[]) (m:=[(17,70,[u64 b,u64 b,.ref 0 0],[.box [u64 e] false],_,_)]) trivial ⟨(wc (Gu q) [0]),trivial⟩) Ev ?_
    refine Bd fun ac s =>Ck fun t =>Lt fun u w =>Te (fr':=[(0,_),(1,_),(5,_),(6,_),(10,_),(11,_),(26,.bool u)]) [0,1,5,6,10,11,26] (o1 20 (Lp s)) (Ev (by simp only [go_sem,t,w];exact Al)) ?_
    refine Cd ?_ ?_
    ·refine Bd fun ad x =>Fe [0,1,5,6,10,11] (As (l:=[]) (m:=[(30,70,[u64 i.1,u64 a,.ref 0 0],[.box [u64 i.2] false],_,_)]) trivial ⟨(wc (Gu x) [0]),trivial⟩) Ev ?_
     exact Bn <|Jm (ws [0])
    ·exact Sk <|Bn <|Jm (ws [0])
   rintro ⟨ae,af⟩
   refine F0 [0,1,5,6,10,11] ?_
   exact Ln (ws [0])
  ·refine Sx <|Tx <|Ly p o <|Bx <|?_
   exact Jm ((ws (l':=[(6,u64 b)]) (σ':=[]) []).trans (ws []))
 intro g
 refine T0 [4] ?_
 exact Sr <|Rr
theorem Pp {c r} (h : Jz c = some r) : Con B 46 [u64 c] [] (fun r' σ' => r' = .bool r∧σ' = []):=by
 refine Cw 14 [.tmp 2] Tryd.func46 (fun F hE => ?_) h
 unfold Jz
 refine T0 [0] ?_
 refine Tw [2] (fun d => ⟨Ar 14 [(2,.bool d)],[]⟩) ?_ ?_
 ·intro _
  refine Sp (fun a => ?_) fun a => ?_
  ·refine Sp (fun b => ?_) fun b => ?_
   ·refine Bd fun f e => ?_
    exact Lf (o1 11 (Jf e)) (Ev (by simp only [go_sem,a,b];exact Al)) (ws [])
   ·exact Lf Aa (Ev (by simp only [go_sem,a,b];exact Al)) (ws [])
  ·exact Lf Aa (Ev (by simp only [go_sem,a];exact Al)) (ws [])
 intro d
 exact Sr <|Rr
theorem Oi {a r} (h : Ij a = some r) : Con B 32 [u64 a] [] (fun r' σ' => r' = .tup [u64 r.1,i64 r.2]∧σ' = []):=by
 refine Cw 12 [.tmp 2,.tmp 3] Tryd.func32 (fun F hE => ?_) h
 unfold Ij
 refine T0 [0] ?_
 refine Sq ?_
 refine Tw [0,9] (fun c => ⟨Ar 12 [(0,u64 a),(9,.bool c)],[]⟩) ?_ ?_
 ·intro _
  refine Sp (fun b => ?_) fun b => ?_
  ·exact Lf Aa (Ev (by simp only [go_sem,b];exact Al)) (ws [])
  ·exact Lf Aa (Ev (by simp only [go_sem,b];exact Al)) (ws [])
 intro c
 refine Cd ?_ ?_
 ·refine T0 [2,3] ?_
  exact Sr <|Tr <|Rr
 ·refine Sk <|Tn <|Bd fun e d =>Te [2,3] (o1 11 (Jf d)) Ev ?_
  exact Sr <|Rr
theorem Pk {a b r} (h : Jy a b = some r) : Con B 33 [.agg (Ap a),i64 b] [] (fun r' σ' => r' = .sl false (L Ak r)∧σ' = []):=by
 refine Cw 15 [.tmp 4] Tryd.func33 (fun F hE => ?_) h
 unfold Jy
 refine T0 [1,2] ?_
 refine Sq <|T0 [1,2,9] ?_
 refine Cd ?_ ?_
 ·refine T0 [4] ?_
  exact Sr <|Tr <|Rr
 ·refine Sk <|Tn <|Ck fun c =>Te [4] Aa (Ev (by simp only [go_sem,qR c];exact Al)) ?_
  exact Sr <|Rr
theorem Ji {a r} (h : I9 a = some r) : Con B 68 [i64 a] [] (fun r' σ' => r' = .agg [i64 r.Za,i64 r.N,.sl false (L cU8 r.B),.sl false (L cApi_Value r.L)]∧σ' = []):=by
 refine Cw 5 [.cell 2 112] Tryd.func68 (fun F hE => ?_) h
 unfold I9
 refine T0 [0,2] ?_
 refine T0 [2] ?_
 exact Sr <|Rr
theorem Pm {a r} (h : O8 a = some r) : Con B 69 [.sl false (L cU8 a)] [] (fun r' σ' => r' = .agg [i64 r.Za,i64 r.N,.sl false (L cU8 r.B),.sl false (L cApi_Value r.L)]∧σ' = []):=by
 refine Cw 5 [.cell 2 112] Tryd.func69 (fun F hE => ?_) h
 unfold O8
 refine T0 [0,2] ?_
 refine T0 [2] ?_
 exact Sr <|Rr
theorem A8 {a r} (h : Bm a = some r) : Con B 84 [i64 a] [] (fun r' σ' => r' = .agg [i64 r.Za,i64 r.N,.sl false (L cU8 r.B),.sl false (L cApi_Value r.L)]∧σ' = []):=by
 refine Cw 5 [.cell 2 112] Tryd.func84 (fun F hE => ?_) h
 unfold Bm
 refine T0 [0,2] ?_
 refine T0 [2] ?_
 exact Sr <|Rr
theorem Sh {r} (h : edi_list_cnil  = some r) : Con B 85 [.sl true (L cApi_Value ([]))] [] (fun r' σ' => r' = .agg [i64 r.Za,i64 r.N,.sl true (L cU8 ([])),.sl true (L cApi_Value ([]))]∧σ' = []):=by
 refine Co 0 5 [.cell 2 112] Tryd.func85 (fun F hE => ?_) h
 unfold edi_list_cnil
 refine T0 [0,2] ?_
 refine T0 [2] ?_
 exact Sr <|Ro []
theorem Tl {a r} (h : K7 a = some r) : Con B 85 [.bs false 0 (a.length) 0 (a.length)] [.buf 4 (L cApi_Value a) false] (fun r' σ' => r' = .agg [i64 r.Za,i64 r.N,.sl true (L cU8 ([])),.bs false 0 (r.L.length) 0 (r.L.length)]∧σ' = [.buf 4 (L cApi_Value r.L) false]):=by
 refine Co 1 5 [.cell 2 112] Tryd.func85 (fun F hE => ?_) h
 unfold K7
 refine T0 [0,2] ?_
 refine T0 [2] ?_
 exact Sr <|Ro [0]
theorem L6 {a r} (h : Gx a = some r) : Con B 85 [.sl false (L cApi_Value a)] [] (fun r' σ' => r' = .agg [i64 r.Za,i64 r.N,.sl true (L cU8 ([])),.sl false (L cApi_Value r.L)]∧σ' = []):=by
 refine Co 0 5 [.cell 2 112] Tryd.func85 (fun F hE => ?_) h
 unfold Gx
 refine T0 [0,2] ?_
 refine T0 [2] ?_
 exact Sr <|Ro []
theorem Abe {a r} (h : Us a = some r) : Con B 87 [.str a] [] (fun r' σ' => r' = .agg [i64 r.Za,i64 r.N,.sl false (L cU8 r.B),.sl false (L cApi_Value r.L)]∧σ' = []):=by
 refine Cw 6 [.cell 2 112] Tryd.func87 (fun F hE => ?_) h
 unfold Us
 refine T0 [0,2] ?_
 refine T0 [2] ?_
 exact Sr <|Rr
theorem M0 {b r} (h : Kd b = some r) : Con B 64 [.agg (A5 b)] [] (fun r' σ' => r' = .agg [i64 r.Za,i64 r.N,.sl false (L cU8 r.B),.sl false (L cApi_Value r.L)]∧σ' = []):=by
 refine Cw 70 [.cell 2 112] Tryd.func64 (fun F hE => ?_) h
 unfold Kd
 refine T0 [1,2] ?_
 refine Bd fun bE au =>Bd fun av aw =>Bd fun ax ay =>Bd fun bF az =>Lt fun f aA =>De (fr':=[(1,_),(2,_),(3,.bs true 2 (f.length) 0 (f.length))]) (σ':=[_,_,.buf 4 (L cApi_Value f) false]) [[],[0],[0,1],[],[3],[3,4],[0,1,2,3,4,5],[],[7],[7,8],[0,1,2,3,4,5,6,7,8,9],[0,1,2,3,4,5,6,7,8,9,10],[0,1,2,3,4,5,6,7,8,9,10,11],[0,1,2,3,4,5,6,7,8,9,10,11,12],[0,1,2,3,4,5,6,7,8,9,10,11,12,13]] [1,2,3] (As (l:=[(12,_,_,_),(16,_,_,_),(20,_,_,_)]) (m:=[(22,85,[.sl false (L cApi_Value ([av,ax] : List Api_Value))],[.box (A5 b) false,.box [i64 0,i64 0,.sl true (L cU8 ([])),.sl true (L cApi_Value ([]))] false],_,_)]) ⟨A8  au,A8  aw,A8  ay,trivial⟩ ⟨(wc (L6 az) []),trivial⟩) (Ev (by simp only [go_sem,aA];exact Al)) ?_
 refine Ja (fun a => ⟨Ar 70 [(1,.ref 0 0),(2,.ref 1 0),(3,.bs false 2 (a.length) 0 (a.length))],[.box (A5 b) false,.box [i64 0,i64 0,.sl true (L cU8 ([])),.sl true (L cApi_Value ([]))] false,.buf 4 (L cApi_Value a) false]⟩) ?_ ?_
 ·intro bG
  refine Te [1,2,3,24,25] (As (l:=[]) (m:=[(24,86,[.ref 0 0],[.box (A5 b) false,.box [i64 0,i64 0,.sl true (L cU8 ([])),.sl true (L cApi_Value ([]))] false,.buf 4 (L cApi_Value f) false],.agg [.ref 0 3,.ref 0 4,.ref 0 5,.ref 0 6,.ref 0 7,.ref 0 8,.ref 0 9,.ref 0 10,.ref 0 11,.ref 0 12,.ref 0 13],[.box (A5 b) false,.box [i64 0,i64 0,.sl true (L cU8 ([])),.sl true (L cApi_Value ([]))] false,.buf 4 (L cApi_Value f) false])]) trivial ⟨Tg,trivial⟩) Ev ?_
  refine Sb ?_
  refine Ul 17 ?_
  refine Ug (m:=16) ?_
  refine T0 [1,2,3,24,25,26] ?_
  refine Sq <|Ct <|Sk <|Tn <|Sq <|Sb <|?_
  have ad : InR 0 11:=by decide
  refine Te [1,2,3,5,24,25] Aa (Ev (by simp only [go_sem,ad,ad.2];exact Al)) ?_
  refine Bd fun bH aB =>Ck fun aC =>Lt fun k aD =>Fe (fr':=[(1,_),(2,_),(3,.bs false 2 (k.length) 0 (k.length)),(24,_),(25,_)]) (σ':=[_,_,.buf 4 (L cApi_Value k) false,_]) [1,2,3,24,25] (o1 32 (A8 aB)) (Ev (by simp only [go_sem,aC,aD];exact Al)) ?_
  refine Bn <|Tn <|?_
  have aE : w64 1 = 1:=by decide
  refine Fe [1,2,3,24,25] Aa (Ev (by simp only [go_sem,aE];exact Al)) ?_
  refine Un ?_
  refine Ug (m:=15) ?_
  refine T0 [1,2,3,24,25,26] ?_
  refine Sq <|Ct <|Sk <|Tn <|Sq <|Sb <|?_
  have ae : InR 1 11:=by decide
  refine Te [1,2,3,5,24,25] Aa (Ev (by simp only [go_sem,ae,ae.2];exact Al)) ?_
  refine Bd fun bI aF =>Ck fun aG =>Lt fun n aH =>Fe (fr':=[(1,_),(2,_),(3,.bs false 2 (n.length) 0 (n.length)),(24,_),(25,_)]) (σ':=[_,_,.buf 4 (L cApi_Value n) false,_,_]) [1,2,3,24,25] (o1 32 (A8 aF)) (Ev (by simp only [go_sem,aG,aH];exact Al)) ?_
  refine Bn <|Tn <|?_
  have aI : w64 2 = 2:=by decide
  refine Fe [1,2,3,24,25] Aa (Ev (by simp only [go_sem,aI];exact Al)) ?_
  refine Un ?_
  refine Ug (m:=14) ?_
  refine T0 [1,2,3,24,25,26] ?_
  refine Sq <|Ct <|Sk <|Tn <|Sq <|Sb <|?_
  have af : InR 2 11:=by decide
  refine Te [1,2,3,5,24,25] Aa (Ev (by simp only [go_sem,af,af.2];exact Al)) ?_
  refine Bd fun bJ aJ =>Ck fun aK =>Lt fun o aL =>Fe (fr':=[(1,_),(2,_),(3,.bs false 2 (o.length) 0 (o.length)),(24,_),(25,_)]) (σ':=[_,_,.buf 4 (L cApi_Value o) false,_,_,_]) [1,2,3,24,25] (o1 32 (A8 aJ)) (Ev (by simp only [go_sem,aK,aL];exact Al)) ?_
  refine Bn <|Tn <|?_
  have aM : w64 3 = 3:=by decide
  refine Fe [1,2,3,24,25] Aa (Ev (by simp only [go_sem,aM];exact Al)) ?_
  refine Un ?_
  refine Ug (m:=13) ?_
  refine T0 [1,2,3,24,25,26] ?_
  refine Sq <|Ct <|Sk <|Tn <|Sq <|Sb <|?_
  have ag : InR 3 11:=by decide
  refine Te [1,2,3,5,24,25] Aa (Ev (by simp only [go_sem,ag,ag.2];exact Al)) ?_
  refine Bd fun bK aN =>Ck fun aO =>Lt fun p aP =>Fe (fr':=[(1,_),(2,_),(3,.bs false 2 (p.length) 0 (p.length)),(24,_),(25,_)]) (σ':=[_,_,.buf 4 (L cApi_Value p) false,_,_,_,_]) [1,2,3,24,25] (o1 32 (A8 aN)) (Ev (by simp only [go_sem,aO,aP];exact Al)) ?_
  refine Bn <|Tn <|?_
  have aQ : w64 4 = 4:=by decide
  refine Fe [1,2,3,24,25] Aa (Ev (by simp only [go_sem,aQ];exact Al)) ?_
  refine Un ?_
  refine Ug (m:=12) ?_
  refine T0 [1,2,3,24,25,26] ?_
  refine Sq <|Ct <|Sk <|Tn <|Sq <|Sb <|?_
  have ah : InR 4 11:=by decide
  refine Te [1,2,3,5,24,25] Aa (Ev (by simp only [go_sem,ah,ah.2];exact Al)) ?_
  refine Bd fun bL aR =>Ck fun aS =>Lt fun q aT =>Fe (fr':=[(1,_),(2,_),(3,.bs false 2 (q.length) 0 (q.length)),(24,_),(25,_)]) (σ':=[_,_,.buf 4 (L cApi_Value q) false,_,_,_,_,_]) [1,2,3,24,25] (o1 32 (A8 aR)) (Ev (by simp only [go_sem,aS,aT];exact Al)) ?_
  refine Bn <|Tn <|?_
  have aU : w64 5 = 5:=by decide
  refine Fe [1,2,3,24,25] Aa (Ev (by simp only [go_sem,aU];exact Al)) ?_
  refine Un ?_
  refine Ug (m:=11) ?_
  refine T0 [1,2,3,24,25,26] ?_
  refine Sq <|Ct <|Sk <|Tn <|Sq <|Sb <|?_
  have ai : InR 5 11:=by decide
  refine Te [1,2,3,5,24,25] Aa (Ev (by simp only [go_sem,ai,ai.2];exact Al)) ?_
  refine Bd fun bM aV =>Ck fun aW =>Lt fun s aX =>Fe (fr':=[(1,_),(2,_),(3,.bs false 2 (s.length) 0 (s.length)),(24,_),(25,_)]) (σ':=[_,_,.buf 4 (L cApi_Value s) false,_,_,_,_,_,_]) [1,2,3,24,25] (o1 32 (A8 aV)) (Ev (by simp only [go_sem,aW,aX];exact Al)) ?_
  refine Bn <|Tn <|?_
  have aY : w64 6 = 6:=by decide
  refine Fe [1,2,3,24,25] Aa (Ev (by simp only [go_sem,aY];exact Al)) ?_
  refine Un ?_
  refine Ug (m:=10) ?_
  refine T0 [1,2,3,24,25,26] ?_
  refine Sq <|Ct <|Sk <|Tn <|Sq <|Sb <|?_
  have aj : InR 6 11:=by decide
  refine Te [1,2,3,5,24,25] Aa (Ev (by simp only [go_sem,aj,aj.2];exact Al)) ?_
  refine Bd fun bN aZ =>Ck fun a0 =>Lt fun t a1 =>Fe (fr':=[(1,_),(2,_),(3,.bs false 2 (t.length) 0 (t.length)),(24,_),(25,_)]) (σ':=[_,_,.buf 4 (L cApi_Value t) false,_,_,_,_,_,_,_]) [1,2,3,24,25] (o1 32 (A8 aZ)) (Ev (by simp only [go_sem,a0,a1];exact Al)) ?_
  refine Bn <|Tn <|?_
  have a2 : w64 7 = 7:=by decide
  refine Fe [1,2,3,24,25] Aa (Ev (by simp only [go_sem,a2];exact Al)) ?_
  refine Un ?_
  refine Ug (m:=9) ?_
  refine T0 [1,2,3,24,25,26] ?_
  refine Sq <|Ct <|Sk <|Tn <|Sq <|Sb <|?_
  have ak : InR 7 11:=by decide
  refine Te [1,2,3,5,24,25] Aa (Ev (by simp only [go_sem,ak,ak.2];exact Al)) ?_
  refine Bd fun bO a3 =>Ck fun a4 =>Lt fun u a5 =>Fe (fr':=[(1,_),(2,_),(3,.bs false 2 (u.length) 0 (u.length)),(24,_),(25,_)]) (σ':=[_,_,.buf 4 (L cApi_Value u) false,_,_,_,_,_,_,_,_]) [1,2,3,24,25] (o1 32 (A8 a3)) (Ev (by simp only [go_sem,a4,a5];exact Al)) ?_
  refine Bn <|Tn <|?_
  have a6 : w64 8 = 8:=by decide
  refine Fe [1,2,3,24,25] Aa (Ev (by simp only [go_sem,a6];exact Al)) ?_
  refine Un ?_
  refine Ug (m:=8) ?_
  refine T0 [1,2,3,24,25,26] ?_
  refine Sq <|Ct <|Sk <|Tn <|Sq <|Sb <|?_
  have al : InR 8 11:=by decide
  refine Te [1,2,3,5,24,25] Aa (Ev (by simp only [go_sem,al,al.2];exact Al)) ?_
  refine Bd fun bP a7 =>Ck fun a8 =>Lt fun w a9 =>Fe (fr':=[(1,_),(2,_),(3,.bs false 2 (w.length) 0 (w.length)),(24,_),(25,_)]) (σ':=[_,_,.buf 4 (L cApi_Value w) false,_,_,_,_,_,_,_,_,_]) [1,2,3,24,25] (o1 32 (A8 a7)) (Ev (by simp only [go_sem,a8,a9];exact Al)) ?_
  refine Bn <|Tn <|?_
  have ba : w64 9 = 9:=by decide
  refine Fe [1,2,3,24,25] Aa (Ev (by simp only [go_sem,ba];exact Al)) ?_
  refine Un ?_
  refine Ug (m:=7) ?_
  refine T0 [1,2,3,24,25,26] ?_
  refine Sq <|Ct <|Sk <|Tn <|Sq <|Sb <|?_
  have am : InR 9 11:=by decide
  refine Te [1,2,3,5,24,25] Aa (Ev (by simp only [go_sem,am,am.2];exact Al)) ?_
  refine Bd fun bQ bb =>Ck fun bc =>Lt fun x bd =>Fe (fr':=[(1,_),(2,_),(3,.bs false 2 (x.length) 0 (x.length)),(24,_),(25,_)]) (σ':=[_,_,.buf 4 (L cApi_Value x) false,_,_,_,_,_,_,_,_,_,_]) [1,2,3,24,25] (o1 32 (A8 bb)) (Ev (by simp only [go_sem,bc,bd];exact Al)) ?_
  refine Bn <|Tn <|?_
  have be : w64 10 = 10:=by decide
  refine Fe [1,2,3,24,25] Aa (Ev (by simp only [go_sem,be];exact Al)) ?_
  refine Un ?_
  refine Ug (m:=6) ?_
  refine T0 [1,2,3,24,25,26] ?_
  refine Sq <|Ct <|Sk <|Tn <|Sq <|Sb <|?_
  have an : InR 10 11:=by decide
  refine Te [1,2,3,5,24,25] Aa (Ev (by simp only [go_sem,an,an.2];exact Al)) ?_
  refine Bd fun bR bf =>Ck fun bg =>Lt fun y bh =>Fe (fr':=[(1,_),(2,_),(3,.bs false 2 (y.length) 0 (y.length)),(24,_),(25,_)]) (σ':=[_,_,.buf 4 (L cApi_Value y) false,_,_,_,_,_,_,_,_,_,_,_]) [1,2,3,24,25] (o1 32 (A8 bf)) (Ev (by simp only [go_sem,bg,bh];exact Al)) ?_
  refine Bn <|Tn <|?_
  have bi : w64 11 = 11:=by decide
  refine Fe [1,2,3,24,25] Aa (Ev (by simp only [go_sem,bi];exact Al)) ?_
  refine Un ?_
  refine Ug (m:=5) ?_
  refine T0 [1,2,3,24,25,26] ?_
  exact Sq <|Cf <|Sx <|Tx <|Ux <|Bx <|Jm (ws [0,1,2])
 intro a
 refine Bd fun c bj =>Te [1,2,3,6] (As (l:=[]) (m:=[(36,85,[.sl true (L cApi_Value ([]))],[.box (A5 b) false,.box [i64 0,i64 0,.sl true (L cU8 ([])),.sl true (L cApi_Value ([]))] false,.buf 4 (L cApi_Value a) false],_,_)]) trivial ⟨(wc (Sh bj) []),trivial⟩) Ev ?_
 refine Ja (fun e => ⟨Ar 70 [(1,.ref 0 0),(2,.ref 1 0),(3,.bs false 2 (a.length) 0 (a.length)),(6,.ref 3 0)],[.box (A5 b) false,.box [i64 0,i64 0,.sl true (L cU8 ([])),.sl true (L cApi_Value ([]))] false,.buf 4 (L cApi_Value a) false,.box [i64 c.Za,i64 c.N,.sl true (L cU8 ([])),.bs false 4 (e.length) 0 (e.length)] false,.buf 4 (L cApi_Value e) false]⟩) ?_ ?_
 ·intro bS
  refine T0 [1,2,3,6,38,39,40] ?_
  refine Sb ?_
  refine Lo (fun (v : Int×List Api_Value) => (⟨Ar 70 [(1,.ref 0 0),(2,.ref 1 0),(3,.bs false 2 (a.length) 0 (a.length)),(6,.ref 3 0),(38,.sl false (L Aj b.Zu1)),(39,i64 (b.Zu1.length : Int)),(40,i64 v.1)],[.box (A5 b) false,.box [i64 0,i64 0,.sl true (L cU8 ([])),.sl true (L cApi_Value ([]))] false,.buf 4 (L cApi_Value a) false,.box [i64 c.Za,i64 c.N,.sl true (L cU8 ([])),.bs false 4 (v.2.length) 0 (v.2.length)] false,.buf 4 (L cApi_Value v.2) false]⟩ : St)) ((Kz 3 3 4 rfl rfl).trans (ws [0,1,2,3,4])) ?_
  rintro ⟨z,d⟩ bT bk bl bm
  show Gi b z d = some bk→_
  unfold Gi
  refine T0 [1,2,3,6,38,39,40,41] ?_
  refine Sq <|Cd ?_ ?_
  ·refine Sk <|Tn <|Sq <|Sb <|Ck fun bn =>Lt fun g bo =>Lt fun i bp =>Lt fun j bq =>Te (σ':=[_,_,_,_,_,.box [i64 g,i64 i,.bool j] false]) [1,2,3,6,8,38,39,40] Aa (Ev (by simp only [go_sem,qR bn,bo,bp,bq];exact Al)) ?_
   refine T0 [1,2,3,6,8,9,38,39,40] ?_
   refine Ja (fun ao => ⟨Ar 70 [(1,.ref 0 0),(2,.ref 1 0),(3,.bs false 2 (a.length) 0 (a.length)),(6,.ref 3 0),(8,.ref 4 0),(9,i64 ao),(38,.sl false (L Aj b.Zu1)),(39,i64 (b.Zu1.length : Int)),(40,i64 z)],[.box (A5 b) false,.box [i64 0,i64 0,.sl true (L cU8 ([])),.sl true (L cApi_Value ([]))] false,.buf 4 (L cApi_Value a) false,.box [i64 c.Za,i64 c.N,.sl true (L cU8 ([])),.bs false 5 (d.length) 0 (d.length)] false,.box [i64 g,i64 i,.bool j] false,.buf 4 (L cApi_Value d) false]⟩) ?_ ?_
   ·intro bU
    refine T0 [1,2,3,6,8,9,38,39,40,45] ?_
    refine Cd ?_ ?_
    ·refine F0 [1,2,3,6,8,9,38,39,40] ?_
     exact Jm (ws [0,1,2,3,5,4])
    ·exact Sk <|Jm (ws [0,1,2,3,5,4])
   intro ao
   refine Bd fun br bt =>Bd fun bu bv =>Bd fun bw bx =>Bd fun bV bz =>Ck fun ap =>Lt fun aa aq =>?_
   intro h
   refine AfK hE Tt [[],[0],[],[2],[2,3],[],[5],[2,3,4,5,6],[],[2,3,4,5,6,7,8],[2,3,4,5,6,7,8,9],[2,3,4,5,6,7,8,9,10],[2,3,4,5,6,7,8,9,10,11],[0,1,2,3,4,5,6,7,8,9,10,11,12],[0,1,2,3,4,5,6,7,8,9,10,11,12,13],[0,1,2,3,4,5,6,7,8,9,10,11,12,13,14]] (by kernel_rfl) 11 [0,1] [1,2,3,6,38,39,40,46] (by kernel_rfl) (Qs N4) (fr':=[(1,.ref 0 0),(2,.ref 1 0),(3,.bs false 2 (a.length) 0 (a.length)),(6,.ref 3 0),(38,.sl false (L Aj b.Zu1)),(39,i64 (b.Zu1.length : Int)),(40,i64 z),(46,.ref 3 3)]) (σ':=[.box (A5 b) false,.box [i64 0,i64 0,.sl true (L cU8 ([])),.sl true (L cApi_Value ([]))] false,.buf 4 (L cApi_Value a) false,.box [i64 c.Za,i64 c.N,.sl true (L cU8 ([])),.bs false 5 (aa.length) 0 (aa.length)] false,.box [i64 g,i64 i,.bool j] false,.buf 4 (L cApi_Value aa) false]) ⟨_,_,_,_,_,_,_,rfl,?_,(As (l:=[(50,_,_,_),(53,_,_,_),(55,_,_,_)]) (m:=[(57,85,[.sl false (L cApi_Value ([br,bu,bw] : List Api_Value))],[.box (A5 b) false,.box [i64 0,i64 0,.sl true (L cU8 ([])),.sl true (L cApi_Value ([]))] false,.buf 4 (L cApi_Value a) false,.box [i64 c.Za,i64 c.N,.sl true (L cU8 ([])),.bs false 5 (d.length) 0 (d.length)] false,.box [i64 g,i64 i,.bool j] false,.buf 4 (L cApi_Value d) false],_,_)]) ⟨A8  bt,A8  bv,A8  bx,trivial⟩ ⟨(wc (L6 bz) []),trivial⟩),?_⟩ ?_
   ·subst aq;simp only [go_sem,ap]
   ·subst aq;simp only [go_sem,ap]
   revert h
   refine Bn <|Tn <|F0 [1,2,3,6,38,39,40] ?_
   exact Ln (ws [0,1,2,3,5])
  ·refine Sx <|Tx <|Ly bm bl <|Bx <|?_
   exact Jm ((ws (l':=[(1,.ref 0 0),(2,.ref 1 0),(3,.bs false 2 (a.length) 0 (a.length)),(6,.ref 3 0)]) (σ':=[.box (A5 b) false,.box [i64 0,i64 0,.sl true (L cU8 ([])),.sl true (L cApi_Value ([]))] false,.buf 4 (L cApi_Value a) false,.box [i64 c.Za,i64 c.N,.sl true (L cU8 ([])),.bs false 4 (d.length) 0 (d.length)] false,.buf 4 (L cApi_Value d) false]) [0,1,2,3,4]).trans (ws [0,1,2,3,4]))
 intro e
 refine Rw (Oe 3 3 rfl rfl rfl gs gs) ?_
 refine Bd fun ab bA =>Ck fun bB =>Bd fun ar bC =>Lt fun ac bD =>De (σ':=[_,.box [i64 ar.Za,i64 ar.N,.sl true (L cU8 ([])),.bs false 2 (ac.length) 0 (ac.length)] false,.buf 4 (L cApi_Value ac) false,_,_]) [[],[],[1],[1,2],[],[1,2,3,4],[0,1,2,3,4,5],[0,1,2,3,4,5,6],[0,1,2,3,4,5,6,7]] [2] (As (l:=[(65,_,_,_)]) (m:=[(69,85,[.bs false 2 ((a ++ ([ab,(Api_Value.mk c.Za c.N ([]) e)] : List Api_Value)).length) 0 ((a ++ ([ab,(Api_Value.mk c.Za c.N ([]) e)] : List Api_Value)).length)],[.box (A5 b) false,.box [i64 0,i64 0,.sl true (L cU8 ([])),.sl true (L cApi_Value ([]))] false,.buf 4 (L cApi_Value (a ++ ([ab,(Api_Value.mk c.Za c.N ([]) e)] : List Api_Value))) false,.box [i64 c.Za,i64 c.N,.sl true (L cU8 ([])),.sl false (L cApi_Value e)] false,.buf 4 (L cApi_Value e) true],_,_)]) ⟨Abe  bA,trivial⟩ ⟨(wc (Tl bC) [2]),trivial⟩) (Ev (by simp only [go_sem,bB,bD];exact Al)) ?_
 exact Sr <|Rr
theorem Mi {b r} (h : Gr b = some r) : Con B 45 [.agg (Ak b)] [] (fun r' σ' => r' = .bs false 0 (r.length) 0 (r.length)∧σ' = [.buf 4 (L cApi_Value r) false]):=by
 refine Co 0 19 [.tmp 2] Tryd.func45 (fun F hE => ?_) h
 unfold Gr
 refine T0 [1] ?_
 refine Bd fun j c =>Bd fun k d =>Bd fun m e =>Bd fun n f =>Bd fun o g =>Lt fun a i =>De (fr':=[(2,.bs true 1 (a.length) 0 (a.length))]) (σ':=[_,.buf 4 (L cApi_Value a) false]) [[],[0],[0,1],[],[3],[0,1,2,3,4],[],[6],[0,1,2,3,4,5,6,7],[],[9],[0,1,2,3,4,5,6,7,8,9,10],[],[12],[0,1,2,3,4,5,6,7,8,9,10,11,12,13],[0,1,2,3,4,5,6,7,8,9,10,11,12,13,14],[0,1,2,3,4,5,6,7,8,9,10,11,12,13,14,15]] [2] (Iv (l:=[(5,_,_,_),(8,_,_,_),(11,_,_,_),(14,_,_,_),(17,_,_,_)]) ⟨Ji  c,Ji  d,Pm  e,Ji  f,M0  g,trivial⟩) (Ev (by simp only [go_sem,i];exact Al)) ?_
 exact Sr <|Ro [1]
theorem Qk {b r} (h : L0 b = some r) : Con B 51 [u64 b] [] (fun r' σ' => r' = .agg [i64 r.Za,i64 r.N,.sl false (L cU8 r.B),.sl false (L cApi_Value r.L)]∧σ' = []):=by
 refine Cw 23 [.cell 2 112] Tryd.func51 (fun F hE => ?_) h
 unfold L0
 refine T0 [0,2] ?_
 refine Ck fun f =>Lt fun a g =>Te (fr':=[(0,_),(2,_),(3,.bs true 1 (a.length) 0 (a.length))]) (σ':=[_,.buf 1 (L cU8 a) false]) [0,2,3] Aa (Ev (by simp only [go_sem,f,g];exact Al)) ?_
 refine Ja (fun c => ⟨Ar 23 [(2,.ref 0 0),(3,.bs true 1 (c.length) 0 (c.length))],[.box [i64 0,i64 0,.sl true (L cU8 ([])),.sl true (L cApi_Value ([]))] false,.buf 1 (L cU8 c) false]⟩) ?_ ?_
 ·intro q
  refine T0 [0,2,3,7,8] ?_
  refine Sb ?_
  refine Lo (fun (v : Int×List UInt8) => (⟨Ar 23 [(0,u64 b),(2,.ref 0 0),(3,.bs true 1 (v.2.length) 0 (v.2.length)),(7,i64 (a.length : Int)),(8,i64 v.1)],[.box [i64 0,i64 0,.sl true (L cU8 ([])),.sl true (L cApi_Value ([]))] false,.buf 1 (L cU8 v.2) false]⟩ : St)) (ws [0,1]) ?_
  rintro ⟨i,d⟩ s j k l
  show Gl b a i d = some j→_
  unfold Gl
  refine T0 [0,2,3,7,8,9] ?_
  refine Sq <|Cd ?_ ?_
  ·refine Sk <|Tn <|Sq <|Sb <|T0 [0,2,3,4,7,8] ?_
   refine Ck fun m =>Ck fun n =>Lt fun e o =>Fe (fr':=[(0,_),(2,_),(3,.bs true 1 (e.length) 0 (e.length)),(7,_),(8,_)]) (σ':=[_,.buf 1 (L cU8 e) false]) [0,2,3,7,8] Aa (Ev (by simp only [go_sem,m,qR n,o];exact Al)) ?_
   refine Bn <|Tn <|F0 [0,2,3,7,8] ?_
   exact Ln (ws [0,1])
  ·refine Sx <|Tx <|Ly l k <|Bx <|?_
   exact Jm ((ws (l':=[(2,.ref 0 0),(3,.bs true 1 (d.length) 0 (d.length))]) (σ':=[.box [i64 0,i64 0,.sl true (L cU8 ([])),.sl true (L cApi_Value ([]))] false,.buf 1 (L cU8 d) false]) [0,1]).trans (ws [0,1]))
 intro c
 refine Bd fun t p =>Te [2] (o1 22 (Pm p)) Ev ?_
 exact Sr <|Rr
theorem M1 {a r} (h : Om a = some r) : Con B 44 [.sl false (L cApi_Value a)] [] (fun r' σ' => r' = .agg [i64 r.Za,i64 r.N,.sl false (L cU8 r.B),.sl false (L cApi_Value r.L)]∧σ' = []):=by
 refine Cw 5 [.cell 2 112] Tryd.func44 (fun F hE => ?_) h
 unfold Om
 refine T0 [0,2] ?_
 refine T0 [2] ?_
 exact Sr <|Rr
theorem R3 {rec_ : Api_Value→Option (Int×Bool)} (hrec : ∀ {a : Api_Value} {r : Int×Bool},rec_ a = some r→Con B 66 [.agg [i64 a.Za,i64 a.N,.sl false (L cU8 a.B),.sl false (L cApi_Value a.L)]] [] (fun r' σ' => r' = .tup [i64 r.1,.bool r.2]∧σ' = [])) {a : Api_Value} {r : Int×Bool} (h : Hu rec_ a = some r) : Con B 66 [.agg [i64 a.Za,i64 a.N,.sl false (L cU8 a.B),.sl false (L cApi_Value a.L)]] [] (fun r' σ' => r' = .tup [i64 r.1,.bool r.2]∧σ' = []):=by
 refine T7 (N:=64) (rs:=[.tmp 2,.tmp 3]) ok Tryd.func66 rfl (by decide +kernel) rfl rfl (Nat.le_of_ble_eq_true rfl) (fun F => ?_)
 have hE:=ok.env F
 unfold Hu at h
 show Run (B.env F) 0 _ ⟨Ar 64 [(0,.agg [i64 a.Za,i64 a.N,.sl false (L cU8 a.B),.sl false (L cApi_Value a.L)])],[]⟩ _
 refine Ll ?_
 revert h
 refine T0 [1,2] ?_
 refine Jo (fun _ => ⟨Ar 64 [],[]⟩) ?_ ?_
 ·intro ac b
  refine T0 [1,2,9] ?_
  refine Sb <|T0 [1,2,9,10] ?_
  refine Cd ?_ ?_
  ·refine Dw [[],[0],[0,1],[0,1,2],[0,1,2,3],[0,1,2,3,4],[0,1,2,3,4,5],[0,1,2,3,4,5,6],[0,1,2,3,4,5,6,7],[0,1,2,3,4,5,6,7,8],[0,1,2,3,4],[0,1,2,3,4,5,6,7,8,9,10]] [2,3] (fun f => ⟨Ar 64 [(2,i64 0),(3,.bool f)],[]⟩) ?_ ?_
   ·intro _
    refine Sp (fun c => ?_) fun c => ?_
    ·exact Lf Aa (Ev (by simp only [go_sem,c];exact Al)) (ws [])
    ·exact Lf Aa (Ev (by simp only [go_sem,c];exact Al)) (ws [])
   intro f
   exact Sr <|Br <|Jr b <|Rr
  ·refine T0 [1,2,9,22] ?_
   refine Cd ?_ ?_
   ·refine Dw [[],[0],[0,1],[0,1,2],[0,1,2,3],[0,1,2,3,4],[0,1,2,3,4,5],[0,1,2,3,4,5,6],[0,1,2,3,4,5,6,7],[0,1,2,3],[0,1,2,3,4,5,6,7,8,9]] [2,3] (fun g => ⟨Ar 64 [(2,i64 0),(3,.bool g)],[]⟩) ?_ ?_
    ·intro _
     refine Sp (fun d => ?_) fun d => ?_
     ·exact Lf Aa (Ev (by simp only [go_sem,d];exact Al)) (ws [])
     ·exact Lf Aa (Ev (by simp only [go_sem,d];exact Al)) (ws [])
    intro g
    exact Sr <|Br <|Jr b <|Rr
   ·refine T0 [1,2,33] ?_
    refine Cd ?_ ?_
    ·refine Sq ?_
     refine Tw [1,2,43] (fun i => ⟨Ar 64 [(1,.ref 0 0),(2,i64 0),(43,.bool i)],[.box [i64 a.Za,i64 a.N,.sl false (L cU8 a.B),.sl false (L cApi_Value a.L)] false]⟩) ?_ ?_
     ·intro _
      refine Sp (fun e => ?_) fun e => ?_
      ·exact Lf Aa (Ev (by simp only [go_sem,e];exact Al)) (ws [0])
      ·exact Lf Aa (Ev (by simp only [go_sem,e];exact Al)) (ws [0])
     intro i
     refine Cd ?_ ?_
     ·refine T0 [2,3] ?_
      exact Sr <|Tr <|Br <|Jr b <|Rr
     ·refine Sk <|Tn <|?_
      refine Jo (fun j => ⟨Ar 64 [(2,i64 j)],[]⟩) ?_ ?_
      ·intro ad n
       refine T0 [2,45,46,47] ?_
       refine Sb ?_
       refine Lo (fun (v : Int×Int) => (⟨Ar 64 [(2,i64 v.1),(45,.sl false (L cApi_Value a.L)),(46,i64 (a.L.length : Int)),(47,i64 v.2)],[]⟩ : St)) (ws []) ?_
       rintro ⟨k,o⟩ ae p l m
       show Df a rec_ k o = some p→_
       unfold Df
       refine T0 [2,45,46,47,48] ?_
       refine Sq <|Cd ?_ ?_
       ·refine Sk <|Tn <|Sq <|Sb <|Ck fun q =>Lt fun s t =>Lt fun u w =>Lt fun x y =>Lt fun z aa =>Te (σ':=[.box [i64 s,i64 u,.sl false (L cU8 x),.sl false (L cApi_Value z)] false]) [2,5,45,46,47] Aa (Ev (by simp only [go_sem,qR q,t,w,y,aa];exact Al)) ?_
        refine Bd fun af ab =>Te [2,6,7,45,46,47] (o1 53 (hrec ab)) Ev ?_
        refine Sq <|T0 [2,6,45,46,47,57] ?_
        refine Cd ?_ ?_
        ·refine T0 [2,3] ?_
         exact Sr <|Tr <|Br <|Tr <|Lr m l <|Br <|Jr n <|Br <|Jr b <|Rr
        ·refine Sk <|Tn <|F0 [2,45,46,47] ?_
         refine Bn <|Tn <|F0 [2,45,46,47] ?_
         exact Ln (ws [])
       ·refine Sx <|Tx <|Lx m l <|Bx <|?_
        exact Jn ((ws (l':=[(2,i64 k)]) (σ':=[]) []).trans (ws []))
      intro j
      refine T0 [2,3] ?_
      exact Sr <|Br <|Jr b <|Rr
    ·exact Sk <|Bn <|Jn (ws [])
 intro _
 refine T0 [2,3] ?_
 exact Sr <|Rr
theorem Q9 (n : Nat) : ∀ {a : Api_Value} {r : Int×Bool},Gt n a = some r→Con B 66 [.agg [i64 a.Za,i64 a.N,.sl false (L cU8 a.B),.sl false (L cApi_Value a.L)]] [] (fun r' σ' => r' = .tup [i64 r.1,.bool r.2]∧σ' = []):=by
  induction n with
  | zero => intro a r h;cases h
  | succ n ih => intro a r h;exact R3 ih h
theorem U6 {a : Api_Value} {r : Int×Bool} (h : P9 a = some r) : Con B 66 [.agg [i64 a.Za,i64 a.N,.sl false (L cU8 a.B),.sl false (L cApi_Value a.L)]] [] (fun r' σ' => r' = .tup [i64 r.1,.bool r.2]∧σ' = []):=Q9 _ h
theorem Jd {a r} (h : Da a = some r) : Con B 96 [u64 a] [] (fun r' σ' => r' = i64 r∧σ' = []):=by
 refine Cw 10 [.tmp 2] Tryd.func96 (fun F hE => ?_) h
 unfold Da
 refine T0 [0,2] ?_
 refine Ja (fun b => ⟨Ar 10 [(2,i64 b)],[]⟩) ?_ ?_
 ·intro k
  refine Sb ?_
  refine Lo (fun (v : UInt64×Int) => (⟨Ar 10 [(0,u64 v.1),(2,i64 v.2)],[]⟩ : St)) (ws []) ?_
  rintro ⟨d,c⟩ l e f g
  show B2 d c = some e→_
  unfold B2
  refine Sq <|T0 [0,2,4] ?_
  refine Cd ?_ ?_
  ·refine Sk <|Tn <|Sq <|Sb <|F0 [0,2] ?_
   refine Bn <|Tn <|Lt fun i j =>Fe (fr':=[(0,u64 i),(2,_)]) [0,2] Aa (Ev (by simp only [go_sem,j];exact Al)) ?_
   exact Ln (ws [])
  ·refine Sx <|Tx <|Ly g f <|Bx <|?_
   exact Jm ((ws (l':=[(2,i64 c)]) (σ':=[]) []).trans (ws []))
 intro b
 refine T0 [2] ?_
 exact Sr <|Rr
theorem P1 {a b r} (h : F7 a b = some r) : Con B 88 [.bs false 0 (a.length) 0 (a.length),i64 b] [.buf 1 (L cU8 a) false] (fun r' σ' => r' = .bs false 0 (r.length) 0 (r.length)∧σ' = [.buf 1 (L cU8 r) false]):=by
 refine Co 1 48 [.tmp 4] Tryd.func88 (fun F hE => ?_) h
 unfold F7
 refine T0 [0,1] ?_
 refine T0 [0,1,5] ?_
 refine Bd fun z i =>Te [0,1,5,6] (o1 12 (Jd i)) Ev ?_
 refine Lt fun j k =>Te (fr':=[(0,_),(1,_),(5,_),(6,_),(7,u8 j)]) [0,1,5,6,7] Aa (Ev (by simp only [go_sem,k];exact Al)) ?_
 refine Ja (fun (v : Int×UInt8) => (⟨Ar 48 [(0,.bs false 0 (a.length) 0 (a.length)),(1,i64 b),(6,i64 v.1),(7,u8 v.2)],[.buf 1 (L cU8 a) false]⟩ : St)) ?_ ?_
 ·intro aa
  refine T0 [0,1,5,6,7,17] ?_
  refine Cd ?_ ?_
  ·refine Bd fun ab l =>Te [0,1,6] (o1 22 (Jd l)) Ev ?_
   refine Lt fun m n =>Fe (fr':=[(0,_),(1,_),(6,_),(7,u8 m)]) [0,1,6,7] Aa (Ev (by simp only [go_sem,n];exact Al)) ?_
   exact Jm (ws [0])
  ·exact Sk <|Jm (ws [0])
 rintro ⟨e,ac⟩
 refine Ck fun o =>Lt fun f p =>Te (fr':=[(0,.bs false 0 (f.length) 0 (f.length)),(1,_),(6,_)]) (σ':=[.buf 1 (L cU8 f) false,_]) [0,1,6] Aa (Ev (by simp only [go_sem,o,p];exact Al)) ?_
 refine Ja (fun c => ⟨Ar 48 [(0,.bs false 0 (c.length) 0 (c.length))],[.buf 1 (L cU8 c) false]⟩) ?_ ?_
 ·intro ad
  refine T0 [0,1,6,30,31] ?_
  refine Sb ?_
  refine Lo (fun (v : Int×List UInt8) => (⟨Ar 48 [(0,.bs false 0 (v.2.length) 0 (v.2.length)),(1,i64 b),(6,i64 e),(30,i64 e),(31,i64 v.1)],[.buf 1 (L cU8 v.2) false]⟩ : St)) (ws [0]) ?_
  rintro ⟨q,d⟩ ae s t u
  show B3 b e q d = some s→_
  unfold B3
  refine T0 [0,1,6,30,31,32] ?_
  refine Sq <|Cd ?_ ?_
  ·refine Sk <|Tn <|Sq <|Sb <|T0 [0,1,6,8,30,31] ?_
   refine Ck fun w =>Ck fun x =>Lt fun g y =>Fe (fr':=[(0,.bs false 0 (g.length) 0 (g.length)),(1,_),(6,_),(30,_),(31,_)]) (σ':=[.buf 1 (L cU8 g) false,_]) [0,1,6,30,31] Aa (Ev (by simp only [go_sem,w,x,y];exact Al)) ?_
   refine Bn <|Tn <|F0 [0,1,6,30,31] ?_
   exact Ln (ws [0])
  ·refine Sx <|Tx <|Ly u t <|Bx <|?_
   exact Jm ((ws (l':=[(0,.bs false 0 (d.length) 0 (d.length))]) (σ':=[.buf 1 (L cU8 d) false]) [0]).trans (ws [0]))
 intro c
 refine T0 [4] ?_
 exact Sr <|Ro [0]
theorem Nc {rec_ : (List UInt8)→Api_Value→Option (List UInt8)} (hrec : ∀ {b : List UInt8} {a : Api_Value} {r : List UInt8},rec_ b a = some r→Con B 67 [.bs false 0 (b.length) 0 (b.length),.agg [i64 a.Za,i64 a.N,.sl false (L cU8 a.B),.sl false (L cApi_Value a.L)]] [.buf 1 (L cU8 b) false] (fun r' σ' => r' = .bs false 0 (r.length) 0 (r.length)∧σ' = [.buf 1 (L cU8 r) false])) {b : List UInt8} {a : Api_Value} {r : List UInt8} (h : Ed rec_ b a = some r) : Con B 67 [.bs false 0 (b.length) 0 (b.length),.agg [i64 a.Za,i64 a.N,.sl false (L cU8 a.B),.sl false (L cApi_Value a.L)]] [.buf 1 (L cU8 b) false] (fun r' σ' => r' = .bs false 0 (r.length) 0 (r.length)∧σ' = [.buf 1 (L cU8 r) false]):=by
 refine S8 (N:=59) (rs:=[.tmp 4]) 1 rfl ok Tryd.func67 rfl (by decide +kernel) rfl rfl (Nat.le_of_ble_eq_true rfl) (fun F => ?_)
 have hE:=ok.env F
 unfold Ed at h
 show Run (B.env F) 1 _ ⟨Ar 59 [(0,.bs false 0 (b.length) 0 (b.length)),(1,.agg [i64 a.Za,i64 a.N,.sl false (L cU8 a.B),.sl false (L cApi_Value a.L)])],[.buf 1 (L cU8 b) false]⟩ _
 refine Ll ?_
 revert h
 refine T0 [0,3] ?_
 refine Jo (fun _ => ⟨Ar 59 [(0,.bs false 0 (b.length) 0 (b.length)),(3,.ref 1 0)],[.buf 1 (L cU8 b) false,.box [i64 a.Za,i64 a.N,.sl false (L cU8 a.B),.sl false (L cApi_Value a.L)] false]⟩) ?_ ?_
 ·intro aB w
  refine T0 [0,3,10] ?_
  refine Sb <|T0 [0,3,10,11] ?_
  refine Cd ?_ ?_
  ·refine Bd fun aC y =>Te [4] (As (l:=[]) (m:=[(16,88,[.bs false 0 (b.length) 0 (b.length),i64 a.N],[.buf 1 (L cU8 b) false,.box [i64 a.Za,i64 a.N,.sl false (L cU8 a.B),.sl false (L cApi_Value a.L)] false],_,_)]) trivial ⟨(wc (P1 y) [0]),trivial⟩) Ev ?_
   exact Sr <|Br <|Jr w <|Ro [0]
  ·refine T0 [0,3,17] ?_
   refine Cd ?_ ?_
   ·refine Ck fun z =>Lt fun i aa =>Te (fr':=[(0,.bs false 0 (i.length) 0 (i.length)),(3,_)]) (σ':=[.buf 1 (L cU8 i) false,_,_]) [0,3] Aa (Ev (by simp only [go_sem,z,aa];exact Al)) ?_
    refine Ja (fun d => ⟨Ar 59 [(0,.bs false 0 (d.length) 0 (d.length))],[.buf 1 (L cU8 d) false]⟩) ?_ ?_
    ·intro aD
     refine T0 [0,23,24,25] ?_
     refine Sb ?_
     refine Lo (fun (v : Int×List UInt8) => (⟨Ar 59 [(0,.bs false 0 (v.2.length) 0 (v.2.length)),(23,.sl false (L cU8 a.B)),(24,i64 (a.B.length : Int)),(25,i64 v.1)],[.buf 1 (L cU8 v.2) false]⟩ : St)) (ws [0]) ?_
     rintro ⟨x,e⟩ aE ab ac ad
     show Bq a x e = some ab→_
     unfold Bq
     refine T0 [0,23,24,25,26] ?_
     refine Sq <|Cd ?_ ?_
     ·refine Sk <|Tn <|?_
      refine Ja (fun f => ⟨Ar 59 [(0,.bs false 0 (f.length) 0 (f.length)),(23,.sl false (L cU8 a.B)),(24,i64 (a.B.length : Int)),(25,i64 x)],[.buf 1 (L cU8 f) false]⟩) ?_ ?_
      ·intro aF
       refine Sb <|Ck fun ae =>Te [0,6,23,24,25] Aa (Ev (by simp only [go_sem,qR ae];exact Al)) ?_
       refine Ck fun af =>Lt fun j ag =>Te (fr':=[(0,.bs false 0 (j.length) 0 (j.length)),(6,_),(23,_),(24,_),(25,_)]) (σ':=[.buf 1 (L cU8 j) false,_]) [0,6,23,24,25] Aa (Ev (by simp only [go_sem,af,ag];exact Al)) ?_
       refine T0 [0,23,24,25,34] ?_
       refine Cd ?_ ?_
       ·refine Ck fun ah =>Lt fun k ai =>Fe (fr':=[(0,.bs false 0 (k.length) 0 (k.length)),(23,_),(24,_),(25,_)]) (σ':=[.buf 1 (L cU8 k) false,_,_]) [0,23,24,25] Aa (Ev (by simp only [go_sem,ah,ai];exact Al)) ?_
        exact Bn <|Jm (ws [0])
       ·exact Sk <|Bn <|Jm (ws [0])
      intro f
      refine F0 [0,23,24,25] ?_
      exact Ln (ws [0])
     ·refine Sx <|Tx <|Ly ad ac <|Bx <|?_
      exact Jm ((ws (l':=[(0,.bs false 0 (e.length) 0 (e.length))]) (σ':=[.buf 1 (L cU8 e) false]) [0]).trans (ws [0]))
    intro d
    refine Ck fun aj =>Lt fun n ak =>Te (fr':=[(4,.bs false 0 (n.length) 0 (n.length))]) (σ':=[.buf 1 (L cU8 n) false,_]) [4] Aa (Ev (by simp only [go_sem,aj,ak];exact Al)) ?_
    exact Sr <|Br <|Jr w <|Ro [0]
   ·exact Sk <|Bn <|Jn (ws [0,1])
 intro _
 refine Ck fun al =>Lt fun o am =>Te (fr':=[(0,.bs false 0 (o.length) 0 (o.length)),(3,_)]) (σ':=[.buf 1 (L cU8 o) false,_,_]) [0,3] Aa (Ev (by simp only [go_sem,al,am];exact Al)) ?_
 refine Ja (fun g => ⟨Ar 59 [(0,.bs false 0 (g.length) 0 (g.length))],[.buf 1 (L cU8 g) false]⟩) ?_ ?_
 ·intro aG
  refine T0 [0,46,47,48] ?_
  refine Sb ?_
  refine Lo (fun (v : Int×List UInt8) => (⟨Ar 59 [(0,.bs false 0 (v.2.length) 0 (v.2.length)),(46,.sl false (L cApi_Value a.L)),(47,i64 (a.L.length : Int)),(48,i64 v.1)],[.buf 1 (L cU8 v.2) false]⟩ : St)) (ws [0]) ?_
  rintro ⟨an,c⟩ aH ao ap aq
  show Bp a rec_ an c = some ao→_
  unfold Bp
  refine T0 [0,46,47,48,49] ?_
  refine Sq <|Cd ?_ ?_
  ·refine Sk <|Tn <|Sq <|Sb <|Ck fun ar =>Lt fun p au =>Lt fun q av =>Lt fun s aw =>Lt fun t ax =>Te (σ':=[_,.box [i64 p,i64 q,.sl false (L cU8 s),.sl false (L cApi_Value t)] false]) [0,8,46,47,48] Aa (Ev (by simp only [go_sem,qR ar,au,av,aw,ax];exact Al)) ?_
   refine Bd fun aI ay =>Fe [0,46,47,48] (As (l:=[]) (m:=[(54,67,[.bs false 0 (c.length) 0 (c.length),.agg [i64 p,i64 q,.sl false (L cU8 s),.sl false (L cApi_Value t)]],[.buf 1 (L cU8 c) false,.box [i64 p,i64 q,.sl false (L cU8 s),.sl false (L cApi_Value t)] false],_,_)]) trivial ⟨(wc (hrec ay) [0]),trivial⟩) Ev ?_
   refine Bn <|Tn <|F0 [0,46,47,48] ?_
   exact Ln (ws [0])
  ·refine Sx <|Tx <|Ly aq ap <|Bx <|?_
   exact Jm ((ws (l':=[(0,.bs false 0 (c.length) 0 (c.length))]) (σ':=[.buf 1 (L cU8 c) false]) [0]).trans (ws [0]))
 intro g
 refine Ck fun az =>Lt fun u aA =>Te (fr':=[(4,.bs false 0 (u.length) 0 (u.length))]) (σ':=[.buf 1 (L cU8 u) false,_]) [4] Aa (Ev (by simp only [go_sem,az,aA];exact Al)) ?_
 exact Sr <|Ro [0]
theorem Mv (n : Nat) : ∀ {b : List UInt8} {a : Api_Value} {r : List UInt8},Dc n b a = some r→Con B 67 [.bs false 0 (b.length) 0 (b.length),.agg [i64 a.Za,i64 a.N,.sl false (L cU8 a.B),.sl false (L cApi_Value a.L)]] [.buf 1 (L cU8 b) false] (fun r' σ' => r' = .bs false 0 (r.length) 0 (r.length)∧σ' = [.buf 1 (L cU8 r) false]):=by
  induction n with
  | zero => intro b a r h;cases h
  | succ n ih => intro b a r h;exact Nc ih h
theorem Np {b : List UInt8} {a : Api_Value} {r : List UInt8} (h : Im b a = some r) : Con B 67 [.bs false 0 (b.length) 0 (b.length),.agg [i64 a.Za,i64 a.N,.sl false (L cU8 a.B),.sl false (L cApi_Value a.L)]] [.buf 1 (L cU8 b) false] (fun r' σ' => r' = .bs false 0 (r.length) 0 (r.length)∧σ' = [.buf 1 (L cU8 r) false]):=Mv _ h
theorem Ng {a r} (h : Hh a = some r) : Con B 43 [.agg [i64 a.Za,i64 a.N,.sl false (L cU8 a.B),.sl false (L cApi_Value a.L)]] [] (fun r' σ' => r' = .tup [.sl false (L cU8 r.1),i64 r.2]∧σ' = []):=by
 refine Cw 22 [.tmp 2,.tmp 3] Tryd.func43 (fun F hE => ?_) h
 unfold Hh
 refine T0 [1] ?_
 refine Bd fun d b =>Te [1,4,5] (o1 9 (U6 b)) Ev ?_
 refine Sq <|T0 [1,4,13] ?_
 refine Cd ?_ ?_
 ·refine T0 [2,3] ?_
  exact Sr <|Tr <|Rr
 ·refine Sk <|Tn <|Sq <|T0 [1,15] ?_
  refine Cd ?_ ?_
  ·refine T0 [2,3] ?_
   exact Sr <|Tr <|Rr
  ·refine Sk <|Tn <|Bd fun e c =>Te [6] (As (l:=[]) (m:=[(17,67,[.sl true (L cU8 ([])),.agg [i64 a.Za,i64 a.N,.sl false (L cU8 a.B),.sl false (L cApi_Value a.L)]],[.box [i64 a.Za,i64 a.N,.sl false (L cU8 a.B),.sl false (L cApi_Value a.L)] false],_,_)]) trivial ⟨(AkE 1 (args':=[.bs true 1 0 0 0,.agg [i64 a.Za,i64 a.N,.sl false (L cU8 a.B),.sl false (L cApi_Value a.L)]]) gs (wc (Np c) [1])),trivial⟩) Ev ?_
   refine Sq <|T0 [6,20] ?_
   refine Cd ?_ ?_
   ·refine T0 [2,3] ?_
    exact Sr <|Tr <|Rr
   ·refine Sk <|Tn <|T0 [2,3] ?_
    exact Sr <|Rr
theorem W5 {a r} (h : Kr a = some r) : Con B 26 [.agg (Ak a)] [] (fun r' σ' => r' = .tup [.sl false (L cU8 r.1),i64 r.2]∧σ' = []):=by
 refine Cw 22 [.tmp 2,.tmp 3] Tryd.func26 (fun F hE => ?_) h
 unfold Kr
 refine T0 [1] ?_
 refine Bd fun e f =>Bd fun g i =>Bd fun j k =>Bd fun b n =>Ck fun c =>Bd fun q o =>Bd fun d p =>?_
 intro h
 refine Abd hE Tt [[],[0],[],[2],[2,3],[0,1,2,3,4],[],[6],[6,7],[0,1,2,3,4,5,6,7,8],[0,1,2,3,4,5,6,7,8,9],[0,1,2,3,4,5,6,7,8,9,10],[0,1,2,3,4,5,6,7,8,9,10,11],[0,1,2,3,4,5,6,7,8,9,10,11,12],[0,1,2,3,4,5,6,7,8,9,10,11,12,13],[0,1,2,3,4,5,6,7,8,9,10,11,12,13,14],[0,1,2,3,4,5,6,7,8,9,10,11,12,13,14,15],[0,1,2,3,4,5,6,7,8,9,10,11,12,13,14,15],[0,1,2,3,4,5,6,7,8,9,10,11,12,13,14,15,16,17],[0,1,2,3,4,5,6,7,8,9,10,11,12,13,14,15,16,17,18]] (by kernel_rfl) [(),(),(),(),(),(),(),(),()] [(),(),(),(),(),(),()] (by kernel_rfl) [(1,0),(6,0),(7,0),(10,0),(11,0)] [(5,0)] [1,6,7,10,11] [1,2,3,6,7,10,11] (by kernel_rfl) (fr':=[(1,.ref 0 0),(2,.sl false (L cU8 d.1)),(3,i64 d.2),(6,.ref 0 51),(7,.ref 0 51),(10,.ref 0 51),(11,.ref 0 52)]) (σ':=[.box (Ak a) false,.buf 4 (L cApi_Value (e ++ ([b] : List Api_Value))) true,.buf 4 (L cApi_Value ([g,j] : List Api_Value)) true,.buf 4 (L cApi_Value ([b] : List Api_Value)) false]) ⟨_,_,(As (l:=[(9,_,_,_),(13,_,_,_),(15,_,_,_),(18,_,_,_),(19,_,_,_)]) (m:=[(5,45,[.agg (Ak a)],[.box (Ak a) false],_,_)]) ⟨Qk  i,Qk  k,M1  n,M1  o,Ng  p,trivial⟩ ⟨(wc (Mi f) []),trivial⟩),(by repeat' (first | exact trivial | (refine And.intro ?_ ?_) | exact fun _ => rfl | exact fun h => absurd h (by decide))),_,_,(by simp only [go_sem,c];exact Al),(by exact ⟨rfl,rfl,rfl,rfl,rfl,trivial⟩),(by simp only [go_sem,c];exact Al)⟩ ?_
 revert h
 exact Sr <|Rr
theorem Bc {a b r} (h : Ba a b = some r) : Con B 90 [u32 a,i64 b] [] (fun r' σ' => r' = u32 r∧σ' = []):=by
 refine Cw 17 [.tmp 4] Tryd.func90 (fun F hE => ?_) h
 unfold Ba
 refine T0 [0,1] ?_
 refine Lt fun c d =>Te (fr':=[(0,_),(5,u64 c)]) [0,5] Aa (Ev (by simp only [go_sem,d];exact Al)) ?_
 refine Lt fun e f =>Te (fr':=[(4,u32 e)]) [4] Aa (Ev (by simp only [go_sem,f];exact Al)) ?_
 exact Sr <|Rr
theorem Tu {a b r} (h : Jh a b = some r) : Con B 75 [.agg (C1 u32 a.l),.sl false (L cU8 b)] [] (fun r' σ' => r' = .agg (C1 u32 r.l)∧σ' = []):=by
 refine Cw 195 [.cell 4 162] Tryd.func75 (fun F hE => ?_) h
 unfold Jh
 refine T0 [1,2,4] ?_
 refine T0 [1,2,4,5] ?_
 refine Ja (fun e => ⟨Ar 195 [(2,.ref 0 0),(4,.ref 1 0),(5,.ref 2 0)],[.box (C1 u32 a.l) false,.box (C1 u32 (Arr.rep 8 (0 : UInt32)).l) false,.box (C1 u32 e.l) false]⟩) ?_ ?_
 ·intro bh
  refine T0 [1,2,4,5,19] ?_
  refine Sb ?_
  refine Lo (fun (v : Int×Arr UInt32 64) => (⟨Ar 195 [(1,.sl false (L cU8 b)),(2,.ref 0 0),(4,.ref 1 0),(5,.ref 2 0),(19,i64 v.1)],[.box (C1 u32 a.l) false,.box (C1 u32 (Arr.rep 8 (0 : UInt32)).l) false,.box (C1 u32 v.2.l) false]⟩ : St)) (ws [0,1,2]) ?_
  rintro ⟨ac,f⟩ bi ad ae af
  show F5 b ac f = some ad→_
  unfold F5
  refine T0 [1,2,4,5,19,20] ?_
  refine Sq <|Cd ?_ ?_
  ·refine Sk <|Tn <|Sq <|Sb <|T0 [1,2,4,5,6,19] ?_
   refine Ck fun ag =>Ck fun ah =>Ck fun ai =>Ck fun aj =>Ck fun ak =>Lt fun al am =>Ge (σ':=[_,_,.box (C1 u32 al.l) false]) [[],[],[],[2],[1,2,3],[1,2,3,4],[1,2,3,4,5],[1,2,3,4,5,6],[],[],[9],[9,10],[8,9,10,11],[8,9,10,11,12],[8,9,10,11,12,13],[8,9,10,11,12,13,14],[1,2,3,4,5,6,7,8,9,10,11,12,13,14,15],[],[],[18],[18,19],[17,18,19,20],[17,18,19,20,21],[17,18,19,20,21,22],[17,18,19,20,21,22,23],[1,2,3,4,5,6,7,8,9,10,11,12,13,14,15,16,17,18,19,20,21,22,23,24],[],[],[27],[27,28],[26,27,28,29],[26,27,28,29,30],[26,27,28,29,30,31],[1,2,3,4,5,6,7,8,9,10,11,12,13,14,15,16,17,18,19,20,21,22,23,24,25,26,27,28,29,30,31,32],[0,1,2,3,4,5,6,7,8,9,10,11,12,13,14,15,16,17,18,19,20,21,22,23,24,25,26,27,28,29,30,31,32,33],[0,1,2,3,4,5,6,7,8,9,10,11,12,13,14,15,16,17,18,19,20,21,22,23,24,25,26,27,28,29,30,31,32,33,34]] [1,2,4,5,19] Aa (Ev (by simp only [go_sem,qR ag,qR ah,qR ai,qR aj,qR ak,am];exact Al)) ?_
   refine Bn <|Tn <|F0 [1,2,4,5,19] ?_
   exact Ln (ws [0,1,2])
  ·refine Sx <|Tx <|Ly af ae <|Bx <|?_
   exact Jm ((ws (l':=[(2,.ref 0 0),(4,.ref 1 0),(5,.ref 2 0)]) (σ':=[.box (C1 u32 a.l) false,.box (C1 u32 (Arr.rep 8 (0 : UInt32)).l) false,.box (C1 u32 f.l) false]) [0,1,2]).trans (ws [0,1,2]))
 intro e
 refine Ja (fun c => ⟨Ar 195 [(2,.ref 0 0),(4,.ref 1 0),(5,.ref 2 0)],[.box (C1 u32 a.l) false,.box (C1 u32 (Arr.rep 8 (0 : UInt32)).l) false,.box (C1 u32 c.l) false]⟩) ?_ ?_
 ·intro bj
  refine T0 [2,4,5,7] ?_
  refine Sb ?_
  refine Lo (fun (v : Int×Arr UInt32 64) => (⟨Ar 195 [(2,.ref 0 0),(4,.ref 1 0),(5,.ref 2 0),(7,i64 v.1)],[.box (C1 u32 a.l) false,.box (C1 u32 (Arr.rep 8 (0 : UInt32)).l) false,.box (C1 u32 v.2.l) false]⟩ : St)) (ws [0,1,2]) ?_
  rintro ⟨an,g⟩ bk ao ap aq
  show Ga an g = some ao→_
  unfold Ga
  refine Sq <|T0 [2,4,5,7,59] ?_
  refine Cd ?_ ?_
  ·refine Sk <|Tn <|Sq <|Sb <|Ck fun ar =>Ck fun au =>Lt fun av aw =>Lt fun ax ay =>De (fr':=[(2,_),(4,_),(5,_),(7,_),(8,u32 av),(9,u32 ax)]) [[],[0],[0,1],[0,1,2],[],[4],[4,5],[4,5,6],[0,1,2,3],[0,1,2,3,4,5,6,7,8]] [2,4,5,7,8,9] Aa (Ev (by simp only [go_sem,qR ar,qR au,aw,ay];exact Al)) ?_
   refine Bd fun bl az =>Bd fun bm aA =>Lt fun s0_5401 aB =>Te (fr':=[(2,_),(4,_),(5,_),(7,_),(9,_),(10,u32 s0_5401)]) [2,4,5,7,9,10] (o2 71 (Bc az) 73 (Bc aA)) (Ev (by simp only [go_sem,aB];exact Al)) ?_
   refine Bd fun bn aC =>Bd fun bo aD =>Lt fun s1_5407 aE =>Te (fr':=[(2,_),(4,_),(5,_),(7,_),(10,_),(11,u32 s1_5407)]) [2,4,5,7,10,11] (o2 79 (Bc aC) 81 (Bc aD)) (Ev (by simp only [go_sem,aE];exact Al)) ?_
   refine Ck fun aF =>Ck fun aG =>Ck fun aH =>Lt fun aI aJ =>Ge (σ':=[_,_,.box (C1 u32 aI.l) false]) [[],[],[1],[1,2],[1,2,3],[],[1,2,3,4,5],[],[7],[7,8],[7,8,9],[1,2,3,4,5,6,7,8,9,10],[],[1,2,3,4,5,6,7,8,9,10,11,12],[0,1,2,3,4,5,6,7,8,9,10,11,12,13],[0,1,2,3,4,5,6,7,8,9,10,11,12,13,14]] [2,4,5,7] Aa (Ev (by simp only [go_sem,qR aF,qR aG,qR aH,aJ];exact Al)) ?_
   refine Bn <|Tn <|F0 [2,4,5,7] ?_
   exact Ln (ws [0,1,2])
  ·refine Sx <|Tx <|Ly aq ap <|Bx <|?_
   exact Jm ((ws (l':=[(2,.ref 0 0),(4,.ref 1 0),(5,.ref 2 0)]) (σ':=[.box (C1 u32 a.l) false,.box (C1 u32 (Arr.rep 8 (0 : UInt32)).l) false,.box (C1 u32 g.l) false]) [0,1,2]).trans (ws [0,1,2]))
 intro c
 refine T0 [2,4,5,12] ?_
 refine Ja (fun d => ⟨Ar 195 [(2,.ref 0 0),(4,.ref 1 0),(12,.ref 2 0)],[.box (C1 u32 a.l) false,.box (C1 u32 (Arr.rep 8 (0 : UInt32)).l) false,.box (C1 u32 d.l) false]⟩) ?_ ?_
 ·intro bp
  refine T0 [2,4,5,12,102] ?_
  refine Sb ?_
  refine Lo (fun (v : Int×Arr UInt32 8) => (⟨Ar 195 [(2,.ref 0 0),(4,.ref 1 0),(5,.ref 2 0),(12,.ref 3 0),(102,i64 v.1)],[.box (C1 u32 a.l) false,.box (C1 u32 (Arr.rep 8 (0 : UInt32)).l) false,.box (C1 u32 c.l) false,.box (C1 u32 v.2.l) false]⟩ : St)) (ws [0,1,2,3]) ?_
  rintro ⟨aK,i⟩ bq aL aM aN
  show F8 c aK i = some aL→_
  unfold F8
  refine T0 [2,4,5,12,102,103] ?_
  refine Sq <|Cd ?_ ?_
  ·refine Sk <|Tn <|Sq <|Sb <|T0 [2,4,5,12,13,102] ?_
   have j : InR 0 8:=by decide
   have k : InR 4 8:=by decide
   refine De [[],[0],[],[2],[0,1],[0,1,2,3,4]] [2,4,5,12,13,14,15,102] Aa (Ev (by simp only [go_sem,j,j.2,k,k.2];exact Al)) ?_
   have m : InR 7 8:=by decide
   refine Bd fun aO aP =>Bd fun aQ aR =>Bd fun aS aT =>?_
   have n : InR 5 8:=by decide
   have o : InR 6 8:=by decide
   refine Ck fun aU =>Ck fun aV =>Lt fun aW aX =>De (fr':=[(2,_),(4,_),(5,_),(12,_),(14,_),(15,_),(16,u32 aW),(102,_)]) [[],[0],[],[2],[],[2,3,4],[2,3,4,5],[],[2,3,4,5,7],[2,3,4,5,6,7,8],[0,1,2,3,4,5,6,7,8,9],[],[],[12],[11,12,13],[],[15],[],[17],[15,16,17,18],[11,12,13,14,15,16,17,18,19],[0,1,2,3,4,5,6,7,8,9,10,11,12,13,14,15,16,17,18,19,20],[],[22],[22,23],[0,1,2,3,4,5,6,7,8,9,10,11,12,13,14,15,16,17,18,19,20,21,22,23,24],[],[26],[26,27],[0,1,2,3,4,5,6,7,8,9,10,11,12,13,14,15,16,17,18,19,20,21,22,23,24,25,26,27,28],[0,1,2,3,4,5,6,7,8,9,10,11,12,13,14,15,16,17,18,19,20,21,22,23,24,25,26,27,28,29]] [2,4,5,12,14,15,16,102] (Iv (l:=[(112,_,_,u32 aO),(114,_,_,u32 aQ),(117,_,_,u32 aS)]) ⟨Bc  aP,Bc  aR,Bc  aT,trivial⟩) (Ev (by simp only [go_sem,m,m.2,n,n.2,o,o.2,qR aU,qR aV,aX];exact Al)) ?_
   refine Bd fun aY aZ =>Bd fun a0 a1 =>Bd fun a2 a3 =>?_
   have p : InR 1 8:=by decide
   have q : InR 2 8:=by decide
   have s : InR 1 8:=by decide
   have t : InR 2 8:=by decide
   refine Lt fun a4 a5 =>De (fr':=[(2,_),(4,_),(5,_),(12,_),(14,_),(15,_),(16,_),(17,u32 a4),(102,_)]) [[],[0],[],[0,1,2],[0,1,2,3],[],[0,1,2,3,5],[0,1,2,3,4,5,6],[],[],[9],[8,9,10],[],[],[13],[12,13,14],[8,9,10,11,12,13,14,15],[],[17],[],[19],[17,18,19,20],[8,9,10,11,12,13,14,15,16,17,18,19,20,21],[0,1,2,3,4,5,6,7,8,9,10,11,12,13,14,15,16,17,18,19,20,21,22],[0,1,2,3,4,5,6,7,8,9,10,11,12,13,14,15,16,17,18,19,20,21,22,23]] [2,4,5,12,14,15,16,17,102] (Iv (l:=[(140,_,_,u32 aY),(142,_,_,u32 a0),(145,_,_,u32 a2)]) ⟨Bc  aZ,Bc  a1,Bc  a3,trivial⟩) (Ev (by simp only [go_sem,p,p.2,q,q.2,s,s.2,t,t.2,a5];exact Al)) ?_
   have u : InR 1 8:=by decide
   have w : InR 2 8:=by decide
   have x : InR 3 8:=by decide
   have y : InR 5 8:=by decide
   have z : InR 6 8:=by decide
   refine Lt fun a6 a7 =>Fe (σ':=[_,.box (C1 u32 (Arr.rep 8 (0 : UInt32)).l) false,_,.box (C1 u32 a6.l) false]) [2,4,5,12,102] Aa (Ev (by simp only [go_sem,u,u.2,w,w.2,x,x.2,y,y.2,z,z.2,Oc,Pj,Lj,a7];exact Al)) ?_
   refine Bn <|Tn <|F0 [2,4,5,12,102] ?_
   exact Ln (ws [0,1,2,3])
  ·refine Sx <|Tx <|Ly aN aM <|Bx <|?_
   exact Jm ((ws (l':=[(2,.ref 0 0),(4,.ref 1 0),(12,.ref 2 0)]) (σ':=[.box (C1 u32 a.l) false,.box (C1 u32 (Arr.rep 8 (0 : UInt32)).l) false,.box (C1 u32 i.l) false]) [0,1,3]).trans (ws [0,1,2]))
 intro d
 refine Ja (fun aa => ⟨Ar 195 [(2,.ref 0 0),(4,.ref 1 0)],[.box (C1 u32 aa.l) false,.box (C1 u32 (Arr.rep 8 (0 : UInt32)).l) false]⟩) ?_ ?_
 ·intro br
  refine T0 [2,4,12,182] ?_
  refine Sb ?_
  refine Lo (fun (v : Int×Arr UInt32 8) => (⟨Ar 195 [(2,.ref 0 0),(4,.ref 1 0),(12,.ref 2 0),(182,i64 v.1)],[.box (C1 u32 v.2.l) false,.box (C1 u32 (Arr.rep 8 (0 : UInt32)).l) false,.box (C1 u32 d.l) false]⟩ : St)) (ws [0,1,2]) ?_
  rintro ⟨a8,ab⟩ bs a9 ba bb
  show F3 d a8 ab = some a9→_
  unfold F3
  refine T0 [2,4,12,182,183] ?_
  refine Sq <|Cd ?_ ?_
  ·refine Sk <|Tn <|Sq <|Sb <|T0 [2,4,12,18,182] ?_
   refine Ck fun bc =>Ck fun bd =>Ck fun be =>Lt fun bf bg =>Ge (σ':=[.box (C1 u32 bf.l) false,_,_]) [[],[0],[0,1],[],[3],[3,4],[0,1,2,3,4,5],[0,1,2,3,4,5,6],[0,1,2,3,4,5,6,7]] [2,4,12,182] Aa (Ev (by simp only [go_sem,qR bc,qR bd,qR be,bg];exact Al)) ?_
   refine Bn <|Tn <|F0 [2,4,12,182] ?_
   exact Ln (ws [0,1,2])
  ·refine Sx <|Tx <|Ly bb ba <|Bx <|?_
   exact Jm ((ws (l':=[(2,.ref 0 0),(4,.ref 1 0)]) (σ':=[.box (C1 u32 ab.l) false,.box (C1 u32 (Arr.rep 8 (0 : UInt32)).l) false]) [0,1]).trans (ws [0,1]))
 intro aa
 refine T0 [4] ?_
 exact Sr <|Rr
theorem X4 {d r} (h : L9 d = some r) : Con B 52 [.sl false (L (cSl cU8) d)] [] (fun r' σ' => r' = .agg (C1 u8 r.l)∧σ' = []):=by
 refine Cw 72 [.cell 2 52] Tryd.func52 (fun F hE => ?_) h
 unfold L9
 refine T0 [0,2] ?_
 refine T0 [0,2,3] ?_
 refine Ja (fun e => ⟨Ar 72 [(2,.ref 0 0),(3,.bs false 1 (e.length) 0 (e.length))],[.box (C1 u8 (Arr.rep 32 (0 : UInt8)).l) false,.buf 1 (L cU8 e) false]⟩) ?_ ?_
 ·intro aQ
  refine T0 [2,3,10,11,12] ?_
  refine Sb ?_
  refine Lo (fun (v : Int×List UInt8) => (⟨Ar 72 [(2,.ref 0 0),(3,.bs false 1 (v.2.length) 0 (v.2.length)),(10,.sl false (L (cSl cU8) d)),(11,i64 (d.length : Int)),(12,i64 v.1)],[.box (C1 u8 (Arr.rep 32 (0 : UInt8)).l) false,.buf 1 (L cU8 v.2) false]⟩ : St)) ((AaA 3 1 rfl).trans (ws [0,1])) ?_
  rintro ⟨w,f⟩ aR x y z
  show Gq d w f = some x→_
  unfold Gq
  refine T0 [2,3,10,11,12,13] ?_
  refine Sq <|Cd ?_ ?_
  ·refine Sk <|Tn <|Sq <|Sb <|Ck fun aa =>Lt fun ab ac =>Te (fr':=[(2,_),(3,_),(5,.sl false (L cU8 ab)),(10,_),(11,_),(12,_)]) [2,3,5,10,11,12] Aa (Ev (by simp only [go_sem,qR aa,ac];exact Al)) ?_
   refine Ck fun ad =>Lt fun m ae =>Fe (fr':=[(2,_),(3,.bs false 1 (m.length) 0 (m.length)),(10,_),(11,_),(12,_)]) (σ':=[_,.buf 1 (L cU8 m) false]) [2,3,10,11,12] Aa (Ev (by simp only [go_sem,ad,ae];exact Al)) ?_
   refine Bn <|Tn <|F0 [2,3,10,11,12] ?_
   exact Ln (ws [0,1])
  ·refine Sx <|Tx <|Ly z y <|Bx <|?_
   exact Jm ((ws (l':=[(2,.ref 0 0),(3,.bs false 1 (f.length) 0 (f.length))]) (σ':=[.box (C1 u8 (Arr.rep 32 (0 : UInt8)).l) false,.buf 1 (L cU8 f) false]) [0,1]).trans (ws [0,1]))
 intro e
 refine Lt fun c af =>Te (fr':=[(2,_),(3,_),(6,u64 c)]) [2,3,6] Aa (Ev (by simp only [go_sem,af];exact Al)) ?_
 refine Ck fun ag =>Lt fun n ah =>Te (fr':=[(2,_),(3,.bs false 1 (n.length) 0 (n.length)),(6,_)]) (σ':=[_,.buf 1 (L cU8 n) false,_]) [2,3,6] Aa (Ev (by simp only [go_sem,ag,ah];exact Al)) ?_
 refine Ja (fun g => ⟨Ar 72 [(2,.ref 0 0),(3,.bs false 1 (g.length) 0 (g.length)),(6,u64 c)],[.box (C1 u8 (Arr.rep 32 (0 : UInt8)).l) false,.buf 1 (L cU8 g) false]⟩) ?_ ?_
 ·intro aS
  refine Sb ?_
  refine Lo (fun a => ⟨Ar 72 [(2,.ref 0 0),(3,.bs false 1 (a.length) 0 (a.length)),(6,u64 c)],[.box (C1 u8 (Arr.rep 32 (0 : UInt8)).l) false,.buf 1 (L cU8 a) false]⟩) (ws [0,1]) ?_
  rintro a aT ai aj ak
  show Hv a = some ai→_
  unfold Hv
  refine Sq ?_
  have al : ¬(64 : Int) = 0:=by decide
  refine Te [2,3,6,30] Aa (Ev (by simp only [go_sem,al];exact Al)) ?_
  refine Cd ?_ ?_
  ·refine Sk <|Tn <|Sb <|Ck fun am =>Lt fun o an =>Fe (fr':=[(2,_),(3,.bs false 1 (o.length) 0 (o.length)),(6,_)]) (σ':=[_,.buf 1 (L cU8 o) false,_]) [2,3,6] Aa (Ev (by simp only [go_sem,am,an];exact Al)) ?_
   exact Bn <|Ln (ws [0,1])
  ·refine Sx <|Tx <|Ly ak aj <|Bx <|?_
   exact Jm ((ws (l':=[(2,.ref 0 0),(3,.bs false 1 (a.length) 0 (a.length)),(6,u64 c)]) (σ':=[.box (C1 u8 (Arr.rep 32 (0 : UInt8)).l) false,.buf 1 (L cU8 a) false]) [0,1]).trans (ws [0,1]))
 intro g
 refine Ja (fun b => ⟨Ar 72 [(2,.ref 0 0),(3,.bs false 1 (b.length) 0 (b.length))],[.box (C1 u8 (Arr.rep 32 (0 : UInt8)).l) false,.buf 1 (L cU8 b) false]⟩) ?_ ?_
 ·intro aU
  refine T0 [2,3,6,7] ?_
  refine Sb ?_
  refine Lo (fun (v : Int×List UInt8) => (⟨Ar 72 [(2,.ref 0 0),(3,.bs false 1 (v.2.length) 0 (v.2.length)),(6,u64 c),(7,i64 v.1)],[.box (C1 u8 (Arr.rep 32 (0 : UInt8)).l) false,.buf 1 (L cU8 v.2) false]⟩ : St)) (ws [0,1]) ?_
  rintro ⟨ao,i⟩ aV ap aq ar
  show Gy c ao i = some ap→_
  unfold Gy
  refine Sq <|T0 [2,3,6,7,35] ?_
  refine Cd ?_ ?_
  ·refine Sk <|Tn <|Sq <|Sb <|Ck fun au =>Ck fun av =>Lt fun p aw =>Fe (fr':=[(2,_),(3,.bs false 1 (p.length) 0 (p.length)),(6,_),(7,_)]) (σ':=[_,.buf 1 (L cU8 p) false,_]) [2,3,6,7] Aa (Ev (by simp only [go_sem,au,av,aw];exact Al)) ?_
   refine Bn <|Tn <|F0 [2,3,6,7] ?_
   exact Ln (ws [0,1])
  ·refine Sx <|Tx <|Ly ar aq <|Bx <|?_
   exact Jm ((ws (l':=[(2,.ref 0 0),(3,.bs false 1 (i.length) 0 (i.length))]) (σ':=[.box (C1 u8 (Arr.rep 32 (0 : UInt8)).l) false,.buf 1 (L cU8 i) false]) [0,1]).trans (ws [0,1]))
 intro b
 refine Lt fun ax ay =>Te (σ':=[.box (C1 u8 (Arr.rep 32 (0 : UInt8)).l) false,_,.box (C1 u32 ax.l) false]) [2,3,8] Aa (Ev (by simp only [go_sem,Oc,Pj,Lj,ay];exact Al)) ?_
 refine Ja (fun j => ⟨Ar 72 [(2,.ref 0 0),(8,.ref 1 0)],[.box (C1 u8 (Arr.rep 32 (0 : UInt8)).l) false,.box (C1 u32 j.l) false]⟩) ?_ ?_
 ·intro aW
  refine Sb ?_
  refine Lo (fun ⟨q,s,k⟩ => ⟨Ar 72 [(2,.ref 0 0),(3,.bs false 1 (b.length) q s),(8,.ref 2 0)],[.box (C1 u8 (Arr.rep 32 (0 : UInt8)).l) false,.buf 1 (L cU8 b) false,.box (C1 u32 k.l) false]⟩) (ws [0,1,2]) ?_
  rintro ⟨q,s,k⟩ aX az aA aB
  show Ht b q s k = some az→_
  unfold Ht
  refine Sq <|T0 [2,3,8,48] ?_
  refine Cd ?_ ?_
  ·refine Sk <|Tn <|Sq <|Sb <|Ck fun aC =>Bd fun aY aD =>Ge [[],[],[1],[0,1,2],[0,1,2,3]] [2,3,8] (o1 54 (Tu aD)) (Ev (by simp only [go_sem,aC];exact Al)) ?_
   refine Bn <|Tn <|Ck fun aE =>Fe [2,3,8] Aa (Ev (by simp only [go_sem,aE];exact Al)) ?_
   exact Ln (ws [0,1,2])
  ·refine Sx <|Tx <|Ly aB aA <|Bx <|?_
   exact Jm ((ws (l':=[(2,.ref 0 0),(8,.ref 1 0)]) (σ':=[.box (C1 u8 (Arr.rep 32 (0 : UInt8)).l) false,.box (C1 u32 k.l) false]) [0,2]).trans (ws [0,1]))
 intro j
 refine Ja (fun t => ⟨Ar 72 [(2,.ref 0 0)],[.box (C1 u8 t.l) false]⟩) ?_ ?_
 ·intro aZ
  refine T0 [2,8,55] ?_
  refine Sb ?_
  refine Lo (fun (v : Int×Arr UInt8 32) => (⟨Ar 72 [(2,.ref 0 0),(8,.ref 1 0),(55,i64 v.1)],[.box (C1 u8 v.2.l) false,.box (C1 u32 j.l) false]⟩ : St)) (ws [0,1]) ?_
  rintro ⟨aF,u⟩ a0 aG aH aI
  show Hz j aF u = some aG→_
  unfold Hz
  refine T0 [2,8,55,56] ?_
  refine Sq <|Cd ?_ ?_
  ·refine Sk <|Tn <|Sq <|Sb <|T0 [2,8,9,55] ?_
   have aJ : ¬(4 : Int) = 0:=by decide
   refine Ck fun aK => ?_
   have aL : ¬(4 : Int) = 0:=by decide
   refine Ck fun aM =>Ck fun aN =>Lt fun aO aP =>Fe (σ':=[.box (C1 u8 aO.l) false,_]) [2,8,55] Aa (Ev (by simp only [go_sem,aJ,qR aK,aL,aM,qR aN,aP];exact Al)) ?_
   refine Bn <|Tn <|F0 [2,8,55] ?_
   exact Ln (ws [0,1])
  ·refine Sx <|Tx <|Ly aI aH <|Bx <|?_
   exact Jm ((ws (l':=[(2,.ref 0 0)]) (σ':=[.box (C1 u8 u.l) false]) [0]).trans (ws [0]))
 intro t
 refine T0 [2] ?_
 exact Sr <|Rr
theorem Iu {a b r} (h : Ek a b = some r) : Con B 27 [.str a,.sl false (L cU8 b)] [] (fun r' σ' => r' = .agg (C1 u8 r.l)∧σ' = []):=by
 refine Cw 19 [.cell 4 52] Tryd.func27 (fun F hE => ?_) h
 unfold Ek
 refine T0 [0,1,4] ?_
 refine Ck fun c =>Lt fun d e =>Te (fr':=[(0,.str d),(1,_),(4,_)]) [0,1,4] Aa (Ev (by simp only [go_sem,c,e];exact Al)) ?_
 refine Bd fun g f =>Te [4] (o1 18 (X4 f)) Ev ?_
 exact Sr <|Rr
theorem Kb {a r} (h : Eo a = some r) : Con B 17 [.agg (Ak a)] [] (fun r' σ' => r' = .tup [.agg (C1 u8 r.1.l),i64 r.2]∧σ' = []):=by
 refine Cw 16 [.cell 2 52,.tmp 3] Tryd.func17 (fun F hE => ?_) h
 unfold Eo
 refine T0 [1,2] ?_
 refine Bd fun d b =>Te [2,3,4] (o1 7 (W5 b)) Ev ?_
 refine Sq <|T0 [2,3,4,11] ?_
 refine Cd ?_ ?_
 ·refine T0 [2,3] ?_
  exact Sr <|Tr <|Rr
 ·refine Sk <|Tn <|Bd fun e c =>Te [2,3] (o1 15 (Iu c)) Ev ?_
  exact Sr <|Rr
theorem My {a r} (h : I6 a = some r) : Con B 14 [.agg (Ak a)] [] (fun r' σ' => r' = .tup [.sl false (L cU8 r.1),i64 r.2]∧σ' = []):=by
 refine Cw 10 [.tmp 2,.tmp 3] Tryd.func14 (fun F hE => ?_) h
 unfold I6
 refine T0 [1] ?_
 refine Bd fun e b =>Bd fun f c =>Bd fun g d =>Te [2,3] (As (l:=[(6,_,_,_),(7,_,_,_)]) (m:=[(5,45,[.agg (Ak a)],[.box (Ak a) false],_,_)]) ⟨M1  c,Ng  d,trivial⟩ ⟨(wc (Mi b) []),trivial⟩) Ev ?_
 exact Sr <|Rr
theorem Ol {b a r} (h : Iw b a = some r) : Con B 59 [.sl false (L cU8 b),.sl false (L AaM a)] [] (fun r' σ' => r' = .sl false (L cU8 r)∧σ' = []):=by
 refine Cw 39 [.tmp 4] Tryd.func59 (fun F hE => ?_) h
 unfold Iw
 refine T0 [0,1] ?_
 refine Ck fun m =>Lt fun i n =>Te (fr':=[(0,_),(1,_),(5,.bs (0 == (w64 ((w64 (8 * (a.length : Int))) + (b.length : Int)))) 0 (i.length) 0 (i.length))]) (σ':=[.buf 1 (L cU8 i) false]) [0,1,5] Aa (Ev (by simp only [go_sem,m,n];exact Al)) ?_
 refine Ja (fun c => ⟨Ar 39 [(0,.sl false (L cU8 b)),(5,.bs false 0 (c.length) 0 (c.length))],[.buf 1 (L cU8 c) false]⟩) ?_ ?_
 ·intro ae
  refine T0 [0,5,16,17,18] ?_
  refine Sb ?_
  refine Lo (fun (v : Int×List UInt8) => (⟨Ar 39 [(0,.sl false (L cU8 b)),(5,.bs false 0 (v.2.length) 0 (v.2.length)),(16,.sl false (L AaM a)),(17,i64 (a.length : Int)),(18,i64 v.1)],[.buf 1 (L cU8 v.2) false]⟩ : St)) (ws [0]) ?_
  rintro ⟨d,e⟩ af o p q
  show Fu a d e = some o→_
  unfold Fu
  refine T0 [0,5,16,17,18,19] ?_
  refine Sq <|Cd ?_ ?_
  ·refine Sk <|Tn <|?_
   refine Ja (fun f => ⟨Ar 39 [(0,.sl false (L cU8 b)),(5,.bs false 0 (f.length) 0 (f.length)),(16,.sl false (L AaM a)),(17,i64 (a.length : Int)),(18,i64 d)],[.buf 1 (L cU8 f) false]⟩) ?_ ?_
   ·intro ag
    refine Sb <|Ck fun s =>Lt fun j t =>Te (fr':=[(0,_),(5,_),(7,u64 j),(16,_),(17,_),(18,_)]) [0,5,7,16,17,18] Aa (Ev (by simp only [go_sem,qR s,t];exact Al)) ?_
    refine T0 [0,5,7,16,17,18,22] ?_
    refine Sb ?_
    refine Lo (fun (v : Int×List UInt8) => (⟨Ar 39 [(0,.sl false (L cU8 b)),(5,.bs false 0 (v.2.length) 0 (v.2.length)),(7,u64 j),(16,.sl false (L AaM a)),(17,i64 (a.length : Int)),(18,i64 d),(22,i64 v.1)],[.buf 1 (L cU8 v.2) false]⟩ : St)) (ws [0]) ?_
    rintro ⟨u,g⟩ ah w x y
    show Fp j u g = some w→_
    unfold Fp
    refine T0 [0,5,7,16,17,18,22,23] ?_
    refine Sq <|Cd ?_ ?_
    ·refine Sk <|Tn <|Sq <|Sb <|T0 [0,5,7,8,16,17,18,22] ?_
     refine Ck fun z =>Ck fun aa =>Lt fun k ab =>Fe (fr':=[(0,_),(5,.bs false 0 (k.length) 0 (k.length)),(7,_),(16,_),(17,_),(18,_),(22,_)]) (σ':=[.buf 1 (L cU8 k) false,_]) [0,5,7,16,17,18,22] Aa (Ev (by simp only [go_sem,z,aa,ab];exact Al)) ?_
     refine Bn <|Tn <|F0 [0,5,7,16,17,18,22] ?_
     exact Ln (ws [0])
    ·refine Sx <|Tx <|Ly y x <|Bx <|Bn <|?_
     exact Jm ((ws (l':=[(0,.sl false (L cU8 b)),(5,.bs false 0 (g.length) 0 (g.length)),(16,.sl false (L AaM a)),(17,i64 (a.length : Int)),(18,i64 d)]) (σ':=[.buf 1 (L cU8 g) false]) [0]).trans (ws [0]))
   intro f
   refine F0 [0,5,16,17,18] ?_
   exact Ln (ws [0])
  ·refine Sx <|Tx <|Ly q p <|Bx <|?_
   exact Jm ((ws (l':=[(0,.sl false (L cU8 b)),(5,.bs false 0 (e.length) 0 (e.length))]) (σ':=[.buf 1 (L cU8 e) false]) [0]).trans (ws [0]))
 intro c
 refine Ck fun ac =>Lt fun l ad =>Te (fr':=[(4,.bs false 0 (l.length) 0 (l.length))]) (σ':=[.buf 1 (L cU8 l) false]) [4] Aa (Ev (by simp only [go_sem,ac,ad];exact Al)) ?_
 exact Sr <|Rr
theorem Mo {a r} (h : Gp a = some r) : Con B 58 [.agg (C1 u8 a.l)] [] (fun r' σ' => r' = u64 r∧σ' = []):=by
 refine Cw 18 [.tmp 2] Tryd.func58 (fun F hE => ?_) h
 unfold Gp
 refine T0 [1,2] ?_
 refine Ja (fun b => ⟨Ar 18 [(2,u64 b)],[]⟩) ?_ ?_
 ·intro p
  have d : InB 8 32:=by decide
  refine Te [2,5,6,7] Aa (Ev (by simp only [go_sem,d];exact Al)) ?_
  refine Sb ?_
  refine Lo (fun (v : UInt64×Int) => (⟨Ar 18 [(2,u64 v.1),(5,.sl false (L cU8 (a.l.take 8))),(6,i64 ((a.l.take 8).length : Int)),(7,i64 v.2)],[]⟩ : St)) (ws []) ?_
  rintro ⟨c,e⟩ q f g i
  show Ei a c e = some f→_
  unfold Ei
  refine T0 [2,5,6,7,8] ?_
  refine Sq <|Cd ?_ ?_
  ·refine Sk <|Tn <|Sq <|Sb <|Ck fun j =>Lt fun k m =>Te (fr':=[(2,_),(4,u8 k),(5,_),(6,_),(7,_)]) [2,4,5,6,7] Aa (Ev (by simp only [go_sem,qR j,m];exact Al)) ?_
   refine Lt fun n o =>Fe (fr':=[(2,u64 n),(5,_),(6,_),(7,_)]) [2,5,6,7] Aa (Ev (by simp only [go_sem,o];exact Al)) ?_
   refine Bn <|Tn <|F0 [2,5,6,7] ?_
   exact Ln (ws [])
  ·refine Sx <|Tx <|Ly i g <|Bx <|?_
   exact Jm ((ws (l':=[(2,u64 c)]) (σ':=[]) []).trans (ws []))
 intro b
 refine T0 [2] ?_
 exact Sr <|Rr
theorem Kx {a b c r} (h : Fi a b c = some r) : Con B 49 [u64 a,u64 b,.sl false (L cU8 c)] [] (fun r' σ' => r' = u64 r∧σ' = []):=by
 refine Cw 15 [.tmp 6] Tryd.func49 (fun F hE => ?_) h
 unfold Fi
 refine T0 [0,1,2] ?_
 refine Bd fun j d =>Bd fun k e =>Bd fun f g =>?_
 have i : ¬(1152921504606845399 : UInt64) = 0:=by decide
 refine Te [6] (Iv (l:=[(11,_,_,_),(12,_,_,_),(13,_,_,u64 f)]) ⟨Ol  d,Iu  e,Mo  g,trivial⟩) (Ev (by simp only [go_sem,i];exact Al)) ?_
 exact Sr <|Rr
theorem AaZ {a b r} (h : Kg a b = some r) : Con B 34 [u64 a,.sl false (L cU8 b)] [] (fun r' σ' => r' = .tup [.agg [u64 r.1.C,u64 r.1.S],i64 r.2]∧σ' = []):=by
 refine Cw 45 [.cell 4 54,.tmp 5] Tryd.func34 (fun F hE => ?_) h
 unfold Kg
 refine T0 [0,1,4] ?_
 refine Bd fun x d =>Te [0,1,4,6,7] (o1 12 (Oi d)) Ev ?_
 refine Sq <|T0 [0,1,4,6,7,16] ?_
 refine Cd ?_ ?_
 ·refine T0 [4,5] ?_
  exact Sr <|Tr <|Rr
 ·refine Sk <|Tn <|Sq <|T0 [0,1,4,6,21] ?_
  refine Cd ?_ ?_
  ·refine T0 [4,5] ?_
   exact Sr <|Tr <|Rr
  ·refine Sk <|Tn <|Bd fun y e =>Bd fun z f =>Bd fun g i =>?_
   have j : ¬(1152921504606845398 : UInt64) = 0:=by decide
   refine Lt fun k n =>Te (fr':=[(0,_),(1,_),(4,_),(6,_),(8,u64 k)]) [0,1,4,6,8] (Iv (l:=[(26,_,_,_),(27,_,_,_),(28,_,_,u64 g)]) ⟨Ol  e,Iu  f,Mo  i,trivial⟩) (Ev (by simp only [go_sem,j,n];exact Al)) ?_
   refine Bd fun aa o =>Bd fun c p =>Te [0,4,8,9] (o2 32 (Jf o) 35 (Kx p)) Ev ?_
   refine Bd fun q s =>Bd fun ab t =>?_
   have u : ¬(1152921504606845399 : UInt64) = 0:=by decide
   refine Lt fun v w =>Te (σ':=[.box [u64 c,u64 v] false,_,_]) [4,5] (As (l:=[]) (m:=[(38,47,[u64 (1152921504606845399 : UInt64)],[.box [u64 (0 : UInt64),u64 (0 : UInt64)] false,.buf 1 (L AaM ([a] : List UInt64)) true],_,_),(41,70,[u64 c,u64 a,.ref 2 0],[.box [u64 (0 : UInt64),u64 (0 : UInt64)] false,.buf 1 (L AaM ([a] : List UInt64)) true,.box [u64 q] false],_,_)]) trivial ⟨(wc (Ka s) []),(wc (Gu t) [2]),trivial⟩) (Ev (by simp only [go_sem,u,w];exact Al)) ?_
   exact Sr <|Rr
theorem Mn {d r} (h : Jq d = some r) : Con B 79 [.agg (A5 d)] [] (fun r' σ' => r' = .bool r∧σ' = []):=by
 refine Cw 32 [.tmp 2] Tryd.func79 (fun F hE => ?_) h
 unfold Jq
 refine T0 [1] ?_
 refine Sq <|T0 [1,6] ?_
 refine Cd ?_ ?_
 ·refine T0 [2] ?_
  exact Sr <|Tr <|Rr
 ·refine Sk <|Tn <|?_
  refine Tw [2] (fun e => ⟨Ar 32 [(2,.bool e)],[]⟩) ?_ ?_
  ·intro _
   refine Sp (fun a => ?_) fun a => ?_
   ·refine Sp (fun b => ?_) fun b => ?_
    ·refine Sp (fun c => ?_) fun c => ?_
     ·exact Lf Aa (Ev (by simp only [go_sem,a,b,c];exact Al)) (ws [])
     ·exact Lf Aa (Ev (by simp only [go_sem,a,b,c];exact Al)) (ws [])
    ·exact Lf Aa (Ev (by simp only [go_sem,a,b];exact Al)) (ws [])
   ·exact Lf Aa (Ev (by simp only [go_sem,a];exact Al)) (ws [])
  intro e
  exact Sr <|Rr
theorem Li {a d e r} (h : Dl a d e = some r) : Con B 98 [.ref 0 0,.ref 0 12,i64 d,i64 e] [.box [.sl false (L Ag a.p.Zg1.Ze),.sl false (L An a.p.Zg1.Zf),.sl false (L Ab a.p.Zh1.Zx),.sl false (L Ae a.p.Zh1.Zy),.sl false (L Ai a.p.Zh1.Zz),.sl false (L Ah a.p.Zh1.Za1),.sl false (L Af a.p.Zi1),.sl false (L Ad a.p.Zj1),.sl false (L Ac a.p.Zk1),i64 a.it.Za,i64 a.it.Ref.Zb,i64 a.it.Ref.No,i64 a.it.Zn1,i64 a.it.Zb1,i64 a.it.Zc,i64 a.it.Zo1,i64 a.it.Zw,i64 a.it.To,i64 a.it.Code,i64 a.it.Zp1,i64 a.it.Zq1,i64 a.it.Zr1,i64 a.it.Zs1,.str a.it.Zt1,.sl false (L Aj a.it.Zu1),.bool a.ok] false] (fun r' σ' => r' = .tup []∧σ' = [.box [.sl false (L Ag r.p.Zg1.Ze),.sl false (L An r.p.Zg1.Zf),.sl false (L Ab r.p.Zh1.Zx),.sl false (L Ae r.p.Zh1.Zy),.sl false (L Ai r.p.Zh1.Zz),.sl false (L Ah r.p.Zh1.Za1),.sl false (L Af r.p.Zi1),.sl false (L Ad r.p.Zj1),.sl false (L Ac r.p.Zk1),i64 r.it.Za,i64 r.it.Ref.Zb,i64 r.it.Ref.No,i64 r.it.Zn1,i64 r.it.Zb1,i64 r.it.Zc,i64 r.it.Zo1,i64 r.it.Zw,i64 r.it.To,i64 r.it.Code,i64 r.it.Zp1,i64 r.it.Zq1,i64 r.it.Zr1,i64 r.it.Zs1,.str r.it.Zt1,.sl false (L Aj r.it.Zu1),.bool r.ok] false]):=by
 refine Co 1 31 [] Tryd.func98 (fun F hE => ?_) h
 unfold Dl
 refine Tw [1] (fun f => ⟨Ar 31 [(1,.ref 0 12)],[.box [.sl false (L Ag a.p.Zg1.Ze),.sl false (L An a.p.Zg1.Zf),.sl false (L Ab a.p.Zh1.Zx),.sl false (L Ae a.p.Zh1.Zy),.sl false (L Ai a.p.Zh1.Zz),.sl false (L Ah a.p.Zh1.Za1),.sl false (L Af a.p.Zi1),.sl false (L Ad a.p.Zj1),.sl false (L Ac a.p.Zk1),i64 a.it.Za,i64 a.it.Ref.Zb,i64 a.it.Ref.No,i64 a.it.Zn1,i64 a.it.Zb1,i64 a.it.Zc,i64 a.it.Zo1,i64 a.it.Zw,i64 a.it.To,i64 a.it.Code,i64 a.it.Zp1,i64 a.it.Zq1,i64 a.it.Zr1,i64 a.it.Zs1,.str a.it.Zt1,.sl false (L Aj a.it.Zu1),.bool f] false]⟩) ?_ ?_
 ·intro _
  refine Sp (fun b => ?_) fun b => ?_
  ·refine Sp (fun c => ?_) fun c => ?_
   ·exact Lf Aa (Ev (by simp only [go_sem,b,c];exact Al)) (ws [0])
   ·exact Lf Aa (Ev (by simp only [go_sem,b,c];exact Al)) (ws [0])
  ·exact Lf Aa (Ev (by simp only [go_sem,b];exact Al)) (ws [0])
 intro f
 refine F0 [] ?_
 exact Ro [0]
theorem En {a d e r} (h : B8 a d e = some r) : Con B 98 [.ref 0 0,.ref 0 14,i64 d,i64 e] [.box [.sl false (L Ag a.p.Zg1.Ze),.sl false (L An a.p.Zg1.Zf),.sl false (L Ab a.p.Zh1.Zx),.sl false (L Ae a.p.Zh1.Zy),.sl false (L Ai a.p.Zh1.Zz),.sl false (L Ah a.p.Zh1.Za1),.sl false (L Af a.p.Zi1),.sl false (L Ad a.p.Zj1),.sl false (L Ac a.p.Zk1),i64 a.it.Za,i64 a.it.Ref.Zb,i64 a.it.Ref.No,i64 a.it.Zn1,i64 a.it.Zb1,i64 a.it.Zc,i64 a.it.Zo1,i64 a.it.Zw,i64 a.it.To,i64 a.it.Code,i64 a.it.Zp1,i64 a.it.Zq1,i64 a.it.Zr1,i64 a.it.Zs1,.str a.it.Zt1,.sl false (L Aj a.it.Zu1),.bool a.ok] false] (fun r' σ' => r' = .tup []∧σ' = [.box [.sl false (L Ag r.p.Zg1.Ze),.sl false (L An r.p.Zg1.Zf),.sl false (L Ab r.p.Zh1.Zx),.sl false (L Ae r.p.Zh1.Zy),.sl false (L Ai r.p.Zh1.Zz),.sl false (L Ah r.p.Zh1.Za1),.sl false (L Af r.p.Zi1),.sl false (L Ad r.p.Zj1),.sl false (L Ac r.p.Zk1),i64 r.it.Za,i64 r.it.Ref.Zb,i64 r.it.Ref.No,i64 r.it.Zn1,i64 r.it.Zb1,i64 r.it.Zc,i64 r.it.Zo1,i64 r.it.Zw,i64 r.it.To,i64 r.it.Code,i64 r.it.Zp1,i64 r.it.Zq1,i64 r.it.Zr1,i64 r.it.Zs1,.str r.it.Zt1,.sl false (L Aj r.it.Zu1),.bool r.ok] false]):=by
 refine Co 1 31 [] Tryd.func98 (fun F hE => ?_) h
 unfold B8
 refine Tw [1] (fun f => ⟨Ar 31 [(1,.ref 0 14)],[.box [.sl false (L Ag a.p.Zg1.Ze),.sl false (L An a.p.Zg1.Zf),.sl false (L Ab a.p.Zh1.Zx),.sl false (L Ae a.p.Zh1.Zy),.sl false (L Ai a.p.Zh1.Zz),.sl false (L Ah a.p.Zh1.Za1),.sl false (L Af a.p.Zi1),.sl false (L Ad a.p.Zj1),.sl false (L Ac a.p.Zk1),i64 a.it.Za,i64 a.it.Ref.Zb,i64 a.it.Ref.No,i64 a.it.Zn1,i64 a.it.Zb1,i64 a.it.Zc,i64 a.it.Zo1,i64 a.it.Zw,i64 a.it.To,i64 a.it.Code,i64 a.it.Zp1,i64 a.it.Zq1,i64 a.it.Zr1,i64 a.it.Zs1,.str a.it.Zt1,.sl false (L Aj a.it.Zu1),.bool f] false]⟩) ?_ ?_
 ·intro _
  refine Sp (fun b => ?_) fun b => ?_
  ·refine Sp (fun c => ?_) fun c => ?_
   ·exact Lf Aa (Ev (by simp only [go_sem,b,c];exact Al)) (ws [0])
   ·exact Lf Aa (Ev (by simp only [go_sem,b,c];exact Al)) (ws [0])
  ·exact Lf Aa (Ev (by simp only [go_sem,b];exact Al)) (ws [0])
 intro f
 refine F0 [] ?_
 exact Ro [0]
theorem Qt {e f a r} (h : Q6 e f a = some r) : Con B 91 [u64 e,u64 f,u64 a] [] (fun r' σ' => r' = u64 r∧σ' = []):=by
 refine Cw 26 [.tmp 6] Tryd.func91 (fun F hE => ?_) h
 unfold Q6
 refine T0 [0,1,2] ?_
 refine T0 [0,1,2,7] ?_
 refine Ja (fun g => ⟨Ar 26 [(7,u64 g)],[]⟩) ?_ ?_
 ·intro q
  refine Sb ?_
  refine Lo (fun ⟨b,c,d⟩ => ⟨Ar 26 [(0,u64 b),(1,u64 c),(2,u64 a),(7,u64 d)],[]⟩) (ws []) ?_
  rintro ⟨b,c,d⟩ s j k l
  show Od a b c d = some j→_
  unfold Od
  refine Sq <|T0 [0,1,2,7,9] ?_
  refine Cd ?_ ?_
  ·refine Sk <|Tn <|Sq <|Sb <|?_
   refine Ja (fun i => ⟨Ar 26 [(0,u64 b),(1,u64 c),(2,u64 a),(7,u64 i)],[]⟩) ?_ ?_
   ·intro t
    have m : ¬(2 : UInt64) = 0:=by decide
    refine Te [0,1,2,7,14] Aa (Ev (by simp only [go_sem,m];exact Al)) ?_
    refine Cd ?_ ?_
    ·refine Ck fun n =>Fe [0,1,2,7] Aa (Ev (by simp only [go_sem,n];exact Al)) ?_
     exact Jm (ws [])
    ·exact Sk <|Jm (ws [])
   intro i
   refine Ck fun o =>Fe [0,1,2,7] Aa (Ev (by simp only [go_sem,o];exact Al)) ?_
   refine Bn <|Tn <|?_
   have p : ¬(2 : UInt64) = 0:=by decide
   refine Fe [0,1,2,7] Aa (Ev (by simp only [go_sem,p];exact Al)) ?_
   exact Ln (ws [])
  ·refine Sx <|Tx <|Ly l k <|Bx <|?_
   exact Jm ((ws (l':=[(7,u64 d)]) (σ':=[]) []).trans (ws []))
 intro g
 refine T0 [6] ?_
 exact Sr <|Rr
theorem AdQ {d e r} (h : Aeo d e = some r) : Con B 76 [u64 d,u64 e] [] (fun r' σ' => r' = u64 r∧σ' = []):=by
 refine Cw 22 [.tmp 4] Tryd.func76 (fun F hE => ?_) h
 unfold Aeo
 refine T0 [0,1] ?_
 refine T0 [0,1,5] ?_
 refine Ja (fun f => ⟨Ar 22 [(5,u64 f)],[]⟩) ?_ ?_
 ·intro t
  have i : ¬(2305843009213690799 : UInt64) = 0:=by decide
  refine Lt fun j k =>Te (fr':=[(0,u64 j),(1,_),(5,_)]) [0,1,5] Aa (Ev (by simp only [go_sem,i,k];exact Al)) ?_
  refine Sb ?_
  refine Lo (fun ⟨a,b,c⟩ => ⟨Ar 22 [(0,u64 a),(1,u64 b),(5,u64 c)],[]⟩) (ws []) ?_
  rintro ⟨a,b,c⟩ u l m n
  show Sf a b c = some l→_
  unfold Sf
  refine Sq <|T0 [0,1,5,9] ?_
  refine Cd ?_ ?_
  ·refine Sk <|Tn <|Sq <|Sb <|?_
   refine Ja (fun g => ⟨Ar 22 [(0,u64 a),(1,u64 b),(5,u64 g)],[]⟩) ?_ ?_
   ·intro v
    have o : ¬(2 : UInt64) = 0:=by decide
    refine Te [0,1,5,14] Aa (Ev (by simp only [go_sem,o];exact Al)) ?_
    refine Cd ?_ ?_
    ·refine Bd fun w p =>Fe [0,1,5] (o1 17 (Qt p)) Ev ?_
     exact Jm (ws [])
    ·exact Sk <|Jm (ws [])
   intro g
   refine Bd fun x q =>Fe [0,1,5] (o1 20 (Qt q)) Ev ?_
   refine Bn <|Tn <|?_
   have s : ¬(2 : UInt64) = 0:=by decide
   refine Fe [0,1,5] Aa (Ev (by simp only [go_sem,s];exact Al)) ?_
   exact Ln (ws [])
  ·refine Sx <|Tx <|Ly n m <|Bx <|?_
   exact Jm ((ws (l':=[(5,u64 c)]) (σ':=[]) []).trans (ws []))
 intro f
 refine T0 [4] ?_
 exact Sr <|Rr
theorem Ya {a r} (h : Ru a = some r) : Con B 53 [u64 a] [] (fun r' σ' => r' = .tup [u64 r.1,i64 r.2]∧σ' = []):=by
 refine Cw 12 [.tmp 2,.tmp 3] Tryd.func53 (fun F hE => ?_) h
 unfold Ru
 refine T0 [0] ?_
 refine Sq ?_
 refine Tw [0,9] (fun c => ⟨Ar 12 [(0,u64 a),(9,.bool c)],[]⟩) ?_ ?_
 ·intro _
  refine Sp (fun b => ?_) fun b => ?_
  ·exact Lf Aa (Ev (by simp only [go_sem,b];exact Al)) (ws [])
  ·exact Lf Aa (Ev (by simp only [go_sem,b];exact Al)) (ws [])
 intro c
 refine Cd ?_ ?_
 ·refine T0 [2,3] ?_
  exact Sr <|Tr <|Rr
 ·refine Sk <|Tn <|Bd fun e d =>Te [2,3] (o1 11 (AdQ d)) Ev ?_
  exact Sr <|Rr
theorem Wb {r} (h : r14_Example  = some r) : Con B 28 [] [] (fun r' σ' => r' = .agg (Aw r)∧σ' = []):=by
 refine Cw 50 [.cell 0 36] Tryd.func28 (fun F hE => ?_) h
 unfold r14_Example
 refine T0 [0] ?_
 refine T0 [0,1] ?_
 refine Lt fun a k =>Te (σ':=[_,.box [.bs true 2 (a.length) 0 (a.length),.sl true (L An ([])),.sl true (L Ab ([])),.sl true (L Ae ([])),.sl true (L Ai ([])),.sl true (L Ah ([])),.sl true (L Af ([])),.sl true (L Ad ([])),.sl true (L Ac ([]))] false,.buf 3 (L Ag a) false]) [0,1] Aa (Ev (by simp only [go_sem,k];exact Al)) ?_
 refine Lt fun b l =>Te (σ':=[_,.box [.bs true 2 (a.length) 0 (a.length),.bs true 3 (b.length) 0 (b.length),.sl true (L Ab ([])),.sl true (L Ae ([])),.sl true (L Ai ([])),.sl true (L Ah ([])),.sl true (L Af ([])),.sl true (L Ad ([])),.sl true (L Ac ([]))] false,_,.buf 5 (L An b) false]) [0,1] Aa (Ev (by simp only [go_sem,l];exact Al)) ?_
 refine Lt fun c m =>Te (σ':=[_,.box [.bs true 2 (a.length) 0 (a.length),.bs true 3 (b.length) 0 (b.length),.bs true 4 (c.length) 0 (c.length),.sl true (L Ae ([])),.sl true (L Ai ([])),.sl true (L Ah ([])),.sl true (L Af ([])),.sl true (L Ad ([])),.sl true (L Ac ([]))] false,_,_,.buf 8 (L Ab c) false]) [0,1] Aa (Ev (by simp only [go_sem,m];exact Al)) ?_
 refine Lt fun d n =>Te (σ':=[_,.box [.bs true 2 (a.length) 0 (a.length),.bs true 3 (b.length) 0 (b.length),.bs true 4 (c.length) 0 (c.length),.bs true 5 (d.length) 0 (d.length),.sl true (L Ai ([])),.sl true (L Ah ([])),.sl true (L Af ([])),.sl true (L Ad ([])),.sl true (L Ac ([]))] false,_,_,_,.buf 5 (L Ae d) false]) [0,1] Aa (Ev (by simp only [go_sem,n];exact Al)) ?_
 refine Lt fun e o =>Te (σ':=[_,.box [.bs true 2 (a.length) 0 (a.length),.bs true 3 (b.length) 0 (b.length),.bs true 4 (c.length) 0 (c.length),.bs true 5 (d.length) 0 (d.length),.sl true (L Ai ([])),.sl true (L Ah ([])),.bs true 6 (e.length) 0 (e.length),.sl true (L Ad ([])),.sl true (L Ac ([]))] false,_,_,_,_,.buf 3 (L Af e) false]) [0,1] Aa (Ev (by simp only [go_sem,o];exact Al)) ?_
 refine Lt fun f p =>Te (σ':=[_,.box [.bs true 2 (a.length) 0 (a.length),.bs true 3 (b.length) 0 (b.length),.bs true 4 (c.length) 0 (c.length),.bs true 5 (d.length) 0 (d.length),.sl true (L Ai ([])),.sl true (L Ah ([])),.bs true 6 (e.length) 0 (e.length),.bs true 7 (f.length) 0 (f.length),.sl true (L Ac ([]))] false,_,_,_,_,_,.buf 1 (L Ad f) false]) [0,1] Aa (Ev (by simp only [go_sem,p];exact Al)) ?_
 refine Ja (fun g => ⟨Ar 50 [(0,.ref 0 0),(1,.ref 1 0)],[.box [.sl true (L Ag ([])),.sl true (L An ([])),.sl true (L Ab ([])),.sl true (L Ae ([])),.sl true (L Ai ([])),.sl true (L Ah ([])),.sl true (L Af ([])),.sl true (L Ad ([])),.sl true (L Ac ([]))] false,.box [.bs true 2 (a.length) 0 (a.length),.bs true 3 (b.length) 0 (b.length),.bs true 4 (c.length) 0 (c.length),.bs true 5 (d.length) 0 (d.length),.sl true (L Ai ([])),.sl true (L Ah ([])),.bs true 6 (e.length) 0 (e.length),.bs true 7 (f.length) 0 (f.length),.bs false 8 (g.length) 0 (g.length)] false,.buf 3 (L Ag a) false,.buf 5 (L An b) false,.buf 8 (L Ab c) false,.buf 5 (L Ae d) false,.buf 3 (L Af e) false,.buf 1 (L Ad f) false,.buf 16 (L Ac g) false]⟩) ?_ ?_
 ·intro z
  refine T0 [0,1,2] ?_
  refine Sb ?_
  refine Lo (fun (v : Int×List Api_RailwayInfo) => (⟨Ar 50 [(0,.ref 0 0),(1,.ref 1 0),(2,i64 v.1)],[.box [.sl true (L Ag ([])),.sl true (L An ([])),.sl true (L Ab ([])),.sl true (L Ae ([])),.sl true (L Ai ([])),.sl true (L Ah ([])),.sl true (L Af ([])),.sl true (L Ad ([])),.sl true (L Ac ([]))] false,.box [.bs true 2 (a.length) 0 (a.length),.bs true 3 (b.length) 0 (b.length),.bs true 4 (c.length) 0 (c.length),.bs true 5 (d.length) 0 (d.length),.sl true (L Ai ([])),.sl true (L Ah ([])),.bs true 6 (e.length) 0 (e.length),.bs true 7 (f.length) 0 (f.length),.bs false 8 (v.2.length) 0 (v.2.length)] false,.buf 3 (L Ag a) false,.buf 5 (L An b) false,.buf 8 (L Ab c) false,.buf 5 (L Ae d) false,.buf 3 (L Af e) false,.buf 1 (L Ad f) false,.buf 16 (L Ac v.2) false]⟩ : St)) ((Kz 1 8 16 rfl rfl).trans (ws [0,1,2,3,4,5,6,7,8])) ?_
  rintro ⟨q,i⟩ aa s t u
  show Ld q i = some s→_
  unfold Ld
  refine Sq <|T0 [0,1,2,32] ?_
  refine Cd ?_ ?_
  ·refine Sk <|Tn <|Sq <|Sb <|Bd fun ab w =>Te [0,1,2,3] (o1 39 (Ya w)) Ev ?_
   refine Ck fun x =>Lt fun j y =>Fe (σ':=[_,.box [.bs true 2 (a.length) 0 (a.length),.bs true 3 (b.length) 0 (b.length),.bs true 4 (c.length) 0 (c.length),.bs true 5 (d.length) 0 (d.length),.sl true (L Ai ([])),.sl true (L Ah ([])),.bs true 6 (e.length) 0 (e.length),.bs true 7 (f.length) 0 (f.length),.bs false 8 (j.length) 0 (j.length)] false,_,_,_,_,_,_,.buf 16 (L Ac j) false,_]) [0,1,2] Aa (Ev (by simp only [go_sem,x,y];exact Al)) ?_
   refine Bn <|Tn <|F0 [0,1,2] ?_
   exact Ln (ws [0,1,2,3,4,5,6,7,8])
  ·refine Sx <|Tx <|Ly u t <|Bx <|?_
   exact Jm ((ws (l':=[(0,.ref 0 0),(1,.ref 1 0)]) (σ':=[.box [.sl true (L Ag ([])),.sl true (L An ([])),.sl true (L Ab ([])),.sl true (L Ae ([])),.sl true (L Ai ([])),.sl true (L Ah ([])),.sl true (L Af ([])),.sl true (L Ad ([])),.sl true (L Ac ([]))] false,.box [.bs true 2 (a.length) 0 (a.length),.bs true 3 (b.length) 0 (b.length),.bs true 4 (c.length) 0 (c.length),.bs true 5 (d.length) 0 (d.length),.sl true (L Ai ([])),.sl true (L Ah ([])),.bs true 6 (e.length) 0 (e.length),.bs true 7 (f.length) 0 (f.length),.bs false 8 (i.length) 0 (i.length)] false,.buf 3 (L Ag a) false,.buf 5 (L An b) false,.buf 8 (L Ab c) false,.buf 5 (L Ae d) false,.buf 3 (L Af e) false,.buf 1 (L Ad f) false,.buf 16 (L Ac i) false]) [0,1,2,3,4,5,6,7,8]).trans (ws [0,1,2,3,4,5,6,7,8]))
 intro g
 refine T0 [0] ?_
 exact Sr <|Rr
theorem G7 {a r} (h : D6 a = some r) : Con B 29 [i64 a] [] (fun r' σ' => r' = .agg (A5 r)∧σ' = []):=by
 refine Cw 5 [.cell 2 46] Tryd.func29 (fun F hE => ?_) h
 unfold D6
 refine T0 [0,2] ?_
 refine T0 [2] ?_
 exact Sr <|Rr
theorem Rl {a r} (h : Hq a = some r) : Con B 77 [.agg [i64 a.Za,i64 a.Zb,i64 a.Zc]] [] (fun r' σ' => r' = .bool r∧σ' = []):=by
 refine Cw 42 [.tmp 2] Tryd.func77 (fun F hE => ?_) h
 unfold Hq
 refine T0 [1] ?_
 refine Sq ?_
 refine Tw [1,20] (fun g => ⟨Ar 42 [(1,.ref 0 0),(20,.bool g)],[.box [i64 a.Za,i64 a.Zb,i64 a.Zc] false]⟩) ?_ ?_
 ·intro _
  refine Sp (fun b => ?_) fun b => ?_
  ·exact Lf Aa (Ev (by simp only [go_sem,b];exact Al)) (ws [0])
  ·refine Sp (fun c => ?_) fun c => ?_
   ·exact Lf Aa (Ev (by simp only [go_sem,b,c];exact Al)) (ws [0])
   ·refine Sp (fun e => ?_) fun e => ?_
    ·exact Lf Aa (Ev (by simp only [go_sem,b,c,e];exact Al)) (ws [0])
    ·exact Lf Aa (Ev (by simp only [go_sem,b,c,e];exact Al)) (ws [0])
 intro g
 refine Cd ?_ ?_
 ·refine T0 [2] ?_
  exact Sr <|Tr <|Rr
 ·refine Sk <|Tn <|Sq <|T0 [1,23] ?_
  refine Cd ?_ ?_
  ·refine T0 [2] ?_
   exact Sr <|Tr <|Rr
  ·refine Sk <|Tn <|?_
   refine Tw [2] (fun i => ⟨Ar 42 [(2,.bool i)],[]⟩) ?_ ?_
   ·intro _
    refine Sp (fun d => ?_) fun d => ?_
    ·refine Sp (fun f => ?_) fun f => ?_
     ·exact Lf Aa (Ev (by simp only [go_sem,d,f];exact Al)) (ws [])
     ·exact Lf Aa (Ev (by simp only [go_sem,d,f];exact Al)) (ws [])
    ·exact Lf Aa (Ev (by simp only [go_sem,d];exact Al)) (ws [])
   intro i
   exact Sr <|Rr
theorem Rd {a r} (h : Ia a = some r) : Con B 54 [.agg [.sl false (L Ag a.Ze),.sl false (L An a.Zf)]] [] (fun r' σ' => r' = i64 r∧σ' = []):=by
 refine Cw 84 [.tmp 2] Tryd.func54 (fun F hE => ?_) h
 unfold Ia
 refine T0 [1] ?_
 refine Lt fun b t =>Te (fr':=[(1,_),(3,i64 b)]) [1,3] Aa (Ev (by simp only [go_sem,t];exact Al)) ?_
 refine Sq ?_
 refine Tw [1,3,18] (fun m => ⟨Ar 84 [(1,.ref 0 0),(3,i64 b),(18,.bool m)],[.box [.sl false (L Ag a.Ze),.sl false (L An a.Zf)] false]⟩) ?_ ?_
 ·intro _
  refine Sp (fun j => ?_) fun j => ?_
  ·exact Lf Aa (Ev (by simp only [go_sem,j];exact Al)) (ws [0])
  ·exact Lf Aa (Ev (by simp only [go_sem,j];exact Al)) (ws [0])
 intro m
 refine Cd ?_ ?_
 ·refine T0 [2] ?_
  exact Sr <|Tr <|Rr
 ·refine Sk <|Tn <|?_
  refine Jo (fun _ => ⟨Ar 84 [(1,.ref 0 0),(3,i64 b)],[.box [.sl false (L Ag a.Ze),.sl false (L An a.Zf)] false]⟩) ?_ ?_
  ·intro ar u
   refine T0 [1,3,20,21,22] ?_
   refine Sb ?_
   refine Lo (fun k => ⟨Ar 84 [(1,.ref 0 0),(3,i64 b),(20,.sl false (L Ag a.Ze)),(21,i64 (a.Ze.length : Int)),(22,i64 k)],[.box [.sl false (L Ag a.Ze),.sl false (L An a.Zf)] false]⟩) (ws [0]) ?_
   rintro k au v n o
   show Ef a k = some v→_
   unfold Ef
   refine T0 [1,3,20,21,22,23] ?_
   refine Sq <|Cd ?_ ?_
   ·refine Sk <|Tn <|Sq <|Sb <|Ck fun w =>Lt fun x y =>Lt fun z aa =>Lt fun ab ac =>Te (σ':=[_,.box [i64 x,i64 z,i64 ab] false]) [1,3,5,20,21,22] Aa (Ev (by simp only [go_sem,qR w,y,aa,ac];exact Al)) ?_
    refine Bd fun av ad =>Te [1,3,20,21,22,28] (o1 27 (Rl ad)) Ev ?_
    refine Cd ?_ ?_
    ·refine T0 [2] ?_
     exact Sr <|Br <|Tr <|Lr o n <|Br <|Jr u <|Rr
    ·refine Sk <|Bn <|Tn <|F0 [1,3,20,21,22] ?_
     exact Ln (ws [0])
   ·refine Sx <|Tx <|Lx o n <|Bx <|?_
    exact Jn ((ws (l':=[(1,.ref 0 0),(3,i64 b)]) (σ':=[.box [.sl false (L Ag a.Ze),.sl false (L An a.Zf)] false]) [0]).trans (ws [0]))
  intro _
  refine Jo (fun _ => ⟨Ar 84 [],[]⟩) ?_ ?_
  ·intro aw ae
   refine T0 [3,31,32,33] ?_
   refine Sb ?_
   refine Lo (fun g => ⟨Ar 84 [(3,i64 b),(31,.sl false (L An a.Zf)),(32,i64 (a.Zf.length : Int)),(33,i64 g)],[]⟩) (ws []) ?_
   rintro g ax af p q
   show Eg a b g = some af→_
   unfold Eg
   refine T0 [3,31,32,33,34] ?_
   refine Sq <|Cd ?_ ?_
   ·refine Sk <|Tn <|Sq <|Sb <|Ck fun ag =>Lt fun ah ai =>Lt fun aj ak =>Lt fun al am =>Lt fun an ao =>Lt fun ap aq =>Te (σ':=[.box [i64 ah,i64 aj,i64 al,i64 an,i64 ap] false]) [3,7,31,32,33] Aa (Ev (by simp only [go_sem,qR ag,ai,ak,am,ao,aq];exact Al)) ?_
    refine Tw [3,31,32,33,82] (fun s => ⟨Ar 84 [(3,i64 b),(31,.sl false (L An a.Zf)),(32,i64 (a.Zf.length : Int)),(33,i64 g),(82,.bool s)],[]⟩) ?_ ?_
    ·intro _
     refine Sp (fun c => ?_) fun c => ?_
     ·exact Lf Aa (Ev (by simp only [go_sem,c];exact Al)) (ws [])
     ·refine Sp (fun d => ?_) fun d => ?_
      ·exact Lf Aa (Ev (by simp only [go_sem,c,d];exact Al)) (ws [])
      ·refine Sp (fun e => ?_) fun e => ?_
       ·exact Lf Aa (Ev (by simp only [go_sem,c,d,e];exact Al)) (ws [])
       ·refine Sp (fun f => ?_) fun f => ?_
        ·exact Lf Aa (Ev (by simp only [go_sem,c,d,e,f];exact Al)) (ws [])
        ·refine Sp (fun i => ?_) fun i => ?_
         ·exact Lf Aa (Ev (by simp only [go_sem,c,d,e,f,i];exact Al)) (ws [])
         ·refine Sp (fun l => ?_) fun l => ?_
          ·exact Lf Aa (Ev (by simp only [go_sem,c,d,e,f,i,l];exact Al)) (ws [])
          ·exact Lf Aa (Ev (by simp only [go_sem,c,d,e,f,i,l];exact Al)) (ws [])
    intro s
    refine Cd ?_ ?_
    ·refine T0 [2] ?_
     exact Sr <|Br <|Tr <|Lr q p <|Br <|Jr ae <|Rr
    ·refine Sk <|Bn <|Tn <|F0 [3,31,32,33] ?_
     exact Ln (ws [])
   ·refine Sx <|Tx <|Lx q p <|Bx <|?_
    exact Jn ((ws (l':=[]) (σ':=[]) []).trans (ws []))
  intro _
  refine T0 [2] ?_
  exact Sr <|Rr
theorem A4 {a b r} (h : Bb a b = some r) : Con B 78 [.bool a,.ref 0 0] [.box [i64 b] false] (fun r' σ' => r' = .tup []∧σ' = [.box [i64 r] false]):=by
 refine Co 1 5 [] Tryd.func78 (fun F hE => ?_) h
 unfold Bb
 refine T0 [1,4] ?_
 refine Cd ?_ ?_
 ·refine F0 [] ?_
  exact Ro [0]
 ·exact Sk <|Ro [0]
theorem Aq {b c d r} (h : Az b c d = some r) : Con B 56 [i64 b,i64 c,i64 d] [] (fun r' σ' => r' = .bool r∧σ' = []):=by
 refine Cw 15 [.tmp 6] Tryd.func56 (fun F hE => ?_) h
 unfold Az
 refine T0 [0,1,2] ?_
 refine Tw [6] (fun e => ⟨Ar 15 [(6,.bool e)],[]⟩) ?_ ?_
 ·intro _
  refine Sp (fun a => ?_) fun a => ?_
  ·exact Lf Aa (Ev (by simp only [go_sem,a];exact Al)) (ws [])
  ·exact Lf Aa (Ev (by simp only [go_sem,a];exact Al)) (ws [])
 intro e
 exact Sr <|Rr
theorem U1 {a r} (h : Kl a = some r) : Con B 55 [.agg [.sl false (L Ab a.Zx),.sl false (L Ae a.Zy),.sl false (L Ai a.Zz),.sl false (L Ah a.Za1)]] [] (fun r' σ' => r' = i64 r∧σ' = []):=by
 refine Cw 206 [.tmp 2] Tryd.func55 (fun F hE => ?_) h
 unfold Kl
 refine T0 [1] ?_
 refine Sq ?_
 refine Tw [1,38] (fun aI => ⟨Ar 206 [(1,.ref 0 0),(38,.bool aI)],[.box [.sl false (L Ab a.Zx),.sl false (L Ae a.Zy),.sl false (L Ai a.Zz),.sl false (L Ah a.Za1)] false]⟩) ?_ ?_
 ·intro _
  refine Sp (fun aa => ?_) fun aa => ?_
  ·exact Lf Aa (Ev (by simp only [go_sem,aa];exact Al)) (ws [0])
  ·refine Sp (fun aj => ?_) fun aj => ?_
   ·exact Lf Aa (Ev (by simp only [go_sem,aa,aj];exact Al)) (ws [0])
   ·refine Sp (fun au => ?_) fun au => ?_
    ·exact Lf Aa (Ev (by simp only [go_sem,aa,aj,au];exact Al)) (ws [0])
    ·exact Lf Aa (Ev (by simp only [go_sem,aa,aj,au];exact Al)) (ws [0])
 intro aI
 refine Cd ?_ ?_
 ·refine T0 [2] ?_
  exact Sr <|Tr <|Rr
 ·refine Sk <|Tn <|T0 [1,3] ?_
  refine T0 [1,3,4] ?_
  refine Ja (fun aJ => ⟨Ar 206 [(1,.ref 0 0),(3,.ref 1 0),(4,.fn 78 [.ref 1 0])],[.box [.sl false (L Ab a.Zx),.sl false (L Ae a.Zy),.sl false (L Ai a.Zz),.sl false (L Ah a.Za1)] false,.box [i64 aJ] false]⟩) ?_ ?_
  ·intro cf
   refine T0 [1,3,4,41,42,43] ?_
   refine Sb ?_
   refine Lo (fun (v : Int×Int) => (⟨Ar 206 [(1,.ref 0 0),(3,.ref 1 0),(4,.fn 78 [.ref 1 0]),(41,.sl false (L Ab a.Zx)),(42,i64 (a.Zx.length : Int)),(43,i64 v.1)],[.box [.sl false (L Ab a.Zx),.sl false (L Ae a.Zy),.sl false (L Ai a.Zz),.sl false (L Ah a.Za1)] false,.box [i64 v.2] false]⟩ : St)) (ws [0,1]) ?_
   rintro ⟨x,aK⟩ cg a2 a3 a4
   show Fx a x aK = some a2→_
   unfold Fx
   refine T0 [1,3,4,41,42,43,44] ?_
   refine Sq <|Cd ?_ ?_
   ·refine Sk <|Tn <|?_
    refine Ja (fun aL => ⟨Ar 206 [(1,.ref 0 0),(3,.ref 1 0),(4,.fn 78 [.ref 1 0]),(41,.sl false (L Ab a.Zx)),(42,i64 (a.Zx.length : Int)),(43,i64 x)],[.box [.sl false (L Ab a.Zx),.sl false (L Ae a.Zy),.sl false (L Ai a.Zz),.sl false (L Ah a.Za1)] false,.box [i64 aL] false]⟩) ?_ ?_
    ·intro ch
     refine Sb <|Ck fun a5 =>Lt fun d a6 =>Lt fun e a7 =>Lt fun f a8 =>Lt fun g a9 =>Lt fun i ba =>Lt fun j bb =>Lt fun k bc =>Lt fun n bd =>Te (σ':=[_,_,.box [i64 d,i64 e,i64 f,i64 g,i64 i,u64 j,i64 k,i64 n] false]) [1,3,4,6,41,42,43] Aa (Ev (by simp only [go_sem,qR a5,a6,a7,a8,a9,ba,bb,bc,bd];exact Al)) ?_
     refine Ja (fun ab => ⟨Ar 206 [(1,.ref 0 0),(3,.ref 1 0),(4,.fn 78 [.ref 1 0]),(6,.ref 2 0),(41,.sl false (L Ab a.Zx)),(42,i64 (a.Zx.length : Int)),(43,i64 x)],[.box [.sl false (L Ab a.Zx),.sl false (L Ae a.Zy),.sl false (L Ai a.Zz),.sl false (L Ah a.Za1)] false,.box [i64 ab] false,.box [i64 d,i64 e,i64 f,i64 g,i64 i,u64 j,i64 k,i64 n] false]⟩) ?_ ?_
     ·intro ci
      refine Lt fun av be =>Lt fun o bf =>Te (fr':=[(1,_),(3,_),(4,_),(6,_),(41,_),(42,_),(43,_),(55,.bs true 3 (o.length) 0 (o.length)),(56,i64 av),(57,_)]) (σ':=[_,_,_,.buf 1 (L Pc o) false]) [1,3,4,6,41,42,43,55,56,57] Aa (Ev (by simp only [go_sem,be,bf];exact Al)) ?_
      refine Sb ?_
      refine Lo (fun (v : Int×Int) => (⟨Ar 206 [(1,.ref 0 0),(3,.ref 1 0),(4,.fn 78 [.ref 1 0]),(6,.ref 2 0),(41,.sl false (L Ab a.Zx)),(42,i64 (a.Zx.length : Int)),(43,i64 x),(55,.bs true 3 (o.length) 0 (o.length)),(56,i64 av),(57,i64 v.1)],[.box [.sl false (L Ab a.Zx),.sl false (L Ae a.Zy),.sl false (L Ai a.Zz),.sl false (L Ah a.Za1)] false,.box [i64 v.2] false,.box [i64 d,i64 e,i64 f,i64 g,i64 i,u64 j,i64 k,i64 n] false,.buf 1 (L Pc o) false]⟩ : St)) (ws [0,1,2,3]) ?_
      rintro ⟨bg,aw⟩ cj bh bi bj
      show Fj av o bg aw = some bh→_
      unfold Fj
      refine T0 [1,3,4,6,41,42,43,55,56,57,58] ?_
      refine Sq <|Cd ?_ ?_
      ·refine Sk <|Tn <|Sq <|Sb <|Ck fun bk =>Te [1,3,4,6,8,41,42,43,55,56,57] Aa (Ev (by simp only [go_sem,qR bk];exact Al)) ?_
       refine Bd fun bl bm =>Bd fun ck bn =>Fe [1,3,4,6,41,42,43,55,56,57] (As (l:=[(63,_,_,_)]) (m:=[(64,78,[.bool bl,.ref 1 0],[.box [.sl false (L Ab a.Zx),.sl false (L Ae a.Zy),.sl false (L Ai a.Zz),.sl false (L Ah a.Za1)] false,.box [i64 aw] false,.box [i64 d,i64 e,i64 f,i64 g,i64 i,u64 j,i64 k,i64 n] false,.buf 1 (L Pc o) false],_,_)]) ⟨Aq  bm,trivial⟩ ⟨(wc (A4 bn) [1]),trivial⟩) Ev ?_
       refine Bn <|Tn <|F0 [1,3,4,6,41,42,43,55,56,57] ?_
       exact Ln (ws [0,1,2,3])
      ·refine Sx <|Tx <|Ly bj bi <|Bx <|?_
       exact Jm ((ws (l':=[(1,.ref 0 0),(3,.ref 1 0),(4,.fn 78 [.ref 1 0]),(6,.ref 2 0),(41,.sl false (L Ab a.Zx)),(42,i64 (a.Zx.length : Int)),(43,i64 x)]) (σ':=[.box [.sl false (L Ab a.Zx),.sl false (L Ae a.Zy),.sl false (L Ai a.Zz),.sl false (L Ah a.Za1)] false,.box [i64 aw] false,.box [i64 d,i64 e,i64 f,i64 g,i64 i,u64 j,i64 k,i64 n] false]) [0,1,2]).trans (ws [0,1,2]))
     intro ab
     refine Fw [1,3,4,41,42,43] (fun aM => ⟨Ar 206 [(1,.ref 0 0),(3,.ref 1 0),(4,.fn 78 [.ref 1 0]),(41,.sl false (L Ab a.Zx)),(42,i64 (a.Zx.length : Int)),(43,i64 x)],[.box [.sl false (L Ab a.Zx),.sl false (L Ae a.Zy),.sl false (L Ai a.Zz),.sl false (L Ah a.Za1)] false,.box [i64 aM] false]⟩) ?_ ?_
     ·intro _
      refine Bd fun cl ax => ?_
      refine Sp (fun ak => ?_) fun ak => ?_
      ·refine Bd fun cm aN => ?_
       refine Sp (fun ay => ?_) fun ay => ?_
       ·refine Bd fun bo bp =>Bd fun cn bq =>?_
        exact Lf (As (l:=[(69,_,_,_),(73,_,_,_),(78,_,_,_)]) (m:=[(80,78,[.bool bo,.ref 1 0],[.box [.sl false (L Ab a.Zx),.sl false (L Ae a.Zy),.sl false (L Ai a.Zz),.sl false (L Ah a.Za1)] false,.box [i64 ab] false,.box [i64 d,i64 e,i64 f,i64 g,i64 i,u64 j,i64 k,i64 n] false],_,_)]) ⟨Aq  ax,Aq  aN,Aq  bp,trivial⟩ ⟨(wc (A4 bq) [1]),trivial⟩) (Ev (by simp only [go_sem,ak,ay];exact Al)) (ws [0,1])
       ·refine Bd fun co br => ?_
        exact Lf (As (l:=[(69,_,_,_),(73,_,_,_)]) (m:=[(80,78,[.bool false,.ref 1 0],[.box [.sl false (L Ab a.Zx),.sl false (L Ae a.Zy),.sl false (L Ai a.Zz),.sl false (L Ah a.Za1)] false,.box [i64 ab] false,.box [i64 d,i64 e,i64 f,i64 g,i64 i,u64 j,i64 k,i64 n] false],_,_)]) ⟨Aq  ax,Aq  aN,trivial⟩ ⟨(wc (A4 br) [1]),trivial⟩) (Ev (by simp only [go_sem,ak,ay];exact Al)) (ws [0,1])
      ·refine Bd fun cp bt => ?_
       exact Lf (As (l:=[(69,_,_,_)]) (m:=[(80,78,[.bool false,.ref 1 0],[.box [.sl false (L Ab a.Zx),.sl false (L Ae a.Zy),.sl false (L Ai a.Zz),.sl false (L Ah a.Za1)] false,.box [i64 ab] false,.box [i64 d,i64 e,i64 f,i64 g,i64 i,u64 j,i64 k,i64 n] false],_,_)]) ⟨Aq  ax,trivial⟩ ⟨(wc (A4 bt) [1]),trivial⟩) (Ev (by simp only [go_sem,ak];exact Al)) (ws [0,1])
     intro aM
     exact Bn <|Jm (ws [0,1])
    intro aL
    refine F0 [1,3,4,41,42,43] ?_
    exact Ln (ws [0,1])
   ·refine Sx <|Tx <|Ly a4 a3 <|Bx <|?_
    exact Jm ((ws (l':=[(1,.ref 0 0),(3,.ref 1 0),(4,.fn 78 [.ref 1 0])]) (σ':=[.box [.sl false (L Ab a.Zx),.sl false (L Ae a.Zy),.sl false (L Ai a.Zz),.sl false (L Ah a.Za1)] false,.box [i64 aK] false]) [0,1]).trans (ws [0,1]))
  intro aJ
  refine Ja (fun aO => ⟨Ar 206 [(1,.ref 0 0),(3,.ref 1 0),(4,.fn 78 [.ref 1 0])],[.box [.sl false (L Ab a.Zx),.sl false (L Ae a.Zy),.sl false (L Ai a.Zz),.sl false (L Ah a.Za1)] false,.box [i64 aO] false]⟩) ?_ ?_
  ·intro cq
   refine T0 [1,3,4,83,84,85] ?_
   refine Sb ?_
   refine Lo (fun (v : Int×Int) => (⟨Ar 206 [(1,.ref 0 0),(3,.ref 1 0),(4,.fn 78 [.ref 1 0]),(83,.sl false (L Ae a.Zy)),(84,i64 (a.Zy.length : Int)),(85,i64 v.1)],[.box [.sl false (L Ab a.Zx),.sl false (L Ae a.Zy),.sl false (L Ai a.Zz),.sl false (L Ah a.Za1)] false,.box [i64 v.2] false]⟩ : St)) (ws [0,1]) ?_
   rintro ⟨az,ac⟩ cr bu bv bw
   show Ft a az ac = some bu→_
   unfold Ft
   refine T0 [1,3,4,83,84,85,86] ?_
   refine Sq <|Cd ?_ ?_
   ·refine Sk <|Tn <|Sq <|Sb <|Ck fun bx =>Lt fun p bz =>Lt fun q bA =>Lt fun s bB =>Lt fun t bC =>Lt fun u bD =>Te (σ':=[_,_,.box [i64 p,i64 q,i64 s,i64 t,i64 u] false]) [1,3,4,10,83,84,85] Aa (Ev (by simp only [go_sem,qR bx,bz,bA,bB,bC,bD];exact Al)) ?_
    refine Tw [1,3,4,10,83,84,85] (fun al => ⟨Ar 206 [(1,.ref 0 0),(3,.ref 1 0),(4,.fn 78 [.ref 1 0]),(10,.ref 2 0),(83,.sl false (L Ae a.Zy)),(84,i64 (a.Zy.length : Int)),(85,i64 az)],[.box [.sl false (L Ab a.Zx),.sl false (L Ae a.Zy),.sl false (L Ai a.Zz),.sl false (L Ah a.Za1)] false,.box [i64 al] false,.box [i64 p,i64 q,i64 s,i64 t,i64 u] false]⟩) ?_ ?_
    ·intro _
     refine Bd fun cs aA => ?_
     refine Sp (fun am => ?_) fun am => ?_
     ·refine Bd fun ct aP => ?_
      refine Sp (fun aB => ?_) fun aB => ?_
      ·refine Bd fun bE bF =>Bd fun cu bG =>?_
       exact Lf (As (l:=[(96,_,_,_),(100,_,_,_),(105,_,_,_)]) (m:=[(107,78,[.bool bE,.ref 1 0],[.box [.sl false (L Ab a.Zx),.sl false (L Ae a.Zy),.sl false (L Ai a.Zz),.sl false (L Ah a.Za1)] false,.box [i64 ac] false,.box [i64 p,i64 q,i64 s,i64 t,i64 u] false],_,_)]) ⟨Aq  aA,Aq  aP,Aq  bF,trivial⟩ ⟨(wc (A4 bG) [1]),trivial⟩) (Ev (by simp only [go_sem,am,aB];exact Al)) (ws [0,1,2])
      ·refine Bd fun cv bH => ?_
       exact Lf (As (l:=[(96,_,_,_),(100,_,_,_)]) (m:=[(107,78,[.bool false,.ref 1 0],[.box [.sl false (L Ab a.Zx),.sl false (L Ae a.Zy),.sl false (L Ai a.Zz),.sl false (L Ah a.Za1)] false,.box [i64 ac] false,.box [i64 p,i64 q,i64 s,i64 t,i64 u] false],_,_)]) ⟨Aq  aA,Aq  aP,trivial⟩ ⟨(wc (A4 bH) [1]),trivial⟩) (Ev (by simp only [go_sem,am,aB];exact Al)) (ws [0,1,2])
     ·refine Bd fun cw bI => ?_
      exact Lf (As (l:=[(96,_,_,_)]) (m:=[(107,78,[.bool false,.ref 1 0],[.box [.sl false (L Ab a.Zx),.sl false (L Ae a.Zy),.sl false (L Ai a.Zz),.sl false (L Ah a.Za1)] false,.box [i64 ac] false,.box [i64 p,i64 q,i64 s,i64 t,i64 u] false],_,_)]) ⟨Aq  aA,trivial⟩ ⟨(wc (A4 bI) [1]),trivial⟩) (Ev (by simp only [go_sem,am];exact Al)) (ws [0,1,2])
    intro al
    refine Fw [1,3,4,83,84,85] (fun aQ => ⟨Ar 206 [(1,.ref 0 0),(3,.ref 1 0),(4,.fn 78 [.ref 1 0]),(83,.sl false (L Ae a.Zy)),(84,i64 (a.Zy.length : Int)),(85,i64 az)],[.box [.sl false (L Ab a.Zx),.sl false (L Ae a.Zy),.sl false (L Ai a.Zz),.sl false (L Ah a.Za1)] false,.box [i64 aQ] false]⟩) ?_ ?_
    ·intro _
     refine Bd fun cx aR => ?_
     refine Sp (fun aC => ?_) fun aC => ?_
     ·refine Bd fun bJ bK =>Bd fun cy bL =>?_
      exact Lf (As (l:=[(111,_,_,_),(115,_,_,_)]) (m:=[(117,78,[.bool bJ,.ref 1 0],[.box [.sl false (L Ab a.Zx),.sl false (L Ae a.Zy),.sl false (L Ai a.Zz),.sl false (L Ah a.Za1)] false,.box [i64 al] false,.box [i64 p,i64 q,i64 s,i64 t,i64 u] false],_,_)]) ⟨Aq  aR,Aq  bK,trivial⟩ ⟨(wc (A4 bL) [1]),trivial⟩) (Ev (by simp only [go_sem,aC];exact Al)) (ws [0,1])
     ·refine Bd fun cz bM => ?_
      exact Lf (As (l:=[(111,_,_,_)]) (m:=[(117,78,[.bool false,.ref 1 0],[.box [.sl false (L Ab a.Zx),.sl false (L Ae a.Zy),.sl false (L Ai a.Zz),.sl false (L Ah a.Za1)] false,.box [i64 al] false,.box [i64 p,i64 q,i64 s,i64 t,i64 u] false],_,_)]) ⟨Aq  aR,trivial⟩ ⟨(wc (A4 bM) [1]),trivial⟩) (Ev (by simp only [go_sem,aC];exact Al)) (ws [0,1])
    intro aQ
    refine Bn <|Tn <|F0 [1,3,4,83,84,85] ?_
    exact Ln (ws [0,1])
   ·refine Sx <|Tx <|Ly bw bv <|Bx <|?_
    exact Jm ((ws (l':=[(1,.ref 0 0),(3,.ref 1 0),(4,.fn 78 [.ref 1 0])]) (σ':=[.box [.sl false (L Ab a.Zx),.sl false (L Ae a.Zy),.sl false (L Ai a.Zz),.sl false (L Ah a.Za1)] false,.box [i64 ac] false]) [0,1]).trans (ws [0,1]))
  intro aO
  refine Ja (fun aS => ⟨Ar 206 [(1,.ref 0 0),(3,.ref 1 0),(4,.fn 78 [.ref 1 0])],[.box [.sl false (L Ab a.Zx),.sl false (L Ae a.Zy),.sl false (L Ai a.Zz),.sl false (L Ah a.Za1)] false,.box [i64 aS] false]⟩) ?_ ?_
  ·intro cA
   refine T0 [1,3,4,120,121,122] ?_
   refine Sb ?_
   refine Lo (fun (v : Int×Int) => (⟨Ar 206 [(1,.ref 0 0),(3,.ref 1 0),(4,.fn 78 [.ref 1 0]),(120,.sl false (L Ai a.Zz)),(121,i64 (a.Zz.length : Int)),(122,i64 v.1)],[.box [.sl false (L Ab a.Zx),.sl false (L Ae a.Zy),.sl false (L Ai a.Zz),.sl false (L Ah a.Za1)] false,.box [i64 v.2] false]⟩ : St)) (ws [0,1]) ?_
   rintro ⟨aT,y⟩ cB bN bO bP
   show Fs a aT y = some bN→_
   unfold Fs
   refine T0 [1,3,4,120,121,122,123] ?_
   refine Sq <|Cd ?_ ?_
   ·refine Sk <|Tn <|Sq <|Sb <|Ck fun bQ =>Lt fun ad bR =>Lt fun ae bS =>Lt fun af bT =>Te (σ':=[_,_,.box [i64 ad,i64 ae,i64 af] false]) [1,3,4,12,120,121,122] Aa (Ev (by simp only [go_sem,qR bQ,bR,bS,bT];exact Al)) ?_
    refine Fw [1,3,4,120,121,122] (fun aU => ⟨Ar 206 [(1,.ref 0 0),(3,.ref 1 0),(4,.fn 78 [.ref 1 0]),(120,.sl false (L Ai a.Zz)),(121,i64 (a.Zz.length : Int)),(122,i64 aT)],[.box [.sl false (L Ab a.Zx),.sl false (L Ae a.Zy),.sl false (L Ai a.Zz),.sl false (L Ah a.Za1)] false,.box [i64 aU] false]⟩) ?_ ?_
    ·intro _
     refine Bd fun cC an => ?_
     refine Sp (fun ag => ?_) fun ag => ?_
     ·refine Bd fun cD aD => ?_
      refine Sp (fun ao => ?_) fun ao => ?_
      ·refine Sp (fun aE => ?_) fun aE => ?_
       ·refine Bd fun bU bV =>Bd fun cE bW =>?_
        exact Lf (As (l:=[(133,_,_,_),(141,_,_,_),(153,_,_,_)]) (m:=[(155,78,[.bool bU,.ref 1 0],[.box [.sl false (L Ab a.Zx),.sl false (L Ae a.Zy),.sl false (L Ai a.Zz),.sl false (L Ah a.Za1)] false,.box [i64 y] false,.box [i64 ad,i64 ae,i64 af] false],_,_)]) ⟨Aq  an,Aq  aD,Aq  bV,trivial⟩ ⟨(wc (A4 bW) [1]),trivial⟩) (Ev (by simp only [go_sem,ag,ao,aE];exact Al)) (ws [0,1])
       ·refine Bd fun cF bX => ?_
        exact Lf (As (l:=[(133,_,_,_),(141,_,_,_)]) (m:=[(155,78,[.bool false,.ref 1 0],[.box [.sl false (L Ab a.Zx),.sl false (L Ae a.Zy),.sl false (L Ai a.Zz),.sl false (L Ah a.Za1)] false,.box [i64 y] false,.box [i64 ad,i64 ae,i64 af] false],_,_)]) ⟨Aq  an,Aq  aD,trivial⟩ ⟨(wc (A4 bX) [1]),trivial⟩) (Ev (by simp only [go_sem,ag,ao,aE];exact Al)) (ws [0,1])
      ·refine Bd fun cG bY => ?_
       exact Lf (As (l:=[(133,_,_,_),(141,_,_,_)]) (m:=[(155,78,[.bool false,.ref 1 0],[.box [.sl false (L Ab a.Zx),.sl false (L Ae a.Zy),.sl false (L Ai a.Zz),.sl false (L Ah a.Za1)] false,.box [i64 y] false,.box [i64 ad,i64 ae,i64 af] false],_,_)]) ⟨Aq  an,Aq  aD,trivial⟩ ⟨(wc (A4 bY) [1]),trivial⟩) (Ev (by simp only [go_sem,ag,ao];exact Al)) (ws [0,1])
     ·refine Bd fun cH bZ => ?_
      exact Lf (As (l:=[(133,_,_,_)]) (m:=[(155,78,[.bool false,.ref 1 0],[.box [.sl false (L Ab a.Zx),.sl false (L Ae a.Zy),.sl false (L Ai a.Zz),.sl false (L Ah a.Za1)] false,.box [i64 y] false,.box [i64 ad,i64 ae,i64 af] false],_,_)]) ⟨Aq  an,trivial⟩ ⟨(wc (A4 bZ) [1]),trivial⟩) (Ev (by simp only [go_sem,ag];exact Al)) (ws [0,1])
    intro aU
    refine Bn <|Tn <|F0 [1,3,4,120,121,122] ?_
    exact Ln (ws [0,1])
   ·refine Sx <|Tx <|Ly bP bO <|Bx <|?_
    exact Jm ((ws (l':=[(1,.ref 0 0),(3,.ref 1 0),(4,.fn 78 [.ref 1 0])]) (σ':=[.box [.sl false (L Ab a.Zx),.sl false (L Ae a.Zy),.sl false (L Ai a.Zz),.sl false (L Ah a.Za1)] false,.box [i64 y] false]) [0,1]).trans (ws [0,1]))
  intro aS
  refine T0 [1,3,4,13] ?_
  refine Ja (fun aV => ⟨Ar 206 [(3,.ref 0 0)],[.box [i64 aV] false]⟩) ?_ ?_
  ·intro cI
   refine T0 [3,4,13,158,159,160] ?_
   refine Sb ?_
   refine Lo (fun ⟨ah,z,w⟩ => ⟨Ar 206 [(3,.ref 0 0),(4,.fn 78 [.ref 0 0]),(13,.ref 1 0),(158,.sl false (L Ah a.Za1)),(159,i64 (a.Za1.length : Int)),(160,i64 ah)],[.box [i64 z] false,.box (C1 AV.bool w.l) false]⟩) (ws [1,2]) ?_
   rintro ⟨ah,z,w⟩ cJ b0 b1 b2
   show Fo a ah z w = some b0→_
   unfold Fo
   refine T0 [3,4,13,158,159,160,161] ?_
   refine Sq <|Cd ?_ ?_
   ·refine Sk <|Tn <|?_
    refine Ja (fun (v : Int×Arr Bool 4096) => (⟨Ar 206 [(3,.ref 0 0),(4,.fn 78 [.ref 0 0]),(13,.ref 1 0),(158,.sl false (L Ah a.Za1)),(159,i64 (a.Za1.length : Int)),(160,i64 ah)],[.box [i64 v.1] false,.box (C1 AV.bool v.2.l) false]⟩ : St)) ?_ ?_
    ·intro cK
     refine Sb <|Ck fun b3 =>Lt fun b b4 =>Lt fun c b5 =>Lt fun ap b6 =>Te (σ':=[_,_,.box [i64 b,i64 c,i64 ap] false]) [3,4,13,15,158,159,160] Aa (Ev (by simp only [go_sem,qR b3,b4,b5,b6];exact Al)) ?_
     refine Tw [3,4,13,15,16,158,159,160] (fun aF => ⟨Ar 206 [(3,.ref 0 0),(4,.fn 78 [.ref 0 0]),(13,.ref 1 0),(15,.ref 2 0),(16,.bool aF),(158,.sl false (L Ah a.Za1)),(159,i64 (a.Za1.length : Int)),(160,i64 ah)],[.box [i64 z] false,.box (C1 AV.bool w.l) false,.box [i64 b,i64 c,i64 ap] false]⟩) ?_ ?_
     ·intro _
      refine Bd fun cL aq => ?_
      refine Sp (fun ai => ?_) fun ai => ?_
      ·refine Bd fun cM aG => ?_
       refine Sp (fun ar => ?_) fun ar => ?_
       ·refine Sp (fun aH => ?_) fun aH => ?_
        ·refine Bd fun cN b7 => ?_
         exact Lf (Iv (l:=[(166,_,_,_),(170,_,_,_),(182,_,_,_)]) ⟨Aq  aq,Aq  aG,Aq  b7,trivial⟩) (Ev (by simp only [go_sem,ai,ar,aH];exact Al)) (ws [0,1,2])
        ·exact Lf (o2 166 (Aq aq) 170 (Aq aG)) (Ev (by simp only [go_sem,ai,ar,aH];exact Al)) (ws [0,1,2])
       ·exact Lf (o2 166 (Aq aq) 170 (Aq aG)) (Ev (by simp only [go_sem,ai,ar];exact Al)) (ws [0,1,2])
      ·exact Lf (o1 166 (Aq aq)) (Ev (by simp only [go_sem,ai];exact Al)) (ws [0,1,2])
     intro aF
     refine Bd fun b8 b9 =>Te [3,4,13,15,16,158,159,160] (As (l:=[]) (m:=[(186,78,[.bool aF,.ref 0 0],[.box [i64 z] false,.box (C1 AV.bool w.l) false,.box [i64 b,i64 c,i64 ap] false],_,_)]) trivial ⟨(wc (A4 b9) [0]),trivial⟩) Ev ?_
     refine T0 [3,4,13,15,158,159,160,187] ?_
     refine Cd ?_ ?_
     ·refine Ck fun aW =>Ck fun aX =>?_
      have aY : b.toNat * 64 + c.toNat < 4096:=AhY aW.2 aX.2
      have ca : b.toNat * 64 + c.toNat≤4095:=Nat.le_of_lt_succ aY
      refine Bd fun cO cb => ?_
      refine Dq [[],[],[1],[],[3],[1,2],[1,2,3,4,5],[1,2,3,4,5,6],[1,2,3,4,5,6,7],[0,1,2,3,4,5,6,7,8]] [3,4,13,15,158,159,160] (As (l:=[]) (m:=[(197,78,[.bool (!(w.get (b.toNat * 64 + c.toNat))),.ref 0 0],[.box [i64 b8] false,.box (C1 AV.bool w.l) false,.box [i64 b,i64 c,i64 ap] false],_,_)]) trivial ⟨(wc (A4 cb) [0]),trivial⟩) (Ev (by simp only [go_sem,qR aW,qR aX,aY,ca];exact Al)) ?_
      refine Ck fun aZ =>Ck fun a0 =>?_
      have a1 : b.toNat * 64 + c.toNat < 4096:=AhY aZ.2 a0.2
      have cc : b.toNat * 64 + c.toNat≤4095:=Nat.le_of_lt_succ a1
      refine Lt fun cd ce =>Ge (σ':=[_,.box (C1 AV.bool cd.l) false,_]) [[],[0],[],[2],[0,1],[0,1,2,3,4],[0,1,2,3,4,5]] [3,4,13,158,159,160] Aa (Ev (by simp only [go_sem,qR aZ,qR a0,a1,cc,ce];exact Al)) ?_
      exact Bn <|Jm (ws [0,1])
     ·exact Sk <|Bn <|Jm (ws [0,1])
    rintro ⟨cP,cQ⟩
    refine F0 [3,4,13,158,159,160] ?_
    exact Ln (ws [0,1])
   ·refine Sx <|Tx <|Ly b2 b1 <|Bx <|?_
    exact Jm ((ws (l':=[(3,.ref 0 0)]) (σ':=[.box [i64 z] false]) [0]).trans (ws [0]))
  intro aV
  refine T0 [2] ?_
  exact Sr <|Rr
theorem Ky {a r} (h : G5 a = some r) : Con B 57 [.agg [i64 a.Zd1.1.Zw,i64 a.Zd1.1.To,i64 a.Zd1.2.1.Zw,i64 a.Zd1.2.1.To,i64 a.Zd1.2.2.1.Zw,i64 a.Zd1.2.2.1.To,i64 a.Zd1.2.2.2.1.Zw,i64 a.Zd1.2.2.2.1.To,i64 a.Zd1.2.2.2.2.1.Zw,i64 a.Zd1.2.2.2.2.1.To,i64 a.Zd1.2.2.2.2.2.1.Zw,i64 a.Zd1.2.2.2.2.2.1.To,i64 a.Zd1.2.2.2.2.2.2.Zw,i64 a.Zd1.2.2.2.2.2.2.To,.sl false (L Pc a.Ze1)]] [] (fun r' σ' => r' = i64 r∧σ' = []):=by
 refine Cw 45 [.tmp 2] Tryd.func57 (fun F hE => ?_) h
 unfold G5
 refine Lt fun b aq =>Lt fun c ar =>Te (σ':=[.box [i64 a.Zd1.1.Zw,i64 a.Zd1.1.To,i64 a.Zd1.2.1.Zw,i64 a.Zd1.2.1.To,i64 a.Zd1.2.2.1.Zw,i64 a.Zd1.2.2.1.To,i64 a.Zd1.2.2.2.1.Zw,i64 a.Zd1.2.2.2.1.To,i64 a.Zd1.2.2.2.2.1.Zw,i64 a.Zd1.2.2.2.2.1.To,i64 b,i64 a.Zd1.2.2.2.2.2.1.To,i64 c,i64 a.Zd1.2.2.2.2.2.2.To,.sl false (L Pc a.Ze1)] false]) [1] Aa (Ev (by simp only [go_sem,aq,ar];exact Al)) ?_
 refine Jo (fun _ => ⟨Ar 45 [(1,.ref 0 0)],[.box [i64 a.Zd1.1.Zw,i64 a.Zd1.1.To,i64 a.Zd1.2.1.Zw,i64 a.Zd1.2.1.To,i64 a.Zd1.2.2.1.Zw,i64 a.Zd1.2.2.1.To,i64 a.Zd1.2.2.2.1.Zw,i64 a.Zd1.2.2.2.1.To,i64 a.Zd1.2.2.2.2.1.Zw,i64 a.Zd1.2.2.2.2.1.To,i64 b,i64 a.Zd1.2.2.2.2.2.1.To,i64 c,i64 a.Zd1.2.2.2.2.2.2.To,.sl false (L Pc a.Ze1)] false]⟩) ?_ ?_
 ·intro aG d
  refine T0 [1,9,10] ?_
  refine Sb ?_
  refine Ul 17 ?_
  refine Ug (m:=16) ?_
  refine T0 [1,9,10,11] ?_
  refine Sq <|Ct <|Sk <|Tn <|Sq <|Sb <|?_
  have x : InR 0 7:=by decide
  refine Te [1,4,9,10] Aa (Ev (by simp only [go_sem,x,x.2];exact Al)) ?_
  refine Tw [1,9,10,27] (fun y => ⟨Ar 45 [(1,.ref 0 0),(9,.agg [i64 a.Zd1.1.Zw,i64 a.Zd1.1.To,i64 a.Zd1.2.1.Zw,i64 a.Zd1.2.1.To,i64 a.Zd1.2.2.1.Zw,i64 a.Zd1.2.2.1.To,i64 a.Zd1.2.2.2.1.Zw,i64 a.Zd1.2.2.2.1.To,i64 a.Zd1.2.2.2.2.1.Zw,i64 a.Zd1.2.2.2.2.1.To,i64 b,i64 a.Zd1.2.2.2.2.2.1.To,i64 c,i64 a.Zd1.2.2.2.2.2.2.To]),(10,i64 0),(27,.bool y)],[.box [i64 a.Zd1.1.Zw,i64 a.Zd1.1.To,i64 a.Zd1.2.1.Zw,i64 a.Zd1.2.1.To,i64 a.Zd1.2.2.1.Zw,i64 a.Zd1.2.2.1.To,i64 a.Zd1.2.2.2.1.Zw,i64 a.Zd1.2.2.2.1.To,i64 a.Zd1.2.2.2.2.1.Zw,i64 a.Zd1.2.2.2.2.1.To,i64 b,i64 a.Zd1.2.2.2.2.2.1.To,i64 c,i64 a.Zd1.2.2.2.2.2.2.To,.sl false (L Pc a.Ze1)] false]⟩) ?_ ?_
  ·intro _
   refine Sp (fun e => ?_) fun e => ?_
   ·exact Lf Aa (Ev (by simp only [go_sem,e];exact Al)) (ws [0])
   ·refine Sp (fun n => ?_) fun n => ?_
    ·exact Lf Aa (Ev (by simp only [go_sem,e,n];exact Al)) (ws [0])
    ·exact Lf Aa (Ev (by simp only [go_sem,e,n];exact Al)) (ws [0])
  intro y
  refine Cd ?_ ?_
  ·refine T0 [2] ?_
   exact Sr <|Br <|Tr <|Ur <|Br <|Jr d <|Rr
  ·refine Sk <|Bn <|Tn <|?_
   have au : w64 1 = 1:=by decide
   refine Fe [1,9,10] Aa (Ev (by simp only [go_sem,au];exact Al)) ?_
   refine Un ?_
   refine Ug (m:=15) ?_
   refine T0 [1,9,10,11] ?_
   refine Sq <|Ct <|Sk <|Tn <|Sq <|Sb <|?_
   have z : InR 1 7:=by decide
   refine Te [1,4,9,10] Aa (Ev (by simp only [go_sem,z,z.2];exact Al)) ?_
   refine Tw [1,9,10,27] (fun aa => ⟨Ar 45 [(1,.ref 0 0),(9,.agg [i64 a.Zd1.1.Zw,i64 a.Zd1.1.To,i64 a.Zd1.2.1.Zw,i64 a.Zd1.2.1.To,i64 a.Zd1.2.2.1.Zw,i64 a.Zd1.2.2.1.To,i64 a.Zd1.2.2.2.1.Zw,i64 a.Zd1.2.2.2.1.To,i64 a.Zd1.2.2.2.2.1.Zw,i64 a.Zd1.2.2.2.2.1.To,i64 b,i64 a.Zd1.2.2.2.2.2.1.To,i64 c,i64 a.Zd1.2.2.2.2.2.2.To]),(10,i64 1),(27,.bool aa)],[.box [i64 a.Zd1.1.Zw,i64 a.Zd1.1.To,i64 a.Zd1.2.1.Zw,i64 a.Zd1.2.1.To,i64 a.Zd1.2.2.1.Zw,i64 a.Zd1.2.2.1.To,i64 a.Zd1.2.2.2.1.Zw,i64 a.Zd1.2.2.2.1.To,i64 a.Zd1.2.2.2.2.1.Zw,i64 a.Zd1.2.2.2.2.1.To,i64 b,i64 a.Zd1.2.2.2.2.2.1.To,i64 c,i64 a.Zd1.2.2.2.2.2.2.To,.sl false (L Pc a.Ze1)] false]⟩) ?_ ?_
   ·intro _
    refine Sp (fun f => ?_) fun f => ?_
    ·exact Lf Aa (Ev (by simp only [go_sem,f];exact Al)) (ws [0])
    ·refine Sp (fun o => ?_) fun o => ?_
     ·exact Lf Aa (Ev (by simp only [go_sem,f,o];exact Al)) (ws [0])
     ·exact Lf Aa (Ev (by simp only [go_sem,f,o];exact Al)) (ws [0])
   intro aa
   refine Cd ?_ ?_
   ·refine T0 [2] ?_
    exact Sr <|Br <|Tr <|Ur <|Br <|Jr d <|Rr
   ·refine Sk <|Bn <|Tn <|?_
    have av : w64 2 = 2:=by decide
    refine Fe [1,9,10] Aa (Ev (by simp only [go_sem,av];exact Al)) ?_
    refine Un ?_
    refine Ug (m:=14) ?_
    refine T0 [1,9,10,11] ?_
    refine Sq <|Ct <|Sk <|Tn <|Sq <|Sb <|?_
    have ab : InR 2 7:=by decide
    refine Te [1,4,9,10] Aa (Ev (by simp only [go_sem,ab,ab.2];exact Al)) ?_
    refine Tw [1,9,10,27] (fun ac => ⟨Ar 45 [(1,.ref 0 0),(9,.agg [i64 a.Zd1.1.Zw,i64 a.Zd1.1.To,i64 a.Zd1.2.1.Zw,i64 a.Zd1.2.1.To,i64 a.Zd1.2.2.1.Zw,i64 a.Zd1.2.2.1.To,i64 a.Zd1.2.2.2.1.Zw,i64 a.Zd1.2.2.2.1.To,i64 a.Zd1.2.2.2.2.1.Zw,i64 a.Zd1.2.2.2.2.1.To,i64 b,i64 a.Zd1.2.2.2.2.2.1.To,i64 c,i64 a.Zd1.2.2.2.2.2.2.To]),(10,i64 2),(27,.bool ac)],[.box [i64 a.Zd1.1.Zw,i64 a.Zd1.1.To,i64 a.Zd1.2.1.Zw,i64 a.Zd1.2.1.To,i64 a.Zd1.2.2.1.Zw,i64 a.Zd1.2.2.1.To,i64 a.Zd1.2.2.2.1.Zw,i64 a.Zd1.2.2.2.1.To,i64 a.Zd1.2.2.2.2.1.Zw,i64 a.Zd1.2.2.2.2.1.To,i64 b,i64 a.Zd1.2.2.2.2.2.1.To,i64 c,i64 a.Zd1.2.2.2.2.2.2.To,.sl false (L Pc a.Ze1)] false]⟩) ?_ ?_
    ·intro _
     refine Sp (fun g => ?_) fun g => ?_
     ·exact Lf Aa (Ev (by simp only [go_sem,g];exact Al)) (ws [0])
     ·refine Sp (fun p => ?_) fun p => ?_
      ·exact Lf Aa (Ev (by simp only [go_sem,g,p];exact Al)) (ws [0])
      ·exact Lf Aa (Ev (by simp only [go_sem,g,p];exact Al)) (ws [0])
    intro ac
    refine Cd ?_ ?_
    ·refine T0 [2] ?_
     exact Sr <|Br <|Tr <|Ur <|Br <|Jr d <|Rr
    ·refine Sk <|Bn <|Tn <|?_
     have aw : w64 3 = 3:=by decide
     refine Fe [1,9,10] Aa (Ev (by simp only [go_sem,aw];exact Al)) ?_
     refine Un ?_
     refine Ug (m:=13) ?_
     refine T0 [1,9,10,11] ?_
     refine Sq <|Ct <|Sk <|Tn <|Sq <|Sb <|?_
     have ad : InR 3 7:=by decide
     refine Te [1,4,9,10] Aa (Ev (by simp only [go_sem,ad,ad.2];exact Al)) ?_
     refine Tw [1,9,10,27] (fun ae => ⟨Ar 45 [(1,.ref 0 0),(9,.agg [i64 a.Zd1.1.Zw,i64 a.Zd1.1.To,i64 a.Zd1.2.1.Zw,i64 a.Zd1.2.1.To,i64 a.Zd1.2.2.1.Zw,i64 a.Zd1.2.2.1.To,i64 a.Zd1.2.2.2.1.Zw,i64 a.Zd1.2.2.2.1.To,i64 a.Zd1.2.2.2.2.1.Zw,i64 a.Zd1.2.2.2.2.1.To,i64 b,i64 a.Zd1.2.2.2.2.2.1.To,i64 c,i64 a.Zd1.2.2.2.2.2.2.To]),(10,i64 3),(27,.bool ae)],[.box [i64 a.Zd1.1.Zw,i64 a.Zd1.1.To,i64 a.Zd1.2.1.Zw,i64 a.Zd1.2.1.To,i64 a.Zd1.2.2.1.Zw,i64 a.Zd1.2.2.1.To,i64 a.Zd1.2.2.2.1.Zw,i64 a.Zd1.2.2.2.1.To,i64 a.Zd1.2.2.2.2.1.Zw,i64 a.Zd1.2.2.2.2.1.To,i64 b,i64 a.Zd1.2.2.2.2.2.1.To,i64 c,i64 a.Zd1.2.2.2.2.2.2.To,.sl false (L Pc a.Ze1)] false]⟩) ?_ ?_
     ·intro _
      refine Sp (fun i => ?_) fun i => ?_
      ·exact Lf Aa (Ev (by simp only [go_sem,i];exact Al)) (ws [0])
      ·refine Sp (fun q => ?_) fun q => ?_
       ·exact Lf Aa (Ev (by simp only [go_sem,i,q];exact Al)) (ws [0])
       ·exact Lf Aa (Ev (by simp only [go_sem,i,q];exact Al)) (ws [0])
     intro ae
     refine Cd ?_ ?_
     ·refine T0 [2] ?_
      exact Sr <|Br <|Tr <|Ur <|Br <|Jr d <|Rr
     ·refine Sk <|Bn <|Tn <|?_
      have ax : w64 4 = 4:=by decide
      refine Fe [1,9,10] Aa (Ev (by simp only [go_sem,ax];exact Al)) ?_
      refine Un ?_
      refine Ug (m:=12) ?_
      refine T0 [1,9,10,11] ?_
      refine Sq <|Ct <|Sk <|Tn <|Sq <|Sb <|?_
      have af : InR 4 7:=by decide
      refine Te [1,4,9,10] Aa (Ev (by simp only [go_sem,af,af.2];exact Al)) ?_
      refine Tw [1,9,10,27] (fun ag => ⟨Ar 45 [(1,.ref 0 0),(9,.agg [i64 a.Zd1.1.Zw,i64 a.Zd1.1.To,i64 a.Zd1.2.1.Zw,i64 a.Zd1.2.1.To,i64 a.Zd1.2.2.1.Zw,i64 a.Zd1.2.2.1.To,i64 a.Zd1.2.2.2.1.Zw,i64 a.Zd1.2.2.2.1.To,i64 a.Zd1.2.2.2.2.1.Zw,i64 a.Zd1.2.2.2.2.1.To,i64 b,i64 a.Zd1.2.2.2.2.2.1.To,i64 c,i64 a.Zd1.2.2.2.2.2.2.To]),(10,i64 4),(27,.bool ag)],[.box [i64 a.Zd1.1.Zw,i64 a.Zd1.1.To,i64 a.Zd1.2.1.Zw,i64 a.Zd1.2.1.To,i64 a.Zd1.2.2.1.Zw,i64 a.Zd1.2.2.1.To,i64 a.Zd1.2.2.2.1.Zw,i64 a.Zd1.2.2.2.1.To,i64 a.Zd1.2.2.2.2.1.Zw,i64 a.Zd1.2.2.2.2.1.To,i64 b,i64 a.Zd1.2.2.2.2.2.1.To,i64 c,i64 a.Zd1.2.2.2.2.2.2.To,.sl false (L Pc a.Ze1)] false]⟩) ?_ ?_
      ·intro _
       refine Sp (fun j => ?_) fun j => ?_
       ·exact Lf Aa (Ev (by simp only [go_sem,j];exact Al)) (ws [0])
       ·refine Sp (fun s => ?_) fun s => ?_
        ·exact Lf Aa (Ev (by simp only [go_sem,j,s];exact Al)) (ws [0])
        ·exact Lf Aa (Ev (by simp only [go_sem,j,s];exact Al)) (ws [0])
      intro ag
      refine Cd ?_ ?_
      ·refine T0 [2] ?_
       exact Sr <|Br <|Tr <|Ur <|Br <|Jr d <|Rr
      ·refine Sk <|Bn <|Tn <|?_
       have ay : w64 5 = 5:=by decide
       refine Fe [1,9,10] Aa (Ev (by simp only [go_sem,ay];exact Al)) ?_
       refine Un ?_
       refine Ug (m:=11) ?_
       refine T0 [1,9,10,11] ?_
       refine Sq <|Ct <|Sk <|Tn <|Sq <|Sb <|?_
       have ah : InR 5 7:=by decide
       refine Te [1,4,9,10] Aa (Ev (by simp only [go_sem,ah,ah.2];exact Al)) ?_
       refine Tw [1,9,10,27] (fun ai => ⟨Ar 45 [(1,.ref 0 0),(9,.agg [i64 a.Zd1.1.Zw,i64 a.Zd1.1.To,i64 a.Zd1.2.1.Zw,i64 a.Zd1.2.1.To,i64 a.Zd1.2.2.1.Zw,i64 a.Zd1.2.2.1.To,i64 a.Zd1.2.2.2.1.Zw,i64 a.Zd1.2.2.2.1.To,i64 a.Zd1.2.2.2.2.1.Zw,i64 a.Zd1.2.2.2.2.1.To,i64 b,i64 a.Zd1.2.2.2.2.2.1.To,i64 c,i64 a.Zd1.2.2.2.2.2.2.To]),(10,i64 5),(27,.bool ai)],[.box [i64 a.Zd1.1.Zw,i64 a.Zd1.1.To,i64 a.Zd1.2.1.Zw,i64 a.Zd1.2.1.To,i64 a.Zd1.2.2.1.Zw,i64 a.Zd1.2.2.1.To,i64 a.Zd1.2.2.2.1.Zw,i64 a.Zd1.2.2.2.1.To,i64 a.Zd1.2.2.2.2.1.Zw,i64 a.Zd1.2.2.2.2.1.To,i64 b,i64 a.Zd1.2.2.2.2.2.1.To,i64 c,i64 a.Zd1.2.2.2.2.2.2.To,.sl false (L Pc a.Ze1)] false]⟩) ?_ ?_
       ·intro _
        refine Sp (fun k => ?_) fun k => ?_
        ·exact Lf Aa (Ev (by simp only [go_sem,k];exact Al)) (ws [0])
        ·refine Sp (fun t => ?_) fun t => ?_
         ·exact Lf Aa (Ev (by simp only [go_sem,k,t];exact Al)) (ws [0])
         ·exact Lf Aa (Ev (by simp only [go_sem,k,t];exact Al)) (ws [0])
       intro ai
       refine Cd ?_ ?_
       ·refine T0 [2] ?_
        exact Sr <|Br <|Tr <|Ur <|Br <|Jr d <|Rr
       ·refine Sk <|Bn <|Tn <|?_
        have az : w64 6 = 6:=by decide
        refine Fe [1,9,10] Aa (Ev (by simp only [go_sem,az];exact Al)) ?_
        refine Un ?_
        refine Ug (m:=10) ?_
        refine T0 [1,9,10,11] ?_
        refine Sq <|Ct <|Sk <|Tn <|Sq <|Sb <|?_
        have aj : InR 6 7:=by decide
        refine Te [1,4,9,10] Aa (Ev (by simp only [go_sem,aj,aj.2];exact Al)) ?_
        refine Tw [1,9,10,27] (fun ak => ⟨Ar 45 [(1,.ref 0 0),(9,.agg [i64 a.Zd1.1.Zw,i64 a.Zd1.1.To,i64 a.Zd1.2.1.Zw,i64 a.Zd1.2.1.To,i64 a.Zd1.2.2.1.Zw,i64 a.Zd1.2.2.1.To,i64 a.Zd1.2.2.2.1.Zw,i64 a.Zd1.2.2.2.1.To,i64 a.Zd1.2.2.2.2.1.Zw,i64 a.Zd1.2.2.2.2.1.To,i64 b,i64 a.Zd1.2.2.2.2.2.1.To,i64 c,i64 a.Zd1.2.2.2.2.2.2.To]),(10,i64 6),(27,.bool ak)],[.box [i64 a.Zd1.1.Zw,i64 a.Zd1.1.To,i64 a.Zd1.2.1.Zw,i64 a.Zd1.2.1.To,i64 a.Zd1.2.2.1.Zw,i64 a.Zd1.2.2.1.To,i64 a.Zd1.2.2.2.1.Zw,i64 a.Zd1.2.2.2.1.To,i64 a.Zd1.2.2.2.2.1.Zw,i64 a.Zd1.2.2.2.2.1.To,i64 b,i64 a.Zd1.2.2.2.2.2.1.To,i64 c,i64 a.Zd1.2.2.2.2.2.2.To,.sl false (L Pc a.Ze1)] false]⟩) ?_ ?_
        ·intro _
         refine Sp (fun l => ?_) fun l => ?_
         ·exact Lf Aa (Ev (by simp only [go_sem,l];exact Al)) (ws [0])
         ·refine Sp (fun u => ?_) fun u => ?_
          ·exact Lf Aa (Ev (by simp only [go_sem,l,u];exact Al)) (ws [0])
          ·exact Lf Aa (Ev (by simp only [go_sem,l,u];exact Al)) (ws [0])
        intro ak
        refine Cd ?_ ?_
        ·refine T0 [2] ?_
         exact Sr <|Br <|Tr <|Ur <|Br <|Jr d <|Rr
        ·refine Sk <|Bn <|Tn <|?_
         have aA : w64 7 = 7:=by decide
         refine Fe [1,9,10] Aa (Ev (by simp only [go_sem,aA];exact Al)) ?_
         refine Un ?_
         refine Ug (m:=9) ?_
         refine T0 [1,9,10,11] ?_
         exact Sq <|Cf <|Sx <|Tx <|Ux <|Bx <|Jn (ws [0])
 intro _
 refine T0 [1,5] ?_
 refine Jo (fun _ => ⟨Ar 45 [],[]⟩) ?_ ?_
 ·intro aH aB
  refine T0 [5,30,31,32] ?_
  refine Sb ?_
  refine Lo (fun (v : Int×Int) => (⟨Ar 45 [(5,i64 v.1),(30,.sl false (L Pc a.Ze1)),(31,i64 (a.Ze1.length : Int)),(32,i64 v.2)],[]⟩ : St)) (ws []) ?_
  rintro ⟨aC,al⟩ aI aD am an
  show Eb a aC al = some aD→_
  unfold Eb
  refine T0 [5,30,31,32,33] ?_
  refine Sq <|Cd ?_ ?_
  ·refine Sk <|Tn <|Sq <|Sb <|Ck fun aE =>Lt fun ao aF =>Te (fr':=[(5,_),(7,i64 ao),(30,_),(31,_),(32,_)]) [5,7,30,31,32] Aa (Ev (by simp only [go_sem,qR aE,aF];exact Al)) ?_
   refine Sq ?_
   refine Tw [7,30,31,32,42] (fun ap => ⟨Ar 45 [(7,i64 ao),(30,.sl false (L Pc a.Ze1)),(31,i64 (a.Ze1.length : Int)),(32,i64 al),(42,.bool ap)],[]⟩) ?_ ?_
   ·intro _
    refine Sp (fun w => ?_) fun w => ?_
    ·exact Lf Aa (Ev (by simp only [go_sem,w];exact Al)) (ws [])
    ·exact Lf Aa (Ev (by simp only [go_sem,w];exact Al)) (ws [])
   intro ap
   refine Cd ?_ ?_
   ·refine T0 [2] ?_
    exact Sr <|Tr <|Br <|Tr <|Lr an am <|Br <|Jr aB <|Rr
   ·refine Sk <|Tn <|F0 [5,30,31,32] ?_
    refine Bn <|Tn <|F0 [5,30,31,32] ?_
    exact Ln (ws [])
  ·refine Sx <|Tx <|Lx an am <|Bx <|?_
   exact Jn ((ws (l':=[]) (σ':=[]) []).trans (ws []))
 intro _
 refine T0 [2] ?_
 exact Sr <|Rr
theorem He {a r} (h : C3 a = some r) : Con B 31 [.agg (Aw a)] [] (fun r' σ' => r' = i64 r∧σ' = []):=by
 refine Cw 193 [.tmp 2] Tryd.func31 (fun F hE => ?_) h
 unfold C3
 refine T0 [1] ?_
 refine Sq <|Bd fun b5 ax =>Te [1,3] (o1 22 (Rd ax)) Ev ?_
 refine T0 [1,3,24] ?_
 refine Cd ?_ ?_
 ·refine T0 [2] ?_
  exact Sr <|Tr <|Rr
 ·refine Sk <|Tn <|Sq <|Bd fun b6 ay =>Te [1,4] (o1 28 (U1 ay)) Ev ?_
  refine T0 [1,4,30] ?_
  refine Cd ?_ ?_
  ·refine T0 [2] ?_
   exact Sr <|Tr <|Rr
  ·refine Sk <|Tn <|Sq <|?_
   refine Tw [1,47] (fun t => ⟨Ar 193 [(1,.ref 0 0),(47,.bool t)],[.box (Aw a) false]⟩) ?_ ?_
   ·intro _
    refine Sp (fun e => ?_) fun e => ?_
    ·exact Lf Aa (Ev (by simp only [go_sem,e];exact Al)) (ws [0])
    ·refine Sp (fun l => ?_) fun l => ?_
     ·exact Lf Aa (Ev (by simp only [go_sem,e,l];exact Al)) (ws [0])
     ·exact Lf Aa (Ev (by simp only [go_sem,e,l];exact Al)) (ws [0])
   intro t
   refine Cd ?_ ?_
   ·refine T0 [2] ?_
    exact Sr <|Tr <|Rr
   ·refine Sk <|Tn <|Lt fun b az =>De (fr':=[(1,_),(5,_),(6,i64 b)]) [[],[0],[0,1],[],[3],[3,4],[0,1,2],[0,1,2,3,4,5,6]] [1,5,6] Aa (Ev (by simp only [go_sem,az];exact Al)) ?_
    refine T0 [1,5,6,7] ?_
    refine Ja (fun u => ⟨Ar 193 [(1,.ref 0 0),(5,.sl false (L Ag a.Zg1.Ze)),(6,i64 b),(7,.bool u)],[.box (Aw a) false]⟩) ?_ ?_
    ·intro b7
     refine T0 [1,5,6,7,57,58,59] ?_
     refine Sb ?_
     refine Lo (fun (v : Bool×Int) => (⟨Ar 193 [(1,.ref 0 0),(5,.sl false (L Ag a.Zg1.Ze)),(6,i64 b),(7,.bool v.1),(57,.sl false (L Af a.Zi1)),(58,i64 (a.Zi1.length : Int)),(59,i64 v.2)],[.box (Aw a) false]⟩ : St)) (ws [0]) ?_
     rintro ⟨w,x⟩ b8 aA aB aC
     show Dy a w x = some aA→_
     unfold Dy
     refine T0 [1,5,6,7,57,58,59,60] ?_
     refine Sq <|Cd ?_ ?_
     ·refine Sk <|Tn <|Sq <|Sb <|Ck fun aD =>Lt fun aE aF =>Lt fun aG aH =>Lt fun aI aJ =>Te (σ':=[_,.box [i64 aE,i64 aG,i64 aI] false]) [1,5,6,7,9,57,58,59] Aa (Ev (by simp only [go_sem,qR aD,aF,aH,aJ];exact Al)) ?_
      refine Fw [1,5,6,7,57,58,59] (fun y => ⟨Ar 193 [(1,.ref 0 0),(5,.sl false (L Ag a.Zg1.Ze)),(6,i64 b),(7,.bool y),(57,.sl false (L Af a.Zi1)),(58,i64 (a.Zi1.length : Int)),(59,i64 x)],[.box (Aw a) false]⟩) ?_ ?_
      ·intro _
       refine Sp (fun c => ?_) fun c => ?_
       ·exact Lf Aa (Ev (by simp only [go_sem,c];exact Al)) (ws [0])
       ·refine Bd fun b9 f => ?_
        refine Sp (fun d => ?_) fun d => ?_
        ·exact Lf (o1 70 (Aq f)) (Ev (by simp only [go_sem,c,d];exact Al)) (ws [0])
        ·refine Sp (fun g => ?_) fun g => ?_
         ·exact Lf (o1 70 (Aq f)) (Ev (by simp only [go_sem,c,d,g];exact Al)) (ws [0])
         ·refine Sp (fun m => ?_) fun m => ?_
          ·exact Lf (o1 70 (Aq f)) (Ev (by simp only [go_sem,c,d,g,m];exact Al)) (ws [0])
          ·exact Lf (o1 70 (Aq f)) (Ev (by simp only [go_sem,c,d,g,m];exact Al)) (ws [0])
      intro y
      refine Bn <|Tn <|F0 [1,5,6,7,57,58,59] ?_
      exact Ln (ws [0])
     ·refine Sx <|Tx <|Ly aC aB <|Bx <|?_
      exact Jm ((ws (l':=[(1,.ref 0 0),(5,.sl false (L Ag a.Zg1.Ze)),(6,i64 b),(7,.bool w)]) (σ':=[.box (Aw a) false]) [0]).trans (ws [0]))
    intro u
    refine Ja (fun z => ⟨Ar 193 [(1,.ref 0 0),(5,.sl false (L Ag a.Zg1.Ze)),(6,i64 b),(7,.bool z)],[.box (Aw a) false]⟩) ?_ ?_
    ·intro ca
     refine T0 [1,5,6,7,92,93,94] ?_
     refine Sb ?_
     refine Lo (fun (v : Bool×Int) => (⟨Ar 193 [(1,.ref 0 0),(5,.sl false (L Ag a.Zg1.Ze)),(6,i64 b),(7,.bool v.1),(92,.sl false (L Ad a.Zj1)),(93,i64 (a.Zj1.length : Int)),(94,i64 v.2)],[.box (Aw a) false]⟩ : St)) (ws [0]) ?_
     rintro ⟨aa,ab⟩ cb aK aL aM
     show Dz a aa ab = some aK→_
     unfold Dz
     refine T0 [1,5,6,7,92,93,94,95] ?_
     refine Sq <|Cd ?_ ?_
     ·refine Sk <|Tn <|Sq <|Sb <|Ck fun aN =>Lt fun aO aP =>Te (σ':=[_,.box [i64 aO] false]) [1,5,6,7,11,92,93,94] Aa (Ev (by simp only [go_sem,qR aN,aP];exact Al)) ?_
      refine Fw [1,5,6,7,92,93,94] (fun ac => ⟨Ar 193 [(1,.ref 0 0),(5,.sl false (L Ag a.Zg1.Ze)),(6,i64 b),(7,.bool ac),(92,.sl false (L Ad a.Zj1)),(93,i64 (a.Zj1.length : Int)),(94,i64 ab)],[.box (Aw a) false]⟩) ?_ ?_
      ·intro _
       refine Sp (fun i => ?_) fun i => ?_
       ·exact Lf Aa (Ev (by simp only [go_sem,i];exact Al)) (ws [0])
       ·refine Bd fun cc ad => ?_
        refine Sp (fun n => ?_) fun n => ?_
        ·exact Lf (o1 105 (Aq ad)) (Ev (by simp only [go_sem,i,n];exact Al)) (ws [0])
        ·refine Ck fun aQ => ?_
         exact Lf (o1 105 (Aq ad)) (Ev (by simp only [go_sem,i,n,qR aQ];exact Al)) (ws [0])
      intro ac
      refine Bn <|Tn <|F0 [1,5,6,7,92,93,94] ?_
      exact Ln (ws [0])
     ·refine Sx <|Tx <|Ly aM aL <|Bx <|?_
      exact Jm ((ws (l':=[(1,.ref 0 0),(5,.sl false (L Ag a.Zg1.Ze)),(6,i64 b),(7,.bool aa)]) (σ':=[.box (Aw a) false]) [0]).trans (ws [0]))
    intro z
    refine Ja (fun ae => ⟨Ar 193 [(1,.ref 0 0),(5,.sl false (L Ag a.Zg1.Ze)),(6,i64 b),(7,.bool ae)],[.box (Aw a) false]⟩) ?_ ?_
    ·intro cd
     refine T0 [1,5,6,7,120,121,122] ?_
     refine Sb ?_
     refine Lo (fun (v : Bool×Int) => (⟨Ar 193 [(1,.ref 0 0),(5,.sl false (L Ag a.Zg1.Ze)),(6,i64 b),(7,.bool v.1),(120,.sl false (L Ae a.Zh1.Zy)),(121,i64 (a.Zh1.Zy.length : Int)),(122,i64 v.2)],[.box (Aw a) false]⟩ : St)) (ws [0]) ?_
     rintro ⟨af,ag⟩ ce aR aS aT
     show Dt a af ag = some aR→_
     unfold Dt
     refine T0 [1,5,6,7,120,121,122,123] ?_
     refine Sq <|Cd ?_ ?_
     ·refine Sk <|Tn <|Sq <|Sb <|Ck fun aU =>Lt fun aV aW =>Lt fun aX aY =>Lt fun aZ a0 =>Lt fun a1 a2 =>Lt fun a3 a4 =>Te (σ':=[_,.box [i64 aV,i64 aX,i64 aZ,i64 a1,i64 a3] false]) [1,5,6,7,13,120,121,122] Aa (Ev (by simp only [go_sem,qR aU,aW,aY,a0,a2,a4];exact Al)) ?_
      refine Fw [1,5,6,7,120,121,122] (fun ah => ⟨Ar 193 [(1,.ref 0 0),(5,.sl false (L Ag a.Zg1.Ze)),(6,i64 b),(7,.bool ah),(120,.sl false (L Ae a.Zh1.Zy)),(121,i64 (a.Zh1.Zy.length : Int)),(122,i64 ag)],[.box (Aw a) false]⟩) ?_ ?_
      ·intro _
       refine Sp (fun o => ?_) fun o => ?_
       ·exact Lf Aa (Ev (by simp only [go_sem,o];exact Al)) (ws [0])
       ·exact Lf Aa (Ev (by simp only [go_sem,o];exact Al)) (ws [0])
      intro ah
      refine Bn <|Tn <|F0 [1,5,6,7,120,121,122] ?_
      exact Ln (ws [0])
     ·refine Sx <|Tx <|Ly aT aS <|Bx <|?_
      exact Jm ((ws (l':=[(1,.ref 0 0),(5,.sl false (L Ag a.Zg1.Ze)),(6,i64 b),(7,.bool af)]) (σ':=[.box (Aw a) false]) [0]).trans (ws [0]))
    intro ae
    refine Ja (fun ai => ⟨Ar 193 [(1,.ref 0 0),(6,i64 b),(7,.bool ai)],[.box (Aw a) false]⟩) ?_ ?_
    ·intro cf
     refine T0 [1,6,7,135,136,137] ?_
     refine Sb ?_
     refine Lo (fun (v : Bool×Int) => (⟨Ar 193 [(1,.ref 0 0),(6,i64 b),(7,.bool v.1),(135,.sl false (L Ag a.Zg1.Ze)),(136,i64 (a.Zg1.Ze.length : Int)),(137,i64 v.2)],[.box (Aw a) false]⟩ : St)) (ws [0]) ?_
     rintro ⟨aj,ak⟩ cg a5 a6 a7
     show Dx a b aj ak = some a5→_
     unfold Dx
     refine T0 [1,6,7,135,136,137,138] ?_
     refine Sq <|Cd ?_ ?_
     ·refine Sk <|Tn <|Sq <|Sb <|Ck fun a8 =>Lt fun a9 ba =>Lt fun bb bc =>Lt fun bd be =>Te (σ':=[_,.box [i64 a9,i64 bb,i64 bd] false]) [1,6,7,15,135,136,137] Aa (Ev (by simp only [go_sem,qR a8,ba,bc,be];exact Al)) ?_
      refine Fw [1,6,7,135,136,137] (fun al => ⟨Ar 193 [(1,.ref 0 0),(6,i64 b),(7,.bool al),(135,.sl false (L Ag a.Zg1.Ze)),(136,i64 (a.Zg1.Ze.length : Int)),(137,i64 ak)],[.box (Aw a) false]⟩) ?_ ?_
      ·intro _
       refine Sp (fun j => ?_) fun j => ?_
       ·exact Lf Aa (Ev (by simp only [go_sem,j];exact Al)) (ws [0])
       ·refine Sp (fun p => ?_) fun p => ?_
        ·exact Lf Aa (Ev (by simp only [go_sem,j,p];exact Al)) (ws [0])
        ·exact Lf Aa (Ev (by simp only [go_sem,j,p];exact Al)) (ws [0])
      intro al
      refine Bn <|Tn <|F0 [1,6,7,135,136,137] ?_
      exact Ln (ws [0])
     ·refine Sx <|Tx <|Ly a7 a6 <|Bx <|?_
      exact Jm ((ws (l':=[(1,.ref 0 0),(6,i64 b),(7,.bool aj)]) (σ':=[.box (Aw a) false]) [0]).trans (ws [0]))
    intro ai
    refine Ja (fun am => ⟨Ar 193 [(1,.ref 0 0),(7,.bool am)],[.box (Aw a) false]⟩) ?_ ?_
    ·intro ch
     refine T0 [1,6,7,157,158,159] ?_
     refine Sb ?_
     refine Lo (fun (v : Bool×Int) => (⟨Ar 193 [(1,.ref 0 0),(6,i64 b),(7,.bool v.1),(157,.sl false (L An a.Zg1.Zf)),(158,i64 (a.Zg1.Zf.length : Int)),(159,i64 v.2)],[.box (Aw a) false]⟩ : St)) (ws [0]) ?_
     rintro ⟨an,ao⟩ ci bf bg bh
     show Du a b an ao = some bf→_
     unfold Du
     refine T0 [1,6,7,157,158,159,160] ?_
     refine Sq <|Cd ?_ ?_
     ·refine Sk <|Tn <|Sq <|Sb <|Ck fun bi =>Lt fun bj bk =>Lt fun bl bm =>Lt fun bn bo =>Lt fun bp bq =>Lt fun br bs =>Te (σ':=[_,.box [i64 bj,i64 bl,i64 bn,i64 bp,i64 br] false]) [1,6,7,17,157,158,159] Aa (Ev (by simp only [go_sem,qR bi,bk,bm,bo,bq,bs];exact Al)) ?_
      refine Fw [1,6,7,157,158,159] (fun ap => ⟨Ar 193 [(1,.ref 0 0),(6,i64 b),(7,.bool ap),(157,.sl false (L An a.Zg1.Zf)),(158,i64 (a.Zg1.Zf.length : Int)),(159,i64 ao)],[.box (Aw a) false]⟩) ?_ ?_
      ·intro _
       refine Sp (fun q => ?_) fun q => ?_
       ·exact Lf Aa (Ev (by simp only [go_sem,q];exact Al)) (ws [0])
       ·exact Lf Aa (Ev (by simp only [go_sem,q];exact Al)) (ws [0])
      intro ap
      refine Bn <|Tn <|F0 [1,6,7,157,158,159] ?_
      exact Ln (ws [0])
     ·refine Sx <|Tx <|Ly bh bg <|Bx <|?_
      exact Jm ((ws (l':=[(1,.ref 0 0),(7,.bool an)]) (σ':=[.box (Aw a) false]) [0]).trans (ws [0]))
    intro am
    refine Ja (fun aq => ⟨Ar 193 [(7,.bool aq)],[]⟩) ?_ ?_
    ·intro cj
     refine T0 [7,172,173,174] ?_
     refine Sb ?_
     refine Lo (fun (v : Bool×Int) => (⟨Ar 193 [(7,.bool v.1),(172,.sl false (L Ac a.Zk1)),(173,i64 (a.Zk1.length : Int)),(174,i64 v.2)],[]⟩ : St)) (ws []) ?_
     rintro ⟨ar,au⟩ ck bt bu bv
     show Dv a ar au = some bt→_
     unfold Dv
     refine T0 [7,172,173,174,175] ?_
     refine Sq <|Cd ?_ ?_
     ·refine Sk <|Tn <|Sq <|Sb <|Ck fun bw =>Lt fun bx bz =>Lt fun bA bB =>Lt fun bC bD =>Lt fun bE bF =>Lt fun bG bH =>Lt fun bI bJ =>Lt fun bK bL =>Lt fun bM bN =>Lt fun bO bP =>Lt fun bQ bR =>Lt fun bS bT =>Lt fun bU bV =>Lt fun bW bX =>Lt fun bY bZ =>Lt fun b0 b1 =>Lt fun b2 b3 =>Te (σ':=[.box [u64 bx,i64 bA,i64 bC,i64 bE,i64 bG,i64 bI,i64 bK,i64 bM,i64 bO,i64 bQ,i64 bS,i64 bU,i64 bW,i64 bY,i64 b0,.sl false (L Pc b2)] false]) [7,19,172,173,174] Aa (Ev (by simp only [go_sem,qR bw,bz,bB,bD,bF,bH,bJ,bL,bN,bP,bR,bT,bV,bX,bZ,b1,b3];exact Al)) ?_
      refine Fw [7,172,173,174] (fun av => ⟨Ar 193 [(7,.bool av),(172,.sl false (L Ac a.Zk1)),(173,i64 (a.Zk1.length : Int)),(174,i64 au)],[]⟩) ?_ ?_
      ·intro _
       refine Sp (fun k => ?_) fun k => ?_
       ·exact Lf Aa (Ev (by simp only [go_sem,k];exact Al)) (ws [])
       ·refine Bd fun cl aw => ?_
        refine Sp (fun s => ?_) fun s => ?_
        ·exact Lf (o1 182 (Ky aw)) (Ev (by simp only [go_sem,k,s];exact Al)) (ws [])
        ·refine Bd fun cm b4 => ?_
         exact Lf (o2 182 (Ky aw) 188 (Pp b4)) (Ev (by simp only [go_sem,k,s];exact Al)) (ws [])
      intro av
      refine Bn <|Tn <|F0 [7,172,173,174] ?_
      exact Ln (ws [])
     ·refine Sx <|Tx <|Ly bv bu <|Bx <|?_
      exact Jm ((ws (l':=[(7,.bool ar)]) (σ':=[]) []).trans (ws []))
    intro aq
    refine Sq <|T0 [192] ?_
    refine Cd ?_ ?_
    ·refine T0 [2] ?_
     exact Sr <|Tr <|Rr
    ·refine Sk <|Tn <|T0 [2] ?_
     exact Sr <|Rr
end Go.Proofs.YtioapcamanmoiaaDoor
