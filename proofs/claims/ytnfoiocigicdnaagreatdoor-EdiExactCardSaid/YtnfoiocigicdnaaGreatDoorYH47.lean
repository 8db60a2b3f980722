/-
  Part 47.
-/
import Derived.Test.YtnfoiocigicdnaaGreatDoorYH46
namespace Go.Proofs.YtnfoiocigicdnaaGreatDoor
open Go.Rv
set_option linter.unusedVariables false
set_option linter.unusedSimpArgs false
set_option maxRecDepth 4000
theorem Aa7 {x : Api_Place} (h : Hv x = true) : x.Zb≠0:=by
 intro hk
 unfold Hv J2 at h
 simp only [AfN,As,M9,Eu,hk] at h
 simp at h
theorem AhI {p : Api_Pool} (h : p.Zs1.Zu.all Hv = true) (i : Int) : ((F6 p i).Zb != 0) = (decide (0≤i) && decide (i≤(p.Zs1.Zu.length : Int) - 1)):=by
 unfold F6
 by_cases hr : 0≤i∧i < (p.Zs1.Zu.length : Int)
 ·rw [if_pos hr]
  have hlt : i.toNat < p.Zs1.Zu.length:=by omega
  have hm : nth p.Zs1.Zu i.toNat ∈ p.Zs1.Zu:=by
   have : nth p.Zs1.Zu i.toNat = p.Zs1.Zu[i.toNat]:=by simp [nth,hlt]
   rw [this];exact List.getElem_mem hlt
  have hk:=Aa7 (List.all_eq_true.1 h _ hm)
  rw [show (decide (0≤i) && decide (i≤(p.Zs1.Zu.length : Int) - 1)) = true by simp;omega]
  simpa using hk
 ·rw [if_neg hr,show (decide (0≤i) && decide (i≤(p.Zs1.Zu.length : Int) - 1)) = false by rw [Bool.eq_false_iff];simp;omega]
  rfl
theorem AdK {p : Api_Pool} (h : Few p) (it : Api_Item) (hk : it.Zb < 1∨15 < it.Zb) : E9 p it = some false:=by
 unfold E9
 rcases hk with hk | hk
 ·rw [if_pos (by simp;omega)]
  unfold C9
  rw [if_pos (by simp;omega)]
  simp only [As,Eu,Bool.false_and,Bool.false_eq_true,if_false]
 ·rw [if_neg (by simp;omega)]
  unfold D9
  have e : ∀ n : Int,n≤15→(it.Zb == n) = false:=fun n hn => by simp;omega
  simp only [e 8 (by omega),e 9 (by omega),e 10 (by omega),e 11 (by omega),e 12 (by omega),e 13 (by omega),e 14 (by omega),e 15 (by omega),Bool.false_eq_true,if_false,As,Eu,Bool.false_and]
theorem Acb (k : Int) (hk : k < 1∨15 < k) : Em k = some []:=by
 unfold Em
 have e : ∀ n : Int,1≤n→n≤15→(k == n) = false:=fun n h1 h2 => by simp;omega
 simp only [e 1 (by omega) (by omega),e 2 (by omega) (by omega),e 3 (by omega) (by omega),e 4 (by omega) (by omega),e 5 (by omega) (by omega),e 6 (by omega) (by omega),e 7 (by omega) (by omega),e 8 (by omega) (by omega),e 9 (by omega) (by omega),e 10 (by omega) (by omega),e 11 (by omega) (by omega),e 12 (by omega) (by omega),e 13 (by omega) (by omega),e 15 (by omega) (by omega),Bool.false_eq_true,if_false,As]
theorem Aj0 (K : Int) (hk : ¬ (K < 1∨15 < K)) : ∃ u,Em K = some u∧u.length≤100:=by
 have hK : K = 1∨K = 2∨K = 3∨K = 4∨K = 5∨K = 6∨K = 7∨K = 8∨K = 9∨K = 10∨K = 11∨K = 12∨K = 13∨K = 14∨K = 15:=by omega
 rcases hK with rfl | rfl | rfl | rfl | rfl | rfl | rfl | rfl | rfl | rfl | rfl | rfl | rfl | rfl | rfl <;> exact ⟨_,rfl,by decide⟩
theorem AcV {p : Api_Pool} (h : Few p) (hv : ∀ i : Int,((F6 p i).Zb != 0) = (decide (0≤i) && decide (i≤(p.Zs1.Zu.length : Int) - 1))) (it : Api_Item) (hps : it.Zo.length≤1000000) :
  ∃ u,Em it.Zb = some u∧u.length≤100∧(it.Zb = 3∨it.Zb = 4→u.any (fun c => c == 112) = true)∧E9 p it = some ((decide (1≤it.Zb) && decide (it.Zb≤15)) && Nq p it u):=by
 by_cases hk : it.Zb < 1∨15 < it.Zb
 ·refine ⟨[],Acb _ hk,by decide,fun e => by omega,?_⟩
  rw [AdK h it hk,show (decide (1≤it.Zb) && decide (it.Zb≤15)) = false by rw [Bool.eq_false_iff];simp;omega,Bool.false_and]
 ·obtain ⟨K,R,w,pl,o,n,f,t,c,d,cl,g,a,tx,ps⟩:=it
  simp only at hk hps ⊢
  obtain ⟨u,a1,a2,a3,a4⟩:=Afr h hv R w pl o n f t c d cl g a tx ps hps K hk
  exact ⟨u,a1,a2,a3,by rw [a4,show (decide (1≤K) && decide (K≤15)) = true by simp;omega,Bool.true_and]⟩
def okB (p : Api_Pool) (it : Api_Item) (u : List UInt8) : Bool:=((decide (1≤it.Zb) && decide (it.Zb≤15)) && Ah3 it) && Nq p it u
def Qf (p : Api_Pool) (it : Api_Item) (f : Int) (u : List UInt8) : Int:=if (f != 0) = true then f else if okB p it u = true then 0 else 110
theorem AeR {p : Api_Pool} (h : Few p) : ∃ f,Ea p = some f∧∀ it : Api_Item,it.Zo.length≤1000000→∃ u,Em it.Zb = some u∧u.length≤100∧Dn p it = some (Qf p it f u)∧Ry p it = some (Qf p it f u):=by
 obtain ⟨f,h1,h2,h3⟩:=Ajk h
 refine ⟨f,h1,fun it hps => ?_⟩
 unfold Dn Ry Qf
 rw [h1,h2]
 simp only [As]
 by_cases hf : (f != 0) = true
 ·obtain ⟨u,hu⟩ : ∃ u,Em it.Zb = some u∧u.length≤100:=by
   by_cases hk : it.Zb < 1∨15 < it.Zb
   ·exact ⟨[],Acb _ hk,by decide⟩
   ·exact Aj0 it.Zb hk
  refine ⟨u,hu.1,hu.2,?_,?_⟩ <;> rw [if_pos hf,if_pos hf]
 ·have hf0 : f = 0:=by simpa using hf
  obtain ⟨u,u1,u2,u3,u4⟩:=AcV h (AhI (h3 hf0)) it hps
  refine ⟨u,u1,u2,?_,?_⟩
  ·rw [if_neg hf,if_neg hf,Ahq,Alw,show E9 _ it = _ from u4]
   simp only [As,M9]
   unfold okB
   cases Ah3 it <;> cases (decide (1≤it.Zb) && decide (it.Zb≤15)) <;> cases Nq p it u <;> rfl
  ·rw [if_neg hf,if_neg hf,show Nz _ it = _ from Aee h it u u1 u2 u3 hps]
   simp only [As]
   unfold okB
   cases Ah3 it <;> cases (decide (1≤it.Zb) && decide (it.Zb≤15)) <;> cases Nq p it u <;> rfl
theorem Ahk (p : Api_Pool) : ∃ b,J4 p = some b∧(b = true→Few p):=by
 obtain ⟨x,hx,hq⟩ : ∃ x,A6 (fun (v : Int) => G7 p v) 0 = some x∧(x = .inr (.inr false)∨(x = .inl ()∧∀ j,j < p.Zw1.length→j < 18→(nth p.Zw1 j).Zr1.Zs.length≤10)):=by
  refine E8 (fun v => ∃ k : Nat,v = (k : Int)∧k≤18∧k≤p.Zw1.length∧∀ j,j < k→(nth p.Zw1 j).Zr1.Zs.length≤10) (fun v => (18 - v).toNat) _ ?_ ⟨0,rfl,by omega,by omega,fun j hj => by omega⟩ (by simp)
  rintro v ⟨k,rfl,h1,h2,h3⟩
  unfold G7
  simp only [Eu,As]
  by_cases hk : k < p.Zw1.length∧k < 18
  ·rw [if_pos (by simp;omega),if_pos (Cp hk.1)]
   simp only [Ca,Int.toNat_natCast,Ft (k:=k) (by omega)]
   by_cases hd : (nth p.Zw1 k).Zr1.Zs.length≤10
   ·left
    rw [if_neg (by simp;omega)]
    refine ⟨_,rfl,⟨k + 1,rfl,by omega,by omega,fun j hj => ?_⟩,by omega⟩
    by_cases e : j = k
    ·subst e;exact hd
    ·exact h3 j (by omega)
   ·right
    rw [if_pos (by simp;omega)]
    exact ⟨_,rfl,.inl rfl⟩
  ·right
   rw [if_neg (by simp;omega)]
   exact ⟨_,rfl,.inr ⟨rfl,fun j hj hj2 => h3 j (by omega)⟩⟩
 unfold J4
 rw [hx]
 rcases hq with rfl | ⟨rfl,hall⟩
 ·exact ⟨false,rfl,fun e => by cases e⟩
 ·simp only [As,Eu]
  refine ⟨_,rfl,fun e => ?_⟩
  simp only [Bool.and_eq_true,decide_eq_true_eq] at e
  obtain ⟨⟨a1,a2⟩,⟨b1,b2,b3,b4⟩,c1,c2,c3⟩:=e
  exact ⟨by omega,by omega,by omega,by omega,by omega,by omega,by omega,by omega,by omega,fun k hk => by have:=hall k hk (by omega);omega⟩
theorem Ajj (it : Api_Item) : Ii it = some (decide (it.Zn.length≤2000) && decide (it.Zo.length≤20)):=by
 unfold Ii
 simp only [Eu,As]
 congr 2 <;> (rw [decide_eq_decide];omega)
end Go.Proofs.YtnfoiocigicdnaaGreatDoor
