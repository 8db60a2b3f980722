/-
  Part 48.
-/
import Derived.Test.YtnfoiocigicdnaaGreatDoorYH42
import Derived.Test.YtnfoiocigicdnaaGreatDoorYH47
namespace Go.Proofs.YtnfoiocigicdnaaGreatDoor
open Go.Rv
set_option linter.unusedVariables false
set_option linter.unusedSimpArgs false
set_option maxRecDepth 4000
theorem AfF (it : Api_Item) (n : Int) (k : Nat) (hk : k < 11) : ∃ x,Hw it (nth LN k) n = some x∧x.Zb = it.Zb∧x.Zo = it.Zo∧Eb x (nth LN k) = n:=by
 have hK : k = 0∨k = 1∨k = 2∨k = 3∨k = 4∨k = 5∨k = 6∨k = 7∨k = 8∨k = 9∨k = 10:=by omega
 rcases hK with rfl | rfl | rfl | rfl | rfl | rfl | rfl | rfl | rfl | rfl | rfl
 ·exact ⟨_,rfl,rfl,rfl,fv_w _⟩
 ·exact ⟨_,rfl,rfl,rfl,fv_p _⟩
 ·exact ⟨_,rfl,rfl,rfl,fv_o _⟩
 ·exact ⟨_,rfl,rfl,rfl,fv_n _⟩
 ·exact ⟨_,rfl,rfl,rfl,fv_f _⟩
 ·exact ⟨_,rfl,rfl,rfl,fv_t _⟩
 ·exact ⟨_,rfl,rfl,rfl,fv_c _⟩
 ·exact ⟨_,rfl,rfl,rfl,fv_d _⟩
 ·exact ⟨_,rfl,rfl,rfl,fv_k _⟩
 ·exact ⟨_,rfl,rfl,rfl,fv_g _⟩
 ·exact ⟨_,rfl,rfl,rfl,fv_a _⟩
theorem AnY (k : Nat) (hk : k < 11) : nth LN k ∈ LN:=by
 have : ∀ q : Fin 11,nth LN q.val ∈ LN:=by decide
 exact this ⟨k,hk⟩
theorem Wl {p : Api_Pool} {f : Int} (f2 : ∀ it : Api_Item,it.Zo.length≤1000000→∃ u,Em it.Zb = some u∧u.length≤100∧Dn p it = some (Qf p it f u)∧Ry p it = some (Qf p it f u)) (hf : f = 0) {x : Api_Item} {u : List UInt8}
  (hu : Em x.Zb = some u) (hx : x.Zo.length≤1000000) (hg : Nq p x u = false) : Dn p x = some 110:=by
 obtain ⟨u',u1,u2,u3,u4⟩:=f2 x hx
 rw [hu] at u1
 cases u1
 rw [u3]
 unfold Qf okB
 rw [hf,hg,Bool.and_false]
 rfl
theorem Aew (p : Api_Pool) (it : Api_Item) (which : UInt8) (n : Int) : Fl p it which n = some true:=by
 obtain ⟨b,hb,hF⟩:=Ahk p
 unfold Fl
 rw [AiK,As,if_neg (by decide),show J4 _ = _ from hb,Ajj]
 simp only [As]
 by_cases hb1 : b = true
 rotate_left
 ·rw [if_pos (by simpa using hb1),As,if_pos rfl]
 by_cases hs : it.Zn.length≤2000∧it.Zo.length≤20
 rotate_left
 ·rw [if_neg (by simp [hb1]),if_pos (by simp;omega),As,if_pos rfl]
 by_cases hn : n = 0
 ·rw [if_neg (by simp [hb1]),if_neg (by simp;omega),if_pos (by simp [hn]),As,if_pos rfl]
 rw [if_neg (by simp [hb1]),if_neg (by simp;omega),if_neg (by simpa using hn)]
 obtain ⟨f,f1,f2⟩:=AeR (hF hb1)
 obtain ⟨u,u1,u2,u3,u4⟩:=f2 it (by omega)
 rw [show Dn _ it = _ from u3]
 simp only [As]
 by_cases hv : Qf p it f u = 0
 rotate_left
 ·rw [if_pos (by simpa using hv)]
 rw [if_neg (by simp [hv]),u1]
 have hf : f = 0:=by
  unfold Qf at hv
  by_cases e : (f != 0) = true
  ·rw [if_pos e] at hv;exact hv
  ·simpa using e
 obtain ⟨k,hk,ek⟩ : ∃ k : Nat,k < 13∧((which.toNat : Int) : Int).tmod 13 = (k : Int):=⟨which.toNat % 13,Nat.mod_lt _ (by omega),rfl⟩
 simp only [As,Ca,ek]
 by_cases h11 : k < 11
 ·rw [if_pos (by simp;omega),if_pos (show InR (k : Int) ([119,112,111,110,102,116,99,100,107,103,97] : List UInt8).length from Cp (show k < ([119,112,111,110,102,116,99,100,107,103,97] : List UInt8).length from h11))]
  simp only [Int.toNat_natCast]
  rw [show nth ([119,112,111,110,102,116,99,100,107,103,97] : List UInt8) k = nth LN k from rfl,AeW u _ (by omega)]
  simp only [As]
  by_cases hin : u.any (fun c => c == nth LN k) = true
  ·rw [if_pos hin];rfl
  ·rw [if_neg hin,if_pos (show InR (k : Int) ([119,112,111,110,102,116,99,100,107,103,97] : List UInt8).length from Cp (show k < ([119,112,111,110,102,116,99,100,107,103,97] : List UInt8).length from h11))]
   obtain ⟨x,x1,x2,x3,x4⟩:=AfF it n k h11
   have hg : Nq p x u = false:=by
    unfold Nq
    have : LN.all (rb p x u) = false:=by
     rw [Bool.eq_false_iff]
     intro ha
     have:=List.all_eq_true.1 ha _ (AnY k h11)
     unfold rb at this
     rw [if_neg hin,x4] at this
     exact hn (by simpa using this)
    rw [this,Bool.false_and]
   have hbad:=Wl f2 hf (x:=x) (u:=u) (by rw [x2];exact u1) (by rw [x3];omega) hg
   rw [x1]
   simp only [As]
   rw [show Dn _ x = _ from hbad]
   simp only [As,beq_self_eq_true,if_true]
   rw [hv]
   rfl
 ·rw [if_neg (by simp;omega)]
  by_cases h12 : k = 11
  ·rw [if_pos (by simp [h12]),AeW u _ (by omega)]
   simp only [As]
   by_cases hin : u.any (fun c => c == 120) = true
   ·rw [if_pos hin];rfl
   ·rw [if_neg hin]
    have hin' : u.any (fun c => c == 120) = false:=(Bool.not_eq_true _).mp hin
    have hg : Nq p { it with Zn:=[97] } u = false:=by
     unfold Nq
     rw [hin']
     simp
    have hbad:=Wl f2 hf (x:={ it with Zn:=[97] }) (u:=u) u1 (by show it.Zo.length≤_;omega) hg
    simp only [As]
    rw [show Dn _ _ = some 110 from hbad]
    simp only [As,beq_self_eq_true,if_true]
    rw [hv]
    rfl
  ·rw [if_neg (by simp;omega),AeW u _ (by omega)]
   simp only [As]
   by_cases hin : u.any (fun c => c == 113) = true
   ·rw [if_pos hin];rfl
   ·rw [if_neg hin]
    have hin' : u.any (fun c => c == 113) = false:=(Bool.not_eq_true _).mp hin
    have hg : Nq p { it with Zo:=[⟨1,0,false⟩] } u = false:=by
     unfold Nq
     rw [hin']
     simp
    have hbad:=Wl f2 hf (x:={ it with Zo:=[⟨1,0,false⟩] }) (u:=u) u1 (by show 1≤_;omega) hg
    simp only [As]
    rw [show Dn _ _ = some 110 from hbad]
    simp only [As,beq_self_eq_true,if_true]
    rw [hv]
    rfl
open Go.Rv Go.ChangeShapes Go.WideShapes Go.ChangeAt Go.RowKit
theorem AhC {α : Type} {c : α→List AV} {k : Nat} (hk : ∀ x,(c x).length = k) : ∀ (l : List α) (j : Nat) (y : AV),(l.flatMap c)[j]? = some y→∃ i r x,j = i * k + r∧r < k∧l[i]? = some x∧(c x)[r]? = some y:=by
  intro l
  induction l with
  | nil => intro j y h;simp at h
  | cons a l ih =>
    intro j y h
    rw [List.flatMap_cons] at h
    by_cases hj : j < k
    · rw [List.getElem?_append_left (by rw [hk];exact hj)] at h
      exact ⟨0,j,a,by omega,hj,rfl,h⟩
    · rw [List.getElem?_append_right (by rw [hk];omega),hk] at h
      obtain ⟨i,r,x,e1,e2,e3,e4⟩:=ih _ _ h
      exact ⟨i + 1,r,x,by rw [Nat.add_mul,Nat.one_mul];omega,e2,by simpa using e3,e4⟩
theorem Ack {α : Type} {c : α→List AV} {k : Nat} (hk : ∀ x,(c x).length = k) : ∀ l : List α,(l.flatMap c).length = l.length * k:=by
  intro l
  induction l with
  | nil => simp
  | cons a l ih => rw [List.flatMap_cons,List.length_append,hk,ih,List.length_cons,Nat.add_mul,Nat.one_mul,Nat.add_comm]
theorem Agj {α : Type} {c : α→List AV} {k n : Nat} (hk : ∀ x,(c x).length = k) (a : Arr α n) : (a.l.flatMap c).length = n * k:=by rw [Ack hk,a.h]
theorem Adl {P : Program} {B : ∀ H : Type,DataW H→Nat} {t e : TypeId} {n k m : Nat} (ht : P.underlying t = some (.array n e)) (hn : P.cellsOf t = m) (h1 : P.cellsOf e = k) {α : Type} {c : α→List AV} {sz : α→Nat} {ok : α→Prop} (hck : ∀ x,(c x).length = k)
    (he : Opens P B e c sz ok) (hm : m = n * k:=by decide) : Opens P B t (fun a : Arr α n => a.l.flatMap c) (fun _ => 0) (fun _ => True):=by
  subst hm
  intro H enc W pr hpr fuel cs d ps h
  cases fuel with
  | zero => cases h
  | succ fuel =>
    unfold DataW.trod at h
    rw [ht] at h
    split at h <;> try (rename_i hh;cases hh;done)
    all_goals try (rename_i hh _;cases hh;done)
    all_goals try (cases h;done)
    all_goals try (exfalso;rename ∀ (n' : Nat) (e' : TypeId),some (TypeDesc.array n e) = some (TypeDesc.array n' e')→False => hh;exact hh _ _ rfl)
    rename_i cs _ _ n' e' hk
    cases hk
    split at h
    case isFalse => cases h
    rename_i hl
    rw [hn] at hl
    rw [Option.map_eq_some_iff] at h
    obtain ⟨xs,hxs,h⟩:=h
    simp only [Prod.mk.injEq] at h
    obtain ⟨rfl,_⟩:=h
    obtain ⟨hlen,hget⟩:=Ri hxs
    rw [List.length_range] at hlen
    have hex : ∀ i,i < n→∃ x : α,∀ (r : Nat) (y : AV),r < k→(c x)[r]? = some y→Rep W pr [] (cs.getD (i * k + r) undef) y∧one (cs.getD (i * k + r) undef) = true:=by
      intro i hi
      obtain ⟨i',hi',hf⟩:=hget i (xs[i]'(by omega)) (List.getElem?_eq_getElem _)
      rw [List.getElem?_range hi] at hi'
      cases hi'
      rw [h1] at hf
      obtain ⟨x,r1,r2,r3,r4⟩:=he H enc W pr hpr fuel _ _ _ hf
      refine ⟨x,fun r y hr hy => ?_⟩
      have:=r4 r y hy
      have ed : ((cs.drop (i * k)).take k).getD r undef = cs.getD (i * k + r) undef:=by
        simp only [List.getD_eq_getElem?_getD,List.getElem?_take,List.getElem?_drop,hr,if_true]
      rwa [ed] at this
    obtain ⟨l,hll,hl2⟩:=Nt _ n hex
    refine ⟨⟨l,hll⟩,?_,Nat.zero_le _,trivial,fun j y hj => ?_⟩
    · show cs.length = (l.flatMap c).length
      rw [Ack hck,hll,hl]
    · obtain ⟨i,r,x,e1,e2,e3,e4⟩:=AhC hck l j y hj
      subst e1
      exact hl2 i x e3 r y e2 e4
theorem Abr : Tryz.prog.cellsOf 36 = 9:=by kernel_rfl
theorem Tv : Tryz.prog.cellsOf 25 = 2:=by kernel_rfl
theorem AaD : Tryz.prog.cellsOf 22 = 1:=by kernel_rfl
theorem S5 : Tryz.prog.cellsOf 99 = 3:=by kernel_rfl
theorem AiF : Opens Tryz.prog (fun H => Rows.uptoBulk (H:=H)) 99 Ah (fun _ => 0) (fun _ => True) :=
 Bj B9 Tryz.underlying99 (n:=3) S5
  (Ao (k:=1) rfl Ar (fun _ => rfl) Bw (Ao (k:=1) rfl Ar (fun _ => rfl) Bw (Ao (k:=1) rfl Ar (fun _ => rfl) Bw B1)))
  (fun x => (⟨x.1,x.2.1,x.2.2.1⟩ : Api_Place)) (fun _ => rfl) (fun _ => rfl) (fun x => Nat.zero_le _) (fun x h => trivial)
theorem Akn : Opens Tryz.prog (fun H => Rows.uptoBulk (H:=H)) 22 (cSl Ah) (szL fun _ => 0) (fun l => l.length≤maxLen∧∀ x ∈ l,True):=Di B9 Tryz.underlying22 S5 (fun _ => rfl) AiF
theorem AbL : Tryz.prog.cellsOf 23 = 1:=by kernel_rfl
theorem Qc : Tryz.prog.cellsOf 103 = 5:=by kernel_rfl
theorem AgV : Opens Tryz.prog (fun H => Rows.uptoBulk (H:=H)) 103 Ak (fun _ => 0) (fun _ => True) :=
 Bj B9 Tryz.underlying103 (n:=5) Qc
  (Ao (k:=1) rfl Ar (fun _ => rfl) Bw (Ao (k:=1) rfl Ar (fun _ => rfl) Bw (Ao (k:=1) rfl Ar (fun _ => rfl) Bw (Ao (k:=1) rfl Ar (fun _ => rfl) Bw (Ao (k:=1) rfl Ar (fun _ => rfl) Bw B1)))))
  (fun x => (⟨x.1,x.2.1,x.2.2.1,x.2.2.2.1,x.2.2.2.2.1⟩ : Api_Edge)) (fun _ => rfl) (fun _ => rfl) (fun x => Nat.zero_le _) (fun x h => trivial)
theorem AiQ : Opens Tryz.prog (fun H => Rows.uptoBulk (H:=H)) 23 (cSl Ak) (szL fun _ => 0) (fun l => l.length≤maxLen∧∀ x ∈ l,True):=Di B9 Tryz.underlying23 Qc (fun _ => rfl) AgV
theorem AiY : Opens Tryz.prog (fun H => Rows.uptoBulk (H:=H)) 25 Qd (fun _ => 0) (fun _ => True) :=
 Bj B9 Tryz.underlying25 (n:=2) Tv
  (Ao (k:=1) rfl AaD (fun _ => rfl) Akn (Ao (k:=1) rfl AbL (fun _ => rfl) AiQ B1))
  (fun x => (⟨x.1,x.2.1⟩ : Api_Network)) (fun _ => rfl) (fun _ => rfl) (fun x => Nat.zero_le _) (fun x h => trivial)
theorem S3 : Tryz.prog.cellsOf 31 = 4:=by kernel_rfl
theorem Aau : Tryz.prog.cellsOf 26 = 1:=by kernel_rfl
theorem P9 : Tryz.prog.cellsOf 162 = 8:=by kernel_rfl
theorem R7 : Tryz.prog.cellsOf 88 = 1:=by kernel_rfl
theorem AeS : Opens Tryz.prog (fun H => Rows.uptoBulk (H:=H)) 88 AmH (fun _ => 1) (fun _ => True):=AfL B9 Tryz.underlying88
theorem AgN : Opens Tryz.prog (fun H => Rows.uptoBulk (H:=H)) 162 Aa (fun _ => 0) (fun _ => True) :=
 Bj B9 Tryz.underlying162 (n:=8) P9
  (Ao (k:=1) rfl Ar (fun _ => rfl) Bw (Ao (k:=1) rfl Ar (fun _ => rfl) Bw (Ao (k:=1) rfl Ar (fun _ => rfl) Bw (Ao (k:=1) rfl Ar (fun _ => rfl) Bw (Ao (k:=1) rfl Ar (fun _ => rfl) Bw (Ao (k:=1) rfl R7 (fun _ => rfl) AeS (Ao (k:=1) rfl Ar (fun _ => rfl) Bw (Ao (k:=1) rfl Ar (fun _ => rfl) Bw B1))))))))
  (fun x => (⟨x.1,x.2.1,x.2.2.1,x.2.2.2.1,x.2.2.2.2.1,x.2.2.2.2.2.1,x.2.2.2.2.2.2.1,x.2.2.2.2.2.2.2.1⟩ : Api_WagonType)) (fun _ => rfl) (fun _ => rfl) (fun x => Nat.zero_le _) (fun x h => trivial)
theorem Aj2 : Opens Tryz.prog (fun H => Rows.uptoBulk (H:=H)) 26 (cSl Aa) (szL fun _ => 0) (fun l => l.length≤maxLen∧∀ x ∈ l,True):=Di B9 Tryz.underlying26 P9 (fun _ => rfl) AgN
theorem AbB : Tryz.prog.cellsOf 27 = 1:=by kernel_rfl
theorem Qp : Tryz.prog.cellsOf 101 = 5:=by kernel_rfl
theorem Ahl : Opens Tryz.prog (fun H => Rows.uptoBulk (H:=H)) 101 Af (fun _ => 0) (fun _ => True) :=
 Bj B9 Tryz.underlying101 (n:=5) Qp
  (Ao (k:=1) rfl Ar (fun _ => rfl) Bw (Ao (k:=1) rfl Ar (fun _ => rfl) Bw (Ao (k:=1) rfl Ar (fun _ => rfl) Bw (Ao (k:=1) rfl Ar (fun _ => rfl) Bw (Ao (k:=1) rfl Ar (fun _ => rfl) Bw B1)))))
  (fun x => (⟨x.1,x.2.1,x.2.2.1,x.2.2.2.1,x.2.2.2.2.1⟩ : Api_Wagon)) (fun _ => rfl) (fun _ => rfl) (fun x => Nat.zero_le _) (fun x h => trivial)
theorem Ajw : Opens Tryz.prog (fun H => Rows.uptoBulk (H:=H)) 27 (cSl Af) (szL fun _ => 0) (fun l => l.length≤maxLen∧∀ x ∈ l,True):=Di B9 Tryz.underlying27 Qp (fun _ => rfl) Ahl
theorem AbQ : Tryz.prog.cellsOf 28 = 1:=by kernel_rfl
theorem Qk : Tryz.prog.cellsOf 164 = 3:=by kernel_rfl
theorem Agh : Opens Tryz.prog (fun H => Rows.uptoBulk (H:=H)) 164 Aj (fun _ => 0) (fun _ => True) :=
 Bj B9 Tryz.underlying164 (n:=3) Qk
  (Ao (k:=1) rfl Ar (fun _ => rfl) Bw (Ao (k:=1) rfl Ar (fun _ => rfl) Bw (Ao (k:=1) rfl Ar (fun _ => rfl) Bw B1)))
  (fun x => (⟨x.1,x.2.1,x.2.2.1⟩ : Api_Swap)) (fun _ => rfl) (fun _ => rfl) (fun x => Nat.zero_le _) (fun x h => trivial)
theorem AjY : Opens Tryz.prog (fun H => Rows.uptoBulk (H:=H)) 28 (cSl Aj) (szL fun _ => 0) (fun l => l.length≤maxLen∧∀ x ∈ l,True):=Di B9 Tryz.underlying28 Qk (fun _ => rfl) Agh
theorem AbT : Tryz.prog.cellsOf 29 = 1:=by kernel_rfl
theorem Qj : Tryz.prog.cellsOf 168 = 3:=by kernel_rfl
theorem Ag0 : Opens Tryz.prog (fun H => Rows.uptoBulk (H:=H)) 168 Ai (fun _ => 0) (fun _ => True) :=
 Bj B9 Tryz.underlying168 (n:=3) Qj
  (Ao (k:=1) rfl Ar (fun _ => rfl) Bw (Ao (k:=1) rfl Ar (fun _ => rfl) Bw (Ao (k:=1) rfl Ar (fun _ => rfl) Bw B1)))
  (fun x => (⟨x.1,x.2.1,x.2.2.1⟩ : Api_Wash)) (fun _ => rfl) (fun _ => rfl) (fun x => Nat.zero_le _) (fun x h => trivial)
theorem Aks : Opens Tryz.prog (fun H => Rows.uptoBulk (H:=H)) 29 (cSl Ai) (szL fun _ => 0) (fun l => l.length≤maxLen∧∀ x ∈ l,True):=Di B9 Tryz.underlying29 Qj (fun _ => rfl) Ag0
theorem Aij : Opens Tryz.prog (fun H => Rows.uptoBulk (H:=H)) 31 Vc (fun _ => 0) (fun _ => True) :=
 Bj B9 Tryz.underlying31 (n:=4) S3
  (Ao (k:=1) rfl Aau (fun _ => rfl) Aj2 (Ao (k:=1) rfl AbB (fun _ => rfl) Ajw (Ao (k:=1) rfl AbQ (fun _ => rfl) AjY (Ao (k:=1) rfl AbT (fun _ => rfl) Aks B1))))
  (fun x => (⟨x.1,x.2.1,x.2.2.1,x.2.2.2.1⟩ : Api_Fleet)) (fun _ => rfl) (fun _ => rfl) (fun x => Nat.zero_le _) (fun x h => trivial)
theorem AaZ : Tryz.prog.cellsOf 32 = 1:=by kernel_rfl
theorem Rx : Tryz.prog.cellsOf 94 = 3:=by kernel_rfl
theorem Ajt : Opens Tryz.prog (fun H => Rows.uptoBulk (H:=H)) 94 Ag (fun _ => 0) (fun _ => True) :=
 Bj B9 Tryz.underlying94 (n:=3) Rx
  (Ao (k:=1) rfl Ar (fun _ => rfl) Bw (Ao (k:=1) rfl Ar (fun _ => rfl) Bw (Ao (k:=1) rfl Ar (fun _ => rfl) Bw B1)))
  (fun x => (⟨x.1,x.2.1,x.2.2.1⟩ : Api_Reader)) (fun _ => rfl) (fun _ => rfl) (fun x => Nat.zero_le _) (fun x h => trivial)
theorem Akz : Opens Tryz.prog (fun H => Rows.uptoBulk (H:=H)) 32 (cSl Ag) (szL fun _ => 0) (fun l => l.length≤maxLen∧∀ x ∈ l,True):=Di B9 Tryz.underlying32 Rx (fun _ => rfl) Ajt
theorem Aa4 : Tryz.prog.cellsOf 33 = 1:=by kernel_rfl
theorem S2 : Tryz.prog.cellsOf 97 = 1:=by kernel_rfl
theorem Akx : Opens Tryz.prog (fun H => Rows.uptoBulk (H:=H)) 97 Ae (fun _ => 0) (fun _ => True) :=
 Bj B9 Tryz.underlying97 (n:=1) S2
  (Ao (k:=1) rfl Ar (fun _ => rfl) Bw B1)
  (fun x => (⟨x.1⟩ : Api_Shipper)) (fun _ => rfl) (fun _ => rfl) (fun x => Nat.zero_le _) (fun x h => trivial)
theorem Ai6 : Opens Tryz.prog (fun H => Rows.uptoBulk (H:=H)) 33 (cSl Ae) (szL fun _ => 0) (fun l => l.length≤maxLen∧∀ x ∈ l,True):=Di B9 Tryz.underlying33 S2 (fun _ => rfl) Akx
theorem AbF : Tryz.prog.cellsOf 34 = 1:=by kernel_rfl
theorem Rj : Tryz.prog.cellsOf 90 = 16:=by kernel_rfl
theorem Tq : Tryz.prog.cellsOf 87 = 15:=by kernel_rfl
theorem Sh : Tryz.prog.cellsOf 84 = 14:=by kernel_rfl
theorem Sv : Tryz.prog.cellsOf 83 = 2:=by kernel_rfl
theorem AjU : Opens Tryz.prog (fun H => Rows.uptoBulk (H:=H)) 83 Ov (fun _ => 0) (fun _ => True) :=
 Bj B9 Tryz.underlying83 (n:=2) Sv
  (Ao (k:=1) rfl Ar (fun _ => rfl) Bw (Ao (k:=1) rfl Ar (fun _ => rfl) Bw B1))
  (fun x => (⟨x.1,x.2.1⟩ : Api_Span)) (fun _ => rfl) (fun _ => rfl) (fun x => Nat.zero_le _) (fun x h => trivial)
theorem AjO : Opens Tryz.prog (fun H => Rows.uptoBulk (H:=H)) 84 (fun a : Arr Api_Span 7 => a.l.flatMap Ov) (fun _ => 0) (fun _ => True):=Adl (n:=7) Tryz.underlying84 Sh Sv (fun _ => rfl) AjU
theorem Abm : Tryz.prog.cellsOf 85 = 1:=by kernel_rfl
theorem Akm : Opens Tryz.prog (fun H => Rows.uptoBulk (H:=H)) 85 (cSl Jk) (szL fun _ => 1) (fun l => l.length≤maxLen∧∀ x ∈ l,I64 x):=Di B9 Tryz.underlying85 Ar (fun _ => rfl) Bw
theorem AjX : Opens Tryz.prog (fun H => Rows.uptoBulk (H:=H)) 87 Od (fun _ => 0) (fun _ => True) :=
 Bj B9 Tryz.underlying87 (n:=15) Tq
  (Ao (k:=14) rfl Sh (Agj (c:=Ov) (k:=2) (n:=7) (fun _ => rfl)) AjO (Ao (k:=1) rfl Abm (fun _ => rfl) Akm B1))
  (fun x => (⟨(nth x.1.l 0,nth x.1.l 1,nth x.1.l 2,nth x.1.l 3,nth x.1.l 4,nth x.1.l 5,nth x.1.l 6),x.2.1⟩ : Api_Calendar)) (fun x => by obtain ⟨⟨l,hl⟩,y⟩:=x;match l,hl with | [_,_,_,_,_,_,_],_ => rfl) (fun _ => rfl) (fun x => Nat.zero_le _) (fun x h => trivial)
theorem Aiy : Opens Tryz.prog (fun H => Rows.uptoBulk (H:=H)) 90 Ab (fun _ => 0) (fun _ => True) :=
 Bj B9 Tryz.underlying90 (n:=16) Rj
  (Ao (k:=1) rfl R7 (fun _ => rfl) AeS (Ao (k:=15) rfl Tq (fun _ => rfl) AjX B1))
  (fun x => (⟨x.1,x.2.1⟩ : Api_RailwayInfo)) (fun _ => rfl) (fun _ => rfl) (fun x => Nat.zero_le _) (fun x h => trivial)
theorem AjD : Opens Tryz.prog (fun H => Rows.uptoBulk (H:=H)) 34 (cSl Ab) (szL fun _ => 0) (fun l => l.length≤maxLen∧∀ x ∈ l,True):=Di B9 Tryz.underlying34 Rj (fun _ => rfl) Aiy
theorem Ajl : Opens Tryz.prog (fun H => Rows.uptoBulk (H:=H)) 36 Xo (fun _ => 0) (fun _ => True) :=
 Bj B9 Tryz.underlying36 (n:=9) Abr
  (Ao (k:=2) rfl Tv (fun _ => rfl) AiY (Ao (k:=4) rfl S3 (fun _ => rfl) Aij (Ao (k:=1) rfl AaZ (fun _ => rfl) Akz (Ao (k:=1) rfl Aa4 (fun _ => rfl) Ai6 (Ao (k:=1) rfl AbF (fun _ => rfl) AjD B1)))))
  (fun x => (⟨x.1,x.2.1,x.2.2.1,x.2.2.2.1,x.2.2.2.2.1⟩ : Api_Pool)) (fun _ => rfl) (fun _ => rfl) (fun x => Nat.zero_le _) (fun x h => trivial)
theorem AnC : Opens Tryz.prog (fun H => Rows.uptoBulk (H:=H)) 5 cU8 (fun _ => 1) (fun _ => True):=AhJ B9 Tryz.underlying5
theorem AdA {p : Api_Pool} (_ : True) {it : Api_Item} (_ : Ints it) {which : UInt8} (_ : True) {n : Int} (_ : I64 n) : Fl p it which n = some true:=Aew p it which n
open Go.Rv Go.ChangeShapes Go.WideShapes Go.ChangeAt Go.RowKit
set_option maxRecDepth 100000
theorem Dk {a b : Bool} (ha : a = true) (hb : b = true) : (a && b) = true:=by rw [ha,hb];rfl
theorem j9_0 : (Rows.ediExactRow.wf (OpenSpec.ofChange Rows.ediExactSpec)) = true:=by kernel_rfl
theorem j9_1 : (laidOutB Tryz.prog) = true:=by kernel_rfl
theorem j9_2 : (mapsRowed Tryz.prog) = true:=by kernel_rfl
theorem j9_3 : (Tryz.f9.params.all (Tryz.prog.readableRec ·)) = true:=by kernel_rfl
theorem j9_4 : (namedTie Tryz.prog Rows.ediExactRow.named Rows.ediExactSpec.vars) = true:=by kernel_rfl
theorem j9_5 : ((Rows.ediExactRow.stops == [])) = true:=by kernel_rfl
theorem j9_6 : ((Tryz.prog.stops == [])) = true:=by kernel_rfl
theorem j9_7 : ((Rows.ediExactRow.knobs == [])) = true:=by kernel_rfl
theorem j9_8 : ((Tryz.prog.stopKnobs == [])) = true:=by kernel_rfl
theorem j9_9 : ((Rows.ediExactRow.inPlace == Tryz.prog.inPlace 9)) = true:=by kernel_rfl
theorem ApR : ((Rows.ediExactRow.unfollowed == Tryz.prog.unfollowed 9)) = true:=by kernel_rfl
theorem Ap6 : ((Rows.ediExactRow.recurses == Tryz.prog.recurses 9)) = true:=by kernel_rfl
theorem ArA : ((Rows.ediExactRow.named == Tryz.prog.varsNamed 9)) = true:=by kernel_rfl
theorem Asa : ((Rows.ediExactRow.maps == (Tryz.f9.params.toList ++ Rows.ediExactSpec.plain.varTypes Tryz.prog).any (Tryz.prog.mapsRec ·))) = true:=by kernel_rfl
theorem Aqg : ((Rows.ediExactRow.ifaces == (Tryz.f9.params.toList ++ Rows.ediExactSpec.plain.varTypes Tryz.prog).any (Tryz.prog.ifacesRec ·))) = true:=by kernel_rfl
theorem Ap5 : ((Rows.ediExactRow.mapsOut == Tryz.prog.mapsAmong Tryz.f9.resultTypes.toList)) = true:=by kernel_rfl
theorem Ars : ((Rows.ediExactRow.loops == (Tryz.f9.params.toList ++ Rows.ediExactSpec.plain.varTypes Tryz.prog).any (Tryz.prog.loopsFrom ·))) = true:=by kernel_rfl
theorem Ap1 : ((Rows.ediExactRow.wideKeys == (Tryz.f9.params.toList ++ Rows.ediExactSpec.plain.varTypes Tryz.prog ++ Tryz.f9.resultTypes.toList).any (Tryz.prog.wideKeysFrom ·))) = true:=by kernel_rfl
theorem ArF : (Rows.ediExactSpec.vars.all (Tryz.prog.varReadable ·)) = true:=by kernel_rfl
theorem Apy : (Tryz.f9.resultTypes.all (fun t => Tryz.prog.readableRec t && decide (t < Tryz.prog.types.size))) = true:=by kernel_rfl
theorem Aru : ((Rows.ediExactRow.ifacesOut == Tryz.f9.resultTypes.toList.any (Tryz.prog.ifacesRec ·))) = true:=by kernel_rfl
theorem AqB : ((Rows.ediExactRow.loopsOut == Tryz.f9.resultTypes.toList.any (Tryz.prog.loopsFrom ·))) = true:=by kernel_rfl
theorem Arz : ((Rows.ediExactRow.plainKeys == Tryz.prog.plainKeys)) = true:=by kernel_rfl
theorem AqH : (Rows.ediExactRow.shortTexts.isNone) = true:=by kernel_rfl
theorem Arc : (Tryz.prog.stopsHeard) = true:=by kernel_rfl
theorem AqO : (Tryz.prog.mayEnter) = true:=by kernel_rfl
theorem Ast : ((Rows.ediExactRow.lifted == Tryz.prog.liftsFinal)) = true:=by kernel_rfl
theorem AqQ : ((Tryz.prog.make == some Rows.ediExactRow.make)) = true:=by kernel_rfl
theorem AqY : ((Rows.ediExactRow.kinds == (if Rows.ediExactRow.domain.isEmpty then [] else Tryz.f9.params.toList.map fun t => match Tryz.prog.underlying t with | some (.int k) => some k | _ => none))) = true:=by kernel_rfl
theorem Ap3 : ((Rows.ediExactRow.pinned == Rows.ediExactRow.pinnedBy)) = true:=by kernel_rfl
theorem ApS : ((Rows.ediExactRow.veiled == (Tryz.f9.params.toList ++ Rows.ediExactSpec.plain.varTypes Tryz.prog ++ Tryz.f9.resultTypes.toList).any (Tryz.prog.veiledRec ·))) = true:=by kernel_rfl
theorem Ask : (Rows.ediExactRow.veiledFits Tryz.prog Tryz.f9.params.toList (Tryz.f9.params.toList ++ Rows.ediExactSpec.plain.varTypes Tryz.prog ++ Tryz.f9.resultTypes.toList)) = true:=by kernel_rfl
theorem Aki : joinedFacts Tryz.prog 9 Tryz.f9 Rows.ediExactSpec Rows.ediExactRow = true:=(Dk (Dk (Dk (Dk (Dk (Dk (Dk (Dk (Dk (Dk (Dk (Dk (Dk (Dk (Dk (Dk (Dk (Dk (Dk (Dk (Dk (Dk (Dk (Dk (Dk (Dk (Dk (Dk (Dk (Dk (Dk j9_0 j9_1) j9_2) j9_3) j9_4) j9_5) j9_6) j9_7) j9_8) j9_9) ApR) Ap6) ArA) Asa) Aqg) Ap5) Ars) Ap1) ArF) Apy) Aru) AqB) Arz) AqH) Arc) AqO) Ast) AqQ) AqY) Ap3) ApS) Ask)
end Go.Proofs.YtnfoiocigicdnaaGreatDoor
