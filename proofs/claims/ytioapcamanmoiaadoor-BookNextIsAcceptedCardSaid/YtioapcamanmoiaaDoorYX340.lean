/-
  Part 40.
-/
import Derived.Test.YtioapcamanmoiaaDoorYX339
namespace Go.Rv
open Go.RowKit
set_option linter.unusedVariables false
set_option linter.unusedSimpArgs false
variable {E : Env}
theorem Qq {ops : Array Oper} {T : List (List Nat)} (hc : Iy ops T = true) {rem : List Nat} {listed : Array Bool} (hs : listed.size = ops.size) (hl : ∀ j,listed.getD j true = false↔j ∈ rem) (i : Nat) :
  i ∈ Region.ready .any ops listed↔i ∈ rem∧∀ d ∈ G3 ops i,d ∉ rem:=by
 have hin : ∀ j ∈ rem,j < ops.size:=by
  intro j hj
  have:=(hl j).2 hj
  by_cases e : j < listed.size
  ·omega
  ·simp [Array.getD,e] at this
 have hgd : ∀ d,d < ops.size→(listed.getD d false = true↔d ∉ rem):=by
  intro d hd
  have h1 : listed.getD d false = listed.getD d true:=by
   have : d < listed.size:=by omega
   simp [Array.getD,this]
  rw [h1,← hl d]
  cases listed.getD d true <;> simp
 rw [mem_ready,hl i]
 constructor
 ·rintro ⟨h1,o,ho,h2⟩
  refine ⟨h1,fun d hd => ?_⟩
  have hlt:=Fz hc (hin i h1) hd
  have hds:=Nat.lt_trans hlt (hin i h1)
  obtain ⟨e,he,hb,rfl⟩:=(Hf ho).1 hd
  exact (hgd _ hds).1 (h2 e he hb)
 ·rintro ⟨h1,h2⟩
  have hi:=hin i h1
  refine ⟨h1,ops[i],Array.getElem?_eq_getElem hi,fun e he hb => ?_⟩
  have hd : e.on ∈ G3 ops i:=(Hf (Array.getElem?_eq_getElem hi)).2 ⟨e,he,hb,rfl⟩
  exact (hgd _ (Nat.lt_trans (Fz hc hi hd) hi)).2 (h2 _ hd)
theorem Aaa {ops : Array Oper} {rem : List Nat} {listed : Array Bool} (hs : listed.size = ops.size) (hl : ∀ j,listed.getD j true = false↔j ∈ rem) : ∀ j ∈ rem,j < ops.size:=by
 intro j hj
 have:=(hl j).2 hj
 by_cases e : j < listed.size
 ·omega
 ·simp [Array.getD,e] at this
theorem Y0 {ops : Array Oper} {T : List (List Nat)} (hc : Iy ops T = true) {rem : List Nat} {listed : Array Bool} (hp : rem.Pairwise (· < ·)) (hs : listed.size = ops.size) (hl : ∀ j,listed.getD j true = false↔j ∈ rem) (hr : Region.ready .any ops listed = []) : rem = []:=by
  cases rem with
  | nil => rfl
  | cons i r =>
    have hi : i ∈ Region.ready .any ops listed:=(Qq hc hs hl i).2 ⟨List.mem_cons_self,fun d hd hm => by
      have:=Fz hc (Aaa hs hl i List.mem_cons_self) hd
      rcases List.mem_cons.1 hm with rfl | hm
      · omega
      · have:=List.rel_of_pairwise_cons hp hm
        omega⟩
    rw [hr] at hi
    cases hi
theorem Wo (hE : E.Ok) {orc : Option Tmp→Orc} (hO : O1 E.toBase orc) {ops : Array Oper} {T : List (List Nat)} (hc : Iy ops T = true) {n0 n1 k2 : Nat} (hn1 : n1 + k2 = ops.size) (hT : ∀ i,n0≤i→i < ops.size→∀ j,j < i→j < n1→j ∈ T.getD i []) {m n : Nat} {fr' : Fr} {σ' : Am} {Q : Exit→Act→World→Prop} :
    ∀ (k i0 : Nat) (l : List Oper) (listed : Array Bool) (fr : Fr) (σ : Am) (a : Act) (w : World) (g : Gh),i0 + k = n1→l.length = k→(∃ r,ops.toList.drop i0 = l ++ r)→n0≤i0→listed.size = ops.size→(∀ j,listed.getD j true = false↔j ∈ List.range' i0 (k + k2)) →
      C6 E orc false n ops l (fr,σ) = some (fr',σ')→Rel E w g ⟨Ar n fr,σ⟩ a→(∀ a' w' g' listed',Rel E w' g' ⟨Ar n fr',σ'⟩ a'→Evo E m w g w' g'→listed'.size = ops.size→(∀ j,listed'.getD j true = false↔j ∈ List.range' n1 k2)→wpAny E.P .any ops Q k2 listed' a' w')→wpAny E.P .any ops Q (k + k2) listed a w
  | 0,i0,l,listed,fr,σ,a,w,g,hk,hll,hdl,hn0,hs,hl,hst,hr,hq => by
    have : l = []:=List.length_eq_zero_iff.1 hll
    subst this
    simp only [C6,Option.some.injEq,Prod.mk.injEq] at hst
    obtain ⟨rfl,rfl⟩:=hst
    have : i0 = n1:=by omega
    subst this
    rw [Nat.zero_add] at hl ⊢
    exact hq a w g listed hr (Evo.refl _ _ _ _) hs hl
  | k + 1,i0,[],listed,fr,σ,a,w,g,hk,hll,hdl,hn0,hs,hl,hst,hr,hq => by simp at hll
  | k + 1,i0,o :: l,listed,fr,σ,a,w,g,hk,hll,hdl,hn0,hs,hl,hst,hr,hq => by
    simp only [C6,Option.bind_eq_some_iff] at hst
    obtain ⟨⟨fr1,σ1⟩,h1,h2⟩:=hst
    have hio : ops[i0]? = some o:=by
      obtain ⟨r,hdl⟩:=hdl
      have : (ops.toList.drop i0)[0]? = some o:=by rw [hdl];rfl
      rw [List.getElem?_drop] at this
      simpa using this
    have hdl' : ∃ r,ops.toList.drop (i0 + 1) = l ++ r:=by
      obtain ⟨r,hdl⟩:=hdl
      exact ⟨r,by rw [← List.tail_drop,hdl];rfl⟩
    rw [show k + 1 + k2 = (k + k2) + 1 by omega] at hl ⊢
    refine ⟨fun h => ?_,fun i hi => ?_⟩
    · have:=Y0 hc (List.pairwise_lt_range' (s:=i0) (n:=k + k2 + 1)) hs hl h
      simp [List.range'_succ] at this
    · obtain ⟨hir,hid⟩:=(Qq hc hs hl i).1 hi
      have hin:=Aaa hs hl i hir
      have hd : ∀ k',k' < ops.size→k' ∉ List.range' i0 (k + k2 + 1)→∀ d ∈ G3 ops k',d ∉ List.range' i0 (k + k2 + 1):=by
        intro k' hk' hkn d hdk hdm
        have:=Fz hc hk' hdk
        rw [List.mem_range'_1] at hkn hdm
        omega
      have hei : i = i0:=by
        by_cases e : i = i0
        · exact e
        · have h3 : i0 < i:=by rw [List.mem_range'_1] at hir;omega
          exact (Ha hc hd i hin hid i0 (hT i (by omega) hin i0 h3 (by omega)) (by rw [List.mem_range'_1];omega)).elim
      subst hei
      refine Afy (m:=m) hE hO hio h1 hr fun a1 w1 g1 hr1 he1 => ?_
      refine Wo hE hO hc hn1 hT k (i + 1) l _ fr1 σ1 a1 w1 g1 (by omega) (by simpa using hll) hdl' (by omega) (by simp [hs]) ?_ h2 hr1 fun a2 w2 g2 li2 hr2 he2 hs2 hl2 => hq a2 w2 g2 li2 hr2 (he1.trans he2) hs2 hl2
      intro j
      by_cases e : j = i
      · subst e
        have : j < listed.size:=by omega
        simp [Array.getD,this,List.mem_range'_1];omega
      · rw [getD_set_ne true (fun h => e h.symm),hl j]
        simp only [List.mem_range'_1]
        omega
theorem S5 (hE : E.Ok) {orc : Option Tmp→Orc} (hO : ∀ d,Wi E.toBase (orc d)) {ops : Array Oper} {T : List (List Nat)} (hc : Iy ops T = true) {n0 kk : Nat} (hn : n0 + kk = ops.size) (hT : ∀ i,n0≤i→i < ops.size→∀ j,j < n0→j ∈ T.getD i []) {st' : St} (lo : Nat) (hfront : ∀ (i : Nat) (his : i < ops.size) (l1 l2 : List Nat) (st : St),(∀ k ∈ l1 ++ i :: l2,lo≤k)→(l1 ++ i :: l2).Pairwise (· < ·)→(∀ j ∈ l1,j ∉ T.getD i [])→B0 E orc ops (l1 ++ i :: l2) st = some st' →
      ∃ st1,C9 E orc ops ops[i] st = some st1∧B0 E orc ops (l1 ++ l2) st1 = some st') {Q : Exit→Act→World→Prop} :
    ∀ (fuel : Nat) (rem : List Nat) (listed : Array Bool) (st : St) (a : Act) (w : World) (g : Gh),(∀ k ∈ rem,lo≤k)→rem.length = fuel→(rem ++ List.range' n0 kk).Pairwise (· < ·)→listed.size = ops.size →
      (∀ j,listed.getD j true = false↔j ∈ rem ++ List.range' n0 kk)→(∀ k,k < ops.size→k ∉ rem ++ List.range' n0 kk→∀ d ∈ G3 ops k,d ∉ rem ++ List.range' n0 kk) →
      B0 E orc ops rem st = some st'→Rel E w g st a→(∀ a' w' g' listed',Rel E w' g' st' a'→Evo E 0 w g w' g'→GLe g g'→listed'.size = ops.size→(∀ j,listed'.getD j true = false↔j ∈ List.range' n0 kk)→wpAny E.P .any ops Q kk listed' a' w') →
      wpAny E.P .any ops Q (fuel + kk) listed a w:=by
  intro fuel
  induction fuel with
  | zero =>
    intro rem listed st a w g hlo hf hp hs hl hd hst hr hq
    have : rem = []:=List.length_eq_zero_iff.1 hf
    subst this
    simp only [B0,Option.some.injEq] at hst
    subst hst
    rw [Nat.zero_add]
    exact hq a w g listed hr (Evo.refl _ _ _ _) (GLe.refl _) hs (by simpa using hl)
  | succ fuel ih =>
    intro rem listed st a w g hlo hf hp hs hl hd hst hr hq
    rw [show fuel + 1 + kk = (fuel + kk) + 1 by omega]
    refine ⟨fun h => ?_,fun i hi => ?_⟩
    · have:=Y0 hc hp hs hl h
      have h7:=(List.append_eq_nil_iff.1 this).1
      subst h7
      simp at hf
    · obtain ⟨hir0,hid⟩:=(Qq hc hs hl i).1 hi
      have his:=Aaa hs hl i hir0
      have hlt0 : ∀ j ∈ rem,j < n0∨kk = 0:=by
        intro j hj
        by_cases e : kk = 0
        · exact .inr e
        · exact .inl ((List.pairwise_append.1 hp).2.2 j hj n0 (by rw [List.mem_range'_1];omega))
      have hir : i ∈ rem:=by
        rcases List.mem_append.1 hir0 with h | h
        · exact h
        rw [List.mem_range'_1] at h
        obtain ⟨j,hj⟩ : ∃ j,j ∈ rem:=by
          cases rem with
          | nil => simp at hf
          | cons j r => exact ⟨j,List.mem_cons_self⟩
        have h5:=hlt0 j hj
        exact (Ha hc hd i his hid j (hT i h.1 his j (by omega)) (List.mem_append_left _ hj)).elim
      obtain ⟨l1,l2,rfl⟩:=List.append_of_mem hir
      have hp0:=(List.pairwise_append.1 hp).1
      have hp':=hp0
      rw [List.pairwise_append] at hp'
      obtain ⟨p1,p2,p3⟩:=hp'
      have hin0 : i < n0∨kk = 0:=hlt0 i hir
      have hnd : ∀ j ∈ l1 ++ l2,j≠i:=by
        intro j hj
        rcases List.mem_append.1 hj with hj | hj
        · have:=p3 j hj i List.mem_cons_self;omega
        · have:=List.rel_of_pairwise_cons p2 hj;omega
      have hmem : ∀ j,j ∈ (l1 ++ l2) ++ List.range' n0 kk↔j ∈ (l1 ++ i :: l2) ++ List.range' n0 kk∧j≠i:=by
        intro j
        constructor
        · intro hj
          rcases List.mem_append.1 hj with hj | hj
          · refine ⟨?_,hnd j hj⟩
            simp only [List.mem_append,List.mem_cons] at hj ⊢
            rcases hj with hj | hj
            · exact .inl (.inl hj)
            · exact .inl (.inr (.inr hj))
          · refine ⟨List.mem_append_right _ hj,?_⟩
            rw [List.mem_range'_1] at hj
            omega
        · rintro ⟨hj,hne⟩
          simp only [List.mem_append,List.mem_cons] at hj ⊢
          rcases hj with (hj | hj | hj) | hj
          · exact .inl (.inl hj)
          · exact (hne hj).elim
          · exact .inl (.inr hj)
          · exact .inr hj
      obtain ⟨st1,h1,h2⟩:=hfront i his l1 l2 st hlo hp0 (fun j hj hT => Ha hc hd i his hid j hT (List.mem_append_left _ (List.mem_append_left _ hj))) hst
      refine Uf hE hO (Array.getElem?_eq_getElem his) h1 hr fun a1 w1 g1 hr1 he1 hg1 => ?_
      refine ih (l1 ++ l2) (listed.setIfInBounds i true) st1 a1 w1 g1 (fun k hk => hlo k (by simp only [List.mem_append,List.mem_cons] at hk ⊢;rcases hk with hk | hk;exact .inl hk;exact .inr (.inr hk))) ?_ ?_ ?_ ?_ ?_ h2 hr1 ?_
      · simp at hf ⊢;omega
      · exact hp.sublist (List.Sublist.append_right (List.Sublist.append_left (List.sublist_cons_self i l2) l1) _)
      · simp [hs]
      · intro j
        rw [hmem j,← hl j]
        by_cases e : j = i
        · subst e
          have : j < listed.size:=by omega
          simp [Array.getD,this]
        · rw [getD_set_ne true (fun h => e h.symm)]
          simp [e]
      · intro k hk hkn d hdk hdm
        have hd2:=((hmem d).1 hdm).1
        by_cases e : k = i
        · subst e
          exact hid d hdk hd2
        · exact hd k hk (fun h => hkn ((hmem k).2 ⟨h,e⟩)) d hdk hd2
      · intro a' w' g' listed' hr' he' hg'
        exact hq a' w' g' listed' hr' (he1.trans he') (hg1.trans hg')
def Xb : List Unit→List Oper→List Oper
 | [],_ => []
 | _ :: _,[] => []
 | _ :: us,x :: l => x :: Xb us l
def N8 : List Unit→List Oper→List Oper
 | [],l => l
 | _ :: _,[] => []
 | _ :: us,_ :: l => N8 us l
attribute [go_sem] Xb N8
theorem Aai : ∀ (us : List Unit) (l : List Oper),Xb us l = l.take us.length
  | [],l => by simp [Xb]
  | _ :: us,[] => by simp [Xb]
  | _ :: us,x :: l => by simp [Xb,Aai us l]
theorem Uq : ∀ (us : List Unit) (l : List Oper),N8 us l = l.drop us.length
  | [],l => by simp [N8]
  | _ :: us,[] => by simp [N8]
  | _ :: us,x :: l => by simp [N8,Uq us l]
def Acu (E : Env) (ops : Array Oper) (n0 n1 : Nat) (T : List (List Nat)) : Bool:=decide (n0≤n1) && decide (n1≤ops.size) && (List.range ops.size).all fun i => decide (i < n0) || (List.range i).all fun j => (T.getD i []).contains j || (decide (n1≤j) && (match ops[j]?,ops[i]? with
  | some x,some y => Pb E ops x y
  | _,_ => false))
def Atm (E : Env) (orc : Option Tmp→Orc) (n : Nat) (us : List Unit) (l : List Oper) (s : Fr×Am) : Option (Fr×Am):=C6 E orc true n l.toArray (Xb us l) s
def AoI (E : Env) (orc : Option Tmp→Orc) (n : Nat) (us vs : List Unit) (l : List Oper) (ts : List Nat) (s : Fr×Am) : Option (Fr×Am):=(C6 E orc false n l.toArray (Xb vs (N8 us l)) s).bind fun r => (C6 E orc true n l.toArray (N8 vs (N8 us l)) r).bind fun r => some (keep ts r.1,r.2)
theorem Amr {orc : Option Tmp→Orc} {n : Nat} {us : List Unit} {l : List Oper} {s : Fr×Am} : Atm E orc n us l s = N9 E orc true n l.toArray (Xb us l) (some s):=by
 rw [Hr];rfl
theorem Amm {orc : Option Tmp→Orc} {n : Nat} {us vs : List Unit} {l : List Oper} {ts : List Nat} {s : Fr×Am} : AoI E orc n us vs l ts s = Amq ts (N9 E orc true n l.toArray (N8 vs (N8 us l)) (N9 E orc false n l.toArray (Xb vs (N8 us l)) (some s))):=by
  rw [Hr]
  unfold AoI
  cases C6 E orc false n l.toArray (Xb vs (N8 us l)) s with
  | none => rw [Nb];rfl
  | some r =>
    rw [Hr]
    unfold Amq
    show (C6 E orc true n l.toArray (N8 vs (N8 us l)) r).bind _ = _
    cases C6 E orc true n l.toArray (N8 vs (N8 us l)) r <;> rfl
attribute [go_sem] Amr Amm
theorem AgD (hE : E.Ok) (hP : E.P.follows .mixedOrders = true) {m n id : Nat} {l : List Oper} (T : List (List Nat)) (hok1 : Iy l.toArray T = true) (us vs : List Unit) (hok3 : Acu E l.toArray us.length (us.length + vs.length) T = true) (ps xs : List (Nat×Nat)) (ps' ts : List Nat) (hok2 : AiO E l.toArray T ps xs ps' = true) {fr fr' : Fr} {σ σ' : Am} {K : E2} (hw : Aar E m K)
  (h : ∃ lz m,O1 E.toBase (Oz lz m)∧XOk m xs∧∃ fr1 σ1,Is (Atm E (Oz lz m) n us l (fr,σ)) fr1 σ1∧Aac n fr1 ps∧Is (AoI E (Oz lz m) n us vs l ts (fr1,σ1)) fr' σ')
  (hk : K .normal ⟨Ar n fr',σ'⟩) : Run E m (.region id l.toArray true) ⟨Ar n fr,σ⟩ K:=by
 obtain ⟨lz,mz,hO,hX,fr1,σ1,h1,hps,h2⟩:=h
 simp only [Is,AoI,Option.bind_eq_some_iff,Option.some.injEq,Prod.mk.injEq] at h2
 obtain ⟨⟨fr2,σ2⟩,h2,⟨fr3,σ3⟩,h3,rfl,rfl⟩:=h2
 generalize hn0 : us.length = n0 at *
 generalize hk1 : vs.length = k1 at *
 have h1' : C6 E (Oz lz mz) true n l.toArray (l.take n0) (fr,σ) = some (fr1,σ1):=by rw [← hn0,← Aai];exact h1
 have h2' : C6 E (Oz lz mz) false n l.toArray ((l.drop n0).take k1) (fr1,σ1) = some (fr2,σ2):=by rw [← hn0,← hk1,← Uq,← Aai];exact h2
 have h3' : C6 E (Oz lz mz) true n l.toArray (l.drop (n0 + k1)) (fr2,σ2) = some (fr3,σ3):=by rw [← List.drop_drop,← hn0,← hk1,← Uq,← Uq];exact h3
 simp only [Acu,Bool.and_eq_true,decide_eq_true_eq,List.size_toArray] at hok3
 obtain ⟨⟨_,hle1⟩,hch⟩:=hok3
 have hle : n0≤l.length:=by omega
 have hlt : (l.take n0).length = n0:=by rw [List.length_take];omega
 have hT0 : ∀ i,n0≤i→i < l.toArray.size→∀ j,j < i→j ∈ T.getD i []∨(n0 + k1≤j∧∃ x y,l.toArray[j]? = some x∧l.toArray[i]? = some y∧Pb E l.toArray x y = true):=by
  intro i hi his j hj
  have h3:=A2 hch (by simpa using his)
  simp only [Bool.or_eq_true,decide_eq_true_eq] at h3
  rcases h3 with h3 | h3
  ·omega
  ·have h4:=A2 h3 hj
   simp only [Bool.or_eq_true,Bool.and_eq_true,decide_eq_true_eq,List.contains_iff_mem] at h4
   rcases h4 with h4 | ⟨h4,h5⟩
   ·exact .inl h4
   ·refine .inr ⟨h4,?_⟩
    split at h5
    ·rename_i x y e1 e2
     exact ⟨x,y,e1,e2,h5⟩
    ·cases h5
 have hT : ∀ i,n0≤i→i < l.toArray.size→∀ j,j < i→j < n0 + k1→j ∈ T.getD i []:=by
  intro i hi his j hj hjn
  rcases hT0 i hi his j hj with h | ⟨h,_⟩
  ·exact h
  ·omega
 have hTp : ∀ i,n0≤i→i < l.toArray.size→∀ j,j < n0→j ∈ T.getD i []:=fun i hi his j hj => hT i hi his j (by omega) (by omega)
 have hsteps3:=K3 (E:=E) (ops:=l.toArray) (n0 + k1) (l.drop (n0 + k1)) fr2 fr3 σ2 σ3 ⟨[],by simp⟩ h3'
 rw [show (l.drop (n0 + k1)).length = l.length - (n0 + k1) by simp] at hsteps3
 have hsteps:=K3 (E:=E) (ops:=l.toArray) 0 (l.take n0) fr fr1 σ σ1 ⟨l.drop n0,by simp⟩ h1'
 rw [← List.range_eq_range',hlt] at hsteps
 intro hcm ac w g hr Q hq
 refine O9 (P0 hcm) (wp_region_any hP ?_)
 have hsm : SameMem w { w with drawn:=w.drawn + 1 }:=⟨rfl,rfl,rfl,rfl⟩
 have hval : ∀ t a,ps'.contains t = true→Ack ps t = some a→Me (ev (Ar n fr1) (.tmp t)) = some a:=by
  intro t a ht ha
  have:=T6 hps ha
  rw [Ex]
  exact this
 have hsz : n0 + (l.length - n0) = l.toArray.size:=by simp;omega
 have hrg : List.range n0 ++ List.range' n0 (l.length - n0) = List.range l.length:=by
  rw [List.range_eq_range',List.range_eq_range']
  have:=List.range'_append (s:=0) (m:=n0) (n:=l.length - n0) (step:=1)
  simp only [Nat.one_mul,Nat.zero_add] at this
  rw [this,Nat.add_sub_cancel' hle]
 rw [← hsz]
 refine S5 hE hO hok1 hsz hTp (st':=⟨Ar n fr1,σ1⟩) 0 ?_ n0 (List.range n0) _ ⟨Ar n fr,σ⟩ ac _ g (fun _ _ => Nat.zero_le _) (by simp) ?_ (by simp;omega) ?_ ?_ hsteps (O6 hr hsm) ?_
 ·intro i his l1 l2 st _ hp hT hst
  have hi : l.toArray[i]? = some l.toArray[i]:=Array.getElem?_eq_getElem his
  refine Qj hi l1 st (fun m1 j m2 e x hx => ?_) hst
  have hj : j ∈ l1:=by rw [e];simp
  have hji : j < i:=by
   rw [List.pairwise_append] at hp
   exact hp.2.2 j hj i List.mem_cons_self
  have h1':=A2 (A2 hok2 his) hji
  simp only [Bool.or_eq_true,List.contains_iff_mem] at h1'
  rcases h1' with h1' | h1'
  ·exact (hT j hj h1').elim
  ·simp only [hx,hi,Bool.or_eq_true,Bool.and_eq_true] at h1'
   rcases h1' with h1' | ⟨h1',h2'⟩
   ·exact .inl h1'
   ·refine .inr ⟨h1',fun st3 h3 => ?_⟩
    have hst3 : ∀ t,(∀ k ∈ ((j :: m2) ++ i :: l2),∀ o,l.toArray[k]? = some o→o.dst≠some t)→ev st3.fr (.tmp t) = ev (Ar n fr1) (.tmp t):=fun t hk => (I5 _ _ _ hk h3).symm
    have hpw : ((j :: m2) ++ i :: l2).Pairwise (· < ·):=by
     rw [e,List.append_assoc] at hp
     exact (List.pairwise_append.1 hp).2.1
    have hge : ∀ k ∈ ((j :: m2) ++ i :: l2),j≤k:=by
     intro k hk
     rw [List.cons_append] at hpw hk
     rcases List.mem_cons.1 hk with rfl | hk
     ·exact Nat.le_refl _
     ·exact Nat.le_of_lt (List.rel_of_pairwise_cons hpw hk)
    have hnT : ∀ k ∈ ((j :: m2) ++ i :: l2),¬(k ∈ T.getD i []∧k < i):=by
     rintro k hk ⟨q1,q2⟩
     rcases List.mem_append.1 hk with hk | hk
     ·exact hT k (by rw [e];simp only [List.mem_append];exact .inr hk) q1
     ·rcases List.mem_cons.1 hk with rfl | hk
      ·omega
      ·have:=List.rel_of_pairwise_cons (List.pairwise_append.1 hpw).2.1 hk
       omega
    have hstill : ∀ (ok : Nat→Bool) t,H7 l.toArray ps' ok t = true→(∀ k ∈ ((j :: m2) ++ i :: l2),ok k = false)→ps'.contains t = true∧ev st3.fr (.tmp t) = ev (Ar n fr1) (.tmp t):=by
     intro ok t h hno
     simp only [H7,Bool.and_eq_true] at h
     refine ⟨h.1,hst3 t fun k hk o hko => ?_⟩
     have h2:=A2 h.2 (Array.getElem?_eq_some_iff.1 hko).1
     rw [hno k hk,hko] at h2
     simpa using h2
    have hq0 : ∀ q,H7 l.toArray ps' (fun k => (T.getD i []).contains k && decide (k < i)) q = true→ps'.contains q = true∧ev st3.fr (.tmp q) = ev (Ar n fr1) (.tmp q):=fun q s1 => hstill _ q s1 (fun k hk => by
     have:=hnT k hk
     simp only [Bool.and_eq_false_iff,decide_eq_false_iff_not]
     by_cases hm : k ∈ T.getD i []
     ·exact .inr fun h => this ⟨hm,h⟩
     ·exact .inl (by simpa using hm))
    rcases h2' with h2' | h2'
    case inr =>
     unfold Aon at h2'
     split at h2'
     case h_2 => cases h2'
     rename_i p t hp' ht'
     split at h2'
     case h_1 => cases h2'
     rename_i a ha
     simp only [Bool.and_eq_true,List.contains_iff_mem] at h2'
     obtain ⟨⟨s1,s2⟩,s3⟩:=h2'
     obtain ⟨c1,c2⟩:=hstill _ p s1 (fun k hk => by
      have:=hge k hk
      simp only [decide_eq_false_iff_not];omega)
     exact .callY p a hp' (by rw [c2];exact hval p a c1 ha) fun σ σ1 v hv => L8 s2 ht' hX s3 hv
    rcases h2' with h2' | h2'
    case inr =>
     unfold Aoq at h2'
     split at h2'
     case h_2 => cases h2'
     rename_i p f hop
     split at h2'
     case h_1 => cases h2'
     rename_i a ha
     obtain ⟨c1,c2⟩:=hq0 p h2'
     exact .fa _ p f a hop (by rw [c2];exact hval p a c1 ha)
    rcases h2' with h2' | h2'
    case inr =>
     unfold Aoo at h2'
     split at h2'
     case h_2 => cases h2'
     rename_i p t hp' ht'
     split at h2'
     case h_1 => cases h2'
     rename_i a ha
     simp only [Bool.and_eq_true,List.contains_iff_mem] at h2'
     obtain ⟨⟨s1,s2⟩,s3⟩:=h2'
     obtain ⟨c1,c2⟩:=hq0 p s1
     exact .call p a hp' (by rw [c2];exact hval p a c1 ha) fun σ σ1 v hv => L8 s2 ht' hX s3 hv
    unfold Aot at h2'
    split at h2'
    case h_1 => cases h2'
    rename_i q hq'
    split at h2'
    case h_1 => cases h2'
    rename_i b hb
    simp only [Bool.and_eq_true,Bool.or_eq_true,Bool.not_eq_true'] at h2'
    obtain ⟨s1,h2'⟩:=h2'
    obtain ⟨c1,c2⟩:=hq0 q s1
    have hbq : Me (ev st3.fr (.tmp q)) = some b:=by rw [c2];exact hval q b c1 hb
    rcases h2' with ⟨h4,h5⟩ | h4
    ·exact .build q b h4 h5 hq' hbq
    ·split at h4
     case h_1 => cases h4
     rename_i p hp'
     split at h4
     case h_1 => cases h4
     rename_i a ha
     simp only [Bool.and_eq_true,bne_iff_ne] at h4
     obtain ⟨c3,c4⟩:=hstill _ p h4.2 (fun k hk => by
      have:=hge k hk
      simp only [decide_eq_false_iff_not];omega)
     exact .look p q a b hp' hq' (by rw [c4];exact hval p a c3 ha) hbq h4.1
 ·rw [hrg];exact List.pairwise_lt_range
 ·intro j
  rw [hrg,List.mem_range]
  by_cases h : j < l.length
  ·simp [Array.getD,h,hsz]
  ·simp [Array.getD,h,hsz]
 ·intro k hk hkn
  rw [hrg] at hkn
  exact (hkn (List.mem_range.2 (by simpa using hk))).elim
 ·intro a1 w1 g1 listed' hr1 he1 hg1 hs' hl'
  have hk2 : l.length - n0 = k1 + (l.length - (n0 + k1)):=by omega
  rw [hk2] at hl' ⊢
  refine Wo (m:=m) hE hO hok1 (n0:=n0) (n1:=n0 + k1) (by simp;omega) hT k1 n0 ((l.drop n0).take k1) listed' fr1 σ1 a1 w1 g1 rfl (by simp;omega) ⟨l.drop (n0 + k1),by rw [← List.drop_drop];exact (List.take_append_drop k1 (l.drop n0)).symm⟩ (Nat.le_refl _) hs' hl' h2' hr1 fun a2 w2 g2 li2 hr2 he2 hs2 hl2 => ?_
  have h0:=S5 (kk:=0) (n0:=l.toArray.size) (Q:=fun ex st => Q ex st) hE hO hok1 (by simp) (fun i hi his => by omega) (st':=⟨Ar n fr3,σ3⟩) (n0 + k1) ?_ (l.length - (n0 + k1)) (List.range' (n0 + k1) (l.length - (n0 + k1))) li2 ⟨Ar n fr2,σ2⟩ a2 w2 g2 (fun k hk => by rw [List.mem_range'_1] at hk;exact hk.1) (by simp) (by simpa using List.pairwise_lt_range') hs2 (by simpa using hl2) ?_ hsteps3 hr2 ?_
  ·exact h0
  ·intro i his l1 l2 st hlo hp hTn hst
   refine K1 (Array.getElem?_eq_getElem his) l1 st (fun j hj x hx => ?_) hst
   have hji : j < i:=by
    rw [List.pairwise_append] at hp
    exact hp.2.2 j hj i List.mem_cons_self
   have hil:=hlo i (by simp)
   rcases hT0 i (by omega) his j hji with h | ⟨_,x',y',e1,e2,h⟩
   ·exact (hTn j hj h).elim
   ·rw [e1] at hx;cases hx
    rw [Array.getElem?_eq_getElem his] at e2;cases e2
    exact h
  ·intro k' hk' hkn d hdk hdm
   have:=Fz hok1 hk' hdk
   simp only [List.range'_zero,List.append_nil] at hkn hdm
   rw [List.mem_range'_1] at hkn hdm
   simp only [List.size_toArray] at hk'
   omega
  ·intro a3 w3 g3 li3 hr3 he3 hg3 hs3 hl3
   refine ⟨?_,?_⟩
   ·rw [List.eq_nil_iff_forall_not_mem]
    intro i hi
    have:=((Qq hok1 hs3 hl3 i).1 hi).1
    cases this
   exact hq _ _ _ _ _ (hw _ _ (H3 _ _ _ _ _) hk) hr3 ((((Evo.same hsm).trans (he1.of_gle hg1)).trans he2).trans (he3.of_gle hg3))
theorem Abd (hE : E.Ok) (hP : E.P.follows .mixedOrders = true) {m n id : Nat} {l : List Oper} (T : List (List Nat)) (hok1 : Iy l.toArray T = true) (us vs : List Unit) (hok3 : Acu E l.toArray us.length (us.length + vs.length) T = true) (ps xs : List (Nat×Nat)) (ps' ts : List Nat) (hok2 : AiO E l.toArray T ps xs ps' = true) {fr fr' : Fr} {σ σ' : Am} {K : E2}
  (h : ∃ lz m,O1 E.toBase (Oz lz m)∧XOk m xs∧∃ fr1 σ1,Is (Atm E (Oz lz m) n us l (fr,σ)) fr1 σ1∧Aac n fr1 ps∧Is (AoI E (Oz lz m) n us vs l ts (fr1,σ1)) fr' σ')
  {y : Code} (hk : Run E m y ⟨Ar n fr',σ'⟩ K) : Run E m (.seq (.region id l.toArray true) y) ⟨Ar n fr,σ⟩ K :=
 N5 (AgD hE hP T hok1 us vs hok3 ps xs ps' ts hok2 N4 h hk)
section
variable {ts : List Nat} {k : Nat} {r : List AV}
theorem Aj4 {α : Type} {c : α→AV} (h : ∀ x,Ua ts k (c x) = c x) : ∀ {l : List α},List.map (Ua ts k) (C1 c l ++ r) = C1 c l ++ List.map (Ua ts k) r:=by
 intro l
 rw [List.map_append]
 congr 1
 unfold C1
 rw [List.map_map]
 exact List.map_congr_left fun x _ => h x
theorem Ad6 {l : List UInt8} : List.map (Ua ts k) (C1 u8 l ++ r) = C1 u8 l ++ List.map (Ua ts k) r:=Aj4 fun x => by simp only [u8,Ua,AV.closed]
theorem AhT {l : List UInt8} : List.map dn (C1 u8 l ++ r) = C1 u8 l ++ List.map dn r:=by
 rw [List.map_append]
 congr 1
 exact Ats u8 (fun _ => rfl) l
attribute [go_sem] Ad6 AhT
end
theorem Aej {α : Type} {n N : Nat} {l : Fr} {σ σ' : Am} (bid id : Nat) {cr : α→List AV} {lg lg' : List (List α)} {i : Int} {row : List α} {full : Bool} {k : Nat} {ro : Bool} (hi : InR i lg.length)
  (hB : σ[bid]? = some (.buf 1 ((L (cSl cr) lg).set i.toNat [.bs full id row.length 0 row.length]) false)) (hσ : σ[id]? = some (.buf k (L cr row) ro)) (hne : bid≠id) (hc : C0 (L cr row) = true) (hl : lg' = lg.set i.toNat row)
  (hs' : (Dj σ id).set bid (.buf 1 (L (cSl cr) lg') false) = σ') : Weak E n ⟨Ar N l,σ⟩ ⟨Ar N l,σ'⟩:=by
 have hlt : i.toNat < (L (cSl cr) lg).length:=by
  unfold L
  rw [List.length_map]
  have h1:=hi.1;have h2:=hi.2
  omega
 refine Td bid i.toNat hB (List.getElem?_set_self hlt) hσ (by simp [L]) hc hne ?_
 rw [← hs',hl]
 congr 2
 rw [List.set_set]
 unfold L cSl
 rw [List.map_set]
 congr 2
 simp only [List.drop_zero]
 rw [List.take_of_length_le (by simp)]
 rfl
inductive SepZ (E : Env) (orc : Option Tmp→Orc) (ops : Array Oper) (x y : Oper) (frF : List AV) : Prop
 | old (h : Sep E orc ops x y frF)
 | appY (p a q d : Nat) (hp : Yh x.op = some p) (ha : Me (ev frF (.tmp p)) = some a) (hq : Aq5 y.op = some q) (hw : Pu (ev frF (.tmp q)) d) (hne : a≠d)
theorem AcM {orc : Option Tmp→Orc} {ops : Array Oper} {x y : Oper} {st st1 st2 : St} (hap : x.apart ops y = true) (hc : SepZ E orc ops x y st.fr)
    (h1 : C9 E orc ops x st = some st1) (h2 : C9 E orc ops y st1 = some st2) : ∃ st3,C9 E orc ops y st = some st3∧C9 E orc ops x st3 = some st2:=by
  cases hc with
  | old h => exact Wz hap h h1 h2
  | appY p a q d hp ha hq hw hne =>
    obtain ⟨a1,a2,a3⟩:=Oper.apart_spec hap
    unfold C9 at h1 h2 ⊢
    rw [Option.map_eq_some_iff] at h1 h2
    obtain ⟨⟨v,σ1⟩,hv,rfl⟩:=h1
    obtain ⟨⟨u,σ2⟩,hu,rfl⟩:=h2
    simp only at hu ⊢
    rw [Ca a1] at hu
    obtain ⟨rfl,_⟩:=Hg hp ha hv rfl
    refine ⟨⟨Bh st.fr y.dst u,σ2⟩,by rw [hu];rfl,?_⟩
    simp only
    rw [Ca a3,(Hg hp ha hv (AkR hq hw hne hu)).2]
    simp only [Option.map_some,E1 st.fr v u a2]
def Aq9 (ops : Array Oper) (T : List (List Nat)) (ps ws : List (Nat×Nat)) (ts : List Nat) (j i : Nat) (x y : Oper) : Bool :=
 match Yh x.op,Aq5 y.op with
 | some p,some q => match Ack ps p,Ack ws q with
  | some a,some d => a != d && H7 ops ts (fun k => decide (k < j)) p && H7 ops ts (fun k => (T.getD i []).contains k && decide (k < i)) q
  | _,_ => false
 | _,_ => false
end Go.Rv
