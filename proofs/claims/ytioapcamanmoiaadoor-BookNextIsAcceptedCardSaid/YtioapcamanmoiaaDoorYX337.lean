/-
  Part 37.
-/
import Derived.Test.YtioapcamanmoiaaDoorYX336
namespace Go.Rv
open Go.RowKit
set_option linter.unusedVariables false
set_option linter.unusedSimpArgs false
variable {E : Env}
theorem Afy (hE : E.Ok) {orc : Option Tmp→Orc} (hO : O1 E.toBase orc) {m n i : Nat} {ops : Array Oper} {o : Oper} (hi : ops[i]? = some o) {fr fr' : Fr} {σ σ' : Am}
    (h1 : X8 E orc false n ops o (fr,σ) = some (fr',σ')) {a : Act} {w : World} {g : Gh} (hr : Rel E w g ⟨Ar n fr,σ⟩ a) {next : Act→World→Prop} {Q : Exit→Act→World→Prop}
    (hk : ∀ a' w' g',Rel E w' g' ⟨Ar n fr',σ'⟩ a'→Evo E m w g w' g'→next a' w') : wpOp E.P ops Q i next a w:=by
  unfold X8 at h1
  have efz : ∀ σ,Jc (false && Ib E ops o) σ = some:=fun σ => by funext r;simp [Jc]
  rw [efz,Ci] at h1
  obtain ⟨g1,hr1,he1⟩:=Ab2 (s:=(fr,σ)) hr m false o.op
  generalize hfz : M7 false n o.op (fr,σ) = s1 at h1 hr1
  have hgo : ∀ {v : AV} {σ2 : Am},opL E (orc o.dst) false (evL n s1.1) s1.2 o.op = some (v,σ2)→fr' = put o.dst v s1.1→σ' = σ2→o.wp E.P a w next Q:=by
    intro v σ2 e1 e2 e3
    subst e2 e3
    refine Ads hE (hO _) e1 hr1 ?_
    intro a' w' g' hr' he hg
    exact hk a' w' g' hr' (he1.trans (he.of_gle hg))
  unfold wpOp
  simp only [hi]
  cases hgd : o.guard with
  | none =>
    simp only [X1,hgd,Option.map_eq_some_iff,Prod.mk.injEq] at h1
    obtain ⟨⟨v,σ2⟩,e1,e2,e3⟩:=h1
    simp only [Region.wanted,hgd,if_true]
    exact .inl (hgo e1 e2.symm e3.symm)
  | some jw =>
    obtain ⟨j,want⟩:=jw
    simp only [X1,hgd] at h1
    cases hy : Y7 ops n fr j with
    | none => simp [hy] at h1
    | some b =>
      simp only [hy,Option.map_some] at h1
      have hy' : Nd ops (Ar n fr) j = some b:=by rw [P6,hy]
      simp only [Region.wanted,hgd,N7 hr hy']
      by_cases e : b = some want
      · rw [if_pos (by simp [e])]
        rw [show (b == some want) = true by simp [e]] at h1
        simp only [Option.map_eq_some_iff,Prod.mk.injEq] at h1
        obtain ⟨⟨v,σ2⟩,e1,e2,e3⟩:=h1
        exact .inl (hgo e1 e2.symm e3.symm)
      · rw [if_neg (by simp [e])]
        rw [show (b == some want) = false by simp [e]] at h1
        simp only [Option.some.injEq,Prod.mk.injEq] at h1
        obtain ⟨e2,e3⟩:=h1
        subst e2 e3
        refine hk _ w g ?_ (Evo.refl _ _ _ _)
        have:=Ii hr o.dst (Xp _ _ _)
        rw [Gn] at this
        exact this
theorem AfW (hE : E.Ok) {orc : Option Tmp→Orc} (hO : ∀ d,Wi E.toBase (orc d)) {ops : Array Oper} {T : List (List Nat)} (hc : Iy ops T = true) (hm : L1 E ops T = true) {n0 : Nat} (hn : ops.size = n0 + 1) (hT : ∀ j,j < n0→j ∈ T.getD n0 []) {st' : St} {Q : Exit→Act→World→Prop} :
    ∀ (fuel : Nat) (rem : List Nat) (listed : Array Bool) (st : St) (a : Act) (w : World) (g : Gh),rem.length = fuel→(rem ++ [n0]).Pairwise (· < ·)→listed.size = ops.size →
      (∀ j,listed.getD j true = false↔j ∈ rem ++ [n0])→(∀ k,k < ops.size→k ∉ rem ++ [n0]→∀ d ∈ G3 ops k,d ∉ rem ++ [n0]) →
      B0 E orc ops rem st = some st'→Rel E w g st a→(∀ a' w' g',Rel E w' g' st' a'→Evo E 0 w g w' g'→GLe g g'→∀ next : Act→World→Prop,(∀ a2 w2,Q .normal a2 w2→next a2 w2)→wpOp E.P ops Q n0 next a' w') →
      wpAny E.P .any ops Q (fuel + 1) listed a w:=by
  have hin : ∀ (rem : List Nat) (listed : Array Bool),listed.size = ops.size→(∀ j,listed.getD j true = false↔j ∈ rem)→∀ j ∈ rem,j < ops.size:=by
    intro rem listed hs hl j hj
    have:=(hl j).2 hj
    by_cases e : j < listed.size
    · omega
    · simp [Array.getD,e] at this
  have hgd : ∀ (rem : List Nat) (listed : Array Bool),listed.size = ops.size→(∀ j,listed.getD j true = false↔j ∈ rem)→∀ d,d < ops.size→(listed.getD d false = true↔d ∉ rem):=by
    intro rem listed hs hl d hd
    have h1 : listed.getD d false = listed.getD d true:=by
      have : d < listed.size:=by omega
      simp [Array.getD,this]
    rw [h1,← hl d]
    cases listed.getD d true <;> simp
  have hrd : ∀ (rem : List Nat) (listed : Array Bool),listed.size = ops.size→(∀ j,listed.getD j true = false↔j ∈ rem)→∀ i,
      (i ∈ Region.ready .any ops listed↔i ∈ rem∧∀ d ∈ G3 ops i,d ∉ rem):=by
    intro rem listed hs hl i
    rw [mem_ready,hl i]
    constructor
    · rintro ⟨h1,o,ho,h2⟩
      refine ⟨h1,fun d hd => ?_⟩
      have hlt:=Fz hc (hin rem listed hs hl i h1) hd
      have hds:=Nat.lt_trans hlt (hin rem listed hs hl i h1)
      obtain ⟨e,he,hb,rfl⟩:=(Hf ho).1 hd
      exact (hgd rem listed hs hl _ hds).1 (h2 e he hb)
    · rintro ⟨h1,h2⟩
      have hi:=hin rem listed hs hl i h1
      refine ⟨h1,ops[i],Array.getElem?_eq_getElem hi,fun e he hb => ?_⟩
      have hd : e.on ∈ G3 ops i:=(Hf (Array.getElem?_eq_getElem hi)).2 ⟨e,he,hb,rfl⟩
      exact (hgd rem listed hs hl _ (Nat.lt_trans (Fz hc hi hd) hi)).2 (h2 _ hd)
  have hdone : ∀ (rem : List Nat) (listed : Array Bool),rem.Pairwise (· < ·)→listed.size = ops.size→(∀ j,listed.getD j true = false↔j ∈ rem)→Region.ready .any ops listed = []→rem = []:=by
    intro rem listed hp hs hl hr
    cases rem with
    | nil => rfl
    | cons i r =>
      have hi : i ∈ Region.ready .any ops listed:=(hrd _ listed hs hl i).2 ⟨List.mem_cons_self,fun d hd hm => by
        have:=Fz hc (hin _ listed hs hl i List.mem_cons_self) hd
        rcases List.mem_cons.1 hm with rfl | hm
        · omega
        · have:=List.rel_of_pairwise_cons hp hm
          omega⟩
      rw [hr] at hi
      cases hi
  intro fuel
  induction fuel with
  | zero =>
    intro rem listed st a w g hf hp hs hl hd hst hr hq
    have : rem = []:=List.length_eq_zero_iff.1 hf
    subst this
    simp only [B0,Option.some.injEq] at hst
    subst hst
    refine ⟨fun h => by have:=hdone _ listed hp hs hl h;simp at this,fun i hi => ?_⟩
    obtain ⟨hir,hid⟩:=(hrd _ listed hs hl i).1 hi
    have : i = n0:=by simpa using hir
    subst this
    refine hq a w g hr (Evo.refl _ _ _ _) (GLe.refl _) _ fun a2 w2 h2 => ⟨?_,h2⟩
    rw [List.eq_nil_iff_forall_not_mem]
    intro k hk
    rw [mem_ready] at hk
    have h3:=hk.1
    by_cases e : k = i
    · subst e
      have : k < listed.size:=by omega
      simp [Array.getD,this] at h3
    · rw [getD_set_ne true (fun h => e h.symm),hl k] at h3
      simp at h3
      exact e h3
  | succ fuel ih =>
    intro rem listed st a w g hf hp hs hl hd hst hr hq
    refine ⟨fun h => by have:=hdone _ listed hp hs hl h;simp at this,fun i hi => ?_⟩
    obtain ⟨hir0,hid⟩:=(hrd _ listed hs hl i).1 hi
    have his:=hin _ listed hs hl i hir0
    have hlt0 : ∀ j ∈ rem,j < n0:=fun j hj => (List.pairwise_append.1 hp).2.2 j hj n0 (by simp)
    have hir : i ∈ rem:=by
      rcases List.mem_append.1 hir0 with h | h
      · exact h
      have e : i = n0:=by simpa using h
      subst e
      obtain ⟨j,hj⟩ : ∃ j,j ∈ rem:=by
        cases rem with
        | nil => simp at hf
        | cons j r => exact ⟨j,List.mem_cons_self⟩
      exact (Ha hc hd i his hid j (hT j (hlt0 j hj)) (List.mem_append_left _ hj)).elim
    obtain ⟨l1,l2,rfl⟩:=List.append_of_mem hir
    have hp':=(List.pairwise_append.1 hp).1
    rw [List.pairwise_append] at hp'
    obtain ⟨p1,p2,p3⟩:=hp'
    have hin0 : i≠n0:=by have:=hlt0 i hir;omega
    have hnd : ∀ j ∈ l1 ++ l2,j≠i:=by
      intro j hj
      rcases List.mem_append.1 hj with hj | hj
      · have:=p3 j hj i List.mem_cons_self;omega
      · have:=List.rel_of_pairwise_cons p2 hj;omega
    have hmem : ∀ j,j ∈ (l1 ++ l2) ++ [n0]↔j ∈ (l1 ++ i :: l2) ++ [n0]∧j≠i:=by
      intro j
      constructor
      · intro hj
        rcases List.mem_append.1 hj with hj | hj
        · refine ⟨?_,hnd j hj⟩
          simp only [List.mem_append,List.mem_cons] at hj ⊢
          rcases hj with hj | hj
          · exact .inl (.inl hj)
          · exact .inl (.inr (.inr hj))
        · have : j = n0:=by simpa using hj
          subst this
          exact ⟨by simp,fun h => hin0 h.symm⟩
      · rintro ⟨hj,hne⟩
        simp only [List.mem_append,List.mem_cons] at hj ⊢
        rcases hj with (hj | hj | hj) | hj
        · exact .inl (.inl hj)
        · exact (hne hj).elim
        · exact .inl (.inr hj)
        · exact .inr hj
    have hcm : ∀ j ∈ l1,∀ x,ops[j]? = some x→Pb E ops x ops[i] = true:=by
      intro j hj x hx
      have hji : j < i:=p3 j hj i List.mem_cons_self
      have h1:=A2 (A2 hm his) hji
      simp only [Bool.or_eq_true,List.contains_iff_mem] at h1
      rcases h1 with h1 | h1
      · exact (Ha hc hd i his hid j h1 (List.mem_append_left _ (List.mem_append_left _ hj))).elim
      · simp only [hx,Array.getElem?_eq_getElem his] at h1
        exact h1
    obtain ⟨st1,h1,h2⟩:=K1 (Array.getElem?_eq_getElem his) l1 st hcm hst
    refine Uf hE hO (Array.getElem?_eq_getElem his) h1 hr fun a1 w1 g1 hr1 he1 hg1 => ?_
    refine ih (l1 ++ l2) (listed.setIfInBounds i true) st1 a1 w1 g1 ?_ ?_ ?_ ?_ ?_ h2 hr1 ?_
    · simp at hf ⊢;omega
    · exact hp.sublist (List.Sublist.append_right (List.Sublist.append_left (List.sublist_cons_self i l2) l1) _)
    · simp [hs]
    · intro j
      rw [hmem j,← hl j]
      by_cases e : j = i
      · subst e
        have : j < listed.size:=by omega
        simp [Array.getD,this]
      · rw [getD_set_ne true (fun h => e h.symm)]
        simp [e]
    · intro k hk hkn d hdk hdm
      have hd2:=((hmem d).1 hdm).1
      by_cases e : k = i
      · subst e
        exact hid d hdk hd2
      · exact hd k hk (fun h => hkn ((hmem k).2 ⟨h,e⟩)) d hdk hd2
    · intro a' w' g' hr' he' hg'
      exact hq a' w' g' hr' (he1.trans he') (hg1.trans hg')
def X5 : List Oper→List Oper
 | [] => []
 | [_] => []
 | x :: y :: l => x :: X5 (y :: l)
def Abc : List Oper→List Oper
 | [] => []
 | [x] => [x]
 | _ :: y :: l => Abc (y :: l)
attribute [go_sem] X5 Abc
theorem AbV : ∀ (x : Oper) (l : List Oper),∃ o,Abc (x :: l) = [o]∧x :: l = X5 (x :: l) ++ [o]
  | x,[] => ⟨x,rfl,rfl⟩
  | x,y :: l => by
    obtain ⟨o,h1,h2⟩:=AbV y l
    exact ⟨o,h1,by rw [X5,List.cons_append,← h2]⟩
def Abw (l : List Oper) (T : List (List Nat)) : Bool:=(!l.isEmpty) && (List.range (l.length - 1)).all fun j => (T.getD (l.length - 1) []).contains j
def Aqw (E : Env) (orc : Option Tmp→Orc) (n : Nat) (l : List Oper) (ts : List Nat) (s : Fr×Am) : Option (Fr×Am) :=
 (C6 E orc true n l.toArray (X5 l) s).bind fun r => (C6 E orc false n l.toArray (Abc l) r).bind fun r => some (keep ts r.1,r.2)
theorem AmA {orc : Option Tmp→Orc} {n : Nat} {l : List Oper} {ts : List Nat} {s : Fr×Am} : Aqw E orc n l ts s = Amq ts (N9 E orc false n l.toArray (Abc l) (N9 E orc true n l.toArray (X5 l) (some s))):=by
  rw [Hr]
  unfold Aqw
  cases C6 E orc true n l.toArray (X5 l) s with
  | none => rw [Nb];rfl
  | some r =>
    rw [Hr]
    unfold Amq
    show (C6 E orc false n l.toArray (Abc l) r).bind _ = _
    cases C6 E orc false n l.toArray (Abc l) r <;> rfl
attribute [go_sem] AmA
theorem K3 {orc : Option Tmp→Orc} {n : Nat} {ops : Array Oper} : ∀ (k : Nat) (l : List Oper) (fr fr' : Fr) (σ σ' : Am),(∃ r,ops.toList.drop k = l ++ r) →
    C6 E orc true n ops l (fr,σ) = some (fr',σ')→B0 E orc ops (List.range' k l.length) ⟨Ar n fr,σ⟩ = some ⟨Ar n fr',σ'⟩
  | k,[],fr,fr',σ,σ',hl,h => by
    simp only [C6,Option.some.injEq,Prod.mk.injEq] at h
    obtain ⟨rfl,rfl⟩:=h
    rfl
  | k,o :: l,fr,fr',σ,σ',⟨r,hl⟩,h => by
    simp only [C6,Option.bind_eq_some_iff] at h
    obtain ⟨⟨fr1,σ1⟩,h1,h2⟩:=h
    have hk : ops[k]? = some o:=by
      have : (ops.toList.drop k)[0]? = some o:=by rw [hl];rfl
      rw [List.getElem?_drop] at this
      simpa using this
    have hl' : ops.toList.drop (k + 1) = l ++ r:=by
      rw [← List.tail_drop,hl];rfl
    show B0 E orc ops (k :: List.range' (k + 1) l.length) _ = _
    unfold B0
    simp only [hk,Y9 h1,Option.bind_some]
    exact K3 (k + 1) l _ _ _ _ ⟨r,hl'⟩ h2
theorem Ada (hE : E.Ok) {orc : Option Tmp→Orc} (hO : O1 E.toBase orc) (hP : E.P.follows .mixedOrders = true) {m n id : Nat} {l : List Oper} (T : List (List Nat)) (hok1 : Iy l.toArray T = true) (hok2 : L1 E l.toArray T = true) (hok3 : Abw l T = true)
    {fr fr1 fr' : Fr} {σ σ1 σ' : Am} {K : E2} (h1 : C6 E orc true n l.toArray (X5 l) (fr,σ) = some (fr1,σ1)) (h2 : C6 E orc false n l.toArray (Abc l) (fr1,σ1) = some (fr',σ')) (hk : K .normal ⟨Ar n fr',σ'⟩) :
    Run E m (.region id l.toArray true) ⟨Ar n fr,σ⟩ K:=by
  cases l with
  | nil => simp [Abw] at hok3
  | cons x l =>
  obtain ⟨o,ho,hl⟩:=AbV x l
  generalize hn0 : (X5 (x :: l)).length = n0 at *
  have hlen : (x :: l).length = n0 + 1:=by rw [hl,List.length_append,hn0];rfl
  have hoi : (x :: l).toArray[n0]? = some o:=by
    rw [List.getElem?_toArray,hl,List.getElem?_append_right (by omega)]
    simp [hn0]
  have hT : ∀ j,j < n0→j ∈ T.getD n0 []:=by
    intro j hj
    simp only [Abw,Bool.and_eq_true,hlen,Nat.add_sub_cancel] at hok3
    exact List.contains_iff_mem.1 (A2 hok3.2 hj)
  have hst:=K3 (E:=E) (ops:=(x :: l).toArray) 0 (X5 (x :: l)) fr fr1 σ σ1 ⟨[o],by simpa using hl⟩ h1
  rw [← List.range_eq_range',hn0] at hst
  rw [ho] at h2
  simp only [C6,Option.bind_eq_some_iff] at h2
  obtain ⟨s2,h2,h3⟩:=h2
  cases h3
  intro hcm a w g hr Q hq
  refine O9 (P0 hcm) (wp_region_any hP ?_)
  have hsm : SameMem w { w with drawn:=w.drawn + 1 }:=⟨rfl,rfl,rfl,rfl⟩
  have hsz : (x :: l).toArray.size = n0 + 1:=by simpa using hlen
  rw [hsz]
  refine AfW hE hO hok1 hok2 hsz hT n0 (List.range n0) _ ⟨Ar n fr,σ⟩ a _ g (by simp) ?_ (by simp [hsz]) ?_ ?_ hst (O6 hr hsm) ?_
  · rw [← List.range_succ];exact List.pairwise_lt_range
  · intro j
    rw [← List.range_succ,List.mem_range]
    by_cases h : j < n0 + 1 <;> simp [Array.getD,h]
  · intro k hk hkn
    rw [← List.range_succ] at hkn
    exact (hkn (List.mem_range.2 (by omega))).elim
  · intro a1 w1 g1 hr1 he1 hg1 next hnext
    refine Afy (m:=m) hE hO hoi h2 hr1 fun a2 w2 g2 hr2 he2 => hnext _ _ ?_
    exact hq _ _ _ _ _ hk hr2 ((((Evo.same hsm).trans (he1.of_gle hg1))).trans he2)
theorem Ajh (hE : E.Ok) {orc : Option Tmp→Orc} (hO : O1 E.toBase orc) (hP : E.P.follows .mixedOrders = true) {m n id : Nat} {l : List Oper} (T : List (List Nat)) (hok1 : Iy l.toArray T = true) (hok2 : L1 E l.toArray T = true) (hok3 : Abw l T = true) {fr fr' : Fr} {σ σ' : Am} {K : E2} (ts : List Nat)
  (h : Aqw E orc n l ts (fr,σ) = some (fr',σ')) {y : Code} (hk : Run E m y ⟨Ar n fr',σ'⟩ K) : Run E m (.seq (.region id l.toArray true) y) ⟨Ar n fr,σ⟩ K:=by
 simp only [Aqw,Option.bind_eq_some_iff,Option.some.injEq,Prod.mk.injEq] at h
 obtain ⟨⟨fr1,σ1⟩,h1,⟨fr2,σ2⟩,h2,rfl,rfl⟩:=h
 exact N5 (Ada hE hO hP T hok1 hok2 hok3 h1 h2 (G8 (H3 _ _ _ _ _) hk))
section
variable {P : Prop} {N id : Nat} {l : List Oper} {fr fr' : Fr} {σ σ' : Am} {y : Code} {orc : Option Tmp→Orc} {m : Nat} {K : E2}
theorem Dq (T : List (List Nat)) (ts : List Nat) (o : O1 E.toBase orc) (e : Is (Aqw E orc N l ts (fr,σ)) fr' σ') (k : P→Run E m y ⟨Ar N fr',σ'⟩ K) (hP : E.P.follows .mixedOrders = true:=by exact Tt) (h1 : Iy l.toArray T = true:=by kernel_rfl) (h2 : L1 E l.toArray T = true:=by kernel_rfl) (h3 : Abw l T = true:=by kernel_rfl) (hE : E.Ok:=by assumption) : P→Run E m (.seq (.region id l.toArray true) y) ⟨Ar N fr,σ⟩ K:=fun p => Ajh hE o hP T h1 h2 h3 ts e (k p)
end
end Go.Rv
