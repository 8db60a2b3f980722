/-
  Part 41.
-/
import Derived.Test.YtioapcamanmoiaaDoorYX640
namespace Go.Rv
open Go.RowKit
set_option linter.unusedVariables false
set_option linter.unusedSimpArgs false
variable {E : Env}
theorem Aeu {orc : Option Tmp→Orc} {ops : Array Oper} {o : Oper} {fr : List AV} {σ σ' : Am} {x : AV} (hf : Ie E ops o = true) (h : G2 E orc ops o fr σ = some (x,σ')) : σ' = σ∧∀ ρ,G2 E orc ops o fr ρ = some (x,ρ):=by
 refine ⟨Fi (by unfold Abs;rw [hf];simp) h,fun ρ => ?_⟩
 unfold G2 at h ⊢
 split at h
 ·rw [hf] at h ⊢
  have e : ∀ σ,I5 true σ = Mj σ:=fun σ => by funext r;simp [I5]
  rw [e] at h ⊢
  have e2 : ∀ σ,El E (orc o.dst) o.op fr σ = Hb E fr σ o.op:=by
   intro σ
   rcases F4 hf with ⟨t,n,l,h⟩ | ⟨s,d,x,h,_⟩ <;> rw [h] <;> rfl
  rw [e2] at h ⊢
  exact Ad9 _ (F4 hf) h
 ·cases h;rfl
 ·cases h
inductive SepW (E : Env) (orc : Option Tmp→Orc) (ops : Array Oper) (x y : Oper) (frF : List AV) : Prop
 | old (h : SepZ E orc ops x y frF)
 | fzX (h : Ie E ops x = true)
 | fzY (h : Ie E ops y = true)
 | freeY (h : Aq5 E orc ops y frF)
theorem AcG {orc : Option Tmp→Orc} {ops : Array Oper} {x y : Oper} {st st1 st2 : St} (hap : x.apart ops y = true) (hc : SepW E orc ops x y st.fr)
    (h1 : Ef E orc ops x st = some st1) (h2 : Ef E orc ops y st1 = some st2) : ∃ st3,Ef E orc ops y st = some st3∧Ef E orc ops x st3 = some st2:=by
  have key : Ie E ops x = true∨Ie E ops y = true→∃ st3,Ef E orc ops y st = some st3∧Ef E orc ops x st3 = some st2:=by
    intro hf
    obtain ⟨a1,a2,a3⟩:=Oper.apart_spec hap
    unfold Ef at h1 h2 ⊢
    rw [Option.map_eq_some_iff] at h1 h2
    obtain ⟨⟨v,σ1⟩,hv,rfl⟩:=h1
    obtain ⟨⟨u,σ2⟩,hu,rfl⟩:=h2
    simp only at hu ⊢
    rw [Cj a1] at hu
    rcases hf with hf | hf
    · obtain ⟨rfl,hall⟩:=Aeu hf hv
      refine ⟨⟨Bi st.fr y.dst u,σ2⟩,by rw [hu];rfl,?_⟩
      simp only
      rw [Cj a3,hall]
      simp only [Option.map_some,F6 st.fr v u a2]
    · obtain ⟨rfl,hall⟩:=Aeu hf hu
      refine ⟨⟨Bi st.fr y.dst u,st.σ⟩,by rw [hall];rfl,?_⟩
      simp only
      rw [Cj a3,hv]
      simp only [Option.map_some,F6 st.fr v u a2]
  cases hc with
  | old h => exact AdO hap h h1 h2
  | fzX h => exact key (.inl h)
  | fzY h => exact key (.inr h)
  | freeY hfree =>
    obtain ⟨a1,a2,a3⟩:=Oper.apart_spec hap
    unfold Ef at h1 h2 ⊢
    rw [Option.map_eq_some_iff] at h1 h2
    obtain ⟨⟨v,σ1⟩,hv,rfl⟩:=h1
    obtain ⟨⟨u,σ2⟩,hu,rfl⟩:=h2
    simp only at hu ⊢
    rw [Cj a1] at hu
    obtain ⟨rfl,hall⟩:=hfree _ _ _ hu
    refine ⟨⟨Bi st.fr y.dst u,st.σ⟩,by rw [hall];rfl,?_⟩
    simp only
    rw [Cj a3,hv]
    simp only [Option.map_some,F6 st.fr v u a2]
theorem Qh {orc : Option Tmp→Orc} {ops : Array Oper} {i : Nat} {y : Oper} (hi : ops[i]? = some y) {l2 : List Nat} {st' : St} : ∀ (l1 : List Nat) (st : St),
    (∀ m1 j m2,l1 = m1 ++ j :: m2→∀ x,ops[j]? = some x→P7 E ops x y = true∨x.apart ops y = true∧∀ st,Cc E orc ops ((j :: m2) ++ i :: l2) st = some st'→SepW E orc ops x y st.fr)→Cc E orc ops (l1 ++ i :: l2) st = some st' →
    ∃ st1,Ef E orc ops y st = some st1∧Cc E orc ops (l1 ++ l2) st1 = some st'
  | [],st,_,h => by
    simp only [List.nil_append,Cc,hi] at h
    rw [Option.bind_eq_some_iff] at h
    exact h
  | j :: l1,st,hc,h0 => by
    have h:=h0
    simp only [List.cons_append,Cc] at h
    cases hj : ops[j]? with
    | none => simp [hj] at h
    | some x =>
      simp only [hj] at h
      rw [Option.bind_eq_some_iff] at h
      obtain ⟨s1,h1,h⟩:=h
      obtain ⟨s2,h2,h⟩:=Qh hi l1 s1 (fun m1 k m2 e => hc (j :: m1) k m2 (by rw [e];rfl)) h
      have : ∃ st3,Ef E orc ops y st = some st3∧Ef E orc ops x st3 = some s2:=by
        rcases hc [] j l1 rfl x hj with hcb | ⟨hap,hcy⟩
        · exact Oh hcb h1 h2
        · exact AcG hap (hcy st h0) h1 h2
      obtain ⟨s3,h3,h4⟩:=this
      refine ⟨s3,h3,?_⟩
      simp only [List.cons_append,Cc,hj,h4,Option.bind_some]
      exact h
def Ag4 (E : Env) (ops : Array Oper) (T : List (List Nat)) (ps xs ws : List (Nat×Nat)) (ns ts : List Nat) : Bool :=
 (List.range ops.size).all fun i => (List.range i).all fun j => (T.getD i []).contains j || (match ops[j]?,ops[i]? with
  | some x,some y => P7 E ops x y || (x.apart ops y && (AqG E ops T ps ts j i x y || AqF E ops T ps xs ts i x y || AqK ops T ps ts i y || AqI E ops ps xs ts j x y || sepZ ops T ps ws ts j i x y || Ie E ops x || Ie E ops y || Ao1 ops T ns ts i y))
  | _,_ => false)
theorem Yg (hE : E.Ok) (hP : E.P.follows .mixedOrders = true) {m n id : Nat} {l : List Oper} (T : List (List Nat)) (hok1 : I9 l.toArray T = true) (ps xs ws : List (Nat×Nat)) (ns ts : List Nat) (hok2 : Ag4 E l.toArray T ps xs ws ns ts = true) {fr fr' : Fr} {σ σ' : Am} {K : E7} (hw : AaX E m K)
  (hps : AfA n fr' ps) (hws : AeQ n fr' ws) (hns : NsL n fr' ns) (h : ∃ lz m,Pj E.toBase (Qw lz m)∧XOk m xs∧Tc E (Qw lz m) true n l ts (fr,σ) = some (fr',σ'))
  (hk : K .normal ⟨Ar n fr',σ'⟩) : Run E m (.region id l.toArray true) ⟨Ar n fr,σ⟩ K:=by
 obtain ⟨lz,mz,hO,hX,h⟩:=h
 simp only [Tc,Option.bind_eq_some_iff,Option.some.injEq,Prod.mk.injEq] at h
 obtain ⟨⟨fr1,σ2⟩,h1,rfl,rfl⟩:=h
 have hsteps:=Jw (E:=E) (ops:=l.toArray) 0 l fr fr1 σ σ2 (by simp) h1
 rw [← List.range_eq_range'] at hsteps
 intro hcm ac w g hr Q hq
 refine P3 (R2 hcm) (wp_region_any hP ?_)
 have hsm : SameMem w { w with drawn:=w.drawn + 1 }:=⟨rfl,rfl,rfl,rfl⟩
 have hval : ∀ t a,ts.contains t = true→Ae5 ps t = some a→M3 (ev (Ar n fr1) (.tmp t)) = some a:=by
  intro t a ht ha
  have:=Aay hps ha
  rw [G9]
  have e : evL n (keep ts fr1) (.tmp t) = evL n fr1 (.tmp t):=by
   show (if t < n then look (keep ts fr1) t else .junk) = if t < n then look fr1 t else .junk
   rw [P0 ts fr1 t (List.contains_iff_mem.1 ht)]
  rw [e] at this
  exact this
 have hvalW : ∀ t a,ts.contains t = true→Ae5 ws t = some a→Q1 (ev (Ar n fr1) (.tmp t)) a:=by
  intro t a ht ha
  have:=AbS hws ha
  rw [G9]
  have e : evL n (keep ts fr1) (.tmp t) = evL n fr1 (.tmp t):=by
   show (if t < n then look (keep ts fr1) t else .junk) = if t < n then look fr1 t else .junk
   rw [P0 ts fr1 t (List.contains_iff_mem.1 ht)]
  rw [e] at this
  exact this
 refine Uk hE hO hok1 (st':=⟨Ar n fr1,σ2⟩) ?_ l.toArray.size (List.range l.length) _ ⟨Ar n fr,σ⟩ ac _ g (by simp) List.pairwise_lt_range (by simp) ?_ ?_ hsteps (Pw hr hsm) ?_
 ·intro i his l1 l2 st hp hT hst
  have hi : l.toArray[i]? = some l.toArray[i]:=Array.getElem?_eq_getElem his
  refine Qh hi l1 st (fun m1 j m2 e x hx => ?_) hst
  have hj : j ∈ l1:=by rw [e];simp
  have hji : j < i:=by
   rw [List.pairwise_append] at hp
   exact hp.2.2 j hj i List.mem_cons_self
  have h1':=Ba (Ba hok2 his) hji
  simp only [Bool.or_eq_true,List.contains_iff_mem] at h1'
  rcases h1' with h1' | h1'
  ·exact (hT j hj h1').elim
  ·simp only [hx,hi,Bool.or_eq_true,Bool.and_eq_true] at h1'
   rcases h1' with h1' | ⟨h1',h2'⟩
   ·exact .inl h1'
   ·refine .inr ⟨h1',fun st3 h3 => ?_⟩
    have hst3 : ∀ t,(∀ k ∈ ((j :: m2) ++ i :: l2),∀ o,l.toArray[k]? = some o→o.dst≠some t)→ev st3.fr (.tmp t) = ev (Ar n fr1) (.tmp t):=fun t hk => (Kv _ _ _ hk h3).symm
    have hpw : ((j :: m2) ++ i :: l2).Pairwise (· < ·):=by
     rw [e,List.append_assoc] at hp
     exact (List.pairwise_append.1 hp).2.1
    have hge : ∀ k ∈ ((j :: m2) ++ i :: l2),j≤k:=by
     intro k hk
     rw [List.cons_append] at hpw hk
     rcases List.mem_cons.1 hk with rfl | hk
     ·exact Nat.le_refl _
     ·exact Nat.le_of_lt (List.rel_of_pairwise_cons hpw hk)
    have hnT : ∀ k ∈ ((j :: m2) ++ i :: l2),¬(k ∈ T.getD i []∧k < i):=by
     rintro k hk ⟨q1,q2⟩
     rcases List.mem_append.1 hk with hk | hk
     ·exact hT k (by rw [e];simp only [List.mem_append];exact .inr hk) q1
     ·rcases List.mem_cons.1 hk with rfl | hk
      ·omega
      ·have:=List.rel_of_pairwise_cons (List.pairwise_append.1 hpw).2.1 hk
       omega
    have hstill : ∀ (ok : Nat→Bool) t,Kn l.toArray ts ok t = true→(∀ k ∈ ((j :: m2) ++ i :: l2),ok k = false)→ts.contains t = true∧ev st3.fr (.tmp t) = ev (Ar n fr1) (.tmp t):=by
     intro ok t h hno
     simp only [Kn,Bool.and_eq_true] at h
     refine ⟨h.1,hst3 t fun k hk o hko => ?_⟩
     have h2:=Ba h.2 (Array.getElem?_eq_some_iff.1 hko).1
     rw [hno k hk,hko] at h2
     simpa using h2
    have hq0 : ∀ q,Kn l.toArray ts (fun k => (T.getD i []).contains k && decide (k < i)) q = true→ts.contains q = true∧ev st3.fr (.tmp q) = ev (Ar n fr1) (.tmp q):=fun q s1 => hstill _ q s1 (fun k hk => by
     have:=hnT k hk
     simp only [Bool.and_eq_false_iff,decide_eq_false_iff_not]
     by_cases hm : k ∈ T.getD i []
     ·exact .inr fun h => this ⟨hm,h⟩
     ·exact .inl (by simpa using hm))
    rcases h2' with h2' | h2'
    case inr =>
     unfold Ao1 at h2'
     split at h2'
     case h_2 => cases h2'
     rename_i p hfp
     simp only [Bool.and_eq_true] at h2'
     obtain ⟨c1,c2⟩:=hq0 p h2'.2
     refine .freeY (Aoc hfp ?_)
     rw [c2]
     have hn:=Ale hns (List.contains_iff_mem.1 h2'.1)
     rw [G9]
     have e : evL n (keep ts fr1) (.tmp p) = evL n fr1 (.tmp p):=by
      show (if p < n then look (keep ts fr1) p else .junk) = if p < n then look fr1 p else .junk
      rw [P0 ts fr1 p (List.contains_iff_mem.1 c1)]
     rw [e] at hn
     exact hn
    rcases h2' with h2' | h2'
    case inr => exact .fzY h2'
    rcases h2' with h2' | h2'
    case inr => exact .fzX h2'
    refine .old ?_
    rcases h2' with h2' | h2'
    case inr =>
     unfold sepZ at h2'
     split at h2'
     case h_2 => cases h2'
     rename_i p q hp' hq'
     split at h2'
     case h_2 => cases h2'
     rename_i a d ha hd
     simp only [Bool.and_eq_true,bne_iff_ne] at h2'
     obtain ⟨⟨s1,s2⟩,s3⟩:=h2'
     obtain ⟨c1,c2⟩:=hstill _ p s2 (fun k hk => by
      have:=hge k hk
      simp only [decide_eq_false_iff_not];omega)
     obtain ⟨c3,c4⟩:=hq0 q s3
     exact .appY p a q d hp' (by rw [c2];exact hval p a c1 ha) hq' (by rw [c4];exact hvalW q d c3 hd) s1
    refine .old ?_
    rcases h2' with h2' | h2'
    case inr =>
     unfold AqI at h2'
     split at h2'
     case h_2 => cases h2'
     rename_i p t hp' ht'
     split at h2'
     case h_1 => cases h2'
     rename_i a ha
     simp only [Bool.and_eq_true,List.contains_iff_mem] at h2'
     obtain ⟨⟨s1,s2⟩,s3⟩:=h2'
     obtain ⟨c1,c2⟩:=hstill _ p s1 (fun k hk => by
      have:=hge k hk
      simp only [decide_eq_false_iff_not];omega)
     exact .callY p a hp' (by rw [c2];exact hval p a c1 ha) fun σ σ1 v hv => P2 s2 ht' hX s3 hv
    rcases h2' with h2' | h2'
    case inr =>
     unfold AqK at h2'
     split at h2'
     case h_2 => cases h2'
     rename_i p f hop
     split at h2'
     case h_1 => cases h2'
     rename_i a ha
     obtain ⟨c1,c2⟩:=hq0 p h2'
     exact .fa _ p f a hop (by rw [c2];exact hval p a c1 ha)
    rcases h2' with h2' | h2'
    case inr =>
     unfold AqF at h2'
     split at h2'
     case h_2 => cases h2'
     rename_i p t hp' ht'
     split at h2'
     case h_1 => cases h2'
     rename_i a ha
     simp only [Bool.and_eq_true,List.contains_iff_mem] at h2'
     obtain ⟨⟨s1,s2⟩,s3⟩:=h2'
     obtain ⟨c1,c2⟩:=hq0 p s1
     exact .call p a hp' (by rw [c2];exact hval p a c1 ha) fun σ σ1 v hv => P2 s2 ht' hX s3 hv
    unfold AqG at h2'
    split at h2'
    case h_1 => cases h2'
    rename_i q hq'
    split at h2'
    case h_1 => cases h2'
    rename_i b hb
    simp only [Bool.and_eq_true,Bool.or_eq_true,Bool.not_eq_true'] at h2'
    obtain ⟨s1,h2'⟩:=h2'
    obtain ⟨c1,c2⟩:=hq0 q s1
    have hbq : M3 (ev st3.fr (.tmp q)) = some b:=by rw [c2];exact hval q b c1 hb
    rcases h2' with ⟨h4,h5⟩ | h4
    ·exact .build q b h4 h5 hq' hbq
    ·split at h4
     case h_1 => cases h4
     rename_i p hp'
     split at h4
     case h_1 => cases h4
     rename_i a ha
     simp only [Bool.and_eq_true,bne_iff_ne] at h4
     obtain ⟨c3,c4⟩:=hstill _ p h4.2 (fun k hk => by
      have:=hge k hk
      simp only [decide_eq_false_iff_not];omega)
     exact .look p q a b hp' hq' (by rw [c4];exact hval p a c3 ha) hbq h4.1
 ·intro j
  rw [List.mem_range]
  by_cases h : j < l.length <;> simp [Array.getD,h]
 ·intro k hk hkn
  exact (hkn (List.mem_range.2 (by simpa using hk))).elim
 ·intro a' w' g' hr' he hg
  exact hq _ _ _ _ _ (hw _ _ (I1 _ _ _ _ _) hk) hr' ((Evo.same hsm).trans (he.of_gle hg))
theorem Ahz (hE : E.Ok) (hP : E.P.follows .mixedOrders = true) {m n id : Nat} {l : List Oper} (T : List (List Nat)) (hok1 : I9 l.toArray T = true) (ps xs ws : List (Nat×Nat)) (ns ts : List Nat) (hok2 : Ag4 E l.toArray T ps xs ws ns ts = true) {fr fr' : Fr} {σ σ' : Am} {K : E7}
  (hps : AfA n fr' ps) (hws : AeQ n fr' ws) (hns : NsL n fr' ns) (h : ∃ lz m,Pj E.toBase (Qw lz m)∧XOk m xs∧Tc E (Qw lz m) true n l ts (fr,σ) = some (fr',σ'))
  {y : Code} (hk : Run E m y ⟨Ar n fr',σ'⟩ K) : Run E m (.seq (.region id l.toArray true) y) ⟨Ar n fr,σ⟩ K :=
 Pm (Yg hE hP T hok1 ps xs ws ns ts hok2 O5 hps hws hns h hk)
theorem Ang {sel : List Nat} {l : Fr} : wkT sel l [] = True:=by cases l <;> rfl
theorem Akc {sel : List Nat} {x y : Nat×AV} {xs ys : Fr} : wkT sel (x :: xs) (y :: ys) = ((x.1 = y.1∧wk1 sel x.2 y.2)∧wkT sel xs ys):=rfl
theorem AjM {sel : List Nat} {y y' : Bool} {N N' : Nat} {l l' : Fr} {ps ps' : Array Tmp} {a a' b b' : Code} : Ab2 sel (.lp y N l ps a b) (.lp y' N' l' ps' a' b') = (y = y'∧N = N'∧ps = ps'∧a = a'∧b = b'∧wkT sel l l'):=rfl
attribute [go_sem] Ang Akc AjM
end Go.Rv
