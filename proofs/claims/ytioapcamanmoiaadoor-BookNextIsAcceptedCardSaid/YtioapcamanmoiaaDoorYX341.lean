/-
  Part 41.
-/
import Derived.Test.YtioapcamanmoiaaDoorYX340
namespace Go.Rv
open Go.RowKit
set_option linter.unusedVariables false
set_option linter.unusedSimpArgs false
variable {E : Env}
theorem AeL {orc : Option Tmp→Orc} {ops : Array Oper} {o : Oper} {fr : List AV} {σ σ' : Am} {x : AV} (hf : Ib E ops o = true) (h : G2 E orc ops o fr σ = some (x,σ')) : σ' = σ∧∀ ρ,G2 E orc ops o fr ρ = some (x,ρ):=by
 refine ⟨Fm (by unfold AbD;rw [hf];simp) h,fun ρ => ?_⟩
 unfold G2 at h ⊢
 split at h
 ·rw [hf] at h ⊢
  have e : ∀ σ,Jc true σ = Mu σ:=fun σ => by funext r;simp [Jc]
  rw [e] at h ⊢
  have e2 : ∀ σ,El E (orc o.dst) o.op fr σ = Hb E fr σ o.op:=by
   intro σ
   rcases Gg hf with ⟨t,n,l,h⟩ | ⟨s,d,x,h,_⟩ <;> rw [h] <;> rfl
  rw [e2] at h ⊢
  exact Aef _ (Gg hf) h
 ·cases h;rfl
 ·cases h
inductive SepW (E : Env) (orc : Option Tmp→Orc) (ops : Array Oper) (x y : Oper) (frF : List AV) : Prop
 | old (h : SepZ E orc ops x y frF)
 | fzX (h : Ib E ops x = true)
 | fzY (h : Ib E ops y = true)
 | freeY (h : App E orc ops y frF)
theorem Wd {orc : Option Tmp→Orc} {ops : Array Oper} {x y : Oper} {st st1 st2 : St} (hap : x.apart ops y = true) (hc : SepW E orc ops x y st.fr)
    (h1 : C9 E orc ops x st = some st1) (h2 : C9 E orc ops y st1 = some st2) : ∃ st3,C9 E orc ops y st = some st3∧C9 E orc ops x st3 = some st2:=by
  have key : Ib E ops x = true∨Ib E ops y = true→∃ st3,C9 E orc ops y st = some st3∧C9 E orc ops x st3 = some st2:=by
    intro hf
    obtain ⟨a1,a2,a3⟩:=Oper.apart_spec hap
    unfold C9 at h1 h2 ⊢
    rw [Option.map_eq_some_iff] at h1 h2
    obtain ⟨⟨v,σ1⟩,hv,rfl⟩:=h1
    obtain ⟨⟨u,σ2⟩,hu,rfl⟩:=h2
    simp only at hu ⊢
    rw [Ca a1] at hu
    rcases hf with hf | hf
    · obtain ⟨rfl,hall⟩:=AeL hf hv
      refine ⟨⟨Bh st.fr y.dst u,σ2⟩,by rw [hu];rfl,?_⟩
      simp only
      rw [Ca a3,hall]
      simp only [Option.map_some,E1 st.fr v u a2]
    · obtain ⟨rfl,hall⟩:=AeL hf hu
      refine ⟨⟨Bh st.fr y.dst u,st.σ⟩,by rw [hall];rfl,?_⟩
      simp only
      rw [Ca a3,hv]
      simp only [Option.map_some,E1 st.fr v u a2]
  cases hc with
  | old h => exact AcM hap h h1 h2
  | fzX h => exact key (.inl h)
  | fzY h => exact key (.inr h)
  | freeY hfree =>
    obtain ⟨a1,a2,a3⟩:=Oper.apart_spec hap
    unfold C9 at h1 h2 ⊢
    rw [Option.map_eq_some_iff] at h1 h2
    obtain ⟨⟨v,σ1⟩,hv,rfl⟩:=h1
    obtain ⟨⟨u,σ2⟩,hu,rfl⟩:=h2
    simp only at hu ⊢
    rw [Ca a1] at hu
    obtain ⟨rfl,hall⟩:=hfree _ _ _ hu
    refine ⟨⟨Bh st.fr y.dst u,st.σ⟩,by rw [hall];rfl,?_⟩
    simp only
    rw [Ca a3,hv]
    simp only [Option.map_some,E1 st.fr v u a2]
theorem Qe {orc : Option Tmp→Orc} {ops : Array Oper} {i : Nat} {y : Oper} (hi : ops[i]? = some y) {l2 : List Nat} {st' : St} : ∀ (l1 : List Nat) (st : St),
    (∀ m1 j m2,l1 = m1 ++ j :: m2→∀ x,ops[j]? = some x→Pb E ops x y = true∨x.apart ops y = true∧∀ st,B0 E orc ops ((j :: m2) ++ i :: l2) st = some st'→SepW E orc ops x y st.fr)→B0 E orc ops (l1 ++ i :: l2) st = some st' →
    ∃ st1,C9 E orc ops y st = some st1∧B0 E orc ops (l1 ++ l2) st1 = some st'
  | [],st,_,h => by
    simp only [List.nil_append,B0,hi] at h
    rw [Option.bind_eq_some_iff] at h
    exact h
  | j :: l1,st,hc,h0 => by
    have h:=h0
    simp only [List.cons_append,B0] at h
    cases hj : ops[j]? with
    | none => simp [hj] at h
    | some x =>
      simp only [hj] at h
      rw [Option.bind_eq_some_iff] at h
      obtain ⟨s1,h1,h⟩:=h
      obtain ⟨s2,h2,h⟩:=Qe hi l1 s1 (fun m1 k m2 e => hc (j :: m1) k m2 (by rw [e];rfl)) h
      have : ∃ st3,C9 E orc ops y st = some st3∧C9 E orc ops x st3 = some s2:=by
        rcases hc [] j l1 rfl x hj with hcb | ⟨hap,hcy⟩
        · exact Lu hcb h1 h2
        · exact Wd hap (hcy st h0) h1 h2
      obtain ⟨s3,h3,h4⟩:=this
      refine ⟨s3,h3,?_⟩
      simp only [List.cons_append,B0,hj,h4,Option.bind_some]
      exact h
def Ahc (E : Env) (ops : Array Oper) (T : List (List Nat)) (ps xs ws : List (Nat×Nat)) (ns ts : List Nat) : Bool :=
 (List.range ops.size).all fun i => (List.range i).all fun j => (T.getD i []).contains j || (match ops[j]?,ops[i]? with
  | some x,some y => Pb E ops x y || (x.apart ops y && (Aot E ops T ps ts j i x y || Aoo E ops T ps xs ts i x y || Aoq ops T ps ts i y || Aon E ops ps xs ts j x y || Aq9 ops T ps ws ts j i x y || Ib E ops x || Ib E ops y || Ajr ops T ns ts i y))
  | _,_ => false)
theorem Yq (hE : E.Ok) (hP : E.P.follows .mixedOrders = true) {m n id : Nat} {l : List Oper} (T : List (List Nat)) (hok1 : Iy l.toArray T = true) (ps xs ws : List (Nat×Nat)) (ns ts : List Nat) (hok2 : Ahc E l.toArray T ps xs ws ns ts = true) {fr fr' : Fr} {σ σ' : Am} {K : E2} (hw : Aar E m K)
  (hps : Aac n fr' ps) (hws : Xj n fr' ws) (hns : NsL n fr' ns) (h : ∃ lz m,O1 E.toBase (Oz lz m)∧XOk m xs∧Q5 E (Oz lz m) true n l ts (fr,σ) = some (fr',σ'))
  (hk : K .normal ⟨Ar n fr',σ'⟩) : Run E m (.region id l.toArray true) ⟨Ar n fr,σ⟩ K:=by
 obtain ⟨lz,mz,hO,hX,h⟩:=h
 simp only [Q5,Option.bind_eq_some_iff,Option.some.injEq,Prod.mk.injEq] at h
 obtain ⟨⟨fr1,σ2⟩,h1,rfl,rfl⟩:=h
 have hsteps:=Iq (E:=E) (ops:=l.toArray) 0 l fr fr1 σ σ2 (by simp) h1
 rw [← List.range_eq_range'] at hsteps
 intro hcm ac w g hr Q hq
 refine O9 (P0 hcm) (wp_region_any hP ?_)
 have hsm : SameMem w { w with drawn:=w.drawn + 1 }:=⟨rfl,rfl,rfl,rfl⟩
 have hval : ∀ t a,ts.contains t = true→Ack ps t = some a→Me (ev (Ar n fr1) (.tmp t)) = some a:=by
  intro t a ht ha
  have:=T6 hps ha
  rw [Ex]
  have e : evL n (keep ts fr1) (.tmp t) = evL n fr1 (.tmp t):=by
   show (if t < n then look (keep ts fr1) t else .junk) = if t < n then look fr1 t else .junk
   rw [Hw ts fr1 t (List.contains_iff_mem.1 ht)]
  rw [e] at this
  exact this
 have hvalW : ∀ t a,ts.contains t = true→Ack ws t = some a→Pu (ev (Ar n fr1) (.tmp t)) a:=by
  intro t a ht ha
  have:=Xk hws ha
  rw [Ex]
  have e : evL n (keep ts fr1) (.tmp t) = evL n fr1 (.tmp t):=by
   show (if t < n then look (keep ts fr1) t else .junk) = if t < n then look fr1 t else .junk
   rw [Hw ts fr1 t (List.contains_iff_mem.1 ht)]
  rw [e] at this
  exact this
 refine P3 hE hO hok1 (st':=⟨Ar n fr1,σ2⟩) ?_ l.toArray.size (List.range l.length) _ ⟨Ar n fr,σ⟩ ac _ g (by simp) List.pairwise_lt_range (by simp) ?_ ?_ hsteps (O6 hr hsm) ?_
 ·intro i his l1 l2 st hp hT hst
  have hi : l.toArray[i]? = some l.toArray[i]:=Array.getElem?_eq_getElem his
  refine Qe hi l1 st (fun m1 j m2 e x hx => ?_) hst
  have hj : j ∈ l1:=by rw [e];simp
  have hji : j < i:=by
   rw [List.pairwise_append] at hp
   exact hp.2.2 j hj i List.mem_cons_self
  have h1':=A2 (A2 hok2 his) hji
  simp only [Bool.or_eq_true,List.contains_iff_mem] at h1'
  rcases h1' with h1' | h1'
  ·exact (hT j hj h1').elim
  ·simp only [hx,hi,Bool.or_eq_true,Bool.and_eq_true] at h1'
   rcases h1' with h1' | ⟨h1',h2'⟩
   ·exact .inl h1'
   ·refine .inr ⟨h1',fun st3 h3 => ?_⟩
    have hst3 : ∀ t,(∀ k ∈ ((j :: m2) ++ i :: l2),∀ o,l.toArray[k]? = some o→o.dst≠some t)→ev st3.fr (.tmp t) = ev (Ar n fr1) (.tmp t):=fun t hk => (I5 _ _ _ hk h3).symm
    have hpw : ((j :: m2) ++ i :: l2).Pairwise (· < ·):=by
     rw [e,List.append_assoc] at hp
     exact (List.pairwise_append.1 hp).2.1
    have hge : ∀ k ∈ ((j :: m2) ++ i :: l2),j≤k:=by
     intro k hk
     rw [List.cons_append] at hpw hk
     rcases List.mem_cons.1 hk with rfl | hk
     ·exact Nat.le_refl _
     ·exact Nat.le_of_lt (List.rel_of_pairwise_cons hpw hk)
    have hnT : ∀ k ∈ ((j :: m2) ++ i :: l2),¬(k ∈ T.getD i []∧k < i):=by
     rintro k hk ⟨q1,q2⟩
     rcases List.mem_append.1 hk with hk | hk
     ·exact hT k (by rw [e];simp only [List.mem_append];exact .inr hk) q1
     ·rcases List.mem_cons.1 hk with rfl | hk
      ·omega
      ·have:=List.rel_of_pairwise_cons (List.pairwise_append.1 hpw).2.1 hk
       omega
    have hstill : ∀ (ok : Nat→Bool) t,H7 l.toArray ts ok t = true→(∀ k ∈ ((j :: m2) ++ i :: l2),ok k = false)→ts.contains t = true∧ev st3.fr (.tmp t) = ev (Ar n fr1) (.tmp t):=by
     intro ok t h hno
     simp only [H7,Bool.and_eq_true] at h
     refine ⟨h.1,hst3 t fun k hk o hko => ?_⟩
     have h2:=A2 h.2 (Array.getElem?_eq_some_iff.1 hko).1
     rw [hno k hk,hko] at h2
     simpa using h2
    have hq0 : ∀ q,H7 l.toArray ts (fun k => (T.getD i []).contains k && decide (k < i)) q = true→ts.contains q = true∧ev st3.fr (.tmp q) = ev (Ar n fr1) (.tmp q):=fun q s1 => hstill _ q s1 (fun k hk => by
     have:=hnT k hk
     simp only [Bool.and_eq_false_iff,decide_eq_false_iff_not]
     by_cases hm : k ∈ T.getD i []
     ·exact .inr fun h => this ⟨hm,h⟩
     ·exact .inl (by simpa using hm))
    rcases h2' with h2' | h2'
    case inr =>
     unfold Ajr at h2'
     split at h2'
     case h_2 => cases h2'
     rename_i p hfp
     simp only [Bool.and_eq_true] at h2'
     obtain ⟨c1,c2⟩:=hq0 p h2'.2
     refine .freeY (Ahn hfp ?_)
     rw [c2]
     have hn:=Afp hns (List.contains_iff_mem.1 h2'.1)
     rw [Ex]
     have e : evL n (keep ts fr1) (.tmp p) = evL n fr1 (.tmp p):=by
      show (if p < n then look (keep ts fr1) p else .junk) = if p < n then look fr1 p else .junk
      rw [Hw ts fr1 p (List.contains_iff_mem.1 c1)]
     rw [e] at hn
     exact hn
    rcases h2' with h2' | h2'
    case inr => exact .fzY h2'
    rcases h2' with h2' | h2'
    case inr => exact .fzX h2'
    refine .old ?_
    rcases h2' with h2' | h2'
    case inr =>
     unfold Aq9 at h2'
     split at h2'
     case h_2 => cases h2'
     rename_i p q hp' hq'
     split at h2'
     case h_2 => cases h2'
     rename_i a d ha hd
     simp only [Bool.and_eq_true,bne_iff_ne] at h2'
     obtain ⟨⟨s1,s2⟩,s3⟩:=h2'
     obtain ⟨c1,c2⟩:=hstill _ p s2 (fun k hk => by
      have:=hge k hk
      simp only [decide_eq_false_iff_not];omega)
     obtain ⟨c3,c4⟩:=hq0 q s3
     exact .appY p a q d hp' (by rw [c2];exact hval p a c1 ha) hq' (by rw [c4];exact hvalW q d c3 hd) s1
    refine .old ?_
    rcases h2' with h2' | h2'
    case inr =>
     unfold Aon at h2'
     split at h2'
     case h_2 => cases h2'
     rename_i p t hp' ht'
     split at h2'
     case h_1 => cases h2'
     rename_i a ha
     simp only [Bool.and_eq_true,List.contains_iff_mem] at h2'
     obtain ⟨⟨s1,s2⟩,s3⟩:=h2'
     obtain ⟨c1,c2⟩:=hstill _ p s1 (fun k hk => by
      have:=hge k hk
      simp only [decide_eq_false_iff_not];omega)
     exact .callY p a hp' (by rw [c2];exact hval p a c1 ha) fun σ σ1 v hv => L8 s2 ht' hX s3 hv
    rcases h2' with h2' | h2'
    case inr =>
     unfold Aoq at h2'
     split at h2'
     case h_2 => cases h2'
     rename_i p f hop
     split at h2'
     case h_1 => cases h2'
     rename_i a ha
     obtain ⟨c1,c2⟩:=hq0 p h2'
     exact .fa _ p f a hop (by rw [c2];exact hval p a c1 ha)
    rcases h2' with h2' | h2'
    case inr =>
     unfold Aoo at h2'
     split at h2'
     case h_2 => cases h2'
     rename_i p t hp' ht'
     split at h2'
     case h_1 => cases h2'
     rename_i a ha
     simp only [Bool.and_eq_true,List.contains_iff_mem] at h2'
     obtain ⟨⟨s1,s2⟩,s3⟩:=h2'
     obtain ⟨c1,c2⟩:=hq0 p s1
     exact .call p a hp' (by rw [c2];exact hval p a c1 ha) fun σ σ1 v hv => L8 s2 ht' hX s3 hv
    unfold Aot at h2'
    split at h2'
    case h_1 => cases h2'
    rename_i q hq'
    split at h2'
    case h_1 => cases h2'
    rename_i b hb
    simp only [Bool.and_eq_true,Bool.or_eq_true,Bool.not_eq_true'] at h2'
    obtain ⟨s1,h2'⟩:=h2'
    obtain ⟨c1,c2⟩:=hq0 q s1
    have hbq : Me (ev st3.fr (.tmp q)) = some b:=by rw [c2];exact hval q b c1 hb
    rcases h2' with ⟨h4,h5⟩ | h4
    ·exact .build q b h4 h5 hq' hbq
    ·split at h4
     case h_1 => cases h4
     rename_i p hp'
     split at h4
     case h_1 => cases h4
     rename_i a ha
     simp only [Bool.and_eq_true,bne_iff_ne] at h4
     obtain ⟨c3,c4⟩:=hstill _ p h4.2 (fun k hk => by
      have:=hge k hk
      simp only [decide_eq_false_iff_not];omega)
     exact .look p q a b hp' hq' (by rw [c4];exact hval p a c3 ha) hbq h4.1
 ·intro j
  rw [List.mem_range]
  by_cases h : j < l.length <;> simp [Array.getD,h]
 ·intro k hk hkn
  exact (hkn (List.mem_range.2 (by simpa using hk))).elim
 ·intro a' w' g' hr' he hg
  exact hq _ _ _ _ _ (hw _ _ (H3 _ _ _ _ _) hk) hr' ((Evo.same hsm).trans (he.of_gle hg))
theorem AiV (hE : E.Ok) (hP : E.P.follows .mixedOrders = true) {m n id : Nat} {l : List Oper} (T : List (List Nat)) (hok1 : Iy l.toArray T = true) (ps xs ws : List (Nat×Nat)) (ns ts : List Nat) (hok2 : Ahc E l.toArray T ps xs ws ns ts = true) {fr fr' : Fr} {σ σ' : Am} {K : E2}
  (hps : Aac n fr' ps) (hws : Xj n fr' ws) (hns : NsL n fr' ns) (h : ∃ lz m,O1 E.toBase (Oz lz m)∧XOk m xs∧Q5 E (Oz lz m) true n l ts (fr,σ) = some (fr',σ'))
  {y : Code} (hk : Run E m y ⟨Ar n fr',σ'⟩ K) : Run E m (.seq (.region id l.toArray true) y) ⟨Ar n fr,σ⟩ K :=
 N5 (Yq hE hP T hok1 ps xs ws ns ts hok2 N4 hps hws hns h hk)
theorem AmT {sel : List Nat} {l : Fr} : wkT sel l [] = True:=by cases l <;> rfl
theorem Ala {sel : List Nat} {x y : Nat×AV} {xs ys : Fr} : wkT sel (x :: xs) (y :: ys) = ((x.1 = y.1∧wk1 sel x.2 y.2)∧wkT sel xs ys):=rfl
theorem Aj8 {sel : List Nat} {y y' : Bool} {N N' : Nat} {l l' : Fr} {ps ps' : Array Tmp} {a a' b b' : Code} : Abg sel (.lp y N l ps a b) (.lp y' N' l' ps' a' b') = (y = y'∧N = N'∧ps = ps'∧a = a'∧b = b'∧wkT sel l l'):=rfl
attribute [go_sem] AmT Ala Aj8
end Go.Rv
