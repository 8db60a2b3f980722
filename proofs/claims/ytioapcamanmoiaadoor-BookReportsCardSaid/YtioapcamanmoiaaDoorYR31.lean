/-
  Part 31.
-/
import Derived.Test.YtioapcamanmoiaaDoorYR30
namespace Go.Rv
open Go.RowKit
set_option linter.unusedVariables false
set_option linter.unusedSimpArgs false
variable {E : Env}
@[go_sem] theorem An8 (f : FuncId) (l : List AV) : (AV.fn f l).cells? = some [.fn f l]:=rfl
theorem Arp (n : Nat) : (((no_index (OfNat.ofNat n)) : Nat) : Int) = (no_index (OfNat.ofNat n) : Int):=rfl
def Lu : AV→Option Nat
 | .ref id _ => some id
 | _ => none
theorem Vs {x : AV} {id : Nat} (h : Lu x = some id) : ∃ o,x = .ref id o:=by
 unfold Lu at h
 split at h
 ·cases h;exact ⟨_,rfl⟩
 ·cases h
def Wn : Op→Option Nat
 | .load _ (.tmp p) => some p
 | .fieldAddr _ (.tmp p) _ => some p
 | _ => none
def Z9 : Op→Option Nat
 | .store _ (.tmp q) _ => some q
 | _ => none
def Sw : Op→Bool
 | .buildSlice .. => true
 | _ => false
theorem Xm {orc : Option Tmp→Orc} {ops : Array Oper} {o : Oper} {fr : List AV} {σ σ' : An} {u : AV} {q b : Nat} (hq : Z9 o.op = some q) (hb : Lu (ev fr (.tmp q)) = some b) (h : E8 E orc ops o fr σ = some (u,σ')) :
    (∀ σ2,E8 E orc ops o fr σ2 = some (u,σ2))∧σ' = σ∨∃ off xs cs,σ[b]? = some (.box cs false)∧σ' = σ.set b (.box (splice cs off xs) false)∧∀ σ2 : An,σ2[b]? = some (.box cs false)→E8 E orc ops o fr σ2 = some (u,σ2.set b (.box (splice cs off xs) false)):=by
  have hf : Gu E ops o = false:=by
    cases hf : Gu E ops o
    · rfl
    · rcases Ei hf with ⟨t,n,l,h⟩ | ⟨s,d,x,h,_⟩ <;> rw [h] at hq <;> cases hq
  have e : ∀ σ,He false σ = some:=fun σ => by funext r;simp [He]
  unfold E8 at h ⊢
  rw [hf] at h ⊢
  cases hw : Mm ops fr o with
  | none => simp [hw] at h
  | some w =>
    cases w with
    | false =>
      simp only [hw,Option.some.injEq,Prod.mk.injEq] at h ⊢
      exact .inl ⟨fun σ2 => ⟨h.1,trivial⟩,h.2.symm⟩
    | true =>
      simp only [hw,e,Bv] at h ⊢
      unfold Z9 at hq
      split at hq
      case h_2 => cases hq
      rename_i t q' x ho
      cases hq
      obtain ⟨off,hr⟩:=Vs hb
      have hop : ∀ σ,C6 E (orc o.dst) o.op fr σ = (match E.tab t with
          | some d => (storeA σ d (.ref b off) (ev fr x)).map fun σ' => (AV.junk,σ')
          | none => none):=by
        intro σ
        rw [ho]
        simp only [C6,Fh,hr]
        cases E.tab t <;> rfl
      simp only [hop] at h ⊢
      right
      cases ht : E.tab t with
      | none => simp [ht] at h
      | some d =>
        simp only [ht] at h ⊢
        rw [Option.map_eq_some_iff] at h
        obtain ⟨σ1,h,h2⟩:=h
        cases h2
        unfold storeA at h ⊢
        cases hc : (ev fr x).cells? with
        | none => simp [hc] at h
        | some xs =>
          simp only [hc] at h ⊢
          by_cases hl : xs.length≠d.size
          · simp [hl] at h
          · simp only [hl,if_false] at h ⊢
            split at h
            case h_2 => cases h
            rename_i cs hcs
            split at h
            case isFalse => cases h
            rename_i hle
            cases h
            refine ⟨off,xs,cs,hcs,rfl,fun σ2 h2 => ?_⟩
            simp [h2,hle]
theorem Fu {orc : Option Tmp→Orc} {ops : Array Oper} {o : Oper} {fr : List AV} {σ σ' σ2 : An} {v : AV} {p a : Nat} (hp : Wn o.op = some p) (ha : Lu (ev fr (.tmp p)) = some a) (h : E8 E orc ops o fr σ = some (v,σ')) (h2 : σ2[a]? = σ[a]?) :
    σ' = σ∧E8 E orc ops o fr σ2 = some (v,σ2):=by
  have hf : Gu E ops o = false:=by
    cases hf : Gu E ops o
    · rfl
    · rcases Ei hf with ⟨t,n,l,h⟩ | ⟨s,d,x,h,_⟩ <;> rw [h] at hp <;> cases hp
  have e : ∀ σ,He false σ = some:=fun σ => by funext r;simp [He]
  unfold E8 at h ⊢
  rw [hf] at h ⊢
  cases hw : Mm ops fr o with
  | none => simp [hw] at h
  | some w =>
    cases w with
    | false =>
      simp only [hw,Option.some.injEq,Prod.mk.injEq] at h ⊢
      exact ⟨h.2.symm,h.1,trivial⟩
    | true =>
      simp only [hw,e,Bv] at h ⊢
      obtain ⟨off,hr⟩:=Vs ha
      unfold Wn at hp
      split at hp
      case h_3 => cases hp
      · rename_i t p' ho
        cases hp
        rw [ho] at h ⊢
        simp only [C6,Fh,hr] at h ⊢
        cases ht : E.tab t with
        | none => simp [ht] at h
        | some d =>
          simp only [ht,loadA,h2] at h ⊢
          rw [Option.map_eq_some_iff] at h
          obtain ⟨x,h,h3⟩:=h
          cases h3
          exact ⟨rfl,by rw [h];rfl⟩
      · rename_i s p' f ho
        cases hp
        rw [ho] at h ⊢
        simp only [C6,Fh,hr] at h ⊢
        rw [Option.map_eq_some_iff] at h
        obtain ⟨x,h,h3⟩:=h
        cases h3
        refine ⟨rfl,?_⟩
        have : Bp E σ2 s (.ref a off) f = Bp E σ s (.ref a off) f:=by
          unfold Bp;rfl
        rw [this,h];rfl
theorem Aec {orc : Option Tmp→Orc} {ops : Array Oper} {o : Oper} {fr : List AV} {σ σ' : An} {v : AV} (hb : Sw o.op = true) (hf : Gu E ops o = false) (h : E8 E orc ops o fr σ = some (v,σ')) :
    (∀ σ2,E8 E orc ops o fr σ2 = some (v,σ2))∧σ' = σ∨∃ k els ro,σ' = σ ++ [.buf k els ro]∧∀ σ2 : An,σ2.length = σ.length→E8 E orc ops o fr σ2 = some (v,σ2 ++ [.buf k els ro]):=by
  have e : ∀ σ,He false σ = some:=fun σ => by funext r;simp [He]
  unfold E8 at h ⊢
  rw [hf] at h ⊢
  cases hw : Mm ops fr o with
  | none => simp [hw] at h
  | some w =>
    cases w with
    | false =>
      simp only [hw,Option.some.injEq,Prod.mk.injEq] at h ⊢
      exact .inl ⟨fun σ2 => ⟨h.1,trivial⟩,h.2.symm⟩
    | true =>
      simp only [hw,e,Bv] at h ⊢
      right
      unfold Sw at hb
      split at hb
      case h_2 => cases hb
      rename_i t n l ho
      rw [ho] at h ⊢
      simp only [C6,Fh] at h ⊢
      unfold Ds at h ⊢
      split at h
      case h_1 => cases h
      rename_i d hd
      split at h
      case h_2 => cases h
      rename_i e' he
      split at h
      case h_2 => cases h
      rename_i de hde
      split at h
      case isTrue => cases h
      rename_i hle
      split at h
      case h_2 => cases h
      rename_i els hels
      cases h
      refine ⟨_,_,_,rfl,fun σ2 h2 => ?_⟩
      simp only [hle,if_false,hels,h2]
theorem AkT {orc : Option Tmp→Orc} {ops : Array Oper} {o : Oper} {fr : List AV} {σ σ' : An} {v : AV} {s : TypeId} {p f a : Nat} (ho : o.op = .fieldAddr s (.tmp p) f) (ha : Lu (ev fr (.tmp p)) = some a) (h : E8 E orc ops o fr σ = some (v,σ')) :
    σ' = σ∧∀ σ2,E8 E orc ops o fr σ2 = some (v,σ2):=by
  have hf : Gu E ops o = false:=by
    cases hf : Gu E ops o
    · rfl
    · rcases Ei hf with ⟨t,n,l,h⟩ | ⟨s,d,x,h,_⟩ <;> rw [h] at ho <;> cases ho
  have e : ∀ σ,He false σ = some:=fun σ => by funext r;simp [He]
  unfold E8 at h ⊢
  rw [hf] at h ⊢
  cases hw : Mm ops fr o with
  | none => simp [hw] at h
  | some w =>
    cases w with
    | false =>
      simp only [hw,Option.some.injEq,Prod.mk.injEq] at h ⊢
      exact ⟨h.2.symm,fun σ2 => ⟨h.1,trivial⟩⟩
    | true =>
      simp only [hw,e,Bv] at h ⊢
      obtain ⟨off,hr⟩:=Vs ha
      rw [ho] at h ⊢
      simp only [C6,Fh,hr] at h ⊢
      rw [Option.map_eq_some_iff] at h
      obtain ⟨x,h,h3⟩:=h
      cases h3
      refine ⟨rfl,fun σ2 => ?_⟩
      have : Bp E σ2 s (.ref a off) f = Bp E σ s (.ref a off) f:=by
        unfold Bp;rfl
      rw [this,h];rfl
inductive Sep (E : Env) (orc : Option Tmp→Orc) (ops : Array Oper) (x y : Oper) (frF : List AV) : Prop
 | call (p a : Nat) (hp : Wn y.op = some p) (ha : Lu (ev frF (.tmp p)) = some a) (hx : ∀ σ σ1 v,E8 E orc ops x frF σ = some (v,σ1)→σ1[a]? = σ[a]?)
 | look (p q a b : Nat) (hp : Wn x.op = some p) (hq : Z9 y.op = some q) (ha : Lu (ev frF (.tmp p)) = some a) (hb : Lu (ev frF (.tmp q)) = some b) (hne : a≠b)
 | callY (p a : Nat) (hp : Wn x.op = some p) (ha : Lu (ev frF (.tmp p)) = some a) (hy : ∀ σ σ1 v,E8 E orc ops y frF σ = some (v,σ1)→σ1[a]? = σ[a]?)
 | fa (s : TypeId) (p f a : Nat) (ho : y.op = .fieldAddr s (.tmp p) f) (ha : Lu (ev frF (.tmp p)) = some a)
 | build (q b : Nat) (hx : Sw x.op = true) (hf : Gu E ops x = false) (hq : Z9 y.op = some q) (hb : Lu (ev frF (.tmp q)) = some b)
theorem Tk {orc : Option Tmp→Orc} {ops : Array Oper} {x y : Oper} {st st1 st2 : St} (hap : x.apart ops y = true) (hc : Sep E orc ops x y st.fr)
    (h1 : Cz E orc ops x st = some st1) (h2 : Cz E orc ops y st1 = some st2) : ∃ st3,Cz E orc ops y st = some st3∧Cz E orc ops x st3 = some st2:=by
  obtain ⟨a1,a2,a3⟩:=Oper.apart_spec hap
  unfold Cz at h1 h2 ⊢
  rw [Option.map_eq_some_iff] at h1 h2
  obtain ⟨⟨v,σ1⟩,hv,rfl⟩:=h1
  obtain ⟨⟨u,σ2⟩,hu,rfl⟩:=h2
  simp only at hu ⊢
  rw [B4 a1] at hu
  have fin : ∀ σ3,E8 E orc ops y st.fr st.σ = some (u,σ3)→E8 E orc ops x st.fr σ3 = some (v,σ2) →
      ∃ st3,(E8 E orc ops y st.fr st.σ).map (fun r => (⟨Bb st.fr y.dst r.1,r.2⟩ : St)) = some st3∧(E8 E orc ops x st3.fr st3.σ).map (fun r => (⟨Bb st3.fr x.dst r.1,r.2⟩ : St)) = some ⟨Bb (Bb st.fr x.dst v) y.dst u,σ2⟩:=by
    intro σ3 hy hx
    refine ⟨⟨Bb st.fr y.dst u,σ3⟩,by rw [hy];rfl,?_⟩
    simp only
    rw [B4 a3,hx]
    simp only [Option.map_some,Eo st.fr v u a2]
  cases hc with
  | call p a hp ha hx =>
    have h1:=hx _ _ _ hv
    obtain ⟨rfl,_⟩:=Fu hp ha hu rfl
    exact fin _ (Fu hp ha hu h1.symm).2 hv
  | fa s p f a ho ha =>
    obtain ⟨rfl,hy⟩:=AkT ho ha hu
    exact fin _ (hy _) hv
  | callY p a hp ha hy =>
    obtain ⟨rfl,_⟩:=Fu hp ha hv rfl
    exact fin _ hu (Fu hp ha hv (hy _ _ _ hu)).2
  | look p q a b hp hq ha hb hne =>
    obtain ⟨rfl,_⟩:=Fu hp ha hv rfl
    refine fin _ hu (Fu hp ha hv ?_).2
    rcases Xm hq hb hu with ⟨_,rfl⟩ | ⟨off,xs,cs,_,rfl,_⟩
    · rfl
    · exact List.getElem?_set_ne (fun h => hne h.symm)
  | build q b hx hf hq hb =>
    rcases Aec hx hf hv with ⟨hall,rfl⟩ | ⟨k,els,ro,rfl,hall⟩
    · exact fin _ hu (hall _)
    · rcases Xm hq hb hu with ⟨hs,rfl⟩ | ⟨off,xs,cs,hcs,rfl,hs⟩
      · exact fin _ (hs _) (hall _ rfl)
      · have hlt : b < st.σ.length:=by
          have:=(List.getElem?_eq_some_iff.1 hcs).1
          by_cases hb' : b < st.σ.length
          · exact hb'
          · have he : b = st.σ.length:=by simp at this;omega
            rw [he] at hcs
            simp at hcs
        have hcs' : st.σ[b]? = some (.box cs false):=by
          rw [List.getElem?_append_left hlt] at hcs
          exact hcs
        refine fin _ (hs _ hcs') ?_
        rw [hall _ (by simp),List.set_append_left _ _ hlt]
theorem P1 {orc : Option Tmp→Orc} {ops : Array Oper} {i : Nat} {y : Oper} (hi : ops[i]? = some y) {l2 : List Nat} {st' : St} : ∀ (l1 : List Nat) (st : St),
    (∀ m1 j m2,l1 = m1 ++ j :: m2→∀ x,ops[j]? = some x→O6 E ops x y = true∨x.apart ops y = true∧∀ st,Bs E orc ops ((j :: m2) ++ i :: l2) st = some st'→Sep E orc ops x y st.fr)→Bs E orc ops (l1 ++ i :: l2) st = some st' →
    ∃ st1,Cz E orc ops y st = some st1∧Bs E orc ops (l1 ++ l2) st1 = some st'
  | [],st,_,h => by
    simp only [List.nil_append,Bs,hi] at h
    rw [Option.bind_eq_some_iff] at h
    exact h
  | j :: l1,st,hc,h0 => by
    have h:=h0
    simp only [List.cons_append,Bs] at h
    cases hj : ops[j]? with
    | none => simp [hj] at h
    | some x =>
      simp only [hj] at h
      rw [Option.bind_eq_some_iff] at h
      obtain ⟨s1,h1,h⟩:=h
      obtain ⟨s2,h2,h⟩:=P1 hi l1 s1 (fun m1 k m2 e => hc (j :: m1) k m2 (by rw [e];rfl)) h
      have : ∃ st3,Cz E orc ops y st = some st3∧Cz E orc ops x st3 = some s2:=by
        rcases hc [] j l1 rfl x hj with hcb | ⟨hap,hcy⟩
        · exact Na hcb h1 h2
        · exact Tk hap (hcy st h0) h1 h2
      obtain ⟨s3,h3,h4⟩:=this
      refine ⟨s3,h3,?_⟩
      simp only [List.cons_append,Bs,hj,h4,Option.bind_some]
      exact h
def Ir (ops : Array Oper) (ts : List Nat) (ok : Nat→Bool) (t : Nat) : Bool :=
 ts.contains t && (List.range ops.size).all fun k => ok k || (match ops[k]? with
  | some o => o.dst != some t
  | none => true)
def Adg (ps : List (Nat×Nat)) (t : Nat) : Option Nat:=(ps.find? fun p => p.1 == t).map (·.2)
def Apo (e : Nat×FuncId×List AV×An×AV×An) : List (Nat×Nat)→Prop
 | [] => True
 | q :: xs => (e.1 = q.1→e.2.2.2.2.2[q.2]? = e.2.2.2.1[q.2]?)∧Apo e xs
def XOk : List (Nat×FuncId×List AV×An×AV×An)→List (Nat×Nat)→Prop
 | [],_ => True
 | e :: m,xs => Apo e xs∧XOk m xs
theorem AfQ {e : Nat×FuncId×List AV×An×AV×An} : ∀ {xs : List (Nat×Nat)},Apo e xs→∀ {a : Nat},(e.1,a) ∈ xs→e.2.2.2.2.2[a]? = e.2.2.2.1[a]?
  | q :: xs,h,a,hq => by
    rcases List.mem_cons.1 hq with hq | hq
    · have:=h.1 (by rw [← hq])
      rw [← hq] at this
      exact this
    · exact AfQ h.2 hq
theorem AgM {xs : List (Nat×Nat)} {t a : Nat} (ht : (t,a) ∈ xs) {f : FuncId} {as : List AV} {σ σ' : An} {r : AV} : ∀ {m : List (Nat×FuncId×List AV×An×AV×An)},XOk m xs→Abn m (some t) f as σ = some (r,σ')→σ'[a]? = σ[a]?
  | [],_,h => by cases h
  | e :: m,hx,h => by
    unfold Abn at h
    split at h
    · rename_i he
      split at h
      · rename_i hh
        cases he
        have:=AfQ hx.1 ht
        have hr : e.2.2.2.2 = (r,σ'):=Option.some.inj h
        rw [hr,← hh.2.2] at this
        exact this
      · cases h
    · exact AgM ht hx.2 h
theorem P2 {l : List (Nat×FuncId×List AV×AV)} {m : List (Nat×FuncId×List AV×An×AV×An)} {xs : List (Nat×Nat)} {ops : Array Oper} {o : Oper} {fr : List AV} {σ σ' : An} {v : AV} {t a : Nat} (ho : L6 E o = true) (hd : o.dst = some t) (hm : XOk m xs) (ht : (t,a) ∈ xs) (hval : E8 E (P5 l m) ops o fr σ = some (v,σ')) : σ'[a]? = σ[a]?:=by
  unfold E8 at hval
  cases hwn : Mm ops fr o with
  | none => rw [hwn] at hval;cases hval
  | some b =>
    cases b with
    | false => rw [hwn] at hval;cases hval;rfl
    | true =>
      rw [hwn] at hval
      simp only at hval
      have hfz : Gu E ops o = false:=by
        unfold L6 at ho
        unfold Gu
        split
        · split
          · rename_i ee;rw [ee] at ho;cases ho
          · rename_i ee;rw [ee] at ho;cases ho
          · rfl
        · rfl
      have hfr : He (Gu E ops o) σ = some:=by rw [hfz];funext q;simp [He]
      rw [hfr,Bv] at hval
      unfold L6 at ho
      unfold C6 at hval
      split at ho
      case h_2 => cases ho
      rename_i c ec
      simp only [ec] at hval
      split at hval
      · rename_i bi eb
        unfold Yv at ho
        rw [eb] at ho;cases ho
      · rw [if_pos ho] at hval
        unfold Ai8 at hval
        split at hval
        case h_2 => cases hval
        split at hval
        case h_2 => cases hval
        rw [hd] at hval
        exact AgM ht hm hval
def An9 (E : Env) (ops : Array Oper) (T : List (List Nat)) (ps xs : List (Nat×Nat)) (ts : List Nat) (i : Nat) (x y : Oper) : Bool :=
 match Wn y.op,x.dst with
 | some p,some t => match Adg ps p with
  | none => false
  | some a => Ir ops ts (fun k => (T.getD i []).contains k && decide (k < i)) p && L6 E x && xs.contains (t,a)
 | _,_ => false
def Aoa (E : Env) (ops : Array Oper) (ps xs : List (Nat×Nat)) (ts : List Nat) (j : Nat) (x y : Oper) : Bool :=
 match Wn x.op,y.dst with
 | some p,some t => match Adg ps p with
  | none => false
  | some a => Ir ops ts (fun k => decide (k < j)) p && L6 E y && xs.contains (t,a)
 | _,_ => false
def An0 (E : Env) (ops : Array Oper) (T : List (List Nat)) (ps : List (Nat×Nat)) (ts : List Nat) (j i : Nat) (x y : Oper) : Bool :=
 match Z9 y.op with
 | none => false
 | some q => match Adg ps q with
  | none => false
  | some b => Ir ops ts (fun k => (T.getD i []).contains k && decide (k < i)) q && ((Sw x.op && !Gu E ops x) || (match Wn x.op with
   | none => false
   | some p => match Adg ps p with
    | none => false
    | some a => a != b && Ir ops ts (fun k => decide (k < j)) p))
def Aoc (ops : Array Oper) (T : List (List Nat)) (ps : List (Nat×Nat)) (ts : List Nat) (i : Nat) (y : Oper) : Bool :=
 match y.op with
 | .fieldAddr _ (.tmp p) _ => match Adg ps p with
  | none => false
  | some _ => Ir ops ts (fun k => (T.getD i []).contains k && decide (k < i)) p
 | _ => false
def Af7 (E : Env) (ops : Array Oper) (T : List (List Nat)) (ps xs : List (Nat×Nat)) (ts : List Nat) : Bool :=
 (List.range ops.size).all fun i => (List.range i).all fun j => (T.getD i []).contains j || (match ops[j]?,ops[i]? with
  | some x,some y => O6 E ops x y || (x.apart ops y && (An0 E ops T ps ts j i x y || An9 E ops T ps xs ts i x y || Aoc ops T ps ts i y || Aoa E ops ps xs ts j x y))
  | _,_ => false)
def Ael (n : Nat) (fr : Fr) : List (Nat×Nat)→Prop
 | [] => True
 | p :: ps => Lu (evL n fr (.tmp p.1)) = some p.2∧Ael n fr ps
theorem X4 {n : Nat} {fr : Fr} : ∀ {ps : List (Nat×Nat)} {t a : Nat},Ael n fr ps→Adg ps t = some a→Lu (evL n fr (.tmp t)) = some a
  | [],t,a,_,h => by cases h
  | p :: ps,t,a,hr,h => by
    unfold Adg at h
    rw [List.find?_cons] at h
    by_cases e : (p.1 == t) = true
    · simp only [e] at h
      cases h
      rw [← eq_of_beq e]
      exact hr.1
    · simp only [e] at h
      exact X4 hr.2 h
end Go.Rv
