/-
  Part 21.
-/
import Derived.Test.YtnfoiocigicdnaaGreatDoorYA20
namespace Go.Rv
set_option linter.unusedVariables false
set_option linter.unusedSimpArgs false
variable {E : Env}
theorem Ej (hE : E.Ok) {m n id : Nat} {l : List Oper} {fr fr' : Fr} {σ σ' : Ad} {K : D4} (ts : List Nat) (h : ∃ orc, Pg E.toBase orc ∧ Nz E orc false n l ts (fr, σ) = some (fr', σ'))
    {y : Code} (hk : Run E m y ⟨As n fr', σ'⟩ K) : Run E m (.seq (.region id l.toArray false) y) ⟨As n fr, σ⟩ K := by
  obtain ⟨orc, hO, h⟩ := h
  exact Zd hE hO ts h hk
theorem Vf (hE : E.Ok) (hP : E.P.follows .mixedOrders = true) {m n id : Nat} {l : List Oper} (T : List (List Nat)) (hok1 : Li l.toArray T = true) (hok2 : Lq E l.toArray T = true) {fr fr' : Fr} {σ σ' : Ad} {K : D4} (ts : List Nat)
    (h : ∃ orc, Pg E.toBase orc ∧ Nz E orc true n l ts (fr, σ) = some (fr', σ')) {y : Code} (hk : Run E m y ⟨As n fr', σ'⟩ K) : Run E m (.seq (.region id l.toArray true) y) ⟨As n fr, σ⟩ K := by
  obtain ⟨orc, hO, h⟩ := h
  exact Zb hE hO hP T hok1 hok2 ts h hk
def Uj (E : Env) (n : Nat) (K : D4) : Prop := ∀ st st', Weak E n st st' → K .normal st' → K .normal st
theorem Oy {n : Nat} {y : Code} {K : D4} : Uj E n (Ur E n y K) := fun st st' h k => E8 h k
theorem Dy {n : Nat} {V : Type} {S : V → St} {J : V → Prop} {K : D4} : Uj E n (P5 E n S J K) := fun st st' h k => by
  obtain ⟨v, hv, hw⟩ := k
  exact ⟨v, hv, h.trans hw⟩
theorem AcN {n : Nat} {V X : Type} {S : V → St} {o : V ⊕ X} {K : D4} : Uj E n (lpK E n S o K) := fun st st' h k => by
  obtain ⟨v, hv, hw⟩ := k
  exact ⟨v, hv, h.trans hw⟩
theorem Cr {n i : Nat} {K : D4} (h : Uj E n K) : Uj E n (Ip i K) := h
theorem N1 {n : Nat} {K : D4} (h : Uj E n K) : Uj E n (Ahu K) := h
theorem Mi (hE : E.Ok) {m n id : Nat} {l : List Oper} {fr fr' : Fr} {σ σ' : Ad} {K : D4} (hw : Uj E m K) (ts : List Nat) (h : ∃ orc, Pg E.toBase orc ∧ Nz E orc false n l ts (fr, σ) = some (fr', σ'))
    (hk : K .normal ⟨As n fr', σ'⟩) : Run E m (.region id l.toArray false) ⟨As n fr, σ⟩ K := by
  obtain ⟨orc, hO, h⟩ := h
  simp only [Nz, Option.bind_eq_some_iff, Option.some.injEq, Prod.mk.injEq] at h
  obtain ⟨⟨fr1, σ1⟩, h1, rfl, rfl⟩ := h
  exact Aa7 hE hO h1 (hw _ _ (Hq _ _ _ _ _) hk)
theorem Zj (hE : E.Ok) (hP : E.P.follows .mixedOrders = true) {m n id : Nat} {l : List Oper} (T : List (List Nat)) (hok1 : Li l.toArray T = true) (hok2 : Lq E l.toArray T = true) {fr fr' : Fr} {σ σ' : Ad} {K : D4} (hw : Uj E m K) (ts : List Nat)
    (h : ∃ orc, Pg E.toBase orc ∧ Nz E orc true n l ts (fr, σ) = some (fr', σ')) (hk : K .normal ⟨As n fr', σ'⟩) : Run E m (.region id l.toArray true) ⟨As n fr, σ⟩ K := by
  obtain ⟨orc, hO, h⟩ := h
  simp only [Nz, Option.bind_eq_some_iff, Option.some.injEq, Prod.mk.injEq] at h
  obtain ⟨⟨fr1, σ1⟩, h1, rfl, rfl⟩ := h
  exact AbI hE hO hP T hok1 hok2 h1 (hw _ _ (Hq _ _ _ _ _) hk)
section
variable {l : List AV} {f : Bool} {els : List (List AV)} {a b c d : Nat}
theorem Ahr (x : Int) : (i64 x).scalar = true := rfl
theorem AhI (x : Int) : (i64 x).flatAgg = true := rfl
theorem Ajx (x : Int) : (i64 x).flat = true := rfl
theorem Aiy (x : Int) : Bu (i64 x) = [] := rfl
theorem Aho (x : Int) : Bu (.agg (i64 x :: l)) = Bu (.agg l) := rfl
theorem AkF (x : UInt8) : (u8 x).scalar = true := rfl
theorem Ak1 (x : UInt8) : (u8 x).flatAgg = true := rfl
theorem AkC (x : UInt8) : (u8 x).flat = true := rfl
theorem AlD (x : UInt8) : Bu (u8 x) = [] := rfl
theorem Aln (x : UInt8) : Bu (.agg (u8 x :: l)) = Bu (.agg l) := rfl
theorem Ais (x : UInt16) : (u16 x).scalar = true := rfl
theorem Aig (x : UInt16) : (u16 x).flatAgg = true := rfl
theorem Ah3 (x : UInt16) : (u16 x).flat = true := rfl
theorem AiW (x : UInt16) : Bu (u16 x) = [] := rfl
theorem Ag4 (x : UInt16) : Bu (.agg (u16 x :: l)) = Bu (.agg l) := rfl
theorem Ajd (x : UInt32) : (u32 x).scalar = true := rfl
theorem Aic (x : UInt32) : (u32 x).flatAgg = true := rfl
theorem Ahj (x : UInt32) : (u32 x).flat = true := rfl
theorem AjD (x : UInt32) : Bu (u32 x) = [] := rfl
theorem Ajm (x : UInt32) : Bu (.agg (u32 x :: l)) = Bu (.agg l) := rfl
theorem AgI (x : UInt64) : (u64 x).scalar = true := rfl
theorem Aja (x : UInt64) : (u64 x).flatAgg = true := rfl
theorem Aiv (x : UInt64) : (u64 x).flat = true := rfl
theorem AiJ (x : UInt64) : Bu (u64 x) = [] := rfl
theorem Ag5 (x : UInt64) : Bu (.agg (u64 x :: l)) = Bu (.agg l) := rfl
theorem Af0 (x : Bool) : (AV.bool x).scalar = true := rfl
theorem Afl (x : Bool) : (AV.bool x).flatAgg = true := rfl
theorem Afq (x : Bool) : (AV.bool x).flat = true := rfl
theorem Afd (x : Bool) : Bu (AV.bool x) = [] := rfl
theorem AeU (x : Bool) : Bu (.agg (AV.bool x :: l)) = Bu (.agg l) := rfl
theorem Aix (x : List UInt8) : (AV.str x).scalar = true := rfl
theorem Aiz (x : List UInt8) : (AV.str x).flatAgg = true := rfl
theorem AgF (x : List UInt8) : (AV.str x).flat = true := rfl
theorem Ajc (x : List UInt8) : Bu (AV.str x) = [] := rfl
theorem AgK (x : List UInt8) : Bu (.agg (AV.str x :: l)) = Bu (.agg l) := rfl
theorem Aks : (AV.sl f els).scalar = false := rfl
theorem Alk : (AV.bs f a b c d).scalar = false := rfl
theorem AiP : (AV.agg l).scalar = l.all AV.flat := rfl
theorem Aiu : (AV.tup l).scalar = l.all AV.flatAgg := rfl
theorem AkK : (AV.sl f els).flatAgg = false := rfl
theorem Aj4 : (AV.bs f a b c d).flatAgg = false := rfl
theorem Ajv : (AV.agg l).flatAgg = l.all AV.flat := rfl
theorem Akw : (AV.sl f els).flat = false := rfl
theorem Al6 : (AV.bs f a b c d).flat = false := rfl
theorem Ak6 : Bu (.sl f els) = [] := rfl
theorem AkZ : Bu (.bs f a b c d) = [a] := rfl
theorem Akq {g : FuncId} : Bu (.fn g l) = [] := rfl
theorem Ajt : Bu (.ref a b) = [] := rfl
theorem AeW : Bu (.tref a b) = [] := rfl
theorem Agh : Bu (.nref a) = [] := rfl
theorem Agy : Bu (.mref a) = [] := rfl
theorem Aio : Bu (.tup l) = [] := rfl
theorem AeR : Bu .junk = [] := rfl
theorem AhN : Bu (.agg []) = [] := rfl
theorem AlK : Bu (.agg (.sl f els :: l)) = Bu (.agg l) := rfl
theorem AlI : Bu (.agg (.bs f a b c d :: l)) = a :: Bu (.agg l) := rfl
end
theorem He {m n : Nat} (h : InR (m : Int) n) : m < n := by have := h.2; simpa using this
attribute [go_sem] Agh Agy AeW Ahr AhI Ajx Aiy Aho AkF Ak1 AkC AlD Aln Ais Aig Ah3 AiW Ag4 Ajd Aic Ahj AjD Ajm AgI Aja Aiv AiJ Ag5 Af0 Afl Afq Afd AeU Aix Aiz AgF Ajc AgK Aks Alk AiP Aiu AkK Aj4 Ajv Akw Al6 Ak6 AkZ Akq Ajt Aio AeR AhN AlK AlI
section
variable {sel : List Nat}
theorem AeZ {a : Int} : wk1 sel (i64 a) (i64 a) = True := by simp [wk1, wk0, i64, AV.closed]
theorem Ajh {a : UInt8} : wk1 sel (u8 a) (u8 a) = True := by simp [wk1, wk0, u8, AV.closed]
theorem Af5 {a : UInt64} : wk1 sel (u64 a) (u64 a) = True := by simp [wk1, wk0, u64, AV.closed]
theorem Ac0 {a : Bool} : wk1 sel (.bool a) (.bool a) = True := by simp [wk1, wk0, AV.closed]
theorem Ae4 {a : List UInt8} : wk1 sel (.str a) (.str a) = True := by simp [wk1, wk0, AV.closed]
theorem AiH {f : FuncId} : wk1 sel (.fn f []) (.fn f []) = True := by simp [wk1, wk0, AV.closed]
theorem Ai7 {f f' : Bool} {a b : List (List AV)} : wk1 sel (.sl f a) (.sl f' b) = ((f' = true → f = true) ∧ a = b) := rfl
theorem Aij {f f' : Bool} {i t o l i' t' o' l' : Nat} : wk1 sel (.bs f i t o l) (.bs f' i' t' o' l') = (sel[i']? = some i ∧ (f' = true → f = true) ∧ t = t' ∧ o = o' ∧ l = l') := rfl
theorem Aea {i i' : Nat} : wk1 sel (.mref i) (.mref i') = (sel[i']? = some i) := rfl
theorem Ac1 {i i' : Nat} : wk0 sel (.mref i) (.mref i') = (sel[i']? = some i) := rfl
theorem Adt {i i' : Nat} : wk1 sel (.nref i) (.nref i') = (sel[i']? = some i) := rfl
theorem Adx {i i' : Nat} : wk0 sel (.nref i) (.nref i') = (sel[i']? = some i) := rfl
theorem AdH {i o i' o' : Nat} : wk1 sel (.tref i o) (.tref i' o') = (sel[i']? = some i ∧ o = o') := rfl
theorem AcQ {i o i' o' : Nat} : wk0 sel (.tref i o) (.tref i' o') = (sel[i']? = some i ∧ o = o') := rfl
theorem Af1 {i o i' o' : Nat} : wk1 sel (.ref i o) (.ref i' o') = (sel[i']? = some i ∧ o = o') := rfl
theorem AfT {a b : List AV} : wk1 sel (.agg a) (.agg b) = wkL sel a b := rfl
theorem Af6 {a b : List AV} : wk1 sel (.tup a) (.tup b) = wkL sel a b := rfl
theorem Afj {a : Int} : wk0 sel (i64 a) (i64 a) = True := by simp [wk0, i64, AV.closed]
theorem AdR {a : Bool} : wk0 sel (.bool a) (.bool a) = True := by simp [wk0, AV.closed]
theorem Agk {a : List UInt8} : wk0 sel (.str a) (.str a) = True := by simp [wk0, AV.closed]
theorem Abj {f : FuncId} {i t i' : Nat} : wk0 sel (.fn f [.tref i t]) (.fn f [.tref i' t]) = (sel[i']? = some i) := by
  refine propext ⟨fun h => ?_, fun h => .inr ⟨rfl, ⟨h, rfl⟩, trivial⟩⟩
  rcases h with ⟨_, h⟩ | ⟨_, ⟨h, _⟩, _⟩
  · simp [AV.closed] at h
  · exact h
theorem Afm {f : FuncId} {i t i' : Nat} : wk1 sel (.fn f [.tref i t]) (.fn f [.tref i' t]) = (sel[i']? = some i) := Abj
theorem AhY {f f' : Bool} {a b : List (List AV)} : wk0 sel (.sl f a) (.sl f' b) = ((f' = true → f = true) ∧ a = b) := rfl
theorem AhR {f f' : Bool} {i t o l i' t' o' l' : Nat} : wk0 sel (.bs f i t o l) (.bs f' i' t' o' l') = (sel[i']? = some i ∧ (f' = true → f = true) ∧ t = t' ∧ o = o' ∧ l = l') := rfl
theorem Afs {i o i' o' : Nat} : wk0 sel (.ref i o) (.ref i' o') = (sel[i']? = some i ∧ o = o') := rfl
theorem Acx {cs cs' : List AV} {ro ro' : Bool} : AaG sel (.box cs ro) (.box cs' ro') = (ro = ro' ∧ wkL sel cs cs') := rfl
theorem Abz {k k' : Nat} {els els' : List (List AV)} {ro ro' : Bool} : AaG sel (.buf k els ro) (.buf k' els' ro') = (k = k' ∧ ro = ro' ∧ els = els' ∧ Bv els' = true) := rfl
end
def Kj (E : Env) (t : TypeId) : Bool := match E.tab t with
  | some d => match d.desc with
    | .slice e => match E.tab e with
      | some de => match de.desc with
        | .int .u8 => true
        | _ => false
      | none => false
    | _ => false
  | none => false
def Xx (E : Env) (t : TypeId) : Bool := match E.tab t with
  | some d => match d.desc with
    | .string => true
    | _ => false
  | none => false
theorem Ka {σ : Ad} {s d : TypeId} {x : AV} (hx : (∃ f els, x = .sl f els) ∨ (∃ f i t o l, x = .bs f i t o l)) (hs : Kj E s = true) (hd : Xx E d = true) : A8 E σ s d x = match Ft σ x with
    | some els => match bytesOf els with
      | some l => some (.str l, σ)
      | none => none
    | none => none := by
  unfold Kj at hs
  unfold Xx at hd
  split at hs <;> try cases hs
  rename_i sd hsd
  split at hs <;> try cases hs
  rename_i e he
  split at hs <;> try cases hs
  rename_i de hde
  split at hs <;> try cases hs
  rename_i hu
  split at hd <;> try cases hd
  rename_i dd hdd
  split at hd <;> try cases hd
  rename_i hstr
  unfold A8
  rcases hx with ⟨f, els, rfl⟩ | ⟨f, i, t, o, l, rfl⟩
  · simp only [hsd, hdd, he, hstr, hde, hu, Gt]
    cases Ft σ (.sl f els) <;> rfl
  · simp only [hsd, hdd, he, hstr, hde, hu, Gt]
    cases Ft σ (.bs f i t o l) <;> rfl
theorem Xf {σ : Ad} {s d : TypeId} {f : Bool} {els : List (List AV)} (hs : Kj E s = true) (hd : Xx E d = true) : A8 E σ s d (.sl f els) = match Ft σ (.sl f els) with
    | some els => match bytesOf els with
      | some l => some (.str l, σ)
      | none => none
    | none => none := Ka (.inl ⟨_, _, rfl⟩) hs hd
theorem Vv {σ : Ad} {s d : TypeId} {f : Bool} {i t o l : Nat} (hs : Kj E s = true) (hd : Xx E d = true) : A8 E σ s d (.bs f i t o l) = match Ft σ (.bs f i t o l) with
    | some els => match bytesOf els with
      | some l => some (.str l, σ)
      | none => none
    | none => none := Ka (.inr ⟨_, _, _, _, _, rfl⟩) hs hd
theorem Qb {σ : Ad} {s d : TypeId} {l : List UInt8} (hs : Xx E s = true) (hd : Kj E d = true) : A8 E σ s d (.str l) = some (.bs false σ.length l.length 0 l.length, σ ++ [.buf 1 (L cU8 l) false]) := by
  unfold Kj at hd
  unfold Xx at hs
  split at hd <;> try cases hd
  rename_i sd hsd
  split at hd <;> try cases hd
  rename_i e he
  split at hd <;> try cases hd
  rename_i de hde
  split at hd <;> try cases hd
  rename_i hu
  split at hs <;> try cases hs
  rename_i dd hdd
  unfold A8
  simp only [hsd, hdd, he, hde, hu]
  rfl
theorem ob_s {a b : Bool} : (some a == some b) = (a == b) := rfl
theorem ob_n {b : Bool} : ((none : Option Bool) == some b) = false := rfl
attribute [go_sem] ob_s ob_n
attribute [go_sem] Abj Afm Adt Adx Aea Ac1 AdH AcQ AeZ Ajh Af5 Ac0 Ae4 AiH Ai7 Aij Af1 AfT Af6 Afj AdR Agk AhY AhR Afs Acx Abz Y6 wkL Ahg Xf Vv Qb Kj Xx
attribute [go_sem] List.getElem?_cons_zero List.getElem?_cons_succ List.set_cons_zero List.set_cons_succ List.length_cons List.length_nil List.cons_append List.nil_append List.append_nil List.map_cons List.map_nil List.flatMap_cons List.flatMap_nil List.all_cons List.all_nil List.drop_zero List.drop_succ_cons List.drop_nil List.take_zero List.take_succ_cons List.take_nil List.length_append List.length_set List.length_replicate List.take_length List.replicate_zero List.replicate_succ Option.map_some Option.map_none Option.bind_some Option.bind_none Option.isSome_some Option.getD_some Option.some.injEq Prod.mk.injEq Bool.true_and Bool.false_and Bool.and_true Bool.and_false Bool.and_self Bool.not_true Bool.not_false Bool.true_or Bool.false_or and_true true_and and_self and_false false_and or_true true_or or_false false_or implies_true not_true_eq_false not_false_eq_true ne_eq imp_self false_imp_iff decide_true decide_false Bool.false_eq_true Nat.zero_add Nat.add_zero Nat.sub_zero Nat.mul_one eq_self List.cons_ne_nil reduceCtorEq beq_self_eq_true List.mem_cons List.not_mem_nil forall_eq_or_imp forall_eq
end Go.Rv
