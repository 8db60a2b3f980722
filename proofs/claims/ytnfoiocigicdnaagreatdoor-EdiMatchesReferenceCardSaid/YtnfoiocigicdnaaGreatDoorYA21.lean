/-
  Part 21.
-/
import Derived.Test.YtnfoiocigicdnaaGreatDoorYA20
namespace Go.Rv
set_option linter.unusedVariables false
set_option linter.unusedSimpArgs false
variable {E : Env}
theorem Em (hE : E.Ok) {m n id : Nat} {l : List Oper} {fr fr' : Fr} {σ σ' : Ad} {K : D4} (ts : List Nat) (h : ∃ orc, Pn E.toBase orc ∧ Nv E orc false n l ts (fr, σ) = some (fr', σ'))
    {y : Code} (hk : Run E m y ⟨As n fr', σ'⟩ K) : Run E m (.seq (.region id l.toArray false) y) ⟨As n fr, σ⟩ K := by
  obtain ⟨orc, hO, h⟩ := h
  exact Yv hE hO ts h hk
theorem Ue (hE : E.Ok) (hP : E.P.follows .mixedOrders = true) {m n id : Nat} {l : List Oper} (T : List (List Nat)) (hok1 : Lu l.toArray T = true) (hok2 : Le E l.toArray T = true) {fr fr' : Fr} {σ σ' : Ad} {K : D4} (ts : List Nat)
    (h : ∃ orc, Pn E.toBase orc ∧ Nv E orc true n l ts (fr, σ) = some (fr', σ')) {y : Code} (hk : Run E m y ⟨As n fr', σ'⟩ K) : Run E m (.seq (.region id l.toArray true) y) ⟨As n fr, σ⟩ K := by
  obtain ⟨orc, hO, h⟩ := h
  exact Yj hE hO hP T hok1 hok2 ts h hk
def T1 (E : Env) (n : Nat) (K : D4) : Prop := ∀ st st', Weak E n st st' → K .normal st' → K .normal st
theorem Og {n : Nat} {y : Code} {K : D4} : T1 E n (T2 E n y K) := fun st st' h k => E7 h k
theorem Dy {n : Nat} {V : Type} {S : V → St} {J : V → Prop} {K : D4} : T1 E n (Qe E n S J K) := fun st st' h k => by
  obtain ⟨v, hv, hw⟩ := k
  exact ⟨v, hv, h.trans hw⟩
theorem Ad1 {n : Nat} {V X : Type} {S : V → St} {o : V ⊕ X} {K : D4} : T1 E n (lpK E n S o K) := fun st st' h k => by
  obtain ⟨v, hv, hw⟩ := k
  exact ⟨v, hv, h.trans hw⟩
theorem Cr {n i : Nat} {K : D4} (h : T1 E n K) : T1 E n (Io i K) := h
theorem Ny {n : Nat} {K : D4} (h : T1 E n K) : T1 E n (Ahg K) := h
theorem Mm (hE : E.Ok) {m n id : Nat} {l : List Oper} {fr fr' : Fr} {σ σ' : Ad} {K : D4} (hw : T1 E m K) (ts : List Nat) (h : ∃ orc, Pn E.toBase orc ∧ Nv E orc false n l ts (fr, σ) = some (fr', σ'))
    (hk : K .normal ⟨As n fr', σ'⟩) : Run E m (.region id l.toArray false) ⟨As n fr, σ⟩ K := by
  obtain ⟨orc, hO, h⟩ := h
  simp only [Nv, Option.bind_eq_some_iff, Option.some.injEq, Prod.mk.injEq] at h
  obtain ⟨⟨fr1, σ1⟩, h1, rfl, rfl⟩ := h
  exact Aci hE hO h1 (hw _ _ (Hx _ _ _ _ _) hk)
theorem AaQ (hE : E.Ok) (hP : E.P.follows .mixedOrders = true) {m n id : Nat} {l : List Oper} (T : List (List Nat)) (hok1 : Lu l.toArray T = true) (hok2 : Le E l.toArray T = true) {fr fr' : Fr} {σ σ' : Ad} {K : D4} (hw : T1 E m K) (ts : List Nat)
    (h : ∃ orc, Pn E.toBase orc ∧ Nv E orc true n l ts (fr, σ) = some (fr', σ')) (hk : K .normal ⟨As n fr', σ'⟩) : Run E m (.region id l.toArray true) ⟨As n fr, σ⟩ K := by
  obtain ⟨orc, hO, h⟩ := h
  simp only [Nv, Option.bind_eq_some_iff, Option.some.injEq, Prod.mk.injEq] at h
  obtain ⟨⟨fr1, σ1⟩, h1, rfl, rfl⟩ := h
  exact AbZ hE hO hP T hok1 hok2 h1 (hw _ _ (Hx _ _ _ _ _) hk)
section
variable {l : List AV} {f : Bool} {els : List (List AV)} {a b c d : Nat}
theorem Aiv (x : Int) : (i64 x).scalar = true := rfl
theorem AiJ (x : Int) : (i64 x).flatAgg = true := rfl
theorem Ajh (x : Int) : (i64 x).flat = true := rfl
theorem AiD (x : Int) : Bu (i64 x) = [] := rfl
theorem AgV (x : Int) : Bu (.agg (i64 x :: l)) = Bu (.agg l) := rfl
theorem Akb (x : UInt8) : (u8 x).scalar = true := rfl
theorem AkA (x : UInt8) : (u8 x).flatAgg = true := rfl
theorem Amd (x : UInt8) : (u8 x).flat = true := rfl
theorem Akx (x : UInt8) : Bu (u8 x) = [] := rfl
theorem Ak3 (x : UInt8) : Bu (.agg (u8 x :: l)) = Bu (.agg l) := rfl
theorem AhM (x : UInt16) : (u16 x).scalar = true := rfl
theorem AhU (x : UInt16) : (u16 x).flatAgg = true := rfl
theorem Aib (x : UInt16) : (u16 x).flat = true := rfl
theorem Aho (x : UInt16) : Bu (u16 x) = [] := rfl
theorem Aiz (x : UInt16) : Bu (.agg (u16 x :: l)) = Bu (.agg l) := rfl
theorem Ahb (x : UInt32) : (u32 x).scalar = true := rfl
theorem Ahj (x : UInt32) : (u32 x).flatAgg = true := rfl
theorem Ah2 (x : UInt32) : (u32 x).flat = true := rfl
theorem Ag2 (x : UInt32) : Bu (u32 x) = [] := rfl
theorem Aiu (x : UInt32) : Bu (.agg (u32 x :: l)) = Bu (.agg l) := rfl
theorem AhP (x : UInt64) : (u64 x).scalar = true := rfl
theorem AiQ (x : UInt64) : (u64 x).flatAgg = true := rfl
theorem Ajq (x : UInt64) : (u64 x).flat = true := rfl
theorem AgU (x : UInt64) : Bu (u64 x) = [] := rfl
theorem AhI (x : UInt64) : Bu (.agg (u64 x :: l)) = Bu (.agg l) := rfl
theorem AeS (x : Bool) : (AV.bool x).scalar = true := rfl
theorem AfZ (x : Bool) : (AV.bool x).flatAgg = true := rfl
theorem Agm (x : Bool) : (AV.bool x).flat = true := rfl
theorem Ae6 (x : Bool) : Bu (AV.bool x) = [] := rfl
theorem AfQ (x : Bool) : Bu (.agg (AV.bool x :: l)) = Bu (.agg l) := rfl
theorem AjG (x : List UInt8) : (AV.str x).scalar = true := rfl
theorem Aif (x : List UInt8) : (AV.str x).flatAgg = true := rfl
theorem Ajc (x : List UInt8) : (AV.str x).flat = true := rfl
theorem AhJ (x : List UInt8) : Bu (AV.str x) = [] := rfl
theorem Ajo (x : List UInt8) : Bu (.agg (AV.str x :: l)) = Bu (.agg l) := rfl
theorem AkG : (AV.sl f els).scalar = false := rfl
theorem Akn : (AV.bs f a b c d).scalar = false := rfl
theorem AgO : (AV.agg l).scalar = l.all AV.flat := rfl
theorem Ai8 : (AV.tup l).scalar = l.all AV.flatAgg := rfl
theorem AlQ : (AV.sl f els).flatAgg = false := rfl
theorem Alf : (AV.bs f a b c d).flatAgg = false := rfl
theorem AhE : (AV.agg l).flatAgg = l.all AV.flat := rfl
theorem Akm : (AV.sl f els).flat = false := rfl
theorem Alc : (AV.bs f a b c d).flat = false := rfl
theorem Alv : Bu (.sl f els) = [] := rfl
theorem Akw : Bu (.bs f a b c d) = [a] := rfl
theorem Aj5 {g : FuncId} : Bu (.fn g l) = [] := rfl
theorem Aip : Bu (.ref a b) = [] := rfl
theorem AeT : Bu (.tref a b) = [] := rfl
theorem Agf : Bu (.nref a) = [] := rfl
theorem AfW : Bu (.mref a) = [] := rfl
theorem AhT : Bu (.tup l) = [] := rfl
theorem AfH : Bu .junk = [] := rfl
theorem Aia : Bu (.agg []) = [] := rfl
theorem AjY : Bu (.agg (.sl f els :: l)) = Bu (.agg l) := rfl
theorem AkE : Bu (.agg (.bs f a b c d :: l)) = a :: Bu (.agg l) := rfl
end
theorem Hi {m n : Nat} (h : InR (m : Int) n) : m < n := by have := h.2; simpa using this
attribute [go_sem] Agf AfW AeT Aiv AiJ Ajh AiD AgV Akb AkA Amd Akx Ak3 AhM AhU Aib Aho Aiz Ahb Ahj Ah2 Ag2 Aiu AhP AiQ Ajq AgU AhI AeS AfZ Agm Ae6 AfQ AjG Aif Ajc AhJ Ajo AkG Akn AgO Ai8 AlQ Alf AhE Akm Alc Alv Akw Aj5 Aip AhT AfH Aia AjY AkE
section
variable {sel : List Nat}
theorem AeX {a : Int} : wk1 sel (i64 a) (i64 a) = True := by simp [wk1, wk0, i64, AV.closed]
theorem Ai9 {a : UInt8} : wk1 sel (u8 a) (u8 a) = True := by simp [wk1, wk0, u8, AV.closed]
theorem AfP {a : UInt64} : wk1 sel (u64 a) (u64 a) = True := by simp [wk1, wk0, u64, AV.closed]
theorem Aeb {a : Bool} : wk1 sel (.bool a) (.bool a) = True := by simp [wk1, wk0, AV.closed]
theorem Agj {a : List UInt8} : wk1 sel (.str a) (.str a) = True := by simp [wk1, wk0, AV.closed]
theorem Aii {f : FuncId} : wk1 sel (.fn f []) (.fn f []) = True := by simp [wk1, wk0, AV.closed]
theorem AjC {f f' : Bool} {a b : List (List AV)} : wk1 sel (.sl f a) (.sl f' b) = ((f' = true → f = true) ∧ a = b) := rfl
theorem AgY {f f' : Bool} {i t o l i' t' o' l' : Nat} : wk1 sel (.bs f i t o l) (.bs f' i' t' o' l') = (sel[i']? = some i ∧ (f' = true → f = true) ∧ t = t' ∧ o = o' ∧ l = l') := rfl
theorem Aec {i i' : Nat} : wk1 sel (.mref i) (.mref i') = (sel[i']? = some i) := rfl
theorem Aed {i i' : Nat} : wk0 sel (.mref i) (.mref i') = (sel[i']? = some i) := rfl
theorem AdC {i i' : Nat} : wk1 sel (.nref i) (.nref i') = (sel[i']? = some i) := rfl
theorem Ads {i i' : Nat} : wk0 sel (.nref i) (.nref i') = (sel[i']? = some i) := rfl
theorem Ac3 {i o i' o' : Nat} : wk1 sel (.tref i o) (.tref i' o') = (sel[i']? = some i ∧ o = o') := rfl
theorem AdE {i o i' o' : Nat} : wk0 sel (.tref i o) (.tref i' o') = (sel[i']? = some i ∧ o = o') := rfl
theorem Afp {i o i' o' : Nat} : wk1 sel (.ref i o) (.ref i' o') = (sel[i']? = some i ∧ o = o') := rfl
theorem AeK {a b : List AV} : wk1 sel (.agg a) (.agg b) = wkL sel a b := rfl
theorem Afw {a b : List AV} : wk1 sel (.tup a) (.tup b) = wkL sel a b := rfl
theorem Af1 {a : Int} : wk0 sel (i64 a) (i64 a) = True := by simp [wk0, i64, AV.closed]
theorem Ac2 {a : Bool} : wk0 sel (.bool a) (.bool a) = True := by simp [wk0, AV.closed]
theorem Afq {a : List UInt8} : wk0 sel (.str a) (.str a) = True := by simp [wk0, AV.closed]
theorem Acs {f : FuncId} {i t i' : Nat} : wk0 sel (.fn f [.tref i t]) (.fn f [.tref i' t]) = (sel[i']? = some i) := by
  refine propext ⟨fun h => ?_, fun h => .inr ⟨rfl, ⟨h, rfl⟩, trivial⟩⟩
  rcases h with ⟨_, h⟩ | ⟨_, ⟨h, _⟩, _⟩
  · simp [AV.closed] at h
  · exact h
theorem AeJ {f : FuncId} {i t i' : Nat} : wk1 sel (.fn f [.tref i t]) (.fn f [.tref i' t]) = (sel[i']? = some i) := Acs
theorem AgX {f f' : Bool} {a b : List (List AV)} : wk0 sel (.sl f a) (.sl f' b) = ((f' = true → f = true) ∧ a = b) := rfl
theorem Aid {f f' : Bool} {i t o l i' t' o' l' : Nat} : wk0 sel (.bs f i t o l) (.bs f' i' t' o' l') = (sel[i']? = some i ∧ (f' = true → f = true) ∧ t = t' ∧ o = o' ∧ l = l') := rfl
theorem Afy {i o i' o' : Nat} : wk0 sel (.ref i o) (.ref i' o') = (sel[i']? = some i ∧ o = o') := rfl
theorem AcE {cs cs' : List AV} {ro ro' : Bool} : Aag sel (.box cs ro) (.box cs' ro') = (ro = ro' ∧ wkL sel cs cs') := rfl
theorem Aa3 {k k' : Nat} {els els' : List (List AV)} {ro ro' : Bool} : Aag sel (.buf k els ro) (.buf k' els' ro') = (k = k' ∧ ro = ro' ∧ els = els' ∧ Bv els' = true) := rfl
end
def Kn (E : Env) (t : TypeId) : Bool := match E.tab t with
  | some d => match d.desc with
    | .slice e => match E.tab e with
      | some de => match de.desc with
        | .int .u8 => true
        | _ => false
      | none => false
    | _ => false
  | none => false
def Vo (E : Env) (t : TypeId) : Bool := match E.tab t with
  | some d => match d.desc with
    | .string => true
    | _ => false
  | none => false
theorem Kc {σ : Ad} {s d : TypeId} {x : AV} (hx : (∃ f els, x = .sl f els) ∨ (∃ f i t o l, x = .bs f i t o l)) (hs : Kn E s = true) (hd : Vo E d = true) : A8 E σ s d x = match Fu σ x with
    | some els => match bytesOf els with
      | some l => some (.str l, σ)
      | none => none
    | none => none := by
  unfold Kn at hs
  unfold Vo at hd
  split at hs <;> try cases hs
  rename_i sd hsd
  split at hs <;> try cases hs
  rename_i e he
  split at hs <;> try cases hs
  rename_i de hde
  split at hs <;> try cases hs
  rename_i hu
  split at hd <;> try cases hd
  rename_i dd hdd
  split at hd <;> try cases hd
  rename_i hstr
  unfold A8
  rcases hx with ⟨f, els, rfl⟩ | ⟨f, i, t, o, l, rfl⟩
  · simp only [hsd, hdd, he, hstr, hde, hu, G0]
    cases Fu σ (.sl f els) <;> rfl
  · simp only [hsd, hdd, he, hstr, hde, hu, G0]
    cases Fu σ (.bs f i t o l) <;> rfl
theorem Wg {σ : Ad} {s d : TypeId} {f : Bool} {els : List (List AV)} (hs : Kn E s = true) (hd : Vo E d = true) : A8 E σ s d (.sl f els) = match Fu σ (.sl f els) with
    | some els => match bytesOf els with
      | some l => some (.str l, σ)
      | none => none
    | none => none := Kc (.inl ⟨_, _, rfl⟩) hs hd
theorem Wx {σ : Ad} {s d : TypeId} {f : Bool} {i t o l : Nat} (hs : Kn E s = true) (hd : Vo E d = true) : A8 E σ s d (.bs f i t o l) = match Fu σ (.bs f i t o l) with
    | some els => match bytesOf els with
      | some l => some (.str l, σ)
      | none => none
    | none => none := Kc (.inr ⟨_, _, _, _, _, rfl⟩) hs hd
theorem Qa {σ : Ad} {s d : TypeId} {l : List UInt8} (hs : Vo E s = true) (hd : Kn E d = true) : A8 E σ s d (.str l) = some (.bs false σ.length l.length 0 l.length, σ ++ [.buf 1 (L cU8 l) false]) := by
  unfold Kn at hd
  unfold Vo at hs
  split at hd <;> try cases hd
  rename_i sd hsd
  split at hd <;> try cases hd
  rename_i e he
  split at hd <;> try cases hd
  rename_i de hde
  split at hd <;> try cases hd
  rename_i hu
  split at hs <;> try cases hs
  rename_i dd hdd
  unfold A8
  simp only [hsd, hdd, he, hde, hu]
  rfl
theorem ob_s {a b : Bool} : (some a == some b) = (a == b) := rfl
theorem ob_n {b : Bool} : ((none : Option Bool) == some b) = false := rfl
attribute [go_sem] ob_s ob_n
attribute [go_sem] Acs AeJ AdC Ads Aec Aed Ac3 AdE AeX Ai9 AfP Aeb Agj Aii AjC AgY Afp AeK Afw Af1 Ac2 Afq AgX Aid Afy AcE Aa3 Y0 wkL Aic Wg Wx Qa Kn Vo
attribute [go_sem] List.getElem?_cons_zero List.getElem?_cons_succ List.set_cons_zero List.set_cons_succ List.length_cons List.length_nil List.cons_append List.nil_append List.append_nil List.map_cons List.map_nil List.flatMap_cons List.flatMap_nil List.all_cons List.all_nil List.drop_zero List.drop_succ_cons List.drop_nil List.take_zero List.take_succ_cons List.take_nil List.length_append List.length_set List.length_replicate List.take_length List.replicate_zero List.replicate_succ Option.map_some Option.map_none Option.bind_some Option.bind_none Option.isSome_some Option.getD_some Option.some.injEq Prod.mk.injEq Bool.true_and Bool.false_and Bool.and_true Bool.and_false Bool.and_self Bool.not_true Bool.not_false Bool.true_or Bool.false_or and_true true_and and_self and_false false_and or_true true_or or_false false_or implies_true not_true_eq_false not_false_eq_true ne_eq imp_self false_imp_iff decide_true decide_false Bool.false_eq_true Nat.zero_add Nat.add_zero Nat.sub_zero Nat.mul_one eq_self List.cons_ne_nil reduceCtorEq beq_self_eq_true List.mem_cons List.not_mem_nil forall_eq_or_imp forall_eq
end Go.Rv
