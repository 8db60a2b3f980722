/-
  Part 21.
-/
import Derived.Test.YtnfoiocigicdnaaGreatDoorYF20
namespace Go.Rv
set_option linter.unusedVariables false
set_option linter.unusedSimpArgs false
variable {E : Env}
theorem Ex (hE : E.Ok) {m n id : Nat} {l : List Oper} {fr fr' : Fr} {σ σ' : Ad} {K : Eb} (ts : List Nat) (h : ∃ orc, Pz E.toBase orc ∧ Nz E orc false n l ts (fr, σ) = some (fr', σ'))
    {y : Code} (hk : Run E m y ⟨Ar n fr', σ'⟩ K) : Run E m (.seq (.region id l.toArray false) y) ⟨Ar n fr, σ⟩ K := by
  obtain ⟨orc, hO, h⟩ := h
  exact Zs hE hO ts h hk
theorem Up (hE : E.Ok) (hP : E.P.follows .mixedOrders = true) {m n id : Nat} {l : List Oper} (T : List (List Nat)) (hok1 : Mm l.toArray T = true) (hok2 : Nk E l.toArray T = true) {fr fr' : Fr} {σ σ' : Ad} {K : Eb} (ts : List Nat)
    (h : ∃ orc, Pz E.toBase orc ∧ Nz E orc true n l ts (fr, σ) = some (fr', σ')) {y : Code} (hk : Run E m y ⟨Ar n fr', σ'⟩ K) : Run E m (.seq (.region id l.toArray true) y) ⟨Ar n fr, σ⟩ K := by
  obtain ⟨orc, hO, h⟩ := h
  exact AeO hE hO hP T hok1 hok2 ts h hk
def T4 (E : Env) (n : Nat) (K : Eb) : Prop := ∀ st st', Weak E n st st' → K .normal st' → K .normal st
theorem Ph {n : Nat} {y : Code} {K : Eb} : T4 E n (Vr E n y K) := fun st st' h k => Gf h k
theorem Ek {n : Nat} {V : Type} {S : V → St} {J : V → Prop} {K : Eb} : T4 E n (P7 E n S J K) := fun st st' h k => by
  obtain ⟨v, hv, hw⟩ := k
  exact ⟨v, hv, h.trans hw⟩
theorem AdX {n : Nat} {V X : Type} {S : V → St} {o : V ⊕ X} {K : Eb} : T4 E n (lpK E n S o K) := fun st st' h k => by
  obtain ⟨v, hv, hw⟩ := k
  exact ⟨v, hv, h.trans hw⟩
theorem C8 {n i : Nat} {K : Eb} (h : T4 E n K) : T4 E n (Ip i K) := h
theorem N0 {n : Nat} {K : Eb} (h : T4 E n K) : T4 E n (Z1 K) := h
theorem Mg (hE : E.Ok) {m n id : Nat} {l : List Oper} {fr fr' : Fr} {σ σ' : Ad} {K : Eb} (hw : T4 E m K) (ts : List Nat) (h : ∃ orc, Pz E.toBase orc ∧ Nz E orc false n l ts (fr, σ) = some (fr', σ'))
    (hk : K .normal ⟨Ar n fr', σ'⟩) : Run E m (.region id l.toArray false) ⟨Ar n fr, σ⟩ K := by
  obtain ⟨orc, hO, h⟩ := h
  simp only [Nz, Option.bind_eq_some_iff, Option.some.injEq, Prod.mk.injEq] at h
  obtain ⟨⟨fr1, σ1⟩, h1, rfl, rfl⟩ := h
  exact Acv hE hO h1 (hw _ _ (H0 _ _ _ _ _) hk)
theorem Aa5 (hE : E.Ok) (hP : E.P.follows .mixedOrders = true) {m n id : Nat} {l : List Oper} (T : List (List Nat)) (hok1 : Mm l.toArray T = true) (hok2 : Nk E l.toArray T = true) {fr fr' : Fr} {σ σ' : Ad} {K : Eb} (hw : T4 E m K) (ts : List Nat)
    (h : ∃ orc, Pz E.toBase orc ∧ Nz E orc true n l ts (fr, σ) = some (fr', σ')) (hk : K .normal ⟨Ar n fr', σ'⟩) : Run E m (.region id l.toArray true) ⟨Ar n fr, σ⟩ K := by
  obtain ⟨orc, hO, h⟩ := h
  simp only [Nz, Option.bind_eq_some_iff, Option.some.injEq, Prod.mk.injEq] at h
  obtain ⟨⟨fr1, σ1⟩, h1, rfl, rfl⟩ := h
  exact Acf hE hO hP T hok1 hok2 h1 (hw _ _ (H0 _ _ _ _ _) hk)
theorem AbT {n N : Nat} {l : Fr} {σ : Ad} (id : Nat) : Weak E n ⟨Ar N l, σ⟩ ⟨Ar N l, Cu σ id⟩ := by
  refine El fun a w g hr => ?_
  obtain ⟨g', hr', he, _, _⟩ := Qq hr n [id]
  exact ⟨g', hr', he⟩
section
variable {l : List AV} {f : Bool} {els : List (List AV)} {a b c d : Nat}
theorem Ajq (x : Int) : (i64 x).scalar = true := rfl
theorem AjL (x : Int) : (i64 x).flatAgg = true := rfl
theorem Ak8 (x : Int) : (i64 x).flat = true := rfl
theorem AkX (x : Int) : B5 (i64 x) = [] := rfl
theorem Akd (x : Int) : B5 (.agg (i64 x :: l)) = B5 (.agg l) := rfl
theorem AmN (x : UInt8) : (u8 x).scalar = true := rfl
theorem Aog (x : UInt8) : (u8 x).flatAgg = true := rfl
theorem Aop (x : UInt8) : (u8 x).flat = true := rfl
theorem An3 (x : UInt8) : B5 (u8 x) = [] := rfl
theorem Amc (x : UInt8) : B5 (.agg (u8 x :: l)) = B5 (.agg l) := rfl
theorem All (x : UInt16) : (u16 x).scalar = true := rfl
theorem Ak9 (x : UInt16) : (u16 x).flatAgg = true := rfl
theorem AjA (x : UInt16) : (u16 x).flat = true := rfl
theorem AlE (x : UInt16) : B5 (u16 x) = [] := rfl
theorem AjT (x : UInt16) : B5 (.agg (u16 x :: l)) = B5 (.agg l) := rfl
theorem Aj0 (x : UInt32) : (u32 x).scalar = true := rfl
theorem AiX (x : UInt32) : (u32 x).flatAgg = true := rfl
theorem Ai9 (x : UInt32) : (u32 x).flat = true := rfl
theorem Alz (x : UInt32) : B5 (u32 x) = [] := rfl
theorem Akt (x : UInt32) : B5 (.agg (u32 x :: l)) = B5 (.agg l) := rfl
theorem Ajl (x : UInt64) : (u64 x).scalar = true := rfl
theorem Ai4 (x : UInt64) : (u64 x).flatAgg = true := rfl
theorem AiG (x : UInt64) : (u64 x).flat = true := rfl
theorem AjE (x : UInt64) : B5 (u64 x) = [] := rfl
theorem AkB (x : UInt64) : B5 (.agg (u64 x :: l)) = B5 (.agg l) := rfl
theorem Ag7 (x : Bool) : (AV.bool x).scalar = true := rfl
theorem AhI (x : Bool) : (AV.bool x).flatAgg = true := rfl
theorem Ahk (x : Bool) : (AV.bool x).flat = true := rfl
theorem Agx (x : Bool) : B5 (AV.bool x) = [] := rfl
theorem Aic (x : Bool) : B5 (.agg (AV.bool x :: l)) = B5 (.agg l) := rfl
theorem AjM (x : List UInt8) : (AV.str x).scalar = true := rfl
theorem AjZ (x : List UInt8) : (AV.str x).flatAgg = true := rfl
theorem AjD (x : List UInt8) : (AV.str x).flat = true := rfl
theorem AkF (x : List UInt8) : B5 (AV.str x) = [] := rfl
theorem AiI (x : List UInt8) : B5 (.agg (AV.str x :: l)) = B5 (.agg l) := rfl
theorem AmW : (AV.sl f els).scalar = false := rfl
theorem Amn : (AV.bs f a b c d).scalar = false := rfl
theorem AkN : (AV.agg l).scalar = l.all AV.flat := rfl
theorem Ai0 : (AV.tup l).scalar = l.all AV.flatAgg := rfl
theorem Amf : (AV.sl f els).flatAgg = false := rfl
theorem AmA : (AV.bs f a b c d).flatAgg = false := rfl
theorem Ai8 : (AV.agg l).flatAgg = l.all AV.flat := rfl
theorem Al5 : (AV.sl f els).flat = false := rfl
theorem AnN : (AV.bs f a b c d).flat = false := rfl
theorem Aoh : B5 (.sl f els) = [] := rfl
theorem Al4 : B5 (.bs f a b c d) = [a] := rfl
theorem Amv {g : FuncId} : B5 (.fn g l) = [] := rfl
theorem AjU : B5 (.ref a b) = [] := rfl
theorem Aia : B5 (.tref a b) = [] := rfl
theorem AhL : B5 (.nref a) = [] := rfl
theorem Aij : B5 (.mref a) = [] := rfl
theorem Alp : B5 (.tup l) = [] := rfl
theorem AgS : B5 .junk = [] := rfl
theorem Ajo : B5 (.agg []) = [] := rfl
theorem Anw : B5 (.agg (.sl f els :: l)) = B5 (.agg l) := rfl
theorem AmC : B5 (.agg (.bs f a b c d :: l)) = a :: B5 (.agg l) := rfl
end
theorem Ag0 {α : Type} {l m : List α} : (ovl l (m.take (min m.length l.length)) 0).length = l.length := by
  simp [ovl]; omega
attribute [go_sem] Ag0
theorem M3 {m n : Nat} (h : InR (m : Int) n) : m < n := by have := h.2; simpa using this
attribute [go_sem] AhL Aij Aia Ajq AjL Ak8 AkX Akd AmN Aog Aop An3 Amc All Ak9 AjA AlE AjT Aj0 AiX Ai9 Alz Akt Ajl Ai4 AiG AjE AkB Ag7 AhI Ahk Agx Aic AjM AjZ AjD AkF AiI AmW Amn AkN Ai0 Amf AmA Ai8 Al5 AnN Aoh Al4 Amv AjU Alp AgS Ajo Anw AmC
section
variable {sel : List Nat}
theorem AgG {a : Int} : wk1 sel (i64 a) (i64 a) = True := by simp [wk1, wk0, i64, AV.closed]
theorem Aiy {a : UInt8} : wk1 sel (u8 a) (u8 a) = True := by simp [wk1, wk0, u8, AV.closed]
theorem Ahi {a : UInt32} : wk1 sel (u32 a) (u32 a) = True := by simp [wk1, wk0, u32, AV.closed]
theorem Ahs {a : UInt64} : wk1 sel (u64 a) (u64 a) = True := by simp [wk1, wk0, u64, AV.closed]
theorem Afq {a : Bool} : wk1 sel (.bool a) (.bool a) = True := by simp [wk1, wk0, AV.closed]
theorem AhB {a : List UInt8} : wk1 sel (.str a) (.str a) = True := by simp [wk1, wk0, AV.closed]
theorem Akn {f : FuncId} : wk1 sel (.fn f []) (.fn f []) = True := by simp [wk1, wk0, AV.closed]
theorem Ak7 {f f' : Bool} {a b : List (List AV)} : wk1 sel (.sl f a) (.sl f' b) = ((f' = true → f = true) ∧ a = b) := rfl
theorem AjY {f f' : Bool} {i t o l i' t' o' l' : Nat} : wk1 sel (.bs f i t o l) (.bs f' i' t' o' l') = (sel[i']? = some i ∧ (f' = true → f = true) ∧ t = t' ∧ o = o' ∧ l = l') := rfl
theorem AeQ {i i' : Nat} : wk1 sel (.mref i) (.mref i') = (sel[i']? = some i) := rfl
theorem AeX {i i' : Nat} : wk0 sel (.mref i) (.mref i') = (sel[i']? = some i) := rfl
theorem AfC {i i' : Nat} : wk1 sel (.nref i) (.nref i') = (sel[i']? = some i) := rfl
theorem Aea {i i' : Nat} : wk0 sel (.nref i) (.nref i') = (sel[i']? = some i) := rfl
theorem Aej {i o i' o' : Nat} : wk1 sel (.tref i o) (.tref i' o') = (sel[i']? = some i ∧ o = o') := rfl
theorem Aef {i o i' o' : Nat} : wk0 sel (.tref i o) (.tref i' o') = (sel[i']? = some i ∧ o = o') := rfl
theorem AhP {i o i' o' : Nat} : wk1 sel (.ref i o) (.ref i' o') = (sel[i']? = some i ∧ o = o') := rfl
theorem Ah2 {a b : List AV} : wk1 sel (.agg a) (.agg b) = wkL sel a b := rfl
theorem Ah3 {a b : List AV} : wk1 sel (.tup a) (.tup b) = wkL sel a b := rfl
theorem Ahc {a : Int} : wk0 sel (i64 a) (i64 a) = True := by simp [wk0, i64, AV.closed]
theorem AcL {a : UInt32} : wk0 sel (u32 a) (u32 a) = True := by simp [wk0, u32, AV.closed]
theorem Ae6 {a : Bool} : wk0 sel (.bool a) (.bool a) = True := by simp [wk0, AV.closed]
theorem AhY {a : List UInt8} : wk0 sel (.str a) (.str a) = True := by simp [wk0, AV.closed]
theorem AdG {f : FuncId} {i t i' : Nat} : wk0 sel (.fn f [.tref i t]) (.fn f [.tref i' t]) = (sel[i']? = some i) := by
  refine propext ⟨fun h => ?_, fun h => .inr ⟨rfl, ⟨h, rfl⟩, trivial⟩⟩
  rcases h with ⟨_, h⟩ | ⟨_, ⟨h, _⟩, _⟩
  · simp [AV.closed] at h
  · exact h
theorem Agl {f : FuncId} {i t i' : Nat} : wk1 sel (.fn f [.tref i t]) (.fn f [.tref i' t]) = (sel[i']? = some i) := AdG
theorem AiY {f f' : Bool} {a b : List (List AV)} : wk0 sel (.sl f a) (.sl f' b) = ((f' = true → f = true) ∧ a = b) := rfl
theorem Aj9 {f f' : Bool} {i t o l i' t' o' l' : Nat} : wk0 sel (.bs f i t o l) (.bs f' i' t' o' l') = (sel[i']? = some i ∧ (f' = true → f = true) ∧ t = t' ∧ o = o' ∧ l = l') := rfl
theorem Agz {i o i' o' : Nat} : wk0 sel (.ref i o) (.ref i' o') = (sel[i']? = some i ∧ o = o') := rfl
theorem Adx {cs cs' : List AV} {ro ro' : Bool} : Abz sel (.box cs ro) (.box cs' ro') = (ro = ro' ∧ wkL sel cs cs') := rfl
theorem Ac1 {k k' : Nat} {els els' : List (List AV)} {ro ro' : Bool} : Abz sel (.buf k els ro) (.buf k' els' ro') = (k = k' ∧ ro = ro' ∧ els = els' ∧ B8 els' = true) := rfl
end
def M0 (E : Env) (t : TypeId) : Bool := match E.tab t with
  | some d => match d.desc with
    | .slice e => match E.tab e with
      | some de => match de.desc with
        | .int .u8 => true
        | _ => false
      | none => false
    | _ => false
  | none => false
def AaV (E : Env) (t : TypeId) : Bool := match E.tab t with
  | some d => match d.desc with
    | .string => true
    | _ => false
  | none => false
theorem P6 {σ : Ad} {s d : TypeId} {x : AV} (hx : (∃ f els, x = .sl f els) ∨ (∃ f i t o l, x = .bs f i t o l)) (hs : M0 E s = true) (hd : AaV E d = true) : A3 E σ s d x = match Ga σ x with
    | some els => match bytesOf els with
      | some l => some (.str l, σ)
      | none => none
    | none => none := by
  unfold M0 at hs
  unfold AaV at hd
  split at hs <;> try cases hs
  rename_i sd hsd
  split at hs <;> try cases hs
  rename_i e he
  split at hs <;> try cases hs
  rename_i de hde
  split at hs <;> try cases hs
  rename_i hu
  split at hd <;> try cases hd
  rename_i dd hdd
  split at hd <;> try cases hd
  rename_i hstr
  unfold A3
  rcases hx with ⟨f, els, rfl⟩ | ⟨f, i, t, o, l, rfl⟩
  · simp only [hsd, hdd, he, hstr, hde, hu, Gr]
    cases Ga σ (.sl f els) <;> rfl
  · simp only [hsd, hdd, he, hstr, hde, hu, Gr]
    cases Ga σ (.bs f i t o l) <;> rfl
theorem Ye {σ : Ad} {s d : TypeId} {f : Bool} {els : List (List AV)} (hs : M0 E s = true) (hd : AaV E d = true) : A3 E σ s d (.sl f els) = match Ga σ (.sl f els) with
    | some els => match bytesOf els with
      | some l => some (.str l, σ)
      | none => none
    | none => none := P6 (.inl ⟨_, _, rfl⟩) hs hd
theorem Qb {σ : Ad} {s d : TypeId} {l : List UInt8} (hs : AaV E s = true) (hd : M0 E d = true) : A3 E σ s d (.str l) = some (.bs false σ.length l.length 0 l.length, σ ++ [.buf 1 (L cU8 l) false]) := by
  unfold M0 at hd
  unfold AaV at hs
  split at hd <;> try cases hd
  rename_i sd hsd
  split at hd <;> try cases hd
  rename_i e he
  split at hd <;> try cases hd
  rename_i de hde
  split at hd <;> try cases hd
  rename_i hu
  split at hs <;> try cases hs
  rename_i dd hdd
  unfold A3
  simp only [hsd, hdd, he, hde, hu]
  rfl
theorem ob_s {a b : Bool} : (some a == some b) = (a == b) := rfl
theorem ob_n {b : Bool} : ((none : Option Bool) == some b) = false := rfl
attribute [go_sem] ob_s ob_n
attribute [go_sem] AdG Agl AfC Aea AeQ AeX Aej Aef AgG Aiy Ahi Ahs Afq AhB Akn Ak7 AjY AhP Ah2 Ah3 Ahc AcL Ae6 AhY AiY Aj9 Agz Adx Ac1 Z0 wkL Alu Ye Qb M0 AaV
attribute [go_sem] List.getElem?_cons_zero List.getElem?_cons_succ List.set_cons_zero List.set_cons_succ List.length_cons List.length_nil List.cons_append List.nil_append List.append_nil List.map_cons List.map_nil List.flatMap_cons List.flatMap_nil List.all_cons List.all_nil List.drop_zero List.drop_succ_cons List.drop_nil List.take_zero List.take_succ_cons List.take_nil List.length_append List.length_set List.length_replicate List.take_length List.replicate_zero List.replicate_succ Option.map_some Option.map_none Option.bind_some Option.bind_none Option.isSome_some Option.getD_some Option.some.injEq Prod.mk.injEq Bool.true_and Bool.false_and Bool.and_true Bool.and_false Bool.and_self Bool.not_true Bool.not_false Bool.true_or Bool.false_or and_true true_and and_self and_false false_and or_true true_or or_false false_or implies_true not_true_eq_false not_false_eq_true ne_eq imp_self false_imp_iff decide_true decide_false Bool.false_eq_true Nat.zero_add Nat.add_zero Nat.sub_zero Nat.mul_one eq_self List.cons_ne_nil reduceCtorEq beq_self_eq_true List.mem_cons List.not_mem_nil forall_eq_or_imp forall_eq
end Go.Rv
