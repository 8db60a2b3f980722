/-
  Part 21.
-/
import Derived.Test.YtnfoiocigicdnaaGreatDoorYF20
namespace Go.Rv
set_option linter.unusedVariables false
set_option linter.unusedSimpArgs false
variable {E : Env}
theorem E4 (hE : E.Ok) {m n id : Nat} {l : List Oper} {fr fr' : Fr} {σ σ' : Ad} {K : Ed} (ts : List Nat) (h : ∃ orc, N8 E.toBase orc ∧ Nz E orc false n l ts (fr, σ) = some (fr', σ'))
    {y : Code} (hk : Run E m y ⟨Ap n fr', σ'⟩ K) : Run E m (.seq (.region id l.toArray false) y) ⟨Ap n fr, σ⟩ K := by
  obtain ⟨orc, hO, h⟩ := h
  exact Y1 hE hO ts h hk
theorem Uc (hE : E.Ok) (hP : E.P.follows .mixedOrders = true) {m n id : Nat} {l : List Oper} (T : List (List Nat)) (hok1 : M4 l.toArray T = true) (hok2 : M8 E l.toArray T = true) {fr fr' : Fr} {σ σ' : Ad} {K : Ed} (ts : List Nat)
    (h : ∃ orc, N8 E.toBase orc ∧ Nz E orc true n l ts (fr, σ) = some (fr', σ')) {y : Code} (hk : Run E m y ⟨Ap n fr', σ'⟩ K) : Run E m (.seq (.region id l.toArray true) y) ⟨Ap n fr, σ⟩ K := by
  obtain ⟨orc, hO, h⟩ := h
  exact Afw hE hO hP T hok1 hok2 ts h hk
def V2 (E : Env) (n : Nat) (K : Ed) : Prop := ∀ st st', Weak E n st st' → K .normal st' → K .normal st
theorem Ox {n : Nat} {y : Code} {K : Ed} : V2 E n (U4 E n y K) := fun st st' h k => Gf h k
theorem Ej {n : Nat} {V : Type} {S : V → St} {J : V → Prop} {K : Ed} : V2 E n (Qf E n S J K) := fun st st' h k => by
  obtain ⟨v, hv, hw⟩ := k
  exact ⟨v, hv, h.trans hw⟩
theorem Aeg {n : Nat} {V X : Type} {S : V → St} {o : V ⊕ X} {K : Ed} : V2 E n (lpK E n S o K) := fun st st' h k => by
  obtain ⟨v, hv, hw⟩ := k
  exact ⟨v, hv, h.trans hw⟩
theorem C6 {n i : Nat} {K : Ed} (h : V2 E n K) : V2 E n (Io i K) := h
theorem N1 {n : Nat} {K : Ed} (h : V2 E n K) : V2 E n (Z1 K) := h
theorem Mi (hE : E.Ok) {m n id : Nat} {l : List Oper} {fr fr' : Fr} {σ σ' : Ad} {K : Ed} (hw : V2 E m K) (ts : List Nat) (h : ∃ orc, N8 E.toBase orc ∧ Nz E orc false n l ts (fr, σ) = some (fr', σ'))
    (hk : K .normal ⟨Ap n fr', σ'⟩) : Run E m (.region id l.toArray false) ⟨Ap n fr, σ⟩ K := by
  obtain ⟨orc, hO, h⟩ := h
  simp only [Nz, Option.bind_eq_some_iff, Option.some.injEq, Prod.mk.injEq] at h
  obtain ⟨⟨fr1, σ1⟩, h1, rfl, rfl⟩ := h
  exact AcI hE hO h1 (hw _ _ (H9 _ _ _ _ _) hk)
theorem Aar (hE : E.Ok) (hP : E.P.follows .mixedOrders = true) {m n id : Nat} {l : List Oper} (T : List (List Nat)) (hok1 : M4 l.toArray T = true) (hok2 : M8 E l.toArray T = true) {fr fr' : Fr} {σ σ' : Ad} {K : Ed} (hw : V2 E m K) (ts : List Nat)
    (h : ∃ orc, N8 E.toBase orc ∧ Nz E orc true n l ts (fr, σ) = some (fr', σ')) (hk : K .normal ⟨Ap n fr', σ'⟩) : Run E m (.region id l.toArray true) ⟨Ap n fr, σ⟩ K := by
  obtain ⟨orc, hO, h⟩ := h
  simp only [Nz, Option.bind_eq_some_iff, Option.some.injEq, Prod.mk.injEq] at h
  obtain ⟨⟨fr1, σ1⟩, h1, rfl, rfl⟩ := h
  exact AbU hE hO hP T hok1 hok2 h1 (hw _ _ (H9 _ _ _ _ _) hk)
theorem Aci {n N : Nat} {l : Fr} {σ : Ad} (id : Nat) : Weak E n ⟨Ap N l, σ⟩ ⟨Ap N l, Cq σ id⟩ := by
  refine El fun a w g hr => ?_
  obtain ⟨g', hr', he, _, _⟩ := Q6 hr n [id]
  exact ⟨g', hr', he⟩
section
variable {l : List AV} {f : Bool} {els : List (List AV)} {a b c d : Nat}
theorem AiC (x : Int) : (i64 x).scalar = true := rfl
theorem AkC (x : Int) : (i64 x).flatAgg = true := rfl
theorem AiZ (x : Int) : (i64 x).flat = true := rfl
theorem AjC (x : Int) : B4 (i64 x) = [] := rfl
theorem Als (x : Int) : B4 (.agg (i64 x :: l)) = B4 (.agg l) := rfl
theorem AlT (x : UInt8) : (u8 x).scalar = true := rfl
theorem Anq (x : UInt8) : (u8 x).flatAgg = true := rfl
theorem Al7 (x : UInt8) : (u8 x).flat = true := rfl
theorem AmP (x : UInt8) : B4 (u8 x) = [] := rfl
theorem AmV (x : UInt8) : B4 (.agg (u8 x :: l)) = B4 (.agg l) := rfl
theorem Akb (x : UInt16) : (u16 x).scalar = true := rfl
theorem AjW (x : UInt16) : (u16 x).flatAgg = true := rfl
theorem Ajg (x : UInt16) : (u16 x).flat = true := rfl
theorem Ak4 (x : UInt16) : B4 (u16 x) = [] := rfl
theorem Ajm (x : UInt16) : B4 (.agg (u16 x :: l)) = B4 (.agg l) := rfl
theorem AiR (x : UInt32) : (u32 x).scalar = true := rfl
theorem Ai4 (x : UInt32) : (u32 x).flatAgg = true := rfl
theorem AlG (x : UInt32) : (u32 x).flat = true := rfl
theorem AjQ (x : UInt32) : B4 (u32 x) = [] := rfl
theorem Ak5 (x : UInt32) : B4 (.agg (u32 x :: l)) = B4 (.agg l) := rfl
theorem AiJ (x : UInt64) : (u64 x).scalar = true := rfl
theorem AjN (x : UInt64) : (u64 x).flatAgg = true := rfl
theorem Ajp (x : UInt64) : (u64 x).flat = true := rfl
theorem Ak0 (x : UInt64) : B4 (u64 x) = [] := rfl
theorem Akf (x : UInt64) : B4 (.agg (u64 x :: l)) = B4 (.agg l) := rfl
theorem Agb (x : Bool) : (AV.bool x).scalar = true := rfl
theorem Agr (x : Bool) : (AV.bool x).flatAgg = true := rfl
theorem Aho (x : Bool) : (AV.bool x).flat = true := rfl
theorem Ah0 (x : Bool) : B4 (AV.bool x) = [] := rfl
theorem Ag8 (x : Bool) : B4 (.agg (AV.bool x :: l)) = B4 (.agg l) := rfl
theorem AkW (x : List UInt8) : (AV.str x).scalar = true := rfl
theorem AjE (x : List UInt8) : (AV.str x).flatAgg = true := rfl
theorem AjB (x : List UInt8) : (AV.str x).flat = true := rfl
theorem Alk (x : List UInt8) : B4 (AV.str x) = [] := rfl
theorem AkO (x : List UInt8) : B4 (.agg (AV.str x :: l)) = B4 (.agg l) := rfl
theorem AlX : (AV.sl f els).scalar = false := rfl
theorem AnR : (AV.bs f a b c d).scalar = false := rfl
theorem Alv : (AV.agg l).scalar = l.all AV.flat := rfl
theorem Ako : (AV.tup l).scalar = l.all AV.flatAgg := rfl
theorem AmS : (AV.sl f els).flatAgg = false := rfl
theorem Aml : (AV.bs f a b c d).flatAgg = false := rfl
theorem Ald : (AV.agg l).flatAgg = l.all AV.flat := rfl
theorem Ama : (AV.sl f els).flat = false := rfl
theorem AmW : (AV.bs f a b c d).flat = false := rfl
theorem Anh : B4 (.sl f els) = [] := rfl
theorem AnT : B4 (.bs f a b c d) = [a] := rfl
theorem Am8 {g : FuncId} : B4 (.fn g l) = [] := rfl
theorem Alh : B4 (.ref a b) = [] := rfl
theorem Ahv : B4 (.tref a b) = [] := rfl
theorem Aio : B4 (.nref a) = [] := rfl
theorem AhA : B4 (.mref a) = [] := rfl
theorem AiL : B4 (.tup l) = [] := rfl
theorem AhR : B4 .junk = [] := rfl
theorem AkZ : B4 (.agg []) = [] := rfl
theorem Amr : B4 (.agg (.sl f els :: l)) = B4 (.agg l) := rfl
theorem Amg : B4 (.agg (.bs f a b c d :: l)) = a :: B4 (.agg l) := rfl
end
theorem Agw {α : Type} {l m : List α} : (ovl l (m.take (min m.length l.length)) 0).length = l.length := by
  simp [ovl]; omega
attribute [go_sem] Agw
theorem L8 {m n : Nat} (h : InR (m : Int) n) : m < n := by have := h.2; simpa using this
attribute [go_sem] Aio AhA Ahv AiC AkC AiZ AjC Als AlT Anq Al7 AmP AmV Akb AjW Ajg Ak4 Ajm AiR Ai4 AlG AjQ Ak5 AiJ AjN Ajp Ak0 Akf Agb Agr Aho Ah0 Ag8 AkW AjE AjB Alk AkO AlX AnR Alv Ako AmS Aml Ald Ama AmW Anh AnT Am8 Alh AiL AhR AkZ Amr Amg
section
variable {sel : List Nat}
theorem Ah3 {a : Int} : wk1 sel (i64 a) (i64 a) = True := by simp [wk1, wk0, i64, AV.closed]
theorem Ak7 {a : UInt8} : wk1 sel (u8 a) (u8 a) = True := by simp [wk1, wk0, u8, AV.closed]
theorem Ag2 {a : UInt32} : wk1 sel (u32 a) (u32 a) = True := by simp [wk1, wk0, u32, AV.closed]
theorem Agv {a : UInt64} : wk1 sel (u64 a) (u64 a) = True := by simp [wk1, wk0, u64, AV.closed]
theorem AeO {a : Bool} : wk1 sel (.bool a) (.bool a) = True := by simp [wk1, wk0, AV.closed]
theorem AgV {a : List UInt8} : wk1 sel (.str a) (.str a) = True := by simp [wk1, wk0, AV.closed]
theorem Alc {f : FuncId} : wk1 sel (.fn f []) (.fn f []) = True := by simp [wk1, wk0, AV.closed]
theorem AkH {f f' : Bool} {a b : List (List AV)} : wk1 sel (.sl f a) (.sl f' b) = ((f' = true → f = true) ∧ a = b) := rfl
theorem Ajy {f f' : Bool} {i t o l i' t' o' l' : Nat} : wk1 sel (.bs f i t o l) (.bs f' i' t' o' l') = (sel[i']? = some i ∧ (f' = true → f = true) ∧ t = t' ∧ o = o' ∧ l = l') := rfl
theorem AeE {i i' : Nat} : wk1 sel (.mref i) (.mref i') = (sel[i']? = some i) := rfl
theorem AdZ {i i' : Nat} : wk0 sel (.mref i) (.mref i') = (sel[i']? = some i) := rfl
theorem AfP {i i' : Nat} : wk1 sel (.nref i) (.nref i') = (sel[i']? = some i) := rfl
theorem AfB {i i' : Nat} : wk0 sel (.nref i) (.nref i') = (sel[i']? = some i) := rfl
theorem Afb {i o i' o' : Nat} : wk1 sel (.tref i o) (.tref i' o') = (sel[i']? = some i ∧ o = o') := rfl
theorem Aef {i o i' o' : Nat} : wk0 sel (.tref i o) (.tref i' o') = (sel[i']? = some i ∧ o = o') := rfl
theorem Aga {i o i' o' : Nat} : wk1 sel (.ref i o) (.ref i' o') = (sel[i']? = some i ∧ o = o') := rfl
theorem AhT {a b : List AV} : wk1 sel (.agg a) (.agg b) = wkL sel a b := rfl
theorem Ahx {a b : List AV} : wk1 sel (.tup a) (.tup b) = wkL sel a b := rfl
theorem Ahj {a : Int} : wk0 sel (i64 a) (i64 a) = True := by simp [wk0, i64, AV.closed]
theorem Acj {a : UInt32} : wk0 sel (u32 a) (u32 a) = True := by simp [wk0, u32, AV.closed]
theorem AeP {a : Bool} : wk0 sel (.bool a) (.bool a) = True := by simp [wk0, AV.closed]
theorem Agh {a : List UInt8} : wk0 sel (.str a) (.str a) = True := by simp [wk0, AV.closed]
theorem AdN {f : FuncId} {i t i' : Nat} : wk0 sel (.fn f [.tref i t]) (.fn f [.tref i' t]) = (sel[i']? = some i) := by
  refine propext ⟨fun h => ?_, fun h => .inr ⟨rfl, ⟨h, rfl⟩, trivial⟩⟩
  rcases h with ⟨_, h⟩ | ⟨_, ⟨h, _⟩, _⟩
  · simp [AV.closed] at h
  · exact h
theorem Ags {f : FuncId} {i t i' : Nat} : wk1 sel (.fn f [.tref i t]) (.fn f [.tref i' t]) = (sel[i']? = some i) := AdN
theorem Ak2 {f f' : Bool} {a b : List (List AV)} : wk0 sel (.sl f a) (.sl f' b) = ((f' = true → f = true) ∧ a = b) := rfl
theorem Akk {f f' : Bool} {i t o l i' t' o' l' : Nat} : wk0 sel (.bs f i t o l) (.bs f' i' t' o' l') = (sel[i']? = some i ∧ (f' = true → f = true) ∧ t = t' ∧ o = o' ∧ l = l') := rfl
theorem Agn {i o i' o' : Nat} : wk0 sel (.ref i o) (.ref i' o') = (sel[i']? = some i ∧ o = o') := rfl
theorem Acb {cs cs' : List AV} {ro ro' : Bool} : Aat sel (.box cs ro) (.box cs' ro') = (ro = ro' ∧ wkL sel cs cs') := rfl
theorem Acq {k k' : Nat} {els els' : List (List AV)} {ro ro' : Bool} : Aat sel (.buf k els ro) (.buf k' els' ro') = (k = k' ∧ ro = ro' ∧ els = els' ∧ B5 els' = true) := rfl
end
def My (E : Env) (t : TypeId) : Bool := match E.tab t with
  | some d => match d.desc with
    | .slice e => match E.tab e with
      | some de => match de.desc with
        | .int .u8 => true
        | _ => false
      | none => false
    | _ => false
  | none => false
def AaV (E : Env) (t : TypeId) : Bool := match E.tab t with
  | some d => match d.desc with
    | .string => true
    | _ => false
  | none => false
theorem Qh {σ : Ad} {s d : TypeId} {x : AV} (hx : (∃ f els, x = .sl f els) ∨ (∃ f i t o l, x = .bs f i t o l)) (hs : My E s = true) (hd : AaV E d = true) : A3 E σ s d x = match F8 σ x with
    | some els => match bytesOf els with
      | some l => some (.str l, σ)
      | none => none
    | none => none := by
  unfold My at hs
  unfold AaV at hd
  split at hs <;> try cases hs
  rename_i sd hsd
  split at hs <;> try cases hs
  rename_i e he
  split at hs <;> try cases hs
  rename_i de hde
  split at hs <;> try cases hs
  rename_i hu
  split at hd <;> try cases hd
  rename_i dd hdd
  split at hd <;> try cases hd
  rename_i hstr
  unfold A3
  rcases hx with ⟨f, els, rfl⟩ | ⟨f, i, t, o, l, rfl⟩
  · simp only [hsd, hdd, he, hstr, hde, hu, Gs]
    cases F8 σ (.sl f els) <;> rfl
  · simp only [hsd, hdd, he, hstr, hde, hu, Gs]
    cases F8 σ (.bs f i t o l) <;> rfl
theorem X1 {σ : Ad} {s d : TypeId} {f : Bool} {els : List (List AV)} (hs : My E s = true) (hd : AaV E d = true) : A3 E σ s d (.sl f els) = match F8 σ (.sl f els) with
    | some els => match bytesOf els with
      | some l => some (.str l, σ)
      | none => none
    | none => none := Qh (.inl ⟨_, _, rfl⟩) hs hd
theorem Qb {σ : Ad} {s d : TypeId} {l : List UInt8} (hs : AaV E s = true) (hd : My E d = true) : A3 E σ s d (.str l) = some (.bs false σ.length l.length 0 l.length, σ ++ [.buf 1 (L cU8 l) false]) := by
  unfold My at hd
  unfold AaV at hs
  split at hd <;> try cases hd
  rename_i sd hsd
  split at hd <;> try cases hd
  rename_i e he
  split at hd <;> try cases hd
  rename_i de hde
  split at hd <;> try cases hd
  rename_i hu
  split at hs <;> try cases hs
  rename_i dd hdd
  unfold A3
  simp only [hsd, hdd, he, hde, hu]
  rfl
theorem ob_s {a b : Bool} : (some a == some b) = (a == b) := rfl
theorem ob_n {b : Bool} : ((none : Option Bool) == some b) = false := rfl
attribute [go_sem] ob_s ob_n
attribute [go_sem] AdN Ags AfP AfB AeE AdZ Afb Aef Ah3 Ak7 Ag2 Agv AeO AgV Alc AkH Ajy Aga AhT Ahx Ahj Acj AeP Agh Ak2 Akk Agn Acb Acq Zt wkL Ajd X1 Qb My AaV
attribute [go_sem] List.getElem?_cons_zero List.getElem?_cons_succ List.set_cons_zero List.set_cons_succ List.length_cons List.length_nil List.cons_append List.nil_append List.append_nil List.map_cons List.map_nil List.flatMap_cons List.flatMap_nil List.all_cons List.all_nil List.drop_zero List.drop_succ_cons List.drop_nil List.take_zero List.take_succ_cons List.take_nil List.length_append List.length_set List.length_replicate List.take_length List.replicate_zero List.replicate_succ Option.map_some Option.map_none Option.bind_some Option.bind_none Option.isSome_some Option.getD_some Option.some.injEq Prod.mk.injEq Bool.true_and Bool.false_and Bool.and_true Bool.and_false Bool.and_self Bool.not_true Bool.not_false Bool.true_or Bool.false_or and_true true_and and_self and_false false_and or_true true_or or_false false_or implies_true not_true_eq_false not_false_eq_true ne_eq imp_self false_imp_iff decide_true decide_false Bool.false_eq_true Nat.zero_add Nat.add_zero Nat.sub_zero Nat.mul_one eq_self List.cons_ne_nil reduceCtorEq beq_self_eq_true List.mem_cons List.not_mem_nil forall_eq_or_imp forall_eq
end Go.Rv
