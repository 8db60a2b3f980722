/-
  Part 21.
-/
import Derived.Test.YtnfoiocigicdnaaGreatDoorYB20
namespace Go.Rv
set_option linter.unusedVariables false
set_option linter.unusedSimpArgs false
variable {E : Env}
theorem Fp (hE : E.Ok) {m n id : Nat} {l : List Oper} {fr fr' : Fr} {σ σ' : Ad} {K : E6} (ts : List Nat) (h : ∃ orc, Rj E.toBase orc ∧ Pa E orc false n l ts (fr, σ) = some (fr', σ'))
    {y : Code} (hk : Run E m y ⟨Ao n fr', σ'⟩ K) : Run E m (.seq (.region id l.toArray false) y) ⟨Ao n fr, σ⟩ K := by
  obtain ⟨orc, hO, h⟩ := h
  exact AaQ hE hO ts h hk
theorem Wi (hE : E.Ok) (hP : E.P.follows .mixedOrders = true) {m n id : Nat} {l : List Oper} (T : List (List Nat)) (hok1 : Nu l.toArray T = true) (hok2 : Om E l.toArray T = true) {fr fr' : Fr} {σ σ' : Ad} {K : E6} (ts : List Nat)
    (h : ∃ orc, Rj E.toBase orc ∧ Pa E orc true n l ts (fr, σ) = some (fr', σ')) {y : Code} (hk : Run E m y ⟨Ao n fr', σ'⟩ K) : Run E m (.seq (.region id l.toArray true) y) ⟨Ao n fr, σ⟩ K := by
  obtain ⟨orc, hO, h⟩ := h
  exact AfT hE hO hP T hok1 hok2 ts h hk
def X9 (E : Env) (n : Nat) (K : E6) : Prop := ∀ st st', Weak E n st st' → K .normal st' → K .normal st
theorem Pu {n : Nat} {y : Code} {K : E6} : X9 E n (Yc E n y K) := fun st st' h k => Hi h k
theorem E3 {n : Nat} {V : Type} {S : V → St} {J : V → Prop} {K : E6} : X9 E n (R7 E n S J K) := fun st st' h k => by
  obtain ⟨v, hv, hw⟩ := k
  exact ⟨v, hv, h.trans hw⟩
theorem AfZ {n : Nat} {V X : Type} {S : V → St} {o : V ⊕ X} {K : E6} : X9 E n (lpK E n S o K) := fun st st' h k => by
  obtain ⟨v, hv, hw⟩ := k
  exact ⟨v, hv, h.trans hw⟩
theorem Dm {n i : Nat} {K : E6} (h : X9 E n K) : X9 E n (Jv i K) := h
theorem Pp {n : Nat} {K : E6} (h : X9 E n K) : X9 E n (Aki K) := h
theorem N9 (hE : E.Ok) {m n id : Nat} {l : List Oper} {fr fr' : Fr} {σ σ' : Ad} {K : E6} (hw : X9 E m K) (ts : List Nat) (h : ∃ orc, Rj E.toBase orc ∧ Pa E orc false n l ts (fr, σ) = some (fr', σ'))
    (hk : K .normal ⟨Ao n fr', σ'⟩) : Run E m (.region id l.toArray false) ⟨Ao n fr, σ⟩ K := by
  obtain ⟨orc, hO, h⟩ := h
  simp only [Pa, Option.bind_eq_some_iff, Option.some.injEq, Prod.mk.injEq] at h
  obtain ⟨⟨fr1, σ1⟩, h1, rfl, rfl⟩ := h
  exact Ae6 hE hO h1 (hw _ _ (I6 _ _ _ _ _) hk)
theorem AbE (hE : E.Ok) (hP : E.P.follows .mixedOrders = true) {m n id : Nat} {l : List Oper} (T : List (List Nat)) (hok1 : Nu l.toArray T = true) (hok2 : Om E l.toArray T = true) {fr fr' : Fr} {σ σ' : Ad} {K : E6} (hw : X9 E m K) (ts : List Nat)
    (h : ∃ orc, Rj E.toBase orc ∧ Pa E orc true n l ts (fr, σ) = some (fr', σ')) (hk : K .normal ⟨Ao n fr', σ'⟩) : Run E m (.region id l.toArray true) ⟨Ao n fr, σ⟩ K := by
  obtain ⟨orc, hO, h⟩ := h
  simp only [Pa, Option.bind_eq_some_iff, Option.some.injEq, Prod.mk.injEq] at h
  obtain ⟨⟨fr1, σ1⟩, h1, rfl, rfl⟩ := h
  exact AeS hE hO hP T hok1 hok2 h1 (hw _ _ (I6 _ _ _ _ _) hk)
section
variable {l : List AV} {f : Bool} {els : List (List AV)} {a b c d : Nat}
theorem AjA (x : Int) : (i64 x).scalar = true := rfl
theorem AlH (x : Int) : (i64 x).flatAgg = true := rfl
theorem Ajw (x : Int) : (i64 x).flat = true := rfl
theorem AlL (x : Int) : Ce (i64 x) = [] := rfl
theorem Akg (x : Int) : Ce (.agg (i64 x :: l)) = Ce (.agg l) := rfl
theorem Ano (x : UInt8) : (u8 x).scalar = true := rfl
theorem Aof (x : UInt8) : (u8 x).flatAgg = true := rfl
theorem Anw (x : UInt8) : (u8 x).flat = true := rfl
theorem AnM (x : UInt8) : Ce (u8 x) = [] := rfl
theorem Ao6 (x : UInt8) : Ce (.agg (u8 x :: l)) = Ce (.agg l) := rfl
theorem AlC (x : UInt16) : (u16 x).scalar = true := rfl
theorem Ak8 (x : UInt16) : (u16 x).flatAgg = true := rfl
theorem Akf (x : UInt16) : (u16 x).flat = true := rfl
theorem Al3 (x : UInt16) : Ce (u16 x) = [] := rfl
theorem Akp (x : UInt16) : Ce (.agg (u16 x :: l)) = Ce (.agg l) := rfl
theorem Aml (x : UInt32) : (u32 x).scalar = true := rfl
theorem AlR (x : UInt32) : (u32 x).flatAgg = true := rfl
theorem Amb (x : UInt32) : (u32 x).flat = true := rfl
theorem AmI (x : UInt32) : Ce (u32 x) = [] := rfl
theorem Ake (x : UInt32) : Ce (.agg (u32 x :: l)) = Ce (.agg l) := rfl
theorem AmT (x : UInt64) : (u64 x).scalar = true := rfl
theorem Ali (x : UInt64) : (u64 x).flatAgg = true := rfl
theorem Aky (x : UInt64) : (u64 x).flat = true := rfl
theorem Amt (x : UInt64) : Ce (u64 x) = [] := rfl
theorem Ala (x : UInt64) : Ce (.agg (u64 x :: l)) = Ce (.agg l) := rfl
theorem AhM (x : Bool) : (AV.bool x).scalar = true := rfl
theorem Aiq (x : Bool) : (AV.bool x).flatAgg = true := rfl
theorem AhF (x : Bool) : (AV.bool x).flat = true := rfl
theorem AhH (x : Bool) : Ce (AV.bool x) = [] := rfl
theorem AhO (x : Bool) : Ce (.agg (AV.bool x :: l)) = Ce (.agg l) := rfl
theorem AlD (x : List UInt8) : (AV.str x).scalar = true := rfl
theorem Alh (x : List UInt8) : (AV.str x).flatAgg = true := rfl
theorem AlS (x : List UInt8) : (AV.str x).flat = true := rfl
theorem AkV (x : List UInt8) : Ce (AV.str x) = [] := rfl
theorem AjB (x : List UInt8) : Ce (.agg (AV.str x :: l)) = Ce (.agg l) := rfl
theorem Apo : (AV.sl f els).scalar = false := rfl
theorem Ao7 : (AV.bs f a b c d).scalar = false := rfl
theorem AkU : (AV.agg l).scalar = l.all AV.flat := rfl
theorem AlP : (AV.tup l).scalar = l.all AV.flatAgg := rfl
theorem Aob : (AV.sl f els).flatAgg = false := rfl
theorem An0 : (AV.bs f a b c d).flatAgg = false := rfl
theorem AmS : (AV.agg l).flatAgg = l.all AV.flat := rfl
theorem Apk : (AV.sl f els).flat = false := rfl
theorem An1 : (AV.bs f a b c d).flat = false := rfl
theorem An2 : Ce (.sl f els) = [] := rfl
theorem AnX : Ce (.bs f a b c d) = [a] := rfl
theorem Ann {g : FuncId} : Ce (.fn g l) = [] := rfl
theorem AkM : Ce (.ref a b) = [] := rfl
theorem Aji : Ce (.tref a b) = [] := rfl
theorem AhW : Ce (.nref a) = [] := rfl
theorem AiR : Ce (.mref a) = [] := rfl
theorem AmL : Ce (.tup l) = [] := rfl
theorem Ah6 : Ce .junk = [] := rfl
theorem Akm : Ce (.agg []) = [] := rfl
theorem Anx : Ce (.agg (.sl f els :: l)) = Ce (.agg l) := rfl
theorem AoV : Ce (.agg (.bs f a b c d :: l)) = a :: Ce (.agg l) := rfl
end
theorem Ik {m n : Nat} (h : InR (m : Int) n) : m < n := by have := h.2; simpa using this
attribute [go_sem] AhW AiR Aji AjA AlH Ajw AlL Akg Ano Aof Anw AnM Ao6 AlC Ak8 Akf Al3 Akp Aml AlR Amb AmI Ake AmT Ali Aky Amt Ala AhM Aiq AhF AhH AhO AlD Alh AlS AkV AjB Apo Ao7 AkU AlP Aob An0 AmS Apk An1 An2 AnX Ann AkM AmL Ah6 Akm Anx AoV
section
variable {sel : List Nat}
theorem AiE {a : Int} : wk1 sel (i64 a) (i64 a) = True := by simp [wk1, wk0, i64, AV.closed]
theorem Akd {a : UInt8} : wk1 sel (u8 a) (u8 a) = True := by simp [wk1, wk0, u8, AV.closed]
theorem Ajk {a : UInt64} : wk1 sel (u64 a) (u64 a) = True := by simp [wk1, wk0, u64, AV.closed]
theorem Afh {a : Bool} : wk1 sel (.bool a) (.bool a) = True := by simp [wk1, wk0, AV.closed]
theorem Ai8 {a : List UInt8} : wk1 sel (.str a) (.str a) = True := by simp [wk1, wk0, AV.closed]
theorem Alx {f : FuncId} : wk1 sel (.fn f []) (.fn f []) = True := by simp [wk1, wk0, AV.closed]
theorem Ald {f f' : Bool} {a b : List (List AV)} : wk1 sel (.sl f a) (.sl f' b) = ((f' = true → f = true) ∧ a = b) := rfl
theorem Aj5 {f f' : Bool} {i t o l i' t' o' l' : Nat} : wk1 sel (.bs f i t o l) (.bs f' i' t' o' l') = (sel[i']? = some i ∧ (f' = true → f = true) ∧ t = t' ∧ o = o' ∧ l = l') := rfl
theorem Agb {i i' : Nat} : wk1 sel (.mref i) (.mref i') = (sel[i']? = some i) := rfl
theorem AfC {i i' : Nat} : wk0 sel (.mref i) (.mref i') = (sel[i']? = some i) := rfl
theorem Agu {i i' : Nat} : wk1 sel (.nref i) (.nref i') = (sel[i']? = some i) := rfl
theorem Agr {i i' : Nat} : wk0 sel (.nref i) (.nref i') = (sel[i']? = some i) := rfl
theorem AgL {i o i' o' : Nat} : wk1 sel (.tref i o) (.tref i' o') = (sel[i']? = some i ∧ o = o') := rfl
theorem Agl {i o i' o' : Nat} : wk0 sel (.tref i o) (.tref i' o') = (sel[i']? = some i ∧ o = o') := rfl
theorem Ajp {i o i' o' : Nat} : wk1 sel (.ref i o) (.ref i' o') = (sel[i']? = some i ∧ o = o') := rfl
theorem AhE {a b : List AV} : wk1 sel (.agg a) (.agg b) = wkL sel a b := rfl
theorem Ahv {a b : List AV} : wk1 sel (.tup a) (.tup b) = wkL sel a b := rfl
theorem AhN {a : Int} : wk0 sel (i64 a) (i64 a) = True := by simp [wk0, i64, AV.closed]
theorem AgT {a : Bool} : wk0 sel (.bool a) (.bool a) = True := by simp [wk0, AV.closed]
theorem Ai6 {a : List UInt8} : wk0 sel (.str a) (.str a) = True := by simp [wk0, AV.closed]
theorem Adb {f : FuncId} {i t i' : Nat} : wk0 sel (.fn f [.tref i t]) (.fn f [.tref i' t]) = (sel[i']? = some i) := by
  refine propext ⟨fun h => ?_, fun h => .inr ⟨rfl, ⟨h, rfl⟩, trivial⟩⟩
  rcases h with ⟨_, h⟩ | ⟨_, ⟨h, _⟩, _⟩
  · simp [AV.closed] at h
  · exact h
theorem AhA {f : FuncId} {i t i' : Nat} : wk1 sel (.fn f [.tref i t]) (.fn f [.tref i' t]) = (sel[i']? = some i) := Adb
theorem Aj8 {f f' : Bool} {a b : List (List AV)} : wk0 sel (.sl f a) (.sl f' b) = ((f' = true → f = true) ∧ a = b) := rfl
theorem Aj3 {f f' : Bool} {i t o l i' t' o' l' : Nat} : wk0 sel (.bs f i t o l) (.bs f' i' t' o' l') = (sel[i']? = some i ∧ (f' = true → f = true) ∧ t = t' ∧ o = o' ∧ l = l') := rfl
theorem AiL {i o i' o' : Nat} : wk0 sel (.ref i o) (.ref i' o') = (sel[i']? = some i ∧ o = o') := rfl
theorem AdG {cs cs' : List AV} {ro ro' : Bool} : Acl sel (.box cs ro) (.box cs' ro') = (ro = ro' ∧ wkL sel cs cs') := rfl
theorem AdC {k k' : Nat} {els els' : List (List AV)} {ro ro' : Bool} : Acl sel (.buf k els ro) (.buf k' els' ro') = (k = k' ∧ ro = ro' ∧ els = els' ∧ Cl els' = true) := rfl
end
def L7 (E : Env) (t : TypeId) : Bool := match E.tab t with
  | some d => match d.desc with
    | .slice e => match E.tab e with
      | some de => match de.desc with
        | .int .u8 => true
        | _ => false
      | none => false
    | _ => false
  | none => false
def Zk (E : Env) (t : TypeId) : Bool := match E.tab t with
  | some d => match d.desc with
    | .string => true
    | _ => false
  | none => false
theorem Ll {σ : Ad} {s d : TypeId} {x : AV} (hx : (∃ f els, x = .sl f els) ∨ (∃ f i t o l, x = .bs f i t o l)) (hs : L7 E s = true) (hd : Zk E d = true) : A9 E σ s d x = match Hc σ x with
    | some els => match bytesOf els with
      | some l => some (.str l, σ)
      | none => none
    | none => none := by
  unfold L7 at hs
  unfold Zk at hd
  split at hs <;> try cases hs
  rename_i sd hsd
  split at hs <;> try cases hs
  rename_i e he
  split at hs <;> try cases hs
  rename_i de hde
  split at hs <;> try cases hs
  rename_i hu
  split at hd <;> try cases hd
  rename_i dd hdd
  split at hd <;> try cases hd
  rename_i hstr
  unfold A9
  rcases hx with ⟨f, els, rfl⟩ | ⟨f, i, t, o, l, rfl⟩
  · simp only [hsd, hdd, he, hstr, hde, hu, Ht]
    cases Hc σ (.sl f els) <;> rfl
  · simp only [hsd, hdd, he, hstr, hde, hu, Ht]
    cases Hc σ (.bs f i t o l) <;> rfl
theorem Aaa {σ : Ad} {s d : TypeId} {f : Bool} {els : List (List AV)} (hs : L7 E s = true) (hd : Zk E d = true) : A9 E σ s d (.sl f els) = match Hc σ (.sl f els) with
    | some els => match bytesOf els with
      | some l => some (.str l, σ)
      | none => none
    | none => none := Ll (.inl ⟨_, _, rfl⟩) hs hd
theorem Z2 {σ : Ad} {s d : TypeId} {f : Bool} {i t o l : Nat} (hs : L7 E s = true) (hd : Zk E d = true) : A9 E σ s d (.bs f i t o l) = match Hc σ (.bs f i t o l) with
    | some els => match bytesOf els with
      | some l => some (.str l, σ)
      | none => none
    | none => none := Ll (.inr ⟨_, _, _, _, _, rfl⟩) hs hd
theorem R3 {σ : Ad} {s d : TypeId} {l : List UInt8} (hs : Zk E s = true) (hd : L7 E d = true) : A9 E σ s d (.str l) = some (.bs false σ.length l.length 0 l.length, σ ++ [.buf 1 (L cU8 l) false]) := by
  unfold L7 at hd
  unfold Zk at hs
  split at hd <;> try cases hd
  rename_i sd hsd
  split at hd <;> try cases hd
  rename_i e he
  split at hd <;> try cases hd
  rename_i de hde
  split at hd <;> try cases hd
  rename_i hu
  split at hs <;> try cases hs
  rename_i dd hdd
  unfold A9
  simp only [hsd, hdd, he, hde, hu]
  rfl
theorem ob_s {a b : Bool} : (some a == some b) = (a == b) := rfl
theorem ob_n {b : Bool} : ((none : Option Bool) == some b) = false := rfl
attribute [go_sem] ob_s ob_n
attribute [go_sem] Adb AhA Agu Agr Agb AfC AgL Agl AiE Akd Ajk Afh Ai8 Alx Ald Aj5 Ajp AhE Ahv AhN AgT Ai6 Aj8 Aj3 AiL AdG AdC AaW wkL Aj0 Aaa Z2 R3 L7 Zk
attribute [go_sem] List.getElem?_cons_zero List.getElem?_cons_succ List.set_cons_zero List.set_cons_succ List.length_cons List.length_nil List.cons_append List.nil_append List.append_nil List.map_cons List.map_nil List.flatMap_cons List.flatMap_nil List.all_cons List.all_nil List.drop_zero List.drop_succ_cons List.drop_nil List.take_zero List.take_succ_cons List.take_nil List.length_append List.length_set List.length_replicate List.take_length List.replicate_zero List.replicate_succ Option.map_some Option.map_none Option.bind_some Option.bind_none Option.isSome_some Option.getD_some Option.some.injEq Prod.mk.injEq Bool.true_and Bool.false_and Bool.and_true Bool.and_false Bool.and_self Bool.not_true Bool.not_false Bool.true_or Bool.false_or and_true true_and and_self and_false false_and or_true true_or or_false false_or implies_true not_true_eq_false not_false_eq_true ne_eq imp_self false_imp_iff decide_true decide_false Bool.false_eq_true Nat.zero_add Nat.add_zero Nat.sub_zero Nat.mul_one eq_self List.cons_ne_nil reduceCtorEq beq_self_eq_true List.mem_cons List.not_mem_nil forall_eq_or_imp forall_eq
end Go.Rv
