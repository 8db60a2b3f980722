/-
  Part 21.
-/
import Derived.Test.YtnfoiocigicdnaaGreatDoorYV20
namespace Go.Rv
set_option linter.unusedVariables false
set_option linter.unusedSimpArgs false
variable {E : Env}
theorem Ca (hE : E.Ok) {m n id : Nat} {l : List Oper} {fr fr' : Fr} {σ σ' : Ab} {K : Dx} (ts : List Nat) (h : ∃ orc, Nu E.toBase orc ∧ Oy E orc false n l ts (fr, σ) = some (fr', σ'))
    {y : Code} (hk : Run E m y ⟨Am n fr', σ'⟩ K) : Run E m (.seq (.region id l.toArray false) y) ⟨Am n fr, σ⟩ K := by
  obtain ⟨orc, hO, h⟩ := h
  exact Abl hE hO ts h hk
theorem Xh (hE : E.Ok) (hP : E.P.follows .mixedOrders = true) {m n id : Nat} {l : List Oper} (T : List (List Nat)) (hok1 : K5 l.toArray T = true) (hok2 : M1 E l.toArray T = true) {fr fr' : Fr} {σ σ' : Ab} {K : Dx} (ts : List Nat)
    (h : ∃ orc, Nu E.toBase orc ∧ Oy E orc true n l ts (fr, σ) = some (fr', σ')) {y : Code} (hk : Run E m y ⟨Am n fr', σ'⟩ K) : Run E m (.seq (.region id l.toArray true) y) ⟨Am n fr, σ⟩ K := by
  obtain ⟨orc, hO, h⟩ := h
  exact AbW hE hO hP T hok1 hok2 ts h hk
def Xi (E : Env) (n : Nat) (K : Dx) : Prop := ∀ st st', Weak E n st st' → K .normal st' → K .normal st
theorem N6 {n : Nat} {y : Code} {K : Dx} : Xi E n (Uf E n y K) := fun st st' h k => Fp h k
theorem Ew {n : Nat} {V : Type} {S : V → St} {J : V → Prop} {K : Dx} : Xi E n (R2 E n S J K) := fun st st' h k => by
  obtain ⟨v, hv, hw⟩ := k
  exact ⟨v, hv, h.trans hw⟩
theorem Aee {n : Nat} {V X : Type} {S : V → St} {o : V ⊕ X} {K : Dx} : Xi E n (lpK E n S o K) := fun st st' h k => by
  obtain ⟨v, hv, hw⟩ := k
  exact ⟨v, hv, h.trans hw⟩
theorem Da {n i : Nat} {K : Dx} (h : Xi E n K) : Xi E n (I3 i K) := h
theorem P2 {n : Nat} {K : Dx} (h : Xi E n K) : Xi E n (AlV K) := h
theorem Lk (hE : E.Ok) {m n id : Nat} {l : List Oper} {fr fr' : Fr} {σ σ' : Ab} {K : Dx} (hw : Xi E m K) (ts : List Nat) (h : ∃ orc, Nu E.toBase orc ∧ Oy E orc false n l ts (fr, σ) = some (fr', σ'))
    (hk : K .normal ⟨Am n fr', σ'⟩) : Run E m (.region id l.toArray false) ⟨Am n fr, σ⟩ K := by
  obtain ⟨orc, hO, h⟩ := h
  simp only [Oy, Option.bind_eq_some_iff, Option.some.injEq, Prod.mk.injEq] at h
  obtain ⟨⟨fr1, σ1⟩, h1, rfl, rfl⟩ := h
  exact Yv hE hO h1 (hw _ _ (Hy _ _ _ _ _) hk)
theorem Adg (hE : E.Ok) (hP : E.P.follows .mixedOrders = true) {m n id : Nat} {l : List Oper} (T : List (List Nat)) (hok1 : K5 l.toArray T = true) (hok2 : M1 E l.toArray T = true) {fr fr' : Fr} {σ σ' : Ab} {K : Dx} (hw : Xi E m K) (ts : List Nat)
    (h : ∃ orc, Nu E.toBase orc ∧ Oy E orc true n l ts (fr, σ) = some (fr', σ')) (hk : K .normal ⟨Am n fr', σ'⟩) : Run E m (.region id l.toArray true) ⟨Am n fr, σ⟩ K := by
  obtain ⟨orc, hO, h⟩ := h
  simp only [Oy, Option.bind_eq_some_iff, Option.some.injEq, Prod.mk.injEq] at h
  obtain ⟨⟨fr1, σ1⟩, h1, rfl, rfl⟩ := h
  exact AeW hE hO hP T hok1 hok2 h1 (hw _ _ (Hy _ _ _ _ _) hk)
section
variable {l : List AV} {f : Bool} {els : List (List AV)} {a b c d : Nat}
theorem Anr (x : Int) : (i64 x).scalar = true := rfl
theorem Amq (x : Int) : (i64 x).flatAgg = true := rfl
theorem Am9 (x : Int) : (i64 x).flat = true := rfl
theorem AlT (x : Int) : Ch (i64 x) = [] := rfl
theorem Ake (x : Int) : Ch (.agg (i64 x :: l)) = Ch (.agg l) := rfl
theorem Aou (x : UInt8) : (u8 x).scalar = true := rfl
theorem An0 (x : UInt8) : (u8 x).flatAgg = true := rfl
theorem ApJ (x : UInt8) : (u8 x).flat = true := rfl
theorem Apm (x : UInt8) : Ch (u8 x) = [] := rfl
theorem AnO (x : UInt8) : Ch (.agg (u8 x :: l)) = Ch (.agg l) := rfl
theorem AmA (x : UInt16) : (u16 x).scalar = true := rfl
theorem AlU (x : UInt16) : (u16 x).flatAgg = true := rfl
theorem AmQ (x : UInt16) : (u16 x).flat = true := rfl
theorem AlG (x : UInt16) : Ch (u16 x) = [] := rfl
theorem Akv (x : UInt16) : Ch (.agg (u16 x :: l)) = Ch (.agg l) := rfl
theorem Ala (x : UInt32) : (u32 x).scalar = true := rfl
theorem Alq (x : UInt32) : (u32 x).flatAgg = true := rfl
theorem Amx (x : UInt32) : (u32 x).flat = true := rfl
theorem Alk (x : UInt32) : Ch (u32 x) = [] := rfl
theorem AmU (x : UInt32) : Ch (.agg (u32 x :: l)) = Ch (.agg l) := rfl
theorem Am2 (x : UInt64) : (u64 x).scalar = true := rfl
theorem AmW (x : UInt64) : (u64 x).flatAgg = true := rfl
theorem Al9 (x : UInt64) : (u64 x).flat = true := rfl
theorem Aly (x : UInt64) : Ch (u64 x) = [] := rfl
theorem AkK (x : UInt64) : Ch (.agg (u64 x :: l)) = Ch (.agg l) := rfl
theorem Aip (x : Bool) : (AV.bool x).scalar = true := rfl
theorem Ajn (x : Bool) : (AV.bool x).flatAgg = true := rfl
theorem AjG (x : Bool) : (AV.bool x).flat = true := rfl
theorem Aim (x : Bool) : Ch (AV.bool x) = [] := rfl
theorem Ah7 (x : Bool) : Ch (.agg (AV.bool x :: l)) = Ch (.agg l) := rfl
theorem Ale (x : List UInt8) : (AV.str x).scalar = true := rfl
theorem Akh (x : List UInt8) : (AV.str x).flatAgg = true := rfl
theorem AlW (x : List UInt8) : (AV.str x).flat = true := rfl
theorem Alh (x : List UInt8) : Ch (AV.str x) = [] := rfl
theorem Anj (x : List UInt8) : Ch (.agg (AV.str x :: l)) = Ch (.agg l) := rfl
theorem ApL : (AV.sl f els).scalar = false := rfl
theorem AoV : (AV.bs f a b c d).scalar = false := rfl
theorem Aki : (AV.agg l).scalar = l.all AV.flat := rfl
theorem Akr : (AV.tup l).scalar = l.all AV.flatAgg := rfl
theorem Aph : (AV.sl f els).flatAgg = false := rfl
theorem Apn : (AV.bs f a b c d).flatAgg = false := rfl
theorem AkS : (AV.agg l).flatAgg = l.all AV.flat := rfl
theorem ApB : (AV.sl f els).flat = false := rfl
theorem Apv : (AV.bs f a b c d).flat = false := rfl
theorem AnF : Ch (.sl f els) = [] := rfl
theorem Ao1 : Ch (.bs f a b c d) = [a] := rfl
theorem ApS {g : FuncId} : Ch (.fn g l) = [] := rfl
theorem Amr : Ch (.ref a b) = [] := rfl
theorem Ai5 : Ch (.tref a b) = [] := rfl
theorem AjN : Ch (.nref a) = [] := rfl
theorem AjR : Ch (.mref a) = [] := rfl
theorem Aml : Ch (.tup l) = [] := rfl
theorem AiY : Ch .junk = [] := rfl
theorem Ak9 : Ch (.agg []) = [] := rfl
theorem Aox : Ch (.agg (.sl f els :: l)) = Ch (.agg l) := rfl
theorem AoW : Ch (.agg (.bs f a b c d :: l)) = a :: Ch (.agg l) := rfl
end
theorem Oo {m n : Nat} (h : InR (m : Int) n) : m < n := by have := h.2; simpa using this
attribute [go_sem] AjN AjR Ai5 Anr Amq Am9 AlT Ake Aou An0 ApJ Apm AnO AmA AlU AmQ AlG Akv Ala Alq Amx Alk AmU Am2 AmW Al9 Aly AkK Aip Ajn AjG Aim Ah7 Ale Akh AlW Alh Anj ApL AoV Aki Akr Aph Apn AkS ApB Apv AnF Ao1 ApS Amr Aml AiY Ak9 Aox AoW
section
variable {sel : List Nat}
theorem Aiu {a : Int} : wk1 sel (i64 a) (i64 a) = True := by simp [wk1, wk0, i64, AV.closed]
theorem AmL {a : UInt8} : wk1 sel (u8 a) (u8 a) = True := by simp [wk1, wk0, u8, AV.closed]
theorem Ai4 {a : UInt64} : wk1 sel (u64 a) (u64 a) = True := by simp [wk1, wk0, u64, AV.closed]
theorem AgJ {a : Bool} : wk1 sel (.bool a) (.bool a) = True := by simp [wk1, wk0, AV.closed]
theorem AhW {a : List UInt8} : wk1 sel (.str a) (.str a) = True := by simp [wk1, wk0, AV.closed]
theorem Ani {f : FuncId} : wk1 sel (.fn f []) (.fn f []) = True := by simp [wk1, wk0, AV.closed]
theorem Alg {f f' : Bool} {a b : List (List AV)} : wk1 sel (.sl f a) (.sl f' b) = ((f' = true → f = true) ∧ a = b) := rfl
theorem And {f f' : Bool} {i t o l i' t' o' l' : Nat} : wk1 sel (.bs f i t o l) (.bs f' i' t' o' l') = (sel[i']? = some i ∧ (f' = true → f = true) ∧ t = t' ∧ o = o' ∧ l = l') := rfl
theorem Ahp {i i' : Nat} : wk1 sel (.mref i) (.mref i') = (sel[i']? = some i) := rfl
theorem AgU {i i' : Nat} : wk0 sel (.mref i) (.mref i') = (sel[i']? = some i) := rfl
theorem Ahg {i i' : Nat} : wk1 sel (.nref i) (.nref i') = (sel[i']? = some i) := rfl
theorem Af5 {i i' : Nat} : wk0 sel (.nref i) (.nref i') = (sel[i']? = some i) := rfl
theorem AgA {i o i' o' : Nat} : wk1 sel (.tref i o) (.tref i' o') = (sel[i']? = some i ∧ o = o') := rfl
theorem Agk {i o i' o' : Nat} : wk0 sel (.tref i o) (.tref i' o') = (sel[i']? = some i ∧ o = o') := rfl
theorem Ah9 {i o i' o' : Nat} : wk1 sel (.ref i o) (.ref i' o') = (sel[i']? = some i ∧ o = o') := rfl
theorem AiI {a b : List AV} : wk1 sel (.agg a) (.agg b) = wkL sel a b := rfl
theorem AiC {a b : List AV} : wk1 sel (.tup a) (.tup b) = wkL sel a b := rfl
theorem AhV {a : Int} : wk0 sel (i64 a) (i64 a) = True := by simp [wk0, i64, AV.closed]
theorem Ahm {a : Bool} : wk0 sel (.bool a) (.bool a) = True := by simp [wk0, AV.closed]
theorem Ai1 {a : List UInt8} : wk0 sel (.str a) (.str a) = True := by simp [wk0, AV.closed]
theorem Aeg {f : FuncId} {i t i' : Nat} : wk0 sel (.fn f [.tref i t]) (.fn f [.tref i' t]) = (sel[i']? = some i) := by
  refine propext ⟨fun h => ?_, fun h => .inr ⟨rfl, ⟨h, rfl⟩, trivial⟩⟩
  rcases h with ⟨_, h⟩ | ⟨_, ⟨h, _⟩, _⟩
  · simp [AV.closed] at h
  · exact h
theorem Ajl {f : FuncId} {i t i' : Nat} : wk1 sel (.fn f [.tref i t]) (.fn f [.tref i' t]) = (sel[i']? = some i) := Aeg
theorem Ak6 {f f' : Bool} {a b : List (List AV)} : wk0 sel (.sl f a) (.sl f' b) = ((f' = true → f = true) ∧ a = b) := rfl
theorem AmX {f f' : Bool} {i t o l i' t' o' l' : Nat} : wk0 sel (.bs f i t o l) (.bs f' i' t' o' l') = (sel[i']? = some i ∧ (f' = true → f = true) ∧ t = t' ∧ o = o' ∧ l = l') := rfl
theorem AiD {i o i' o' : Nat} : wk0 sel (.ref i o) (.ref i' o') = (sel[i']? = some i ∧ o = o') := rfl
theorem AeU {cs cs' : List AV} {ro ro' : Bool} : Acn sel (.box cs ro) (.box cs' ro') = (ro = ro' ∧ wkL sel cs cs') := rfl
theorem AeD {k k' : Nat} {els els' : List (List AV)} {ro ro' : Bool} : Acn sel (.buf k els ro) (.buf k' els' ro') = (k = k' ∧ ro = ro' ∧ els = els' ∧ Cp els' = true) := rfl
end
def Ol (E : Env) (t : TypeId) : Bool := match E.tab t with
  | some d => match d.desc with
    | .slice e => match E.tab e with
      | some de => match de.desc with
        | .int .u8 => true
        | _ => false
      | none => false
    | _ => false
  | none => false
def Adt (E : Env) (t : TypeId) : Bool := match E.tab t with
  | some d => match d.desc with
    | .string => true
    | _ => false
  | none => false
theorem So {σ : Ab} {s d : TypeId} {x : AV} (hx : (∃ f els, x = .sl f els) ∨ (∃ f i t o l, x = .bs f i t o l)) (hs : Ol E s = true) (hd : Adt E d = true) : Bb E σ s d x = match G6 σ x with
    | some els => match bytesOf els with
      | some l => some (.str l, σ)
      | none => none
    | none => none := by
  unfold Ol at hs
  unfold Adt at hd
  split at hs <;> try cases hs
  rename_i sd hsd
  split at hs <;> try cases hs
  rename_i e he
  split at hs <;> try cases hs
  rename_i de hde
  split at hs <;> try cases hs
  rename_i hu
  split at hd <;> try cases hd
  rename_i dd hdd
  split at hd <;> try cases hd
  rename_i hstr
  unfold Bb
  rcases hx with ⟨f, els, rfl⟩ | ⟨f, i, t, o, l, rfl⟩
  · simp only [hsd, hdd, he, hstr, hde, hu, H4]
    cases G6 σ (.sl f els) <;> rfl
  · simp only [hsd, hdd, he, hstr, hde, hu, H4]
    cases G6 σ (.bs f i t o l) <;> rfl
theorem Aaf {σ : Ab} {s d : TypeId} {f : Bool} {els : List (List AV)} (hs : Ol E s = true) (hd : Adt E d = true) : Bb E σ s d (.sl f els) = match G6 σ (.sl f els) with
    | some els => match bytesOf els with
      | some l => some (.str l, σ)
      | none => none
    | none => none := So (.inl ⟨_, _, rfl⟩) hs hd
theorem Ta {σ : Ab} {s d : TypeId} {l : List UInt8} (hs : Adt E s = true) (hd : Ol E d = true) : Bb E σ s d (.str l) = some (.bs false σ.length l.length 0 l.length, σ ++ [.buf 1 (L cU8 l) false]) := by
  unfold Ol at hd
  unfold Adt at hs
  split at hd <;> try cases hd
  rename_i sd hsd
  split at hd <;> try cases hd
  rename_i e he
  split at hd <;> try cases hd
  rename_i de hde
  split at hd <;> try cases hd
  rename_i hu
  split at hs <;> try cases hs
  rename_i dd hdd
  unfold Bb
  simp only [hsd, hdd, he, hde, hu]
  rfl
theorem ob_s {a b : Bool} : (some a == some b) = (a == b) := rfl
theorem ob_n {b : Bool} : ((none : Option Bool) == some b) = false := rfl
attribute [go_sem] ob_s ob_n
attribute [go_sem] Aeg Ajl Ahg Af5 Ahp AgU AgA Agk Aiu AmL Ai4 AgJ AhW Ani Alg And Ah9 AiI AiC AhV Ahm Ai1 Ak6 AmX AiD AeU AeD Kb wkL Akd Aaf Ta Ol Adt
attribute [go_sem] List.getElem?_cons_zero List.getElem?_cons_succ List.set_cons_zero List.set_cons_succ List.length_cons List.length_nil List.cons_append List.nil_append List.append_nil List.map_cons List.map_nil List.flatMap_cons List.flatMap_nil List.all_cons List.all_nil List.drop_zero List.drop_succ_cons List.drop_nil List.take_zero List.take_succ_cons List.take_nil List.length_append List.length_set List.length_replicate List.take_length List.replicate_zero List.replicate_succ Option.map_some Option.map_none Option.bind_some Option.bind_none Option.isSome_some Option.getD_some Option.some.injEq Prod.mk.injEq Bool.true_and Bool.false_and Bool.and_true Bool.and_false Bool.and_self Bool.not_true Bool.not_false Bool.true_or Bool.false_or and_true true_and and_self and_false false_and or_true true_or or_false false_or implies_true not_true_eq_false not_false_eq_true ne_eq imp_self false_imp_iff decide_true decide_false Bool.false_eq_true Nat.zero_add Nat.add_zero Nat.sub_zero Nat.mul_one eq_self List.cons_ne_nil reduceCtorEq beq_self_eq_true List.mem_cons List.not_mem_nil forall_eq_or_imp forall_eq
end Go.Rv
