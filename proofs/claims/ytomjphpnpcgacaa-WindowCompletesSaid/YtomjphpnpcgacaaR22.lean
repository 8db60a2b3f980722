/-
  R22: the rules for regions as the printed proofs use them.
-/
import Derived.Test.YtomjphpnpcgacaaR21
namespace Go.Rv
set_option linter.unusedVariables false
set_option linter.unusedSimpArgs false

variable {E : Env}

theorem run_textE (hE : E.Ok) {m n id : Nat} {l : List Oper} {fr fr' : Fr} {σ σ' : Store} {K : Post} (ts : List Nat) (h : ∃ orc, Orcs E.toBase orc ∧ regL E orc false n l ts (fr, σ) = some (fr', σ'))
    {y : Code} (hk : Run E m y ⟨asFr n fr', σ'⟩ K) : Run E m (.seq (.region id l.toArray false) y) ⟨asFr n fr, σ⟩ K := by
  obtain ⟨orc, hO, h⟩ := h
  exact run_text hE hO ts h hk

theorem run_drawE (hE : E.Ok) (hP : E.P.follows .mixedOrders = true) {m n id : Nat} {l : List Oper} (T : List (List Nat)) (hok1 : okClo l.toArray T = true) (hok2 : okComm E l.toArray T = true) {fr fr' : Fr} {σ σ' : Store} {K : Post} (ts : List Nat)
    (h : ∃ orc, Orcs E.toBase orc ∧ regL E orc true n l ts (fr, σ) = some (fr', σ')) {y : Code} (hk : Run E m y ⟨asFr n fr', σ'⟩ K) : Run E m (.seq (.region id l.toArray true) y) ⟨asFr n fr, σ⟩ K := by
  obtain ⟨orc, hO, h⟩ := h
  exact run_draw hE hO hP T hok1 hok2 ts h hk

/-- A way on that weaker states may take. -/
def WkOk (E : Env) (n : Nat) (K : Post) : Prop := ∀ st st', Weak E n st st' → K .normal st' → K .normal st
theorem wk_then {n : Nat} {y : Code} {K : Post} : WkOk E n (thenK E n y K) := fun st st' h k => run_weak h k
theorem wk_join {n : Nat} {V : Type} {S : V → St} {J : V → Prop} {K : Post} : WkOk E n (joinK E n S J K) := fun st st' h k => by
  obtain ⟨v, hv, hw⟩ := k
  exact ⟨v, hv, h.trans hw⟩
theorem wk_lp {n : Nat} {V X : Type} {S : V → St} {o : V ⊕ X} {K : Post} : WkOk E n (lpK E n S o K) := fun st st' h k => by
  obtain ⟨v, hv, hw⟩ := k
  exact ⟨v, hv, h.trans hw⟩
theorem wk_block {n i : Nat} {K : Post} (h : WkOk E n K) : WkOk E n (blockK i K) := h
theorem run_textE0 (hE : E.Ok) {m n id : Nat} {l : List Oper} {fr fr' : Fr} {σ σ' : Store} {K : Post} (hw : WkOk E m K) (ts : List Nat) (h : ∃ orc, Orcs E.toBase orc ∧ regL E orc false n l ts (fr, σ) = some (fr', σ'))
    (hk : K .normal ⟨asFr n fr', σ'⟩) : Run E m (.region id l.toArray false) ⟨asFr n fr, σ⟩ K := by
  obtain ⟨orc, hO, h⟩ := h
  simp only [regL, Option.bind_eq_some_iff, Option.some.injEq, Prod.mk.injEq] at h
  obtain ⟨⟨fr1, σ1⟩, h1, rfl, rfl⟩ := h
  exact run_text0 hE hO h1 (hw _ _ (weak_keep _ _ _ _ _) hk)

theorem run_drawE0 (hE : E.Ok) (hP : E.P.follows .mixedOrders = true) {m n id : Nat} {l : List Oper} (T : List (List Nat)) (hok1 : okClo l.toArray T = true) (hok2 : okComm E l.toArray T = true) {fr fr' : Fr} {σ σ' : Store} {K : Post} (hw : WkOk E m K) (ts : List Nat)
    (h : ∃ orc, Orcs E.toBase orc ∧ regL E orc true n l ts (fr, σ) = some (fr', σ')) (hk : K .normal ⟨asFr n fr', σ'⟩) : Run E m (.region id l.toArray true) ⟨asFr n fr, σ⟩ K := by
  obtain ⟨orc, hO, h⟩ := h
  simp only [regL, Option.bind_eq_some_iff, Option.some.injEq, Prod.mk.injEq] at h
  obtain ⟨⟨fr1, σ1⟩, h1, rfl, rfl⟩ := h
  exact run_draw0 hE hO hP T hok1 hok2 h1 (hw _ _ (weak_keep _ _ _ _ _) hk)

theorem run_textW (hE : E.Ok) {m n id : Nat} {l : List Oper} {fr fr' : Fr} {σ σ' : Store} {K : Post} (ts : List Nat)
    (h : ∃ orc fr1 σ1, Orcs E.toBase orc ∧ regL E orc false n l ts (fr, σ) = some (fr1, σ1) ∧ Weak E m ⟨asFr n fr1, σ1⟩ ⟨asFr n fr', σ'⟩)
    {y : Code} (hk : Run E m y ⟨asFr n fr', σ'⟩ K) : Run E m (.seq (.region id l.toArray false) y) ⟨asFr n fr, σ⟩ K := by
  obtain ⟨orc, fr1, σ1, hO, h, hw⟩ := h
  exact run_text hE hO ts h (run_weak hw hk)
theorem run_drawW (hE : E.Ok) (hP : E.P.follows .mixedOrders = true) {m n id : Nat} {l : List Oper} (T : List (List Nat)) (hok1 : okClo l.toArray T = true) (hok2 : okComm E l.toArray T = true) {fr fr' : Fr} {σ σ' : Store} {K : Post} (ts : List Nat)
    (h : ∃ orc fr1 σ1, Orcs E.toBase orc ∧ regL E orc true n l ts (fr, σ) = some (fr1, σ1) ∧ Weak E m ⟨asFr n fr1, σ1⟩ ⟨asFr n fr', σ'⟩)
    {y : Code} (hk : Run E m y ⟨asFr n fr', σ'⟩ K) : Run E m (.seq (.region id l.toArray true) y) ⟨asFr n fr, σ⟩ K := by
  obtain ⟨orc, fr1, σ1, hO, h, hw⟩ := h
  exact run_draw hE hO hP T hok1 hok2 ts h (run_weak hw hk)
/-! ### What names memory, and what does not -/
section
variable {l : List AV} {f : Bool} {els : List (List AV)} {a b c d : Nat}
theorem sc_i64 (x : Int) : (i64 x).scalar = true := rfl
theorem fa_i64 (x : Int) : (i64 x).flatAgg = true := rfl
theorem fl_i64 (x : Int) : (i64 x).flat = true := rfl
theorem bi_i64 (x : Int) : bsIds (i64 x) = [] := rfl
theorem ba_i64 (x : Int) : bsIds (.agg (i64 x :: l)) = bsIds (.agg l) := rfl
theorem sc_u8 (x : UInt8) : (u8 x).scalar = true := rfl
theorem fa_u8 (x : UInt8) : (u8 x).flatAgg = true := rfl
theorem fl_u8 (x : UInt8) : (u8 x).flat = true := rfl
theorem bi_u8 (x : UInt8) : bsIds (u8 x) = [] := rfl
theorem ba_u8 (x : UInt8) : bsIds (.agg (u8 x :: l)) = bsIds (.agg l) := rfl
theorem sc_u16 (x : UInt16) : (u16 x).scalar = true := rfl
theorem fa_u16 (x : UInt16) : (u16 x).flatAgg = true := rfl
theorem fl_u16 (x : UInt16) : (u16 x).flat = true := rfl
theorem bi_u16 (x : UInt16) : bsIds (u16 x) = [] := rfl
theorem ba_u16 (x : UInt16) : bsIds (.agg (u16 x :: l)) = bsIds (.agg l) := rfl
theorem sc_u32 (x : UInt32) : (u32 x).scalar = true := rfl
theorem fa_u32 (x : UInt32) : (u32 x).flatAgg = true := rfl
theorem fl_u32 (x : UInt32) : (u32 x).flat = true := rfl
theorem bi_u32 (x : UInt32) : bsIds (u32 x) = [] := rfl
theorem ba_u32 (x : UInt32) : bsIds (.agg (u32 x :: l)) = bsIds (.agg l) := rfl
theorem sc_u64 (x : UInt64) : (u64 x).scalar = true := rfl
theorem fa_u64 (x : UInt64) : (u64 x).flatAgg = true := rfl
theorem fl_u64 (x : UInt64) : (u64 x).flat = true := rfl
theorem bi_u64 (x : UInt64) : bsIds (u64 x) = [] := rfl
theorem ba_u64 (x : UInt64) : bsIds (.agg (u64 x :: l)) = bsIds (.agg l) := rfl
theorem sc_bool (x : Bool) : (AV.bool x).scalar = true := rfl
theorem fa_bool (x : Bool) : (AV.bool x).flatAgg = true := rfl
theorem fl_bool (x : Bool) : (AV.bool x).flat = true := rfl
theorem bi_bool (x : Bool) : bsIds (AV.bool x) = [] := rfl
theorem ba_bool (x : Bool) : bsIds (.agg (AV.bool x :: l)) = bsIds (.agg l) := rfl
theorem sc_str (x : List UInt8) : (AV.str x).scalar = true := rfl
theorem fa_str (x : List UInt8) : (AV.str x).flatAgg = true := rfl
theorem fl_str (x : List UInt8) : (AV.str x).flat = true := rfl
theorem bi_str (x : List UInt8) : bsIds (AV.str x) = [] := rfl
theorem ba_str (x : List UInt8) : bsIds (.agg (AV.str x :: l)) = bsIds (.agg l) := rfl
theorem sc_sl : (AV.sl f els).scalar = false := rfl
theorem sc_bs : (AV.bs f a b c d).scalar = false := rfl
theorem sc_agg : (AV.agg l).scalar = l.all AV.flat := rfl
theorem sc_tup : (AV.tup l).scalar = l.all AV.flatAgg := rfl
theorem fa_sl : (AV.sl f els).flatAgg = false := rfl
theorem fa_bs : (AV.bs f a b c d).flatAgg = false := rfl
theorem fa_agg : (AV.agg l).flatAgg = l.all AV.flat := rfl
theorem fl_sl : (AV.sl f els).flat = false := rfl
theorem fl_bs : (AV.bs f a b c d).flat = false := rfl
theorem bi_sl : bsIds (.sl f els) = [] := rfl
theorem bi_bs : bsIds (.bs f a b c d) = [a] := rfl
theorem bi_fn {g : FuncId} : bsIds (.fn g l) = [] := rfl
theorem bi_ref : bsIds (.ref a b) = [] := rfl
theorem bi_tup : bsIds (.tup l) = [] := rfl
theorem bi_junk : bsIds .junk = [] := rfl
theorem ba_nil : bsIds (.agg []) = [] := rfl
theorem ba_sl : bsIds (.agg (.sl f els :: l)) = bsIds (.agg l) := rfl
theorem ba_bs : bsIds (.agg (.bs f a b c d :: l)) = a :: bsIds (.agg l) := rfl
end
theorem ovl_len {α : Type} {l m : List α} : (ovl l (m.take (min m.length l.length)) 0).length = l.length := by
  simp [ovl]; omega
attribute [go_sem] ovl_len
attribute [go_sem] sc_i64 fa_i64 fl_i64 bi_i64 ba_i64 sc_u8 fa_u8 fl_u8 bi_u8 ba_u8 sc_u16 fa_u16 fl_u16 bi_u16 ba_u16 sc_u32 fa_u32 fl_u32 bi_u32 ba_u32 sc_u64 fa_u64 fl_u64 bi_u64 ba_u64 sc_bool fa_bool fl_bool bi_bool ba_bool sc_str fa_str fl_str bi_str ba_str sc_sl sc_bs sc_agg sc_tup fa_sl fa_bs fa_agg fl_sl fl_bs bi_sl bi_bs bi_fn bi_ref bi_tup bi_junk ba_nil ba_sl ba_bs

/-! ### Weaker values, case by case -/
section
variable {sel : List Nat}
theorem wk1_junk {x : AV} : wk1 sel x .junk = True := by cases x <;> simp [wk1, wk0]
theorem wk0_junk {x : AV} : wk0 sel x .junk = True := by cases x <;> simp [wk0]
theorem wk1_i64 {a : Int} : wk1 sel (i64 a) (i64 a) = True := by simp [wk1, wk0, i64, AV.closed]
theorem wk1_u8 {a : UInt8} : wk1 sel (u8 a) (u8 a) = True := by simp [wk1, wk0, u8, AV.closed]
theorem wk1_u32 {a : UInt32} : wk1 sel (u32 a) (u32 a) = True := by simp [wk1, wk0, u32, AV.closed]
theorem wk1_u64 {a : UInt64} : wk1 sel (u64 a) (u64 a) = True := by simp [wk1, wk0, u64, AV.closed]
theorem wk1_bool {a : Bool} : wk1 sel (.bool a) (.bool a) = True := by simp [wk1, wk0, AV.closed]
theorem wk1_str {a : List UInt8} : wk1 sel (.str a) (.str a) = True := by simp [wk1, wk0, AV.closed]
theorem wk1_fn {f : FuncId} : wk1 sel (.fn f []) (.fn f []) = True := by simp [wk1, wk0, AV.closed]
theorem wk1_rp {a : List AV} : wk1 sel (.rp a) (.rp a) = True := by simp [wk1, wk0, AV.closed]
theorem wk1_glob {a : Nat} : wk1 sel (.glob a) (.glob a) = True := by simp [wk1, wk0, AV.closed]
theorem wk1_sl {f f' : Bool} {a b : List (List AV)} : wk1 sel (.sl f a) (.sl f' b) = ((f' = true → f = true) ∧ a = b) := rfl
theorem wk1_bs {f f' : Bool} {i t o l i' t' o' l' : Nat} : wk1 sel (.bs f i t o l) (.bs f' i' t' o' l') = (sel[i']? = some i ∧ (f' = true → f = true) ∧ t = t' ∧ o = o' ∧ l = l') := rfl
theorem wk1_ref {i o i' o' : Nat} : wk1 sel (.ref i o) (.ref i' o') = (sel[i']? = some i ∧ o = o') := rfl
theorem wk1_agg {a b : List AV} : wk1 sel (.agg a) (.agg b) = wkL sel a b := rfl
theorem wk1_tup {a b : List AV} : wk1 sel (.tup a) (.tup b) = wkL sel a b := rfl
theorem wk0_i64 {a : Int} : wk0 sel (i64 a) (i64 a) = True := by simp [wk0, i64, AV.closed]
theorem wk0_u8 {a : UInt8} : wk0 sel (u8 a) (u8 a) = True := by simp [wk0, u8, AV.closed]
theorem wk0_u32 {a : UInt32} : wk0 sel (u32 a) (u32 a) = True := by simp [wk0, u32, AV.closed]
theorem wk0_u64 {a : UInt64} : wk0 sel (u64 a) (u64 a) = True := by simp [wk0, u64, AV.closed]
theorem wk0_bool {a : Bool} : wk0 sel (.bool a) (.bool a) = True := by simp [wk0, AV.closed]
theorem wk0_str {a : List UInt8} : wk0 sel (.str a) (.str a) = True := by simp [wk0, AV.closed]
theorem wk0_fn {f : FuncId} : wk0 sel (.fn f []) (.fn f []) = True := by simp [wk0, AV.closed]
theorem wk0_sl {f f' : Bool} {a b : List (List AV)} : wk0 sel (.sl f a) (.sl f' b) = ((f' = true → f = true) ∧ a = b) := rfl
theorem wk0_bs {f f' : Bool} {i t o l i' t' o' l' : Nat} : wk0 sel (.bs f i t o l) (.bs f' i' t' o' l') = (sel[i']? = some i ∧ (f' = true → f = true) ∧ t = t' ∧ o = o' ∧ l = l') := rfl
theorem wk0_ref {i o i' o' : Nat} : wk0 sel (.ref i o) (.ref i' o') = (sel[i']? = some i ∧ o = o') := rfl
theorem blkUp_box {cs cs' : List AV} {ro ro' : Bool} : blkUp sel (.box cs ro) (.box cs' ro') = (ro = ro' ∧ wkL sel cs cs') := rfl
theorem blkUp_buf {k k' : Nat} {els els' : List (List AV)} {ro ro' : Bool} : blkUp sel (.buf k els ro) (.buf k' els' ro') = (k = k' ∧ ro = ro' ∧ els = els' ∧ elsClosed els' = true) := rfl
end

/-! ### Strings and bytes -/
def isBytes (E : Env) (t : TypeId) : Bool := match E.tab t with
  | some d => match d.desc with
    | .slice e => match E.tab e with
      | some de => match de.desc with
        | .int .u8 => true
        | _ => false
      | none => false
    | _ => false
  | none => false
def isStr (E : Env) (t : TypeId) : Bool := match E.tab t with
  | some d => match d.desc with
    | .string => true
    | _ => false
  | none => false

theorem conv_bytes_str {σ : Store} {s d : TypeId} {x : AV} (hx : (∃ f els, x = .sl f els) ∨ (∃ f i t o l, x = .bs f i t o l)) (hs : isBytes E s = true) (hd : isStr E d = true) : convertA E σ s d x = match view σ x with
    | some els => match bytesOf els with
      | some l => some (.str l, σ)
      | none => none
    | none => none := by
  unfold isBytes at hs
  unfold isStr at hd
  split at hs <;> try cases hs
  rename_i sd hsd
  split at hs <;> try cases hs
  rename_i e he
  split at hs <;> try cases hs
  rename_i de hde
  split at hs <;> try cases hs
  rename_i hu
  split at hd <;> try cases hd
  rename_i dd hdd
  split at hd <;> try cases hd
  rename_i hstr
  unfold convertA
  rcases hx with ⟨f, els, rfl⟩ | ⟨f, i, t, o, l, rfl⟩
  · simp only [hsd, hdd, he, hstr, hde, hu, strBad]
    cases view σ (.sl f els) <;> rfl
  · simp only [hsd, hdd, he, hstr, hde, hu, strBad]
    cases view σ (.bs f i t o l) <;> rfl
theorem conv_sl_str {σ : Store} {s d : TypeId} {f : Bool} {els : List (List AV)} (hs : isBytes E s = true) (hd : isStr E d = true) : convertA E σ s d (.sl f els) = match view σ (.sl f els) with
    | some els => match bytesOf els with
      | some l => some (.str l, σ)
      | none => none
    | none => none := conv_bytes_str (.inl ⟨_, _, rfl⟩) hs hd
theorem conv_bs_str {σ : Store} {s d : TypeId} {f : Bool} {i t o l : Nat} (hs : isBytes E s = true) (hd : isStr E d = true) : convertA E σ s d (.bs f i t o l) = match view σ (.bs f i t o l) with
    | some els => match bytesOf els with
      | some l => some (.str l, σ)
      | none => none
    | none => none := conv_bytes_str (.inr ⟨_, _, _, _, _, rfl⟩) hs hd
theorem conv_str_bytes {σ : Store} {s d : TypeId} {l : List UInt8} (hs : isStr E s = true) (hd : isBytes E d = true) : convertA E σ s d (.str l) = some (.bs false σ.length l.length 0 l.length, σ ++ [.buf 1 (L cU8 l) false]) := by
  unfold isBytes at hd
  unfold isStr at hs
  split at hd <;> try cases hd
  rename_i sd hsd
  split at hd <;> try cases hd
  rename_i e he
  split at hd <;> try cases hd
  rename_i de hde
  split at hd <;> try cases hd
  rename_i hu
  split at hs <;> try cases hs
  rename_i dd hdd
  unfold convertA
  simp only [hsd, hdd, he, hde, hu]
  rfl
theorem conv_str_str {σ : Store} {s d : TypeId} {l : List UInt8} (hs : isStr E s = true) (hd : isStr E d = true) : convertA E σ s d (.str l) = some (.str l, σ) := by
  unfold isStr at hd hs
  split at hd <;> try cases hd
  rename_i sd hsd
  split at hd <;> try cases hd
  rename_i hu
  split at hs <;> try cases hs
  rename_i dd hdd
  unfold convertA
  simp only [hsd, hdd, hu]

theorem ob_s {a b : Bool} : (some a == some b) = (a == b) := rfl
theorem ob_n {b : Bool} : ((none : Option Bool) == some b) = false := rfl
theorem conv_same {σ : Store} {s d : TypeId} {f : Bool} {i t o l : Nat} (h : (s == d) = true) (hs : isBytes E s = true) : convertA E σ s d (.bs f i t o l) = if 0 < l then (match σ[i]? with
    | some (.buf k els _) => if els.length = t ∧ k = 1 then some (.bs f i t o l, σ) else none
    | _ => none) else none := by
  have hsd : s = d := by simpa using h
  subst hsd
  unfold isBytes at hs
  split at hs <;> try cases hs
  rename_i sd hsd
  split at hs <;> try cases hs
  rename_i e he
  split at hs <;> try cases hs
  rename_i de hde
  split at hs <;> try cases hs
  rename_i hu
  unfold convertA
  simp only [hsd, he, hde, hu]
  by_cases hl : 0 < l
  · rw [if_pos hl, if_pos ⟨trivial, hl⟩]
    cases hb : σ[i]? with
    | none => rfl
    | some b => cases b <;> rfl
  · rw [if_neg hl, if_neg (fun hh => hl hh.2)]

attribute [go_sem] ob_s ob_n conv_same
attribute [go_sem] wk1_junk wk0_junk wk1_i64 wk1_u8 wk1_u32 wk1_u64 wk1_bool wk1_str wk1_fn wk1_rp wk1_glob wk1_sl wk1_bs wk1_ref wk1_agg wk1_tup wk0_i64 wk0_u8 wk0_u32 wk0_u64 wk0_bool wk0_str wk0_fn wk0_sl wk0_bs wk0_ref blkUp_box blkUp_buf stUp wkL frUp
  conv_sl_str conv_bs_str conv_str_bytes conv_str_str isBytes isStr
attribute [go_sem] List.getElem?_cons_zero List.getElem?_cons_succ List.set_cons_zero List.set_cons_succ List.length_cons List.length_nil List.cons_append List.nil_append List.append_nil List.map_cons List.map_nil
  List.flatMap_cons List.flatMap_nil List.all_cons List.all_nil List.drop_zero List.drop_succ_cons List.drop_nil List.take_zero List.take_succ_cons List.take_nil List.length_append List.length_set List.length_replicate List.take_length
  List.replicate_zero List.replicate_succ
  Option.map_some Option.map_none Option.bind_some Option.bind_none Option.isSome_some Option.getD_some Option.some.injEq Prod.mk.injEq
  Bool.true_and Bool.false_and Bool.and_true Bool.and_false Bool.and_self Bool.not_true Bool.not_false Bool.true_or Bool.false_or
  and_true true_and and_self and_false false_and or_true true_or or_false false_or implies_true not_true_eq_false not_false_eq_true ne_eq
  imp_self false_imp_iff decide_true decide_false Bool.false_eq_true Nat.zero_add Nat.add_zero Nat.sub_zero Nat.mul_one eq_self List.cons_ne_nil reduceCtorEq beq_self_eq_true List.mem_cons List.not_mem_nil forall_eq_or_imp forall_eq

end Go.Rv
