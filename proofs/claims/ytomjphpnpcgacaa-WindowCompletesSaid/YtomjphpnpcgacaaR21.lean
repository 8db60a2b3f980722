/-
  R21: lists of Lean's own types as the elements of slices; the set of rewrite rules that evaluates regions.
-/
import Derived.Test.YtomjphpnpcgacaaR20
namespace Go.Rv
set_option linter.unusedVariables false
set_option linter.unusedSimpArgs false

variable {E : Env} {σ : Store}

/-- The elements of a slice. -/
def L {α : Type} (c : α → List AV) (l : List α) : List (List AV) := l.map c
def cU8 (x : UInt8) : List AV := [u8 x]
def cU32 (x : UInt32) : List AV := [u32 x]
def cU64 (x : UInt64) : List AV := [u64 x]
def cI64 (x : Int) : List AV := [i64 x]
def cBool (x : Bool) : List AV := [.bool x]
def cStr (x : List UInt8) : List AV := [.str x]
def cSl {α : Type} (c : α → List AV) (x : List α) : List AV := [.sl false (L c x)]

def nth {α : Type} [Inhabited α] (l : List α) (i : Nat) : α := l.getD i default

section
variable {α : Type} {c : α → List AV} {l m : List α}
theorem L_len : (L c l).length = l.length := by simp [L]
theorem L_nil : L c [] = [] := rfl
theorem L_cons {x : α} : L c (x :: l) = c x :: L c l := rfl
theorem L_app : L c (l ++ m) = L c l ++ L c m := by simp [L]
theorem L_take {n : Nat} : (L c l).take n = L c (l.take n) := by simp [L, List.map_take]
theorem L_drop {n : Nat} : (L c l).drop n = L c (l.drop n) := by simp [L, List.map_drop]
theorem L_rep {n : Nat} {x : α} : L c (List.replicate n x) = List.replicate n (c x) := by simp [L]
theorem L_set {i : Nat} {x : α} : L c (l.set i x) = (L c l).set i (c x) := by simp [L, List.map_set]
theorem L_get [Inhabited α] {i : Nat} (h : i < l.length) : (L c l)[i]? = some (c (nth l i)) := by simp [L, nth, h]
theorem L_ok {k : Nat} (h : ∀ y, (c y).length = k) : (∀ cs ∈ L c l, cs.length = k) = True := by
  refine eq_true ?_
  intro cs hcs
  simp only [L, List.mem_map] at hcs
  obtain ⟨y, _, rfl⟩ := hcs
  exact h y
theorem L_eq_nil : (L c l = []) = (l = []) := by simp [L]
theorem L_closed (h : ∀ y, (c y).all AV.closed = true) : elsClosed (L c l) = true := by
  simp only [elsClosed, L, List.all_map, List.all_eq_true]
  intro y _
  exact h y
end

theorem bytesOf_L (l : List UInt8) : bytesOf (L cU8 l) = some l := by
  induction l with
  | nil => rfl
  | cons b l ih =>
    show (bytesOf (L cU8 l)).map (UInt8.ofNat (Int.toNat (b.toNat : Int)) :: ·) = _
    rw [ih]
    simp
theorem L_bytes (l : List UInt8) : (l.map fun b => [AV.int .u8 b.toNat]) = L cU8 l := rfl

def ovl {α : Type} (l m : List α) (off : Nat) : List α := l.take off ++ m ++ l.drop (off + m.length)
theorem ovl_L {α : Type} {c : α → List AV} (l m : List α) (off : Nat) : overlay (L c l) (L c m) off = L c (ovl l m off) := by
  simp [overlay, ovl, L_app, L_take, L_drop, L_len]

/-! ### Places -/
theorem ixA_sl {α : Type} [Inhabited α] (c : α → List AV) {t e a b : Nat} {z : List AV} {de : TD} (ht : E.tab t = some ⟨.slice e, a, b, z⟩) (he : E.tab e = some de) (hk : ∀ y, (c y).length = de.size) (f : Bool) (l : List α) (x : AV) :
    indexAddrA E σ t (.sl f (L c l)) x = match idx x l.length with
      | some i => some (.rp (c (nth l i)))
      | none => none := by
  unfold indexAddrA
  simp only [ht, he, L_len]
  cases hi : idx x l.length with
  | none => rfl
  | some i =>
    have hl : i < l.length := by
      unfold idx at hi
      split at hi
      · split at hi
        · rename_i h; cases hi; exact h.2
        · cases hi
      · cases hi
    simp only [L_get hl, hk, if_true]

theorem ixA_bs {t e a b : Nat} {z : List AV} {de : TD} (ht : E.tab t = some ⟨.slice e, a, b, z⟩) (he : E.tab e = some de) (hk : 0 < de.size) (f : Bool) (id tot off len : Nat) (x : AV) :
    indexAddrA E σ t (.bs f id tot off len) x = match σ[id]?, idx x len with
      | some (.buf k els _), some i => if els.length = tot ∧ k = de.size then some (.eref id tot (off + i) 0) else none
      | _, _ => none := by
  unfold indexAddrA
  simp only [ht, he]
  split
  · rename_i k els ro i h1 h2
    simp only [h1, h2]
    by_cases hc : els.length = tot ∧ k = de.size
    · rw [if_pos hc, if_pos ⟨hc.1, hc.2, by omega⟩]
    · rw [if_neg hc, if_neg (fun h => hc ⟨h.1, h.2.1⟩)]
  · rename_i h
    split
    · rename_i k els ro i h1 h2; exact (h k els ro i h1 h2).elim
    · rfl

theorem ixA_arr {t e n a b : Nat} {z : List AV} {de : TD} (ht : E.tab t = some ⟨.array n e, a, b, z⟩) (he : E.tab e = some de) (id off : Nat) (x : AV) :
    indexAddrA E σ t (.ref id off) x = match idx x n with
      | some i => some (.ref id (off + i * de.size))
      | none => none := by
  unfold indexAddrA
  simp only [ht, he]
  cases idx x n <;> rfl

/-! ### Appending -/
theorem append_eq {t u e a b : Nat} {z : List AV} {de du : TD} (ht : E.tab t = some ⟨.slice e, a, b, z⟩) (he : E.tab e = some de) (hk : 0 < de.size) (hu : E.tab u = some du) (hu2 : (∃ e', du.desc = .slice e') ∨ du.desc = .string) (s x : AV) (ts : List TypeId) :
    builtinA E σ .append (t :: u :: ts) [s, x] = match view σ x with
      | some new => if strBad x de.size = true then none else if ∀ cs ∈ new, cs.length = de.size then (match s with
          | .sl full els =>
            if els = [] ∧ full = true then
              if Fits new.length de.bytes then some (.bs false σ.length new.length 0 new.length, σ ++ [.buf de.size new false]) else none
            else if new = [] then some (.sl full els, σ)
            else if full = true ∧ (∀ cs ∈ els, cs.length = de.size) ∧ Fits (els.length + new.length) de.bytes
            then some (.bs false σ.length (els.length + new.length) 0 (els.length + new.length), σ ++ [.buf de.size (els ++ new) false]) else none
          | .bs full id tot off len => match σ[id]? with
            | some (.buf k els ro) =>
              if els.length = tot ∧ k = de.size ∧ Fits (len + new.length) de.bytes then
                if off = 0 ∧ len = tot then some (.bs false id (tot + new.length) 0 (tot + new.length), σ.set id (.buf k (els ++ new) ro))
                else if new = [] then some (.bs full id tot off len, σ)
                else if full then some (.bs false σ.length (len + new.length) 0 (len + new.length), σ ++ [.buf k ((els.drop off).take len ++ new) false])
                else none
              else none
            | _ => none
          | _ => none)
        else none
      | none => none := by
  have hu3 : builtinA E σ .append (t :: u :: ts) [s, x] = appendA E σ t s x := by
    unfold builtinA
    simp only [hu]
    rcases hu2 with ⟨e', h⟩ | h <;> simp only [h]
  rw [hu3]
  unfold appendA
  simp only [ht, he]
  cases view σ x with
  | none => rfl
  | some new =>
    simp only
    split
    · rfl
    split
    case isFalse => rfl
    cases s with
    | sl full els =>
      simp only
      split
      · by_cases h : Fits new.length de.bytes
        · rw [if_pos h, if_pos ⟨hk, h.1, h.2⟩]
        · rw [if_neg h, if_neg (fun hh => h hh.2)]
      · split
        · rfl
        · by_cases h : full = true ∧ (∀ cs ∈ els, cs.length = de.size) ∧ Fits (els.length + new.length) de.bytes
          · rw [if_pos h, if_pos ⟨h.1, h.2.1, hk, h.2.2.1, h.2.2.2⟩]
          · rw [if_neg h, if_neg (fun hh => h ⟨hh.1, hh.2.1, hh.2.2.2⟩)]
    | bs full id tot off len =>
      simp only
      split
      · rename_i k els ro hb
        simp only [hb]
        by_cases h : els.length = tot ∧ k = de.size ∧ Fits (len + new.length) de.bytes
        · rw [if_pos h, if_pos ⟨h.1, h.2.1, by have := h.2.1; omega, h.2.2.1, h.2.2.2⟩]
        · rw [if_neg h, if_neg (fun hh => h ⟨hh.1, hh.2.1, hh.2.2.2⟩)]
      · rename_i hno
        split
        · rename_i k els ro hb; exact (hno k els ro hb).elim
        · rfl
    | _ => rfl

/-- A length and a capacity that make takes. -/
def Mk (l c : Int) (bytes : Nat) : Prop := 0 ≤ l ∧ l ≤ c ∧ c ≤ maxLen ∧ c.toNat * bytes ≤ roomB
instance (l c : Int) (b : Nat) : Decidable (Mk l c b) := inferInstanceAs (Decidable (_ ∧ _))

theorem make_eq {t e a b : Nat} {z : List AV} {de : TD} (ht : E.tab t = some ⟨.slice e, a, b, z⟩) (he : E.tab e = some de) (hk : 0 < de.size) (l c : Int) :
    makeSliceA E σ t (i64 l) (i64 c) = if Mk l c de.bytes then some (.bs (l == c) σ.length l.toNat 0 l.toNat, σ ++ [.buf de.size (List.replicate l.toNat (de.zero.map dn)) false]) else none := by
  unfold makeSliceA i64
  simp only [ht, he]
  by_cases h : Mk l c de.bytes
  · rw [if_pos h, if_pos ⟨h.1, h.2.1, h.2.2.1, h.2.2.2, hk⟩]
  · rw [if_neg h, if_neg (fun hh => h ⟨hh.1, hh.2.1, hh.2.2.1, hh.2.2.2.1⟩)]

theorem dn_i64 (x : Int) : dn (i64 x) = i64 x := rfl
theorem dn_u8 (x : UInt8) : dn (u8 x) = u8 x := rfl
theorem dn_u32 (x : UInt32) : dn (u32 x) = u32 x := rfl
theorem dn_u64 (x : UInt64) : dn (u64 x) = u64 x := rfl
theorem dn_bool (x : Bool) : dn (.bool x) = .bool x := rfl
theorem dn_str (x : List UInt8) : dn (.str x) = .str x := rfl
theorem dn_sl (f : Bool) (l : List (List AV)) : dn (.sl f l) = .sl false l := rfl
theorem dn_fn (f : FuncId) (l : List AV) : dn (.fn f l) = .fn f l := rfl
theorem dn_val (v : Value) : dn (.val v) = .val v := rfl
theorem dn_ref (i o : Nat) : dn (.ref i o) = .ref i o := rfl
theorem dn_bs (f : Bool) (i t o l : Nat) : dn (.bs f i t o l) = .bs f i t o l := rfl
theorem dn_iface (t : TypeId) (x : AV) : dn (.iface t x) = .iface t x := rfl
attribute [go_sem] dn_i64 dn_u8 dn_u32 dn_u64 dn_bool dn_str dn_sl dn_fn dn_val dn_ref dn_bs dn_iface List.map_cons List.map_nil

/-! ### Strings -/
def FitS (n : Nat) : Prop := n ≤ 9223372036854775807
instance (n : Nat) : Decidable (FitS n) := inferInstanceAs (Decidable (_ ≤ _))
section
variable {t : TypeId} (a b : List UInt8)
theorem bin_str_add : binOpA E .add t (.str a) (.str b) = if FitS (a.length + b.length) then some (.str (a ++ b)) else none := rfl
theorem bin_str_eql : binOpA E .eql t (.str a) (.str b) = some (.bool (a == b)) := rfl
theorem bin_str_neq : binOpA E .neq t (.str a) (.str b) = some (.bool (!(a == b))) := rfl
theorem bin_str_lss : binOpA E .lss t (.str a) (.str b) = some (.bool (Op.bytesLess a b)) := rfl
theorem bin_str_leq : binOpA E .leq t (.str a) (.str b) = some (.bool (Op.bytesLess a b || a == b)) := rfl
theorem bin_str_gtr : binOpA E .gtr t (.str a) (.str b) = some (.bool (!(Op.bytesLess a b || a == b))) := rfl
theorem bin_str_geq : binOpA E .geq t (.str a) (.str b) = some (.bool (!Op.bytesLess a b)) := rfl
end
/-! ### The set -/
theorem arr_toList {α : Type} (l : List α) : l.toArray.toList = l := rfl
theorem arr_get {α : Type} (l : List α) (i : Nat) : l.toArray[i]? = l[i]? := by simp
theorem i64_fold (x : Int) : AV.int .i64 x = i64 x := rfl
theorem closed_i64 (x : Int) : (i64 x).closed = true := by simp [i64, AV.closed]
theorem closed_u8 (x : UInt8) : (u8 x).closed = true := by simp [u8, AV.closed]
theorem closed_u32 (x : UInt32) : (u32 x).closed = true := by simp [u32, AV.closed]
theorem closed_u64 (x : UInt64) : (u64 x).closed = true := by simp [u64, AV.closed]
theorem closed_bool (x : Bool) : (AV.bool x).closed = true := by simp [AV.closed]
theorem closed_str (x : List UInt8) : (AV.str x).closed = true := by simp [AV.closed]
theorem closed_sl (f : Bool) (x : List (List AV)) : (AV.sl f x).closed = true := by simp [AV.closed]
theorem cells_i64 (x : Int) : (i64 x).cells? = some [i64 x] := rfl
theorem cells_u8 (x : UInt8) : (u8 x).cells? = some [u8 x] := rfl
theorem cells_u32 (x : UInt32) : (u32 x).cells? = some [u32 x] := rfl
theorem cells_u64 (x : UInt64) : (u64 x).cells? = some [u64 x] := rfl
theorem cells_bool (x : Bool) : (AV.bool x).cells? = some [.bool x] := rfl
theorem cells_str (x : List UInt8) : (AV.str x).cells? = some [.str x] := rfl
theorem cells_sl (f : Bool) (x : List (List AV)) : (AV.sl f x).cells? = some [.sl f x] := rfl
theorem cells_bs (f : Bool) (a b c d : Nat) : (AV.bs f a b c d).cells? = some [.bs f a b c d] := rfl
theorem cells_ref (a b : Nat) : (AV.ref a b).cells? = some [.ref a b] := rfl
theorem cells_agg (x : List AV) : (AV.agg x).cells? = some x := rfl
theorem fz_i64 (x : Int) : fz σ (i64 x) = some (i64 x) := rfl
theorem fz_u8 (x : UInt8) : fz σ (u8 x) = some (u8 x) := rfl
theorem fz_u32 (x : UInt32) : fz σ (u32 x) = some (u32 x) := rfl
theorem fz_u64 (x : UInt64) : fz σ (u64 x) = some (u64 x) := rfl
theorem fz_bool (x : Bool) : fz σ (.bool x) = some (.bool x) := rfl
theorem fz_str (x : List UInt8) : fz σ (.str x) = some (.str x) := rfl
theorem fz_sl (f : Bool) (x : List (List AV)) : fz σ (.sl f x) = some (.sl false x) := rfl
theorem fz_fn0 (f : FuncId) : fz σ (.fn f []) = some (.fn f []) := rfl
theorem fz_bs (f : Bool) (id tot off len : Nat) : fz σ (.bs f id tot off len) = match σ[id]? with
    | some (.buf k els ro) => if els.length = tot ∧ elsClosed els = true then some (.sl false ((els.drop off).take len)) else none
    | _ => none := rfl
def fzCells (σ : Store) : List AV → Option (List AV)
  | [] => some []
  | x :: l => (fzCell σ x).bind fun y => (fzCells σ l).bind fun ys => some (y :: ys)
theorem fzCells_eq (σ : Store) : ∀ l : List AV, l.mapM (fzCell σ) = fzCells σ l
  | [] => rfl
  | x :: l => by rw [List.mapM_cons, fzCells_eq σ l]; rfl
theorem fz_agg (cs : List AV) : fz σ (.agg cs) = (fzCells σ cs).bind fun ys => some (.agg ys) := by
  show (cs.mapM (fzCell σ)).map AV.agg = _
  rw [fzCells_eq]; cases fzCells σ cs <;> rfl
theorem fzC_i64 (x : Int) : fzCell σ (i64 x) = some (i64 x) := rfl
theorem fzC_u8 (x : UInt8) : fzCell σ (u8 x) = some (u8 x) := rfl
theorem fzC_u32 (x : UInt32) : fzCell σ (u32 x) = some (u32 x) := rfl
theorem fzC_u64 (x : UInt64) : fzCell σ (u64 x) = some (u64 x) := rfl
theorem fzC_bool (x : Bool) : fzCell σ (.bool x) = some (.bool x) := rfl
theorem fzC_str (x : List UInt8) : fzCell σ (.str x) = some (.str x) := rfl
theorem fzC_sl (f : Bool) (x : List (List AV)) : fzCell σ (.sl f x) = some (.sl false x) := rfl
theorem fzC_bs (f : Bool) (id tot off len : Nat) : fzCell σ (.bs f id tot off len) = match σ[id]? with
    | some (.buf k els ro) => if els.length = tot ∧ elsClosed els = true then some (.sl false ((els.drop off).take len)) else none
    | _ => none := rfl
theorem fzR_tup (xs : List AV) : fzR σ (.tup xs) = (fzL σ xs).bind fun ys => some (.tup ys) := by
  show (xs.mapM (fz σ)).map AV.tup = _
  rw [fzL_eq]; cases fzL σ xs <;> rfl
theorem fzR_i64 (x : Int) : fzR σ (i64 x) = some (i64 x) := rfl
theorem fzR_u8 (x : UInt8) : fzR σ (u8 x) = some (u8 x) := rfl
theorem fzR_u32 (x : UInt32) : fzR σ (u32 x) = some (u32 x) := rfl
theorem fzR_u64 (x : UInt64) : fzR σ (u64 x) = some (u64 x) := rfl
theorem fzR_bool (x : Bool) : fzR σ (.bool x) = some (.bool x) := rfl
theorem fzR_str (x : List UInt8) : fzR σ (.str x) = some (.str x) := rfl
theorem fzR_sl (f : Bool) (x : List (List AV)) : fzR σ (.sl f x) = fz σ (.sl f x) := rfl
theorem fzR_bs (f : Bool) (a b c d : Nat) : fzR σ (.bs f a b c d) = fz σ (.bs f a b c d) := rfl
theorem fzR_agg (x : List AV) : fzR σ (.agg x) = fz σ (.agg x) := rfl

theorem un_not (b : Bool) : unOpA .not (.bool b) = some (.bool !b) := rfl
theorem bi_len {t : TypeId} {ts : List TypeId} (x : AV) : builtinA E σ .len (t :: ts) [x] = (lenA E σ t x).map fun (n : Nat) => (AV.int .i64 (n : Int), σ) := rfl
theorem bi_copy {t : TypeId} {ts : List TypeId} (x y : AV) : builtinA E σ .copy (t :: ts) [x, y] = copyA E σ t x y := rfl
theorem elsClosed_nil : elsClosed [] = true := rfl
theorem elsClosed_cons {x : List AV} {l : List (List AV)} : elsClosed (x :: l) = (x.all AV.closed && elsClosed l) := rfl
theorem elsClosed_app {l m : List (List AV)} : elsClosed (l ++ m) = (elsClosed l && elsClosed m) := by simp [elsClosed]

/-! ### Evaluation with the state handed on, and no binder in the way -/
def putO (d : Option Tmp) (fr : Fr) : Option (AV × Store) → Option (Fr × Store)
  | none => none
  | some r => some (put d r.1 fr, r.2)

/-- In a region that draws: a new slice that is only handed on is frozen. -/
def frzO (E : Env) (dr : Bool) (ops : Array Oper) (o : Oper) (σ : Store) (r : Option (AV × Store)) : Option (AV × Store) :=
  match dr, o.op with
  | true, .buildSlice .. => r.bind (frzV (frzB E ops o) σ)
  | true, .convert .. => r.bind (frzV (frzB E ops o) σ)
  | _, _ => r

theorem frzO_eq {dr : Bool} {ops : Array Oper} {o : Oper} {σ : Store} {r : Option (AV × Store)} : frzO E dr ops o σ r = r.bind (frzV (dr && frzB E ops o) σ) := by
  have e : ∀ σ, frzV false σ = some := fun σ => by funext r; simp [frzV]
  cases dr with
  | false =>
    have : frzO E false ops o σ r = r := by unfold frzO; split <;> first | rfl | (rename_i h _; cases h)
    rw [this, Bool.false_and, e, obind_some]
  | true =>
    rw [Bool.true_and]
    cases hf : frzB E ops o with
    | false =>
      unfold frzO
      split
      · rw [hf]
      · rw [hf]
      · rw [e, obind_some]
    | true =>
      rcases frzB_op hf with ⟨t, n, l, h⟩ | ⟨s, d, x, h, _⟩
      · unfold frzO; simp only [h, hf]
      · unfold frzO; simp only [h, hf]

def goO (E : Env) (orc : Orc) (dr : Bool) (n : Nat) (ops : Array Oper) (o : Oper) (s : Fr × Store) (wt : Option Bool) : Option (Fr × Store) :=
  match wt with
  | some true => putO o.dst (fzOps dr n o.op s).1 (frzO E dr ops o (fzOps dr n o.op s).2 (opL E orc dr (evL n (fzOps dr n o.op s).1) (fzOps dr n o.op s).2 o.op))
  | some false => some (put o.dst (.tup []) s.1, s.2)
  | none => none

def stepO (E : Env) (orc : Option Tmp → Orc) (dr : Bool) (n : Nat) (ops : Array Oper) (o : Oper) : Option (Fr × Store) → Option (Fr × Store)
  | none => none
  | some s => goO E (orc o.dst) dr n ops o s (wantL ops n s.1 o)

def stepsO (E : Env) (orc : Option Tmp → Orc) (dr : Bool) (n : Nat) (ops : Array Oper) : List Oper → Option (Fr × Store) → Option (Fr × Store)
  | [], s => s
  | o :: l, s => stepsO E orc dr n ops l (stepO E orc dr n ops o s)

def finO (ts : List Nat) : Option (Fr × Store) → Option (Fr × Store)
  | none => none
  | some s => some (keep ts s.1, s.2)

theorem stepO_eq {orc : Option Tmp → Orc} {dr : Bool} {n : Nat} {ops : Array Oper} {o : Oper} {s : Fr × Store} : stepO E orc dr n ops o (some s) = stepL E orc dr n ops o s := by
  unfold stepL
  show goO E (orc o.dst) dr n ops o s (wantL ops n s.1 o) = _
  unfold goO
  split
  · rename_i h
    simp only [h, frzO_eq]
    unfold putO
    cases (opL E (orc o.dst) dr (evL n (fzOps dr n o.op s).1) (fzOps dr n o.op s).2 o.op).bind (frzV (dr && frzB E ops o) (fzOps dr n o.op s).2) <;> rfl
  · rename_i h; simp only [h]
  · rename_i h; simp only [h]

theorem stepsO_none {orc : Option Tmp → Orc} {dr : Bool} {n : Nat} {ops : Array Oper} : ∀ l : List Oper, stepsO E orc dr n ops l none = none
  | [] => rfl
  | _ :: l => stepsO_none l

theorem stepsO_eq {orc : Option Tmp → Orc} {dr : Bool} {n : Nat} {ops : Array Oper} : ∀ (l : List Oper) (s : Fr × Store), stepsO E orc dr n ops l (some s) = stepsL E orc dr n ops l s
  | [], _ => rfl
  | o :: l, s => by
    show stepsO E orc dr n ops l (stepO E orc dr n ops o (some s)) = (stepL E orc dr n ops o s).bind _
    rw [stepO_eq]
    cases stepL E orc dr n ops o s with
    | none => exact stepsO_none l
    | some s' => exact stepsO_eq l s'

theorem regL_eq {orc : Option Tmp → Orc} {dr : Bool} {n : Nat} {l : List Oper} {ts : List Nat} {s : Fr × Store} : regL E orc dr n l ts s = finO ts (stepsO E orc dr n l.toArray l (some s)) := by
  rw [stepsO_eq]
  unfold regL finO
  cases stepsL E orc dr n l.toArray l s <;> rfl

attribute [go_sem] regL_eq stepsO stepO goO putO finO frzO frzV frzB usedB usesT isSliceT fzNew List.any_cons List.any_nil Bool.or_false Bool.or_true Bool.false_or Bool.true_or Nat.reduceBEq
attribute [go_sem] look put keep evL wantL yieldL opL evOpR callT handed fzL arr_toList arr_get
  bin_i64_add bin_i64_sub bin_i64_mul bin_i64_quo bin_i64_rem bin_i64_and bin_i64_or bin_i64_xor bin_i64_eql bin_i64_neq bin_i64_lss bin_i64_leq bin_i64_gtr bin_i64_geq bin_i64_shl bin_i64_shr bin_i64_shl64 bin_i64_shr64 un_i64_neg un_i64_xor
  bin_u8_add bin_u8_sub bin_u8_mul bin_u8_and bin_u8_or bin_u8_xor bin_u8_andNot bin_u8_eql bin_u8_neq bin_u8_lss bin_u8_leq bin_u8_gtr bin_u8_geq bin_u8_quo bin_u8_rem bin_u8_shl_u64 bin_u8_shr_u64 bin_u8_shl_i64 bin_u8_shr_i64 un_u8_xor un_u8_neg
  bin_u32_add bin_u32_sub bin_u32_mul bin_u32_and bin_u32_or bin_u32_xor bin_u32_andNot bin_u32_eql bin_u32_neq bin_u32_lss bin_u32_leq bin_u32_gtr bin_u32_geq bin_u32_quo bin_u32_rem bin_u32_shl_u64 bin_u32_shr_u64 bin_u32_shl_i64 bin_u32_shr_i64 un_u32_xor un_u32_neg
  bin_u64_add bin_u64_sub bin_u64_mul bin_u64_and bin_u64_or bin_u64_xor bin_u64_andNot bin_u64_eql bin_u64_neq bin_u64_lss bin_u64_leq bin_u64_gtr bin_u64_geq bin_u64_quo bin_u64_rem bin_u64_shl_u64 bin_u64_shr_u64 bin_u64_shl_i64 bin_u64_shr_i64 un_u64_xor un_u64_neg
  conv_i64_i64 conv_i64_u8 conv_i64_u32 conv_i64_u64 conv_u8_i64 conv_u8_u8 conv_u8_u32 conv_u8_u64 conv_u32_u8 conv_u32_i64 conv_u32_u32 conv_u32_u64 conv_u64_u8 conv_u64_u32 conv_u64_u64 conv_u64_i64 isIntT
  bin_str_add bin_str_eql bin_str_neq bin_str_lss bin_str_leq bin_str_gtr bin_str_geq
  idx_i64 idx_u8 idx_u32 idx_u64 bndA_i64 bndO boundsA i64_fold ofConst ofCell
  L_get orcL_next L_len L_nil L_cons L_app L_take L_drop L_rep L_set L_ok L_eq_nil L_closed bytesOf_L L_bytes ovl_L
  closed_i64 closed_u8 closed_u32 closed_u64 closed_bool closed_str closed_sl
  cells_i64 cells_u8 cells_u32 cells_u64 cells_bool cells_str cells_sl cells_bs cells_ref cells_agg
  fz_i64 fz_u8 fz_u32 fz_u64 fz_bool fz_str fz_sl fz_fn0 fz_bs fz_agg fzCells fzC_i64 fzC_u8 fzC_u32 fzC_u64 fzC_bool fzC_str fzC_sl fzC_bs fzR_tup fzR_i64 fzR_u8 fzR_u32 fzR_u64 fzR_bool fzR_str fzR_sl fzR_bs fzR_agg
  loadA storeA splice partA TD.isAgg view strBad lenA fieldAddrA fieldA curE buildA fillA buildSliceA fillEls un_not sliceA markRo markOne result1 resL bi_len bi_copy copyA elsClosed_nil elsClosed_cons elsClosed_app orcL_here orcL_fz orcL_own orcX_here orcX_next goCall isOwn ownT
  cU8 cU32 cU64 cI64 cBool cStr cSl bb_tt bb_tf bb_ft bb_ff

end Go.Rv
