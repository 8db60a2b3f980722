/-
  Part 20.
-/
import Derived.Test.YtnfoiocigicdnaaGreatDoorYV19
namespace Go.Rv
set_option linter.unusedVariables false
set_option linter.unusedSimpArgs false
variable {E : Env} {σ : Ab}
def L {α : Type} (c : α → List AV) (l : List α) : List (List AV) := l.map c
def cU8 (x : UInt8) : List AV := [u8 x]
def cU32 (x : UInt32) : List AV := [u32 x]
def cU64 (x : UInt64) : List AV := [u64 x]
def Nc (x : Int) : List AV := [i64 x]
def AiK (x : Bool) : List AV := [.bool x]
def Tj (x : List UInt8) : List AV := [.str x]
def cSl {α : Type} (c : α → List AV) (x : List α) : List AV := [.sl false (L c x)]
def nth {α : Type} [Inhabited α] (l : List α) (i : Nat) : α := l.getD i default
section
variable {α : Type} {c : α → List AV} {l m : List α}
theorem Agi : (L c l).length = l.length := by simp [L]
theorem Apj : L c [] = [] := rfl
theorem Ana {x : α} : L c (x :: l) = c x :: L c l := rfl
theorem Ao8 : L c (l ++ m) = L c l ++ L c m := by simp [L]
theorem AmT {n : Nat} : (L c l).take n = L c (l.take n) := by simp [L, List.map_take]
theorem AkO {n : Nat} : (L c l).drop n = L c (l.drop n) := by simp [L, List.map_drop]
theorem Aoz {n : Nat} {x : α} : L c (List.replicate n x) = List.replicate n (c x) := by simp [L]
theorem Apr {i : Nat} {x : α} : L c (l.set i x) = (L c l).set i (c x) := by simp [L, List.map_set]
theorem Amn [Inhabited α] {i : Nat} (h : i < l.length) : (L c l)[i]? = some (c (nth l i)) := by simp [L, nth, h]
theorem L_ok {k : Nat} (h : ∀ y, (c y).length = k) : (∀ cs ∈ L c l, cs.length = k) = True := by
  refine eq_true ?_
  intro cs hcs
  simp only [L, List.mem_map] at hcs
  obtain ⟨y, _, rfl⟩ := hcs
  exact h y
theorem L_closed (h : ∀ y, (c y).all AV.closed = true) : Cp (L c l) = true := by
  simp only [Cp, L, List.all_map, List.all_eq_true]
  intro y _
  exact h y
end
theorem bytesOf_L (l : List UInt8) : bytesOf (L cU8 l) = some l := by
  induction l with
  | nil => rfl
  | cons b l ih =>
    show (bytesOf (L cU8 l)).map (UInt8.ofNat (Int.toNat (b.toNat : Int)) :: ·) = _
    rw [ih]
    simp
theorem L_bytes (l : List UInt8) : (l.map fun b => [AV.int .u8 b.toNat]) = L cU8 l := rfl
theorem Lc {α : Type} [Inhabited α] (c : α → List AV) {t e a b : Nat} {z : List AV} {de : TD} (ht : E.tab t = some ⟨.slice e, a, b, z⟩) (he : E.tab e = some de) (hk : ∀ y, (c y).length = de.size) (f : Bool) (l : List α) (x : AV) :
    As E σ t (.sl f (L c l)) x = match idx x l.length with
      | some i => some (.rp (c (nth l i)))
      | none => none := by
  unfold As
  simp only [ht, he, Agi]
  cases hi : idx x l.length with
  | none => rfl
  | some i =>
    have hl : i < l.length := by
      unfold idx at hi
      split at hi
      · split at hi
        · rename_i h; cases hi; exact h.2
        · cases hi
      · cases hi
    simp only [Amn hl, hk, if_true]
theorem AhH {t e a b : Nat} {z : List AV} {de : TD} (ht : E.tab t = some ⟨.slice e, a, b, z⟩) (he : E.tab e = some de) (hk : 0 < de.size) (f : Bool) (id tot off len : Nat) (x : AV) :
    As E σ t (.bs f id tot off len) x = match σ[id]?, idx x len with
      | some (.buf k els _), some i => if els.length = tot ∧ k = de.size then some (.eref id tot (off + i) 0) else none
      | _, _ => none := by
  unfold As
  simp only [ht, he]
  split
  · rename_i k els ro i h1 h2
    simp only [h1, h2]
    by_cases hc : els.length = tot ∧ k = de.size
    · rw [if_pos hc, if_pos ⟨hc.1, hc.2, by omega⟩]
    · rw [if_neg hc, if_neg (fun h => hc ⟨h.1, h.2.1⟩)]
  · rename_i h
    split
    · rename_i k els ro i h1 h2; exact (h k els ro i h1 h2).elim
    · rfl
theorem Ajd {t e n a b : Nat} {z : List AV} {de : TD} (ht : E.tab t = some ⟨.array n e, a, b, z⟩) (he : E.tab e = some de) (id off : Nat) (x : AV) :
    As E σ t (.ref id off) x = match idx x n with
      | some i => some (.ref id (off + i * de.size))
      | none => none := by
  unfold As
  simp only [ht, he]
  cases idx x n <;> rfl
def Aax (σ : Ab) (id tot off len bytes size e T : Nat) (l : List UInt8) (new : List (List AV)) : Option (AV × Ab) :=
  match Gd new with
  | some nl => if off = 0 ∧ len = tot ∧ size = 1 ∧ Fv (len + new.length) bytes ∧ e = T ∧ l.length = tot then some (.bs false id (tot + new.length) 0 (tot + new.length), σ.set id (.tb T (l ++ nl))) else none
  | none => none
theorem Nh {t u e a b : Nat} {z : List AV} {de du : TD} (ht : E.tab t = some ⟨.slice e, a, b, z⟩) (he : E.tab e = some de) (hk : 0 < de.size) (hu : E.tab u = some du) (hu2 : (∃ e', du.desc = .slice e') ∨ du.desc = .string) (s x : AV) (ts : List TypeId) :
    Cs E σ .append (t :: u :: ts) [s, x] = match G6 σ x with
      | some new => if H4 x de.size = true then none else if ∀ cs ∈ new, cs.length = de.size then (match s with
          | .sl full els =>
            if els = [] ∧ full = true then
              if Fv new.length de.bytes then some (.bs false σ.length new.length 0 new.length, σ ++ [.buf de.size new false]) else none
            else if new = [] then some (.sl full els, σ)
            else if full = true ∧ (∀ cs ∈ els, cs.length = de.size) ∧ Fv (els.length + new.length) de.bytes
            then some (.bs false σ.length (els.length + new.length) 0 (els.length + new.length), σ ++ [.buf de.size (els ++ new) false]) else none
          | .bs full id tot off len => match σ[id]? with
            | some (.buf k els ro) =>
              if els.length = tot ∧ k = de.size ∧ Fv (len + new.length) de.bytes then
                if off = 0 ∧ len = tot then some (.bs false id (tot + new.length) 0 (tot + new.length), σ.set id (.buf k (els ++ new) ro))
                else if new = [] then some (.bs full id tot off len, σ)
                else if full then some (.bs false σ.length (len + new.length) 0 (len + new.length), σ ++ [.buf k ((els.drop off).take len ++ new) false])
                else none
              else none
            | some (.tb T l) => Aax σ id tot off len de.bytes de.size e T l new
            | _ => none
          | _ => none)
        else none
      | none => none := by
  have hu3 : Cs E σ .append (t :: u :: ts) [s, x] = Qo E σ t s x := by
    unfold Cs
    simp only [hu]
    rcases hu2 with ⟨e', h⟩ | h <;> simp only [h]
  rw [hu3]
  unfold Qo
  simp only [ht, he]
  cases G6 σ x with
  | none => rfl
  | some new =>
    simp only
    split
    · rfl
    split
    case isFalse => rfl
    cases s with
    | sl full els =>
      simp only
      split
      · by_cases h : Fv new.length de.bytes
        · rw [if_pos h, if_pos ⟨hk, h.1, h.2⟩]
        · rw [if_neg h, if_neg (fun hh => h hh.2)]
      · split
        · rfl
        · by_cases h : full = true ∧ (∀ cs ∈ els, cs.length = de.size) ∧ Fv (els.length + new.length) de.bytes
          · rw [if_pos h, if_pos ⟨h.1, h.2.1, hk, h.2.2.1, h.2.2.2⟩]
          · rw [if_neg h, if_neg (fun hh => h ⟨hh.1, hh.2.1, hh.2.2.2⟩)]
    | bs full id tot off len =>
      simp only
      split
      · rename_i k els ro hb
        simp only [hb]
        by_cases h : els.length = tot ∧ k = de.size ∧ Fv (len + new.length) de.bytes
        · rw [if_pos h, if_pos ⟨h.1, h.2.1, by have := h.2.1; omega, h.2.2.1, h.2.2.2⟩]
        · rw [if_neg h, if_neg (fun hh => h ⟨hh.1, hh.2.1, hh.2.2.2⟩)]
      · rename_i T l hb
        simp only [hb, Aax]
        cases Gd new with
        | none => rfl
        | some nl =>
          simp only
          by_cases h : off = 0 ∧ len = tot ∧ de.size = 1 ∧ Fv (len + new.length) de.bytes ∧ e = T ∧ l.length = tot
          · rw [if_pos h, if_pos ⟨h.1, h.2.1, h.2.2.1, h.2.2.2.1.1, h.2.2.2.1.2, h.2.2.2.2⟩]
          · rw [if_neg h, if_neg (fun hh => h ⟨hh.1, hh.2.1, hh.2.2.1, ⟨hh.2.2.2.1, hh.2.2.2.2.1⟩, hh.2.2.2.2.2⟩)]
      · rename_i hno hno2
        split
        · rename_i k els ro hb; exact (hno k els ro hb).elim
        · rename_i T l hb; exact (hno2 T l hb).elim
        · rfl
    | _ => rfl
def Mk (l c : Int) (bytes : Nat) : Prop := 0 ≤ l ∧ l ≤ c ∧ c ≤ maxLen ∧ c.toNat * bytes ≤ M9
instance (l c : Int) (b : Nat) : Decidable (Mk l c b) := inferInstanceAs (Decidable (_ ∧ _))
theorem AjJ {t e a b : Nat} {z : List AV} {de : TD} (ht : E.tab t = some ⟨.slice e, a, b, z⟩) (he : E.tab e = some de) (hk : 0 < de.size) (l c : Int) :
    Gg E σ t (i64 l) (i64 c) = if Mk l c de.bytes then some (.bs (l == c) σ.length l.toNat 0 l.toNat, σ ++ [.buf de.size (List.replicate l.toNat (de.zero.map dn)) false]) else none := by
  unfold Gg i64
  simp only [ht, he]
  by_cases h : Mk l c de.bytes
  · rw [if_pos h, if_pos ⟨h.1, h.2.1, h.2.2.1, h.2.2.2, hk⟩]
  · rw [if_neg h, if_neg (fun hh => h ⟨hh.1, hh.2.1, hh.2.2.1, hh.2.2.2.1⟩)]
theorem Akz (x : Int) : dn (i64 x) = i64 x := rfl
theorem AoS (x : UInt8) : dn (u8 x) = u8 x := rfl
theorem Akp (x : UInt32) : dn (u32 x) = u32 x := rfl
theorem AmH (x : UInt64) : dn (u64 x) = u64 x := rfl
theorem Ail (x : Bool) : dn (.bool x) = .bool x := rfl
theorem Aku (x : List UInt8) : dn (.str x) = .str x := rfl
theorem Aow (f : Bool) (l : List (List AV)) : dn (.sl f l) = .sl false l := rfl
theorem AoJ (f : FuncId) (l : List AV) : dn (.fn f l) = .fn f l := rfl
theorem Akm (v : Value) : dn (.val v) = .val v := rfl
theorem AjO (i : Nat) (t : TypeId) : dn (.tref i t) = .tref i t := rfl
theorem Al2 (i o : Nat) : dn (.ref i o) = .ref i o := rfl
theorem Ao7 (f : Bool) (i t o l : Nat) : dn (.bs f i t o l) = .bs f i t o l := rfl
theorem Aha (t : TypeId) (x : AV) : dn (.iface t x) = .iface t x := rfl
attribute [go_sem] Akz AoS Akp AmH Ail Aku Aow AoJ Akm Al2 AjO Ao7 Aha List.map_cons List.map_nil
def FitS (n : Nat) : Prop := n ≤ 9223372036854775807
instance (n : Nat) : Decidable (FitS n) := inferInstanceAs (Decidable (_ ≤ _))
section
variable {t : TypeId} (a b : List UInt8)
theorem Aah : Bq E .add t (.str a) (.str b) = if FitS (a.length + b.length) then some (.str (a ++ b)) else none := rfl
theorem Zz : Bq E .eql t (.str a) (.str b) = some (.bool (a == b)) := rfl
theorem Aa6 : Bq E .neq t (.str a) (.str b) = some (.bool (!(a == b))) := rfl
theorem AaE : Bq E .lss t (.str a) (.str b) = some (.bool (Op.bytesLess a b)) := rfl
theorem Z6 : Bq E .leq t (.str a) (.str b) = some (.bool (Op.bytesLess a b || a == b)) := rfl
theorem AaM : Bq E .gtr t (.str a) (.str b) = some (.bool (!(Op.bytesLess a b || a == b))) := rfl
theorem Aaw : Bq E .geq t (.str a) (.str b) = some (.bool (!Op.bytesLess a b)) := rfl
end
theorem Ac5 {t : TypeId} {a b : Nat} {z : List AV} (ht : E.tab t = some ⟨.string, a, b, z⟩) (s : List UInt8) (x : AV) : L6 E t (.str s) x = match idx x s.length with
    | some i => some (u8 (nth s i))
    | none => none := by
  unfold L6
  simp only [ht]
  cases hi : idx x s.length with
  | none => rfl
  | some i =>
    have hl : i < s.length := by
      unfold idx at hi
      split at hi
      · split at hi
        · rename_i h; cases hi; exact h.2
        · cases hi
      · cases hi
    simp only [List.getElem?_eq_getElem hl, nth, List.getD_eq_getElem?_getD]
    rfl
theorem Acy {α : Type} (l : List α) : l.toArray.toList = l := rfl
theorem AjY {α : Type} (l : List α) (i : Nat) : l.toArray[i]? = l[i]? := by simp
theorem Agu (x : Int) : AV.int .i64 x = i64 x := rfl
theorem closed_i64 (x : Int) : (i64 x).closed = true := by simp [i64, AV.closed]
theorem closed_u8 (x : UInt8) : (u8 x).closed = true := by simp [u8, AV.closed]
theorem closed_bool (x : Bool) : (AV.bool x).closed = true := by simp [AV.closed]
theorem closed_str (x : List UInt8) : (AV.str x).closed = true := by simp [AV.closed]
theorem closed_sl (f : Bool) (x : List (List AV)) : (AV.sl f x).closed = true := by simp [AV.closed]
theorem cells_i64 (x : Int) : (i64 x).cells? = some [i64 x] := rfl
theorem cells_u8 (x : UInt8) : (u8 x).cells? = some [u8 x] := rfl
theorem cells_u32 (x : UInt32) : (u32 x).cells? = some [u32 x] := rfl
theorem cells_u64 (x : UInt64) : (u64 x).cells? = some [u64 x] := rfl
theorem cells_bool (x : Bool) : (AV.bool x).cells? = some [.bool x] := rfl
theorem cells_str (x : List UInt8) : (AV.str x).cells? = some [.str x] := rfl
theorem cells_sl (f : Bool) (x : List (List AV)) : (AV.sl f x).cells? = some [.sl f x] := rfl
theorem cells_bs (f : Bool) (a b c d : Nat) : (AV.bs f a b c d).cells? = some [.bs f a b c d] := rfl
theorem cells_nref (a : Nat) : (AV.nref a).cells? = some [.nref a] := rfl
theorem cells_mref (a : Nat) : (AV.mref a).cells? = some [.mref a] := rfl
theorem cells_tref (a b : Nat) : (AV.tref a b).cells? = some [.tref a b] := rfl
theorem cells_ref (a b : Nat) : (AV.ref a b).cells? = some [.ref a b] := rfl
theorem cells_agg (x : List AV) : (AV.agg x).cells? = some x := rfl
theorem fz_i64 (x : Int) : fz σ (i64 x) = some (i64 x) := rfl
theorem fz_u8 (x : UInt8) : fz σ (u8 x) = some (u8 x) := rfl
theorem fz_u32 (x : UInt32) : fz σ (u32 x) = some (u32 x) := rfl
theorem fz_u64 (x : UInt64) : fz σ (u64 x) = some (u64 x) := rfl
theorem fz_bool (x : Bool) : fz σ (.bool x) = some (.bool x) := rfl
theorem fz_str (x : List UInt8) : fz σ (.str x) = some (.str x) := rfl
theorem fz_sl (f : Bool) (x : List (List AV)) : fz σ (.sl f x) = some (.sl false x) := rfl
theorem fz_fn0 (f : FuncId) : fz σ (.fn f []) = some (.fn f []) := rfl
theorem fz_bs (f : Bool) (id tot off len : Nat) : fz σ (.bs f id tot off len) = match σ[id]? with
    | some (.buf k els ro) => if els.length = tot ∧ Cp els = true then some (.sl false ((els.drop off).take len)) else none
    | _ => none := rfl
def fzCells (σ : Ab) : List AV → Option (List AV)
  | [] => some []
  | x :: l => (B5 σ x).bind fun y => (fzCells σ l).bind fun ys => some (y :: ys)
theorem Ti (σ : Ab) : ∀ l : List AV, l.mapM (B5 σ) = fzCells σ l
  | [] => rfl
  | x :: l => by rw [List.mapM_cons, Ti σ l]; rfl
theorem fz_agg (cs : List AV) : fz σ (.agg cs) = (fzCells σ cs).bind fun ys => some (.agg ys) := by
  show (cs.mapM (B5 σ)).map AV.agg = _
  rw [Ti]; cases fzCells σ cs <;> rfl
theorem fzC_i64 (x : Int) : B5 σ (i64 x) = some (i64 x) := rfl
theorem fzC_u8 (x : UInt8) : B5 σ (u8 x) = some (u8 x) := rfl
theorem fzC_u32 (x : UInt32) : B5 σ (u32 x) = some (u32 x) := rfl
theorem fzC_u64 (x : UInt64) : B5 σ (u64 x) = some (u64 x) := rfl
theorem fzC_bool (x : Bool) : B5 σ (.bool x) = some (.bool x) := rfl
theorem fzC_str (x : List UInt8) : B5 σ (.str x) = some (.str x) := rfl
theorem fzC_sl (f : Bool) (x : List (List AV)) : B5 σ (.sl f x) = some (.sl false x) := rfl
theorem fzC_bs (f : Bool) (id tot off len : Nat) : B5 σ (.bs f id tot off len) = match σ[id]? with
    | some (.buf k els ro) => if els.length = tot ∧ Cp els = true then some (.sl false ((els.drop off).take len)) else none
    | _ => none := rfl
theorem fzR_tup (xs : List AV) : fzR σ (.tup xs) = (fzL σ xs).bind fun ys => some (.tup ys) := by
  show (xs.mapM (fz σ)).map AV.tup = _
  rw [AbC]; cases fzL σ xs <;> rfl
theorem fzR_i64 (x : Int) : fzR σ (i64 x) = some (i64 x) := rfl
theorem fzR_u8 (x : UInt8) : fzR σ (u8 x) = some (u8 x) := rfl
theorem fzR_u32 (x : UInt32) : fzR σ (u32 x) = some (u32 x) := rfl
theorem fzR_u64 (x : UInt64) : fzR σ (u64 x) = some (u64 x) := rfl
theorem fzR_bool (x : Bool) : fzR σ (.bool x) = some (.bool x) := rfl
theorem fzR_str (x : List UInt8) : fzR σ (.str x) = some (.str x) := rfl
theorem fzR_sl (f : Bool) (x : List (List AV)) : fzR σ (.sl f x) = fz σ (.sl f x) := rfl
theorem fzR_bs (f : Bool) (a b c d : Nat) : fzR σ (.bs f a b c d) = fz σ (.bs f a b c d) := rfl
theorem fzR_agg (x : List AV) : fzR σ (.agg x) = fz σ (.agg x) := rfl
theorem AlP (b : Bool) : Wl .not (.bool b) = some (.bool !b) := rfl
theorem AkV {t : TypeId} {ts : List TypeId} (x : AV) : Cs E σ .len (t :: ts) [x] = (AeV E σ t x).map fun (n : Nat) => (AV.int .i64 (n : Int), σ) := rfl
theorem Ai0 {t : TypeId} {ts : List TypeId} (x y : AV) : Cs E σ .copy (t :: ts) [x, y] = AdY E σ t x y := rfl
theorem Vr : Cp [] = true := rfl
theorem Sn {x : List AV} {l : List (List AV)} : Cp (x :: l) = (x.all AV.closed && Cp l) := rfl
theorem V1 {l m : List (List AV)} : Cp (l ++ m) = (Cp l && Cp m) := by simp [Cp]
def AoH (d : Option Tmp) (fr : Fr) : Option (AV × Ab) → Option (Fr × Ab)
  | none => none
  | some r => some (put d r.1 fr, r.2)
def AhR (E : Env) (dr : Bool) (ops : Array Oper) (o : Oper) (σ : Ab) (r : Option (AV × Ab)) : Option (AV × Ab) :=
  match dr, o.op with
  | true, .buildSlice .. => r.bind (Jq (Ky E ops o) σ)
  | true, .convert .. => r.bind (Jq (Ky E ops o) σ)
  | _, _ => r
theorem Ain {dr : Bool} {ops : Array Oper} {o : Oper} {σ : Ab} {r : Option (AV × Ab)} : AhR E dr ops o σ r = r.bind (Jq (dr && Ky E ops o) σ) := by
  have e : ∀ σ, Jq false σ = some := fun σ => by funext r; simp [Jq]
  cases dr with
  | false =>
    have : AhR E false ops o σ r = r := by unfold AhR; split <;> first | rfl | (rename_i h _; cases h)
    rw [this, Bool.false_and, e, C7]
  | true =>
    rw [Bool.true_and]
    cases hf : Ky E ops o with
    | false =>
      unfold AhR
      split
      · rw [hf]
      · rw [hf]
      · rw [e, C7]
    | true =>
      rcases Gx hf with ⟨t, n, l, h⟩ | ⟨s, d, x, h, _⟩
      · unfold AhR; simp only [h, hf]
      · unfold AhR; simp only [h, hf]
def goO (E : Env) (orc : Orc) (dr : Bool) (n : Nat) (ops : Array Oper) (o : Oper) (s : Fr × Ab) (wt : Option Bool) : Option (Fr × Ab) :=
  match wt with
  | some true => AoH o.dst (Ke dr n o.op s).1 (AhR E dr ops o (Ke dr n o.op s).2 (opL E orc dr (evL n (Ke dr n o.op s).1) (Ke dr n o.op s).2 o.op))
  | some false => some (put o.dst (.tup []) s.1, s.2)
  | none => none
def Agp (E : Env) (orc : Option Tmp → Orc) (dr : Bool) (n : Nat) (ops : Array Oper) (o : Oper) : Option (Fr × Ab) → Option (Fr × Ab)
  | none => none
  | some s => goO E (orc o.dst) dr n ops o s (Wy ops n s.1 o)
def Qt (E : Env) (orc : Option Tmp → Orc) (dr : Bool) (n : Nat) (ops : Array Oper) : List Oper → Option (Fr × Ab) → Option (Fr × Ab)
  | [], s => s
  | o :: l, s => Qt E orc dr n ops l (Agp E orc dr n ops o s)
def AnH (ts : List Nat) : Option (Fr × Ab) → Option (Fr × Ab)
  | none => none
  | some s => some (keep ts s.1, s.2)
theorem Agn {orc : Option Tmp → Orc} {dr : Bool} {n : Nat} {ops : Array Oper} {o : Oper} {s : Fr × Ab} : Agp E orc dr n ops o (some s) = X8 E orc dr n ops o s := by
  unfold X8
  show goO E (orc o.dst) dr n ops o s (Wy ops n s.1 o) = _
  unfold goO
  split
  · rename_i h
    simp only [h, Ain]
    unfold AoH
    cases (opL E (orc o.dst) dr (evL n (Ke dr n o.op s).1) (Ke dr n o.op s).2 o.op).bind (Jq (dr && Ky E ops o) (Ke dr n o.op s).2) <;> rfl
  · rename_i h; simp only [h]
  · rename_i h; simp only [h]
theorem Qb {orc : Option Tmp → Orc} {dr : Bool} {n : Nat} {ops : Array Oper} : ∀ l : List Oper, Qt E orc dr n ops l none = none
  | [] => rfl
  | _ :: l => Qb l
theorem M3 {orc : Option Tmp → Orc} {dr : Bool} {n : Nat} {ops : Array Oper} : ∀ (l : List Oper) (s : Fr × Ab), Qt E orc dr n ops l (some s) = E2 E orc dr n ops l s
  | [], _ => rfl
  | o :: l, s => by
    show Qt E orc dr n ops l (Agp E orc dr n ops o (some s)) = (X8 E orc dr n ops o s).bind _
    rw [Agn]
    cases X8 E orc dr n ops o s with
    | none => exact Qb l
    | some s' => exact M3 l s'
theorem AhY {orc : Option Tmp → Orc} {dr : Bool} {n : Nat} {l : List Oper} {ts : List Nat} {s : Fr × Ab} : Oy E orc dr n l ts s = AnH ts (Qt E orc dr n l.toArray l (some s)) := by
  rw [M3]
  unfold Oy AnH
  cases E2 E orc dr n l.toArray l s <;> rfl
attribute [go_sem] AhY Qt Agp goO AoH AnH AhR Jq Ky Aik AiZ Eb Kd List.any_cons List.any_nil Bool.or_false Bool.or_true Bool.false_or Bool.true_or Nat.reduceBEq
theorem Aej (t : Tmp) : Rb (.tmp t) = false := rfl
theorem AeJ (k : IntKind) (n : Int) : Rb (.const (.int k n)) = false := rfl
theorem Aff (s : ByteArray) : Rb (.const (.string s)) = false := rfl
theorem Ach (b : Bool) : Rb (.const (.bool b)) = false := rfl
theorem AeA : Rb (.const .nilIface) = true := rfl
theorem Aof (x y : Option AV) : goB true x y = x := rfl
theorem Apg (x y : Option AV) : goB false x y = y := rfl
theorem Zu (id : Nat) : Gt id (.val (.pointer none)) = .nref id := rfl
theorem AcI (id : Nat) (f : Bool) (l : List (List AV)) : Gt id (.sl f l) = .sl f l := rfl
attribute [go_sem] Zu AcI
theorem Adn {op : BinOp} {T : TypeId} : L3 E op T (.val .nilIface) = goB (Nl E T) (eqB op true) none := by
  simp only [L3]; cases Nl E T <;> rfl
theorem AfC {op : BinOp} {T t : TypeId} {v : AV} : L3 E op T (.iface t v) = goB (Nl E T) (eqB op false) none := by
  simp only [L3]; cases Nl E T <;> rfl
attribute [go_sem] Aej AeJ Aff Ach AeA Aof Apg Adn AfC eqB
attribute [go_sem] Gk put keep evL Wy Xe opL Sj AeT Abb fzL Acy AjY Zj AaG Aaz AaJ Zs AaO Acx Aae Zm Aa1 Aau Z8 Z1 AaU Acu Adf Acl Adb Acp Afb Acb Adk Ab6 Adr AcM Acg Acv Ss Zx Z9 Zf Adi Aa5 Aai Z7 Qp Qr Q5 AcQ Aap X4 Aac Aa0 AaF Xk E0 Aah Zz Aa6 AaE Z6 AaM Aaw Aid AmJ Ajp Aii Af7 Akb Kx Agu Qi Ub Amn Aef Agi Apj Ana Ao8 AmT AkO Aoz Apr L_ok L_closed bytesOf_L L_bytes closed_i64 closed_u8 closed_bool closed_str closed_sl cells_i64 cells_u8 cells_u32 cells_u64 cells_bool cells_str cells_sl cells_bs cells_ref cells_tref cells_nref cells_mref cells_agg fz_i64 fz_u8 fz_u32 fz_u64 fz_bool fz_str fz_sl fz_fn0 fz_bs fz_agg fzCells fzC_i64 fzC_u8 fzC_u32 fzC_u64 fzC_bool fzC_str fzC_sl fzC_bs fzR_tup fzR_i64 fzR_u8 fzR_u32 fzR_u64 fzR_bool fzR_str fzR_sl fzR_bs fzR_agg loadA storeA splice partA TD.isAgg G6 H4 AeV C2 Xy AdV Yq AaA D4 Ox AlP H6 J9 Dh Hq Abf AkV Ai0 AdY Vr Sn V1 AeR Aje AgT Afw Ad3 Abo Yf ownT cU8 cU32 cU64 Nc AiK Tj cSl Aon AnY AnR ApT
end Go.Rv
