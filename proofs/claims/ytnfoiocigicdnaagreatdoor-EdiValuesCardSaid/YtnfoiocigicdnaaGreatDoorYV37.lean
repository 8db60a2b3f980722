/-
  Part 37.
-/
import Derived.Test.YtnfoiocigicdnaaGreatDoorYV36
import Derived.Laws.Externs
import Derived.Lib.AppendZerosOnto
namespace Go.Rv
open Go.RowKit
set_option linter.unusedVariables false
set_option linter.unusedSimpArgs false
variable {E : Env}
@[go_sem] theorem Anw (f : FuncId) (l : List AV) : (AV.fn f l).cells? = some [.fn f l] := rfl
theorem Ae (n : Nat) : (((no_index (OfNat.ofNat n)) : Nat) : Int) = (no_index (OfNat.ofNat n) : Int) := rfl
def Aft : AV → Option Nat
  | .ref id _ => some id
  | _ => none
def Al7 : Op → Option Nat
  | .load _ (.tmp p) => some p
  | .fieldAddr _ (.tmp p) _ => some p
  | _ => none
def AhL : Op → Option Nat
  | .store _ (.tmp q) _ => some q
  | _ => none
def Ahn : Op → Bool
  | .buildSlice .. => true
  | _ => false
inductive Sep (E : Env) (orc : Option Tmp → Orc) (ops : Array Oper) (x y : Oper) (frF : List AV) : Prop
  | call (p a : Nat) (hp : Al7 y.op = some p) (ha : Aft (ev frF (.tmp p)) = some a) (hx : ∀ σ σ1 v, Ib E orc ops x frF σ = some (v, σ1) → σ1[a]? = σ[a]?)
  | Gk (p q a b : Nat) (hp : Al7 x.op = some p) (hq : AhL y.op = some q) (ha : Aft (ev frF (.tmp p)) = some a) (hb : Aft (ev frF (.tmp q)) = some b) (hne : a ≠ b)
  | fa (s : TypeId) (p f a : Nat) (ho : y.op = .fieldAddr s (.tmp p) f) (ha : Aft (ev frF (.tmp p)) = some a)
  | build (q b : Nat) (hx : Ahn x.op = true) (hf : Ky E ops x = false) (hq : AhL y.op = some q) (hb : Aft (ev frF (.tmp q)) = some b)
def AbY (ops : Array Oper) (ts : List Nat) (ok : Nat → Bool) (t : Nat) : Bool :=
  ts.contains t && (List.range ops.size).all fun k => ok k || (match ops[k]? with
    | some o => o.dst != some t
    | none => true)
open Go.RowKit
variable {E : Env} {w : World} {g : Gh} {σ : Ab}
def At (w : World) (a : Addr) (vs : Array Value) : Prop := ∀ j, j < vs.size → w.cell? (a.add j) = some (vs.getD j undef)
theorem At.mono {w w' : World} {a : Addr} {vs : Array Value} (h : At w a vs) (hw : ∀ j u, j < vs.size → w.cell? (a.add j) = some u → w'.cell? (a.add j) = some u) : At w' a vs :=
  fun j hj => hw j _ hj (h j hj)
open Go.RowKit
variable {E : Env}
def Acq (n : Nat) : ABlk := .buf 0 (List.replicate (n + 1) []) false
def Wc (n : Nat) : GB := ⟨none, 0, 0, n + 1, 0, false, false⟩
attribute [go_sem] Acq
end Go.Rv
