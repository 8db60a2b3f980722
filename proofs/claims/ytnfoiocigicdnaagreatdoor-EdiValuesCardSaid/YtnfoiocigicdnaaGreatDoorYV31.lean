/-
  Part 31.
-/
import Derived.Test.YtnfoiocigicdnaaGreatDoorYV30
import Derived.Laws.Externs
namespace Go.Rv
set_option linter.unusedVariables false
set_option linter.unusedSimpArgs false
theorem Ael {B : Base} {f : FuncId} {fn : Func} {e : Array Value → Sem Value} {args : List AV} {r : AV} (hf : B.P.funcs[f]? = some fn) (hname : (fn.name == "runtime.NumGoroutine") = false) (hb : fn.body.isNone = true)
    (hn : Extern.findNext fn = none) (he : Extern.find fn = some e)
    (h : ∀ (pr : Addr → Prop) (w : World) (vs : Array Value), Cm w pr [] vs.toList args → ∃ v, (e vs).run B.P w = .ok v w ∧ Rep w pr [] v r) : Con B f args [] (fun r' σ' => r' = r ∧ σ' = []) := by
  refine ⟨fun F w g vs hm ha => .inr ?_⟩
  have hg : g = [] := List.length_eq_zero_iff.1 hm.len
  subst hg
  obtain ⟨v, h1, h2⟩ := h _ w vs ha
  refine ⟨v, ?_, v, r, [], [], rfl, ⟨rfl, rfl⟩, hm, Evo.refl _ _ _ _, h2⟩
  rw [run_callFunc_extern hf hname hb hn he, h1]
  rfl
theorem run_loadBytes {P : Program} {w : World} : ∀ (l : List UInt8) (a : Addr) (acc : ByteArray), (∀ (i : Nat) (b : UInt8), l[i]? = some b → w.cell? (a.add i) = some (.int .u8 (b.toNat : Int))) →
    (Extern.Bytes.loadBytes a l.length acc).run P w = .ok ⟨acc.data ++ l.toArray⟩ w
  | [], a, acc, _ => by simp [Extern.Bytes.loadBytes]
  | b :: l, a, acc, h => by
    have h0 := h 0 b rfl
    rw [add_zero] at h0
    have ih := run_loadBytes (P := P) (w := w) l (a.add 1) (acc.push b) (fun i c hi => by
      rw [K2, Nat.add_comm]
      exact h (i + 1) c (by simpa using hi))
    have hb : (Int.toNat (b.toNat : Int)).toUInt8 = b := by
      rw [Int.toNat_natCast]; exact UInt8.ofNat_toNat
    simp only [List.length_cons, Extern.Bytes.loadBytes, Sem.run_bind, run_load, h0, Result.andThen_ok, hb, ih]
    refine congrArg (fun x => Result.ok x w) ?_
    refine ByteArray.ext ?_
    show (acc.data.push b) ++ l.toArray = _
    apply Array.ext'
    simp
theorem P7 {P : Program} {w : World} {pr : Addr → Prop} {g : Gh} {v : Value} {full : Bool} {l : List UInt8} (h : Rep w pr g v (.sl full (L cU8 l))) : (Extern.Bytes.bytesOf v).run P w = .ok ⟨l.toArray⟩ w := by
  cases h with
  | sl _ a len cap _ _ k c hlen hcap hfull hnone hk hc hr =>
    have hl : l.length = len := by rw [← hlen]; simp [L]
    cases a with
    | none =>
      have := hnone rfl
      have he : l = [] := List.length_eq_zero_iff.1 (by omega)
      subst he
      rfl
    | some a =>
      subst hl
      have := run_loadBytes (P := P) (w := w) l a .empty (fun i b hi => by
        have h1 : (L cU8 l)[i]? = some [u8 b] := by simp [L, hi, cU8]
        have hk1 := hk i _ h1
        have : k = 1 := by simpa using hk1.symm
        subst this
        obtain ⟨a', e1, e2, _, _⟩ := hc i _ 0 _ h1 rfl
        cases e1
        have h3 := hr i _ 0 _ h1 rfl
        have h4 : c i 0 = .int .u8 (b.toNat : Int) := Cl h3
        rw [h4] at e2
        simpa using e2)
      simp only [Extern.Bytes.bytesOf, this]
      refine congrArg (fun x => Result.ok x w) ?_
      refine ByteArray.ext ?_
      show (#[] ++ l.toArray : Array UInt8) = _
      simp
def Px (a b : List UInt8) : Int := Extern.BytealgCompare.cmp ⟨a.toArray⟩ ⟨b.toArray⟩
def R7 (a b : List UInt8) : Option Int := some (Px a b)
theorem AaD {B : Base} {f : FuncId} {fn : Func} {a b : List UInt8} {x y : Bool} {r : Int} (hf : B.P.funcs[f]? = some fn) (hname : (fn.name == "runtime.NumGoroutine") = false) (hb : fn.body.isNone = true)
    (hn : Extern.findNext fn = none) (he : Extern.find fn = some Extern.BytealgCompare.compare) (h : R7 a b = some r) : Con B f [.sl x (L cU8 a), .sl y (L cU8 b)] [] (fun r' σ' => r' = i64 r ∧ σ' = []) := by
  refine Ael hf hname hb hn he fun pr w vs ha => ?_
  obtain ⟨vs⟩ := vs
  match vs, ha with
  | [u, v], ⟨h1, h2, _⟩ =>
    cases h
    refine ⟨.int .i64 (Px a b), ?_, .int _ _ _⟩
    show (do pure (goInt (Extern.BytealgCompare.cmp (← Extern.Bytes.bytesOf u) (← Extern.Bytes.bytesOf v))) : Sem Value).run B.P w = _
    simp only [Sem.run_bind, P7 h1, P7 h2, Result.andThen_ok, Sem.run_pure]
    rfl
end Go.Rv
