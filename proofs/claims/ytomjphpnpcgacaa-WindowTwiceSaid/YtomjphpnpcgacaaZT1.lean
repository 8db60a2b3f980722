/-
  WindowTwice. No condition.
-/
import Derived.Test.YtomjphpnpcgacaaZC3
namespace Go.Proofs.Ytomjphpnpcgacaa
open Go.Rv Go.ChangeShapes Go.WideShapes Go.ChangeAt Go.RowKit
set_option linter.unusedVariables false

set_option maxRecDepth 100000 in
theorem windowTwice_contract (H : Type) (enc : TypeId × Value → H) (W : World) (base : Nat) (args : Array Value) (ds gs : List (DataW H)) (before : List MemPlace)
    (hval0 : ∀ (j : Nat) t v, Try.f7.params[j]? = some t → args[j]? = some v → Value.okWide Try.prog W .any base t v)
    (hW : DataW.Whole enc Try.prog Try.f7.params.toList Rows.windowTwiceSpec.vars false W args.toList ds gs before) :
    Calls Try.prog 7 args W fun e W' => ∃ v, e = .returned v ∧ Rows.windowTwiceSpec.post enc Try.prog Try.f7 false true false false W args v W' := by
  have hval : ∀ (j : Nat) t v, Try.f7.params[j]? = some t → args[j]? = some v → Value.okWide Try.prog W .any base t v := hval0
  have hW' := hW
  obtain ⟨p, q, hA0, hV, rfl, hfz, hnd⟩ := hW
  have hA : DataW.TrodAll enc Try.prog W 0 (fun _ => true) true Try.f7.params.toList args.toList ds p := hA0
  rw [Try.params7] at hA hval
  obtain ⟨v0, vs0, d0, ds0, p0, q0, hargs, rfl, rfl, h0, r0⟩ := trodAll_cons hA
  obtain ⟨v1, vs1, d1, ds1, p1, q1, rfl, rfl, rfl, h1, r1⟩ := trodAll_cons r0
  obtain ⟨rfl, rfl, rfl⟩ := trodAll_nil r1
  obtain rfl : args = #[v0, v1] := by cases args; simp_all
  obtain ⟨rfl, rfl⟩ := trodVars_none hV
  obtain ⟨x0, hsz0, hok0, hrep0⟩ := arg_agg Try.underlying25 (hval 0 25 v0 rfl rfl) opens25 h0 (pr := prot (B.env fun _ => False) []) (fun a => prot_empty a)
  obtain ⟨x1, hsz1, hok1, hrep1⟩ := arg_agg Try.underlying39 (hval 1 39 v1 rfl rfl) opens39 h1 (pr := prot (B.env fun _ => False) []) (fun a => prot_empty a)
  refine (law_calls G_none (law12_WindowTwice_con (law_twice x0 x1 )) Try.func7 rfl (by decide +kernel) (W := W) (args := #[v0, v1]) ⟨hrep0, hrep1, trivial⟩).mono fun e W' ⟨he, hbel⟩ => ?_
  exact ⟨_, he, law_post hW' rfl rfl rfl Try.underlying4 laid_ok (by decide +kernel) hbel⟩

set_option maxRecDepth 100000 in
theorem windowTwice_lifted (os : Os) (started : os.Started) (H : Type) (enc : TypeId × Value → H) :
    ReturnsInHanded {} Try.checked os 7 .any (Rows.windowTwiceSpec.pre6 enc Try.prog Try.f7 Rows.windowTwiceRow.domain false) (Rows.windowTwiceSpec.post enc Try.prog Try.f7 false true false false) := by
  refine returnsInHanded_of_change (C := Try.checked) own started (by kernel_rfl) Try.func7
    (ChangeSpec.witness6 (enc := enc) (C := Try.checked) false ⟨#[], #[.agg #[.int .i64 0, .int .i64 0, .int .i64 0, .slice none 0 0, .int .i64 0, .slice none 0 0, .int .i64 0], .agg #[.int .i64 0, .int .i64 0, .int .i64 0, .int .i64 0, .slice none 0 0]], []⟩ 8 (by kernel_rfl) (by kernel_rfl) (by kernel_rfl) (by kernel_rfl)) ?_
  intro W base args ds gs before hval hW _ _
  exact windowTwice_contract H enc W base args ds gs before hval hW

theorem windowTwice_said : Rows.WindowTwiceSaid :=
  OpenClaim.holds_of_wide 7 Try.f7 rfl rfl rfl rfl rfl rfl rfl ⟨rfl, rfl, rfl, rfl, rfl⟩ rfl rfl rfl rfl rfl (by kernel_rfl) Try.func7 (by kernel_rfl)
    (of_decide_eq_true (by kernel_rfl)) (by unfold Func.isWrapper; first | (rw [if_pos (by decide +kernel)]; kernel_rfl) | (rw [if_neg (by decide +kernel)]; exact ⟨rfl, rfl⟩))
    (fun os started H enc _ => windowTwice_lifted os started H enc)

end Go.Proofs.Ytomjphpnpcgacaa
