/-
  FrameDetects: at most four consecutive bytes changed change the checksum, and the frame with the old checksum is damaged. No condition.
-/
import Derived.Test.YtneejmndnihaoaaL0
import Derived.Test.YtneejmndnihaoaaGW9
import Derived.Test.YtneejmndnihaoaaA10
import Derived.Test.YtneejmndnihaoaaR27
import Derived.WalkKit
import Derived.ProofKit
import Derived.OpenShut
import Derived.JoinedCond
namespace Go.Proofs.Ytneejmndnihaoaa
open Go.Rv Go.ChangeShapes Go.WideShapes Go.ChangeAt Go.RowKit
set_option linter.unusedVariables false

theorem cells_42 : Try.prog.cellsOf 42 = 4 := by kernel_rfl
theorem opens3 : Opens Try.prog (fun H => Rows.uptoBulk (H := H)) 3 cI64 (fun _ => 1) (fun x => -9223372036854775808 ≤ x ∧ x ≤ 9223372036854775807) := opens_i64 bulk_ok Try.underlying3
theorem opens42 : Opens Try.prog (fun H => Rows.uptoBulk (H := H)) 42 (fun a : Arr UInt8 4 => C1 u8 a.l) (fun a => (a.l.map fun _ => 1).sum) (fun a => ∀ x ∈ a.l, True) :=
  opens_arr bulk_ok Try.underlying42 cells_42 cells_of_5 (opens_u8 bulk_ok Try.underlying5)

theorem frameDetects_contract (H : Type) (enc : TypeId × Value → H) (W : World) (base : Nat) (args : Array Value) (ds gs : List (DataW H)) (before : List MemPlace)
    (hval : ∀ (j : Nat) t v, Try.f9.params[j]? = some t → args[j]? = some v → Value.okWide Try.prog W .any base t v)
    (hW : DataW.Whole enc Try.prog Try.f9.params.toList Rows.frameDetectsSpec.vars false W args.toList ds gs before) :
    Calls Try.prog 9 args W fun e W' => ∃ v, e = .returned v ∧ Rows.frameDetectsSpec.post enc Try.prog Try.f9 false true false false W args v W' := by
  have hW' := hW
  obtain ⟨p, q, hA0, hV, rfl, hfz, hnd⟩ := hW
  have hA : DataW.TrodAll enc Try.prog W 0 (fun _ => true) true Try.f9.params.toList args.toList ds p := hA0
  rw [Try.params9] at hA hval
  obtain ⟨v0, vs0, d0, ds0, p0, q0, hargs, rfl, rfl, h0, r0⟩ := trodAll_cons hA
  obtain ⟨v1, vs1, d1, ds1, p1, q1, rfl, rfl, rfl, h1, r1⟩ := trodAll_cons r0
  obtain ⟨v2, vs2, d2, ds2, p2, q2, rfl, rfl, rfl, h2, r2⟩ := trodAll_cons r1
  obtain ⟨rfl, rfl, rfl⟩ := trodAll_nil r2
  obtain rfl : args = #[v0, v1, v2] := by cases args; simp_all
  obtain ⟨rfl, rfl⟩ := trodVars_none hV
  obtain ⟨b, hsz, ⟨hb, _⟩, hrep⟩ := arg_one opens22 (fun x => ⟨_, rfl⟩) (vcells_slice Try.underlying22 (hval 0 22 v0 rfl rfl)) h0 (pr := prot (B.env fun _ => False) []) (fun a => prot_empty a)
  obtain ⟨i, _, _, hrep1⟩ := arg_one opens3 (fun x => ⟨_, rfl⟩) (vcells_int Try.underlying3 (hval 1 3 v1 rfl rfl)) h1 (pr := prot (B.env fun _ => False) []) (fun a => prot_empty a)
  obtain ⟨y, _, _, hrep2⟩ := arg_arr Try.underlying42 (hval 2 42 v2 rfl rfl) opens42 h2 (pr := prot (B.env fun _ => False) []) (fun a => prot_empty a)
  refine (law_calls G_none (law10_FrameDetects_con (law_detects b i y hb)) (W := W) (args := #[v0, v1, v2]) ⟨hrep _ rfl, hrep1 _ rfl, hrep2, trivial⟩).mono fun e W' ⟨he, hbel⟩ => ?_
  exact ⟨_, he, law_post hW' rfl rfl rfl Try.underlying4 laid_ok (by decide +kernel) hbel⟩

set_option maxRecDepth 100000 in
theorem frameDetects_lifted (os : Os) (started : os.Started) (H : Type) (enc : TypeId × Value → H) :
    ReturnsInHanded {} Try.checked os 9 .any (Rows.frameDetectsSpec.pre6 enc Try.prog Try.f9 Rows.frameDetectsRow.domain false) (Rows.frameDetectsSpec.post enc Try.prog Try.f9 false true false false) := by
  refine returnsInHanded_of_change (C := Try.checked) own started (by kernel_rfl) Try.func9
    (ChangeSpec.witness6 (enc := enc) (C := Try.checked) false ⟨#[], #[.slice none 0 0, .int .i64 0, .agg #[.int .u8 0, .int .u8 0, .int .u8 0, .int .u8 0]], []⟩ 8 (by kernel_rfl) (by kernel_rfl) (by kernel_rfl) (by kernel_rfl)) ?_
  intro W base args ds gs before hval hW _ _
  exact frameDetects_contract H enc W base args ds gs before hval hW

theorem frameDetects_said : Rows.FrameDetectsSaid :=
  OpenClaim.holds_of_wide 9 Try.f9 rfl rfl rfl rfl rfl rfl rfl ⟨rfl, rfl, rfl, rfl, rfl⟩ rfl rfl rfl rfl rfl (by kernel_rfl) Try.func9 (by kernel_rfl)
    (of_decide_eq_true (by kernel_rfl)) (by unfold Func.isWrapper; first | (rw [if_pos (by decide +kernel)]; kernel_rfl) | (rw [if_neg (by decide +kernel)]; exact ⟨rfl, rfl⟩))
    (fun os started H enc _ => frameDetects_lifted os started H enc)

end Go.Proofs.Ytneejmndnihaoaa
