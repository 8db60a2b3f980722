/-
  FrameRoundTrip: a new receiver that is fed the frames of a list of byte sequences receives exactly those of at most 8192 bytes, in order, and no damaged frame; Make returns ErrLimit for the others; likewise if consecutive frames share the flag. Condition: the arguments are of bulk at most 1048576 (UptoSaid).
-/
import Derived.Test.YtneejmndnihaoaaL0
import Derived.Test.YtneejmndnihaoaaGW8
import Derived.Test.YtneejmndnihaoaaA6
namespace Go.Proofs.Ytneejmndnihaoaa
open Go.Rv Go.ChangeShapes Go.WideShapes Go.ChangeAt Go.RowKit
set_option linter.unusedVariables false

theorem cells_of_22 : Try.prog.cellsOf 22 = 1 := by kernel_rfl
theorem opens32 : Opens Try.prog (fun H => Rows.uptoBulk (H := H)) 32 (cSl (cSl cU8)) (szL (szL fun _ => 1)) (fun l => l.length ≤ maxLen ∧ ∀ x ∈ l, x.length ≤ maxLen ∧ ∀ y ∈ x, True) :=
  opens_slice bulk_ok Try.underlying32 cells_of_22 (fun _ => rfl) opens22

theorem szL_tot (l : List (List UInt8)) : tot l ≤ szL (szL fun _ => 1) l := by
  have h1 : ∀ b : List UInt8, szL (fun _ => 1) b = b.length + 1 := by
    intro b
    unfold szL
    congr 1
    induction b with
    | nil => rfl
    | cons x b ih => simp only [List.map_cons, List.sum_cons, List.length_cons, ih]; omega
  unfold tot
  rw [szL]
  have : l.map (szL fun _ => 1) = l.map fun b => b.length + 1 := List.map_congr_left fun b _ => h1 b
  rw [this]
  omega

theorem frameRound_contract (H : Type) (enc : TypeId × Value → H) (W : World) (base : Nat) (args : Array Value) (ds gs : List (DataW H)) (before : List MemPlace)
    (hval : ∀ (j : Nat) t v, Try.f5.params[j]? = some t → args[j]? = some v → Value.okWide Try.prog W .any base t v)
    (hW : DataW.Whole enc Try.prog Try.f5.params.toList Rows.frameRoundTripSpec.vars false W args.toList ds gs before) (hk : Rows.uptoSmall H (ds ++ gs) = true) :
    Calls Try.prog 5 args W fun e W' => ∃ v, e = .returned v ∧ Rows.frameRoundTripSpec.post enc Try.prog Try.f5 false true false false W args v W' := by
  have hW' := hW
  obtain ⟨p, q, hA0, hV, rfl, hfz, hnd⟩ := hW
  have hA : DataW.TrodAll enc Try.prog W 0 (fun _ => true) true Try.f5.params.toList args.toList ds p := hA0
  rw [Try.params5] at hA hval
  obtain ⟨v0, vs0, d0, ds0, p0, q0, hargs, rfl, rfl, h0, r0⟩ := trodAll_cons hA
  obtain ⟨rfl, rfl, rfl⟩ := trodAll_nil r0
  obtain rfl : args = #[v0] := by cases args; simp_all
  obtain ⟨rfl, rfl⟩ := trodVars_none hV
  obtain ⟨l, hsz, _, hrep⟩ := arg_one opens32 (fun x => ⟨_, rfl⟩) (vcells_slice Try.underlying32 (hval 0 32 v0 rfl rfl)) h0 (pr := prot (B.env fun _ => False) []) (fun a => prot_empty a)
  have hbulk : Rows.uptoBulk d0 ≤ 1048576 := by
    have := of_decide_eq_true hk
    simpa [Rows.uptoBulkAll] using this
  refine (law_calls G_none (law10_FrameRoundTrip_con (law_roundtrip l (Nat.le_trans (szL_tot l) (Nat.le_trans hsz hbulk)))) (W := W) (args := #[v0]) ⟨hrep _ rfl, trivial⟩).mono fun e W' ⟨he, hbel⟩ => ?_
  exact ⟨_, he, law_post hW' rfl rfl rfl Try.underlying4 laid_ok (by decide +kernel) hbel⟩

set_option maxRecDepth 100000 in
theorem frameRound_lifted (os : Os) (started : os.Started) (H : Type) (enc : TypeId × Value → H) (F : Stop.Interp) :
    ReturnsInHanded {} Try.checked os 5 .any ((Rows.OpenSpec.upto Rows.frameRoundTripSpec).pre6 enc Try.prog Try.f5 Rows.frameRoundTripUptoRow.domain false) (((Rows.OpenSpec.upto Rows.frameRoundTripSpec).at F).post enc Try.prog Try.f5 false true false false) := by
  refine returnsInHanded_of_cond (C := Try.checked) (s := Rows.OpenSpec.upto Rows.frameRoundTripSpec) (k := Rows.uptoSmall) rfl own started (by kernel_rfl) Try.func5
    (OpenSpec.witness (enc := enc) (C := Try.checked) (s := Rows.OpenSpec.upto Rows.frameRoundTripSpec) (k := Rows.uptoSmall) rfl false ⟨#[], #[.slice none 0 0], []⟩ 8 (by kernel_rfl) (by kernel_rfl) (by kernel_rfl)
      (x := ([.nil], [], [])) (by kernel_rfl) rfl (by kernel_rfl)) ?_
  intro W base args ds gs before hval hW _ hk _
  exact frameRound_contract H enc W base args ds gs before hval hW hk

theorem frameRound_upto : Rows.FrameRoundTripUptoSaid :=
  OpenClaim.holds_of_cond 5 Try.f5 rfl rfl rfl rfl rfl rfl rfl ⟨rfl, rfl, rfl, rfl, rfl⟩ rfl rfl rfl rfl rfl (by kernel_rfl) Try.func5 (by kernel_rfl)
    (of_decide_eq_true (by kernel_rfl)) (by unfold Func.isWrapper; first | (rw [if_pos (by decide +kernel)]; kernel_rfl) | (rw [if_neg (by decide +kernel)]; exact ⟨rfl, rfl⟩))
    (fun os started H enc _ F => frameRound_lifted os started H enc F)

end Go.Proofs.Ytneejmndnihaoaa
