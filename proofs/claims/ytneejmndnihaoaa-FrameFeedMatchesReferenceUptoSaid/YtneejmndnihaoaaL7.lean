/-
  FrameFeedMatchesReference: Feed of the program and of the reference return the same. Condition: the arguments are of bulk at most 1048576 (UptoSaid).
-/
import Derived.Test.YtneejmndnihaoaaL0
import Derived.Test.YtneejmndnihaoaaGW9
import Derived.Test.YtneejmndnihaoaaA9
namespace Go.Proofs.Ytneejmndnihaoaa
open Go.Rv Go.ChangeShapes Go.WideShapes Go.ChangeAt Go.RowKit
set_option linter.unusedVariables false

theorem cells_22 : Try.prog.cellsOf 22 = 1 := by kernel_rfl
theorem cells_4 : Try.prog.cellsOf 4 = 1 := by kernel_rfl
theorem cells_31 : Try.prog.cellsOf 31 = 4 := by kernel_rfl
theorem opens4 : Opens Try.prog (fun H => Rows.uptoBulk (H := H)) 4 cBool (fun _ => 1) (fun _ => True) := opens_bool bulk_ok Try.underlying4

theorem opens31 : Opens Try.prog (fun H => Rows.uptoBulk (H := H)) 31 cApi_Deframer (fun d => d.Rest.length) (fun _ => True) :=
  opens_struct bulk_ok Try.underlying31 (n := 4) cells_31
    (opensFs_cons (k := 1) rfl cells_22 (fun _ => rfl) opens22 (opensFs_cons (k := 1) rfl cells_4 (fun _ => rfl) opens4 (opensFs_cons (k := 1) rfl cells_4 (fun _ => rfl) opens4 (opensFs_cons (k := 1) rfl cells_4 (fun _ => rfl) opens4 opensFs_nil))))
    (fun x => (⟨x.1, x.2.1, x.2.2.1, x.2.2.2.1⟩ : Api_Deframer)) (fun _ => rfl) (fun _ => rfl)
    (fun x => by
      have h : x.1.length ≤ szL (fun _ => 1) x.1 := by
        unfold szL
        generalize x.1 = l
        induction l with
        | nil => simp
        | cons a l ih => simp only [List.map_cons, List.sum_cons, List.length_cons] at ih ⊢; omega
      exact Nat.le_trans h (Nat.le_add_right _ _))
    (fun _ _ => trivial)

theorem szL_len (b : List UInt8) : b.length ≤ szL (fun _ => 1) b := by
  unfold szL
  induction b with
  | nil => simp
  | cons x b ih => simp only [List.map_cons, List.sum_cons, List.length_cons] at ih ⊢; omega

theorem feedref_contract (H : Type) (enc : TypeId × Value → H) (W : World) (base : Nat) (args : Array Value) (ds gs : List (DataW H)) (before : List MemPlace)
    (hval : ∀ (j : Nat) t v, Try.f4.params[j]? = some t → args[j]? = some v → Value.okWide Try.prog W .any base t v)
    (hW : DataW.Whole enc Try.prog Try.f4.params.toList Rows.frameFeedMatchesReferenceSpec.vars false W args.toList ds gs before) (hk : Rows.uptoSmall H (ds ++ gs) = true) :
    Calls Try.prog 4 args W fun e W' => ∃ v, e = .returned v ∧ Rows.frameFeedMatchesReferenceSpec.post enc Try.prog Try.f4 false true false false W args v W' := by
  have hW' := hW
  obtain ⟨p, q, hA0, hV, rfl, hfz, hnd⟩ := hW
  have hA : DataW.TrodAll enc Try.prog W 0 (fun _ => true) true Try.f4.params.toList args.toList ds p := hA0
  rw [Try.params4] at hA hval
  obtain ⟨v0, vs0, d0, ds0, p0, q0, hargs, rfl, rfl, h0, r0⟩ := trodAll_cons hA
  obtain ⟨v1, vs1, d1, ds1, p1, q1, rfl, rfl, rfl, h1, r1⟩ := trodAll_cons r0
  obtain ⟨rfl, rfl, rfl⟩ := trodAll_nil r1
  obtain rfl : args = #[v0, v1] := by cases args; simp_all
  obtain ⟨rfl, rfl⟩ := trodVars_none hV
  obtain ⟨d, hsz0, _, hrep0⟩ := arg_agg Try.underlying31 (hval 0 31 v0 rfl rfl) opens31 h0 (pr := prot (B.env fun _ => False) []) (fun a => prot_empty a)
  obtain ⟨a, hsz1, _, hrep1⟩ := arg_one opens22 (fun x => ⟨_, rfl⟩) (vcells_slice Try.underlying22 (hval 1 22 v1 rfl rfl)) h1 (pr := prot (B.env fun _ => False) []) (fun a => prot_empty a)
  have hbulk : Rows.uptoBulk d0 + Rows.uptoBulk d1 ≤ 1048576 := by
    have := of_decide_eq_true hk
    simpa [Rows.uptoBulkAll] using this
  have ha := szL_len a
  have hlen : d.Rest.length + a.length ≤ 4000000 := by
    have e0 : d.Rest.length ≤ Rows.uptoBulk d0 := hsz0
    have e1 : a.length ≤ Rows.uptoBulk d1 := Nat.le_trans ha hsz1
    omega
  refine (law_calls G_none (law10_FrameFeedMatchesReference_con (law_feedref d a hlen)) (W := W) (args := #[v0, v1]) ⟨hrep0, hrep1 _ rfl, trivial⟩).mono fun e W' ⟨he, hbel⟩ => ?_
  exact ⟨_, he, law_post hW' rfl rfl rfl Try.underlying4 laid_ok (by decide +kernel) hbel⟩

set_option maxRecDepth 100000 in
theorem feedref_lifted (os : Os) (started : os.Started) (H : Type) (enc : TypeId × Value → H) (F : Stop.Interp) :
    ReturnsInHanded {} Try.checked os 4 .any ((Rows.OpenSpec.upto Rows.frameFeedMatchesReferenceSpec).pre6 enc Try.prog Try.f4 Rows.frameFeedMatchesReferenceUptoRow.domain false) (((Rows.OpenSpec.upto Rows.frameFeedMatchesReferenceSpec).at F).post enc Try.prog Try.f4 false true false false) := by
  refine returnsInHanded_of_cond (C := Try.checked) (s := Rows.OpenSpec.upto Rows.frameFeedMatchesReferenceSpec) (k := Rows.uptoSmall) rfl own started (by kernel_rfl) Try.func4
    (OpenSpec.witness (enc := enc) (C := Try.checked) (s := Rows.OpenSpec.upto Rows.frameFeedMatchesReferenceSpec) (k := Rows.uptoSmall) rfl false ⟨#[], #[.agg #[.slice none 0 0, .bool false, .bool false, .bool false], .slice none 0 0], []⟩ 8 (by kernel_rfl) (by kernel_rfl) (by kernel_rfl)
      (x := ([.agg [.nil, .lit (.bool false), .lit (.bool false), .lit (.bool false)], .nil], [], [])) (by kernel_rfl) rfl (by kernel_rfl)) ?_
  intro W base args ds gs before hval hW _ hk _
  exact feedref_contract H enc W base args ds gs before hval hW hk

theorem frameFeedMatchesReference_upto : Rows.FrameFeedMatchesReferenceUptoSaid :=
  OpenClaim.holds_of_cond 4 Try.f4 rfl rfl rfl rfl rfl rfl rfl ⟨rfl, rfl, rfl, rfl, rfl⟩ rfl rfl rfl rfl rfl (by kernel_rfl) Try.func4 (by kernel_rfl)
    (of_decide_eq_true (by kernel_rfl)) (by unfold Func.isWrapper; first | (rw [if_pos (by decide +kernel)]; kernel_rfl) | (rw [if_neg (by decide +kernel)]; exact ⟨rfl, rfl⟩))
    (fun os started H enc _ F => feedref_lifted os started H enc F)

end Go.Proofs.Ytneejmndnihaoaa
