/-
  DigestValues, the row and the tied card of its second form. The row lists the package variable digest.k with the round constants; the card ties it to the program's text. Conditions: the arguments are of bulk at most 1048576 (Upto) and no value holds itself (the row's 'loops').
-/
import Derived.Test.YtgdiabbgiiemcaaDoorL0
import Derived.Test.YtgdiabbgiiemcaaDoorR30
import Derived.Test.YtgdiabbgiiemcaaDoorDW12
import Derived.Test.YtgdiabbgiiemcaaDoorA7
import Derived.Test.YtgdiabbgiiemcaaDoorE3
import Derived.Test.YtgdiabbgiiemcaaDoorCards
import Derived.Test.YtgdiabbgiiemcaaDoorTie
namespace Go.Proofs.YtgdiabbgiiemcaaDoor
open Go.Rv Go.ChangeShapes Go.WideShapes Go.ChangeAt Go.RowKit
set_option linter.unusedVariables false

theorem cells_of_38 : Tryd.prog.cellsOf 38 = 4 := by kernel_rfl
theorem cells_of_3 : Tryd.prog.cellsOf 3 = 1 := by kernel_rfl
theorem cells_of_36 : Tryd.prog.cellsOf 36 = 1 := by kernel_rfl
theorem opens38 : Opens Tryd.prog (fun H => Rows.uptoBulk (H := H)) 38 cApi_Value szV okV :=
  opens_of_at (opensAt_value bulk_ok Tryd.underlying38 rfl cells_of_38 cells_of_3 cells_of_22 cells_of_36 (opens_i64 bulk_ok Tryd.underlying3) opens22 Tryd.underlying36)

theorem digestValues_contract (H : Type) (enc : TypeId × Value → H) (W : World) (base : Nat) (args : Array Value) (ds gs : List (DataW H)) (before : List MemPlace)
    (hval0 : ∀ (j : Nat) t v, Tryd.f7.params[j]? = some t → args[j]? = some v → Value.okWide Tryd.prog W .any base t v)
    (hW : DataW.Whole enc Tryd.prog Tryd.f7.params.toList Rows.digestValuesSpec.vars false W args.toList ds gs before) (hk : Rows.uptoSmall H (ds ++ gs) = true) (hL : laidMetH Tryd.prog laidK W) :
    Calls Tryd.prog 7 args W fun e W' => ∃ v, e = .returned v ∧ Rows.digestValuesSpec.post enc Tryd.prog Tryd.f7 false true false false W args v W' := by
  have hval : ∀ (j : Nat) t v, Tryd.f7.params[j]? = some t → args[j]? = some v → Value.okWide Tryd.prog W .any base t v := hval0
  have hW' := hW
  obtain ⟨p, q, hA0, hV, rfl, hfz, hnd⟩ := hW
  have hA : DataW.TrodAll enc Tryd.prog W 0 (fun _ => true) true Tryd.f7.params.toList args.toList ds p := hA0
  rw [Tryd.params7] at hA hval
  obtain ⟨v0, vs0, d0, ds0, p0, q0, hargs, rfl, rfl, h0, r0⟩ := trodAll_cons hA
  obtain ⟨v1, vs1, d1, ds1, p1, q1, rfl, rfl, rfl, h1, r1⟩ := trodAll_cons r0
  obtain ⟨rfl, rfl, rfl⟩ := trodAll_nil r1
  obtain rfl : args = #[v0, v1] := by cases args; simp_all
  obtain ⟨rfl, rfl⟩ := trodVars_none hV
  obtain ⟨x0, _, _, hrep0⟩ := arg_one opens9 (fun x => ⟨_, rfl⟩) (vcells_string Tryd.underlying9 (hval 0 9 v0 rfl rfl)) h0 (pr := prot (B.env fun _ => False) []) (fun a => prot_empty a)
  obtain ⟨x1, hsz1, _, hrep1⟩ := arg_agg Tryd.underlying38 (hval 1 38 v1 rfl rfl) opens38 h1 (pr := prot (B.env fun _ => False) []) (fun a => prot_empty a)
  have hbulk : Rows.uptoBulk d0 + Rows.uptoBulk d1 ≤ 1048576 := by
    have := of_decide_eq_true hk
    simpa [Rows.uptoBulkAll] using this
  have hsz1' : szV x1 ≤ Rows.uptoBulk d1 := hsz1
  rw [cApi_Value_eq] at hrep1
  refine (law_callsK (law02_DigestValues_con (law_values x0 x1 (by omega))) hL (args := #[v0, v1]) ⟨hrep0 _ rfl, hrep1, trivial⟩).mono fun e W' ⟨he, hbel⟩ => ?_
  exact ⟨_, he, law_post hW' rfl rfl rfl Tryd.underlying4 laid_ok (by decide +kernel) hbel⟩

set_option maxRecDepth 100000 in
theorem digestValues_lifted (os : Os) (started : os.Started) (H : Type) (enc : TypeId × Value → H) (F : Stop.Interp) :
    ReturnsInHanded {} Tryd.checked os 7 .any ((Rows.OpenSpec.upto Rows.digestValuesSpec).preRow enc Tryd.prog Tryd.f7 Rows.digestValuesUptoRow.domain false Rows.digestValuesUptoRow.laid) (((Rows.OpenSpec.upto Rows.digestValuesSpec).at F).post enc Tryd.prog Tryd.f7 false true false false) := by
  have hx : DataW.whole enc Tryd.prog ((World.laidAll Tryd.prog os laidK).forCall (fun _ _ => 0) ⟨#[], #[.string ⟨#[]⟩, .agg #[.int .i64 0, .int .i64 0, .slice none 0 0, .slice none 0 0]], []⟩).memory Tryd.f7.params.toList (Rows.OpenSpec.upto Rows.digestValuesSpec).vars false
      (#[.string ⟨#[]⟩, .agg #[.int .i64 0, .int .i64 0, .slice none 0 0, .slice none 0 0]] : Array Value).toList 8 = some ([.lit (.string []), .agg [.lit (.int .i64 0), .lit (.int .i64 0), .nil, .nil]], [], []) := by kernel_rfl
  refine returnsInHanded_of_row (C := Tryd.checked) (s := Rows.OpenSpec.upto Rows.digestValuesSpec) own started (by kernel_rfl) Tryd.func7
    (witness_row_shaped (enc := enc) (C := Tryd.checked) false (World.laidAll Tryd.prog os laidK) #[.string ⟨#[]⟩, .agg #[.int .i64 0, .int .i64 0, .slice none 0 0, .slice none 0 0]] (World.laidAll_os _ _ _)
      (World.shaped_of_ZipB (by kernel_rfl) (by kernel_rfl)) (by kernel_rfl)
      (OpenSpec.preRow_of_cond 8 hx (by kernel_rfl) (fun k hk => by cases hk; kernel_rfl) (by kernel_rfl)
        (by
          show laidMetH Tryd.prog laidK _
          rw [MakeChecks.laidMetH_plain _ _ _ (by kernel_rfl)]; exact laidMet_laidAll _ (by kernel_rfl) (by kernel_rfl)))) ?_
  intro W base args ds gs before hval hW _ hcond _ hL _ _
  exact digestValues_contract H enc W base args ds gs before hval hW (hcond _ rfl) hL

theorem digestValues_upto : Rows.DigestValuesUptoSaid :=
  OpenClaim.holds_of_cond 7 Tryd.f7 rfl rfl rfl rfl rfl rfl rfl ⟨rfl, rfl, rfl, rfl, rfl⟩ rfl rfl rfl rfl rfl (by kernel_rfl) Tryd.func7 (by kernel_rfl)
    (of_decide_eq_true (by kernel_rfl)) (by unfold Func.isWrapper; first | (rw [if_pos (by decide +kernel)]; kernel_rfl) | (rw [if_neg (by decide +kernel)]; exact ⟨rfl, rfl⟩))
    (fun os started H enc _ F => by rw [OpenClaim.pre_eq_preRow]; exact digestValues_lifted os started H enc F)

theorem digestValues_uptoCard : Rows.DigestValuesUptoCardSaid :=
  Claim7.holds_tied_plain_at .later [] [.data] true (true, "a1c244332572b145f00de350d6ccd962b4588ef0f273993736dea75cc4c474ad") false digestValues_upto (fun _ h => by cases h) (by kernel_rfl) (fun _ h => by cases h) digestValuesUpto_row_tie rfl ⟨rfl, rfl⟩ (by kernel_rfl) rfl
    (fun f fn hf hfn => by
      obtain rfl : f = 7 := Option.some.inj ((show Tryd.prog.funcNamed "wagonpool/wagonpoollaw02.DigestValues" = some 7 by kernel_rfl).symm.trans hf) |>.symm
      obtain rfl : fn = Tryd.f7 := (Option.some.inj (Tryd.func7.symm.trans hfn)).symm
      exact ⟨by kernel_rfl, fun j t ht => by
        rw [Tryd.params7] at ht
        have hm : t ∈ [9, 38] := by simpa using Array.mem_of_getElem? ht
        have hall : ([9, 38].all fun u => !Tryd.prog.wantsStandIn u) = true := by kernel_rfl
        exact (show Tryd.prog.wantsStandIn t = false by simpa using List.all_eq_true.1 hall t hm)⟩)
    (by kernel_rfl)

end Go.Proofs.YtgdiabbgiiemcaaDoor
