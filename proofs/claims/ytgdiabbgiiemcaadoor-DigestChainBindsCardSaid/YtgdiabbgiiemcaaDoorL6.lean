/-
  DigestChainBinds, the row and the tied card. The row lists the package variable digest.k with the round constants; the card ties it to the program's text. No other condition.
-/
import Derived.Test.YtgdiabbgiiemcaaDoorL0
import Derived.Test.YtgdiabbgiiemcaaDoorDW12
import Derived.Test.YtgdiabbgiiemcaaDoorA6
import Derived.Test.YtgdiabbgiiemcaaDoorCards
import Derived.Test.YtgdiabbgiiemcaaDoorTie
namespace Go.Proofs.YtgdiabbgiiemcaaDoor
open Go.Rv Go.ChangeShapes Go.WideShapes Go.ChangeAt Go.RowKit
set_option linter.unusedVariables false

set_option maxRecDepth 100000 in
theorem digestChainBinds_lifted (os : Os) (started : os.Started) (H : Type) (enc : TypeId × Value → H) :
    ReturnsInHanded {} Tryd.checked os 8 .any (fun w args => (Rows.digestChainBindsSpec.pre enc Tryd.prog Tryd.f8 Rows.digestChainBindsRow.domain false w args ∧ laidMetH Tryd.prog laidK w) ∧ sizedMet enc Tryd.prog Tryd.f8 (OpenSpec.ofChange Rows.digestChainBindsSpec) false w args)
      (Rows.digestChainBindsSpec.post enc Tryd.prog Tryd.f8 false true false false) := by
  refine returnsInHanded_of_change_and (C := Tryd.checked) (X := fun w _ => laidMetH Tryd.prog laidK w) (fun _ _ _ hh h => h.of_heap hh) own started (by kernel_rfl) Tryd.func8
    (ChangeSpec.witness_shaped (enc := enc) (C := Tryd.checked) (os := os) (X := fun w _ => laidMetH Tryd.prog laidK w) false (World.laidAll Tryd.prog os laidK) #[.agg (Array.replicate 32 (.int .u8 0)), .slice none 0 0, .slice none 0 0] 8 (World.laidAll_os _ _ _)
      (World.shaped_of_ZipB (by kernel_rfl) (by kernel_rfl)) (by kernel_rfl) (by kernel_rfl) (by kernel_rfl)
      (by rw [MakeChecks.laidMetH_plain _ _ _ (by kernel_rfl)]; exact laidMet_laidAll _ (by kernel_rfl) (by kernel_rfl))) ?_
  intro W base args ds gs before hval0 hW _ _ hL _
  have hval : ∀ (j : Nat) t v, Tryd.f8.params[j]? = some t → args[j]? = some v → Value.okWide Tryd.prog W .any base t v := hval0
  have hW' := hW
  obtain ⟨p, q, hA0, hV, rfl, hfz, hnd⟩ := hW
  have hA : DataW.TrodAll enc Tryd.prog W 0 (fun _ => true) true Tryd.f8.params.toList args.toList ds p := hA0
  rw [Tryd.params8] at hA hval
  obtain ⟨v0, vs0, d0, ds0, p0, q0, hargs, rfl, rfl, h0, r0⟩ := trodAll_cons hA
  obtain ⟨v1, vs1, d1, ds1, p1, q1, rfl, rfl, rfl, h1, r1⟩ := trodAll_cons r0
  obtain ⟨v2, vs2, d2, ds2, p2, q2, rfl, rfl, rfl, h2, r2⟩ := trodAll_cons r1
  obtain ⟨rfl, rfl, rfl⟩ := trodAll_nil r2
  obtain rfl : args = #[v0, v1, v2] := by cases args; simp_all
  obtain ⟨rfl, rfl⟩ := trodVars_none hV
  obtain ⟨x0, _, _, hrep0⟩ := arg_arr Tryd.underlying25 (hval 0 25 v0 rfl rfl) opens25 h0 (pr := prot (B.env fun _ => False) []) (fun a => prot_empty a)
  obtain ⟨x1, _, _, hrep1⟩ := arg_one opens45 (fun x => ⟨_, rfl⟩) (vcells_slice Tryd.underlying45 (hval 1 45 v1 rfl rfl)) h1 (pr := prot (B.env fun _ => False) []) (fun a => prot_empty a)
  obtain ⟨x2, _, _, hrep2⟩ := arg_one opens45 (fun x => ⟨_, rfl⟩) (vcells_slice Tryd.underlying45 (hval 2 45 v2 rfl rfl)) h2 (pr := prot (B.env fun _ => False) []) (fun a => prot_empty a)
  refine (law_callsK (law02_DigestChainBinds_con (law_chain x0 x1 x2)) hL (args := #[v0, v1, v2]) ⟨hrep0, hrep1 _ rfl, hrep2 _ rfl, trivial⟩).mono fun e W' ⟨he, hbel⟩ => ?_
  exact ⟨_, he, law_post hW' rfl rfl rfl Tryd.underlying4 laid_ok (by decide +kernel) hbel⟩

theorem digestChainBinds_said : Rows.DigestChainBindsSaid :=
  OpenClaim.holds_of_wide 8 Tryd.f8 rfl rfl rfl rfl rfl rfl rfl ⟨rfl, rfl, rfl, rfl, rfl⟩ rfl rfl rfl rfl rfl (by kernel_rfl) Tryd.func8 (by kernel_rfl)
    (of_decide_eq_true (by kernel_rfl)) (by unfold Func.isWrapper; first | (rw [if_pos (by decide +kernel)]; kernel_rfl) | (rw [if_neg (by decide +kernel)]; exact ⟨rfl, rfl⟩))
    (fun os started H enc _ => digestChainBinds_lifted os started H enc)

theorem digestChainBinds_card : Rows.DigestChainBindsCardSaid :=
  Claim7.holds_tied_plain_at .later [] [.data] true (true, "a1c244332572b145f00de350d6ccd962b4588ef0f273993736dea75cc4c474ad") false digestChainBinds_said (fun _ h => by cases h) (by kernel_rfl) (fun _ h => by cases h) digestChainBinds_row_tie rfl ⟨rfl, rfl⟩ (by kernel_rfl) rfl
    (fun f fn hf hfn => by
      obtain rfl : f = 8 := Option.some.inj ((show Tryd.prog.funcNamed "wagonpool/wagonpoollaw02.DigestChainBinds" = some 8 by kernel_rfl).symm.trans hf) |>.symm
      obtain rfl : fn = Tryd.f8 := (Option.some.inj (Tryd.func8.symm.trans hfn)).symm
      exact ⟨by kernel_rfl, fun j t ht => by
        rw [Tryd.params8] at ht
        have hm : t ∈ [25, 45, 45] := by simpa using Array.mem_of_getElem? ht
        have hall : ([25, 45, 45].all fun u => !Tryd.prog.wantsStandIn u) = true := by kernel_rfl
        exact (show Tryd.prog.wantsStandIn t = false by simpa using List.all_eq_true.1 hall t hm)⟩)
    (by kernel_rfl)

end Go.Proofs.YtgdiabbgiiemcaaDoor
