/-
  EdiFramed: the message of an item (a text of at most 2000 bytes, at most 20 components), sent in a frame that arrives in two pieces, is received as the only content, and parsed as the item. The row lists eight package variables; the card ties them to the program's text. No other condition.
-/
import Derived.Test.YtnfoiocigicdnaaGreatDoorCards
import Derived.Test.YtnfoiocigicdnaaGreatDoorTie
import Derived.Test.YtnfoiocigicdnaaGreatDoorYF40
import Derived.Test.YtnfoiocigicdnaaGreatDoorYF44
import Derived.Test.YtnfoiocigicdnaaGreatDoorYF45
namespace Go.Proofs.YtnfoiocigicdnaaGreatDoor
open Go.Rv Go.ChangeShapes Go.WideShapes Go.ChangeAt Go.RowKit
set_option linter.unusedVariables false
set_option maxRecDepth 100000 in
theorem Nm (os : Os) (started : os.Started) (H : Type) (enc : TypeId × Value → H) :
    ReturnsInHanded {} Tryz.checked os 10 .any (fun w args => (Rows.ediFramedSpec.pre enc Tryz.prog Tryz.f10 Rows.ediFramedRow.domain false w args ∧ laidMetH Tryz.prog Nn w) ∧ sizedMet enc Tryz.prog Tryz.f10 (OpenSpec.ofChange Rows.ediFramedSpec) false w args)
      (Rows.ediFramedSpec.post enc Tryz.prog Tryz.f10 false true false false) := by
  refine returnsInHanded_of_change_and (C := Tryz.checked) (X := fun w _ => laidMetH Tryz.prog Nn w) (fun _ _ _ hh h => h.of_heap hh) own started (by kernel_rfl) Tryz.func10
    (ChangeSpec.witness_shaped (enc := enc) (C := Tryz.checked) (os := os) (X := fun w _ => laidMetH Tryz.prog Nn w) false (World.laidAll Tryz.prog os Nn) #[.agg #[.int .i64 0, .int .i64 0, .int .i64 0, .int .i64 0, .int .i64 0, .int .i64 0, .int .i64 0, .int .i64 0, .int .i64 0, .int .i64 0, .int .i64 0, .int .i64 0, .int .i64 0, .int .i64 0, .string ⟨#[]⟩, .slice none 0 0], .int .i64 0] 8 (World.laidAll_os _ _ _) (World.shaped_of_ZipB (by kernel_rfl) (by kernel_rfl)) (by kernel_rfl) (by kernel_rfl) (by kernel_rfl) (AfO os _)) ?_
  intro W base args ds gs before hval0 hW _ _ hL _
  have hval : ∀ (j : Nat) t v, Tryz.f10.params[j]? = some t → args[j]? = some v → Value.okWide Tryz.prog W .any base t v := hval0
  have hW' := hW
  obtain ⟨p, q, hA0, hV, rfl, hfz, hnd⟩ := hW
  have hA : DataW.TrodAll enc Tryz.prog W 0 (fun _ => true) true Tryz.f10.params.toList args.toList ds p := hA0
  rw [Tryz.params10] at hA hval
  obtain ⟨v0, vs0, d0, ds0, p0, q0, hargs, rfl, rfl, h0, r0⟩ := trodAll_cons hA
  obtain ⟨v1, vs1, d1, ds1, p1, q1, rfl, rfl, rfl, h1, r1⟩ := trodAll_cons r0
  obtain ⟨rfl, rfl, rfl⟩ := trodAll_nil r1
  obtain rfl : args = #[v0, v1] := by cases args; simp_all
  obtain ⟨rfl, rfl⟩ := trodVars_none hV
  obtain ⟨x0, hsz0, hok0, hrep0⟩ := Ahw Tryz.underlying41 (hval 0 41 v0 rfl rfl) Ahg h0 (pr := Av (B.env fun _ => False) []) (fun a => Q4 a)
  obtain ⟨x1, hsz1, hok1, hrep1⟩ := Ail Fv (fun x => ⟨_, rfl⟩) (Abl Tryz.underlying3 (hval 1 3 v1 rfl rfl)) h1 (pr := Av (B.env fun _ => False) []) (fun a => Q4 a)
  refine (Abe (Kr (Xx hok0 hok1)) Tryz.func10 rfl (by decide +kernel) hL (args := #[v0, v1]) ⟨hrep0, hrep1 _ rfl, trivial⟩).mono fun e W' ⟨he, hbel⟩ => ?_
  exact ⟨_, he, Aeu hW' rfl rfl rfl Tryz.underlying4 AgR (by decide +kernel) hbel⟩
theorem ediFramed_said : Rows.EdiFramedSaid :=
  OpenClaim.holds_of_wide 10 Tryz.f10 rfl rfl rfl rfl rfl rfl rfl ⟨rfl, rfl, rfl, rfl, rfl⟩ rfl rfl rfl rfl rfl (by kernel_rfl) Tryz.func10 (by kernel_rfl)
    (of_decide_eq_true (by kernel_rfl)) (by unfold Func.isWrapper; first | (rw [if_pos (by decide +kernel)]; kernel_rfl) | (rw [if_neg (by decide +kernel)]; exact ⟨rfl, rfl⟩))
    (fun os started H enc _ => Nm os started H enc)
theorem ediFramed_card : Rows.EdiFramedCardSaid :=
  Claim7.holds_tied_plain_at .later [] [.data, .data, .data, .data, .sentinel, .sentinel, .widerDeep, .pinned] true (true, "25eb2ff2271b5f38caeebaded5aa82fa7120d76630f645dd4b7446138721088c") true ediFramed_said (fun _ h => by cases h) (by kernel_rfl) (fun _ h => by cases h) ediFramed_row_tie rfl ⟨rfl, rfl⟩ (by kernel_rfl) rfl
    (fun f fn hf hfn => by
      obtain rfl : f = 10 := Option.some.inj ((show Tryz.prog.funcNamed "wagonpool/wagonpoollaw11.EdiFramed" = some 10 by kernel_rfl).symm.trans hf) |>.symm
      obtain rfl : fn = Tryz.f10 := (Option.some.inj (Tryz.func10.symm.trans hfn)).symm
      exact ⟨by kernel_rfl, fun j t ht => by
        rw [Tryz.params10] at ht
        have hm : t ∈ [41, 3] := by simpa using Array.mem_of_getElem? ht
        have hall : ([41, 3].all fun u => !Tryz.prog.wantsStandIn u) = true := by kernel_rfl
        exact (show Tryz.prog.wantsStandIn t = false by simpa using List.all_eq_true.1 hall t hm)⟩)
    (by kernel_rfl)
end Go.Proofs.YtnfoiocigicdnaaGreatDoor
