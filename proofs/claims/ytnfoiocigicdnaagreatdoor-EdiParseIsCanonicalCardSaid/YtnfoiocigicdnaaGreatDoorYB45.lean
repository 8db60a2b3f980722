/-
  EdiParseIsCanonical: every string of at most 2000 bytes that Parse accepts is the message of the item that it returns, with bytes from 32 to 126, an apostrophe at its end and nowhere else. The row lists eight package variables; the card ties them to the program's text. No other condition.
-/
import Derived.Test.YtnfoiocigicdnaaGreatDoorCards
import Derived.Test.YtnfoiocigicdnaaGreatDoorTie
import Derived.Test.YtnfoiocigicdnaaGreatDoorYB40
import Derived.Test.YtnfoiocigicdnaaGreatDoorYB42
namespace Go.Proofs.YtnfoiocigicdnaaGreatDoor
open Go.Rv Go.ChangeShapes Go.WideShapes Go.ChangeAt Go.RowKit
set_option linter.unusedVariables false
set_option maxRecDepth 100000 in
theorem H0 (os : Os) (started : os.Started) (H : Type) (enc : TypeId × Value → H) :
    ReturnsInHanded {} Tryz.checked os 7 .any (fun w args => (Rows.ediParseIsCanonicalSpec.pre enc Tryz.prog Tryz.f7 Rows.ediParseIsCanonicalRow.domain false w args ∧ laidMetH Tryz.prog Hm w) ∧ sizedMet enc Tryz.prog Tryz.f7 (OpenSpec.ofChange Rows.ediParseIsCanonicalSpec) false w args)
      (Rows.ediParseIsCanonicalSpec.post enc Tryz.prog Tryz.f7 false true false false) := by
  refine returnsInHanded_of_change_and (C := Tryz.checked) (X := fun w _ => laidMetH Tryz.prog Hm w) (fun _ _ _ hh h => h.of_heap hh) own started (by kernel_rfl) Tryz.func7
    (ChangeSpec.witness_shaped (enc := enc) (C := Tryz.checked) (os := os) (X := fun w _ => laidMetH Tryz.prog Hm w) false (World.laidAll Tryz.prog os Hm) #[.string ⟨#[]⟩] 8 (World.laidAll_os _ _ _) (World.shaped_of_ZipB (by kernel_rfl) (by kernel_rfl)) (by kernel_rfl) (by kernel_rfl) (by kernel_rfl) (Pm os _)) ?_
  intro W base args ds gs before hval0 hW _ _ hL _
  have hval : ∀ (j : Nat) t v, Tryz.f7.params[j]? = some t → args[j]? = some v → Value.okWide Tryz.prog W .any base t v := hval0
  have hW' := hW
  obtain ⟨p, q, hA0, hV, rfl, hfz, hnd⟩ := hW
  have hA : DataW.TrodAll enc Tryz.prog W 0 (fun _ => true) true Tryz.f7.params.toList args.toList ds p := hA0
  rw [Tryz.params7] at hA hval
  obtain ⟨v0, vs0, d0, ds0, p0, q0, hargs, rfl, rfl, h0, r0⟩ := trodAll_cons hA
  obtain ⟨rfl, rfl, rfl⟩ := trodAll_nil r0
  obtain rfl : args = #[v0] := by cases args; simp_all
  obtain ⟨rfl, rfl⟩ := trodVars_none hV
  obtain ⟨x0, hsz0, hok0, hrep0⟩ := Ady Adx (fun x => ⟨_, rfl⟩) (M5 Tryz.underlying9 (hval 0 9 v0 rfl rfl)) h0 (pr := Aw (B.env fun _ => False) []) (fun a => I3 a)
  refine (K1 (G5 (Acx hok0)) Tryz.func7 rfl (by decide +kernel) hL (args := #[v0]) ⟨hrep0 _ rfl, trivial⟩).mono fun e W' ⟨he, hbel⟩ => ?_
  exact ⟨_, he, Pf hW' rfl rfl rfl Tryz.underlying4 Tq (by decide +kernel) hbel⟩
theorem ediParseIsCanonical_said : Rows.EdiParseIsCanonicalSaid :=
  OpenClaim.holds_of_wide 7 Tryz.f7 rfl rfl rfl rfl rfl rfl rfl ⟨rfl, rfl, rfl, rfl, rfl⟩ rfl rfl rfl rfl rfl (by kernel_rfl) Tryz.func7 (by kernel_rfl)
    (of_decide_eq_true (by kernel_rfl)) (by unfold Func.isWrapper; first | (rw [if_pos (by decide +kernel)]; kernel_rfl) | (rw [if_neg (by decide +kernel)]; exact ⟨rfl, rfl⟩))
    (fun os started H enc _ => H0 os started H enc)
theorem ediParseIsCanonical_card : Rows.EdiParseIsCanonicalCardSaid :=
  Claim7.holds_tied_plain_at .later [] [.data, .data, .data, .data, .sentinel, .sentinel, .widerDeep, .pinned] true (true, "25eb2ff2271b5f38caeebaded5aa82fa7120d76630f645dd4b7446138721088c") true ediParseIsCanonical_said (fun _ h => by cases h) (by kernel_rfl) (fun _ h => by cases h) ediParseIsCanonical_row_tie rfl ⟨rfl, rfl⟩ (by kernel_rfl) rfl
    (fun f fn hf hfn => by
      obtain rfl : f = 7 := Option.some.inj ((show Tryz.prog.funcNamed "wagonpool/wagonpoollaw11.EdiParseIsCanonical" = some 7 by kernel_rfl).symm.trans hf) |>.symm
      obtain rfl : fn = Tryz.f7 := (Option.some.inj (Tryz.func7.symm.trans hfn)).symm
      exact ⟨by kernel_rfl, fun j t ht => by
        rw [Tryz.params7] at ht
        have hm : t ∈ [9] := by simpa using Array.mem_of_getElem? ht
        have hall : ([9].all fun u => !Tryz.prog.wantsStandIn u) = true := by kernel_rfl
        exact (show Tryz.prog.wantsStandIn t = false by simpa using List.all_eq_true.1 hall t hm)⟩)
    (by kernel_rfl)
end Go.Proofs.YtnfoiocigicdnaaGreatDoor
