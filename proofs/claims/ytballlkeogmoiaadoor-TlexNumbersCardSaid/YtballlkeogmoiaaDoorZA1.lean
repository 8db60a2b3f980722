/-
  TlexNumbers, the row and the tied card. The row lists the package variables (maps of signs and of reserved words); the card ties them to the program's text. No other condition.
-/
import Derived.Test.YtballlkeogmoiaaDoorZC2
import Derived.Test.YtballlkeogmoiaaDoorCards
import Derived.Test.YtballlkeogmoiaaDoorTie
namespace Go.Proofs.YtballlkeogmoiaaDoor
open Go.Rv Go.ChangeShapes Go.WideShapes Go.ChangeAt Go.RowKit
set_option linter.unusedVariables false

set_option maxRecDepth 100000 in
theorem tlexNumbers_lifted (os : Os) (started : os.Started) (H : Type) (enc : TypeId × Value → H) :
    ReturnsInHanded {} Tryd.checked os 9 .any (fun w args => (Rows.tlexNumbersSpec.pre enc Tryd.prog Tryd.f9 Rows.tlexNumbersRow.domain false w args ∧ laidMetH Tryd.prog laidN w) ∧ sizedMet enc Tryd.prog Tryd.f9 (OpenSpec.ofChange Rows.tlexNumbersSpec) false w args)
      (Rows.tlexNumbersSpec.post enc Tryd.prog Tryd.f9 false true false false) := by
  refine returnsInHanded_of_change_and (C := Tryd.checked) (X := fun w _ => laidMetH Tryd.prog laidN w) (fun _ _ _ hh h => h.of_heap hh) own started (by kernel_rfl) Tryd.func9
    (ChangeSpec.witness_shaped (enc := enc) (C := Tryd.checked) (os := os) (X := fun w _ => laidMetH Tryd.prog laidN w) false (World.doorLaid Tryd.prog 289 os) #[.int .i64 0] 8 rfl (World.shaped_of_RefB (by kernel_rfl) (by kernel_rfl)) (by kernel_rfl) (by kernel_rfl) (by kernel_rfl) (door_metN os _)) ?_
  intro W base args ds gs before hval0 hW _ _ hL _
  have hval : ∀ (j : Nat) t v, Tryd.f9.params[j]? = some t → args[j]? = some v → Value.okWide Tryd.prog W .any base t v := hval0
  have hW' := hW
  obtain ⟨p, q, hA0, hV, rfl, hfz, hnd⟩ := hW
  have hA : DataW.TrodAll enc Tryd.prog W 0 (fun _ => true) true Tryd.f9.params.toList args.toList ds p := hA0
  rw [Tryd.params9] at hA hval
  obtain ⟨rs, hmem⟩ := mem_mapsN hL
  obtain ⟨v0, vs0, d0, ds0, p0, q0, hargs, rfl, rfl, h0, r0⟩ := trodAll_cons hA
  obtain ⟨rfl, rfl, rfl⟩ := trodAll_nil r0
  obtain rfl : args = #[v0] := by cases args; simp_all
  obtain ⟨rfl, rfl⟩ := trodVars_none hV
  obtain ⟨x0, hsz0, hok0, hrep0⟩ := arg_one opens3 (fun x => ⟨_, rfl⟩) (vcells_int Tryd.underlying3 (hval 0 3 v0 rfl rfl)) h0 (pr := prot ((B rs).env fun _ => False) []) (fun a => prot_empty a)
  refine (law_callsM (law15_TlexNumbers_con (law_numbers x0 hok0)) Tryd.func9 rfl (by decide +kernel) hmem (args := #[v0]) ⟨hrep0 _ rfl, trivial⟩).mono fun e W' ⟨he, hbel⟩ => ?_
  exact ⟨_, he, law_post hW' rfl rfl rfl Tryd.underlying4 laid_ok (by decide +kernel) hbel⟩

theorem tlexNumbers_said : Rows.TlexNumbersSaid :=
  OpenClaim.holds_of_wide 9 Tryd.f9 rfl rfl rfl rfl rfl rfl rfl ⟨rfl, rfl, rfl, rfl, rfl⟩ rfl rfl rfl rfl rfl (by kernel_rfl) Tryd.func9 (by kernel_rfl)
    (of_decide_eq_true (by kernel_rfl)) (by unfold Func.isWrapper; first | (rw [if_pos (by decide +kernel)]; kernel_rfl) | (rw [if_neg (by decide +kernel)]; exact ⟨rfl, rfl⟩))
    (fun os started H enc _ => tlexNumbers_lifted os started H enc)

theorem tlexNumbers_card : Rows.TlexNumbersCardSaid :=
  Claim7.holds_tied_plain_at .later [] [.data, .data, .data, .mapped, .mapped] true (true, "a4ddf060793f7cfb00ed28f1246388e6b583351a8da7ab14a2dddaa4028344c3") false tlexNumbers_said (fun _ h => by cases h) (by kernel_rfl) (fun _ h => by cases h) tlexNumbers_row_tie rfl ⟨rfl, rfl⟩ (by kernel_rfl) rfl
    (fun f fn hf hfn => by
      obtain rfl : f = 9 := Option.some.inj ((show Tryd.prog.funcNamed "wagonpool/wagonpoollaw15.TlexNumbers" = some 9 by kernel_rfl).symm.trans hf) |>.symm
      obtain rfl : fn = Tryd.f9 := (Option.some.inj (Tryd.func9.symm.trans hfn)).symm
      exact ⟨by kernel_rfl, fun j t ht => by
        rw [Tryd.params9] at ht
        have hm : t ∈ [3] := by simpa using Array.mem_of_getElem? ht
        have hall : ([3].all fun u => !Tryd.prog.wantsStandIn u) = true := by kernel_rfl
        exact (show Tryd.prog.wantsStandIn t = false by simpa using List.all_eq_true.1 hall t hm)⟩)
    (by kernel_rfl)

end Go.Proofs.YtballlkeogmoiaaDoor
