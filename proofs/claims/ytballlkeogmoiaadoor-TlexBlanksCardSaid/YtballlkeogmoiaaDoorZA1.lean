/-
  TlexBlanks, the row and the tied card. The row lists the package variables (maps of signs and of reserved words); the card ties them to the program's text. No other condition.
-/
import Derived.Test.YtballlkeogmoiaaDoorZC2
import Derived.Test.YtballlkeogmoiaaDoorCards
import Derived.Test.YtballlkeogmoiaaDoorTie
namespace Go.Proofs.YtballlkeogmoiaaDoor
open Go.Rv Go.ChangeShapes Go.WideShapes Go.ChangeAt Go.RowKit
set_option linter.unusedVariables false

set_option maxRecDepth 100000 in
theorem tlexBlanks_lifted (os : Os) (started : os.Started) (H : Type) (enc : TypeId × Value → H) :
    ReturnsInHanded {} Tryd.checked os 8 .any (fun w args => (Rows.tlexBlanksSpec.pre enc Tryd.prog Tryd.f8 Rows.tlexBlanksRow.domain false w args ∧ laidMetH Tryd.prog laidM w) ∧ sizedMet enc Tryd.prog Tryd.f8 (OpenSpec.ofChange Rows.tlexBlanksSpec) false w args)
      (Rows.tlexBlanksSpec.post enc Tryd.prog Tryd.f8 false true false false) := by
  refine returnsInHanded_of_change_and (C := Tryd.checked) (X := fun w _ => laidMetH Tryd.prog laidM w) (fun _ _ _ hh h => h.of_heap hh) own started (by kernel_rfl) Tryd.func8
    (ChangeSpec.witness_shaped (enc := enc) (C := Tryd.checked) (os := os) (X := fun w _ => laidMetH Tryd.prog laidM w) false (World.doorLaid Tryd.prog 289 os) #[.string ⟨#[]⟩, .int .i64 0, .string ⟨#[]⟩] 8 rfl (World.shaped_of_RefB (by kernel_rfl) (by kernel_rfl)) (by kernel_rfl) (by kernel_rfl) (by kernel_rfl) (door_met os _)) ?_
  intro W base args ds gs before hval0 hW _ _ hL _
  have hval : ∀ (j : Nat) t v, Tryd.f8.params[j]? = some t → args[j]? = some v → Value.okWide Tryd.prog W .any base t v := hval0
  have hW' := hW
  obtain ⟨p, q, hA0, hV, rfl, hfz, hnd⟩ := hW
  have hA : DataW.TrodAll enc Tryd.prog W 0 (fun _ => true) true Tryd.f8.params.toList args.toList ds p := hA0
  rw [Tryd.params8] at hA hval
  obtain ⟨rs, hmem⟩ := mem_maps hL
  obtain ⟨v0, vs0, d0, ds0, p0, q0, hargs, rfl, rfl, h0, r0⟩ := trodAll_cons hA
  obtain ⟨v1, vs1, d1, ds1, p1, q1, rfl, rfl, rfl, h1, r1⟩ := trodAll_cons r0
  obtain ⟨v2, vs2, d2, ds2, p2, q2, rfl, rfl, rfl, h2, r2⟩ := trodAll_cons r1
  obtain ⟨rfl, rfl, rfl⟩ := trodAll_nil r2
  obtain rfl : args = #[v0, v1, v2] := by cases args; simp_all
  obtain ⟨rfl, rfl⟩ := trodVars_none hV
  obtain ⟨x0, hsz0, hok0, hrep0⟩ := arg_one opens9 (fun x => ⟨_, rfl⟩) (vcells_string Tryd.underlying9 (hval 0 9 v0 rfl rfl)) h0 (pr := prot ((B rs).env fun _ => False) []) (fun a => prot_empty a)
  obtain ⟨x1, hsz1, hok1, hrep1⟩ := arg_one opens3 (fun x => ⟨_, rfl⟩) (vcells_int Tryd.underlying3 (hval 1 3 v1 rfl rfl)) h1 (pr := prot ((B rs).env fun _ => False) []) (fun a => prot_empty a)
  obtain ⟨x2, hsz2, hok2, hrep2⟩ := arg_one opens9 (fun x => ⟨_, rfl⟩) (vcells_string Tryd.underlying9 (hval 2 9 v2 rfl rfl)) h2 (pr := prot ((B rs).env fun _ => False) []) (fun a => prot_empty a)
  refine (law_callsM (law15_TlexBlanks_con (law_blanks x0 x1 x2)) Tryd.func8 rfl (by decide +kernel) hmem (args := #[v0, v1, v2]) ⟨hrep0 _ rfl, hrep1 _ rfl, hrep2 _ rfl, trivial⟩).mono fun e W' ⟨he, hbel⟩ => ?_
  exact ⟨_, he, law_post hW' rfl rfl rfl Tryd.underlying4 laid_ok (by decide +kernel) hbel⟩

theorem tlexBlanks_said : Rows.TlexBlanksSaid :=
  OpenClaim.holds_of_wide 8 Tryd.f8 rfl rfl rfl rfl rfl rfl rfl ⟨rfl, rfl, rfl, rfl, rfl⟩ rfl rfl rfl rfl rfl (by kernel_rfl) Tryd.func8 (by kernel_rfl)
    (of_decide_eq_true (by kernel_rfl)) (by unfold Func.isWrapper; first | (rw [if_pos (by decide +kernel)]; kernel_rfl) | (rw [if_neg (by decide +kernel)]; exact ⟨rfl, rfl⟩))
    (fun os started H enc _ => tlexBlanks_lifted os started H enc)

theorem tlexBlanks_card : Rows.TlexBlanksCardSaid :=
  Claim7.holds_tied_plain_at .later [] [.mapped, .mapped] true (true, "a4ddf060793f7cfb00ed28f1246388e6b583351a8da7ab14a2dddaa4028344c3") false tlexBlanks_said (fun _ h => by cases h) (by kernel_rfl) (fun _ h => by cases h) tlexBlanks_row_tie rfl ⟨rfl, rfl⟩ (by kernel_rfl) rfl
    (fun f fn hf hfn => by
      obtain rfl : f = 8 := Option.some.inj ((show Tryd.prog.funcNamed "wagonpool/wagonpoollaw15.TlexBlanks" = some 8 by kernel_rfl).symm.trans hf) |>.symm
      obtain rfl : fn = Tryd.f8 := (Option.some.inj (Tryd.func8.symm.trans hfn)).symm
      exact ⟨by kernel_rfl, fun j t ht => by
        rw [Tryd.params8] at ht
        have hm : t ∈ [9, 3, 9] := by simpa using Array.mem_of_getElem? ht
        have hall : ([9, 3, 9].all fun u => !Tryd.prog.wantsStandIn u) = true := by kernel_rfl
        exact (show Tryd.prog.wantsStandIn t = false by simpa using List.all_eq_true.1 hall t hm)⟩)
    (by kernel_rfl)

end Go.Proofs.YtballlkeogmoiaaDoor
