/-
  TlexMatchesText, the row and the tied card. The row lists the package variables (maps of signs and of reserved words); the card ties them to the program's text. Condition: the arguments are of bulk at most 1048576 (Upto).
-/
import Derived.Test.YtballlkeogmoiaaDoorZC2
import Derived.Test.YtballlkeogmoiaaDoorCards
import Derived.Test.YtballlkeogmoiaaDoorTie
namespace Go.Proofs.YtballlkeogmoiaaDoor
open Go.Rv Go.ChangeShapes Go.WideShapes Go.ChangeAt Go.RowKit
set_option linter.unusedVariables false

theorem tlexMatchesText_contract (H : Type) (enc : TypeId × Value → H) (W : World) (base : Nat) (args : Array Value) (ds gs : List (DataW H)) (before : List MemPlace)
    (hval0 : ∀ (j : Nat) t v, Tryd.f4.params[j]? = some t → args[j]? = some v → Value.okWide Tryd.prog W .any base t v)
    (hW : DataW.Whole enc Tryd.prog Tryd.f4.params.toList Rows.tlexMatchesTextSpec.vars false W args.toList ds gs before) (hk : Rows.uptoSmall H (ds ++ gs) = true) (hL : laidMetH Tryd.prog laidM W) :
    Calls Tryd.prog 4 args W fun e W' => ∃ v, e = .returned v ∧ Rows.tlexMatchesTextSpec.post enc Tryd.prog Tryd.f4 false true false false W args v W' := by
  have hval : ∀ (j : Nat) t v, Tryd.f4.params[j]? = some t → args[j]? = some v → Value.okWide Tryd.prog W .any base t v := hval0
  have hW' := hW
  obtain ⟨p, q, hA0, hV, rfl, hfz, hnd⟩ := hW
  have hA : DataW.TrodAll enc Tryd.prog W 0 (fun _ => true) true Tryd.f4.params.toList args.toList ds p := hA0
  rw [Tryd.params4] at hA hval
  obtain ⟨rs, hmem⟩ := mem_maps hL
  obtain ⟨v0, vs0, d0, ds0, p0, q0, hargs, rfl, rfl, h0, r0⟩ := trodAll_cons hA
  obtain ⟨v1, vs1, d1, ds1, p1, q1, rfl, rfl, rfl, h1, r1⟩ := trodAll_cons r0
  obtain ⟨rfl, rfl, rfl⟩ := trodAll_nil r1
  obtain rfl : args = #[v0, v1] := by cases args; simp_all
  obtain ⟨rfl, rfl⟩ := trodVars_none hV
  obtain ⟨x0, hsz0, hok0, hrep0⟩ := arg_one opens23 (fun x => ⟨_, rfl⟩) (vcells_slice Tryd.underlying23 (hval 0 23 v0 rfl rfl)) h0 (pr := prot ((B rs).env fun _ => False) []) (fun a => prot_empty a)
  obtain ⟨x1, hsz1, hok1, hrep1⟩ := arg_one opens9 (fun x => ⟨_, rfl⟩) (vcells_string Tryd.underlying9 (hval 1 9 v1 rfl rfl)) h1 (pr := prot ((B rs).env fun _ => False) []) (fun a => prot_empty a)
  have hbulk : Rows.uptoBulk d0 + Rows.uptoBulk d1 ≤ 1048576 := by
    have := of_decide_eq_true hk
    simpa [Rows.uptoBulkAll] using this
  refine (law_callsM (law15_TlexMatchesText_con (law_text x0 x1 (by have e := szT_join x0; have e0 : szL (fun t : Api_Token => t.Text.length + 1) x0 ≤ Rows.uptoBulk d0 := hsz0; omega))) Tryd.func4 rfl (by decide +kernel) hmem (args := #[v0, v1]) ⟨hrep0 _ rfl, hrep1 _ rfl, trivial⟩).mono fun e W' ⟨he, hbel⟩ => ?_
  exact ⟨_, he, law_post hW' rfl rfl rfl Tryd.underlying4 laid_ok (by decide +kernel) hbel⟩

set_option maxRecDepth 100000 in
theorem tlexMatchesText_lifted (os : Os) (started : os.Started) (H : Type) (enc : TypeId × Value → H) (F : Stop.Interp) :
    ReturnsInHanded {} Tryd.checked os 4 .any ((Rows.OpenSpec.upto Rows.tlexMatchesTextSpec).preRow enc Tryd.prog Tryd.f4 Rows.tlexMatchesTextUptoRow.domain false Rows.tlexMatchesTextUptoRow.laid) (((Rows.OpenSpec.upto Rows.tlexMatchesTextSpec).at F).post enc Tryd.prog Tryd.f4 false true false false) := by
  have hx : DataW.whole enc Tryd.prog ((World.doorLaid Tryd.prog 289 os).forCall (fun _ _ => 0) ⟨#[], #[.slice none 0 0, .string ⟨#[]⟩], []⟩).memory Tryd.f4.params.toList (Rows.OpenSpec.upto Rows.tlexMatchesTextSpec).vars false
      (#[.slice none 0 0, .string ⟨#[]⟩] : Array Value).toList 8 = some ([.nil, .lit (.string [])], [], []) := by kernel_rfl
  refine returnsInHanded_of_row (C := Tryd.checked) (s := Rows.OpenSpec.upto Rows.tlexMatchesTextSpec) own started (by kernel_rfl) Tryd.func4
    (witness_row_shaped (enc := enc) (C := Tryd.checked) false (World.doorLaid Tryd.prog 289 os) #[.slice none 0 0, .string ⟨#[]⟩] rfl
      (World.shaped_of_RefB (by kernel_rfl) (by kernel_rfl)) (by kernel_rfl)
      (OpenSpec.preRow_of_cond 8 hx (by kernel_rfl) (fun k hk => by cases hk; kernel_rfl) (by kernel_rfl) (door_met os _))) ?_
  intro W base args ds gs before hval hW _ hcond _ hL _ _
  exact tlexMatchesText_contract H enc W base args ds gs before hval hW (hcond _ rfl) hL

theorem tlexMatchesText_upto : Rows.TlexMatchesTextUptoSaid :=
  OpenClaim.holds_of_cond 4 Tryd.f4 rfl rfl rfl rfl rfl rfl rfl ⟨rfl, rfl, rfl, rfl, rfl⟩ rfl rfl rfl rfl rfl (by kernel_rfl) Tryd.func4 (by kernel_rfl)
    (of_decide_eq_true (by kernel_rfl)) (by unfold Func.isWrapper; first | (rw [if_pos (by decide +kernel)]; kernel_rfl) | (rw [if_neg (by decide +kernel)]; exact ⟨rfl, rfl⟩))
    (fun os started H enc _ F => by rw [OpenClaim.pre_eq_preRow]; exact tlexMatchesText_lifted os started H enc F)

theorem tlexMatchesText_uptoCard : Rows.TlexMatchesTextUptoCardSaid :=
  Claim7.holds_tied_plain_at .later [] [.mapped, .mapped] true (true, "a4ddf060793f7cfb00ed28f1246388e6b583351a8da7ab14a2dddaa4028344c3") false tlexMatchesText_upto (fun _ h => by cases h) (by kernel_rfl) (fun _ h => by cases h) tlexMatchesTextUpto_row_tie rfl ⟨rfl, rfl⟩ (by kernel_rfl) rfl
    (fun f fn hf hfn => by
      obtain rfl : f = 4 := Option.some.inj ((show Tryd.prog.funcNamed "wagonpool/wagonpoollaw15.TlexMatchesText" = some 4 by kernel_rfl).symm.trans hf) |>.symm
      obtain rfl : fn = Tryd.f4 := (Option.some.inj (Tryd.func4.symm.trans hfn)).symm
      exact ⟨by kernel_rfl, fun j t ht => by
        rw [Tryd.params4] at ht
        have hm : t ∈ [23, 9] := by simpa using Array.mem_of_getElem? ht
        have hall : ([23, 9].all fun u => !Tryd.prog.wantsStandIn u) = true := by kernel_rfl
        exact (show Tryd.prog.wantsStandIn t = false by simpa using List.all_eq_true.1 hall t hm)⟩)
    (by kernel_rfl)

end Go.Proofs.YtballlkeogmoiaaDoor
