/-
  EdiValues, the row and the tied card of its second form: FromValue returns the item of its value, also after encoding and decoding; of any other value an item with this value, or ErrShape. The row lists eight package variables; the card ties them to the program's text. Conditions: the arguments are of bulk at most 1048576 (Upto) and no value holds itself (the row's 'loops').
-/
import Derived.Test.YtnfoiocigicdnaaGreatDoorCards
import Derived.Test.YtnfoiocigicdnaaGreatDoorTie
import Derived.Test.YtnfoiocigicdnaaGreatDoorYC28
import Derived.Test.YtnfoiocigicdnaaGreatDoorYC44
import Derived.Test.YtnfoiocigicdnaaGreatDoorYC47
import Derived.Test.YtnfoiocigicdnaaGreatDoorYC50
namespace Go.Proofs.YtnfoiocigicdnaaGreatDoor
open Go.Rv Go.ChangeShapes Go.WideShapes Go.ChangeAt Go.RowKit
set_option linter.unusedVariables false
theorem Aaj : Tryz.prog.cellsOf 55 = 4 := by kernel_rfl
theorem Z4 : Tryz.prog.cellsOf 52 = 1 := by kernel_rfl
theorem AaL : Tryz.prog.cellsOf 53 = 1 := by kernel_rfl
theorem AcN : Tryz.prog.cellsOf 5 = 1 := by kernel_rfl
theorem AjD : Opens Tryz.prog (fun H => Rows.uptoBulk (H := H)) 52 (cSl cU8) (szL fun _ => 1) (fun l => l.length ≤ maxLen ∧ ∀ x ∈ l, True) :=
  Qf Hh Tryz.underlying52 AcN (fun _ => rfl) (Agq Hh Tryz.underlying5)
theorem Aix : Opens Tryz.prog (fun H => Rows.uptoBulk (H := H)) 55 cApi_Value Kc.szV Kc.okV :=
  Aaa (Kc.opensAt_value Hh Tryz.underlying55 rfl Aaj B7 Z4 AaL (Xb Hh Tryz.underlying3) AjD Tryz.underlying53)
set_option maxRecDepth 100000 in
theorem M8 (H : Type) (enc : TypeId × Value → H) (W : World) (base : Nat) (args : Array Value) (ds gs : List (DataW H)) (before : List MemPlace)
    (hval0 : ∀ (j : Nat) t v, Tryz.f11.params[j]? = some t → args[j]? = some v → Value.okWide Tryz.prog W .any base t v)
    (hW : DataW.Whole enc Tryz.prog Tryz.f11.params.toList Rows.ediValuesSpec.vars false W args.toList ds gs before) (hk : Rows.uptoSmall H (ds ++ gs) = true) (hL : laidMetH Tryz.prog Rx W) :
    Calls Tryz.prog 11 args W fun e W' => ∃ v, e = .returned v ∧ Rows.ediValuesSpec.post enc Tryz.prog Tryz.f11 false true false false W args v W' := by
  have hval : ∀ (j : Nat) t v, Tryz.f11.params[j]? = some t → args[j]? = some v → Value.okWide Tryz.prog W .any base t v := hval0
  have hW' := hW
  obtain ⟨p, q, hA0, hV, rfl, hfz, hnd⟩ := hW
  have hA : DataW.TrodAll enc Tryz.prog W 0 (fun _ => true) true Tryz.f11.params.toList args.toList ds p := hA0
  rw [Tryz.params11] at hA hval
  obtain ⟨v0, vs0, d0, ds0, p0, q0, hargs, rfl, rfl, h0, r0⟩ := trodAll_cons hA
  obtain ⟨v1, vs1, d1, ds1, p1, q1, rfl, rfl, rfl, h1, r1⟩ := trodAll_cons r0
  obtain ⟨rfl, rfl, rfl⟩ := trodAll_nil r1
  obtain rfl : args = #[v0, v1] := by cases args; simp_all
  obtain ⟨rfl, rfl⟩ := trodVars_none hV
  obtain ⟨x0, _, hok0, hrep0⟩ := Ad8 Tryz.underlying41 (hval 0 41 v0 rfl rfl) Aiy h0 (pr := A2 (B.env fun _ => False) []) (fun a => T1 a)
  obtain ⟨x1, hsz1, _, hrep1⟩ := Ad8 Tryz.underlying55 (hval 1 55 v1 rfl rfl) Aix h1 (pr := A2 (B.env fun _ => False) []) (fun a => T1 a)
  have hbulk : Rows.uptoBulk d0 + Rows.uptoBulk d1 ≤ 1048576 := by
    have := of_decide_eq_true hk
    simpa [Rows.uptoBulkAll] using this
  have hsz1' : Kc.szV x1 ≤ Rows.uptoBulk d1 := hsz1
  rw [D8] at hrep1
  refine (Ac9 (Mh (Ac8 hok0 (by omega))) Tryz.func11 rfl (by decide +kernel) hL (args := #[v0, v1]) ⟨hrep0, hrep1, trivial⟩).mono fun e W' ⟨he, hbel⟩ => ?_
  exact ⟨_, he, Ahs hW' rfl rfl rfl Tryz.underlying4 Aiq (by decide +kernel) hbel⟩
set_option maxRecDepth 100000 in
theorem Pl (os : Os) (started : os.Started) (H : Type) (enc : TypeId × Value → H) (F : Stop.Interp) :
    ReturnsInHanded {} Tryz.checked os 11 .any ((Rows.OpenSpec.upto Rows.ediValuesSpec).preRow enc Tryz.prog Tryz.f11 Rows.ediValuesUptoRow.domain false Rows.ediValuesUptoRow.laid) (((Rows.OpenSpec.upto Rows.ediValuesSpec).at F).post enc Tryz.prog Tryz.f11 false true false false) := by
  have hx : DataW.whole enc Tryz.prog ((World.laidAll Tryz.prog os Rx).forCall (fun _ _ => 0) ⟨#[], #[.agg #[.int .i64 0, .int .i64 0, .int .i64 0, .int .i64 0, .int .i64 0, .int .i64 0, .int .i64 0, .int .i64 0, .int .i64 0, .int .i64 0, .int .i64 0, .int .i64 0, .int .i64 0, .int .i64 0, .string ⟨#[]⟩, .slice none 0 0], .agg #[.int .i64 0, .int .i64 0, .slice none 0 0, .slice none 0 0]], []⟩).memory Tryz.f11.params.toList (Rows.OpenSpec.upto Rows.ediValuesSpec).vars false
      (#[.agg #[.int .i64 0, .int .i64 0, .int .i64 0, .int .i64 0, .int .i64 0, .int .i64 0, .int .i64 0, .int .i64 0, .int .i64 0, .int .i64 0, .int .i64 0, .int .i64 0, .int .i64 0, .int .i64 0, .string ⟨#[]⟩, .slice none 0 0], .agg #[.int .i64 0, .int .i64 0, .slice none 0 0, .slice none 0 0]] : Array Value).toList 8 = some ([.agg [.lit (.int .i64 0), .agg [.lit (.int .i64 0), .lit (.int .i64 0)], .lit (.int .i64 0), .lit (.int .i64 0), .lit (.int .i64 0), .lit (.int .i64 0), .lit (.int .i64 0), .lit (.int .i64 0), .lit (.int .i64 0), .lit (.int .i64 0), .lit (.int .i64 0), .lit (.int .i64 0), .lit (.int .i64 0), .lit (.string []), .nil], .agg [.lit (.int .i64 0), .lit (.int .i64 0), .nil, .nil]], [], []) := by kernel_rfl
  refine returnsInHanded_of_row (C := Tryz.checked) (s := Rows.OpenSpec.upto Rows.ediValuesSpec) own started (by kernel_rfl) Tryz.func11
    (Np (enc := enc) (C := Tryz.checked) false (World.laidAll Tryz.prog os Rx) #[.agg #[.int .i64 0, .int .i64 0, .int .i64 0, .int .i64 0, .int .i64 0, .int .i64 0, .int .i64 0, .int .i64 0, .int .i64 0, .int .i64 0, .int .i64 0, .int .i64 0, .int .i64 0, .int .i64 0, .string ⟨#[]⟩, .slice none 0 0], .agg #[.int .i64 0, .int .i64 0, .slice none 0 0, .slice none 0 0]] (World.laidAll_os _ _ _)
      (World.shaped_of_ZipB (by kernel_rfl) (by kernel_rfl)) (by kernel_rfl)
      (OpenSpec.preRow_of_cond 8 hx (by kernel_rfl) (fun k hk => by cases hk; kernel_rfl) (by kernel_rfl) (AgC os _))) ?_
  intro W base args ds gs before hval hW _ hcond _ hL _ _
  exact M8 H enc W base args ds gs before hval hW (hcond _ rfl) hL
theorem Su : Rows.EdiValuesUptoSaid :=
  OpenClaim.holds_of_cond 11 Tryz.f11 rfl rfl rfl rfl rfl rfl rfl ⟨rfl, rfl, rfl, rfl, rfl⟩ rfl rfl rfl rfl rfl (by kernel_rfl) Tryz.func11 (by kernel_rfl)
    (of_decide_eq_true (by kernel_rfl)) (by unfold Func.isWrapper; first | (rw [if_pos (by decide +kernel)]; kernel_rfl) | (rw [if_neg (by decide +kernel)]; exact ⟨rfl, rfl⟩))
    (fun os started H enc _ F => by rw [OpenClaim.pre_eq_preRow]; exact Pl os started H enc F)
theorem ediValues_uptoCard : Rows.EdiValuesUptoCardSaid :=
  Claim7.holds_tied_plain_at .later [] [.data, .data, .data, .data, .sentinel, .sentinel, .widerDeep, .pinned] true (true, "25eb2ff2271b5f38caeebaded5aa82fa7120d76630f645dd4b7446138721088c") true Su (fun _ h => by cases h) (by kernel_rfl) (fun _ h => by cases h) ediValuesUpto_row_tie rfl ⟨rfl, rfl⟩ (by kernel_rfl) rfl
    (fun f fn hf hfn => by
      obtain rfl : f = 11 := Option.some.inj ((show Tryz.prog.funcNamed "wagonpool/wagonpoollaw11.EdiValues" = some 11 by kernel_rfl).symm.trans hf) |>.symm
      obtain rfl : fn = Tryz.f11 := (Option.some.inj (Tryz.func11.symm.trans hfn)).symm
      exact ⟨by kernel_rfl, fun j t ht => by
        rw [Tryz.params11] at ht
        have hm : t ∈ [41, 55] := by simpa using Array.mem_of_getElem? ht
        have hall : ([41, 55].all fun u => !Tryz.prog.wantsStandIn u) = true := by kernel_rfl
        exact (show Tryz.prog.wantsStandIn t = false by simpa using List.all_eq_true.1 hall t hm)⟩)
    (by kernel_rfl)
end Go.Proofs.YtnfoiocigicdnaaGreatDoor
