/-
  EdiValues, the row and the tied card: FromValue returns the item of its value, also after encoding and decoding; of any other value an item with this value, or ErrShape. The row lists eight package variables; the card ties them to the program's text. No value holds itself (the row's 'loops').
-/
import Derived.Test.YtnfoiocigicdnaaGreatDoorCards
import Derived.Test.YtnfoiocigicdnaaGreatDoorTie
import Derived.Test.YtnfoiocigicdnaaGreatDoorYV28
import Derived.Test.YtnfoiocigicdnaaGreatDoorYV44
import Derived.Test.YtnfoiocigicdnaaGreatDoorYV47
import Derived.Test.YtnfoiocigicdnaaGreatDoorYV50
import Derived.Test.YtnfoiocigicdnaaGreatDoorYV51
namespace Go.Proofs.YtnfoiocigicdnaaGreatDoor
open Go.Rv Go.ChangeShapes Go.WideShapes Go.ChangeAt Go.RowKit
set_option linter.unusedVariables false
set_option linter.unusedSimpArgs false
theorem Aaj : Tryz.prog.cellsOf 55 = 4 := by kernel_rfl
theorem Z4 : Tryz.prog.cellsOf 52 = 1 := by kernel_rfl
theorem AaL : Tryz.prog.cellsOf 53 = 1 := by kernel_rfl
theorem AcN : Tryz.prog.cellsOf 5 = 1 := by kernel_rfl
theorem AjD : Opens Tryz.prog (fun H => Rows.uptoBulk (H := H)) 52 (cSl cU8) (szL fun _ => 1) (fun l => l.length ≤ maxLen ∧ ∀ x ∈ l, True) :=
  Qf Hh Tryz.underlying52 AcN (fun _ => rfl) (Agq Hh Tryz.underlying5)
theorem Aix : Opens Tryz.prog (fun H => Rows.uptoBulk (H := H)) 55 cApi_Value Kc.szV Kc.okV :=
  Aaa (Kc.opensAt_value Hh Tryz.underlying55 rfl Aaj B7 Z4 AaL (Xb Hh Tryz.underlying3) AjD Tryz.underlying53)
theorem bytes_of_5 : Tryz.prog.bytesOf 5 = 1 := by kernel_rfl
theorem bytes_of_55 : Tryz.prog.bytesOf 55 = 64 := by kernel_rfl
theorem val_sizes {H : Type} {enc : TypeId × Value → H} {W : World} {d : DataW H} {p : List MemPlace} {pr : Addr → Prop} {fuel : Nat} {cs : List Value} {x : Api_Value} (hd : DataW.trod enc Tryz.prog W 0 (fun _ => true) true fuel 55 cs = some (d, p)) (hw : wOk Tryz.prog 55 d)
    (hr : ∀ (j : Nat) (y : AV), (cApi_Value x)[j]? = some y → Rep W pr [] (cs.getD j undef) y) :
    x.B.length ≤ reachBytes ∧ x.L.length * 64 ≤ reachBytes ∧ ∀ (i : Nat) (hi : i < x.L.length), ∃ fuel' cs' d' p', DataW.trod enc Tryz.prog W 0 (fun _ => true) true fuel' 55 cs' = some (d', p') ∧ wOk Tryz.prog 55 d' ∧ ∀ (j : Nat) (y : AV), (cApi_Value x.L[i])[j]? = some y → Rep W pr [] (cs'.getD j undef) y := by
  obtain ⟨fuel', d3, p3, d4, p4, hl, h3, w3, h4, w4⟩ := trod_val Tryz.underlying55 rfl Aaj Z4 AaL hd hw
  have r3 : Rep W pr [] (cs.getD 2 undef) (.sl false (L cU8 x.B)) := hr 2 _ (by rw [D8]; rfl)
  have r4 : Rep W pr [] (cs.getD 3 undef) (.sl false (L cApi_Value x.L)) := hr 3 _ (by rw [D8]; rfl)
  have s3 := trod_sl Tryz.underlying52 h3 r3 w3
  have s4 := trod_sl Tryz.underlying53 h4 r4 w4
  rw [bytes_of_5, Nat.mul_one] at s3
  rw [bytes_of_55] at s4
  exact ⟨s3.1, s4.1, s4.2 (fun y => by rw [D8, Aaj]; rfl)⟩
theorem val_parts {H : Type} {enc : TypeId × Value → H} {W : World} {d : DataW H} {p : List MemPlace} {pr : Addr → Prop} {fuel : Nat} {cs : List Value} {x : Api_Value} (hd : DataW.trod enc Tryz.prog W 0 (fun _ => true) true fuel 55 cs = some (d, p)) (hw : wOk Tryz.prog 55 d)
    (hr : ∀ (j : Nat) (y : AV), (cApi_Value x)[j]? = some y → Rep W pr [] (cs.getD j undef) y) :
    (x.L.length = 15 → (nth x.L 14).L.length ≤ 2199023255552) ∧ (x.L.length = 15 → (nth x.L 13).B.length ≤ 140737488355328) := by
  obtain ⟨_, _, h⟩ := val_sizes hd hw hr
  refine ⟨fun h15 => ?_, fun h15 => ?_⟩
  · obtain ⟨_, _, _, _, hd', hw', hr'⟩ := h 14 (by omega)
    obtain ⟨_, h1, _⟩ := val_sizes hd' hw' hr'
    rw [Kc.Tt (by omega)]
    unfold reachBytes at h1
    omega
  · obtain ⟨_, _, _, _, hd', hw', hr'⟩ := h 13 (by omega)
    obtain ⟨h1, _, _⟩ := val_sizes hd' hw' hr'
    rw [Kc.Tt (by omega)]
    unfold reachBytes at h1
    omega
set_option maxRecDepth 100000 in
theorem ediValues_lifted (os : Os) (started : os.Started) (H : Type) (enc : TypeId × Value → H) :
    ReturnsInHanded {} Tryz.checked os 11 .any (fun w args => (Rows.ediValuesSpec.pre enc Tryz.prog Tryz.f11 Rows.ediValuesRow.domain false w args ∧ laidMetH Tryz.prog Rx w) ∧ sizedMet enc Tryz.prog Tryz.f11 (OpenSpec.ofChange Rows.ediValuesSpec) false w args)
      (Rows.ediValuesSpec.post enc Tryz.prog Tryz.f11 false true false false) := by
  refine returnsInHanded_of_change_and (C := Tryz.checked) (X := fun w _ => laidMetH Tryz.prog Rx w) (fun _ _ _ hh h => h.of_heap hh) own started (by kernel_rfl) Tryz.func11
    (ChangeSpec.witness_shaped (enc := enc) (C := Tryz.checked) (os := os) (X := fun w _ => laidMetH Tryz.prog Rx w) false (World.laidAll Tryz.prog os Rx) #[.agg #[.int .i64 0, .int .i64 0, .int .i64 0, .int .i64 0, .int .i64 0, .int .i64 0, .int .i64 0, .int .i64 0, .int .i64 0, .int .i64 0, .int .i64 0, .int .i64 0, .int .i64 0, .int .i64 0, .string ⟨#[]⟩, .slice none 0 0], .agg #[.int .i64 0, .int .i64 0, .slice none 0 0, .slice none 0 0]] 8 (World.laidAll_os _ _ _) (World.shaped_of_ZipB (by kernel_rfl) (by kernel_rfl)) (by kernel_rfl) (by kernel_rfl) (by kernel_rfl) (AgC os _)) ?_
  intro W base args ds gs before hval0 hW _ hwt hL _
  have hval : ∀ (j : Nat) t v, Tryz.f11.params[j]? = some t → args[j]? = some v → Value.okWide Tryz.prog W .any base t v := hval0
  have hW' := hW
  obtain ⟨p, q, hA0, hV, rfl, hfz, hnd⟩ := hW
  have hA : DataW.TrodAll enc Tryz.prog W 0 (fun _ => true) true Tryz.f11.params.toList args.toList ds p := hA0
  rw [Tryz.params11] at hA hval
  obtain ⟨v0, vs0, d0, ds0, p0, q0, hargs, rfl, rfl, h0, r0⟩ := trodAll_cons hA
  obtain ⟨v1, vs1, d1, ds1, p1, q1, rfl, rfl, rfl, h1, r1⟩ := trodAll_cons r0
  obtain ⟨rfl, rfl, rfl⟩ := trodAll_nil r1
  obtain rfl : args = #[v0, v1] := by cases args; simp_all
  obtain ⟨rfl, rfl⟩ := trodVars_none hV
  obtain ⟨x0, _, hok0, hrep0⟩ := Ad8 Tryz.underlying41 (hval 0 41 v0 rfl rfl) Aiy h0 (pr := A2 (B.env fun _ => False) []) (fun a => T1 a)
  obtain ⟨x1, _, _, hrep1⟩ := Ad8 Tryz.underlying55 (hval 1 55 v1 rfl rfl) Aix h1 (pr := A2 (B.env fun _ => False) []) (fun a => T1 a)
  have hw1 : wOk Tryz.prog 55 d1 := by
    rw [Tryz.params11] at hwt
    simp only [List.cons_append, List.nil_append, DataW.weightsEach, List.all_append, Bool.and_eq_true] at hwt
    exact hwt.2.1
  obtain ⟨fuel1, h1'⟩ := h1
  obtain ⟨hp14, hp13⟩ := val_parts h1' hw1 (agg_cells hrep1)
  rw [D8] at hrep1
  refine (Ac9 (Mh (Ac8 hok0 hp14 hp13)) Tryz.func11 rfl (by decide +kernel) hL (args := #[v0, v1]) ⟨hrep0, hrep1, trivial⟩).mono fun e W' ⟨he, hbel⟩ => ?_
  exact ⟨_, he, Ahs hW' rfl rfl rfl Tryz.underlying4 Aiq (by decide +kernel) hbel⟩
theorem ediValues_said : Rows.EdiValuesSaid :=
  OpenClaim.holds_of_wide 11 Tryz.f11 rfl rfl rfl rfl rfl rfl rfl ⟨rfl, rfl, rfl, rfl, rfl⟩ rfl rfl rfl rfl rfl (by kernel_rfl) Tryz.func11 (by kernel_rfl)
    (of_decide_eq_true (by kernel_rfl)) (by unfold Func.isWrapper; first | (rw [if_pos (by decide +kernel)]; kernel_rfl) | (rw [if_neg (by decide +kernel)]; exact ⟨rfl, rfl⟩))
    (fun os started H enc _ => ediValues_lifted os started H enc)
theorem ediValues_card : Rows.EdiValuesCardSaid :=
  Claim7.holds_tied_plain_at .later [] [.data, .data, .data, .data, .sentinel, .sentinel, .widerDeep, .pinned] true (true, "25eb2ff2271b5f38caeebaded5aa82fa7120d76630f645dd4b7446138721088c") true ediValues_said (fun _ h => by cases h) (by kernel_rfl) (fun _ h => by cases h) ediValues_row_tie rfl ⟨rfl, rfl⟩ (by kernel_rfl) rfl
    (fun f fn hf hfn => by
      obtain rfl : f = 11 := Option.some.inj ((show Tryz.prog.funcNamed "wagonpool/wagonpoollaw11.EdiValues" = some 11 by kernel_rfl).symm.trans hf) |>.symm
      obtain rfl : fn = Tryz.f11 := (Option.some.inj (Tryz.func11.symm.trans hfn)).symm
      exact ⟨by kernel_rfl, fun j t ht => by
        rw [Tryz.params11] at ht
        have hm : t ∈ [41, 55] := by simpa using Array.mem_of_getElem? ht
        have hall : ([41, 55].all fun u => !Tryz.prog.wantsStandIn u) = true := by kernel_rfl
        exact (show Tryz.prog.wantsStandIn t = false by simpa using List.all_eq_true.1 hall t hm)⟩)
    (by kernel_rfl)
end Go.Proofs.YtnfoiocigicdnaaGreatDoor
