/-
  EdiCheckMatchesReference: for every pool of limited size and every item (a text of at most 2000 bytes, at most 20 components), Check returns the error of fleet.CheckPool, or agrees with the reference implementation. The row lists eight package variables; the card ties them to the program's text. No other condition.
-/
import Derived.Test.YtnfoiocigicdnaaGreatDoorCards
import Derived.Test.YtnfoiocigicdnaaGreatDoorTie
import Derived.Test.YtnfoiocigicdnaaGreatDoorYG42
import Derived.Test.YtnfoiocigicdnaaGreatDoorYG45
namespace Go.Proofs.YtnfoiocigicdnaaGreatDoor
open Go.Rv Go.ChangeShapes Go.WideShapes Go.ChangeAt Go.RowKit
set_option linter.unusedVariables false
set_option maxRecDepth 100000 in
theorem He (os : Os) (started : os.Started) (H : Type) (enc : TypeId×Value→H) :
  ReturnsInHanded {} Tryz.checked os 3 .any (fun w args => (Rows.ediCheckMatchesReferenceSpec.pre enc Tryz.prog Tryz.f3 Rows.ediCheckMatchesReferenceRow.domain false w args∧laidMetH Tryz.prog Q9 w)∧sizedMet enc Tryz.prog Tryz.f3 (OpenSpec.ofChange Rows.ediCheckMatchesReferenceSpec) false w args)
   (Rows.ediCheckMatchesReferenceSpec.post enc Tryz.prog Tryz.f3 false true false false):=by
 refine returnsInHanded_of_change_and (C:=Tryz.checked) (X:=fun w _ => laidMetH Tryz.prog Q9 w) (fun _ _ _ hh h => h.of_heap hh) own started (by kernel_rfl) Tryz.func3
  (ChangeSpec.witness_shaped (enc:=enc) (C:=Tryz.checked) (os:=os) (X:=fun w _ => laidMetH Tryz.prog Q9 w) false (World.laidAll Tryz.prog os Q9) #[.agg #[.slice none 0 0,.slice none 0 0,.slice none 0 0,.slice none 0 0,.slice none 0 0,.slice none 0 0,.slice none 0 0,.slice none 0 0,.slice none 0 0],.agg #[.int .i64 0,.int .i64 0,.int .i64 0,.int .i64 0,.int .i64 0,.int .i64 0,.int .i64 0,.int .i64 0,.int .i64 0,.int .i64 0,.int .i64 0,.int .i64 0,.int .i64 0,.int .i64 0,.string ⟨#[]⟩,.slice none 0 0]] 8 (World.laidAll_os _ _ _) (World.shaped_of_ZipB (by kernel_rfl) (by kernel_rfl)) (by kernel_rfl) (by kernel_rfl) (by kernel_rfl) (Ahn os _)) ?_
 intro W base args ds gs before hval0 hW _ _ hL _
 have hval : ∀ (j : Nat) t v,Tryz.f3.params[j]? = some t→args[j]? = some v→Value.okWide Tryz.prog W .any base t v:=hval0
 have hW':=hW
 obtain ⟨p,q,hA0,hV,rfl,hfz,hnd⟩:=hW
 have hA : DataW.TrodAll enc Tryz.prog W 0 (fun _ => true) true Tryz.f3.params.toList args.toList ds p:=hA0
 rw [Tryz.params3] at hA hval
 obtain ⟨v0,vs0,d0,ds0,p0,q0,hargs,rfl,rfl,h0,r0⟩:=trodAll_cons hA
 obtain ⟨v1,vs1,d1,ds1,p1,q1,rfl,rfl,rfl,h1,r1⟩:=trodAll_cons r0
 obtain ⟨rfl,rfl,rfl⟩:=trodAll_nil r1
 obtain rfl : args = #[v0,v1]:=by cases args;simp_all
 obtain ⟨rfl,rfl⟩:=trodVars_none hV
 obtain ⟨x0,hsz0,hok0,hrep0⟩:=Agl Tryz.underlying36 (hval 0 36 v0 rfl rfl) AjG h0 (pr:=A6 (B.env fun _ => False) []) (fun a => Vf a)
 obtain ⟨x1,hsz1,hok1,hrep1⟩:=Agl Tryz.underlying41 (hval 1 41 v1 rfl rfl) AkR h1 (pr:=A6 (B.env fun _ => False) []) (fun a => Vf a)
 refine (Adj (Gm (AdZ hok0 hok1)) Tryz.func3 rfl (by decide +kernel) hL (args:=#[v0,v1]) ⟨hrep0,hrep1,trivial⟩).mono fun e W' ⟨he,hbel⟩ => ?_
 exact ⟨_,he,AgG hW' rfl rfl rfl Tryz.underlying4 Akq (by decide +kernel) hbel⟩
theorem ediCheckMatchesReference_said : Rows.EdiCheckMatchesReferenceSaid :=
 OpenClaim.holds_of_wide 3 Tryz.f3 rfl rfl rfl rfl rfl rfl rfl ⟨rfl,rfl,rfl,rfl,rfl⟩ rfl rfl rfl rfl rfl (by kernel_rfl) Tryz.func3 Alg
  (of_decide_eq_true (by kernel_rfl)) (by unfold Func.isWrapper;first | (rw [if_pos (by decide +kernel)];kernel_rfl) | (rw [if_neg (by decide +kernel)];exact ⟨rfl,rfl⟩))
  (fun os started H enc _ => He os started H enc)
theorem ediCheckMatchesReference_card : Rows.EdiCheckMatchesReferenceCardSaid :=
 Claim7.holds_tied_plain_at .later [] [.data,.data,.data,.data,.sentinel,.sentinel,.widerDeep,.pinned] true (true,"25eb2ff2271b5f38caeebaded5aa82fa7120d76630f645dd4b7446138721088c") true ediCheckMatchesReference_said (fun _ h => by cases h) (by kernel_rfl) (fun _ h => by cases h) ediCheckMatchesReference_row_tie rfl ⟨rfl,rfl⟩ (by kernel_rfl) rfl
  (fun f fn hf hfn => by
   obtain rfl : f = 3:=Option.some.inj ((show Tryz.prog.funcNamed "wagonpool/wagonpoollaw11.EdiCheckMatchesReference" = some 3 by kernel_rfl).symm.trans hf) |>.symm
   obtain rfl : fn = Tryz.f3:=(Option.some.inj (Tryz.func3.symm.trans hfn)).symm
   exact ⟨by kernel_rfl,fun j t ht => by
    rw [Tryz.params3] at ht
    have hm : t ∈ [36,41]:=by simpa using Array.mem_of_getElem? ht
    have hall : ([36,41].all fun u => !Tryz.prog.wantsStandIn u) = true:=by kernel_rfl
    exact (show Tryz.prog.wantsStandIn t = false by simpa using List.all_eq_true.1 hall t hm)⟩)
  (by kernel_rfl)
end Go.Proofs.YtnfoiocigicdnaaGreatDoor
