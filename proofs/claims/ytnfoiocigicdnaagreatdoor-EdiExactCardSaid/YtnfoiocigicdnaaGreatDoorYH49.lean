/-
  EdiExact: if an item that Check accepts is changed in a field that its kind does not use, Check returns ErrItem (pools of limited size; a text of at most 2000 bytes, at most 20 components). The row lists eight package variables; the card ties them to the program's text. No other condition.
-/
import Derived.Test.YtnfoiocigicdnaaGreatDoorCards
import Derived.Test.YtnfoiocigicdnaaGreatDoorTie
import Derived.Test.YtnfoiocigicdnaaGreatDoorYH42
import Derived.Test.YtnfoiocigicdnaaGreatDoorYH46
import Derived.Test.YtnfoiocigicdnaaGreatDoorYH48
namespace Go.Proofs.YtnfoiocigicdnaaGreatDoor
open Go.Rv Go.ChangeShapes Go.WideShapes Go.ChangeAt Go.RowKit
set_option linter.unusedVariables false
set_option maxRecDepth 100000 in
theorem Sz (os : Os) (started : os.Started) (H : Type) (enc : TypeId×Value→H) :
  ReturnsInHanded {} Tryz.checked os 9 .any (fun w args => (Rows.ediExactSpec.pre enc Tryz.prog Tryz.f9 Rows.ediExactRow.domain false w args∧laidMetH Tryz.prog Qz w)∧sizedMet enc Tryz.prog Tryz.f9 (OpenSpec.ofChange Rows.ediExactSpec) false w args)
   (Rows.ediExactSpec.post enc Tryz.prog Tryz.f9 false true false false):=by
 refine returnsInHanded_of_change_and (C:=Tryz.checked) (X:=fun w _ => laidMetH Tryz.prog Qz w) (fun _ _ _ hh h => h.of_heap hh) own started (by kernel_rfl) Tryz.func9
  (ChangeSpec.witness_shaped (enc:=enc) (C:=Tryz.checked) (os:=os) (X:=fun w _ => laidMetH Tryz.prog Qz w) false (World.laidAll Tryz.prog os Qz) #[.agg #[.slice none 0 0,.slice none 0 0,.slice none 0 0,.slice none 0 0,.slice none 0 0,.slice none 0 0,.slice none 0 0,.slice none 0 0,.slice none 0 0],.agg #[.int .i64 0,.int .i64 0,.int .i64 0,.int .i64 0,.int .i64 0,.int .i64 0,.int .i64 0,.int .i64 0,.int .i64 0,.int .i64 0,.int .i64 0,.int .i64 0,.int .i64 0,.int .i64 0,.string ⟨#[]⟩,.slice none 0 0],.int .u8 0,.int .i64 0] 8 (World.laidAll_os _ _ _) (World.shaped_of_ZipB (by kernel_rfl) (by kernel_rfl)) (by kernel_rfl) (by kernel_rfl) (by kernel_rfl) (AgA os _)) ?_
 intro W base args ds gs before hval0 hW _ _ hL _
 have hval : ∀ (j : Nat) t v,Tryz.f9.params[j]? = some t→args[j]? = some v→Value.okWide Tryz.prog W .any base t v:=hval0
 have hW':=hW
 obtain ⟨p,q,hA0,hV,rfl,hfz,hnd⟩:=hW
 have hA : DataW.TrodAll enc Tryz.prog W 0 (fun _ => true) true Tryz.f9.params.toList args.toList ds p:=hA0
 rw [Tryz.params9] at hA hval
 obtain ⟨v0,vs0,d0,ds0,p0,q0,hargs,rfl,rfl,h0,r0⟩:=trodAll_cons hA
 obtain ⟨v1,vs1,d1,ds1,p1,q1,rfl,rfl,rfl,h1,r1⟩:=trodAll_cons r0
 obtain ⟨v2,vs2,d2,ds2,p2,q2,rfl,rfl,rfl,h2,r2⟩:=trodAll_cons r1
 obtain ⟨v3,vs3,d3,ds3,p3,q3,rfl,rfl,rfl,h3,r3⟩:=trodAll_cons r2
 obtain ⟨rfl,rfl,rfl⟩:=trodAll_nil r3
 obtain rfl : args = #[v0,v1,v2,v3]:=by cases args;simp_all
 obtain ⟨rfl,rfl⟩:=trodVars_none hV
 obtain ⟨x0,hsz0,hok0,hrep0⟩:=Afo Tryz.underlying36 (hval 0 36 v0 rfl rfl) Ajl h0 (pr:=A1 (B.env fun _ => False) []) (fun a => Mq a)
 obtain ⟨x1,hsz1,hok1,hrep1⟩:=Afo Tryz.underlying41 (hval 1 41 v1 rfl rfl) Aj6 h1 (pr:=A1 (B.env fun _ => False) []) (fun a => Mq a)
 obtain ⟨x2,hsz2,hok2,hrep2⟩:=Afw AnC (fun x => ⟨_,rfl⟩) (U7 Tryz.underlying5 (hval 2 5 v2 rfl rfl)) h2 (pr:=A1 (B.env fun _ => False) []) (fun a => Mq a)
 obtain ⟨x3,hsz3,hok3,hrep3⟩:=Afw Bw (fun x => ⟨_,rfl⟩) (U7 Tryz.underlying3 (hval 3 3 v3 rfl rfl)) h3 (pr:=A1 (B.env fun _ => False) []) (fun a => Mq a)
 refine (AdY (Om (AdA hok0 hok1 hok2 hok3)) Tryz.func9 rfl (by decide +kernel) hL (args:=#[v0,v1,v2,v3]) ⟨hrep0,hrep1,hrep2 _ rfl,hrep3 _ rfl,trivial⟩).mono fun e W' ⟨he,hbel⟩ => ?_
 exact ⟨_,he,Ahw hW' rfl rfl rfl Tryz.underlying4 Air (by decide +kernel) hbel⟩
theorem ediExact_said : Rows.EdiExactSaid :=
 OpenClaim.holds_of_wide 9 Tryz.f9 rfl rfl rfl rfl rfl rfl rfl ⟨rfl,rfl,rfl,rfl,rfl⟩ rfl rfl rfl rfl rfl (by kernel_rfl) Tryz.func9 Aki
  (of_decide_eq_true (by kernel_rfl)) (by unfold Func.isWrapper;first | (rw [if_pos (by decide +kernel)];kernel_rfl) | (rw [if_neg (by decide +kernel)];exact ⟨rfl,rfl⟩))
  (fun os started H enc _ => Sz os started H enc)
theorem ediExact_card : Rows.EdiExactCardSaid :=
 Claim7.holds_tied_plain_at .later [] [.data,.data,.data,.data,.sentinel,.sentinel,.widerDeep,.pinned] true (true,"25eb2ff2271b5f38caeebaded5aa82fa7120d76630f645dd4b7446138721088c") true ediExact_said (fun _ h => by cases h) (by kernel_rfl) (fun _ h => by cases h) ediExact_row_tie rfl ⟨rfl,rfl⟩ (by kernel_rfl) rfl
  (fun f fn hf hfn => by
   obtain rfl : f = 9:=Option.some.inj ((show Tryz.prog.funcNamed "wagonpool/wagonpoollaw11.EdiExact" = some 9 by kernel_rfl).symm.trans hf) |>.symm
   obtain rfl : fn = Tryz.f9:=(Option.some.inj (Tryz.func9.symm.trans hfn)).symm
   exact ⟨by kernel_rfl,fun j t ht => by
    rw [Tryz.params9] at ht
    have hm : t ∈ [36,41,5,3]:=by simpa using Array.mem_of_getElem? ht
    have hall : ([36,41,5,3].all fun u => !Tryz.prog.wantsStandIn u) = true:=by kernel_rfl
    exact (show Tryz.prog.wantsStandIn t = false by simpa using List.all_eq_true.1 hall t hm)⟩)
  (by kernel_rfl)
end Go.Proofs.YtnfoiocigicdnaaGreatDoor
