/-
  BookReports: true for every input: reports are in order, name counted records, and an original record without a report has been retracted. The row lists one package variable (the constants of the digest); the card ties it to the program's text. No other condition.
-/
import Derived.Test.YtioapcamanmoiaaDoorCards
import Derived.Test.YtioapcamanmoiaaDoorTie
import Derived.Test.YtioapcamanmoiaaDoorYR43
import Derived.Test.YtioapcamanmoiaaDoorYR45
namespace Go.Proofs.YtioapcamanmoiaaDoor
open Go.Rv Go.ChangeShapes Go.WideShapes Go.ChangeAt Go.RowKit
set_option linter.unusedVariables false
set_option maxRecDepth 100000 in
theorem Pw (os : Os) (started : os.Started) (H : Type) (enc : TypeId×Value→H) :
  ReturnsInHanded {} Tryd.checked os 5 .any (fun w args => (Rows.bookReportsSpec.pre enc Tryd.prog Tryd.f5 Rows.bookReportsRow.domain false w args∧laidMetH Tryd.prog AbR w)∧sizedMet enc Tryd.prog Tryd.f5 (OpenSpec.ofChange Rows.bookReportsSpec) false w args)
   (Rows.bookReportsSpec.post enc Tryd.prog Tryd.f5 false true false false):=by
 refine returnsInHanded_of_change_and (C:=Tryd.checked) (X:=fun w _ => laidMetH Tryd.prog AbR w) (fun _ _ _ hh h => h.of_heap hh) own started (by kernel_rfl) Tryd.func5
  (ChangeSpec.witness_shaped (enc:=enc) (C:=Tryd.checked) (os:=os) (X:=fun w _ => laidMetH Tryd.prog AbR w) false (World.laidAll Tryd.prog os AbR) #[.agg #[.slice none 0 0,.slice none 0 0]] 8 (World.laidAll_os _ _ _) (World.shaped_of_ZipB (by kernel_rfl) (by kernel_rfl)) (by kernel_rfl) (by kernel_rfl) (by kernel_rfl) (by rw [MakeChecks.laidMetH_plain _ _ _ (by kernel_rfl)];exact laidMet_laidAll _ (by kernel_rfl) (by kernel_rfl))) ?_
 intro W base args ds gs before hval0 hW _ _ hL _
 have hval : ∀ (j : Nat) t v,Tryd.f5.params[j]? = some t→args[j]? = some v→Value.okWide Tryd.prog W .any base t v:=hval0
 have hW':=hW
 obtain ⟨p,q,hA0,hV,rfl,hfz,hnd⟩:=hW
 have hA : DataW.TrodAll enc Tryd.prog W 0 (fun _ => true) true Tryd.f5.params.toList args.toList ds p:=hA0
 rw [Tryd.params5] at hA hval
 obtain ⟨v0,vs0,d0,ds0,p0,q0,hargs,rfl,rfl,h0,r0⟩:=trodAll_cons hA
 obtain ⟨rfl,rfl,rfl⟩:=trodAll_nil r0
 obtain rfl : args = #[v0]:=by cases args;simp_all
 obtain ⟨rfl,rfl⟩:=trodVars_none hV
 obtain ⟨x0,hsz0,hok0,hrep0⟩:=Ajn Tryd.underlying40 (hval 0 40 v0 rfl rfl) Aj4 h0 (pr:=Ay (B.env noF) []) (fun a => Ad9 a)
 refine (Afj (My (R9 hok0)) Tryd.func5 rfl (by decide +kernel) hL (args:=#[v0]) ⟨hrep0,trivial⟩).mono fun e W' ⟨he,hbel⟩ => ?_
 exact ⟨_,he,Aiu hW' rfl rfl rfl Tryd.underlying4 Akr (by decide +kernel) hbel⟩
theorem bookReports_said : Rows.BookReportsSaid :=
 OpenClaim.holds_of_wide 5 Tryd.f5 rfl rfl rfl rfl rfl rfl rfl ⟨rfl,rfl,rfl,rfl,rfl⟩ rfl rfl rfl rfl rfl (by kernel_rfl) Tryd.func5 (by kernel_rfl)
  (of_decide_eq_true (by kernel_rfl)) (by unfold Func.isWrapper;first | (rw [if_pos (by decide +kernel)];kernel_rfl) | (rw [if_neg (by decide +kernel)];exact ⟨rfl,rfl⟩))
  (fun os started H enc _ => Pw os started H enc)
theorem bookReports_card : Rows.BookReportsCardSaid :=
 Claim7.holds_tied_plain_at .later [] [.data] true (true,"20196d3f0fe5aced847b63b8e6488d2b3bb1a46b4f08080d3f04e2d720b99c10") false bookReports_said (fun _ h => by cases h) (by kernel_rfl) (fun _ h => by cases h) bookReports_row_tie rfl ⟨rfl,rfl⟩ (by kernel_rfl) rfl
  (fun f fn hf hfn => by
   obtain rfl : f = 5:=Option.some.inj ((show Tryd.prog.funcNamed "wagonpool/wagonpoollaw14.BookReports" = some 5 by kernel_rfl).symm.trans hf) |>.symm
   obtain rfl : fn = Tryd.f5:=(Option.some.inj (Tryd.func5.symm.trans hfn)).symm
   exact ⟨by kernel_rfl,fun j t ht => by
    rw [Tryd.params5] at ht
    have hm : t ∈ [40]:=by simpa using Array.mem_of_getElem? ht
    have hall : ([40].all fun u => !Tryd.prog.wantsStandIn u) = true:=by kernel_rfl
    exact (show Tryd.prog.wantsStandIn t = false by simpa using List.all_eq_true.1 hall t hm)⟩)
  (by kernel_rfl)
end Go.Proofs.YtioapcamanmoiaaDoor
