/-
  BookLinks: true for every input: a record that Accept adds behind another names the digest of the one before it and is not earlier. The row lists one package variable (the constants of the digest); the card ties it to the program's text. No other condition.
-/
import Derived.Test.YtioapcamanmoiaaDoorCards
import Derived.Test.YtioapcamanmoiaaDoorTie
import Derived.Test.YtioapcamanmoiaaDoorYX643
import Derived.Test.YtioapcamanmoiaaDoorYX644
import Derived.Test.YtioapcamanmoiaaDoorYX646
namespace Go.Proofs.YtioapcamanmoiaaDoor
open Go.Rv Go.ChangeShapes Go.WideShapes Go.ChangeAt Go.RowKit
set_option linter.unusedVariables false
set_option maxRecDepth 100000 in
theorem S6 (os : Os) (started : os.Started) (H : Type) (enc : TypeId×Value→H) :
  ReturnsInHanded {} Tryd.checked os 6 .any (fun w args => (Rows.bookLinksSpec.pre enc Tryd.prog Tryd.f6 Rows.bookLinksRow.domain false w args∧laidMetH Tryd.prog Ad4 w)∧sizedMet enc Tryd.prog Tryd.f6 (OpenSpec.ofChange Rows.bookLinksSpec) false w args)
   (Rows.bookLinksSpec.post enc Tryd.prog Tryd.f6 false true false false):=by
 refine returnsInHanded_of_change_and (C:=Tryd.checked) (X:=fun w _ => laidMetH Tryd.prog Ad4 w) (fun _ _ _ hh h => h.of_heap hh) own started (by kernel_rfl) Tryd.func6
  (ChangeSpec.witness_shaped (enc:=enc) (C:=Tryd.checked) (os:=os) (X:=fun w _ => laidMetH Tryd.prog Ad4 w) false (World.laidAll Tryd.prog os Ad4) #[.agg #[.slice none 0 0,.slice none 0 0,.slice none 0 0,.slice none 0 0,.slice none 0 0,.slice none 0 0,.slice none 0 0,.slice none 0 0,.slice none 0 0],.agg #[.slice none 0 0,.slice none 0 0],.agg (#[.int .i64 0,.int .i64 0] ++ Array.replicate 32 (.int .u8 0) ++ Array.replicate 15 (.int .i64 0) ++ #[.string ⟨#[]⟩,.slice none 0 0,.int .u64 0,.int .u64 0])] 8 (World.laidAll_os _ _ _) (World.shaped_of_ZipB (by kernel_rfl) (by kernel_rfl)) (by kernel_rfl) (by kernel_rfl) (by kernel_rfl) (by rw [MakeChecks.laidMetH_plain _ _ _ (by kernel_rfl)];exact laidMet_laidAll _ (by kernel_rfl) (by kernel_rfl))) ?_
 intro W base args ds gs before hval0 hW _ _ hL _
 have hval : ∀ (j : Nat) t v,Tryd.f6.params[j]? = some t→args[j]? = some v→Value.okWide Tryd.prog W .any base t v:=hval0
 have hW':=hW
 obtain ⟨p,q,hA0,hV,rfl,hfz,hnd⟩:=hW
 have hA : DataW.TrodAll enc Tryd.prog W 0 (fun _ => true) true Tryd.f6.params.toList args.toList ds p:=hA0
 rw [Tryd.params6] at hA hval
 obtain ⟨v0,vs0,d0,ds0,p0,q0,hargs,rfl,rfl,h0,r0⟩:=trodAll_cons hA
 obtain ⟨v1,vs1,d1,ds1,p1,q1,rfl,rfl,rfl,h1,r1⟩:=trodAll_cons r0
 obtain ⟨v2,vs2,d2,ds2,p2,q2,rfl,rfl,rfl,h2,r2⟩:=trodAll_cons r1
 obtain ⟨rfl,rfl,rfl⟩:=trodAll_nil r2
 obtain rfl : args = #[v0,v1,v2]:=by cases args;simp_all
 obtain ⟨rfl,rfl⟩:=trodVars_none hV
 obtain ⟨x0,hsz0,hok0,hrep0⟩:=Aco Tryd.underlying36 (hval 0 36 v0 rfl rfl) Alu h0 (pr:=A1 (B.env noF) []) (fun a => Rg a)
 obtain ⟨x1,hsz1,hok1,hrep1⟩:=Aco Tryd.underlying40 (hval 1 40 v1 rfl rfl) AmY h1 (pr:=A1 (B.env noF) []) (fun a => Rg a)
 obtain ⟨x2,hsz2,hok2,hrep2⟩:=Aco Tryd.underlying56 (hval 2 56 v2 rfl rfl) AaA h2 (pr:=A1 (B.env noF) []) (fun a => Rg a)
 refine (Agq (Pt (Xr hok0 hok1 hok2)) Tryd.func6 rfl (by decide +kernel) hL (args:=#[v0,v1,v2]) ⟨hrep0,hrep1,hrep2,trivial⟩).mono fun e W' ⟨he,hbel⟩ => ?_
 exact ⟨_,he,Aj9 hW' rfl rfl rfl Tryd.underlying4 Al7 (by decide +kernel) hbel⟩
theorem bookLinks_said : Rows.BookLinksSaid :=
 OpenClaim.holds_of_wide 6 Tryd.f6 rfl rfl rfl rfl rfl rfl rfl ⟨rfl,rfl,rfl,rfl,rfl⟩ rfl rfl rfl rfl rfl (by kernel_rfl) Tryd.func6 (by kernel_rfl)
  (of_decide_eq_true (by kernel_rfl)) (by unfold Func.isWrapper;first | (rw [if_pos (by decide +kernel)];kernel_rfl) | (rw [if_neg (by decide +kernel)];exact ⟨rfl,rfl⟩))
  (fun os started H enc _ => S6 os started H enc)
theorem bookLinks_card : Rows.BookLinksCardSaid :=
 Claim7.holds_tied_plain_at .later [] [.data] true (true,"20196d3f0fe5aced847b63b8e6488d2b3bb1a46b4f08080d3f04e2d720b99c10") false bookLinks_said (fun _ h => by cases h) (by kernel_rfl) (fun _ h => by cases h) bookLinks_row_tie rfl ⟨rfl,rfl⟩ (by kernel_rfl) rfl
  (fun f fn hf hfn => by
   obtain rfl : f = 6:=Option.some.inj ((show Tryd.prog.funcNamed "wagonpool/wagonpoollaw14.BookLinks" = some 6 by kernel_rfl).symm.trans hf) |>.symm
   obtain rfl : fn = Tryd.f6:=(Option.some.inj (Tryd.func6.symm.trans hfn)).symm
   exact ⟨by kernel_rfl,fun j t ht => by
    rw [Tryd.params6] at ht
    have hm : t ∈ [36,40,56]:=by simpa using Array.mem_of_getElem? ht
    have hall : ([36,40,56].all fun u => !Tryd.prog.wantsStandIn u) = true:=by kernel_rfl
    exact (show Tryd.prog.wantsStandIn t = false by simpa using List.all_eq_true.1 hall t hm)⟩)
  (by kernel_rfl)
end Go.Proofs.YtioapcamanmoiaaDoor
