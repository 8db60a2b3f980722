/-
  BookAcceptMatchesReference: true for every input: Accept agrees with the reference implementation. The row lists one package variable (the constants of the digest); the card ties it to the program's text. No other condition.
-/
import Derived.Test.YtioapcamanmoiaaGreatDoorCards
import Derived.Test.YtioapcamanmoiaaGreatDoorTie
import Derived.Test.YtioapcamanmoiaaGreatDoorYA44
import Derived.Test.YtioapcamanmoiaaGreatDoorYA46
import Derived.Test.YtioapcamanmoiaaGreatDoorYA47
set_option linter.unusedVariables false
set_option linter.unusedSimpArgs false
namespace Go.Proofs.YtioapcamanmoiaaGreatDoor
open Go.Rv Go.ChangeShapes Go.WideShapes Go.ChangeAt Go.RowKit
set_option maxRecDepth 100000 in
theorem FI(os:Os)(started:os.Started)(H:Type)(enc:TypeId×Value→H) :ReturnsInHanded {} Tryz.checked os 3 .any (fun w args=>(Rows.bookAcceptMatchesReferenceSpec.pre enc Tryz.prog Tryz.f3 Rows.bookAcceptMatchesReferenceRow.domain false w args∧laidMetH Tryz.prog Xq w)∧sizedMet enc Tryz.prog Tryz.f3 (OpenSpec.ofChange Rows.bookAcceptMatchesReferenceSpec) false w args) (Rows.bookAcceptMatchesReferenceSpec.post enc Tryz.prog Tryz.f3 false true false false):=by
 refine returnsInHanded_of_change_and (C:=Tryz.checked) (X:=fun w _=>laidMetH Tryz.prog Xq w) (fun _ _ _ hh h=>h.of_heap hh) own started (by kernel_rfl) Tryz.func3
  (ChangeSpec.witness_shaped (enc:=enc) (C:=Tryz.checked) (os:=os) (X:=fun w _=>laidMetH Tryz.prog Xq w) false (World.laidAll Tryz.prog os Xq) #[.agg #[.slice none 0 0,.slice none 0 0,.slice none 0 0,.slice none 0 0,.slice none 0 0,.slice none 0 0,.slice none 0 0,.slice none 0 0,.slice none 0 0],.agg #[.slice none 0 0,.slice none 0 0],.agg (#[.int .i64 0,.int .i64 0]++Array.replicate 32 (.int .u8 0)++Array.replicate 15 (.int .i64 0)++#[.string ⟨#[]⟩,.slice none 0 0,.int .u64 0,.int .u64 0])] 8 (World.laidAll_os _ _ _) (World.shaped_of_ZipB (by kernel_rfl) (by kernel_rfl)) (by kernel_rfl) (by kernel_rfl) (by kernel_rfl) (by rw[MakeChecks.laidMetH_plain _ _ _ (by kernel_rfl)];exact laidMet_laidAll _ (by kernel_rfl) (by kernel_rfl))) ?_
 intro W base args ds gs before hval0 hW _ _ hL _;have hval:∀(j:Nat) t v,Tryz.f3.params[j]?=some t→args[j]?=some v→Value.okWide Tryz.prog W .any base t v:=hval0;have hW':=hW;obtain⟨p,q,hA0,hV,rfl,hfz,hnd⟩:=hW;have hA:DataW.TrodAll enc Tryz.prog W 0 (fun _=>true) true Tryz.f3.params.toList args.toList ds p:=hA0;rw[Tryz.params3]at hA hval;obtain⟨v0,vs0,d0,ds0,p0,q0,hargs,rfl,rfl,h0,r0⟩:=trodAll_cons hA;obtain⟨v1,vs1,d1,ds1,p1,q1,rfl,rfl,rfl,h1,r1⟩:=trodAll_cons r0;obtain⟨v2,vs2,d2,ds2,p2,q2,rfl,rfl,rfl,h2,r2⟩:=trodAll_cons r1;obtain⟨rfl,rfl,rfl⟩:=trodAll_nil r2;obtain rfl:args=#[v0,v1,v2]:=by cases args;simp_all
 obtain⟨rfl,rfl⟩:=trodVars_none hV;obtain⟨x0,hsz0,hok0,hrep0⟩:=Xz Tryz.underlying36 (hval 0 36 v0 rfl rfl) AjE h0 (pr:=AA (B.env noF) []) (fun a=>MM a);obtain⟨x1,hsz1,hok1,hrep1⟩:=Xz Tryz.underlying40 (hval 1 40 v1 rfl rfl) Aje h1 (pr:=AA (B.env noF) []) (fun a=>MM a);obtain⟨x2,hsz2,hok2,hrep2⟩:=Xz Tryz.underlying52 (hval 2 52 v2 rfl rfl) SR h2 (pr:=AA (B.env noF) []) (fun a=>MM a);refine(AaR (EW (XW hok0 hok1 hok2)) Tryz.func3 rfl (by decide +kernel) hL (args:=#[v0,v1,v2]) ⟨hrep0,hrep1,hrep2,trivial⟩).mono fun e W' ⟨he,hbel⟩=>?_
 exact⟨_,he,Ae9 hW' rfl rfl rfl Tryz.underlying4 AjG (by decide +kernel) hbel⟩
theorem bookAcceptMatchesReference_said:Rows.BookAcceptMatchesReferenceSaid :=
 OpenClaim.holds_of_wide 3 Tryz.f3 rfl rfl rfl rfl rfl rfl rfl ⟨rfl,rfl,rfl,rfl,rfl⟩ rfl rfl rfl rfl rfl (by kernel_rfl) Tryz.func3 (by kernel_rfl)
  (of_decide_eq_true (by kernel_rfl)) (by unfold Func.isWrapper;first|(rw[AsU (by decide +kernel)];kernel_rfl)|(rw[AsX (by decide +kernel)];exact⟨rfl,rfl⟩))
  (fun os started H enc _=>FI os started H enc)
theorem bookAcceptMatchesReference_card:Rows.BookAcceptMatchesReferenceCardSaid :=
 Claim7.holds_tied_plain_at .later [] [.data] true (true,"458d4fbcc6102551507b443c65690f32c7fb031f458890ac13b613ec9ffe324e") true bookAcceptMatchesReference_said (fun _ h=>by cases h) (by kernel_rfl) (fun _ h=>by cases h) bookAcceptMatchesReference_row_tie rfl ⟨rfl,rfl⟩ (by kernel_rfl) rfl
  (fun f fn hf hfn=>by
   obtain rfl:f=3:=AtA ((show Tryz.prog.funcNamed "wagonpool/wagonpoollaw14.BookAcceptMatchesReference" = some 3 by kernel_rfl).symm.trans hf) |>.symm
   obtain rfl:fn=Tryz.f3:=(AtA (Tryz.func3.symm.trans hfn)).symm
   exact⟨by kernel_rfl,fun j t ht=>by
    rw[Tryz.params3]at ht;have hm:t∈[36,40,52]:=by simpa using Array.mem_of_getElem? ht
    have hall:([36,40,52].all fun u=>!Tryz.prog.wantsStandIn u)=true:=by kernel_rfl
    exact(show Tryz.prog.wantsStandIn t=false by simpa using Atc.1 hall t hm)⟩)
  (by kernel_rfl)
end Go.Proofs.YtioapcamanmoiaaGreatDoor
