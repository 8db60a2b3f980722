/-
  TopAmendments, the row and the tied card. The row lists the package variables; the card ties them to the program's text. Condition: the arguments are of bulk at most 1048576 (Upto).
-/
import Derived.Test.YtldngkmkhfddpaaGreatDoorCards
import Derived.Test.YtldngkmkhfddpaaGreatDoorTie
import Derived.Test.YtldngkmkhfddpaaGreatDoorYV48
import Derived.Test.YtldngkmkhfddpaaGreatDoorYV50
import Derived.Test.YtldngkmkhfddpaaGreatDoorYV51
namespace Go.Proofs.YtldngkmkhfddpaaGreatDoor
open Go.Rv Go.ChangeShapes Go.WideShapes Go.ChangeAt Go.RowKit
set_option linter.unusedVariables false
set_option linter.unusedSimpArgs false
abbrev Z8:Value:=.agg (Array.replicate 19 (.int .i64 0)++#[.string ⟨#[]⟩,.slice none 0 0])
abbrev Ail(H:Type):DataW H:=.agg [.agg [.lit (.int .i64 0),.lit (.int .i64 0)],.agg [.lit (.int .i64 0),.lit (.int .i64 0)],.lit (.int .i64 0),.agg [.lit (.int .i64 0),.agg [.lit (.int .i64 0),.lit (.int .i64 0)],.lit (.int .i64 0),.lit (.int .i64 0),.lit (.int .i64 0),.lit (.int .i64 0),.lit (.int .i64 0),.lit (.int .i64 0),.lit (.int .i64 0),.lit (.int .i64 0),.lit (.int .i64 0),.lit (.int .i64 0),.lit (.int .i64 0),.lit (.string []),.nil]]
set_option maxRecDepth 100000 in
theorem JN(H:Type)(enc:TypeId×Value->H)(W:World)(base:Nat)(args:Array Value)(ds gs:List (DataW H))(before:List MemPlace) (hval0:∀(j:Nat) t v,Tryz.f3.params[j]?=some t->args[j]?=some v->Value.okWide Tryz.prog W .any base t v) (hW:DataW.Whole enc Tryz.prog Tryz.f3.params.toList Rows.topAmendmentsSpec.vars false W args.toList ds gs before) (hk:Rows.uptoSmall H (ds++gs)=true) (hL:laidMetH Tryz.prog laidM W) :Calls Tryz.prog 3 args W fun e W'=>∃v,e=.returned v/\Rows.topAmendmentsSpec.post enc Tryz.prog Tryz.f3 false true false false W args v W':=by
 have hval:∀(j:Nat) t v,Tryz.f3.params[j]?=some t->args[j]?=some v->Value.okWide Tryz.prog W .any base t v:=hval0;have hW':=hW;obtain⟨p,q,hA0,hV,rfl,hfz,hnd⟩:=hW;have hA:DataW.TrodAll enc Tryz.prog W 0 (fun _=>true) true Tryz.f3.params.toList args.toList ds p:=hA0;rw[Tryz.params3]at hA hval;obtain⟨r,hmem⟩:=Aee hL;obtain⟨v0,vs0,d0,ds0,p0,q0,hargs,rfl,rfl,h0,r0⟩:=trodAll_cons hA;obtain⟨v1,vs1,d1,ds1,p1,q1,rfl,rfl,rfl,h1,r1⟩:=trodAll_cons r0;obtain⟨v2,vs2,d2,ds2,p2,q2,rfl,rfl,rfl,h2,r2⟩:=trodAll_cons r1;obtain⟨v3,vs3,d3,ds3,p3,q3,rfl,rfl,rfl,h3,r3⟩:=trodAll_cons r2;obtain⟨v4,vs4,d4,ds4,p4,q4,rfl,rfl,rfl,h4,r4⟩:=trodAll_cons r3;obtain⟨rfl,rfl,rfl⟩:=trodAll_nil r4;obtain rfl:args=#[v0,v1,v2,v3,v4]:=by cases args;simp_all
 obtain⟨rfl,rfl⟩:=trodVars_none hV;obtain⟨x0,hsz0,hok0,hrep0⟩:=Sm Ahk (fun x=>⟨_,rfl⟩) (Uh Tryz.underlying22 (hval 0 22 v0 rfl rfl)) h0 (pr:=A2 ((B ⟨r,none⟩).env noF) []) (fun a=>Jc a);obtain⟨x1,hsz1,hok1,hrep1⟩:=Agc Tryz.underlying29 (hval 1 29 v1 rfl rfl) Ab9 h1 (pr:=A2 ((B ⟨r,none⟩).env noF) []) (fun a=>Jc a);obtain⟨x2,hsz2,hok2,hrep2⟩:=Sm FV (fun x=>⟨_,rfl⟩) (MM Tryz.underlying3 (hval 2 3 v2 rfl rfl)) h2 (pr:=A2 ((B ⟨r,none⟩).env noF) []) (fun a=>Jc a);obtain⟨x3,hsz3,hok3,hrep3⟩:=Sm FV (fun x=>⟨_,rfl⟩) (MM Tryz.underlying3 (hval 3 3 v3 rfl rfl)) h3 (pr:=A2 ((B ⟨r,none⟩).env noF) []) (fun a=>Jc a);obtain⟨x4,hsz4,hok4,hrep4⟩:=Sm FV (fun x=>⟨_,rfl⟩) (MM Tryz.underlying3 (hval 4 3 v4 rfl rfl)) h4 (pr:=A2 ((B ⟨r,none⟩).env noF) []) (fun a=>Jc a)
 have hbulk:Rows.uptoBulk d0+Rows.uptoBulk d1+Rows.uptoBulk d2+Rows.uptoBulk d3+Rows.uptoBulk d4<=1048576:=by
  have:=Aqq hk;simp only[Ap3,Rows.uptoBulkAll]at this;omega
 have hlen:x0.length<=1048576:=by have e0:x0.length+1<=Rows.uptoBulk d0:=hsz0;omega
 refine(Y9 (JS (Nk x0 x1 x2 x3 x4 (by unfold FY maxLen Hu;omega) (by rw[ApN];unfold FY maxLen Hu;omega))) Tryz.func3 rfl (by decide +kernel) hmem (args:=#[v0,v1,v2,v3,v4]) ⟨hrep0 _ rfl,hrep1,hrep2 _ rfl,hrep3 _ rfl,hrep4 _ rfl,trivial⟩).mono fun e W' ⟨he,hbel⟩=>?_
 exact⟨_,he,Adc hW' rfl rfl rfl Tryz.underlying4 Age (by decide +kernel) hbel⟩
set_option maxRecDepth 100000 in
theorem KV(os:Os)(started:os.Started)(H:Type)(enc:TypeId×Value->H)(F:Stop.Interp) :ReturnsInHanded {} Tryz.checked os 3 .any ((Rows.OpenSpec.upto Rows.topAmendmentsSpec).preRow enc Tryz.prog Tryz.f3 Rows.topAmendmentsUptoRow.domain false Rows.topAmendmentsUptoRow.laid) (((Rows.OpenSpec.upto Rows.topAmendmentsSpec).at F).post enc Tryz.prog Tryz.f3 false true false false):=by
 have hx:DataW.whole enc Tryz.prog ((Aa5 os).forCall (fun _ _=>0) ⟨#[],#[.slice none 0 0,Z8,.int .i64 0,.int .i64 0,.int .i64 0],[]⟩).memory Tryz.f3.params.toList (Rows.OpenSpec.upto Rows.topAmendmentsSpec).vars false
  (#[.slice none 0 0,Z8,.int .i64 0,.int .i64 0,.int .i64 0]:Array Value).toList 8=some ([.nil,Ail H,.lit (.int .i64 0),.lit (.int .i64 0),.lit (.int .i64 0)],[],[]):=by kernel_rfl
 refine returnsInHanded_of_row (C:=Tryz.checked) (s:=Rows.OpenSpec.upto Rows.topAmendmentsSpec) own started (by kernel_rfl) Tryz.func3
  (LN (enc:=enc) (C:=Tryz.checked) false (Aa5 os) #[.slice none 0 0,Z8,.int .i64 0,.int .i64 0,.int .i64 0] rfl
   (World.shaped_of_RefB (by kernel_rfl) (by kernel_rfl)) (by kernel_rfl)
   (OpenSpec.preRow_of_cond 8 hx (by kernel_rfl) (fun k hk=>by cases hk;kernel_rfl) (by kernel_rfl) (AeQ os _))) ?_
 intro W base args ds gs before hval hW _ hcond _ hL _ _;exact JN H enc W base args ds gs before hval hW (hcond _ rfl) hL
theorem topAmendments_upto:Rows.TopAmendmentsUptoSaid :=
 OpenClaim.holds_of_cond 3 Tryz.f3 rfl rfl rfl rfl rfl rfl rfl ⟨rfl,rfl,rfl,rfl,rfl⟩ rfl rfl rfl rfl rfl (by kernel_rfl) Tryz.func3 (by kernel_rfl)
  (Aqq (by kernel_rfl)) (by unfold Func.isWrapper;first|(rw[Ao4 (by decide +kernel)];kernel_rfl)|(rw[Ao6 (by decide +kernel)];exact⟨rfl,rfl⟩))
  (fun os started H enc _ F=>by rw[OpenClaim.pre_eq_preRow];exact KV os started H enc F)
theorem topAmendments_uptoCard:Rows.TopAmendmentsUptoCardSaid :=
 Claim7.holds_tied_plain_at .later [] [.data,.data,.data,.data,.listed,.data,.mapped,.mapped,.pinned] true (true,"0a9310a8cd199b0bc234aabd9153b85485d489014dac6bf7469886b317f1f5e9") true topAmendments_upto (fun _ h=>by cases h) (by kernel_rfl) (fun _ h=>by cases h) topAmendmentsUpto_row_tie rfl ⟨rfl,rfl⟩ (by kernel_rfl) rfl
  (fun f fn hf hfn=>by
   obtain rfl:f=3:=Ao1 ((show Tryz.prog.funcNamed "wagonpool/wagonpooltop.TopAmendments" = some 3 by kernel_rfl).symm.trans hf) |>.symm
   obtain rfl:fn=Tryz.f3:=(Ao1 (Tryz.func3.symm.trans hfn)).symm
   exact⟨by kernel_rfl,fun j t ht=>by
    rw[Tryz.params3]at ht;have hm:t∈[22,29,3,3,3]:=by simpa using Array.mem_of_getElem? ht
    have hall:([22,29,3,3,3].all fun u=>!Tryz.prog.wantsStandIn u)=true:=by kernel_rfl
    exact(show Tryz.prog.wantsStandIn t=false by simpa using Api.1 hall t hm)⟩)
  (by kernel_rfl)
end Go.Proofs.YtldngkmkhfddpaaGreatDoor
