/-
  TopAmendments, the row and the tied card. The row lists the package variables; the card ties them to the program's text. No other condition.
-/
import Derived.Test.YtldngkmkhfddpaaGreatDoorCards
import Derived.Test.YtldngkmkhfddpaaGreatDoorTie
import Derived.Test.YtldngkmkhfddpaaGreatDoorYX48
import Derived.Test.YtldngkmkhfddpaaGreatDoorYX50
import Derived.Test.YtldngkmkhfddpaaGreatDoorYX51
namespace Go.Proofs.YtldngkmkhfddpaaGreatDoor
open Go.Rv Go.ChangeShapes Go.WideShapes Go.ChangeAt Go.RowKit
set_option linter.unusedSimpArgs false
set_option linter.unusedVariables false
abbrev AjM:Value:=.agg (Array.replicate 19 (.int .i64 0)++#[.string ⟨#[]⟩,.slice none 0 0])
set_option maxRecDepth 100000 in
theorem KM(os:Os)(started:os.Started)(H:Type)(enc:TypeId×Value->H) :ReturnsInHanded {} Tryz.checked os 3 .any (fun w args=>(Rows.topAmendmentsSpec.pre enc Tryz.prog Tryz.f3 Rows.topAmendmentsRow.domain false w args/\laidMetH Tryz.prog laidM w)/\sizedMet enc Tryz.prog Tryz.f3 (OpenSpec.ofChange Rows.topAmendmentsSpec) false w args) (Rows.topAmendmentsSpec.post enc Tryz.prog Tryz.f3 false true false false):=by
 refine returnsInHanded_of_change_and (C:=Tryz.checked) (X:=fun w _=>laidMetH Tryz.prog laidM w) (fun _ _ _ hh h=>h.of_heap hh) own started (by kernel_rfl) Tryz.func3
  (ChangeSpec.witness_shaped (enc:=enc) (C:=Tryz.checked) (os:=os) (X:=fun w _=>laidMetH Tryz.prog laidM w) false (AeV os) #[.slice none 0 0,AjM,.int .i64 0,.int .i64 0,.int .i64 0] 8 rfl (World.shaped_of_RefB (by kernel_rfl) (by kernel_rfl)) (by kernel_rfl) (by kernel_rfl) (by kernel_rfl) (Ad1 os _)) ?_
 intro W base args ds gs before hval0 hW _ hwt hL _;have hval:∀(j:Nat) t v,Tryz.f3.params[j]?=some t->args[j]?=some v->Value.okWide Tryz.prog W .any base t v:=hval0;have hW':=hW;obtain⟨p,q,hA0,hV,rfl,hfz,hnd⟩:=hW;have hA:DataW.TrodAll enc Tryz.prog W 0 (fun _=>true) true Tryz.f3.params.toList args.toList ds p:=hA0;rw[Tryz.params3]at hA hval;obtain⟨r,hmem⟩:=Ael hL;obtain⟨v0,vs0,d0,ds0,p0,q0,hargs,rfl,rfl,h0,r0⟩:=trodAll_cons hA;obtain⟨v1,vs1,d1,ds1,p1,q1,rfl,rfl,rfl,h1,r1⟩:=trodAll_cons r0;obtain⟨v2,vs2,d2,ds2,p2,q2,rfl,rfl,rfl,h2,r2⟩:=trodAll_cons r1;obtain⟨v3,vs3,d3,ds3,p3,q3,rfl,rfl,rfl,h3,r3⟩:=trodAll_cons r2;obtain⟨v4,vs4,d4,ds4,p4,q4,rfl,rfl,rfl,h4,r4⟩:=trodAll_cons r3;obtain⟨rfl,rfl,rfl⟩:=trodAll_nil r4;obtain rfl:args=#[v0,v1,v2,v3,v4]:=by cases args;simp_all
 obtain⟨rfl,rfl⟩:=trodVars_none hV;obtain⟨x0,hsz0,hok0,hrep0⟩:=RB AgQ (fun x=>⟨_,rfl⟩) (Nq Tryz.underlying22 (hval 0 22 v0 rfl rfl)) h0 (pr:=A3 ((B ⟨r,none⟩).env noF) []) (fun a=>IX a);obtain⟨x1,hsz1,hok1,hrep1⟩:=Af2 Tryz.underlying29 (hval 1 29 v1 rfl rfl) Aby h1 (pr:=A3 ((B ⟨r,none⟩).env noF) []) (fun a=>IX a);obtain⟨x2,hsz2,hok2,hrep2⟩:=RB FN (fun x=>⟨_,rfl⟩) (MQ Tryz.underlying3 (hval 2 3 v2 rfl rfl)) h2 (pr:=A3 ((B ⟨r,none⟩).env noF) []) (fun a=>IX a);obtain⟨x3,hsz3,hok3,hrep3⟩:=RB FN (fun x=>⟨_,rfl⟩) (MQ Tryz.underlying3 (hval 3 3 v3 rfl rfl)) h3 (pr:=A3 ((B ⟨r,none⟩).env noF) []) (fun a=>IX a);obtain⟨x4,hsz4,hok4,hrep4⟩:=RB FN (fun x=>⟨_,rfl⟩) (MQ Tryz.underlying3 (hval 4 3 v4 rfl rfl)) h4 (pr:=A3 ((B ⟨r,none⟩).env noF) []) (fun a=>IX a)
 have hw0:(d0.weights Tryz.prog 22).all (·<=reachBytes)=true:=by
  rw[Tryz.params3]at hwt;simp only[Apv,ApR,DataW.weightsEach,List.all_append,Apj]at hwt;exact hwt.1
 have hlen:=AdM Tryz.underlying22 (Nq Tryz.underlying22 (hval 0 22 v0 rfl rfl)) h0 (hrep0 _ rfl) hw0;rw[Af7]at hlen;unfold reachBytes at hlen;refine(Zx (JO (MP x0 x1 x2 x3 x4 (by unfold FT maxLen Hv;omega) (by rw[ApR];unfold FT maxLen Hv;omega))) Tryz.func3 rfl (by decide +kernel) hmem (args:=#[v0,v1,v2,v3,v4]) ⟨hrep0 _ rfl,hrep1,hrep2 _ rfl,hrep3 _ rfl,hrep4 _ rfl,trivial⟩).mono fun e W' ⟨he,hbel⟩=>?_
 exact⟨_,he,Aez hW' rfl rfl rfl Tryz.underlying4 Ago (by decide +kernel) hbel⟩
theorem topAmendments_said:Rows.TopAmendmentsSaid :=
 OpenClaim.holds_of_wide 3 Tryz.f3 rfl rfl rfl rfl rfl rfl rfl ⟨rfl,rfl,rfl,rfl,rfl⟩ rfl rfl rfl rfl rfl (by kernel_rfl) Tryz.func3 (by kernel_rfl)
  (AqA (by kernel_rfl)) (by unfold Func.isWrapper;first|(rw[Apb (by decide +kernel)];kernel_rfl)|(rw[Apd (by decide +kernel)];exact⟨rfl,rfl⟩))
  (fun os started H enc _=>KM os started H enc)
theorem topAmendments_card:Rows.TopAmendmentsCardSaid :=
 Claim7.holds_tied_plain_at .later [] [.data,.data,.data,.data,.listed,.data,.mapped,.mapped,.pinned] true (true,"0a9310a8cd199b0bc234aabd9153b85485d489014dac6bf7469886b317f1f5e9") true topAmendments_said (fun _ h=>by cases h) (by kernel_rfl) (fun _ h=>by cases h) topAmendments_row_tie rfl ⟨rfl,rfl⟩ (by kernel_rfl) rfl
  (fun f fn hf hfn=>by
   obtain rfl:f=3:=Ao8 ((show Tryz.prog.funcNamed "wagonpool/wagonpooltop.TopAmendments" = some 3 by kernel_rfl).symm.trans hf) |>.symm
   obtain rfl:fn=Tryz.f3:=(Ao8 (Tryz.func3.symm.trans hfn)).symm
   exact⟨by kernel_rfl,fun j t ht=>by
    rw[Tryz.params3]at ht;have hm:t∈[22,29,3,3,3]:=by simpa using Array.mem_of_getElem? ht
    have hall:([22,29,3,3,3].all fun u=>!Tryz.prog.wantsStandIn u)=true:=by kernel_rfl
    exact(show Tryz.prog.wantsStandIn t=false by simpa using App.1 hall t hm)⟩)
  (by kernel_rfl)
end Go.Proofs.YtldngkmkhfddpaaGreatDoor
