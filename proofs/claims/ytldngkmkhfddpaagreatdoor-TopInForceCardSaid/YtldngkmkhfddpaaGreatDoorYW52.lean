/-
  TopInForce, the row and the tied card. The row lists the package variables; the card ties them to the program's text. No other condition.
-/
import Derived.Test.YtldngkmkhfddpaaGreatDoorCards
import Derived.Test.YtldngkmkhfddpaaGreatDoorTie
import Derived.Test.YtldngkmkhfddpaaGreatDoorYW48
import Derived.Test.YtldngkmkhfddpaaGreatDoorYW50
import Derived.Test.YtldngkmkhfddpaaGreatDoorYW51
namespace Go.Proofs.YtldngkmkhfddpaaGreatDoor
open Go.Rv Go.ChangeShapes Go.WideShapes Go.ChangeAt Go.RowKit
set_option linter.unusedSimpArgs false
set_option linter.unusedVariables false
abbrev AmQ:Value:=.agg (Array.replicate 17 (.int .i64 0))
set_option maxRecDepth 100000 in
theorem N3(os:Os)(started:os.Started)(H:Type)(enc:TypeId×Value->H) :ReturnsInHanded {} Tryz.checked os 4 .any (fun w args=>(Rows.topInForceSpec.pre enc Tryz.prog Tryz.f4 Rows.topInForceRow.domain false w args/\laidMetH Tryz.prog laidM w)/\sizedMet enc Tryz.prog Tryz.f4 (OpenSpec.ofChange Rows.topInForceSpec) false w args) (Rows.topInForceSpec.post enc Tryz.prog Tryz.f4 false true false false):=by
 refine returnsInHanded_of_change_and (C:=Tryz.checked) (X:=fun w _=>laidMetH Tryz.prog laidM w) (fun _ _ _ hh h=>h.of_heap hh) own started (by kernel_rfl) Tryz.func4
  (ChangeSpec.witness_shaped (enc:=enc) (C:=Tryz.checked) (os:=os) (X:=fun w _=>laidMetH Tryz.prog laidM w) false (Ad7 os) #[.slice none 0 0,.int .i64 0,.int .i64 0,.int .i64 0,AmQ] 8 rfl (World.shaped_of_RefB (by kernel_rfl) (by kernel_rfl)) (by kernel_rfl) (by kernel_rfl) (by kernel_rfl) (AeH os _)) ?_
 intro W base args ds gs before hval0 hW _ _ hL _;have hval:∀(j:Nat) t v,Tryz.f4.params[j]?=some t->args[j]?=some v->Value.okWide Tryz.prog W .any base t v:=hval0;have hW':=hW;obtain⟨p,q,hA0,hV,rfl,hfz,hnd⟩:=hW;have hA:DataW.TrodAll enc Tryz.prog W 0 (fun _=>true) true Tryz.f4.params.toList args.toList ds p:=hA0;rw[Tryz.params4]at hA hval;obtain⟨r,hmem⟩:=Ad3 hL;obtain⟨v0,vs0,d0,ds0,p0,q0,hargs,rfl,rfl,h0,r0⟩:=trodAll_cons hA;obtain⟨v1,vs1,d1,ds1,p1,q1,rfl,rfl,rfl,h1,r1⟩:=trodAll_cons r0;obtain⟨v2,vs2,d2,ds2,p2,q2,rfl,rfl,rfl,h2,r2⟩:=trodAll_cons r1;obtain⟨v3,vs3,d3,ds3,p3,q3,rfl,rfl,rfl,h3,r3⟩:=trodAll_cons r2;obtain⟨v4,vs4,d4,ds4,p4,q4,rfl,rfl,rfl,h4,r4⟩:=trodAll_cons r3;obtain⟨rfl,rfl,rfl⟩:=trodAll_nil r4;obtain rfl:args=#[v0,v1,v2,v3,v4]:=by cases args;simp_all
 obtain⟨rfl,rfl⟩:=trodVars_none hV;obtain⟨x0,hsz0,hok0,hrep0⟩:=Ta AhT (fun x=>⟨_,rfl⟩) (Us Tryz.underlying22 (hval 0 22 v0 rfl rfl)) h0 (pr:=Ay ((B ⟨r,none⟩).env noF) []) (fun a=>J0 a);obtain⟨x1,hsz1,hok1,hrep1⟩:=Ta Fq (fun x=>⟨_,rfl⟩) (Ny Tryz.underlying3 (hval 1 3 v1 rfl rfl)) h1 (pr:=Ay ((B ⟨r,none⟩).env noF) []) (fun a=>J0 a);obtain⟨x2,hsz2,hok2,hrep2⟩:=Ta Fq (fun x=>⟨_,rfl⟩) (Ny Tryz.underlying3 (hval 2 3 v2 rfl rfl)) h2 (pr:=Ay ((B ⟨r,none⟩).env noF) []) (fun a=>J0 a);obtain⟨x3,hsz3,hok3,hrep3⟩:=Ta Fq (fun x=>⟨_,rfl⟩) (Ny Tryz.underlying3 (hval 3 3 v3 rfl rfl)) h3 (pr:=Ay ((B ⟨r,none⟩).env noF) []) (fun a=>J0 a);obtain⟨x4,hsz4,hok4,hrep4⟩:=Ah2 Tryz.underlying52 (hval 4 52 v4 rfl rfl) Ai8 h4 (pr:=Ay ((B ⟨r,none⟩).env noF) []) (fun a=>J0 a);refine(Aar (MJ (QR x0 x1 x2 x3 x4 hok0)) Tryz.func4 rfl (by decide +kernel) hmem (args:=#[v0,v1,v2,v3,v4]) ⟨hrep0 _ rfl,hrep1 _ rfl,hrep2 _ rfl,hrep3 _ rfl,hrep4,trivial⟩).mono fun e W' ⟨he,hbel⟩=>?_
 exact⟨_,he,Aep hW' rfl rfl rfl Tryz.underlying4 AhX (by decide +kernel) hbel⟩
theorem topInForce_said:Rows.TopInForceSaid :=
 OpenClaim.holds_of_wide 4 Tryz.f4 rfl rfl rfl rfl rfl rfl rfl ⟨rfl,rfl,rfl,rfl,rfl⟩ rfl rfl rfl rfl rfl (by kernel_rfl) Tryz.func4 (by kernel_rfl)
  (AsL (by kernel_rfl)) (by unfold Func.isWrapper;first|(rw[AqJ (by decide +kernel)];kernel_rfl)|(rw[AqI (by decide +kernel)];exact⟨rfl,rfl⟩))
  (fun os started H enc _=>N3 os started H enc)
theorem topInForce_card:Rows.TopInForceCardSaid :=
 Claim7.holds_tied_plain_at .later [] [.data,.data,.data,.data,.listed,.data,.mapped,.mapped,.pinned] true (true,"0a9310a8cd199b0bc234aabd9153b85485d489014dac6bf7469886b317f1f5e9") true topInForce_said (fun _ h=>by cases h) (by kernel_rfl) (fun _ h=>by cases h) topInForce_row_tie rfl ⟨rfl,rfl⟩ (by kernel_rfl) rfl
  (fun f fn hf hfn=>by
   obtain rfl:f=4:=AqF ((show Tryz.prog.funcNamed "wagonpool/wagonpooltop.TopInForce" = some 4 by kernel_rfl).symm.trans hf) |>.symm
   obtain rfl:fn=Tryz.f4:=(AqF (Tryz.func4.symm.trans hfn)).symm
   exact⟨by kernel_rfl,fun j t ht=>by
    rw[Tryz.params4]at ht;have hm:t∈[22,3,3,3,52]:=by simpa using Array.mem_of_getElem? ht
    have hall:([22,3,3,3,52].all fun u=>!Tryz.prog.wantsStandIn u)=true:=by kernel_rfl
    exact(show Tryz.prog.wantsStandIn t=false by simpa using AqW.1 hall t hm)⟩)
  (by kernel_rfl)
end Go.Proofs.YtldngkmkhfddpaaGreatDoor
