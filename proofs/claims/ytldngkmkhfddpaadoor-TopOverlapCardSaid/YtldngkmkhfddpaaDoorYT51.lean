/-
  TopOverlap: true for every input: at most one clause of a tariff whose boxes do not overlap applies, and moving a clause to the front changes nothing. The row lists the package variables (tables of blanks, maps of signs and of reserved words); the card ties them to the program's text. No other condition.
-/
import Derived.Test.YtldngkmkhfddpaaDoorCards
import Derived.Test.YtldngkmkhfddpaaDoorTie
import Derived.Test.YtldngkmkhfddpaaDoorYT47
import Derived.Test.YtldngkmkhfddpaaDoorYT48
import Derived.Test.YtldngkmkhfddpaaDoorYT49
import Derived.Test.YtldngkmkhfddpaaDoorYT50
namespace Go.Proofs.YtldngkmkhfddpaaDoor
open Go.Rv Go.ChangeShapes Go.WideShapes Go.ChangeAt Go.RowKit
set_option linter.unusedVariables false
set_option maxRecDepth 100000 in
theorem J4(os:Os)(started:os.Started)(H:Type)(enc:TypeId×Value→H) :
 ReturnsInHanded {} Tryd.checked os 3 .any (fun w args=>(Rows.topOverlapSpec.pre enc Tryd.prog Tryd.f3 Rows.topOverlapRow.domain false w args∧laidMetH Tryd.prog NY w)∧sizedMet enc Tryd.prog Tryd.f3 (OpenSpec.ofChange Rows.topOverlapSpec) false w args)
  (Rows.topOverlapSpec.post enc Tryd.prog Tryd.f3 false true false false):=by
 refine returnsInHanded_of_change_and (C:=Tryd.checked) (X:=fun w _=>laidMetH Tryd.prog NY w) (fun _ _ _ hh h=>h.of_heap hh) own started (by kernel_rfl) Tryd.func3
  (ChangeSpec.witness_shaped (enc:=enc) (C:=Tryd.checked) (os:=os) (X:=fun w _=>laidMetH Tryd.prog NY w) false (World.doorLaid Tryd.prog 400 os) #[.string ⟨#[]⟩,.agg (Array.replicate 17 (.int .i64 0)),.int .i64 0] 8 rfl (World.shaped_of_RefB (by kernel_rfl) (by kernel_rfl)) (by kernel_rfl) (by kernel_rfl) (by kernel_rfl) (WN os _)) ?_
 intro W base args ds gs before hval0 hW _ _ hL _
 have hval:∀(j:Nat) t v,Tryd.f3.params[j]?=some t→args[j]?=some v→Value.okWide Tryd.prog W .any base t v:=hval0
 have hW':=hW
 obtain⟨p,q,hA0,hV,rfl,hfz,hnd⟩:=hW
 have hA:DataW.TrodAll enc Tryd.prog W 0 (fun _=>true) true Tryd.f3.params.toList args.toList ds p:=hA0
 rw[Tryd.params3]at hA hval
 obtain⟨r,hmem⟩:=WU hL
 obtain⟨v0,vs0,d0,ds0,p0,q0,hargs,rfl,rfl,h0,r0⟩:=trodAll_cons hA
 obtain⟨v1,vs1,d1,ds1,p1,q1,rfl,rfl,rfl,h1,r1⟩:=trodAll_cons r0
 obtain⟨v2,vs2,d2,ds2,p2,q2,rfl,rfl,rfl,h2,r2⟩:=trodAll_cons r1
 obtain⟨rfl,rfl,rfl⟩:=trodAll_nil r2
 obtain rfl:args=#[v0,v1,v2]:=by cases args;simp_all
 obtain⟨rfl,rfl⟩:=trodVars_none hV
 obtain⟨x0,hsz0,hok0,hrep0⟩:=V2 AaC (fun x=>⟨_,rfl⟩) (ME Tryd.underlying9 (hval 0 9 v0 rfl rfl)) h0 (pr:=Aw ((B ⟨r,none⟩).env noF) []) (fun a=>Jt a)
 obtain⟨x1,hsz1,hok1,hrep1⟩:=YP Tryd.underlying24 (hval 1 24 v1 rfl rfl) Yi h1 (pr:=Aw ((B ⟨r,none⟩).env noF) []) (fun a=>Jt a)
 obtain⟨x2,hsz2,hok2,hrep2⟩:=V2 TU (fun x=>⟨_,rfl⟩) (Sj Tryd.underlying3 (hval 2 3 v2 rfl rfl)) h2 (pr:=Aw ((B ⟨r,none⟩).env noF) []) (fun a=>Jt a)
 refine(SL (Iz (Qo x0 x1 x2)) Tryd.func3 rfl (by decide +kernel) hmem (args:=#[v0,v1,v2]) ⟨hrep0 _ rfl,hrep1,hrep2 _ rfl,trivial⟩).mono fun e W' ⟨he,hbel⟩=>?_
 exact⟨_,he,Wv hW' rfl rfl rfl Tryd.underlying4 Z0 (by decide +kernel) hbel⟩
theorem topOverlap_said:Rows.TopOverlapSaid :=
 OpenClaim.holds_of_wide 3 Tryd.f3 rfl rfl rfl rfl rfl rfl rfl ⟨rfl,rfl,rfl,rfl,rfl⟩ rfl rfl rfl rfl rfl (by kernel_rfl) Tryd.func3 (by kernel_rfl)
  (of_decide_eq_true (by kernel_rfl)) (by unfold Func.isWrapper;first|(rw[if_pos (by decide +kernel)];kernel_rfl)|(rw[if_neg (by decide +kernel)];exact⟨rfl,rfl⟩))
  (fun os started H enc _=>J4 os started H enc)
theorem topOverlap_card:Rows.TopOverlapCardSaid :=
 Claim7.holds_tied_plain_at .later [] [.listed,.data,.mapped,.mapped] true (true,"9c2e67090816cec1863c963b2256bb49039225d3212797125bcac6eb1eb563db") true topOverlap_said (fun _ h=>by cases h) (by kernel_rfl) (fun _ h=>by cases h) topOverlap_row_tie rfl ⟨rfl,rfl⟩ (by kernel_rfl) rfl
  (fun f fn hf hfn=>by
   obtain rfl:f=3:=Option.some.inj ((show Tryd.prog.funcNamed "wagonpool/wagonpooltop.TopOverlap" = some 3 by kernel_rfl).symm.trans hf) |>.symm
   obtain rfl:fn=Tryd.f3:=(Option.some.inj (Tryd.func3.symm.trans hfn)).symm
   exact⟨by kernel_rfl,fun j t ht=>by
    rw[Tryd.params3]at ht
    have hm:t∈[9,24,3]:=by simpa using Array.mem_of_getElem? ht
    have hall:([9,24,3].all fun u=>!Tryd.prog.wantsStandIn u)=true:=by kernel_rfl
    exact(show Tryd.prog.wantsStandIn t=false by simpa using List.all_eq_true.1 hall t hm)⟩)
  (by kernel_rfl)
end Go.Proofs.YtldngkmkhfddpaaDoor
