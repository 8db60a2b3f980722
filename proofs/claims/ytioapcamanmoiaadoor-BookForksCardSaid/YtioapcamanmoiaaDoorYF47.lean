/-
  BookForks: true for every input: two different records signed for one place are a fork in whichever order they are accepted, and the counted books stay as they were. The row lists one package variable (the constants of the digest); the card ties it to the program's text. No other condition.
-/
import Derived.Test.YtioapcamanmoiaaDoorCards
import Derived.Test.YtioapcamanmoiaaDoorTie
import Derived.Test.YtioapcamanmoiaaDoorYF44
import Derived.Test.YtioapcamanmoiaaDoorYF45
import Derived.Test.YtioapcamanmoiaaDoorYF46
namespace Go.Proofs.YtioapcamanmoiaaDoor
open Go.Rv Go.ChangeShapes Go.WideShapes Go.ChangeAt Go.RowKit
set_option linter.unusedVariables false
set_option maxRecDepth 100000 in
theorem Lj(os:Os)(started:os.Started)(H:Type)(enc:TypeId×Value→H) :ReturnsInHanded {} Tryd.checked os 4 .any (fun w args=>(Rows.bookForksSpec.pre enc Tryd.prog Tryd.f4 Rows.bookForksRow.domain false w args∧laidMetH Tryd.prog S4 w)∧sizedMet enc Tryd.prog Tryd.f4 (OpenSpec.ofChange Rows.bookForksSpec) false w args) (Rows.bookForksSpec.post enc Tryd.prog Tryd.f4 false true false false):=by
 refine returnsInHanded_of_change_and (C:=Tryd.checked) (X:=fun w _=>laidMetH Tryd.prog S4 w) (fun _ _ _ hh h=>h.of_heap hh) own started (by kernel_rfl) Tryd.func4
  (ChangeSpec.witness_shaped (enc:=enc) (C:=Tryd.checked) (os:=os) (X:=fun w _=>laidMetH Tryd.prog S4 w) false (World.laidAll Tryd.prog os S4) #[.agg #[.slice none 0 0,.slice none 0 0,.slice none 0 0,.slice none 0 0,.slice none 0 0,.slice none 0 0,.slice none 0 0,.slice none 0 0,.slice none 0 0],.agg #[.slice none 0 0,.slice none 0 0],.int .i64 0,.int .u64 0,.int .i64 0,.agg #[.int .i64 0,.int .i64 0,.int .i64 0,.int .i64 0,.int .i64 0,.int .i64 0,.int .i64 0,.int .i64 0,.int .i64 0,.int .i64 0,.int .i64 0,.int .i64 0,.int .i64 0,.int .i64 0,.string ⟨#[]⟩,.slice none 0 0],.agg #[.int .i64 0,.int .i64 0,.int .i64 0,.int .i64 0,.int .i64 0,.int .i64 0,.int .i64 0,.int .i64 0,.int .i64 0,.int .i64 0,.int .i64 0,.int .i64 0,.int .i64 0,.int .i64 0,.string ⟨#[]⟩,.slice none 0 0]] 8 (World.laidAll_os _ _ _) (World.shaped_of_ZipB (by kernel_rfl) (by kernel_rfl)) (by kernel_rfl) (by kernel_rfl) (by kernel_rfl) (by rw[MakeChecks.laidMetH_plain _ _ _ (by kernel_rfl)];exact laidMet_laidAll _ (by kernel_rfl) (by kernel_rfl))) ?_
 intro W base args ds gs before hval0 hW _ _ hL _;have hval:∀(j:Nat) t v,Tryd.f4.params[j]?=some t→args[j]?=some v→Value.okWide Tryd.prog W .any base t v:=hval0;have hW':=hW;obtain⟨p,q,hA0,hV,rfl,hfz,hnd⟩:=hW;have hA:DataW.TrodAll enc Tryd.prog W 0 (fun _=>true) true Tryd.f4.params.toList args.toList ds p:=hA0;rw[Tryd.params4]at hA hval;obtain⟨v0,vs0,d0,ds0,p0,q0,hargs,rfl,rfl,h0,r0⟩:=trodAll_cons hA;obtain⟨v1,vs1,d1,ds1,p1,q1,rfl,rfl,rfl,h1,r1⟩:=trodAll_cons r0;obtain⟨v2,vs2,d2,ds2,p2,q2,rfl,rfl,rfl,h2,r2⟩:=trodAll_cons r1;obtain⟨v3,vs3,d3,ds3,p3,q3,rfl,rfl,rfl,h3,r3⟩:=trodAll_cons r2;obtain⟨v4,vs4,d4,ds4,p4,q4,rfl,rfl,rfl,h4,r4⟩:=trodAll_cons r3;obtain⟨v5,vs5,d5,ds5,p5,q5,rfl,rfl,rfl,h5,r5⟩:=trodAll_cons r4;obtain⟨v6,vs6,d6,ds6,p6,q6,rfl,rfl,rfl,h6,r6⟩:=trodAll_cons r5;obtain⟨rfl,rfl,rfl⟩:=trodAll_nil r6;obtain rfl:args=#[v0,v1,v2,v3,v4,v5,v6]:=by cases args;simp_all
 obtain⟨rfl,rfl⟩:=trodVars_none hV;obtain⟨x0,hsz0,hok0,hrep0⟩:=P4 Tryd.underlying36 (hval 0 36 v0 rfl rfl) Acv h0 (pr:=A0 (B.env noF) []) (fun a=>EX a);obtain⟨x1,hsz1,hok1,hrep1⟩:=P4 Tryd.underlying40 (hval 1 40 v1 rfl rfl) Acf h1 (pr:=A0 (B.env noF) []) (fun a=>EX a);obtain⟨x2,hsz2,hok2,hrep2⟩:=Tm AR (fun x=>⟨_,rfl⟩) (Ke Tryd.underlying3 (hval 2 3 v2 rfl rfl)) h2 (pr:=A0 (B.env noF) []) (fun a=>EX a);obtain⟨x3,hsz3,hok3,hrep3⟩:=Tm N8 (fun x=>⟨_,rfl⟩) (Ke Tryd.underlying41 (hval 3 41 v3 rfl rfl)) h3 (pr:=A0 (B.env noF) []) (fun a=>EX a);obtain⟨x4,hsz4,hok4,hrep4⟩:=Tm AR (fun x=>⟨_,rfl⟩) (Ke Tryd.underlying3 (hval 4 3 v4 rfl rfl)) h4 (pr:=A0 (B.env noF) []) (fun a=>EX a);obtain⟨x5,hsz5,hok5,hrep5⟩:=P4 Tryd.underlying46 (hval 5 46 v5 rfl rfl) Tu h5 (pr:=A0 (B.env noF) []) (fun a=>EX a);obtain⟨x6,hsz6,hok6,hrep6⟩:=P4 Tryd.underlying46 (hval 6 46 v6 rfl rfl) Tu h6 (pr:=A0 (B.env noF) []) (fun a=>EX a);refine(VS (IE (NI hok0 hok1 hok2 hok3 hok4 hok5 hok6)) Tryd.func4 rfl (by decide +kernel) hL (args:=#[v0,v1,v2,v3,v4,v5,v6]) ⟨hrep0,hrep1,hrep2 _ rfl,hrep3 _ rfl,hrep4 _ rfl,hrep5,hrep6,trivial⟩).mono fun e W' ⟨he,hbel⟩=>?_
 exact⟨_,he,Aac hW' rfl rfl rfl Tryd.underlying4 AdJ (by decide +kernel) hbel⟩
theorem bookForks_said:Rows.BookForksSaid :=
 OpenClaim.holds_of_wide 4 Tryd.f4 rfl rfl rfl rfl rfl rfl rfl ⟨rfl,rfl,rfl,rfl,rfl⟩ rfl rfl rfl rfl rfl (by kernel_rfl) Tryd.func4 (by kernel_rfl)
  (of_decide_eq_true (by kernel_rfl)) (by unfold Func.isWrapper;first|(rw[AkS (by decide +kernel)];kernel_rfl)|(rw[AkT (by decide +kernel)];exact⟨rfl,rfl⟩))
  (fun os started H enc _=>Lj os started H enc)
theorem bookForks_card:Rows.BookForksCardSaid :=
 Claim7.holds_tied_plain_at .later [] [.data] true (true,"20196d3f0fe5aced847b63b8e6488d2b3bb1a46b4f08080d3f04e2d720b99c10") false bookForks_said (fun _ h=>by cases h) (by kernel_rfl) (fun _ h=>by cases h) bookForks_row_tie rfl ⟨rfl,rfl⟩ (by kernel_rfl) rfl
  (fun f fn hf hfn=>by
   obtain rfl:f=4:=Alm ((show Tryd.prog.funcNamed "wagonpool/wagonpoollaw14.BookForks" = some 4 by kernel_rfl).symm.trans hf) |>.symm
   obtain rfl:fn=Tryd.f4:=(Alm (Tryd.func4.symm.trans hfn)).symm
   exact⟨by kernel_rfl,fun j t ht=>by
    rw[Tryd.params4]at ht;have hm:t∈[36,40,3,41,3,46,46]:=by simpa using Array.mem_of_getElem? ht
    have hall:([36,40,3,41,3,46,46].all fun u=>!Tryd.prog.wantsStandIn u)=true:=by kernel_rfl
    exact(show Tryd.prog.wantsStandIn t=false by simpa using Ak4.1 hall t hm)⟩)
  (by kernel_rfl)
end Go.Proofs.YtioapcamanmoiaaDoor
