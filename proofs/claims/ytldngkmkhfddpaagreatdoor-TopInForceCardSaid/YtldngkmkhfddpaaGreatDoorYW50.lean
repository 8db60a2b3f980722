/-
  Part 50.
-/
import Derived.Test.YtldngkmkhfddpaaGreatDoorYW44
import Derived.Test.YtldngkmkhfddpaaGreatDoorYW48
import Derived.Test.YtldngkmkhfddpaaGreatDoorYW49
import Derived.KernelRfl
import Derived.Lib.Bytealg
import Derived.Lib.Join
namespace Go.Proofs.YtldngkmkhfddpaaGreatDoor
open Go.Rv
set_option linter.unusedVariables false
set_option linter.unusedSimpArgs false
set_option maxRecDepth 20000
variable {rs:Aqm}
set_option maxHeartbeats 4000000
theorem Gb{j:Aqu}{b:List Aqs}{r:(Aqs×Aqu)⊕(Int×Int×Aqu)}(h:BA j b=some r):PCon (B rs) 52 [.ref 0 0,.bs false 1 (b.length) 0 (b.length)] [pS j,.buf 9 (L Ab b) false] (Jp b r):=by
 refine BH (N:=51) (rs:=[.cell 4 47]) 2 rfl ok Tryz.func52 rfl (by decide +kernel) rfl rfl (AqV rfl) (fun F=>?_);have hE:=(ok (rs:=rs)).env F;unfold BA at h;show Run ((B rs).env F) 2 _ ⟨Ah 51 [(0,.ref 0 0),(1,.bs false 1 (b.length) 0 (b.length))],[pS j,.buf 9 (L Ab b) false]⟩ _;refine BN ?_;revert h;refine T0 [0,1,4] ?_;refine Bd fun ac ad =>Te [0,1,4,5] (Ae (l:=[]) (m:=[(9,50,[.ref 0 0],[pS j,.buf 9 (L Ab b) false,.box (.str ([]:List UInt8)::.sl true (L Ag ([]))::zE) false],_,_)]) trivial ⟨(wc (BX ad) [0]),trivial⟩) Ev ?_
 intro h;replace h:=Am h;obtain⟨ae,p,h⟩:=h;rcases ae with k|aC
 rotate_left
 ·dsimp only at h;refine Ts 1 11 [.ref 0 0] (Pw (D4 p) [0]) (fun _=>?_);obtain rfl:=AqF h;exact wpR [0,1]
 dsimp only at h;refine Td [0,1,4,5,6] 11 [.ref 0 0] (wcp (D4 p) [0]) ?_;revert h;refine Sq <|Bd fun a af =>Te [0,4,5,6,15] (Ae (l:=[]) (m:=[(15,87,[.bs false 1 (b.length) 0 (b.length),.fn 88 [.ref 3 0]],[pS k.2,.buf 9 (L Ab b) false,.box (.str ([]:List UInt8)::.sl true (L Ag ([]))::zE) false,.box (.str k.1::.sl true (L Ag ([]))::zE) false],_,_)]) trivial ⟨(wc (Gv af) [1,3]),trivial⟩) Ev ?_
 refine Cd ?_ ?_
 ·intro h;refine E8 hE [] 3 _ (v:=.iface 104 (.agg #[.int .i64 ac.1,.int .i64 161])) (σ2:=[pS k.2,.buf 9 (L Ab b) false,.box (.str ([]:List UInt8)::.sl true (L Ag ([]))::zE) false,.box (.str a.2.Name::.sl true (L Ag ([]))::i64 a.2.Pay.Op::i64 a.2.Pay.N::(C1 i64 a.2.Pay.Unit.l++[.sl true (L cApi_Expr ([]))])) false]) (vals:=[]) rfl rfl ⟨_,[],Aa,trivial,?_⟩ (fun ag ah ai=>?_)
  ·simp only[go_sem]
  refine Dx ?_;obtain rfl:=AqF h;exact wpR [0,1]
 refine Sk <|Tn <|?_
 refine Jo (fun⟨q,s,c⟩=>⟨Ah 51 [(0,.ref 0 0),(4,.ref 2 0),(6,.ref 3 0)],[.box [.sl false (L An q),i64 s] false,.buf 9 (L Ab b) false,.box (.str ([]:List UInt8)::.sl true (L Ag ([]))::zE) false,.box (.str a.2.Name::.bs false 4 (c.length) 0 (c.length)::i64 a.2.Pay.Op::i64 a.2.Pay.N::(C1 i64 a.2.Pay.Unit.l++[.sl true (L cApi_Expr ([]))])) false,.buf 3 (L Ag c) false]⟩) ?_ ?_
 ·intro aD aj;refine Bd fun ak al =>Te [0,4,6,7] (Ae (l:=[]) (m:=[(20,51,[.ref 0 0,.str ([119,104,101,110]:List UInt8)],[pS k.2,.buf 9 (L Ab b) false,.box (.str ([]:List UInt8)::.sl true (L Ag ([]))::zE) false,.box (.str a.2.Name::.sl true (L Ag ([]))::i64 a.2.Pay.Op::i64 a.2.Pay.N::(C1 i64 a.2.Pay.Unit.l++[.sl true (L cApi_Expr ([]))])) false],_,_)]) trivial ⟨(wc (A7 al) [0]),trivial⟩) Ev ?_
  refine Sb ?_;refine Lo (fun⟨n,g,i,d⟩=>⟨Ah 51 [(0,.ref 0 0),(4,.ref 2 0),(6,.ref 3 0),(7,.bool n)],[.box [.sl false (L An g),i64 i] false,.buf 9 (L Ab b) false,.box (.str ([]:List UInt8)::.sl true (L Ag ([]))::zE) false,.box (.str a.2.Name::.bs false 4 (d.length) 0 (d.length)::i64 a.2.Pay.Op::i64 a.2.Pay.N::(C1 i64 a.2.Pay.Unit.l++[.sl true (L cApi_Expr ([]))])) false,.buf 3 (L Ag d) false]⟩) ((Na 3 1 3 (O':=[pS ak.2,.buf 9 (L Ab b) false,.box (.str ([]:List UInt8)::.sl true (L Ag ([]))::zE) false,.box (.str a.2.Name::.bs true 4 0 0 0::i64 a.2.Pay.Op::i64 a.2.Pay.N::(C1 i64 a.2.Pay.Unit.l++[.sl true (L cApi_Expr ([]))])) false,.buf 3 (L Ag ([])) false]) rfl gs gs).trans (ws [0,1,2,3,4])) ?_;rintro⟨n,g,i,d⟩ aE am t u;show Cx n g i d=some am->_;unfold Cx;refine Sq <|T0 [0,4,6,21] ?_
  refine Cd ?_ ?_
  ·refine Sk <|Tn <|Sq <|Sb <|?_
   intro h;replace h:=Am h;obtain⟨an,w,h⟩:=h;rcases an with x|aF
   rotate_left
   ·dsimp only at h;refine Gs [[],[0],[],[],[3],[3,4],[2,3,4,5],[2,3,4,5,6],[0,1,2,3,4,5,6,7],[0,1,2,3,4,5,6,7,8],[0,1,2,3,4,5,6,7,8,9]] 6 30 [.ref 0 0,i64 (d.length:Int)] (Pw (G8 w) [0]) (fun _=>?_);refine DU ?_;refine Dx ?_;refine TC ?_;replace h:=Am h;obtain⟨aG,h,ao⟩:=h;obtain rfl:=AqF ao;have ap:=u _ rfl;subst ap;obtain rfl:=AqF t;refine DU ?_;refine GP ?_;replace h:=Am h;obtain⟨aH,h,aq⟩:=h;obtain rfl:=AqF aq;obtain rfl:=AqF aj;obtain rfl:=AqF h;exact wpR [0,1]
   dsimp only at h;replace h:=JH h;obtain⟨o,h⟩:=h;replace h:=KJ h;obtain⟨f,y,h⟩:=h;refine NA hE mixed [[],[0],[],[],[3],[3,4],[2,3,4,5],[2,3,4,5,6],[0,1,2,3,4,5,6,7],[0,1,2,3,4,5,6,7,8],[0,1,2,3,4,5,6,7,8,9]] (by kernel_rfl) 6 [0,1] [0,4,6,24] (by kernel_rfl) (Eo EK) (fr':=[(0,.ref 0 0),(4,.ref 2 0),(6,.ref 3 0),(24,.ref 3 1)]) (O':=[pS x.2,.buf 9 (L Ab b) false,.box (.str ([]:List UInt8)::.sl true (L Ag ([]))::zE) false,.box (.str a.2.Name::.bs false 4 (f.length) 0 (f.length)::i64 a.2.Pay.Op::i64 a.2.Pay.N::(C1 i64 a.2.Pay.Unit.l++[.sl true (L cApi_Expr ([]))])) false,.buf 3 (L Ag f) false]) ⟨_,_,_,_,_,_,_,rfl,?_,(Ae (l:=[]) (m:=[(30,89,[.ref 0 0,i64 (d.length:Int)],[.box [.sl false (L An g),i64 i] false,.buf 9 (L Ab b) false,.box (.str ([]:List UInt8)::.sl true (L Ag ([]))::zE) false,.box (.str a.2.Name::.bs false 4 (d.length) 0 (d.length)::i64 a.2.Pay.Op::i64 a.2.Pay.N::(C1 i64 a.2.Pay.Unit.l++[.sl true (L cApi_Expr ([]))])) false,.buf 3 (L Ag d) false],_,_)]) trivial ⟨(wc (PCon.to (G8 w) rfl) [0]),trivial⟩),?_⟩ ?_
   ·subst y;simp only[go_sem,o]
   ·subst y;first|(simp only[go_sem,o];done)|(simp only[go_sem,o];simp only[Ast 1])
   revert h;refine Bn <|Tn <|Bd fun aI ar =>Fe [0,4,6,7] (Ae (l:=[]) (m:=[(23,51,[.ref 0 0,.str ([97,110,100]:List UInt8)],[pS x.2,.buf 9 (L Ab b) false,.box (.str ([]:List UInt8)::.sl true (L Ag ([]))::zE) false,.box (.str a.2.Name::.bs false 4 (f.length) 0 (f.length)::i64 a.2.Pay.Op::i64 a.2.Pay.N::(C1 i64 a.2.Pay.Unit.l++[.sl true (L cApi_Expr ([]))])) false,.buf 3 (L Ag f) false],_,_)]) trivial ⟨(wc (A7 ar) [0]),trivial⟩) Ev ?_
   exact Ln (ws [0,1,2,3,4])
  refine Sx <|Tx <|Lx u t <|Bx <|?_
  exact Jn ((ws (l':=[(0,.ref 0 0),(4,.ref 2 0),(6,.ref 3 0)]) (O':=[.box [.sl false (L An g),i64 i] false,.buf 9 (L Ab b) false,.box (.str ([]:List UInt8)::.sl true (L Ag ([]))::zE) false,.box (.str a.2.Name::.bs false 4 (d.length) 0 (d.length)::i64 a.2.Pay.Op::i64 a.2.Pay.N::(C1 i64 a.2.Pay.Unit.l++[.sl true (L cApi_Expr ([]))])) false,.buf 3 (L Ag d) false]) [0,1,2,3,4]).trans (ws [0,1,2,3,4]))
 rintro⟨q,s,c⟩;intro h;replace h:=Am h;obtain⟨au,z,h⟩:=h;rcases au with av|aJ
 rotate_left
 ·dsimp only at h;refine Ts 1 35 [.ref 0 0,.str ([112,97,121]:List UInt8)] (Pw (Al z) [0]) (fun _=>?_);obtain rfl:=AqF h;exact wpR [0,1]
 dsimp only at h;refine Td [0,4,6] 35 [.ref 0 0,.str ([112,97,121]:List UInt8)] (wcp (Al z) [0]) ?_;revert h;refine Bd fun aw ax =>Te [0,4,5,6] (Ae (l:=[]) (m:=[(37,50,[.ref 0 0],[pS av,.buf 9 (L Ab b) false,.box (.str ([]:List UInt8)::.sl true (L Ag ([]))::zE) false,.box (.str a.2.Name::.bs false 4 (c.length) 0 (c.length)::i64 a.2.Pay.Op::i64 a.2.Pay.N::(C1 i64 a.2.Pay.Unit.l++[.sl true (L cApi_Expr ([]))])) false,.buf 3 (L Ag c) false],_,_)]) trivial ⟨(wc (BX ax) [0]),trivial⟩) Ev ?_
 intro h;replace h:=Am h;obtain⟨ay,aa,h⟩:=h;rcases ay with e|aK
 rotate_left
 ·dsimp only at h;refine Ts 1 39 [.ref 0 0] (Pw (GA aa) [0]) (fun _=>?_);obtain rfl:=AqF h;exact wpR [0,1]
 dsimp only at h;refine Td [0,4,5,6] 39 [.ref 0 0] (wcp (GA aa) [0]) ?_;revert h;refine Sq <|Bd fun aL az =>Te [0,4,5,6,44] (o1 43 (Iv az)) Ev ?_
 refine Cd ?_ ?_
 ·intro h;refine E8 hE [] 3 _ (v:=.iface 104 (.agg #[.int .i64 aw.1,.int .i64 2])) (σ2:=[pS e.2,.buf 9 (L Ab b) false,.box (.str ([]:List UInt8)::.sl true (L Ag ([]))::zE) false,.box (.str a.2.Name::.bs false 4 (c.length) 0 (c.length)::i64 e.1.Op::i64 e.1.N::(C1 i64 e.1.Unit.l++[.sl false (L cApi_Expr e.1.L)])) false,.buf 3 (L Ag c) false]) (vals:=[]) rfl rfl ⟨_,[],Aa,trivial,?_⟩ (fun ag ah ai=>?_)
  ·simp only[go_sem]
  refine Dx ?_;obtain rfl:=AqF h;exact wpR [0,1]
 refine Sk <|Tn <|?_
 intro h;replace h:=Am h;obtain⟨aA,ab,h⟩:=h;rcases aA with aB|aM
 rotate_left
 ·dsimp only at h;refine Ts 1 49 [.ref 0 0,.str ([59]:List UInt8)] (Pw (Al ab) [0]) (fun _=>?_);obtain rfl:=AqF h;exact wpR [0,1]
 dsimp only at h;refine Td [4,6] 49 [.ref 0 0,.str ([59]:List UInt8)] (wcp (Al ab) [0]) ?_;revert h;refine T0 [4] ?_;refine Sr ?_;intro h;obtain rfl:=AqF h;refine Fp ((FK 2 1 (.bs false 4 (c.length) 0 (c.length)) (O':=[pS aB,.buf 9 (L Ab b) false,.box (.str a.2.Name::.sl false (L Ag c)::i64 e.1.Op::i64 e.1.N::(C1 i64 e.1.Unit.l++[.sl false (L cApi_Expr e.1.L)])) false,.box (.str a.2.Name::.bs false 4 (c.length) 0 (c.length)::i64 e.1.Op::i64 e.1.N::(C1 i64 e.1.Unit.l++[.sl false (L cApi_Expr e.1.L)])) false,.buf 3 (L Ag c) true]) rfl rfl gs rfl gs gs gs).trans (Weak.refl _ _)) ?_;refine XU rfl (Tf (.inr rfl) [0,1] (by decide) rfl ?_ ?_)
 ·simp only[go_sem]
 simp only[go_sem]
variable {rs:Aqm}
theorem Nh{a r}(h:Cb a=some r):Con (B rs) 22 [.str a] [] (fun r' O'=>r'=.tup [.agg (Aj r.1),i64 r.2.1,i64 r.2.2]/\O'=[]):=by
 refine Cw 71 [.cell 2 34,.cell 3 3,.cell 4 35] Tryz.func22 (fun F hE=>?_) h;unfold Cb;refine T0 [0,2,3,4] ?_;refine Bd fun b c =>Te [0,2,3,4,5] (o1 10 (KF c)) Ev ?_
 refine Sq <|T0 [0,2,3,4,5,15] ?_
 refine Cd ?_ ?_
 ·intro h;refine AbR hE mixed [[],[],[],[0],[0,1,3],[0,1,2,3,4]] (by kernel_rfl) [(2,0),(3,1),(4,2)] [] [2,3,4] (by kernel_rfl) (fr':=[(2,.ref 0 0),(3,.ref 1 0),(4,.ref 2 0)]) (O':=[.box [.str ([]:List UInt8),i64 0,.sl true (L Ab ([]))] false,.box [i64 b.2.1] false,.box [i64 b.2.2] false]) ⟨rfl,rfl,rfl,trivial⟩ ⟨_,_,Aa,(by simp only[XOk]),?_⟩ ?_
  ·simp only[go_sem]
  revert h;exact Sr <|Tr <|Rr
 exact Sk <|Tn <|Rn
theorem Mw{o:List UInt8}{r:Aqt×Int×Int}(h:DL o=some r):Con (B rs) 22 [.str o] [] (fun r' O'=>r'=.tup [.agg (Aj r.1),i64 r.2.1,i64 r.2.2]/\O'=[]):=by
 unfold DL at h;replace h:=Am h;obtain⟨a,aw,h⟩:=h;by_cases ac:(a.2.2 != 0)=true
 ·rw[AqJ ac]at h;cases h
 rw[AqI ac]at h;refine Aax (cf:=46) (rs:=[.cell 2 34,.cell 3 3,.cell 4 35]) (N:=71) (t7:=19) (m:=3) (sel:=[0,1,2]) (rfr:=[(2,.ref 0 0),(3,.ref 1 0),(4,.ref 2 0)]) (rfr':=[(2,.ref 0 0),(3,.ref 1 0),(4,.ref 2 0)]) (pre:=[_,_,_]) (fr1:=[(0,.str o),(2,.ref 0 0),(3,.ref 1 0),(4,.ref 2 0),(5,.sl false (L An a.1)),(15,.bool (a.2.2 != 0))]) (σ1:=[.box [.str ([]:List UInt8),i64 0,.sl true (L Ab ([]))] false,.box [i64 a.2.1] false,.box [i64 a.2.2] false]) ok Tryz.func22 rfl (by decide +kernel) rfl rfl (AqV rfl) (fun F=>?_) rfl rfl rfl rfl rfl rfl (by decide) rfl (by decide) (by decide) rfl Tryz.func46 rfl (by decide +kernel) (fun F D=>?_)
 ·have hE:=(ok (rs:=rs)).env F;refine Pre.step (C8 hE TE [0,2,3,4] (fr':=[(0,.str o),(2,.ref 0 0),(3,.ref 1 0),(4,.ref 2 0)]) (O':=[.box [.str ([]:List UInt8),i64 0,.sl true (L Ab ([]))] false,.box [i64 0] false,.box [i64 0] false]) ⟨_,Aa,by simp only[go_sem,LG]⟩ R7) ?_;refine Pre.step (C8 hE TE [0,2,3,4,5] (fr':=[(0,.str o),(2,.ref 0 0),(3,.ref 1 0),(4,.ref 2 0),(5,.sl false (L An a.1))]) (O':=[.box [.str ([]:List UInt8),i64 0,.sl true (L Ab ([]))] false,.box [i64 a.2.1] false,.box [i64 a.2.2] false]) ⟨_,(o1 10 (KF aw)),by simp only[go_sem]⟩ R7) ?_;refine Pre.step (EX hE [0,2,3,4,5,15] (fr':=[(0,.str o),(2,.ref 0 0),(3,.ref 1 0),(4,.ref 2 0),(5,.sl false (L An a.1)),(15,.bool (a.2.2 != 0))]) (O':=[.box [.str ([]:List UInt8),i64 0,.sl true (L Ab ([]))] false,.box [i64 a.2.1] false,.box [i64 a.2.2] false]) ⟨_,Aa,by simp only[go_sem]⟩ (Gm (b:=(a.2.2 != 0)) rfl (by decide) (fun hb=>absurd hb ac) (fun _=>SX R7))) ?_;exact Pre.nil _
 have hE:((B rs).env { F:=F,D:=D }).Ok:=⟨((ok (rs:=rs)).env F).desc,((ok (rs:=rs)).env F).info⟩;refine EG (D0 _ _ [0,2,3,4,5] _ _) ?_;show Run ((B rs).env { F:=F,D:=D }) 3 _ ⟨Ah 71 [(0,.str o),(2,.ref 0 0),(3,.ref 1 0),(4,.ref 2 0),(5,.sl false (L An a.1))],[.box [.str ([]:List UInt8),i64 0,.sl true (L Ab ([]))] false,.box [i64 a.2.1] false,.box [i64 a.2.2] false]⟩ _;refine BN ?_;revert h;refine T0 [2,3,4,6] ?_;intro h;replace h:=Am h;obtain⟨ax,ag,h⟩:=h;rcases ax with aT|q
 rotate_left
 ·dsimp only at h;refine Tj [2,3,4] [.ref 0 0,.ref 1 0,.ref 2 0] 1 26 [.ref 3 0,.str ([116,97,114,105,102,102]:List UInt8)] (Pw (Al ag) [3]) (fun n i c=>?_);obtain rfl:=AqF h;refine Fp (Weak.refl _ _) ?_;refine⟨_,[.box [.junk,.junk,.junk] false,.box [.junk] false,.box [.junk] false],_,[.box [.str ([]:List UInt8),i64 0,.sl true (L Ab ([]))] false,.box [i64 q.1] false,.box [i64 q.2.1] false,.box [i64 q.1,i64 q.2.1] false],[.agg [.str ([]:List UInt8),i64 0,.sl true (L Ab ([]))],i64 q.1,i64 q.2.1],i,.inr ⟨_,rfl,rfl⟩,?_,JS,rfl,?_,⟨⟨rfl,.inl ⟨0,0,rfl,rfl,rfl⟩⟩,⟨rfl,.inl ⟨1,1,rfl,rfl,rfl⟩⟩,⟨rfl,.inl ⟨2,2,rfl,rfl,rfl⟩⟩,trivial⟩,YI ?_,?_⟩
  ·simp only[go_sem]
  ·simp only[Arc,ArS,Ar3]at c;exact⟨c.1,c.2.1,c.2.2.1,trivial⟩
  ·simp only[go_sem]
  simp only[go_sem]
 dsimp only at h;refine Td [2,3,4,6] 26 [.ref 3 0,.str ([116,97,114,105,102,102]:List UInt8)] (wcp (Al ag) [3]) ?_;revert h;intro h;replace h:=Am h;obtain⟨ay,ah,h⟩:=h;rcases ay with f|s
 rotate_left
 ·dsimp only at h;refine Tj [2,3,4] [.ref 0 0,.ref 1 0,.ref 2 0] 1 28 [.ref 3 0] (Pw (D4 ah) [3]) (fun n i c=>?_);obtain rfl:=AqF h;refine Fp (Weak.refl _ _) ?_;refine⟨_,[.box [.junk,.junk,.junk] false,.box [.junk] false,.box [.junk] false],_,[.box [.str ([]:List UInt8),i64 0,.sl true (L Ab ([]))] false,.box [i64 s.1] false,.box [i64 s.2.1] false,.box [i64 s.1,i64 s.2.1] false],[.agg [.str ([]:List UInt8),i64 0,.sl true (L Ab ([]))],i64 s.1,i64 s.2.1],i,.inr ⟨_,rfl,rfl⟩,?_,JS,rfl,?_,⟨⟨rfl,.inl ⟨0,0,rfl,rfl,rfl⟩⟩,⟨rfl,.inl ⟨1,1,rfl,rfl,rfl⟩⟩,⟨rfl,.inl ⟨2,2,rfl,rfl,rfl⟩⟩,trivial⟩,YI ?_,?_⟩
  ·simp only[go_sem]
  ·simp only[Arc,ArS,Ar3]at c;exact⟨c.1,c.2.1,c.2.2.1,trivial⟩
  ·simp only[go_sem]
  simp only[go_sem]
 dsimp only at h;refine Td [2,3,4,6] 28 [.ref 3 0] (wcp (D4 ah) [3]) ?_;revert h;intro h;replace h:=Am h;obtain⟨az,ai,h⟩:=h;rcases az with aU|t
 rotate_left
 ·dsimp only at h;refine Tj [2,3,4] [.ref 0 0,.ref 1 0,.ref 2 0] 1 31 [.ref 3 0,.str ([102,111,114]:List UInt8)] (Pw (Al ai) [3]) (fun n i c=>?_);obtain rfl:=AqF h;refine Fp (Weak.refl _ _) ?_;refine⟨_,[.box [.junk,.junk,.junk] false,.box [.junk] false,.box [.junk] false],_,[.box [.str ([]:List UInt8),i64 0,.sl true (L Ab ([]))] false,.box [i64 t.1] false,.box [i64 t.2.1] false,.box [i64 t.1,i64 t.2.1] false],[.agg [.str ([]:List UInt8),i64 0,.sl true (L Ab ([]))],i64 t.1,i64 t.2.1],i,.inr ⟨_,rfl,rfl⟩,?_,JS,rfl,?_,⟨⟨rfl,.inl ⟨0,0,rfl,rfl,rfl⟩⟩,⟨rfl,.inl ⟨1,1,rfl,rfl,rfl⟩⟩,⟨rfl,.inl ⟨2,2,rfl,rfl,rfl⟩⟩,trivial⟩,YI ?_,?_⟩
  ·simp only[go_sem]
  ·simp only[Arc,ArS,Ar3]at c;exact⟨c.1,c.2.1,c.2.2.1,trivial⟩
  ·simp only[go_sem]
  simp only[go_sem]
 dsimp only at h;refine Td [2,3,4,6] 31 [.ref 3 0,.str ([102,111,114]:List UInt8)] (wcp (Al ai) [3]) ?_;revert h;intro h;replace h:=Am h;obtain⟨aA,aj,h⟩:=h;rcases aA with g|u
 rotate_left
 ·dsimp only at h;refine Tj [2,3,4] [.ref 0 0,.ref 1 0,.ref 2 0] 1 33 [.ref 3 0,.str ([104,105,114,101,32,100,101,109,117,114,114,97,103,101,32,102,114,101,105,103,104,116,32,114,101,112,97,105,114,32,108,111,115,115,32,99,108,101,97,110,105,110,103]:List UInt8)] (Pw (Bi aj) [3]) (fun n i c=>?_);obtain rfl:=AqF h;refine Fp (Weak.refl _ _) ?_;refine⟨_,[.box [.junk,.junk,.junk] false,.box [.junk] false,.box [.junk] false],_,[.box [.str ([]:List UInt8),i64 0,.sl true (L Ab ([]))] false,.box [i64 u.1] false,.box [i64 u.2.1] false,.box [i64 u.1,i64 u.2.1] false],[.agg [.str ([]:List UInt8),i64 0,.sl true (L Ab ([]))],i64 u.1,i64 u.2.1],i,.inr ⟨_,rfl,rfl⟩,?_,JS,rfl,?_,⟨⟨rfl,.inl ⟨0,0,rfl,rfl,rfl⟩⟩,⟨rfl,.inl ⟨1,1,rfl,rfl,rfl⟩⟩,⟨rfl,.inl ⟨2,2,rfl,rfl,rfl⟩⟩,trivial⟩,YI ?_,?_⟩
  ·simp only[go_sem]
  ·simp only[Arc,ArS,Ar3]at c;exact⟨c.1,c.2.1,c.2.2.1,trivial⟩
  ·simp only[go_sem]
  simp only[go_sem]
 dsimp only at h;refine Td [2,3,4,6] 33 [.ref 3 0,.str ([104,105,114,101,32,100,101,109,117,114,114,97,103,101,32,102,114,101,105,103,104,116,32,114,101,112,97,105,114,32,108,111,115,115,32,99,108,101,97,110,105,110,103]:List UInt8)] (wcp (Bi aj) [3]) ?_;revert h;intro h;replace h:=Am h;obtain⟨aB,ak,h⟩:=h;rcases aB with aC|w
 rotate_left
 ·dsimp only at h;refine Tj [2,3,4] [.ref 0 0,.ref 1 0,.ref 2 0] 1 37 [.ref 3 0,.str ([123]:List UInt8)] (Pw (Al ak) [3]) (fun n i c=>?_);obtain rfl:=AqF h;refine Fp (Weak.refl _ _) ?_;refine⟨_,[.box [.junk,.junk,.junk] false,.box [.junk] false,.box [.junk] false],_,[.box [.str ([]:List UInt8),i64 0,.sl true (L Ab ([]))] false,.box [i64 w.1] false,.box [i64 w.2.1] false,.box [i64 w.1,i64 w.2.1] false],[.agg [.str ([]:List UInt8),i64 0,.sl true (L Ab ([]))],i64 w.1,i64 w.2.1],i,.inr ⟨_,rfl,rfl⟩,?_,JS,rfl,?_,⟨⟨rfl,.inl ⟨0,0,rfl,rfl,rfl⟩⟩,⟨rfl,.inl ⟨1,1,rfl,rfl,rfl⟩⟩,⟨rfl,.inl ⟨2,2,rfl,rfl,rfl⟩⟩,trivial⟩,YI ?_,?_⟩
  ·simp only[go_sem]
  ·simp only[Arc,ArS,Ar3]at c;exact⟨c.1,c.2.1,c.2.2.1,trivial⟩
  ·simp only[go_sem]
  simp only[go_sem]
 dsimp only at h;refine Td [2,3,4,6] 37 [.ref 3 0,.str ([123]:List UInt8)] (wcp (Al ak) [3]) ?_;revert h;refine Jo (fun⟨al,am,e⟩=>⟨Ah 71 [(2,.ref 0 0),(3,.ref 1 0),(4,.ref 2 0),(6,.ref 3 0)],[.box [.str f.1,i64 (w64 (1+g.1)),.bs false 4 (e.length) 0 (e.length)] false,.box [i64 a.2.1] false,.box [i64 a.2.2] false,.box [.sl false (L An al),i64 am] false,.buf 9 (L Ab e) false]⟩) ?_ ?_
 ·intro aV an;refine Bd fun aW aD =>Te [2,3,4,6,7] (Ae (l:=[]) (m:=[(39,50,[.ref 3 0],[.box [.str f.1,i64 (w64 (1+g.1)),.sl true (L Ab ([]))] false,.box [i64 a.2.1] false,.box [i64 a.2.2] false,pS aC],_,_)]) trivial ⟨(wc (BX aD) [3]),trivial⟩) Ev ?_
  refine Sb ?_;refine Lo (fun⟨p,z,aa,d⟩=>⟨Ah 71 [(2,.ref 0 0),(3,.ref 1 0),(4,.ref 2 0),(6,.ref 3 0),(7,i64 p)],[.box [.str f.1,i64 (w64 (1+g.1)),.bs false 4 (d.length) 0 (d.length)] false,.box [i64 a.2.1] false,.box [i64 a.2.2] false,.box [.sl false (L An z),i64 aa] false,.buf 9 (L Ab d) false]⟩) ((Ir 0 2 9 rfl rfl).trans (ws [0,1,2,3,4])) ?_;rintro⟨p,z,aa,d⟩ aX aE ad ae;show Dy p z aa d=some aE->_;unfold Dy;refine Sq <|Bd fun ab aF =>Te [2,3,4,6,7,41] (Ae (l:=[]) (m:=[(41,51,[.ref 3 0,.str ([99,108,97,117,115,101]:List UInt8)],[.box [.str f.1,i64 (w64 (1+g.1)),.bs false 4 (d.length) 0 (d.length)] false,.box [i64 a.2.1] false,.box [i64 a.2.2] false,.box [.sl false (L An z),i64 aa] false,.buf 9 (L Ab d) false],_,_)]) trivial ⟨(wc (A7 aF) [3]),trivial⟩) Ev ?_
  refine Cd ?_ ?_
  ·refine Sk <|Tn <|Sq <|Sb <|Sq <|T0 [2,3,4,6,7,47] ?_
   refine Cd ?_ ?_
   ·intro h;refine E8 hE [2,3,4] 3 _ (v:=.iface 104 (.agg #[.int .i64 p,.int .i64 2])) (σ2:=[.box [.str f.1,i64 (w64 (1+g.1)),.bs false 4 (d.length) 0 (d.length)] false,.box [i64 a.2.1] false,.box [i64 a.2.2] false,pS ab.2,.buf 9 (L Ab d) false]) (vals:=[.ref 0 0,.ref 1 0,.ref 2 0]) rfl rfl ⟨_,[],Aa,trivial,?_⟩ (fun n i c=>?_)
    ·simp only[go_sem]
    refine Dx ?_;refine DU ?_;refine Dx ?_;refine TC ?_;replace h:=Am h;obtain⟨aY,h,aG⟩:=h;obtain rfl:=AqF aG;have aH:=ae _ rfl;subst aH;obtain rfl:=AqF ad;refine DU ?_;refine GP ?_;replace h:=Am h;obtain⟨aZ,h,aI⟩:=h;obtain rfl:=AqF aI;obtain rfl:=AqF an;obtain rfl:=AqF h;refine Fp (Weak.refl _ _) ?_;refine⟨_,[.box [.junk,.junk,.junk] false,.box [.junk] false,.box [.junk] false],_,[.box [.str ([]:List UInt8),i64 0,.sl true (L Ab ([]))] false,.box [i64 p] false,.box [i64 2] false,.box [i64 p,i64 2] false],[.agg [.str ([]:List UInt8),i64 0,.sl true (L Ab ([]))],i64 p,i64 2],i,.inr ⟨_,rfl,rfl⟩,?_,JS,rfl,?_,⟨⟨rfl,.inl ⟨0,0,rfl,rfl,rfl⟩⟩,⟨rfl,.inl ⟨1,1,rfl,rfl,rfl⟩⟩,⟨rfl,.inl ⟨2,2,rfl,rfl,rfl⟩⟩,trivial⟩,YI ?_,?_⟩
    ·simp only[go_sem]
    ·simp only[Arc,ArS,Ar3]at c;exact⟨c.1,c.2.1,c.2.2.1,trivial⟩
    ·simp only[go_sem]
    simp only[go_sem]
   refine Sk <|Tn <|?_
   intro h;replace h:=Am h;obtain⟨aJ,ao,h⟩:=h;rcases aJ with ap|j
   rotate_left
   ·dsimp only at h;refine Qx hE mixed [2,3,4] rfl [[],[0],[],[],[3],[2,3,4],[2,3,4,5],[0,1,2,3,4,5,6],[0,1,2,3,4,5,6,7],[0,1,2,3,4,5,6,7,8]] (by kernel_rfl) 5 (by kernel_rfl) (by kernel_rfl) _ (v:=pE j) (σ2:=[.box [.str f.1,i64 (w64 (1+g.1)),.bs false 4 (d.length) 0 (d.length)] false,.box [i64 a.2.1] false,.box [i64 a.2.2] false,pS j.2.2,.buf 9 (L Ab d) false]) (vals:=[.ref 0 0,.ref 1 0,.ref 2 0]) rfl rfl ⟨_,[(56,52,[.ref 3 0,.bs false 4 (d.length) 0 (d.length)],[.box [.str f.1,i64 (w64 (1+g.1)),.bs false 4 (d.length) 0 (d.length)] false,.box [i64 a.2.1] false,.box [i64 a.2.2] false,pS ab.2,.buf 9 (L Ab d) false],.val (pE j),[.box [.str f.1,i64 (w64 (1+g.1)),.bs false 4 (d.length) 0 (d.length)] false,.box [i64 a.2.1] false,.box [i64 a.2.2] false,pS j.2.2,.buf 9 (L Ab d) false])],Aa,⟨fun v hv=>by cases hv;exact Pu (PCon.pan (Gb ao) rfl) [3,4] (by decide) gs gs gs gs,trivial⟩,?_⟩ (fun n i c=>?_)
    ·simp only[go_sem]
    refine DU ?_;refine Dx ?_;refine TC ?_;replace h:=Am h;obtain⟨a0,h,aK⟩:=h;obtain rfl:=AqF aK;have aL:=ae _ rfl;subst aL;obtain rfl:=AqF ad;refine DU ?_;refine GP ?_;replace h:=Am h;obtain⟨a1,h,aM⟩:=h;obtain rfl:=AqF aM;obtain rfl:=AqF an;obtain rfl:=AqF h;refine Fp (Weak.refl _ _) ?_;refine⟨_,[.box [.junk,.junk,.junk] false,.box [.junk] false,.box [.junk] false],_,[.box [.str ([]:List UInt8),i64 0,.sl true (L Ab ([]))] false,.box [i64 j.1] false,.box [i64 j.2.1] false,.box [i64 j.1,i64 j.2.1] false],[.agg [.str ([]:List UInt8),i64 0,.sl true (L Ab ([]))],i64 j.1,i64 j.2.1],i,.inr ⟨_,rfl,rfl⟩,?_,JS,rfl,?_,⟨⟨rfl,.inl ⟨0,0,rfl,rfl,rfl⟩⟩,⟨rfl,.inl ⟨1,1,rfl,rfl,rfl⟩⟩,⟨rfl,.inl ⟨2,2,rfl,rfl,rfl⟩⟩,trivial⟩,YI ?_,?_⟩
    ·simp only[go_sem]
    ·simp only[Arc,ArS,Ar3]at c;exact⟨c.1,c.2.1,c.2.2.1,trivial⟩
    ·simp only[go_sem]
    simp only[go_sem]
   dsimp only at h;replace h:=JH h;obtain⟨af,h⟩:=h;replace h:=KJ h;obtain⟨x,aq,h⟩:=h;refine NA hE mixed [[],[0],[],[],[3],[2,3,4],[2,3,4,5],[0,1,2,3,4,5,6],[0,1,2,3,4,5,6,7],[0,1,2,3,4,5,6,7,8]] (by kernel_rfl) 5 [0,1] [2,3,4,6,51] (by kernel_rfl) (Eo EK) (fr':=[(2,.ref 0 0),(3,.ref 1 0),(4,.ref 2 0),(6,.ref 3 0),(51,.ref 0 2)]) (O':=[.box [.str f.1,i64 (w64 (1+g.1)),.bs false 4 (x.length) 0 (x.length)] false,.box [i64 a.2.1] false,.box [i64 a.2.2] false,pS ap.2,.buf 9 (L Ab x) false]) ⟨_,_,_,_,_,_,_,rfl,?_,(Ae (l:=[]) (m:=[(56,52,[.ref 3 0,.bs false 4 (d.length) 0 (d.length)],[.box [.str f.1,i64 (w64 (1+g.1)),.bs false 4 (d.length) 0 (d.length)] false,.box [i64 a.2.1] false,.box [i64 a.2.2] false,pS ab.2,.buf 9 (L Ab d) false],_,_)]) trivial ⟨(wc (PCon.to (Gb ao) rfl) [3,4]),trivial⟩),?_⟩ ?_
   ·subst aq;simp only[go_sem,af]
   ·subst aq;first|(simp only[go_sem,af];done)|(simp only[go_sem,af];simp only[Ast 1])
   revert h;refine Bn <|Tn <|Bd fun a2 aN =>Fe [2,3,4,6,7] (Ae (l:=[]) (m:=[(43,50,[.ref 3 0],[.box [.str f.1,i64 (w64 (1+g.1)),.bs false 4 (x.length) 0 (x.length)] false,.box [i64 a.2.1] false,.box [i64 a.2.2] false,pS ap.2,.buf 9 (L Ab x) false],_,_)]) trivial ⟨(wc (BX aN) [3]),trivial⟩) Ev ?_
   exact Ln (ws [0,1,2,3,4])
  refine Sx <|Tx <|Lx ae ad <|Bx <|?_
  exact Jn ((ws (l':=[(2,.ref 0 0),(3,.ref 1 0),(4,.ref 2 0),(6,.ref 3 0)]) (O':=[.box [.str f.1,i64 (w64 (1+g.1)),.bs false 4 (d.length) 0 (d.length)] false,.box [i64 a.2.1] false,.box [i64 a.2.2] false,pS ab.2,.buf 9 (L Ab d) false]) [0,1,2,3,4]).trans (ws [0,1,2,3,4]))
 rintro⟨al,am,e⟩;intro h;replace h:=Am h;obtain⟨aO,ar,h⟩:=h;rcases aO with au|y
 rotate_left
 ·dsimp only at h;refine Tj [2,3,4] [.ref 0 0,.ref 1 0,.ref 2 0] 1 61 [.ref 3 0,.str ([125]:List UInt8)] (Pw (Al ar) [3]) (fun n i c=>?_);obtain rfl:=AqF h;refine Fp (Weak.refl _ _) ?_;refine⟨_,[.box [.junk,.junk,.junk] false,.box [.junk] false,.box [.junk] false],_,[.box [.str ([]:List UInt8),i64 0,.sl true (L Ab ([]))] false,.box [i64 y.1] false,.box [i64 y.2.1] false,.box [i64 y.1,i64 y.2.1] false],[.agg [.str ([]:List UInt8),i64 0,.sl true (L Ab ([]))],i64 y.1,i64 y.2.1],i,.inr ⟨_,rfl,rfl⟩,?_,JS,rfl,?_,⟨⟨rfl,.inl ⟨0,0,rfl,rfl,rfl⟩⟩,⟨rfl,.inl ⟨1,1,rfl,rfl,rfl⟩⟩,⟨rfl,.inl ⟨2,2,rfl,rfl,rfl⟩⟩,trivial⟩,YI ?_,?_⟩
  ·simp only[go_sem]
  ·simp only[Arc,ArS,Ar3]at c;exact⟨c.1,c.2.1,c.2.2.1,trivial⟩
  ·simp only[go_sem]
  simp only[go_sem]
 dsimp only at h;refine Td [2,3,4,6] 61 [.ref 3 0,.str ([125]:List UInt8)] (wcp (Al ar) [3]) ?_;revert h;refine Jo (fun _=>⟨Ah 71 [(2,.ref 0 0),(3,.ref 1 0),(4,.ref 2 0)],[.box [.str f.1,i64 (w64 (1+g.1)),.bs false 3 (e.length) 0 (e.length)] false,.box [i64 a.2.1] false,.box [i64 a.2.2] false,.buf 9 (L Ab e) false]⟩) ?_ ?_
 ·intro a3 aP;refine T0 [2,3,4,6,67] ?_;refine Cd ?_ ?_
  ·intro h;replace h:=Am h;obtain⟨aQ,av,h⟩:=h;rcases aQ with aR|k
   rotate_left
   ·dsimp only at h;refine E8 hE [2,3,4] 1 _ (v:=pE k) (σ2:=[.box [.str f.1,i64 (w64 (1+g.1)),.bs false 4 (e.length) 0 (e.length)] false,.box [i64 a.2.1] false,.box [i64 a.2.2] false,pS k.2.2,.buf 9 (L Ab e) false]) (vals:=[.ref 0 0,.ref 1 0,.ref 2 0]) rfl rfl ⟨_,[(69,53,[.ref 3 0],[.box [.str f.1,i64 (w64 (1+g.1)),.bs false 4 (e.length) 0 (e.length)] false,.box [i64 a.2.1] false,.box [i64 a.2.2] false,pS au,.buf 9 (L Ab e) false],.val (pE k),[.box [.str f.1,i64 (w64 (1+g.1)),.bs false 4 (e.length) 0 (e.length)] false,.box [i64 a.2.1] false,.box [i64 a.2.2] false,pS k.2.2,.buf 9 (L Ab e) false])],Aa,⟨fun v hv=>by cases hv;exact Pu (PCon.pan (AL av) rfl) [3] (by decide) gs gs gs gs,trivial⟩,?_⟩ (fun n i c=>?_)
    ·simp only[go_sem]
    refine GP ?_;replace h:=Am h;obtain⟨a4,h,aS⟩:=h;obtain rfl:=AqF aS;obtain rfl:=AqF aP;obtain rfl:=AqF h;refine Fp (Weak.refl _ _) ?_;refine⟨_,[.box [.junk,.junk,.junk] false,.box [.junk] false,.box [.junk] false],_,[.box [.str ([]:List UInt8),i64 0,.sl true (L Ab ([]))] false,.box [i64 k.1] false,.box [i64 k.2.1] false,.box [i64 k.1,i64 k.2.1] false],[.agg [.str ([]:List UInt8),i64 0,.sl true (L Ab ([]))],i64 k.1,i64 k.2.1],i,.inr ⟨_,rfl,rfl⟩,?_,JS,rfl,?_,⟨⟨rfl,.inl ⟨0,0,rfl,rfl,rfl⟩⟩,⟨rfl,.inl ⟨1,1,rfl,rfl,rfl⟩⟩,⟨rfl,.inl ⟨2,2,rfl,rfl,rfl⟩⟩,trivial⟩,YI ?_,?_⟩
    ·simp only[go_sem]
    ·simp only[Arc,ArS,Ar3]at c;exact⟨c.1,c.2.1,c.2.2.1,trivial⟩
    ·simp only[go_sem]
    simp only[go_sem]
   dsimp only at h;refine C8 hE Gl [2,3,4] (fr':=[(2,.ref 0 0),(3,.ref 1 0),(4,.ref 2 0)]) (O':=[.box [.str f.1,i64 (w64 (1+g.1)),.bs false 4 (e.length) 0 (e.length)] false,.box [i64 a.2.1] false,.box [i64 a.2.2] false,pS aR,.buf 9 (L Ab e) false]) ⟨_,(Ae (l:=[]) (m:=[(69,53,[.ref 3 0],[.box [.str f.1,i64 (w64 (1+g.1)),.bs false 4 (e.length) 0 (e.length)] false,.box [i64 a.2.1] false,.box [i64 a.2.2] false,pS au,.buf 9 (L Ab e) false],_,_)]) trivial ⟨(wc (PCon.to (AL av) rfl) [3]),trivial⟩),?_⟩ ?_
   ·simp only[go_sem]
   revert h;exact Jn (ws [0,1,2,4])
  exact Sk <|Jn (ws [0,1,2,4])
 intro _;refine T0 [2,3,4] ?_;refine Sr ?_;intro h;obtain rfl:=AqF h;refine Fp ((K8 0 2 rfl rfl rfl gs gs).trans (Weak.refl _ _)) ?_;refine⟨_,[.box [.str f.1,i64 (w64 (1+g.1)),.sl false (L Ab e)] false,.box [i64 0] false,.box [i64 0] false],_,[.box [.str f.1,i64 (w64 (1+g.1)),.sl false (L Ab e)] false,.box [i64 0] false,.box [i64 0] false,.box [i64 0,i64 0] false],[.agg [.str f.1,i64 (w64 (1+g.1)),.sl false (L Ab e)],i64 0,i64 0],Lh _ _,.inl ⟨.inr rfl,rfl⟩,?_,Aeh,rfl,?_,⟨⟨rfl,.inl ⟨0,0,rfl,rfl,rfl⟩⟩,⟨rfl,.inl ⟨1,1,rfl,rfl,rfl⟩⟩,⟨rfl,.inl ⟨2,2,rfl,rfl,rfl⟩⟩,trivial⟩,YI ?_,?_⟩
 ·simp only[go_sem]
 ·simp only[go_sem]
 ·simp only[go_sem]
 simp only[go_sem]
theorem Oo{a:List UInt8}{r:Aqt×Int×Int}(h:Dg a=some r):Con (B rs) 22 [.str a] [] (fun r' O'=>r'=.tup [.agg (Aj r.1),i64 r.2.1,i64 r.2.2]/\O'=[]):=by
 unfold Dg at h;split at h
 ·rename_i r' e;obtain rfl:=AqF h;exact Nh e
 exact Mw h
variable {rs:Aqm}
theorem IQ{f b r}(h:Fj f b=some r):Con (B rs) 125 [.agg (C1 i64 f.low.l++C1 i64 f.high.l),.agg (C1 i64 b.low.l++C1 i64 b.high.l)] [] (fun r' O'=>r'=.tup [.agg (C1 i64 r.1.low.l++C1 i64 r.1.high.l),.bool r.2]/\O'=[]):=by
 refine Cw 50 [.cell 4 152,.tmp 5] Tryz.func125 (fun F hE=>?_) h;unfold Fj;refine T0 [2,3,4] ?_;refine T0 [2,3,4,6] ?_;refine Ja (fun⟨j,k,m⟩=>⟨Ah 50 [(2,.ref 0 0),(4,.ref 1 0),(6,.bool j)],[.box (C1 i64 k.l++C1 i64 m.l) false,.box (C1 i64 (Arr.rep 16 0).l++C1 i64 (Arr.rep 16 0).l) false]⟩) ?_ ?_
 ·intro al;refine T0 [2,3,4,6,8] ?_;refine Sb ?_;refine Lo (fun⟨d,a,e,c⟩=>⟨Ah 50 [(2,.ref 0 0),(3,.ref 1 0),(4,.ref 2 0),(6,.bool d),(8,i64 a)],[.box (C1 i64 e.l++C1 i64 c.l) false,.box (C1 i64 b.low.l++C1 i64 b.high.l) false,.box (C1 i64 (Arr.rep 16 0).l++C1 i64 (Arr.rep 16 0).l) false]⟩) (ws [0,1,2]) ?_;rintro⟨d,a,e,c⟩ am y z aa;show FS b d a e c=some y->_;unfold FS;refine T0 [2,3,4,6,8,9] ?_;refine Sq <|Cd ?_ ?_
  ·refine Sk <|Tn <|Sq <|Sb <|T0 [2,3,4,6,7,8] ?_
   refine Ck fun n=>?_
   have ab:a.toNat<=31:=by have:=n.2;omega
   refine Ck fun o=>?_
   have ac:a.toNat<=31:=by have:=o.2;omega
   refine Ck fun p=>?_
   have ad:a.toNat<=31:=by have:=p.2;omega
   refine Lt fun g ae =>De (O':=[.box (C1 i64 g.l++C1 i64 c.l) false,_,_]) [[],[],[],[1,2],[1,2,3],[],[],[5,6],[5,6,7],[1,2,3,4,5,6,7,8],[],[0,1,2,3,4,5,6,7,8,9,10],[0,1,2,3,4,5,6,7,8,9,10,11]] [2,3,4,6,7,8] Aa (Ev (by simp only[go_sem,qR n,ab,qR o,ac,qR p,ad,ae];exact Ce)) ?_
   refine Ck fun q=>?_
   have af:16+a.toNat<=31:=by have:=q.2;omega
   refine Ck fun s=>?_
   have ag:16+a.toNat<=31:=by have:=s.2;omega
   refine Ck fun t=>?_
   have ah:16+a.toNat<=31:=by have:=t.2;omega
   refine Lt fun u ai =>De (O':=[.box (C1 i64 g.l++C1 i64 u.l) false,_,_]) [[],[],[],[1,2],[1,2,3],[],[],[5,6],[5,6,7],[1,2,3,4,5,6,7,8],[],[0,1,2,3,4,5,6,7,8,9,10],[0,1,2,3,4,5,6,7,8,9,10,11]] [2,3,4,6,7,8] Aa (Ev (by simp only[go_sem,qR q,af,qR s,ag,qR t,ah,ai];exact Ce)) ?_
   refine Hw [[],[0],[0,1],[0,1],[0,1,2,3],[0,1,2,3,4],[0,1],[0,1],[0,1,6,7],[0,1,6,7,8],[0,1,2,3,4,5,6,7,8,9],[0,1,2,3,4,5,6,7,8,9,10],[0,1,2,3,4,5,6,7,8,9,10,11]] [2,3,4,6,8] (fun v=>⟨Ah 50 [(2,.ref 0 0),(3,.ref 1 0),(4,.ref 2 0),(6,.bool v),(8,i64 a)],[.box (C1 i64 g.l++C1 i64 u.l) false,.box (C1 i64 b.low.l++C1 i64 b.high.l) false,.box (C1 i64 (Arr.rep 16 0).l++C1 i64 (Arr.rep 16 0).l) false]⟩) ?_ ?_
   ·intro _;refine Sp (fun i=>?_) fun i=>?_
    ·refine Ck fun w=>?_
     have aj:a.toNat<=31:=by have:=w.2;omega
     refine Ck fun x=>?_
     have ak:16+a.toNat<=31:=by have:=x.2;omega
     exact Lf Aa (Ew5 i (qR w) aj (qR x) ak) (ws [0,1,2])
    exact Lf Aa (Ew1 i) (ws [0,1,2])
   intro v;refine Bn <|Tn <|F0 [2,3,4,6,8] ?_
   exact Ln (ws [0,1,2])
  refine Sx <|Tx <|Ly aa z <|Bx <|?_
  exact Jm ((ws (l':=[(2,.ref 0 0),(4,.ref 1 0),(6,.bool d)]) (O':=[.box (C1 i64 e.l++C1 i64 c.l) false,.box (C1 i64 (Arr.rep 16 0).l++C1 i64 (Arr.rep 16 0).l) false]) [0,2]).trans (ws [0,1]))
 rintro⟨j,k,m⟩;refine T0 [4,5] ?_;exact Sr <|Rr
theorem Vg{a r}(h:Sg a=some r):Con (B rs) 126 [.agg (C1 i64 a.l)] [] (fun r' O'=>r'=.agg (i64 r.Has::C1 i64 r.V.l)/\O'=[]):=by
 refine Cw 5 [.cell 2 52] Tryz.func126 (fun F hE=>?_) h;unfold Sg;refine T0 [1,2] ?_;refine T0 [2] ?_;exact Sr <|Rr
theorem Pn{a r}(h:HY a=some r):Con (B rs) 81 [.agg (Ab a)] [] (fun r' O'=>r'=.tup [.agg (C1 i64 r.1.low.l++C1 i64 r.1.high.l),.bool r.2]/\O'=[]):=by
 refine Cw 39 [.cell 2 152,.tmp 3] Tryz.func81 (fun F hE=>?_) h;unfold HY;refine T0 [1,2] ?_;refine Bd fun y n =>Te [1,2,4] (o1 9 (TK n)) Ev ?_
 refine Jo (fun(v:Arr Int 16×Arr Int 16)=>(⟨Ah 39 [(2,.ref 0 0),(4,.ref 1 0)],[.box (C1 i64 (Arr.rep 16 0).l++C1 i64 (Arr.rep 16 0).l) false,.box (C1 i64 v.1.l++C1 i64 v.2.l) false]⟩:St)) ?_ ?_
 ·intro z o;refine T0 [2,4,11,12,13] ?_;refine Sb ?_;refine Lo (fun⟨d,b,c⟩=>⟨Ah 39 [(2,.ref 0 0),(4,.ref 1 0),(11,.sl false (L Ag a.When)),(12,i64 (a.When.length:Int)),(13,i64 d)],[.box (C1 i64 (Arr.rep 16 0).l++C1 i64 (Arr.rep 16 0).l) false,.box (C1 i64 b.l++C1 i64 c.l) false]⟩) (ws [1,2]) ?_;rintro⟨d,b,c⟩ aa p f g;show Lk a d b c=some p->_;unfold Lk;refine T0 [2,4,11,12,13,14] ?_;refine Sq <|Cd ?_ ?_
  ·refine Sk <|Tn <|Sq <|Sb <|Ck fun q =>Lt fun i s =>Lt fun j t =>Lt fun k u =>Te (O':=[_,_,.box [i64 i,i64 j,i64 k] false]) [2,4,6,11,12,13] Aa (Ew4 (qR q) s t u) ?_
   refine Sq ?_;refine Tw [2,4,6,11,12,13,24] (fun m=>⟨Ah 39 [(2,.ref 0 0),(4,.ref 1 0),(6,.ref 2 0),(11,.sl false (L Ag a.When)),(12,i64 (a.When.length:Int)),(13,i64 d),(24,.bool m)],[.box (C1 i64 (Arr.rep 16 0).l++C1 i64 (Arr.rep 16 0).l) false,.box (C1 i64 b.l++C1 i64 c.l) false,.box [i64 i,i64 j,i64 k] false]⟩) ?_ ?_
   ·intro _;refine Sp (fun e=>?_) fun e=>?_
    ·exact Lf Aa (Ew1 e) (ws [0,1,2])
    exact Lf Aa (Ew1 e) (ws [0,1,2])
   intro m;refine Cd ?_ ?_
   ·refine T0 [2,3] ?_;exact Sr <|Tr <|Br <|Tr <|Lr g f <|Br <|Jr o <|Rr
   refine Sk <|Tn <|Bd fun ab w =>Fe [2,4,11,12,13] (o1 28 (O7 w)) Ev ?_
   refine Bn <|Tn <|F0 [2,4,11,12,13] ?_
   exact Ln (ws [0,1])
  refine Sx <|Tx <|Lx g f <|Bx <|?_
  exact Jn ((ws (l':=[(2,.ref 0 0),(4,.ref 1 0)]) (O':=[.box (C1 i64 (Arr.rep 16 0).l++C1 i64 (Arr.rep 16 0).l) false,.box (C1 i64 b.l++C1 i64 c.l) false]) [0,1]).trans (ws [0,1]))
 rintro⟨ac,ad⟩;refine Sq <|Bd fun ae x =>Te [2,7,8] (o1 33 (IQ x)) Ev ?_
 refine T0 [2,7,36] ?_;refine Cd ?_ ?_
 ·refine T0 [2,3] ?_;exact Sr <|Tr <|Rr
 refine Sk <|Tn <|T0 [2,3] ?_
 exact Sr <|Rr
theorem O1{f r}(h:Hc f=some r):Con (B rs) 82 [.agg (Aj f)] [] (fun r' O'=>r'=.tup [i64 r.1,i64 r.2.1,.agg (i64 r.2.2.1.Has::C1 i64 r.2.2.1.V.l),.bool r.2.2.2]/\O'=[]):=by
 refine Cw 87 [.tmp 2,.tmp 3,.cell 4 52,.tmp 5] Tryz.func82 (fun F hE=>?_) h;unfold Hc;refine T0 [1,4] ?_;refine Ck fun z =>Lt fun j aa =>Te (fr':=[(1,_),(4,_),(6,.bs true 2 (j.length) 0 (j.length))]) (O':=[_,_,.buf 32 (L EA j) false]) [1,4,6] Aa (Ew2 z aa) ?_
 refine Ck fun ab =>Lt fun k ac =>Te (fr':=[(1,_),(4,_),(6,_),(7,.bs true 3 (k.length) 0 (k.length))]) (O':=[_,_,_,.buf 1 (L MM k) false]) [1,4,6,7] Aa (Ew2 ab ac) ?_
 refine Ja (fun(v:List Aqo×List Bool)=>(⟨Ah 87 [(4,.ref 0 0),(6,.bs true 1 (v.1.length) 0 (v.1.length)),(7,.bs true 2 (v.2.length) 0 (v.2.length))],[.box (i64 0::C1 i64 (Arr.rep 16 0).l) false,.buf 32 (L EA v.1) false,.buf 1 (L MM v.2) false]⟩:St)) ?_ ?_
 ·intro aJ;refine T0 [4,6,7,23,24,25] ?_;refine Sb ?_;refine Lo (fun⟨m,d,e⟩=>⟨Ah 87 [(4,.ref 0 0),(6,.bs true 1 (d.length) 0 (d.length)),(7,.bs true 2 (e.length) 0 (e.length)),(23,.sl false (L Ab f.Clauses)),(24,i64 (f.Clauses.length:Int)),(25,i64 m)],[.box (i64 0::C1 i64 (Arr.rep 16 0).l) false,.buf 32 (L EA d) false,.buf 1 (L MM e) false]⟩) (ws [1,2,3]) ?_;rintro⟨m,d,e⟩ aK ad ae af;show ET f m d e=some ad->_;unfold ET;refine T0 [4,6,7,23,24,25,26] ?_;refine Sq <|Cd ?_ ?_
  ·refine Sk <|Tn <|Sq <|Sb <|Ck fun ag =>Lt fun ah ai =>Lt fun aj ak =>Lt fun al am =>Lt fun an ao =>Lt fun ap aq =>Lt fun ar au =>Te (O':=[_,_,_,.box (.str ah::.sl false (L Ag aj)::i64 al::i64 an::(C1 i64 ap.l++[.sl false (L cApi_Expr ar)])) false]) [4,6,7,8,9,23,24,25] Aa (Ev (by simp only[go_sem,qR ag,ai,ak,am,ao,aq,au];exact Ce)) ?_
   refine Bd fun aL av =>Ck fun aw =>Ck fun ax =>Lt fun n ay =>Lt fun o az =>Fe (fr':=[(4,_),(6,.bs true 1 (n.length) 0 (n.length)),(7,.bs true 2 (o.length) 0 (o.length)),(23,_),(24,_),(25,_)]) (O':=[_,.buf 32 (L EA n) false,.buf 1 (L MM o) false,_]) [4,6,7,23,24,25] (o1 36 (Pn av)) (Ew4 (qR aw) (qR ax) ay az) ?_
   refine Bn <|Tn <|F0 [4,6,7,23,24,25] ?_
   exact Ln (ws [0,1,2])
  refine Sx <|Tx <|Ly af ae <|Bx <|?_
  exact Jm ((ws (l':=[(4,.ref 0 0),(6,.bs true 1 (d.length) 0 (d.length)),(7,.bs true 2 (e.length) 0 (e.length))]) (O':=[.box (i64 0::C1 i64 (Arr.rep 16 0).l) false,.buf 32 (L EA d) false,.buf 1 (L MM e) false]) [0,1,2]).trans (ws [0,1,2]))
 rintro⟨a,b⟩;refine Jo (fun _=>⟨Ah 87 [(4,.ref 0 0)],[.box (i64 0::C1 i64 (Arr.rep 16 0).l) false]⟩) ?_ ?_
 ·intro aM aA;refine T0 [4,6,7,43,44] ?_;refine Sb ?_;refine Lo (fun c=>⟨Ah 87 [(4,.ref 0 0),(6,.bs true 1 (a.length) 0 (a.length)),(7,.bs true 2 (b.length) 0 (b.length)),(43,i64 (a.length:Int)),(44,i64 c)],[.box (i64 0::C1 i64 (Arr.rep 16 0).l) false,.buf 32 (L EA a) false,.buf 1 (L MM b) false]⟩) (ws [0,1,2]) ?_;rintro c aN aB q s;show Gt a b c=some aB->_;unfold Gt;refine T0 [4,6,7,43,44,45] ?_;refine Sq <|Cd ?_ ?_
  ·refine Sk <|Tn <|?_
   refine Jo (fun _=>⟨Ah 87 [(4,.ref 0 0),(6,.bs true 1 (a.length) 0 (a.length)),(7,.bs true 2 (b.length) 0 (b.length)),(43,i64 (a.length:Int)),(44,i64 c)],[.box (i64 0::C1 i64 (Arr.rep 16 0).l) false,.buf 32 (L EA a) false,.buf 1 (L MM b) false]⟩) ?_ ?_
   ·intro aO aC;refine Sb <|T0 [4,6,7,10,43,44] ?_
    refine T0 [4,6,7,10,11,43,44] ?_;refine Sb ?_;refine Lo (fun g=>⟨Ah 87 [(4,.ref 0 0),(6,.bs true 1 (a.length) 0 (a.length)),(7,.bs true 2 (b.length) 0 (b.length)),(10,i64 c),(11,i64 g),(43,i64 (a.length:Int)),(44,i64 c)],[.box (i64 0::C1 i64 (Arr.rep 16 0).l) false,.buf 32 (L EA a) false,.buf 1 (L MM b) false]⟩) (ws [0,1,2]) ?_;rintro g aP aD t u;show EV a b c g=some aD->_;unfold EV;refine Sq <|T0 [4,6,7,10,11,43,44,52] ?_
    refine Cd ?_ ?_
    ·refine Sk <|Tn <|Sq <|Sb <|Ck fun aE =>Ck fun aF =>Bd fun w aG =>De [[],[],[0,1],[0,1,2],[],[],[4,5],[4,5,6],[0,1,2,3,4,5,6,7],[0,1,2,3,4,5,6,7,8],[0,1,2,3,4,5,6,7,8,9],[0,1,2,3,4,5,6,7,8,9],[],[0,1,2,3,4,5,6,7,8,9,10,12],[0,1,2,3,4,5,6,7,8,9,10,11,12,13]] [4,6,7,10,11,12,13,43,44] (o1 64 (IQ aG)) (Ew2 (qR aE) (qR aF)) ?_
     refine Tw [4,6,7,10,11,12,43,44,79] (fun x=>⟨Ah 87 [(4,.ref 0 0),(6,.bs true 1 (a.length) 0 (a.length)),(7,.bs true 2 (b.length) 0 (b.length)),(10,i64 c),(11,i64 g),(12,.ref 3 0),(43,i64 (a.length:Int)),(44,i64 c),(79,.bool x)],[.box (i64 0::C1 i64 (Arr.rep 16 0).l) false,.buf 32 (L EA a) false,.buf 1 (L MM b) false,.box (C1 i64 w.1.low.l++C1 i64 w.1.high.l) false]⟩) ?_ ?_
     ·intro _;refine Sp (fun i=>?_) fun i=>?_
      ·refine Ck fun y=>?_
       refine Sp (fun p=>?_) fun p=>?_
       ·refine Ck fun aH=>?_
        exact Lf Aa (Ew4 i (qR y) p (qR aH)) (ws [0,1,2,3])
       exact Lf Aa (Ew3 i (qR y) p) (ws [0,1,2,3])
      exact Lf Aa (Ew1 i) (ws [0,1,2,3])
     intro x;refine Cd ?_ ?_
     ·refine Bd fun aQ aI =>Te [2,3,4,5] (o1 84 (Vg aI)) Ev ?_
      exact Sr <|Br <|Tr <|Lr u t <|Br <|Br <|Jr aC <|Lr s q <|Br <|Jr aA <|Rr
     refine Sk <|Bn <|Tn <|F0 [4,6,7,10,11,43,44] ?_
     exact Ln (ws [0,1,2])
    refine Sx <|Tx <|Lx u t <|Bx <|Bn <|?_
    exact Jn ((ws (l':=[(4,.ref 0 0),(6,.bs true 1 (a.length) 0 (a.length)),(7,.bs true 2 (b.length) 0 (b.length)),(43,i64 (a.length:Int)),(44,i64 c)]) (O':=[.box (i64 0::C1 i64 (Arr.rep 16 0).l) false,.buf 32 (L EA a) false,.buf 1 (L MM b) false]) [0,1,2]).trans (ws [0,1,2]))
   intro _;refine F0 [4,6,7,43,44] ?_;exact Ln (ws [0,1,2])
  refine Sx <|Tx <|Lx s q <|Bx <|?_
  exact Jn ((ws (l':=[(4,.ref 0 0)]) (O':=[.box (i64 0::C1 i64 (Arr.rep 16 0).l) false]) [0]).trans (ws [0]))
 intro _;refine T0 [2,3,4,5] ?_;exact Sr <|Rr
theorem QQ{a r}(h:EE a=some r):Con (B rs) 42 [.agg (Aj a)] [] (fun r' O'=>r'=i64 r/\O'=[]):=by
 refine Cw 34 [.tmp 2] Tryz.func42 (fun F hE=>?_) h;unfold EE;refine T0 [1] ?_;refine Jo (fun _=>⟨Ah 34 [(1,.ref 0 0)],[.box (Aj a) false]⟩) ?_ ?_
 ·intro y e;refine T0 [1,12,13,14] ?_;refine Sb ?_;refine Lo (fun b=>⟨Ah 34 [(1,.ref 0 0),(12,.sl false (L Ab a.Clauses)),(13,i64 (a.Clauses.length:Int)),(14,i64 b)],[.box (Aj a) false]⟩) (ws [0]) ?_;rintro b z f c d;show H9 a b=some f->_;unfold H9;refine T0 [1,12,13,14,15] ?_;refine Sq <|Cd ?_ ?_
  ·refine Sk <|Tn <|Sq <|Sb <|Ck fun g =>Lt fun i j =>Lt fun k m =>Lt fun n o =>Lt fun p q =>Lt fun s t =>Lt fun u v =>Te (O':=[_,.box (.str i::.sl false (L Ag k)::i64 n::i64 p::(C1 i64 s.l++[.sl false (L cApi_Expr u)])) false]) [1,4,12,13,14] Aa (Ev (by simp only[go_sem,qR g,j,m,o,q,t,v];exact Ce)) ?_
   refine Bd fun aa w =>Te [1,6,12,13,14] (o1 20 (Pn w)) Ev ?_
   refine T0 [1,12,13,14,24] ?_;refine Cd ?_ ?_
   ·refine T0 [2] ?_;exact Sr <|Br <|Tr <|Lr d c <|Br <|Jr e <|Rr
   refine Sk <|Bn <|Tn <|F0 [1,12,13,14] ?_
   exact Ln (ws [0])
  refine Sx <|Tx <|Lx d c <|Bx <|?_
  exact Jn ((ws (l':=[(1,.ref 0 0)]) (O':=[.box (Aj a) false]) [0]).trans (ws [0]))
 intro _;refine Sq <|Bd fun ab x =>Te [10] (o1 28 (O1 x)) Ev ?_
 refine T0 [33] ?_;refine Cd ?_ ?_
 ·refine T0 [2] ?_;exact Sr <|Tr <|Rr
 refine Sk <|Tn <|T0 [2] ?_
 exact Sr <|Rr
variable {rs:Aqm}
theorem NC{a r}(h:H5 a=some r):Con (B rs) 119 [.sl false (L (QS i64 4) a)] [] (fun r' O'=>r'=.tup [.agg (C1 i64 r.1.l),.bool r.2]/\O'=[]):=by
 refine Cw 14 [.cell 2 42,.tmp 3] Tryz.func119 (fun F hE=>?_) h;unfold H5;refine T0 [0,2] ?_;refine Ck fun b =>Ck fun c =>Ck fun d =>?_
 intro h;refine TA hE mixed [[],[0],[0,1],[],[3],[3,4],[],[6],[6,7],[3,4,5,6,7,8],[0,1,2],[0,1,2,3,4,5,6,7,8,9,10]] (by kernel_rfl) [(2,0)] [] [] [7,8,10,11] [2,3,7,8,10,11] (by kernel_rfl) (fr':=[(2,.ref 0 0),(3,.bool (nth a 0==nth a 1)),(7,.sl false (L (QS i64 4) a)),(8,.rp (C1 i64 (nth a 0).l)),(10,.sl false (L (QS i64 4) a)),(11,.rp (C1 i64 (nth a 1).l))]) (O':=[.box (C1 i64 (nth a 0).l) false]) ⟨rfl,trivial⟩ trivial ⟨rfl,rfl,rfl,rfl,trivial⟩ ⟨_,_,Aa,(by simp only[XOk]),?_⟩ ?_
 ·simp only[go_sem,qL b,qL c,qL d]
 revert h;exact Sr <|Rr
theorem Nz{b r}(h:H6 b=some r):Con (B rs) 120 [.sl false (L (QS i64 4) b)] [] (fun r' O'=>r'=.tup [.agg (C1 i64 r.1.l),.bool r.2]/\O'=[]):=by
 refine Cw 23 [.cell 2 42,.tmp 3] Tryz.func120 (fun F hE=>?_) h;unfold H6;refine T0 [0,2] ?_;refine Vw [[],[0],[0,1],[],[3],[3,4],[],[6],[6,7],[3,4,5,6,7,8],[3,4,5,6,7,8,9],[3,4,5,6,7,8,9,10],[3,4,5,6,7,8,9,10,11],[3,4,5,6,7,8,9,10,11,12],[3,4,5,6,7,8,9,10],[3,4,5,6,7,8,9,10,14],[3,4,5,6,7,8,9,10,14,15],[3,4,5,6,7,8,9,10,11,12,13,14,15,16],[3,4,5,6,7,8,9,10,11,12,13,14,15,16,17],[0,1,2,3,4,5,6,7,8,9,10],[0,1,2,3,4,5,6,7,8,9,10,11,12,13,14,15,16,17,18,19]] [2,3,14,15,16,18,19] [] [] [] [15,16,18,19] 14 (fun c=>⟨Ah 23 [(2,.ref 0 0),(3,.bool c)],[.box (C1 i64 (nth b 2).l) false]⟩) ?_ ?_
 ·intro _;refine Ck fun d =>Ck fun e =>Ck fun f =>?_
  refine Sp (fun a=>?_) fun a=>?_
  ·refine Ck fun g =>Ck fun i =>?_
   exact Lv Aa (by simp only[XOk]) (Ev (by simp only[go_sem,qL d,qL e,qL f,a,qL g,qL i];exact Ce)) (by exact fun _=>⟨trivial,trivial,⟨rfl,rfl,rfl,rfl,trivial⟩⟩) (ws [0])
  exact Lv Aa (by simp only[XOk]) (Ew4 (qL d) (qL e) (qL f) a) (by exact fun h=>absurd (AV.bool.inj h) (by first|exact a|simp[a])) (ws [0])
 intro c;exact Sr <|Rr
theorem Nn{a b r}(h:G2 a b=some r):Con (B rs) 165 [.sl false (L (QS i64 4) a),.rp [i64 b]] [] (fun r' O'=>r'=.tup [.agg (C1 i64 r.1.l),.bool r.2]/\O'=[]):=by
 refine Co 0 37 [.cell 3 42,.tmp 4] Tryz.func165 (fun F hE=>?_) h;unfold G2;refine T0 [0,1,3] ?_;refine Jo (fun d=>⟨Ah 37 [(3,.ref 0 0)],[.box (C1 i64 d.l) false]⟩) ?_ ?_
 ·intro aa n;refine T0 [0,1,3,6] ?_;refine Sb ?_;refine Lo (fun(v:Int×Arr Int 4)=>(⟨Ah 37 [(0,.sl false (L (QS i64 4) a)),(1,.rp [i64 b]),(3,.ref 0 0),(6,i64 v.1)],[.box (C1 i64 v.2.l) false]⟩:St)) (ws [0]) ?_;rintro⟨e,f⟩ ab o g i;show FN a b e f=some o->_;unfold FN;refine T0 [0,1,3,6,7] ?_;refine Sq <|Cd ?_ ?_
  ·refine Sk <|Tn <|Sq <|Sb <|T0 [0,1,3,5,6] ?_
   refine Ck fun p =>Ck fun q =>Ck fun s =>Ck fun t =>Ck fun u =>Lt fun j w =>De (O':=[.box (C1 i64 j.l) false]) [[],[],[],[1],[1,2,3],[1,2,3,4],[],[],[],[7],[7,8,9],[7,8,9,10],[6,7,8,9,10,11],[1,2,3,4,5,6,7,8,9,10,11,12],[0,1,2,3,4,5,6,7,8,9,10,11,12,13],[0,1,2,3,4,5,6,7,8,9,10,11,12,13,14]] [0,1,3,5,6] Aa (Ev (by simp only[go_sem,qL p,qR q,qL s,qR t,qR u,w];exact Ce)) ?_
   refine Tw [0,1,3,6,33] (fun k=>⟨Ah 37 [(0,.sl false (L (QS i64 4) a)),(1,.rp [i64 b]),(3,.ref 0 0),(6,i64 e),(33,.bool k)],[.box (C1 i64 j.l) false]⟩) ?_ ?_
   ·intro _;refine Ck fun m=>?_
    refine Sp (fun c=>?_) fun c=>?_
    ·exact Lf Aa (Ew2 (qR m) c) (ws [0])
    refine Ck fun x=>?_
    exact Lf Aa (Ew3 (qR m) c (qR x)) (ws [0])
   intro k;refine Cd ?_ ?_
   ·refine Lt fun y z =>Te (O':=[.box (C1 i64 y.l) false]) [3,4] Aa (Ev (by simp only[go_sem,Iy,Jb,GH,z];exact Ce)) ?_
    exact Sr <|Br <|Tr <|Lr i g <|Br <|Jr n <|Ro []
   refine Sk <|Bn <|Tn <|F0 [0,1,3,6] ?_
   exact Ln (ws [0])
  refine Sx <|Tx <|Lx i g <|Bx <|?_
  exact Jn ((ws (l':=[(3,.ref 0 0)]) (O':=[.box (C1 i64 f.l) false]) [0]).trans (ws [0]))
 intro d;refine T0 [3,4] ?_;exact Sr <|Ro []
theorem Gu{a r}(h:GJ a=some r):Con (B rs) 121 [i64 a] [] (fun r' O'=>r'=.agg [.fn 165 [.rp [i64 r]]]/\O'=[]):=by
 refine Co 0 5 [.cell 2 201] Tryz.func121 (fun F hE=>?_) h;unfold GJ;refine T0 [1,2] ?_;refine T0 [2] ?_;refine Sr ?_;refine Wp ((Wr 1 0 (cs':=[.fn 165 [.rp [i64 a]]]) (O':=[.box [i64 a] true,.box [.fn 165 [.rp [i64 a]]] false]) rfl (by decide) (by simp only[go_sem,Aro,reduceIte]) (by rfl)).trans (Weak.refl _ _)) ?_;exact Po []
theorem Qr{r}(h:ttype_rules  = some r):Con (B rs) 79 [] [] (fun r' O'=>r'=.mref 0/\O'=[.mp false (MI Ew r)]):=by
 refine Co 0 16 [.tmp 0] Tryz.func79 (fun F hE=>?_) h;unfold ttype_rules;refine T0 [] ?_;refine T0 [1] ?_;refine T0 [1,2] ?_;refine Bd fun g a =>Bd fun i b =>Bd fun j c =>Bd fun k d =>Lt fun e f =>De (O':=[_,_,.mp false (MI Ew e)]) [[],[],[0,1],[],[0,3],[],[0,5],[],[0,7],[],[0,9],[9],[0,9,11],[9,11],[0,9,11,13],[9,11,13],[0,9,11,13,15],[],[0,17],[0,1,2,3,4,5,6,7,8,9,10,11,12,13,14,15,16,17,18],[0,1,2,3,4,5,6,7,8,9,10,11,12,13,14,15,16,17,18,19]] [0] (P1 (l:=[(10,_,_,_),(11,_,_,_),(12,_,_,_),(13,_,_,_)]) ⟨Gu  a,Gu  b,Gu  c,Gu  d,trivial⟩) (Ew1 f) ?_
 exact Sr <|Ro [2]
theorem Lp{r}(h:ttype_attributes  = some r):Con (B rs) 122 [] [] (fun r' O'=>r'=.agg (C1 i64 r.1.l++(C1 i64 r.2.1.l++(C1 i64 r.2.2.1.l++(C1 i64 r.2.2.2.1.l++(C1 i64 r.2.2.2.2.1.l++(C1 i64 r.2.2.2.2.2.1.l++(C1 i64 r.2.2.2.2.2.2.1.l++(C1 i64 r.2.2.2.2.2.2.2.1.l++(C1 i64 r.2.2.2.2.2.2.2.2.1.l++(C1 i64 r.2.2.2.2.2.2.2.2.2.1.l++(C1 i64 r.2.2.2.2.2.2.2.2.2.2.1.l++(C1 i64 r.2.2.2.2.2.2.2.2.2.2.2.1.l++(C1 i64 r.2.2.2.2.2.2.2.2.2.2.2.2.1.l++(C1 i64 r.2.2.2.2.2.2.2.2.2.2.2.2.2.1.l++(C1 i64 r.2.2.2.2.2.2.2.2.2.2.2.2.2.2.1.l++C1 i64 r.2.2.2.2.2.2.2.2.2.2.2.2.2.2.2.l)))))))))))))))/\O'=[]):=by
 refine Cw 8 [.cell 0 203] Tryz.func122 (fun F hE=>?_) h;unfold ttype_attributes;refine T0 [0] ?_;refine Lt fun c d =>Lt fun e f =>Lt fun a g =>Lt fun b i =>Te (O':=[.box (C1 i64 (Arr.rep 4 0).l++(C1 i64 (Arr.rep 4 0).l++(C1 i64 (Arr.rep 4 0).l++(C1 i64 (Arr.rep 4 0).l++(C1 i64 (Arr.rep 4 0).l++(C1 i64 c.l++(C1 i64 e.l++(C1 i64 a.l++(C1 i64 a.l++(C1 i64 (Arr.rep 4 0).l++(C1 i64 b.l++(C1 i64 b.l++(C1 i64 (Arr.rep 4 0).l++(C1 i64 (Arr.rep 4 0).l++(C1 i64 (Arr.rep 4 0).l++C1 i64 (Arr.rep 4 0).l))))))))))))))) false]) [0] Aa (Ev (by simp only[go_sem,Iy,Jb,GH,Iy,Jb,GH,Iy,Jb,GH,Iy,Jb,GH,Iy,Jb,GH,Iy,Jb,GH,d,f,g,i];exact Ce)) ?_
 exact Sr <|Rr
theorem Ox{rec_:JD->Aqr->Option (Arr Int 4×Bool)}(hrec:∀{a:JD} {b:Aqr} {r:Arr Int 4×Bool},rec_ a b=some r->Con (B rs) 80 [.mref 0,.agg (xE b)] [.mp false (MI Ew a)] (fun r' O'=>r'=.tup [.agg (C1 i64 r.1.l),.bool r.2]/\O'=[.mp false (MI Ew a)])){a:JD}{b:Aqr}{r:Arr Int 4×Bool}(h:Hg rec_ a b=some r):Con (B rs) 80 [.mref 0,.agg (xE b)] [.mp false (MI Ew a)] (fun r' O'=>r'=.tup [.agg (C1 i64 r.1.l),.bool r.2]/\O'=[.mp false (MI Ew a)]):=by
 refine Ix (N:=58) (rs:=[.cell 4 42,.tmp 5]) 1 rfl ok Tryz.func80 rfl (by decide +kernel) rfl rfl (AqV rfl) (fun F=>?_);have hE:=(ok (rs:=rs)).env F;unfold Hg at h;show Run ((B rs).env F) 1 _ ⟨Ah 58 [(0,.mref 0),(1,.agg (xE b))],[.mp false (MI Ew a)]⟩ _;refine BN ?_;revert h;refine T0 [0,3,4] ?_;refine Sq <|T0 [0,3,4,12] ?_
 refine Sb <|T0 [0,3,4,12,13] ?_
 refine Cd ?_ ?_
 ·refine T0 [4,5] ?_;exact Sr <|Br <|Tr <|Ro [0]
 refine T0 [0,3,4,17] ?_;refine Cd ?_ ?_
 ·refine Bd fun aw q =>Ck fun s =>Lt fun t u =>De (O':=[_,_,.box (C1 i64 t.l) false]) [[],[],[1],[0,1,2],[0,1,2,3],[0,1,2,3,4]] [4,5] (o1 19 (Lp q)) (Ew2 (qR s) u) ?_
  exact Sr <|Br <|Tr <|Ro [0]
 refine Sk <|Bn <|Tn <|T0 [0,3,4,6] ?_
 refine Jo (fun c=>⟨Ah 58 [(0,.mref 0),(3,.ref 1 0),(4,.ref 2 0),(6,.bs false 3 (c.length) 0 (c.length))],[.mp false (MI Ew a),.box (xE b) false,.box (C1 i64 (Arr.rep 4 0).l) false,.buf 4 (L (QS i64 4) c) false]⟩) ?_ ?_
 ·intro ax w;refine T0 [0,3,4,6,24,25,26] ?_;refine Sb ?_;refine Lo (fun(v:Int×List (Arr Int 4))=>(⟨Ah 58 [(0,.mref 0),(3,.ref 1 0),(4,.ref 2 0),(6,.bs false 3 (v.2.length) 0 (v.2.length)),(24,.sl false (L cApi_Expr b.L)),(25,i64 (b.L.length:Int)),(26,i64 v.1)],[.mp false (MI Ew a),.box (xE b) false,.box (C1 i64 (Arr.rep 4 0).l) false,.buf 4 (L (QS i64 4) v.2) false]⟩:St)) ((My 6 4 rfl).trans (ws [0,1,2,3])) ?_;rintro⟨z,d⟩ ay aa o p;show H7 a b rec_ z d=some aa->_;unfold H7;refine T0 [0,3,4,6,24,25,26,27] ?_;refine Sq <|Cd ?_ ?_
  ·refine Sk <|Tn <|Sq <|Sb <|Ck fun ab =>Lt fun e ac =>Lt fun f ad =>Lt fun g ae =>Lt fun i af =>Te (O':=[_,_,_,_,.box (i64 e::i64 f::(C1 i64 g.l++[.sl false (L cApi_Expr i)])) false]) [0,3,4,6,8,24,25,26] Aa (Ew5 (qR ab) ac ad ae af) ?_
   refine Bd fun az ag =>Te [0,3,4,6,9,10,24,25,26] (Ae (l:=[]) (m:=[(33,80,[.mref 0,.agg (i64 e::i64 f::(C1 i64 g.l++[.sl false (L cApi_Expr i)]))],[.mp false (MI Ew a),.box (xE b) false,.box (C1 i64 (Arr.rep 4 0).l) false,.buf 4 (L (QS i64 4) d) false,.box (i64 e::i64 f::(C1 i64 g.l++[.sl false (L cApi_Expr i)])) false],_,_)]) trivial ⟨(wc (hrec ag) [0]),trivial⟩) Ev ?_
   refine Sq <|T0 [0,3,4,6,9,24,25,26,37] ?_
   refine Cd ?_ ?_
   ·refine Lt fun ah ai =>Te (O':=[_,_,.box (C1 i64 ah.l) false,_,_,_]) [4,5] Aa (Ev (by simp only[go_sem,Iy,Jb,GH,ai];exact Ce)) ?_
    exact Sr <|Tr <|Br <|Tr <|Lr p o <|Br <|Jr w <|Ro [0]
   refine Sk <|Tn <|Ck fun aj =>Lt fun j ak =>Fe (fr':=[(0,_),(3,_),(4,_),(6,.bs false 3 (j.length) 0 (j.length)),(24,_),(25,_),(26,_)]) (O':=[_,_,_,.buf 4 (L (QS i64 4) j) false,_,_,_]) [0,3,4,6,24,25,26] Aa (Ew2 aj ak) ?_
   refine Bn <|Tn <|F0 [0,3,4,6,24,25,26] ?_
   exact Ln (ws [0,1,2,3])
  refine Sx <|Tx <|Lx p o <|Bx <|?_
  exact Jn ((ws (l':=[(0,.mref 0),(3,.ref 1 0),(4,.ref 2 0),(6,.bs false 3 (d.length) 0 (d.length))]) (O':=[.mp false (MI Ew a),.box (xE b) false,.box (C1 i64 (Arr.rep 4 0).l) false,.buf 4 (L (QS i64 4) d) false]) [0,1,2,3]).trans (ws [0,1,2,3]))
 intro c;refine Sq ?_;by_cases hmf119:((a b.Op).getD ⟨0,0⟩).k=119
 ·refine Ip hmf119 ?_;refine Bd fun aA al =>Te [4,5] (o1 51 (NC al)) (Ew1 (Lb hmf119)) ?_
  refine Te [4,55] Aa (Ew1 (Lb hmf119)) ?_;refine Cd ?_ ?_
  ·refine Lt fun am an =>Te (O':=[_,_,.box (C1 i64 am.l) false,_]) [4,5] Aa (Ev (by simp only[go_sem,Lb hmf119,Iy,Jb,GH,an];exact Ce)) ?_
   exact Sr <|Tr <|Ro [0]
  refine Sk <|Tn <|Te [4,5] Aa (Ew1 (Lb hmf119)) ?_
  exact Sr <|Ro [0]
 refine In hmf119 ?_;by_cases hmf120:((a b.Op).getD ⟨0,0⟩).k=120
 ·refine Ip hmf120 ?_;refine Bd fun aB ao =>Te [4,5] (o1 51 (Nz ao)) (Ew1 (KV hmf120)) ?_
  refine Te [4,55] Aa (Ew1 (KV hmf120)) ?_;refine Cd ?_ ?_
  ·refine Lt fun ap aq =>Te (O':=[_,_,.box (C1 i64 ap.l) false,_]) [4,5] Aa (Ev (by simp only[go_sem,KV hmf120,Iy,Jb,GH,aq];exact Ce)) ?_
   exact Sr <|Tr <|Ro [0]
  refine Sk <|Tn <|Te [4,5] Aa (Ew1 (KV hmf120)) ?_
  exact Sr <|Ro [0]
 refine In hmf120 ?_;by_cases hmf165:((a b.Op).getD ⟨0,0⟩).k=165
 ·refine Ip hmf165 ?_;refine Rw (Qw 6 (x:=.bs false 3 (c.length) 0 (c.length)) (y:=.sl false (L (QS i64 4) c)) (O':=[.mp false (MI Ew a),.box (xE b) false,.box (C1 i64 (Arr.rep 4 0).l) false,.buf 4 (L (QS i64 4) c) true]) rfl gs rfl) ?_;refine Bd fun aC ar =>Te [4,5] (Ae (l:=[]) (m:=[(51,165,[.sl false (L (QS i64 4) c),.rp [i64 (((a b.Op).getD ⟨0,0⟩).n)]],[.mp false (MI Ew a),.box (xE b) false,.box (C1 i64 (Arr.rep 4 0).l) false,.buf 4 (L (QS i64 4) c) true],_,_)]) trivial ⟨(wc (Nn ar) []),trivial⟩) (Ew1 (Lg hmf165)) ?_
  refine Te [4,55] Aa (Ew1 (Lg hmf165)) ?_;refine Cd ?_ ?_
  ·refine Lt fun au av =>Te (O':=[_,_,.box (C1 i64 au.l) false,_]) [4,5] Aa (Ev (by simp only[go_sem,Lg hmf165,Iy,Jb,GH,av];exact Ce)) ?_
   exact Sr <|Tr <|Ro [0]
  refine Sk <|Tn <|Te [4,5] Aa (Ew1 (Lg hmf165)) ?_
  exact Sr <|Ro [0]
 refine In hmf165 ?_;intro h;cases h
theorem O4(n:Nat):∀{a:JD} {b:Aqr} {r:Arr Int 4×Bool},Hm n a b=some r->Con (B rs) 80 [.mref 0,.agg (xE b)] [.mp false (MI Ew a)] (fun r' O'=>r'=.tup [.agg (C1 i64 r.1.l),.bool r.2]/\O'=[.mp false (MI Ew a)]):=by
 induction n with
 |zero=>intro a b r h;cases h
 |succ n ih=>intro a b r h;exact Ox ih h
theorem Q4{a:JD}{b:Aqr}{r:Arr Int 4×Bool}(h:Rk a b=some r):Con (B rs) 80 [.mref 0,.agg (xE b)] [.mp false (MI Ew a)] (fun r' O'=>r'=.tup [.agg (C1 i64 r.1.l),.bool r.2]/\O'=[.mp false (MI Ew a)]):=O4 _ h
variable {rs:Aqm}
theorem Q1{a r}(h:HG a=some r):Con (B rs) 40 [.agg (Aj a)] [] (fun r' O'=>r'=.tup [i64 r.1,i64 r.2]/\O'=[]):=by
 refine Cw 39 [.tmp 2,.tmp 3] Tryz.func40 (fun F hE=>?_) h;unfold HG;refine T0 [1] ?_;refine Sq <|Bd fun ad q =>Te [1,3] (o1 10 (H2 q)) Ev ?_
 refine T0 [1,3,12] ?_;refine Cd ?_ ?_
 ·refine T0 [2,3] ?_;exact Sr <|Tr <|Rr
 refine Sk <|Tn <|Bd fun c s =>Te [1,4] (Ae (l:=[]) (m:=[(14,79,[],[.box (Aj a) false],_,_)]) trivial ⟨(wc (Qr s) []),trivial⟩) Ev ?_
 refine Jo (fun _=>⟨Ah 39 [],[]⟩) ?_ ?_
 ·intro ae t;refine T0 [4,16,17,18] ?_;refine Sb ?_;refine Lo (fun b=>⟨Ah 39 [(4,.mref 0),(16,.sl false (L Ab a.Clauses)),(17,i64 (a.Clauses.length:Int)),(18,i64 b)],[.mp false (MI Ew c)]⟩) (ws [1]) ?_;rintro b af u j k;show GV a c b=some u->_;unfold GV;refine T0 [4,16,17,18,19] ?_;refine Sq <|Cd ?_ ?_
  ·refine Sk <|Tn <|Sq <|Sb <|Ck fun v =>Lt fun n w =>Lt fun o x =>Lt fun d y =>Lt fun e z =>Lt fun f aa =>Lt fun g ab =>Te (O':=[_,.box (.str n::.sl false (L Ag o)::i64 d::i64 e::(C1 i64 f.l++[.sl false (L cApi_Expr g)])) false]) [4,5,6,16,17,18] Aa (Ev (by simp only[go_sem,qR v,w,x,y,z,aa,ab];exact Ce)) ?_
   refine Bd fun ag ac =>Te [4,5,7,8,16,17,18] (Ae (l:=[]) (m:=[(27,80,[.mref 0,.agg (i64 d::i64 e::(C1 i64 f.l++[.sl false (L cApi_Expr g)]))],[.mp false (MI Ew c),.box (.str n::.sl false (L Ag o)::i64 d::i64 e::(C1 i64 f.l++[.sl false (L cApi_Expr g)])) false],_,_)]) trivial ⟨(wc (Q4 ac) [0]),trivial⟩) Ev ?_
   refine Tw [4,5,16,17,18,36] (fun p=>⟨Ah 39 [(4,.mref 0),(5,i64 b),(16,.sl false (L Ab a.Clauses)),(17,i64 (a.Clauses.length:Int)),(18,i64 b),(36,.bool p)],[.mp false (MI Ew c)]⟩) ?_ ?_
   ·intro _;refine Sp (fun i=>?_) fun i=>?_
    ·exact Lf Aa (Ew1 i) (ws [0])
    exact Lf Aa (Ev (by simp only[go_sem,i,Iy,Jb,GH];exact Ce)) (ws [0])
   intro p;refine Cd ?_ ?_
   ·refine T0 [2,3] ?_;exact Sr <|Br <|Tr <|Lr k j <|Br <|Jr t <|Rr
   refine Sk <|Bn <|Tn <|F0 [4,16,17,18] ?_
   exact Ln (ws [0])
  refine Sx <|Tx <|Lx k j <|Bx <|?_
  exact Jn ((ws (l':=[]) (O':=[]) []).trans (ws []))
 intro _;refine T0 [2,3] ?_;exact Sr <|Rr
theorem CF{e a b r}(h:Az e a b=some r):Con (B rs) 117 [.bs false 0 (e.length) 0 (e.length),i64 a,i64 b,.fn 33 []] [.buf 21 (L Ak e) false] (fun r' O'=>r'=.tup []/\O'=[.buf 21 (L Ak r) false]):=by
 refine Co 1 53 [] Tryz.func117 (fun F hE=>?_) h;unfold Az;refine T0 [0,1,2,3,8] ?_;refine Sb ?_;refine Lo (fun(v:Int×List Aqy)=>(⟨Ah 53 [(0,.bs false 0 (v.2.length) 0 (v.2.length)),(1,i64 a),(2,i64 b),(3,.fn 33 []),(8,i64 v.1)],[.buf 21 (L Ak v.2) false]⟩:St)) (ws [0]) ?_;rintro⟨d,l⟩ ac m n o;show Ba a b d l=some m->_;unfold Ba;refine Sq <|T0 [0,1,2,3,8,14] ?_
 refine Cd ?_ ?_
 ·refine Sk <|Tn <|?_
  refine Ja (fun f=>⟨Ah 53 [(0,.bs false 0 (f.length) 0 (f.length)),(1,i64 a),(2,i64 b),(3,.fn 33 []),(8,i64 d)],[.buf 21 (L Ak f) false]⟩) ?_ ?_
  ·intro ad;refine Sb <|T0 [0,1,2,3,8,9] ?_
   refine Sb ?_;refine Lo (fun(v:Int×List Aqy)=>(⟨Ah 53 [(0,.bs false 0 (v.2.length) 0 (v.2.length)),(1,i64 a),(2,i64 b),(3,.fn 33 []),(8,i64 d),(9,i64 v.1)],[.buf 21 (L Ak v.2) false]⟩:St)) (ws [0]) ?_;rintro⟨j,c⟩ ae p q s;show A2 a j c=some p->_;unfold A2;refine Sq ?_;refine Dw [[],[],[0,1],[0,1,2],[0,1,2,3],[0,1,2,3],[0,1,2,3],[0,1,2,3,5,6],[0,1,2,3,5,6,7],[0,1,2,3],[0,1,2,3],[0,1,2,3,10],[0,1,2,3,9,10,11],[0,1,2,3,9,10,11,12],[0,1,2,3,4,5,6,7,8,9,10,11,12,13],[0,1,2,3,4,5,6,7,8,9,10,11,12,13,14],[0,1,2,3,4,5,6,7,8,9,10,11,12,13,14,15]] [0,1,2,3,8,9,34] (fun k=>⟨Ah 53 [(0,.bs false 0 (c.length) 0 (c.length)),(1,i64 a),(2,i64 b),(3,.fn 33 []),(8,i64 d),(9,i64 j),(34,.bool k)],[.buf 21 (L Ak c) false]⟩) ?_ ?_
   ·intro _;refine Sp (fun g=>?_) fun g=>?_
    ·refine Ck fun t =>Ck fun u =>Bd fun af w =>?_
     exact Lf (o1 32 (J6 w)) (Ew3 g (qR t) (qR u)) (ws [0])
    exact Lf Aa (Ew1 g) (ws [0])
   intro k;refine Cd ?_ ?_
   ·refine Sk <|Tn <|Sq <|Sb <|Ck fun x =>Ck fun y =>Ck fun z =>Ck fun aa =>Lt fun i ab =>Ge (fr':=[(0,.bs false 0 (i.length) 0 (i.length)),(1,_),(2,_),(3,_),(8,_),(9,_)]) (O':=[.buf 21 (L Ak i) false]) [[],[],[],[],[3],[],[],[6],[5,6,7],[5,6,7,8],[],[],[10,11],[10,11,12],[0,1,5,6,7,8,9,10,11,12,13],[0,1,5,6,7,8,9,10,11,12,13,14],[0,1,2,3,4,5,6,7,8,9,10,11,12,13,14,15],[0,1,2,3,4,5,6,7,8,9,10,11,12,13,14,15,16]] [0,1,2,3,8,9] Aa (Ew5 (qR x) (qR y) (qR z) (qR aa) ab) ?_
    refine Bn <|Tn <|F0 [0,1,2,3,8,9] ?_
    exact Ln (ws [0])
   refine Sx <|Tx <|Ly s q <|Bx <|Bn <|?_
   exact Jm ((ws (l':=[(0,.bs false 0 (c.length) 0 (c.length)),(1,i64 a),(2,i64 b),(3,.fn 33 []),(8,i64 d)]) (O':=[.buf 21 (L Ak c) false]) [0]).trans (ws [0]))
  intro f;refine F0 [0,1,2,3,8] ?_;exact Ln (ws [0])
 exact Sx <|Tx <|Ly o n <|Bx <|Ro [0]
theorem Gi{f b r}(h:BU f b=some r):Con (B rs) 77 [.bs false 0 (f.length) 0 (f.length),i64 b,.fn 33 []] [.buf 21 (L Ak f) false] (fun r' O'=>r'=.tup []/\O'=[.buf 21 (L Ak r) false]):=by
 refine Co 1 63 [] Tryz.func77 (fun F hE=>?_) h;unfold BU;refine T0 [0,1,2,6] ?_;refine T0 [0,1,2,6,7,8] ?_;refine Ja (fun(v:Int×List Aqy)=>(⟨Ah 63 [(0,.bs false 0 (v.2.length) 0 (v.2.length)),(1,i64 b),(2,.fn 33 []),(6,i64 20),(7,i64 v.1)],[.buf 21 (L Ak v.2) false]⟩:St)) ?_ ?_
 ·intro ab;refine Sb ?_;refine Lo (fun⟨e,g,c⟩=>⟨Ah 63 [(0,.bs false 0 (c.length) 0 (c.length)),(1,i64 b),(2,.fn 33 []),(6,i64 20),(7,i64 e),(8,i64 g)],[.buf 21 (L Ak c) false]⟩) (ws [0]) ?_;rintro⟨e,g,c⟩ ac j k n;show AM b e g c=some j->_;unfold AM;refine Sq <|T0 [0,1,2,6,7,8,13] ?_
  refine Cd ?_ ?_
  ·refine Sk <|Tn <|Sb <|Bd fun ad o =>Ck fun p =>Te [0,1,2,6,8] (Ae (l:=[]) (m:=[(18,117,[.bs false 0 (c.length) 0 (c.length),i64 e,i64 g,.fn 33 []],[.buf 21 (L Ak c) false],_,_)]) trivial ⟨(wc (CF o) [0]),trivial⟩) (Ew1 p) ?_
   refine T0 [0,1,2,6,7,8] ?_;refine F0 [0,1,2,6,7,8] ?_;exact Bn <|Ln (ws [0])
  refine Sx <|Tx <|Ly n k <|Bx <|?_
  exact Jm ((ws (l':=[(0,.bs false 0 (c.length) 0 (c.length)),(1,i64 b),(2,.fn 33 []),(6,i64 20),(7,i64 e)]) (O':=[.buf 21 (L Ak c) false]) [0]).trans (ws [0]))
 rintro⟨q,i⟩;refine Bd fun a s =>Ck fun t =>Te [0,1,2,6] (Ae (l:=[]) (m:=[(27,117,[.bs false 0 (i.length) 0 (i.length),i64 q,i64 b,.fn 33 []],[.buf 21 (L Ak i) false],_,_)]) trivial ⟨(wc (CF s) [0]),trivial⟩) (Ew1 t) ?_
 refine Sb ?_;refine Lo (fun d=>⟨Ah 63 [(0,.bs false 0 (a.length) 0 (a.length)),(1,i64 b),(2,.fn 33 []),(6,i64 d)],[.buf 21 (L Ak a) false]⟩) (ws [0]) ?_;rintro d ae u w x;show AO b d=some u->_;unfold AO;refine Sq <|T0 [0,1,2,6,30] ?_
 refine Cd ?_ ?_
 ·refine Sk <|Tn <|Sb <|T0 [0,1,2,6,7,8] ?_
  refine Ja (fun _=>⟨Ah 63 [(0,.bs false 0 (a.length) 0 (a.length)),(1,i64 b),(2,.fn 33 []),(6,i64 d),(7,i64 0)],[.buf 21 (L Ak a) false]⟩) ?_ ?_
  ·intro af;refine Sb ?_;refine Lo (fun _=>⟨Ah 63 [(0,.bs false 0 (a.length) 0 (a.length)),(1,i64 b),(2,.fn 33 []),(6,i64 d),(7,i64 0),(8,i64 (w64 (2*d)))],[.buf 21 (L Ak a) false]⟩) (ws [0]) ?_;rintro⟨⟩ ag y z aa;show C2 b d  = some y->_;unfold C2;refine Sq <|T0 [0,1,2,6,7,8,35] ?_
   refine Cd ?_ ?_
   ·exact Sk <|Tn <|Sb <|Rn
   refine Sx <|Tx <|Ly aa z <|Bx <|?_
   exact Jm ((ws (l':=[(0,.bs false 0 (a.length) 0 (a.length)),(1,i64 b),(2,.fn 33 []),(6,i64 d),(7,i64 0)]) (O':=[.buf 21 (L Ak a) false]) [0]).trans (ws [0]))
  intro _;refine Ja (fun _=>⟨Ah 63 [(0,.bs false 0 (a.length) 0 (a.length)),(1,i64 b),(2,.fn 33 []),(6,i64 d)],[.buf 21 (L Ak a) false]⟩) ?_ ?_
  ·intro ah;refine T0 [0,1,2,6,7,9] ?_;refine T0 [0,1,2,6,7,9,54] ?_;refine Cd ?_ ?_
   ·exact Rn
   exact Sk <|Jm (ws [0])
  intro _;refine F0 [0,1,2,6] ?_;exact Bn <|Ln (ws [0])
 exact Sx <|Tx <|Ly x w <|Bx <|Ro [0]
theorem FU{a r}(h:Bm a=some r):Con (B rs) 32 [.bs false 0 (a.length) 0 (a.length),.fn 33 []] [.buf 21 (L Ak a) false] (fun r' O'=>r'=.tup []/\O'=[.buf 21 (L Ak r) false]):=by
 refine Co 1 9 [] Tryz.func32 (fun F hE=>?_) h;unfold Bm;refine Bd fun d b =>Ck fun c =>Fe [] (Ae (l:=[]) (m:=[(8,77,[.bs false 0 (a.length) 0 (a.length),i64 (a.length:Int),.fn 33 []],[.buf 21 (L Ak a) false],_,_)]) trivial ⟨(wc (Gi b) [0]),trivial⟩) (Ew1 c) ?_
 exact Ro [0]
theorem Kz{a c d r}(h:Eb a c d=some r):Con (B rs) 15 [.sl false (L Ak a),i64 c,i64 d] [] (fun r' O'=>r'=.sl false (L Ak r)/\O'=[]):=by
 refine Cw 49 [.tmp 6] Tryz.func15 (fun F hE=>?_) h;unfold Eb;refine T0 [0,1,2,6] ?_;refine Ja (fun e=>⟨Ah 49 [(6,.bs false 0 (e.length) 0 (e.length))],[.buf 21 (L Ak e) false]⟩) ?_ ?_
 ·intro aS;refine T0 [1,2,6,10,11,12] ?_;refine Sb ?_;refine Lo (fun(v:Int×List Aqy)=>(⟨Ah 49 [(1,i64 c),(2,i64 d),(6,.bs false 0 (v.2.length) 0 (v.2.length)),(10,.sl false (L Ak a)),(11,i64 (a.length:Int)),(12,i64 v.1)],[.buf 21 (L Ak v.2) false]⟩:St)) ((My 6 21 rfl).trans (ws [0])) ?_;rintro⟨f,b⟩ aT an ao ap;show C5 a c d f b=some an->_;unfold C5;refine T0 [1,2,6,10,11,12,13] ?_;refine Sq <|Cd ?_ ?_
  ·refine Sk <|Tn <|?_
   refine Ja (fun g=>⟨Ah 49 [(1,i64 c),(2,i64 d),(6,.bs false 0 (g.length) 0 (g.length)),(10,.sl false (L Ak a)),(11,i64 (a.length:Int)),(12,i64 f)],[.buf 21 (L Ak g) false]⟩) ?_ ?_
   ·intro aU;refine Sb <|Ck fun aq =>Lt fun j ar =>Lt fun k au =>Lt fun n av =>Lt fun o aw =>Lt fun p ax =>Lt fun q ay =>Lt fun s az =>Lt fun t aA =>Lt fun u aB =>Lt fun w aC =>Lt fun x aD =>Lt fun y aE =>Lt fun z aF =>Lt fun aa aG =>Lt fun ab aH =>Lt fun ac aI =>Lt fun ad aJ =>Lt fun ae aK =>Lt fun af aL =>Lt fun ag aM =>Lt fun ah aN =>Te (O':=[_,.box [i64 j,i64 k,i64 n,i64 o,i64 p,i64 q,i64 s,i64 t,i64 u,i64 w,i64 x,i64 y,i64 z,i64 aa,i64 ab,i64 ac,i64 ad,i64 ae,i64 af,.str ag,.sl false (L D9 ah)] false]) [1,2,6,8,10,11,12] Aa (Ev (by simp only[go_sem,qR aq,ar,au,av,aw,ax,ay,az,aA,aB,aC,aD,aE,aF,aG,aH,aI,aJ,aK,aL,aM,aN];exact Ce)) ?_
    refine Sq ?_;refine Tw [1,2,6,8,10,11,12,27] (fun al=>⟨Ah 49 [(1,i64 c),(2,i64 d),(6,.bs false 0 (b.length) 0 (b.length)),(8,.ref 1 0),(10,.sl false (L Ak a)),(11,i64 (a.length:Int)),(12,i64 f),(27,.bool al)],[.buf 21 (L Ak b) false,.box [i64 j,i64 k,i64 n,i64 o,i64 p,i64 q,i64 s,i64 t,i64 u,i64 w,i64 x,i64 y,i64 z,i64 aa,i64 ab,i64 ac,i64 ad,i64 ae,i64 af,.str ag,.sl false (L D9 ah)] false]⟩) ?_ ?_
    ·intro _;refine Sp (fun ai=>?_) fun ai=>?_
     ·exact Lf Aa (Ew1 ai) (ws [0,1])
     exact Lf Aa (Ew1 ai) (ws [0,1])
    intro al;refine Cd ?_ ?_
    ·exact Sx <|Tx <|Bx <|Jm (ws [0])
    refine Sk <|Tn <|T0 [1,2,6,8,9,10,11,12] ?_
    refine Tw [1,2,6,8,10,11,12,40] (fun am=>⟨Ah 49 [(1,i64 c),(2,i64 d),(6,.bs false 0 (b.length) 0 (b.length)),(8,.ref 1 0),(10,.sl false (L Ak a)),(11,i64 (a.length:Int)),(12,i64 f),(40,.bool am)],[.buf 21 (L Ak b) false,.box [i64 j,i64 k,i64 n,i64 o,i64 p,i64 q,i64 s,i64 t,i64 u,i64 w,i64 x,i64 y,i64 z,i64 aa,i64 ab,i64 ac,i64 ad,i64 ae,i64 af,.str ag,.sl false (L D9 ah)] false]⟩) ?_ ?_
    ·intro _;refine Sp (fun i=>?_) fun i=>?_
     ·exact Lf Aa (Ew1 i) (ws [0,1])
     refine Sp (fun aj=>?_) fun aj=>?_
     ·exact Lf Aa (Ew2 i aj) (ws [0,1])
     exact Lf Aa (Ew2 i aj) (ws [0,1])
    intro am;refine Cd ?_ ?_
    ·refine Ck fun aO =>Lt fun ak aP =>Fe (fr':=[(1,_),(2,_),(6,.bs false 0 (ak.length) 0 (ak.length)),(10,_),(11,_),(12,_)]) (O':=[.buf 21 (L Ak ak) false,_,_]) [1,2,6,10,11,12] Aa (Ew2 aO aP) ?_
     exact Bn <|Jm (ws [0])
    exact Sk <|Bn <|Jm (ws [0])
   intro g;refine F0 [1,2,6,10,11,12] ?_;exact Ln (ws [0])
  refine Sx <|Tx <|Ly ap ao <|Bx <|?_
  exact Jm ((ws (l':=[(6,.bs false 0 (b.length) 0 (b.length))]) (O':=[.buf 21 (L Ak b) false]) [0]).trans (ws [0]))
 intro e;refine Bd fun aV aQ =>Ck fun aR =>Te [6] (Ae (l:=[]) (m:=[(47,32,[.bs false 0 (e.length) 0 (e.length),.fn 33 []],[.buf 21 (L Ak e) false],_,_)]) trivial ⟨(wc (FU aQ) [0]),trivial⟩) (Ew1 aR) ?_
 refine T0 [6] ?_;exact Sr <|Rr
variable {rs:Aqm}
theorem O3{a r}(h:Hs a=some r):Con (B rs) 56 [.sl false (L Ai a)] [] (fun r' O'=>r'=.tup [i64 r.1,i64 r.2]/\O'=[]):=by
 refine Cw 149 [.tmp 2,.tmp 3] Tryz.func56 (fun F hE=>?_) h;unfold Hs;refine T0 [0,2] ?_;refine Sq <|T0 [0,2,16] ?_
 refine Cd ?_ ?_
 ·refine T0 [2,3] ?_;exact Sr <|Tr <|Rr
 refine Sk <|Tn <|Sq <|?_
 refine Tw [0,2,23] (fun ak=>⟨Ah 149 [(0,.sl false (L Ai a)),(2,i64 0),(23,.bool ak)],[]⟩) ?_ ?_
 ·intro _;refine Sp (fun x=>?_) fun x=>?_
  ·exact Lf Aa (Ew1 x) (ws [])
  refine Bd fun aT ax=>?_
  exact Lf (o1 22 (Ie (fun h=>MV h) ax)) (Ew1 x) (ws [])
 intro ak;refine Cd ?_ ?_
 ·refine T0 [2,3] ?_;exact Sr <|Tr <|Rr
 refine Sk <|Tn <|Bd fun aU ay =>?_
 refine Tfe [0,2,4] (Ae (l:=[]) (m:=[(27,96,[.sl false (L IM ([(-1)]:List Int)),i64 (a.length:Int)],[],_,_)]) trivial ⟨(wc (Lm ay) []),trivial⟩) Ev ?_;refine Ck fun az =>Lt fun y aA =>Te (fr':=[(0,_),(2,_),(4,.bs false 0 (y.length) 0 (y.length))]) (O':=[.buf 1 (L IM y) false]) [0,2,4] Aa (Ew2 (qL az) aA) ?_
 refine Jo (fun al=>⟨Ah 149 [(2,i64 al)],[]⟩) ?_ ?_
 ·intro aV am;refine T0 [0,2,4,30,31,32] ?_;refine Sb ?_;refine Lo (fun⟨o,b,c⟩=>⟨Ah 149 [(0,.sl false (L Ai a)),(2,i64 o),(4,.bs false 0 (c.length) 0 (c.length)),(30,.sl false (L Ai a)),(31,i64 (a.length:Int)),(32,i64 b)],[.buf 1 (L IM c) false]⟩) (ws [0]) ?_;rintro⟨o,b,c⟩ aW aB z aa;show Gp a o b c=some aB->_;unfold Gp;refine T0 [0,2,4,30,31,32,33] ?_;refine Sq <|Cd ?_ ?_
  ·refine Sk <|Tn <|?_
   refine Jo (fun(v:Int×List Int)=>(⟨Ah 149 [(0,.sl false (L Ai a)),(2,i64 v.1),(4,.bs false 0 (v.2.length) 0 (v.2.length)),(30,.sl false (L Ai a)),(31,i64 (a.length:Int)),(32,i64 b)],[.buf 1 (L IM v.2) false]⟩:St)) ?_ ?_
   ·intro aX an;refine Sb <|Ck fun aC =>Lt fun p aD =>Lt fun q aE =>Lt fun s aF =>Te (O':=[_,.box [i64 p,i64 q,i64 s] false]) [0,2,4,5,6,30,31,32] Aa (Ew4 (qR aC) aD aE aF) ?_
    refine Ck fun aG =>Te [0,2,4,5,6,7,30,31,32] Aa (Ew1 (qR aG)) ?_
    refine Sq <|T0 [0,2,4,5,6,7,30,31,32,42] ?_
    refine Cd ?_ ?_
    ·exact Sx <|Tx <|Bx <|Jn (ws [0])
    refine Sk <|Tn <|Bd fun aY aH =>Te [0,2,4,5,6,7,8,9,30,31,32] (o1 46 (Ov aH)) Ev ?_
    refine Lt fun e aI =>Te (fr':=[(0,_),(2,_),(4,_),(5,_),(6,_),(7,_),(8,_),(10,i64 e),(30,_),(31,_),(32,_)]) [0,2,4,5,6,7,8,10,30,31,32] Aa (Ew1 aI) ?_
    refine Lt fun f aJ =>Te (fr':=[(0,_),(2,i64 f),(4,_),(5,_),(6,_),(7,_),(8,_),(10,_),(30,_),(31,_),(32,_)]) [0,2,4,5,6,7,8,10,30,31,32] Aa (Ew1 aJ) ?_
    refine Sq ?_;refine Tw [0,2,4,5,6,10,30,31,32,78] (fun ao=>⟨Ah 149 [(0,.sl false (L Ai a)),(2,i64 f),(4,.bs false 0 (c.length) 0 (c.length)),(5,i64 b),(6,.ref 1 0),(10,i64 e),(30,.sl false (L Ai a)),(31,i64 (a.length:Int)),(32,i64 b),(78,.bool ao)],[.buf 1 (L IM c) false,.box [i64 p,i64 q,i64 s] false]⟩) ?_ ?_
    ·intro _;refine Sp (fun g=>?_) fun g=>?_
     ·exact Lf Aa (Ew1 g) (ws [0,1])
     refine Sp (fun k=>?_) fun k=>?_
     ·refine Sp (fun t=>?_) fun t=>?_
      ·exact Lf Aa (Ew3 g k t) (ws [0,1])
      refine Sp (fun ab=>?_) fun ab=>?_
      ·exact Lf Aa (Ew4 g k t ab) (ws [0,1])
      exact Lf Aa (Ew4 g k t ab) (ws [0,1])
     refine Sp (fun ac=>?_) fun ac=>?_
     ·exact Lf Aa (Ew3 g k ac) (ws [0,1])
     exact Lf Aa (Ew3 g k ac) (ws [0,1])
    intro ao;refine Cd ?_ ?_
    ·refine T0 [2,3] ?_;exact Sr <|Tr <|Br <|Jr an <|Lr aa z <|Br <|Jr am <|Rr
    refine Sk <|Tn <|T0 [0,2,4,5,6,10,11,30,31,32] ?_
    refine Ja (fun i=>⟨Ah 149 [(0,.sl false (L Ai a)),(2,i64 f),(4,.bs false 0 (c.length) 0 (c.length)),(5,i64 b),(6,.ref 1 0),(10,i64 e),(11,.bs false 2 (i.length) 0 (i.length)),(30,.sl false (L Ai a)),(31,i64 (a.length:Int)),(32,i64 b)],[.buf 1 (L IM c) false,.box [i64 p,i64 q,i64 s] false,.buf 1 (L IM i) false]⟩) ?_ ?_
    ·intro aZ;refine Tw [0,2,4,5,6,10,11,30,31,32,86] (fun ap=>⟨Ah 149 [(0,.sl false (L Ai a)),(2,i64 f),(4,.bs false 0 (c.length) 0 (c.length)),(5,i64 b),(6,.ref 1 0),(10,i64 e),(11,.sl true (L IM ([]))),(30,.sl false (L Ai a)),(31,i64 (a.length:Int)),(32,i64 b),(86,.bool ap)],[.buf 1 (L IM c) false,.box [i64 p,i64 q,i64 s] false]⟩) ?_ ?_
     ·intro _;refine Sp (fun ad=>?_) fun ad=>?_
      ·exact Lf Aa (Ew1 ad) (ws [0,1])
      exact Lf Aa (Ew1 ad) (ws [0,1])
     intro ap;refine Cd ?_ ?_
     ·have aK:GX 1 8:=by decide
      refine Lt fun ae aL =>Fe (fr':=[(0,_),(2,_),(4,_),(5,_),(6,_),(10,_),(11,.bs false 3 (ae.length) 0 (ae.length)),(30,_),(31,_),(32,_)]) (O':=[_,_,_,.buf 1 (L IM ae) false]) [0,2,4,5,6,10,11,30,31,32] Aa (Ew2 aK aL) ?_
      exact Jm (ws [0,1,3])
     refine Sk ?_;exact Jm ((My 11 1 rfl).trans (ws [0,1,2]))
    intro i;refine Ja (fun d=>⟨Ah 149 [(0,.sl false (L Ai a)),(2,i64 f),(4,.bs false 0 (c.length) 0 (c.length)),(5,i64 b),(10,i64 e),(11,.bs false 1 (d.length) 0 (d.length)),(30,.sl false (L Ai a)),(31,i64 (a.length:Int)),(32,i64 b)],[.buf 1 (L IM c) false,.buf 1 (L IM d) false]⟩) ?_ ?_
    ·intro a0;refine Tw [0,2,4,5,10,11,30,31,32,104] (fun aq=>⟨Ah 149 [(0,.sl false (L Ai a)),(2,i64 f),(4,.bs false 0 (c.length) 0 (c.length)),(5,i64 b),(10,i64 e),(11,.bs false 1 (i.length) 0 (i.length)),(30,.sl false (L Ai a)),(31,i64 (a.length:Int)),(32,i64 b),(104,.bool aq)],[.buf 1 (L IM c) false,.buf 1 (L IM i) false]⟩) ?_ ?_
     ·intro _;refine Sp (fun u=>?_) fun u=>?_
      ·refine Sp (fun af=>?_) fun af=>?_
       ·exact Lf Aa (Ew2 u af) (ws [0,2])
       exact Lf Aa (Ew2 u af) (ws [0,2])
      exact Lf Aa (Ew1 u) (ws [0,2])
     intro aq;refine Cd ?_ ?_
     ·refine Ck fun aM =>Lt fun ag aN =>Fe (fr':=[(0,_),(2,_),(4,_),(5,_),(10,_),(11,.bs false 1 (ag.length) 0 (ag.length)),(30,_),(31,_),(32,_)]) (O':=[_,.buf 1 (L IM ag) false,_]) [0,2,4,5,10,11,30,31,32] Aa (Ew2 aM aN) ?_
      exact Jm (ws [0,1])
     exact Sk <|Jm (ws [0,1])
    intro d;refine T0 [0,2,4,5,10,30,31,32,110,111,112] ?_;refine Sb ?_;refine Lo (fun(v:Int×List Int)=>(⟨Ah 149 [(0,.sl false (L Ai a)),(2,i64 f),(4,.bs false 0 (v.2.length) 0 (v.2.length)),(5,i64 b),(10,i64 e),(30,.sl false (L Ai a)),(31,i64 (a.length:Int)),(32,i64 b),(110,.bs false 1 (d.length) 0 (d.length)),(111,i64 (d.length:Int)),(112,i64 v.1)],[.buf 1 (L IM v.2) false,.buf 1 (L IM d) false]⟩:St)) (ws [0,1]) ?_;rintro⟨ah,j⟩ a1 aO ar au;show EL a b e d ah j=some aO->_;unfold EL;refine T0 [0,2,4,5,10,30,31,32,110,111,112,113] ?_;refine Sq <|Cd ?_ ?_
    ·refine Sk <|Tn <|Sq <|Sb <|Ck fun aP =>Te [0,2,4,5,10,13,30,31,32,110,111,112] Aa (Ew1 (qR aP)) ?_
     refine Sq ?_;refine Tw [0,2,4,5,10,13,30,31,32,110,111,112,139] (fun av=>⟨Ah 149 [(0,.sl false (L Ai a)),(2,i64 f),(4,.bs false 0 (j.length) 0 (j.length)),(5,i64 b),(10,i64 e),(13,i64 (nth d ah.toNat)),(30,.sl false (L Ai a)),(31,i64 (a.length:Int)),(32,i64 b),(110,.bs false 1 (d.length) 0 (d.length)),(111,i64 (d.length:Int)),(112,i64 ah),(139,.bool av)],[.buf 1 (L IM j) false,.buf 1 (L IM d) false]⟩) ?_ ?_
     ·intro _;refine Sp (fun n=>?_) fun n=>?_
      ·exact Lf Aa (Ew1 n) (ws [0,1])
      refine Sp (fun w=>?_) fun w=>?_
      ·exact Lf Aa (Ew2 n w) (ws [0,1])
      refine Ck fun aw=>?_
      refine Sp (fun ai=>?_) fun ai=>?_
      ·refine Ck fun aQ=>?_
       exact Lf Aa (Ew5 n w (qR aw) ai (qR aQ)) (ws [0,1])
      exact Lf Aa (Ew4 n w (qR aw) ai) (ws [0,1])
     intro av;refine Cd ?_ ?_
     ·refine T0 [2,3] ?_;exact Sr <|Tr <|Br <|Tr <|Lr au ar <|Br <|Br <|Jr an <|Lr aa z <|Br <|Jr am <|Rr
     refine Sk <|Tn <|Ck fun aR =>Lt fun aj aS =>Fe (fr':=[(0,_),(2,_),(4,.bs false 0 (aj.length) 0 (aj.length)),(5,_),(10,_),(30,_),(31,_),(32,_),(110,_),(111,_),(112,_)]) (O':=[.buf 1 (L IM aj) false,_]) [0,2,4,5,10,30,31,32,110,111,112] Aa (Ew2 (qR aR) aS) ?_
     refine Bn <|Tn <|F0 [0,2,4,5,10,30,31,32,110,111,112] ?_
     exact Ln (ws [0,1])
    refine Sx <|Tx <|Lx au ar <|Bx <|Bn <|?_
    exact Jn ((ws (l':=[(0,.sl false (L Ai a)),(2,i64 f),(4,.bs false 0 (j.length) 0 (j.length)),(30,.sl false (L Ai a)),(31,i64 (a.length:Int)),(32,i64 b)]) (O':=[.buf 1 (L IM j) false]) [0]).trans (ws [0]))
   rintro⟨a2,a3⟩;refine F0 [0,2,4,30,31,32] ?_;exact Ln (ws [0])
  refine Sx <|Tx <|Lx aa z <|Bx <|?_
  exact Jn ((ws (l':=[(2,i64 o)]) (O':=[]) []).trans (ws []))
 intro al;refine Sq <|T0 [2,147] ?_
 refine Cd ?_ ?_
 ·refine T0 [2,3] ?_;exact Sr <|Tr <|Rr
 refine Sk <|Tn <|T0 [2,3] ?_
 exact Sr <|Rr
variable {rs:Aqm}
theorem GK{rec_:AqB->Aqr->Option (AqB)}(hrec:∀{b:AqB} {a:Aqr} {r:AqB},rec_ b a=some r->Con (B rs) 91 [.ref 0 0,.agg (xE a)] [.box [.bs false 1 (b.code.length) 0 (b.code.length)] false,.buf 3 (L Ai b.code) false] (fun r' O'=>r'=.tup []/\O'=[.box [.bs false 1 (r.code.length) 0 (r.code.length)] false,.buf 3 (L Ai r.code) false])){b:AqB}{a:Aqr}{r:AqB}(h:BG rec_ b a=some r):Con (B rs) 91 [.ref 0 0,.agg (xE a)] [.box [.bs false 1 (b.code.length) 0 (b.code.length)] false,.buf 3 (L Ai b.code) false] (fun r' O'=>r'=.tup []/\O'=[.box [.bs false 1 (r.code.length) 0 (r.code.length)] false,.buf 3 (L Ai r.code) false]):=by
 refine Ix (N:=74) (rs:=[]) 2 rfl ok Tryz.func91 rfl (by decide +kernel) rfl rfl (AqV rfl) (fun F=>?_);have hE:=(ok (rs:=rs)).env F;unfold BG at h;show Run ((B rs).env F) 2 _ ⟨Ah 74 [(0,.ref 0 0),(1,.agg (xE a))],[.box [.bs false 1 (b.code.length) 0 (b.code.length)] false,.buf 3 (L Ai b.code) false]⟩ _;refine BN ?_;revert h;refine T0 [0,3] ?_;refine T0 [0,3,7] ?_;refine Sb <|T0 [0,3,7,26] ?_
 refine Cd ?_ ?_
 ·refine Bd fun aH x =>Lt fun s y =>Fe (O':=[.box [.bs false 1 (s.length) 0 (s.length)] false,.buf 3 (L Ai s) false,_,_,_]) [] (Ae (l:=[]) (m:=[(31,55,[.ref 0 0,i64 1,i64 a.N,i64 0],[.box [.bs false 1 (b.code.length) 0 (b.code.length)] false,.buf 3 (L Ai b.code) false,.box (xE a) false],_,_)]) trivial ⟨(wc (AA x) [0,1]),trivial⟩) (Ew1 y) ?_
  exact Bn <|Ro [0,1]
 refine T0 [0,3,7,32] ?_;refine Cd ?_ ?_
 ·refine Bd fun aI z =>Lt fun t aa =>Fe (O':=[.box [.bs false 1 (t.length) 0 (t.length)] false,.buf 3 (L Ai t) false,_,_,_]) [] (Ae (l:=[]) (m:=[(37,55,[.ref 0 0,i64 2,i64 a.N,i64 0],[.box [.bs false 1 (b.code.length) 0 (b.code.length)] false,.buf 3 (L Ai b.code) false,.box (xE a) false],_,_)]) trivial ⟨(wc (AA z) [0,1]),trivial⟩) (Ew1 aa) ?_
  exact Bn <|Ro [0,1]
 refine T0 [0,3,38] ?_;refine Cd ?_ ?_
 ·refine Ck fun ab =>Bd fun aJ ac =>Lt fun c ad =>Te (O':=[.box [.bs false 1 (c.length) 0 (c.length)] false,.buf 3 (L Ai c) false,_]) [0,3] (Ae (l:=[]) (m:=[(45,91,[.ref 0 0,.agg (i64 ((nth a.L 0).Op)::i64 ((nth a.L 0).N)::(C1 i64 ((nth a.L 0).Unit).l++[.sl false (L cApi_Expr ((nth a.L 0).L))]))],[.box [.bs false 1 (b.code.length) 0 (b.code.length)] false,.buf 3 (L Ai b.code) false,.box (xE a) false],_,_)]) trivial ⟨(wc (hrec ac) [0,1]),trivial⟩) (Ew2 (qL ab) ad) ?_
  refine Ck fun ae =>Bd fun aK af =>Lt fun d ag =>Te (O':=[.box [.bs false 1 (d.length) 0 (d.length)] false,.buf 3 (L Ai d) false,_]) [0,3] (Ae (l:=[]) (m:=[(51,91,[.ref 0 0,.agg (i64 ((nth a.L 1).Op)::i64 ((nth a.L 1).N)::(C1 i64 ((nth a.L 1).Unit).l++[.sl false (L cApi_Expr ((nth a.L 1).L))]))],[.box [.bs false 1 (c.length) 0 (c.length)] false,.buf 3 (L Ai c) false,.box (xE a) false],_,_)]) trivial ⟨(wc (hrec af) [0,1]),trivial⟩) (Ew2 (qL ae) ag) ?_
  refine Bd fun e ah =>Lt fun f ai =>Te (O':=[.box [.bs false 1 (f.length) 0 (f.length)] false,.buf 3 (L Ai f) false,_,_,_]) [0,3] (Ae (l:=[]) (m:=[(53,55,[.ref 0 0,i64 11,i64 0,i64 0],[.box [.bs false 1 (d.length) 0 (d.length)] false,.buf 3 (L Ai d) false,.box (xE a) false],_,_)]) trivial ⟨(wc (AA ah) [0,1]),trivial⟩) (Ew1 ai) ?_
  refine Bd fun q aj =>Lt fun g ak =>Te (O':=[.box [.bs false 1 (g.length) 0 (g.length)] false,.buf 3 (L Ai g) false,_,_,_,_,_]) [0,3,4] (Ae (l:=[]) (m:=[(55,55,[.ref 0 0,i64 13,i64 0,i64 0],[.box [.bs false 1 (f.length) 0 (f.length)] false,.buf 3 (L Ai f) false,.box (xE a) false,.box [.ref 0 0] false,.box [i64 e.1] false],_,_)]) trivial ⟨(wc (AA aj) [0,1]),trivial⟩) (Ew1 ak) ?_
  refine Ck fun al =>Bd fun aL am =>Lt fun i an =>Te (O':=[.box [.bs false 1 (i.length) 0 (i.length)] false,.buf 3 (L Ai i) false,_,_,_,_,_]) [0,3,4] (Ae (l:=[]) (m:=[(61,91,[.ref 0 0,.agg (i64 ((nth a.L 2).Op)::i64 ((nth a.L 2).N)::(C1 i64 ((nth a.L 2).Unit).l++[.sl false (L cApi_Expr ((nth a.L 2).L))]))],[.box [.bs false 1 (g.length) 0 (g.length)] false,.buf 3 (L Ai g) false,.box (xE a) false,.box [.ref 0 0] false,.box [i64 e.1] false,.box [.ref 0 0] false,.box [i64 q.1] false],_,_)]) trivial ⟨(wc (hrec am) [0,1]),trivial⟩) (Ew2 (qL al) an) ?_
  refine Bd fun u ao =>Lt fun j ap =>Te (O':=[.box [.bs false 1 (j.length) 0 (j.length)] false,.buf 3 (L Ai j) false,_,_,_,_,_,_,_]) [0,3,4,5] (Ae (l:=[]) (m:=[(63,55,[.ref 0 0,i64 14,i64 0,i64 0],[.box [.bs false 1 (i.length) 0 (i.length)] false,.buf 3 (L Ai i) false,.box (xE a) false,.box [.ref 0 0] false,.box [i64 e.1] false,.box [.ref 0 0] false,.box [i64 q.1] false],_,_)]) trivial ⟨(wc (AA ao) [0,1]),trivial⟩) (Ew1 ap) ?_
  refine Bd fun aM aq =>Lt fun k ar =>Te (O':=[.box [.bs false 1 (k.length) 0 (k.length)] false,.buf 3 (L Ai k) false,_,_,_,_,_,_,_]) [0,3,5] (Ae (l:=[]) (m:=[(65,92,[.ref 5 0,.ref 6 0],[.box [.bs false 1 (j.length) 0 (j.length)] false,.buf 3 (L Ai j) false,.box (xE a) false,.box [.ref 0 0] false,.box [i64 e.1] false,.box [.ref 0 0] false,.box [i64 q.1] false,.box [.ref 0 0] false,.box [i64 u.1] false],_,_)]) trivial ⟨(wc (F2 aq) [0,5,1,6]),trivial⟩) (Ew1 ar) ?_
  refine Ck fun au =>Bd fun aN av =>Lt fun n aw =>Te (O':=[.box [.bs false 1 (n.length) 0 (n.length)] false,.buf 3 (L Ai n) false,_,_,_,_,_,_,_]) [5] (Ae (l:=[]) (m:=[(71,91,[.ref 0 0,.agg (i64 ((nth a.L 3).Op)::i64 ((nth a.L 3).N)::(C1 i64 ((nth a.L 3).Unit).l++[.sl false (L cApi_Expr ((nth a.L 3).L))]))],[.box [.bs false 1 (k.length) 0 (k.length)] false,.buf 3 (L Ai k) false,.box (xE a) false,.box [.ref 0 0] false,.box [i64 e.1] false,.box [.ref 0 0] false,.box [i64 q.1] false,.box [.ref 0 0] false,.box [i64 u.1] false],_,_)]) trivial ⟨(wc (hrec av) [0,1]),trivial⟩) (Ew2 (qL au) aw) ?_
  refine Bd fun aO ax =>Lt fun v ay =>Fe (O':=[.box [.bs false 1 (v.length) 0 (v.length)] false,.buf 3 (L Ai v) false,_,_,_,_,_,_,_]) [] (Ae (l:=[]) (m:=[(73,92,[.ref 7 0,.ref 8 0],[.box [.bs false 1 (n.length) 0 (n.length)] false,.buf 3 (L Ai n) false,.box (xE a) false,.box [.ref 0 0] false,.box [i64 e.1] false,.box [.ref 0 0] false,.box [i64 q.1] false,.box [.ref 0 0] false,.box [i64 u.1] false],_,_)]) trivial ⟨(wc (F2 ax) [0,7,1,8]),trivial⟩) (Ew1 ay) ?_
  exact Bn <|Ro [0,1]
 refine Ck fun az =>Bd fun aP aA =>Lt fun o aB =>Te (O':=[.box [.bs false 1 (o.length) 0 (o.length)] false,.buf 3 (L Ai o) false,_]) [0,3] (Ae (l:=[]) (m:=[(13,91,[.ref 0 0,.agg (i64 ((nth a.L 0).Op)::i64 ((nth a.L 0).N)::(C1 i64 ((nth a.L 0).Unit).l++[.sl false (L cApi_Expr ((nth a.L 0).L))]))],[.box [.bs false 1 (b.code.length) 0 (b.code.length)] false,.buf 3 (L Ai b.code) false,.box (xE a) false],_,_)]) trivial ⟨(wc (hrec aA) [0,1]),trivial⟩) (Ew2 (qL az) aB) ?_
 refine Ck fun aC =>Bd fun aQ aD =>Lt fun p aE =>Te (O':=[.box [.bs false 1 (p.length) 0 (p.length)] false,.buf 3 (L Ai p) false,_]) [0,3] (Ae (l:=[]) (m:=[(19,91,[.ref 0 0,.agg (i64 ((nth a.L 1).Op)::i64 ((nth a.L 1).N)::(C1 i64 ((nth a.L 1).Unit).l++[.sl false (L cApi_Expr ((nth a.L 1).L))]))],[.box [.bs false 1 (o.length) 0 (o.length)] false,.buf 3 (L Ai o) false,.box (xE a) false],_,_)]) trivial ⟨(wc (hrec aD) [0,1]),trivial⟩) (Ew2 (qL aC) aE) ?_
 refine Bd fun aR aF =>Lt fun w aG =>Fe (O':=[.box [.bs false 1 (w.length) 0 (w.length)] false,.buf 3 (L Ai w) false,_,_,_]) [] (Ae (l:=[]) (m:=[(25,55,[.ref 0 0,i64 (w64 ((w64 (3+a.Op))-3)),i64 0,i64 0],[.box [.bs false 1 (p.length) 0 (p.length)] false,.buf 3 (L Ai p) false,.box (xE a) false],_,_)]) trivial ⟨(wc (AA aF) [0,1]),trivial⟩) (Ew1 aG) ?_
 exact Bn <|Ro [0,1]
theorem GO(n:Nat):∀{a:AqB} {b:Aqr} {r:AqB},C0 n a b=some r->Con (B rs) 91 [.ref 0 0,.agg (xE b)] [.box [.bs false 1 (a.code.length) 0 (a.code.length)] false,.buf 3 (L Ai a.code) false] (fun r' O'=>r'=.tup []/\O'=[.box [.bs false 1 (r.code.length) 0 (r.code.length)] false,.buf 3 (L Ai r.code) false]):=by
 induction n with
 |zero=>intro a b r h;cases h
 |succ n ih=>intro a b r h;exact GK ih h
theorem Hy{a:AqB}{b:Aqr}{r:AqB}(h:F8 a b=some r):Con (B rs) 91 [.ref 0 0,.agg (xE b)] [.box [.bs false 1 (a.code.length) 0 (a.code.length)] false,.buf 3 (L Ai a.code) false] (fun r' O'=>r'=.tup []/\O'=[.box [.bs false 1 (r.code.length) 0 (r.code.length)] false,.buf 3 (L Ai r.code) false]):=GO _ h
variable {rs:Aqm}
theorem AiA{c:AqB}{p:Int}{r:AqB}(h:Bc c p=some r):AkT (B rs) 92 [.ref 1 0,.rp [i64 p]] [.box [.bs false 2 (c.code.length) 0 (c.code.length)] false,.box [.ref 0 0] true,.buf 3 (L Ai c.code) false] (fun r' O'=>r'=.tup []/\O'=[.box [.bs false 2 (r.code.length) 0 (r.code.length)] false,.box [.ref 0 0] true,.buf 3 (L Ai r.code) false]):=by
 refine Cdf 3 14 [] Tryz.func92 (fun F hE=>?_) h;unfold Bc;refine Ck fun hc =>Lt fun l hz =>Ge (O':=[.box [.bs false 2 (l.length) 0 (l.length)] false,_,.buf 3 (L Ai l) false]) [[],[0],[0,1],[0,1,2],[],[],[5],[5,6],[5,6,7],[5,6,7,8],[0,1,2,3,4,5,6,7,8,9],[0,1,2,3,4,5,6,7,8,9,10],[0,1,2,3,4,5,6,7,8,9,10,11]] [] Aa (Ew2 (qR hc) hz) ?_
 exact Ro [0,1,2]
def dOf(p:Nat×Nat×Int):Deferred:={ target:=.fn (.func 92) #[.pointer (some ⟨p.1,0,none⟩),.pointer (some ⟨p.2.1,0,none⟩)],args:=#[] }
structure Dk(rs:Aqm)(F:Addr->Prop)(w0:World)(g0:Gh)(β0:Nat)(w:World)(g:Gh)(p:Nat×Nat×Int):Prop where
  fresh:∀β,β<w0.heap.size->¬EJ g0 β->β≠p.1
  a:∃t fz,w.heap[p.1]?=some (.cells #[.pointer (some ⟨β0,0,none⟩)] t fz)/\noFreeze fz 0 1
  am:¬EJ g p.1
  b:∃t fz,w.heap[p.2.1]?=some (.cells #[.int .i64 p.2.2] t fz)
  bm:¬EJ g p.2.1
  ne:p.2.1≠p.1
  fa:∀a,F a->a.block≠p.1/\a.block≠p.2.1
  ga:∀i cs,(B rs).G i=some cs->i≠p.1
  wa:∀i vs,(B rs).whole i=some vs->i≠p.1
section
variable {F:Addr->Prop}{w0 w w':World}{g0 g g':Gh}{β0:Nat}{p:Nat×Nat×Int}
theorem Dk.step(h:Dk rs F w0 g0 β0 w g p)(ha:w'.heap[p.1]?=w.heap[p.1]?/\¬EJ g' p.1)(hb:w'.heap[p.2.1]?=w.heap[p.2.1]?/\¬EJ g' p.2.1):Dk rs F w0 g0 β0 w' g' p:=by
 obtain⟨t,fz,h1,h2⟩:=h.a;obtain⟨t2,fz2,h3⟩:=h.b;exact⟨h.fresh,⟨t,fz,ha.1.trans h1,h2⟩,ha.2,⟨t2,fz2,hb.1.trans h3⟩,hb.2,h.ne,h.fa,h.ga,h.wa⟩
theorem Dk.lt(h:Dk rs F w0 g0 β0 w g p):p.1<w.heap.size/\p.2.1<w.heap.size:=by
 obtain⟨t,fz,h1,h2⟩:=h.a;obtain⟨t2,fz2,h3⟩:=h.b;exact⟨(AqS.1 h1).1,(AqS.1 h3).1⟩
theorem Dk.evo{E:Env}{n:Nat}(h:Dk rs F w0 g0 β0 w g p)(he:Evo E n w g w' g'):Dk rs F w0 g0 β0 w' g' p:=h.step (he.blocks _ h.lt.1 h.am) (he.blocks _ h.lt.2 h.bm)
end
abbrev AhG(L:List (Nat×Nat×Int)):Prop:=L.Pairwise fun p q=>q.1≠p.1/\q.2.1≠p.1
def At0(β0:Nat)(g:Gh):Prop:=∃b,g[0]?=some b/\b.blk=some β0/\b.isBox=true
theorem At0.evo{E:Env}{n:Nat}{w w':World}{g g':Gh}{β0:Nat}(h:At0 β0 g)(he:Evo E (n+1) w g w' g'):At0 β0 g':=by
 obtain⟨b,h1,h2,h3⟩:=h;obtain⟨b',k1,k2⟩:=he.ids 0 (Nat.succ_pos n) b h1;rcases k2 with k2|⟨k2,_⟩
 ·exact⟨b',k1,k2.1.trans h2,k2.2.2.2.2.2.trans h3⟩
 rw[h3]at k2;cases k2
abbrev clS(c:AqB):Ac:=[.box [.bs false 1 (c.code.length) 0 (c.code.length)] false,.buf 3 (L Ai c.code) false]
theorem AcW{sel:List Nat}{g:Gh}(hs:∀i∈sel,i<g.length){id i:Nat}(h:sel[id]?=some i):(CP sel g)[id]?=g[i]?:=by
 have hi:i<g.length:=hs i (AqO h);rw[AqH hi];exact(A8 hs).2 ⟨i,h,AqH hi⟩
theorem Oc{fn:Func}{tmps:Array Value}{F:Addr->Prop}{w0:World}{g0:Gh}{β0:Nat}(hres:∀w,(results fn tmps).run (B rs).P w=.ok (.tuple #[]) w){c':AqB}:∀(ls:List (Nat×Nat×Int)) (c:AqB) (w:World) (g:Gh),C4 (ls.map (·.2.2)) c=some c'->Mem ((B rs).env F) w g (clS c)->At0 β0 g->Evo ((B rs).env F) 2 w0 g0 w g->(∀p∈ls,Dk rs F w0 g0 β0 w g p)->AhG ls ->Leaves (B rs).P fn tmps (fun e w'=>∃v r O' g',e=.returned v/\(r=.tup []/\O'=clS c')/\Mem ((B rs).env F) w' g' O'/\Evo ((B rs).env F) 2 w0 g0 w' g'/\Rep w' (Ay ((B rs).env F) g') g' v r) (ls.map dOf) .returning w
 |[],c,w,g,h,hm,h0,he,_,_=>by
  cases h;exact⟨.tuple #[],hres w,_,_,_,g,rfl,⟨rfl,rfl⟩,hm,he,.tup _ #[] [] rfl (fun i x h=>by simp at h)⟩
 | p :: ls,c,w,g,h,hm,h0,he,hD,hA=>by
  rw[Arc]at h;unfold C4 at h;rw[AqK]at h;obtain⟨c1,e1,e2⟩:=h;obtain⟨hp1,hp2⟩:=List.pairwise_cons.1 hA;have hd:=hD p Aq4;obtain⟨t,fz,ha1,ha2⟩:=hd.a;obtain⟨tb,fzb,hb1⟩:=hd.b;obtain⟨b0,q1,q2,q3⟩:=h0
  obtain⟨hadd,hprA⟩:=Ahm hm ha1 rfl hd.am (fun a hF=>(hd.fa a hF).1) hd.ga hd.wa ha2 rfl (x:=.ref 0 0) (fun pr g' hle=>by
   obtain⟨b',k1,k2⟩:=hle 0 b0 q1;rcases k2 with k2|⟨k2,_⟩
   ·exact .ref _ 0 0 β0 b' k1 (k2.2.2.2.2.2.trans q3) (k2.1.trans q2)
   rw[q3]at k2;cases k2)
  have hgl:g.length=2:=hm.len;obtain⟨s1,s2,s3,s4⟩:=J8 (n:=0) (O':=[.box [.bs false 2 (c.code.length) 0 (c.code.length)] false,.box [.ref 0 0] true,.buf 3 (L Ai c.code) false]) hadd [0,2,1] (by decide) rfl gs
  have hminA:∀β,EJ (CP [0,2,1] (g++[⟨some p.1,0,1,1,0,true,true⟩])) β->EJ g β\/β=p.1:=by
   intro β hh;obtain⟨id,b,k1,k2⟩:=DC s1 hh;rcases Ary id g.length with hl|hl
   ·rw[AqN hl]at k1;exact .inl ⟨id,b,k1,k2⟩
   rw[AqL hl]at k1
   have:id-g.length=0:=by
    have:=(AqD.1 k1).1;simp at this;exact this
   rw[this]at k1;cases k1;exact .inr (AqF k2).symm
  refine leaves_cons (f:=92) (args:=#[]++#[.pointer (some ⟨p.1,0,none⟩),.pointer (some ⟨p.2.1,0,none⟩)]) (by simp) ?_ ?_
  ·exact JQ Tryz.func92 rfl (by decide +kernel) _ _
  refine(AiA e1 F w _ _ .returning s2 ?_).mono ?_
  ·refine⟨?_,?_,trivial⟩
   ·refine .ref _ 1 0 p.1 ⟨some p.1,0,1,1,0,true,true⟩ ?_ rfl rfl;rw[AcW s1 (i:=2) rfl,AqL (by omega),hgl];rfl
   have hcell:w.cell? ⟨p.2.1,0,none⟩=some (.int .i64 p.2.2):=by
    unfold World.cell?;simp only[hb1];rfl
   refine .rp _ ⟨p.2.1,0,none⟩ [i64 p.2.2] (fun _=>.int .i64 p.2.2) (fun j x hj=>?_) (fun j x hj=>?_)
   ·match j,hj with
    |0,hj=>
     rw[Go.Rv.add_zero];refine⟨hcell,B8 (fun hF=>(hd.fa _ hF).2 rfl) (fun hh=>?_),rfl⟩;rcases hminA _ hh with k|k
     ·exact hd.bm k
     exact hd.ne k
   match j,hj with
   |0,hj=>cases hj;exact .int _ _ _
  rintro e u' w' ⟨rfl,v,r,O',g',rfl,⟨rfl,rfl⟩,hm',he',hrep⟩;obtain⟨m1,m2,m3,m4⟩:=J8 (n:=0) (O':=clS c1) hm' [0,2] (by decide) rfl gs
  have hblk:∀β,β<w.heap.size->¬EJ g β->β≠p.1->w'.heap[β]?=w.heap[β]?/\¬EJ (CP [0,2] g') β:=by
   intro β hβ hn hne
   obtain⟨r1,r2⟩:=he'.blocks β hβ (fun hh=>by
    rcases hminA _ hh with k|k
    ·exact hn k
    exact hne k)
   exact⟨r1,fun hh=>r2 (DC m1 hh)⟩
  have hids:∀id,id<2->∀b,g[id]?=some b->∃b',(CP [0,2] g')[id]?=some b'/\b.step b':=by
   intro id hid b hb
   match id,hid with
   |0,_=>
    obtain⟨b',k1,k2⟩:=he'.ids 0 (by simp) b (by rw[AcW s1 (i:=0) rfl,AqN (by omega)];exact hb);exact⟨b',by rw[AcW m1 (i:=0) rfl];exact k1,k2⟩
   |1,_=>
    obtain⟨b',k1,k2⟩:=he'.ids 2 (by simp) b (by rw[AcW s1 (i:=1) rfl,AqN (by omega)];exact hb);exact⟨b',by rw[AcW m1 (i:=2) rfl];exact k1,k2⟩
  have hevo:Evo ((B rs).env F) 2 w0 g0 w' (CP [0,2] g'):=by
   refine⟨he'.os.trans he.os,he'.tape.trans he.tape,he'.output.trans he.output,ArZ he.size he'.size,fun a u hc hp=>?_,fun β hβ hn=>?_,fun id hid b hb=>?_⟩
   ·obtain⟨c1',p1⟩:=he.cells a u hc hp;obtain⟨c2,p2⟩:=he'.cells a u c1' (s4 a (hprA a u c1' p1));exact⟨c2,m4 a p2⟩
   ·obtain⟨r1,r2⟩:=he.blocks β hβ hn;obtain⟨r3,r4⟩:=hblk β (Ase hβ he.size) r2 (hd.fresh β hβ hn);exact⟨r3.trans r1,r4⟩
   obtain⟨b1,k1,k2⟩:=he.ids id hid b hb;obtain⟨b2,k3,k4⟩:=hids id hid b1 k1;exact⟨b2,k3,k2.trans k4⟩
  have h0':At0 β0 (CP [0,2] g'):=by
   obtain⟨b',k1,k2⟩:=hids 0 (by omega) b0 q1;rcases k2 with k2|⟨k2,_⟩
   ·exact⟨b',k1,k2.1.trans q2,k2.2.2.2.2.2.trans q3⟩
   rw[q3]at k2;cases k2
  exact Oc hres ls c1 w' _ e2 m2 h0' hevo (fun q hq=>by
   have hq':=hD q (Arn _ hq);obtain⟨n1,n2⟩:=hp1 q hq;exact hq'.step (hblk _ hq'.lt.1 hq'.am n1) (hblk _ hq'.lt.2 hq'.bm n2)) hp2
noncomputable abbrev clX(x:Aqs):ABlk:=.box (Ab x) false
noncomputable abbrev clR(x:Aqs)(index:Int)(k:Nat)(c:AqB):Rv.St:=⟨Ah 35 [(0,.ref 0 0),(2,i64 index),(4,.ref 2 0),(9,.sl false (L Ag x.When)),(10,i64 (x.When.length:Int)),(11,i64 (k:Int))],[.box [.bs false 1 (c.code.length) 0 (c.code.length)] false,.buf 3 (L Ai c.code) false,clX x]⟩
section
variable {F:Addr->Prop}{w0:World}{g0:Gh}{β0:Nat}{x:Aqs}{index:Int}
theorem M4{b:Code}{Q:Exit->Act->World->Prop}{s:AqB×List Int} (hround:∀(k:Nat) (c:AqB) (ds:List Deferred) (a:Act) (w:World) (g:Gh) (y1 y2 y3:Int×AqB) (Q':Exit->Act->World->Prop),k<x.When.length->Ar c 2 (nth x.When k).Attr 0=some y1->Ar y1.2 12 (nth x.When k).Low (nth x.When k).High=some y2->Ar y2.2 13 0 0=some y3 ->Rel ((B rs).env { F:=F,D:=ds }) w g (clR x index k c) a->At0 β0 g->Evo ((B rs).env F) 2 w0 g0 w g ->(∀a' w' g' p,Rel ((B rs).env { F:=F,D:=dOf p::ds }) w' g' (clR x index (k+1) y3.2) a'->Evo ((B rs).env F) 2 w g w' g'->Dk rs F w0 g0 β0 w' g' p->p.2.2=y3.1->(∀β,β<w.heap.size->¬EJ g β->β≠p.1)->Q' .normal a' w')->b.wp (B rs).P Q' a w) (hexit:∀(c:AqB) (ds:List Deferred) (a:Act) (w:World) (g:Gh) (Q':Exit->Act->World->Prop),Rel ((B rs).env { F:=F,D:=ds }) w g (clR x index x.When.length c) a ->(∀a' w' g',Rel ((B rs).env { F:=F,D:=ds }) w' g' (clR x index x.When.length c) a'->Evo ((B rs).env F) 2 w g w' g'->Q' (.exit 0) a' w')->b.wp (B rs).P Q' a w) (hQ:∀a' w' g' L',Rel ((B rs).env { F:=F,D:=L'.map dOf }) w' g' (clR x index x.When.length s.1) a'->Evo ((B rs).env F) 2 w0 g0 w' g'->At0 β0 g'->(∀p∈L',Dk rs F w0 g0 β0 w' g' p)->AhG L'->L'.map (·.2.2)=s.2->Q (.exit 0) a' w') :∀(l:List Aqp) (k:Nat) (c:AqB) (ls:List (Nat×Nat×Int)) (a:Act) (w:World) (g:Gh),x.When.drop k=l->k+l.length=x.When.length->BZ l c (ls.map (·.2.2))=some s ->Rel ((B rs).env { F:=F,D:=ls.map dOf }) w g (clR x index k c) a->At0 β0 g->Evo ((B rs).env F) 2 w0 g0 w g->(∀p∈ls,Dk rs F w0 g0 β0 w g p)->AhG ls->Code.rounds (B rs).P b Q (l.length+1) a w
 |[],k,c,ls,a,w,g,_,hk,hc,hr,h0,he,hD,hA=>by
  cases hc;have hk':k=x.When.length:=by simpa using hk
  subst hk';rw[rounds_succ];refine hexit c _ a w g _ hr fun a' w' g' hr' he'=>?_
  exact hQ a' w' g' ls hr' (he.trans he') (h0.evo (n:=1) he') (fun p hp=>(hD p hp).evo he') hA rfl
 | t::l,k,c,ls,a,w,g,hd,hk,hc,hr,h0,he,hD,hA=>by
  have hkl:k<x.When.length:=by simp only[AqP]at hk;omega
  have ht:nth x.When k=t:=by
   have e:(x.When.drop k)[0]?=some t:=by rw[hd];rfl
   rw[Are,Asb]at e;unfold nth;rw[AqY,e];rfl
  unfold BZ at hc;rw[AqK]at hc;obtain⟨y1,e1,hc⟩:=hc;rw[AqK]at hc;obtain⟨y2,e2,hc⟩:=hc;rw[AqK]at hc;obtain⟨y3,e3,hc⟩:=hc;rw[rounds_succ];rw[<-ht]at e1 e2;refine hround k c _ a w g y1 y2 y3 _ hkl e1 e2 e3 hr h0 he fun a' w' g' p hr' he' hp hat hnew=>?_
  have hat':y3.1::ls.map (·.2.2)=(p::ls).map (·.2.2):=by rw[Arc,hat]
  rw[hat']at hc;refine M4 hround hexit hQ l (k+1) y3.2 (p::ls) a' w' g' ?_ (by simp only[AqP]at hk;omega) hc hr' (h0.evo (n:=1) he') (he.trans he') ?_ ?_
  ·rw[<-AtQ,hd];rfl
  ·intro q hq;rcases Aq9.1 hq with rfl|hq
   ·exact hp
   exact(hD q hq).evo he'
  refine List.pairwise_cons.2 ⟨fun q hq=>?_,hA⟩;have hq':=hD q hq;exact⟨hnew _ hq'.lt.1 hq'.am,hnew _ hq'.lt.2 hq'.bm⟩
end
set_option linter.unusedVariables false in
theorem ID{c x index r}(h:CM c x index=some r):Con (B rs) 54 [.ref 0 0,.agg (Ab x),i64 index] (clS c) (fun r' O'=>r'=.tup []/\O'=clS r):=by
 unfold CM at h;split at h
 case isFalse=>cases h
 rename_i hx;rw[AqK]at h;obtain⟨s,hs,h⟩:=h;rw[AqK]at h;obtain⟨c1,hc1,h⟩:=h;rw[AqK]at h;obtain⟨y,hy,h⟩:=h;refine⟨fun F w g vs hm ha=>.inl ⟨⟨Tryz.f54,_,Tryz.func54,rfl,by decide +kernel⟩,?_⟩⟩;have hE:=(ok (rs:=rs)).env F;refine calls_of_wp_defers Tryz.func54 rfl ?_;have hr0:=Jq (fn:=Tryz.f54) hm ha;rw[Fl Tryz.f54.ntmps _ (AqV rfl) (LG 0 _) (fun t _=>FF _ 0 t (Aq5 _))]at hr0;have hr0':Rel ((B rs).env F) w g ⟨Ah 35 [(0,.ref 0 0),(1,.agg (Ab x)),(2,i64 index)],clS c⟩ _:=hr0;have hgl:g.length=2:=hm.len;have hg0:g[0]?=some g[0]:=AqH (by omega);obtain⟨k1,_,_,_,_,β0,_,_,_,k6,_⟩:=hm.blk 0 _ _ hg0 rfl;have h0:At0 β0 g:=⟨_,hg0,k6,k1⟩;refine Uy (n:=2) (to0 [0,2,4]) rfl hr0' ?_;intro a1 w1 g1 hr1 he1;refine wp_seq ?_;refine Uy (n:=2) (to0 [0,2,4,9,10,11]) rfl hr1 ?_;intro a2 w2 g2 hr2 he2;refine wp_block ?_;refine wp_loop_rounds (x.When.length+1) ?_;have h02:At0 β0 g2:=(h0.evo (n:=1) he1).evo (n:=1) he2;refine M4 (F:=F) (w0:=w) (g0:=g) (β0:=β0) (x:=x) (index:=index) (s:=s) ?_ ?_ ?_ x.When 0 c [] a2 w2 g2 rfl (by simp) hs hr2 h02 (he1.trans he2) (by simp) .nil
 ·intro k c ds a w3 g3 y1 y2 y3 Q' hk e1 e2 e3 hr3 h03 he3 hn;have hE':=(ok (rs:=rs)).env { F:=F,D:=ds };refine Uy (n:=2) (to0 [0,2,4,9,10,11,12]) rfl hr3 ?_;intro a4 w4 g4 hr4 he4;refine wp_seq (wp_cond_true ?_ (wp_skip ?_))
  ·have h1:=DQ hr4 (.tmp 12);rw[show ev _ (.tmp 12)=AV.bool (decide ((k:Int)<(x.When.length:Int)))from rfl,AtR (by omega)]at h1;exact Fb h1
  refine wp_seq (wp_block ?_);have hc:InR (k:Int) x.When.length:=⟨by omega,by simpa using hk⟩;refine Uy (n:=2) (toe [0,2,4,7,9,10,11] Aa (Ev (by simp only[go_sem,qR hc,AqR];exact Ce))) rfl hr4 ?_;intro a5 w5 g5 hr5 he5;refine Uy (n:=2) (toe (O':=[.box [.bs false 1 (y1.2.code.length) 0 (y1.2.code.length)] false,.buf 3 (L Ai y1.2.code) false,_,_,_,_]) [0,2,4,7,9,10,11] (Ae (l:=[]) (m:=[(18,55,[.ref 0 0,i64 2,i64 (nth x.When k).Attr,i64 0],[.box [.bs false 1 (c.code.length) 0 (c.code.length)] false,.buf 3 (L Ai c.code) false,clX x,.box [i64 (nth x.When k).Attr,i64 (nth x.When k).Low,i64 (nth x.When k).High] false],_,_)]) trivial ⟨(wc (AA e1) [0,1]),trivial⟩) (Ev (by simp only[go_sem];exact Ce))) rfl hr5 ?_;intro a6 w6 g6 hr6 he6;refine Uy (n:=2) (st':=clR x index k y2.2) (tow (O':=[.box [.bs false 1 (y2.2.code.length) 0 (y2.2.code.length)] false,.buf 3 (L Ai y2.2.code) false,_,_,_,_,_,_]) [0,2,4,9,10,11] (Ae (l:=[]) (m:=[(24,55,[.ref 0 0,i64 12,i64 (nth x.When k).Low,i64 (nth x.When k).High],[.box [.bs false 1 (y1.2.code.length) 0 (y1.2.code.length)] false,.buf 3 (L Ai y1.2.code) false,clX x,.box [i64 (nth x.When k).Attr,i64 (nth x.When k).Low,i64 (nth x.When k).High] false,.box [.ref 0 0] false,.box [i64 y1.1] false],_,_)]) trivial ⟨(wc (AA e2) [0,1]),trivial⟩) (Ev (by simp only[go_sem];exact Ce)) (ws [0,1,2])) rfl hr6 ?_;intro a7 w7 g7 hr7 he7;refine wp_region_lit ?_;simp only[wpList,Region.wanted,Aro];left;refine Fv hE' (Aa none) (r:=(.ref 0 0,[.box [.bs false 1 (y2.2.code.length) 0 (y2.2.code.length)] false,.buf 3 (L Ai y2.2.code) false,clX x])) rfl hr7 ?_;intro a8 w8 g8 hr8 he8 hle8;left;refine Fv hE' ((Ae (l:=[]) (m:=[(26,55,[.ref 0 0,i64 13,i64 0,i64 0],[.box [.bs false 1 (y2.2.code.length) 0 (y2.2.code.length)] false,.buf 3 (L Ai y2.2.code) false,clX x],_,_)]) trivial ⟨(wc (AA e3) [0,1]),trivial⟩) (some 26)) (r:=(.fn 92 [.ref 3 0,.ref 4 0],[.box [.bs false 1 (y3.2.code.length) 0 (y3.2.code.length)] false,.buf 3 (L Ai y3.2.code) false,clX x,.box [.ref 0 0] false,.box [i64 y3.1] false])) gs hr8 ?_;intro a9 w9 g9 hr9 he9 hle9;left;have heT:Evo ((B rs).env F) 2 w3 g3 w9 g9:=(Mn he4).trans ((Mn he5).trans ((Mn he6).trans ((Mn he7).trans ((Mn (he8.of_gle hle8)).trans (Mn (he9.of_gle hle9))))));have hdef:a9.defers=ds:=hr9.defers.eq rfl;have hfv:=DQ hr9 (.tmp 26);rw[show ev _ (.tmp 26)=AV.fn 92 [.ref 3 0,.ref 4 0]from rfl]at hfv;obtain⟨⟨capl⟩,hcv,hcr⟩:=Ei hfv
  match capl,hcr,hcv with
  |[u1,u2],⟨hu1,hu2,_⟩,hcv=>
  obtain⟨α,bα,q1,q2,q3,rfl⟩:=N7 hu1;obtain⟨β,bβ,r1,r2,r3,rfl⟩:=N7 hu2;have h09:At0 β0 g9:=h03.evo (n:=1) heT;obtain⟨b0,z1,z2,z3⟩:=h09;obtain⟨_,_,_,_,_,α',arr,tα,fz,e1',e2',e3',e4',e5'⟩:=hr9.mem.blk 3 bα _ q1 rfl;obtain rfl:α'=α:=AqF (e1'.symm.trans q3);obtain⟨_,_,_,_,_,β',arrb,tβ,fzb,f1',f2',f3',f4',f5'⟩:=hr9.mem.blk 4 bβ _ r1 rfl;obtain rfl:β'=β:=AqF (f1'.symm.trans r3)
  have harr:arr=#[.pointer (some ⟨β0,0,none⟩)]:=by
   obtain⟨βx,bx,x1,x2,x3,x4⟩:=N7 (e5' 0 (.ref 0 0) rfl).1;rw[z1]at x1;obtain rfl:=AqF x1;obtain rfl:β0=βx:=AqF (z2.symm.trans x3);obtain⟨al⟩:=arr
   match al,e3',x4 with
   |[v],_,x4=>exact Arz (fun v=>#[v]) x4
  have harrb:arrb=#[.int .i64 y3.1]:=by
   have x4:=DK (f5' 0 (i64 y3.1) rfl).1;obtain⟨al⟩:=arrb
   match al,f3',x4 with
   |[v],_,x4=>exact Arz (fun v=>#[v]) x4
  subst harr harrb;have hmα:EJ g9 α':=⟨3,bα,q1,q3⟩;have hmβ:EJ g9 β':=⟨4,bβ,r1,r3⟩
  have hdop:∀o3:Oper,o3.op=.defer ⟨.value (.tmp 26),#[],#[]⟩->(execOp a9.eval o3).run ((B rs).env { F:=F,D:=ds }).P w9=.ok (.defer (dOf (α',β',y3.1))) w9:=by
   intro o3 ho3;have hev:a9.eval (.tmp 26)=.func (.func 92) #[] #[.pointer (some ⟨α',0,none⟩),.pointer (some ⟨β',0,none⟩)]:=hcv;simp only[execOp,ho3,resolve,hev,Deferred.ofValue,Sem.run_bind,Sem.run_pure,Result.andThen_ok];simp[dOf]
  unfold Oper.wp;rw[hdop,Oper.upon_defer]
  rotate_left
  ·rfl
  obtain⟨hrs,hes,hsl⟩:=Ag6 (n:=2) (l':=[(0,.ref 0 0),(2,i64 index),(4,.ref 2 0),(9,.sl false (L Ag x.When)),(10,i64 (x.When.length:Int)),(11,i64 (k:Int))]) (O':=[.box [.bs false 1 (y3.2.code.length) 0 (y3.2.code.length)] false,.buf 3 (L Ai y3.2.code) false,clX x]) [0,1,2] (by decide) rfl gs gs hr9;have hr10:Rel ((B rs).env { F:=F,D:=dOf (α',β',y3.1)::ds }) w9 (CP [0,1,2] g9) (clR x index k y3.2) { a9 with defers:=dOf (α',β',y3.1)::a9.defers }:=⟨hrs.size,hrs.slot,VZ hrs.mem,.plain (by rw[hdef];rfl)⟩;have hE'':=(ok (rs:=rs)).env { F:=F,D:=dOf (α',β',y3.1)::ds };have hw:w64 ((k:Int)+1)=((k+1:Nat):Int):=by rw[FB (by omega)];rfl
  show Code.wp _ _ _ _ _;refine Agl (E:=(B rs).env { F:=F,D:=dOf (α',β',y3.1)::ds }) (n:=2) (st':=clR x index (k+1) y3.2) (toe [0,2,4,9,10,11] Aa (Ew1 hw)) rfl hr10 ?_;intro a11 w11 g11 hr11 he11
  have hnm:∀δ,EJ (CP [0,1,2] g9) δ->(δ=α'->False)/\(δ=β'->False):=by
   rintro δ ⟨id,b,hb,hδ⟩;obtain⟨i,hi,hgi⟩:=(A8 hsl).1 hb
   have hi3:i<3:=by
    have:=AqO hi;simp at this;omega
   refine⟨fun e=>?_,fun e=>?_⟩
   ·subst e;have:=hr9.mem.inj i 3 b bα δ hgi q1 hδ q3;omega
   subst e;have:=hr9.mem.inj i 4 b bβ δ hgi r1 hδ r3;omega
  have hdk:Dk rs F w g β0 w9 (CP [0,1,2] g9) (α',β',y3.1):=by
   refine⟨fun δ hδ hn' e=>?_,⟨_,fz,e2',e4'⟩,fun hh=>(hnm _ hh).1 rfl,⟨_,fzb,f2'⟩,fun hh=>(hnm _ hh).2 rfl,fun e=>?_,fun a' hF=>⟨fun e=>?_,fun e=>?_⟩,fun i cs hG e=>?_,fun i vs hG e=>?_⟩
   ·have:=((he3.trans heT).blocks δ hδ hn').2;exact this (by rw[e];exact hmα)
   ·have e':β'=α':=e;subst e';have:=hr9.mem.inj 3 4 bα bβ β' q1 r1 q3 r3;omega
   ·exact(hr9.mem.foreign a' hF).2 (by rw[e];exact hmα)
   ·exact(hr9.mem.foreign a' hF).2 (by rw[e];exact hmβ)
   ·exact(hr9.mem.glob i cs hG).2.1 (by rw[e];exact hmα)
   exact(hr9.mem.whole i vs hG).1 (by rw[e];exact hmα)
  refine hn a11 w11 g11 (α',β',y3.1) hr11 (heT.trans ((Mn hes).trans (Mn he11))) (hdk.evo he11) rfl fun δ hδ hn' e=>?_
  have:=(heT.blocks δ hδ hn').2;exact this (by rw[e];exact hmα)
 ·intro c ds a w3 g3 Q' hr3 hn;have hE':=(ok (rs:=rs)).env { F:=F,D:=ds };refine Uy (n:=2) (to0 [0,2,4,9,10,11,12]) rfl hr3 ?_;intro a4 w4 g4 hr4 he4;refine wp_seq (wp_cond_false ?_ (wp_exit ?_))
  ·have h1:=DQ hr4 (.tmp 12);rw[show ev _ (.tmp 12)=AV.bool (decide ((x.When.length:Int)<(x.When.length:Int)))from rfl,decide_eq_false (by omega)]at h1;exact Fb h1
  obtain⟨g5,hr5,he5⟩:=(ws [0,1,2]:Weak ((B rs).env { F:=F,D:=ds }) 2 _ (clR x index x.When.length c)) a4 w4 g4 hr4;exact hn a4 w4 g5 hr5 ((Mn he4).trans (Mn he5))
 intro a3 w3 g3 ls hr3 he3 h03 hD hA hL;have hE':=(ok (rs:=rs)).env { F:=F,D:=ls.map dOf };simp only[Exit.inBlock,Aro];show Code.wp _ _ _ _ _;refine Uy (E:=(B rs).env { F:=F,D:=ls.map dOf }) (n:=2) (toe (O':=[.box [.bs false 1 (c1.code.length) 0 (c1.code.length)] false,.buf 3 (L Ai c1.code) false,_]) [0,2] (Ae (l:=[]) (m:=[(31,91,[.ref 0 0,.agg (xE x.Pay)],[.box [.bs false 1 (s.1.code.length) 0 (s.1.code.length)] false,.buf 3 (L Ai s.1.code) false,clX x],_,_)]) trivial ⟨(wc (Hy hc1) [0,1]),trivial⟩) (Ev (by simp only[go_sem];exact Ce))) rfl hr3 ?_;intro a4 w4 g4 hr4 he4;refine Agl (E:=(B rs).env { F:=F,D:=ls.map dOf }) (n:=2) (st':=⟨Ah 35 [],clS y.2⟩) (tow (O':=[.box [.bs false 1 (y.2.code.length) 0 (y.2.code.length)] false,.buf 3 (L Ai y.2.code) false,_,_,_]) [] (Ae (l:=[]) (m:=[(34,55,[.ref 0 0,i64 15,i64 index,i64 0],[.box [.bs false 1 (c1.code.length) 0 (c1.code.length)] false,.buf 3 (L Ai c1.code) false,clX x],_,_)]) trivial ⟨(wc (AA hy) [0,1]),trivial⟩) (Ev (by simp only[go_sem];exact Ce)) (ws [0,1])) rfl hr4 ?_;intro a5 w5 g5 hr5 he5;have hdef:a5.defers=ls.map dOf:=hr5.defers.eq rfl;show Leaves _ _ _ _ a5.defers .returning w5;rw[hdef];have heT:Evo ((B rs).env F) 2 w3 g3 w5 g5:=(Mn he4).trans (Mn he5)
 have hres:∀w,(results Tryz.f54 a5.tmps).run (B rs).P w=.ok (.tuple #[]) w:=by
  intro w;have e:results Tryz.f54 a5.tmps=(do let vs <-(#[]:Array ResultVar).mapM (Jc a5.tmps);pure (if h:vs.size=1 then vs[0]else .tuple vs)):=rfl;rw[e];simp[Sem.run_bind,Sem.run_pure,Result.andThen_ok]
 exact Oc hres ls y.2 w5 g5 (by rw[hL];exact h) (VZ (D':=[]) hr5.mem) (h03.evo (n:=1) heT) (he3.trans heT) (fun p hp=>(hD p hp).evo heT) hA
variable {rs:Aqm}
theorem IZ{c r}(h:Ek c=some r):Con (B rs) 23 [.agg (Aj c)] [] (fun r' O'=>r'=.tup [.sl false (L Ai r.1),i64 r.2]/\O'=[]):=by
 refine Cw 35 [.tmp 2,.tmp 3] Tryz.func23 (fun F hE=>?_) h;unfold Ek;refine T0 [1] ?_;refine Sq <|Bd fun ah p =>Te [1,3] (o1 8 (H2 p)) Ev ?_
 refine T0 [1,3,10] ?_;refine Cd ?_ ?_
 ·refine T0 [2,3] ?_;exact Sr <|Tr <|Rr
 refine Sk <|Tn <|T0 [1,4] ?_
 refine Ja (fun a=>⟨Ah 35 [(4,.ref 0 0)],[.box [.bs false 1 (a.length) 0 (a.length)] false,.buf 3 (L Ai a) false]⟩) ?_ ?_
 ·intro ai;refine T0 [4,13,14,15] ?_;refine Sb ?_;refine Lo (fun(v:Int×List Aqz)=>(⟨Ah 35 [(4,.ref 0 0),(13,.sl false (L Ab c.Clauses)),(14,i64 (c.Clauses.length:Int)),(15,i64 v.1)],[.box [.bs false 1 (v.2.length) 0 (v.2.length)] false,.buf 3 (L Ai v.2) false]⟩:St)) ((Ir 1 0 3 rfl rfl).trans (ws [1,2])) ?_;rintro⟨o,b⟩ aj q s t;show FL c o b=some q->_;unfold FL;refine T0 [4,13,14,15,16] ?_;refine Sq <|Cd ?_ ?_
  ·refine Sk <|Tn <|Sq <|Sb <|Ck fun u =>Lt fun d w =>Lt fun e x =>Lt fun f y =>Lt fun g z =>Lt fun i aa =>Lt fun j ab =>Te (O':=[_,_,.box (.str d::.sl false (L Ag e)::i64 f::i64 g::(C1 i64 i.l++[.sl false (L cApi_Expr j)])) false]) [4,5,6,13,14,15] Aa (Ev (by simp only[go_sem,qR u,w,x,y,z,aa,ab];exact Ce)) ?_
   refine Bd fun ak ac =>Lt fun k ad =>Fe (O':=[.box [.bs false 1 (k.length) 0 (k.length)] false,.buf 3 (L Ai k) false,_]) [4,13,14,15] (Ae (l:=[]) (m:=[(22,54,[.ref 0 0,.agg (.str d::.sl false (L Ag e)::i64 f::i64 g::(C1 i64 i.l++[.sl false (L cApi_Expr j)])),i64 o],[.box [.bs false 1 (b.length) 0 (b.length)] false,.buf 3 (L Ai b) false,.box (.str d::.sl false (L Ag e)::i64 f::i64 g::(C1 i64 i.l++[.sl false (L cApi_Expr j)])) false],_,_)]) trivial ⟨(wc (ID ac) [0,1]),trivial⟩) (Ew1 ad) ?_
   refine Bn <|Tn <|F0 [4,13,14,15] ?_
   exact Ln (ws [0,1])
  refine Sx <|Tx <|Ly t s <|Bx <|?_
  exact Jm ((ws (l':=[(4,.ref 0 0)]) (O':=[.box [.bs false 1 (b.length) 0 (b.length)] false,.buf 3 (L Ai b) false]) [0,1]).trans (ws [0,1]))
 intro a;refine Bd fun al ae =>Lt fun n af =>Te (O':=[.box [.bs false 1 (n.length) 0 (n.length)] false,.buf 3 (L Ai n) false,_,_]) [4] (Ae (l:=[]) (m:=[(24,55,[.ref 0 0,i64 16,i64 0,i64 0],[.box [.bs false 1 (a.length) 0 (a.length)] false,.buf 3 (L Ai a) false],_,_)]) trivial ⟨(wc (AA ae) [0,1]),trivial⟩) (Ew1 af) ?_
 refine Sq <|Bd fun am ag =>Te [3,4] (o1 28 (O3 ag)) Ev ?_
 refine T0 [4,32] ?_;refine Cd ?_ ?_
 ·refine T0 [2,3] ?_;exact Sr <|Tr <|Rr
 refine Sk <|Tn <|T0 [2,3] ?_
 exact Sr <|Rr
theorem Lq{a r}(h:FM a=some r):Con (B rs) 38 [.rp (Aj a)] [] (fun r' O'=>r'=i64 r/\O'=[]):=by
 refine Co 0 10 [.tmp 1] Tryz.func38 (fun F hE=>?_) h;unfold FM;refine T0 [0] ?_;refine Bd fun c b =>Te [3] (o1 6 (JY b)) Ev ?_
 refine T0 [1] ?_;exact Sr <|Ro []
theorem L8{a r}(h:FO a=some r):Con (B rs) 39 [.rp (Aj a)] [] (fun r' O'=>r'=i64 r/\O'=[]):=by
 refine Co 0 10 [.tmp 1] Tryz.func39 (fun F hE=>?_) h;unfold FO;refine T0 [0] ?_;refine Bd fun c b =>Te [3] (o1 6 (Q1 b)) Ev ?_
 refine T0 [1] ?_;exact Sr <|Ro []
theorem Lz{a r}(h:FQ a=some r):Con (B rs) 41 [.rp (Aj a)] [] (fun r' O'=>r'=i64 r/\O'=[]):=by
 refine Co 0 4 [.tmp 1] Tryz.func41 (fun F hE=>?_) h;unfold FQ;refine T0 [0] ?_;refine Bd fun c b =>Te [1] (o1 3 (QQ b)) Ev ?_
 exact Sr <|Ro []
theorem Ls{a r}(h:FR a=some r):Con (B rs) 43 [.rp (Aj a)] [] (fun r' O'=>r'=i64 r/\O'=[]):=by
 refine Co 0 10 [.tmp 1] Tryz.func43 (fun F hE=>?_) h;unfold FR;refine T0 [0] ?_;refine Bd fun c b =>Te [3] (o1 6 (IZ b)) Ev ?_
 refine T0 [1] ?_;exact Sr <|Ro []
theorem Gn{a r}(h:Cg a=some r):Con (B rs) 37 [.sl false [[.fn 38 [.rp (Aj a)]],[.fn 39 [.rp (Aj a)]],[.fn 41 [.rp (Aj a)]],[.fn 43 [.rp (Aj a)]]]] [] (fun r' O'=>r'=i64 r/\O'=[]):=by
 refine Cw 18 [.tmp 2] Tryz.func37 (fun F hE=>?_) h;unfold Cg;refine T0 [0] ?_;refine Jo (fun _=>⟨Ah 18 [],[]⟩) ?_ ?_
 ·intro s b;refine T0 [6,7,8] ?_;refine Sb ?_;refine Ul 9 ?_;refine Ug (m:=8) ?_;refine T0 [6,7,8,9] ?_;refine Sq <|Ct <|Sk <|Tn <|Sq <|Sb <|?_
  have c:InR 0 4:=by decide
  refine Te [4,6,7,8] Aa (Ev (by simp only[go_sem,c,c.2];exact Ce)) ?_;refine Bd fun t g =>Te [5,6,7,8] (Ae (l:=[]) (m:=[(13,38,[.rp (Aj a)],[],_,_)]) trivial ⟨(wc (Lq g) []),trivial⟩) Ev ?_
  refine T0 [5,6,7,8,15] ?_;refine Cd ?_ ?_
  ·refine T0 [2] ?_;exact Sr <|Br <|Tr <|Ur <|Br <|Jr b <|Rr
  refine Sk <|Bn <|Tn <|?_
  have i:w64 1=1:=by decide
  refine Fe [6,7,8] Aa (Ew1 i) ?_;refine Un ?_;refine Ug (m:=7) ?_;refine T0 [6,7,8,9] ?_;refine Sq <|Ct <|Sk <|Tn <|Sq <|Sb <|?_
  have d:InR 1 4:=by decide
  refine Te [4,6,7,8] Aa (Ev (by simp only[go_sem,d,d.2];exact Ce)) ?_;refine Bd fun u j =>Te [5,6,7,8] (Ae (l:=[]) (m:=[(13,39,[.rp (Aj a)],[],_,_)]) trivial ⟨(wc (L8 j) []),trivial⟩) Ev ?_
  refine T0 [5,6,7,8,15] ?_;refine Cd ?_ ?_
  ·refine T0 [2] ?_;exact Sr <|Br <|Tr <|Ur <|Br <|Jr b <|Rr
  refine Sk <|Bn <|Tn <|?_
  have k:w64 2=2:=by decide
  refine Fe [6,7,8] Aa (Ew1 k) ?_;refine Un ?_;refine Ug (m:=6) ?_;refine T0 [6,7,8,9] ?_;refine Sq <|Ct <|Sk <|Tn <|Sq <|Sb <|?_
  have e:InR 2 4:=by decide
  refine Te [4,6,7,8] Aa (Ev (by simp only[go_sem,e,e.2];exact Ce)) ?_;refine Bd fun v n =>Te [5,6,7,8] (Ae (l:=[]) (m:=[(13,41,[.rp (Aj a)],[],_,_)]) trivial ⟨(wc (Lz n) []),trivial⟩) Ev ?_
  refine T0 [5,6,7,8,15] ?_;refine Cd ?_ ?_
  ·refine T0 [2] ?_;exact Sr <|Br <|Tr <|Ur <|Br <|Jr b <|Rr
  refine Sk <|Bn <|Tn <|?_
  have o:w64 3=3:=by decide
  refine Fe [6,7,8] Aa (Ew1 o) ?_;refine Un ?_;refine Ug (m:=5) ?_;refine T0 [6,7,8,9] ?_;refine Sq <|Ct <|Sk <|Tn <|Sq <|Sb <|?_
  have f:InR 3 4:=by decide
  refine Te [4,6,7,8] Aa (Ev (by simp only[go_sem,f,f.2];exact Ce)) ?_;refine Bd fun w p =>Te [5,6,7,8] (Ae (l:=[]) (m:=[(13,43,[.rp (Aj a)],[],_,_)]) trivial ⟨(wc (Ls p) []),trivial⟩) Ev ?_
  refine T0 [5,6,7,8,15] ?_;refine Cd ?_ ?_
  ·refine T0 [2] ?_;exact Sr <|Br <|Tr <|Ur <|Br <|Jr b <|Rr
  refine Sk <|Bn <|Tn <|?_
  have q:w64 4=4:=by decide
  refine Fe [6,7,8] Aa (Ew1 q) ?_;refine Un ?_;refine Ug (m:=4) ?_;refine T0 [6,7,8,9] ?_;exact Sq <|Cf <|Sx <|Tx <|Ux <|Bx <|Jn (ws [])
 intro _;refine T0 [2] ?_;exact Sr <|Rr
theorem Iq{a r}(h:BI a=some r):Con (B rs) 17 [.agg (Aj a)] [] (fun r' O'=>r'=i64 r/\O'=[]):=by
 refine Cw 9 [.tmp 2] Tryz.func17 (fun F hE=>?_) h;unfold BI;refine T0 [1] ?_;refine Rw (Aix 1 0 gs rfl (by simp[closed_i64,closed_u8,closed_u32,closed_u64,closed_bool,closed_str,closed_sl]) (by rfl)) ?_;refine Bd fun c b=>?_
 refine Tfe [2] (o1 8 (Gn b)) Ev ?_;exact Sr <|Rr
variable {rs:Aqm}
theorem ML{b a r}(h:DM b a=some r):Con (B rs) 16 [.agg (Aj b),.agg (Aj a)] [] (fun r' O'=>r'=.agg (Aj r)/\O'=[]):=by
 refine Cw 82 [.cell 4 34] Tryz.func16 (fun F hE=>?_) h;unfold DM;refine T0 [2,3,4] ?_;refine T0 [2,3,4,5] ?_;refine Ja (fun k=>⟨Ah 82 [(2,.ref 0 0),(3,.ref 1 0),(4,.ref 2 0),(5,.mref 3)],[.box (Aj b) false,.box (Aj a) false,.box [.str ([]:List UInt8),i64 0,.sl true (L Ab ([]))] false,.mp true (MS T7 k)]⟩) ?_ ?_
 ·intro bq;refine T0 [2,3,4,5,19,20,21] ?_;refine Sb ?_;refine Lo (fun(v:Int×SM)=>(⟨Ah 82 [(2,.ref 0 0),(3,.ref 1 0),(4,.ref 2 0),(5,.mref 3),(19,.sl false (L Ab a.Clauses)),(20,i64 (a.Clauses.length:Int)),(21,i64 v.1)],[.box (Aj b) false,.box (Aj a) false,.box [.str ([]:List UInt8),i64 0,.sl true (L Ab ([]))] false,.mp true (MS T7 v.2)]⟩:St)) (ws [0,1,2,3]) ?_;rintro⟨t,q⟩ br u w x;show Fm a t q=some u->_;unfold Fm;refine T0 [2,3,4,5,19,20,21,22] ?_;refine Sq <|Cd ?_ ?_
  ·refine Sk <|Tn <|Sq <|Sb <|Ck fun y =>Lt fun z aa =>Lt fun ab ac =>Lt fun ad ae =>Lt fun af ag =>Lt fun ah ai =>Lt fun aj ak =>Te (O':=[_,_,_,_,.box (.str z::.sl false (L Ag ab)::i64 ad::i64 af::(C1 i64 ah.l++[.sl false (L cApi_Expr aj)])) false]) [2,3,4,5,7,19,20,21] Aa (Ev (by simp only[go_sem,qR y,aa,ac,ae,ag,ai,ak];exact Ce)) ?_
   refine Lt fun al am =>Fe (O':=[_,_,_,.mp true (MS T7 al),_]) [2,3,4,5,19,20,21] Aa (Ew1 am) ?_
   refine Bn <|Tn <|F0 [2,3,4,5,19,20,21] ?_
   exact Ln (ws [0,1,2,3])
  refine Sx <|Tx <|Ly x w <|Bx <|?_
  exact Jm ((ws (l':=[(2,.ref 0 0),(3,.ref 1 0),(4,.ref 2 0),(5,.mref 3)]) (O':=[.box (Aj b) false,.box (Aj a) false,.box [.str ([]:List UInt8),i64 0,.sl true (L Ab ([]))] false,.mp true (MS T7 q)]) [0,1,2,3]).trans (ws [0,1,2,3]))
 intro k;refine Bd fun n an =>Te [2,3,4,5,8] (Ae (l:=[]) (m:=[(32,36,[.sl false (L Ab b.Clauses)],[.box (Aj b) false,.box (Aj a) false,.box [.str ([]:List UInt8),i64 0,.sl true (L Ab ([]))] false,.mp true (MS T7 k)],_,_)]) trivial ⟨(wc (LU an) []),trivial⟩) Ev ?_
 refine Ja (fun(v:SM×List Aqs)=>(⟨Ah 82 [(2,.ref 0 0),(3,.ref 1 0),(4,.ref 2 0),(5,.mref 3),(8,.bs false 4 (v.2.length) 0 (v.2.length))],[.box (Aj b) false,.box (Aj a) false,.box [.str ([]:List UInt8),i64 0,.sl true (L Ab ([]))] false,.mp true (MS T7 v.1),.buf 9 (L Ab v.2) false]⟩:St)) ?_ ?_
 ·intro bt;refine T0 [2,3,4,5,8,33,34,35] ?_;refine Sb ?_;refine Lo (fun⟨e,f,c⟩=>⟨Ah 82 [(2,.ref 0 0),(3,.ref 1 0),(4,.ref 2 0),(5,.mref 3),(8,.bs false 4 (c.length) 0 (c.length)),(33,.bs false 4 (c.length) 0 (c.length)),(34,i64 (n.length:Int)),(35,i64 e)],[.box (Aj b) false,.box (Aj a) false,.box [.str ([]:List UInt8),i64 0,.sl true (L Ab ([]))] false,.mp true (MS T7 f),.buf 9 (L Ab c) false]⟩) (ws [0,1,2,3,4]) ?_;rintro⟨e,f,c⟩ bu ao ap aq;show Ff n e f c=some ao->_;unfold Ff;refine T0 [2,3,4,5,8,33,34,35,36] ?_;refine Sq <|Cd ?_ ?_
  ·refine Sk <|Tn <|?_
   refine Ja (fun(v:SM×List Aqs)=>(⟨Ah 82 [(2,.ref 0 0),(3,.ref 1 0),(4,.ref 2 0),(5,.mref 3),(8,.bs false 4 (v.2.length) 0 (v.2.length)),(33,.bs false 4 (v.2.length) 0 (v.2.length)),(34,i64 (n.length:Int)),(35,i64 e)],[.box (Aj b) false,.box (Aj a) false,.box [.str ([]:List UInt8),i64 0,.sl true (L Ab ([]))] false,.mp true (MS T7 v.1),.buf 9 (L Ab v.2) false]⟩:St)) ?_ ?_
   ·intro bv;refine Sb <|Ck fun ar =>Lt fun au av =>Lt fun aw ax =>Lt fun ay az =>Lt fun aA aB =>Lt fun aC aD =>Lt fun aE aF =>Te (O':=[_,_,_,_,_,.box (.str au::.sl false (L Ag aw)::i64 ay::i64 aA::(C1 i64 aC.l++[.sl false (L cApi_Expr aE)])) false]) [2,3,4,5,8,9,10,33,34,35] Aa (Ev (by simp only[go_sem,qR ar,av,ax,az,aB,aD,aF];exact Ce)) ?_
    refine Lt fun aG aH =>Lt fun aI aJ =>Lt fun aK aL =>Lt fun aM aN =>Lt fun aO aP =>Lt fun aQ aR =>Te (O':=[_,_,_,_,_,_,.box (.str aG::.sl false (L Ag aI)::i64 aK::i64 aM::(C1 i64 aO.l++[.sl false (L cApi_Expr aQ)])) false]) [2,3,4,5,8,9,10,11,12,33,34,35] Aa (Ev (by simp only[go_sem,aH,aJ,aL,aN,aP,aR];exact Ce)) ?_
    refine T0 [2,3,4,5,8,9,10,11,33,34,35,47] ?_;refine Cd ?_ ?_
    ·refine Ck fun aS =>Lt fun d aT =>Te (fr':=[(2,_),(3,_),(4,_),(5,_),(8,.bs false 4 (d.length) 0 (d.length)),(10,_),(33,.bs false 4 (d.length) 0 (d.length)),(34,_),(35,_)]) (O':=[_,_,_,_,.buf 9 (L Ab d) false,_,_]) [2,3,4,5,8,10,33,34,35] Aa (Ew2 (qR aS) aT) ?_
     refine Lt fun aU aV =>Fe (O':=[_,_,_,.mp true (MS T7 aU),_,_,_]) [2,3,4,5,8,33,34,35] Aa (Ew1 aV) ?_
     exact Bn <|Jm (ws [0,1,2,3,4])
    exact Sk <|Bn <|Jm (ws [0,1,2,3,4])
   rintro⟨bw,bx⟩;refine F0 [2,3,4,5,8,33,34,35] ?_;exact Ln (ws [0,1,2,3,4])
  refine Sx <|Tx <|Ly aq ap <|Bx <|?_
  exact Jm ((ws (l':=[(2,.ref 0 0),(3,.ref 1 0),(4,.ref 2 0),(5,.mref 3),(8,.bs false 4 (c.length) 0 (c.length))]) (O':=[.box (Aj b) false,.box (Aj a) false,.box [.str ([]:List UInt8),i64 0,.sl true (L Ab ([]))] false,.mp true (MS T7 f),.buf 9 (L Ab c) false]) [0,1,2,3,4]).trans (ws [0,1,2,3,4]))
 rintro⟨o,bz⟩;refine Ja (fun g=>⟨Ah 82 [(2,.ref 0 0),(4,.ref 1 0),(8,.bs false 2 (g.length) 0 (g.length))],[.box (Aj b) false,.box [.str ([]:List UInt8),i64 0,.sl true (L Ab ([]))] false,.buf 9 (L Ab g) false]⟩) ?_ ?_
 ·intro bA;refine T0 [2,4,5,8,57,58,59] ?_;refine Sb ?_;refine Lo (fun(v:Int×List Aqs)=>(⟨Ah 82 [(2,.ref 0 0),(4,.ref 1 0),(5,.mref 2),(8,.bs false 3 (v.2.length) 0 (v.2.length)),(57,.sl false (L Ab a.Clauses)),(58,i64 (a.Clauses.length:Int)),(59,i64 v.1)],[.box (Aj b) false,.box [.str ([]:List UInt8),i64 0,.sl true (L Ab ([]))] false,.mp true (MS T7 o),.buf 9 (L Ab v.2) false]⟩:St)) (ws [0,2,3,4]) ?_;rintro⟨s,i⟩ bB aW aX aY;show Fo a o s i=some aW->_;unfold Fo;refine T0 [2,4,5,8,57,58,59,60] ?_;refine Sq <|Cd ?_ ?_
  ·refine Sk <|Tn <|?_
   refine Ja (fun j=>⟨Ah 82 [(2,.ref 0 0),(4,.ref 1 0),(5,.mref 2),(8,.bs false 3 (j.length) 0 (j.length)),(57,.sl false (L Ab a.Clauses)),(58,i64 (a.Clauses.length:Int)),(59,i64 s)],[.box (Aj b) false,.box [.str ([]:List UInt8),i64 0,.sl true (L Ab ([]))] false,.mp true (MS T7 o),.buf 9 (L Ab j) false]⟩) ?_ ?_
   ·intro bC;refine Sb <|Ck fun aZ =>Lt fun a0 a1 =>Lt fun a2 a3 =>Lt fun a4 a5 =>Lt fun a6 a7 =>Lt fun a8 a9 =>Lt fun ba bb =>Te (O':=[_,_,_,_,.box (.str a0::.sl false (L Ag a2)::i64 a4::i64 a6::(C1 i64 a8.l++[.sl false (L cApi_Expr ba)])) false]) [2,4,5,8,14,57,58,59] Aa (Ev (by simp only[go_sem,qR aZ,a1,a3,a5,a7,a9,bb];exact Ce)) ?_
    refine Lt fun bc bd =>Lt fun be bf =>Lt fun bg bh =>Lt fun bi bj =>Lt fun bk bl =>Lt fun bm bn =>Te (O':=[_,_,_,_,_,.box (.str bc::.sl false (L Ag be)::i64 bg::i64 bi::(C1 i64 bk.l++[.sl false (L cApi_Expr bm)])) false]) [2,4,5,8,14,16,57,58,59] Aa (Ev (by simp only[go_sem,bd,bf,bh,bj,bl,bn];exact Ce)) ?_
    refine T0 [2,4,5,8,14,57,58,59,70] ?_;refine Cd ?_ ?_
    ·refine Ck fun bo =>Lt fun p bp =>Fe (fr':=[(2,_),(4,_),(5,_),(8,.bs false 3 (p.length) 0 (p.length)),(57,_),(58,_),(59,_)]) (O':=[_,_,_,.buf 9 (L Ab p) false,_,_,_]) [2,4,5,8,57,58,59] Aa (Ew2 bo bp) ?_
     exact Bn <|Jm (ws [0,1,2,3])
    exact Sk <|Bn <|Jm (ws [0,1,2,3])
   intro j;refine F0 [2,4,5,8,57,58,59] ?_;exact Ln (ws [0,1,2,3])
  refine Sx <|Tx <|Ly aY aX <|Bx <|?_
  exact Jm ((ws (l':=[(2,.ref 0 0),(4,.ref 1 0),(8,.bs false 2 (i.length) 0 (i.length))]) (O':=[.box (Aj b) false,.box [.str ([]:List UInt8),i64 0,.sl true (L Ab ([]))] false,.buf 9 (L Ab i) false]) [0,1,3]).trans (ws [0,1,2]))
 intro g;refine T0 [4] ?_;exact Sr <|Rr
theorem Jk{b c r}(h:Db b c=some r):Con (B rs) 9 [.str b,i64 c] [] (fun r' O'=>r'=.tup [.agg (Aj r.1),i64 r.2]/\O'=[]):=by
 refine Cw 39 [.cell 4 34,.tmp 5] Tryz.func9 (fun F hE=>?_) h;unfold Db;refine T0 [0,1,4] ?_;refine Sq ?_;refine Tw [0,1,4,14] (fun f=>⟨Ah 39 [(0,.str b),(1,i64 c),(4,.ref 0 0),(14,.bool f)],[.box [.str ([]:List UInt8),i64 0,.sl true (L Ab ([]))] false]⟩) ?_ ?_
 ·intro _;refine Sp (fun d=>?_) fun d=>?_
  ·exact Lf Aa (Ew1 d) (ws [0])
  exact Lf Aa (Ew1 d) (ws [0])
 intro f;refine Cd ?_ ?_
 ·refine T0 [4,5] ?_;exact Sr <|Tr <|Rr
 refine Sk <|Tn <|Bd fun a k =>Te [1,4,6,8] (o1 18 (Oo k)) Ev ?_
 refine Ja (fun g=>⟨Ah 39 [(4,.ref 0 0),(6,.ref 1 0),(8,i64 g)],[.box [.str ([]:List UInt8),i64 0,.sl true (L Ab ([]))] false,.box (Aj a.1) false]⟩) ?_ ?_
 ·intro m;refine Tw [4,6,8,29] (fun i=>⟨Ah 39 [(4,.ref 0 0),(6,.ref 1 0),(8,i64 a.2.2),(29,.bool i)],[.box [.str ([]:List UInt8),i64 0,.sl true (L Ab ([]))] false,.box (Aj a.1) false]⟩) ?_ ?_
  ·intro _;refine Sp (fun e=>?_) fun e=>?_
   ·exact Lf Aa (Ew1 e) (ws [0,1])
   exact Lf Aa (Ew1 e) (ws [0,1])
  intro i;refine Cd ?_ ?_
  ·refine F0 [4,6,8] ?_;exact Jm (ws [0,1])
  exact Sk <|Jm (ws [0,1])
 intro g;refine Ja (fun j=>⟨Ah 39 [(4,.ref 0 0),(6,.ref 1 0),(8,i64 j)],[.box [.str ([]:List UInt8),i64 0,.sl true (L Ab ([]))] false,.box (Aj a.1) false]⟩) ?_ ?_
 ·intro n;refine T0 [4,6,8,31] ?_;refine Cd ?_ ?_
  ·refine Bd fun o l =>Fe [4,6,8] (o1 33 (Iq l)) Ev ?_
   exact Jm (ws [0,1])
  exact Sk <|Jm (ws [0,1])
 intro j;refine Sq <|T0 [4,6,8,35] ?_
 refine Cd ?_ ?_
 ·refine T0 [4,5] ?_;exact Sr <|Tr <|Rr
 refine Sk <|Tn <|T0 [4,5] ?_
 exact Sr <|Rr
variable {rs:Aqm}
theorem DR{k l a b r}(h:Ch k l a b=some r):Con (B rs) 7 [.sl false (L Ak k),i64 l,i64 a,i64 b] [] (fun r' O'=>r'=.tup [.agg (Aj r.1),i64 r.2]/\O'=[]):=by
 refine Cw 80 [.cell 8 34,.tmp 9] Tryz.func7 (fun F hE=>?_) h;unfold Ch;refine T0 [0,1,2,3,8] ?_;refine Sc <|Sq <|?_
 refine Tw [0,1,2,3,8,28] (fun o=>⟨Ah 80 [(0,.sl false (L Ak k)),(1,i64 l),(2,i64 a),(3,i64 b),(8,.ref 0 0),(28,.bool o)],[.box [.str ([]:List UInt8),i64 0,.sl true (L Ab ([]))] false]⟩) ?_ ?_
 ·intro _;refine Bd fun aZ m=>?_
  refine Sp (fun i=>?_) fun i=>?_
  ·exact Lf (o1 19 (G4 m)) (Ew1 i) (ws [0])
  refine Sp (fun n=>?_) fun n=>?_
  ·exact Lf (o1 19 (G4 m)) (Ew2 i n) (ws [0])
  exact Lf (o1 19 (G4 m)) (Ew2 i n) (ws [0])
 intro o;refine Cd ?_ ?_
 ·refine T0 [8,9] ?_;exact Sr <|Tr <|Cr <|Rr
 refine Sk <|Tn <|T0 [0,1,2,3,8,10] ?_
 refine T0 [0,1,2,3,8,10,11] ?_;refine Sq <|Sl <|Tn <|?_
 refine Ja (fun⟨p,q,s,t⟩=>⟨Ah 80 [(8,.ref 0 0),(10,.ref 1 0),(11,.bool p)],[.box [.str ([]:List UInt8),i64 0,.sl true (L Ab ([]))] false,.box [.str q,i64 s,.sl false (L Ab t)] false]⟩) ?_ ?_
 ·intro a0;refine Bd fun c aa =>Te [2,3,8,10,11,33,34,35] (o1 33 (Kz aa)) Ev ?_
  refine Sb ?_;refine Lo (fun⟨d,j,e,f,g⟩=>⟨Ah 80 [(2,i64 a),(3,i64 b),(8,.ref 0 0),(10,.ref 1 0),(11,.bool d),(33,.sl false (L Ak c)),(34,i64 (c.length:Int)),(35,i64 j)],[.box [.str ([]:List UInt8),i64 0,.sl true (L Ab ([]))] false,.box [.str e,i64 f,.sl false (L Ab g)] false]⟩) (ws [0,1]) ?_;rintro⟨d,j,e,f,g⟩ a1 ab u v;show Et a b c d j e f g=some ab->_;unfold Et;refine T0 [2,3,8,10,11,33,34,35,36] ?_;refine Sq <|Cd ?_ ?_
  ·refine Sk <|Tn <|?_
   refine Jo (fun⟨w,x,y,z⟩=>⟨Ah 80 [(2,i64 a),(3,i64 b),(8,.ref 0 0),(10,.ref 1 0),(11,.bool w),(33,.sl false (L Ak c)),(34,i64 (c.length:Int)),(35,i64 j)],[.box [.str ([]:List UInt8),i64 0,.sl true (L Ab ([]))] false,.box [.str x,i64 y,.sl false (L Ab z)] false]⟩) ?_ ?_
   ·intro a2 ac;refine Sb <|Ck fun ad =>Lt fun ae af =>Lt fun ag ah =>Lt fun ai aj =>Lt fun ak al =>Lt fun am an =>Lt fun ao ap =>Lt fun aq ar =>Lt fun au av =>Lt fun aw ax =>Lt fun ay az =>Lt fun aA aB =>Lt fun aC aD =>Lt fun aE aF =>Lt fun aG aH =>Lt fun aI aJ =>Lt fun aK aL =>Lt fun aM aN =>Lt fun aO aP =>Lt fun aQ aR =>Lt fun aS aT =>Lt fun aU aV =>Te (O':=[_,_,.box [i64 ae,i64 ag,i64 ai,i64 ak,i64 am,i64 ao,i64 aq,i64 au,i64 aw,i64 ay,i64 aA,i64 aC,i64 aE,i64 aG,i64 aI,i64 aK,i64 aM,i64 aO,i64 aQ,.str aS,.sl false (L D9 aU)] false]) [2,3,8,10,11,13,33,34,35] Aa (Ev (by simp only[go_sem,qR ad,af,ah,aj,al,an,ap,ar,av,ax,az,aB,aD,aF,aH,aJ,aL,aN,aP,aR,aT,aV];exact Ce)) ?_
    refine Sq <|T0 [2,3,8,10,11,13,33,34,35,43] ?_
    refine Cd ?_ ?_
    ·refine Sx <|Tx <|Bo <|Jx ac <|Ly v u <|Bx <|?_
     exact Jm ((ws (l':=[(8,.ref 0 0),(10,.ref 1 0),(11,.bool d)]) (O':=[.box [.str ([]:List UInt8),i64 0,.sl true (L Ab ([]))] false,.box [.str e,i64 f,.sl false (L Ab g)] false]) [0,1]).trans (ws [0,1]))
    refine Sk <|Tn <|Sq <|T0 [2,3,8,10,11,13,33,34,35,47] ?_
    refine Cd ?_ ?_
    ·refine T0 [2,3,8,10,11,33,34,35] ?_;exact Sx <|Tx <|Bx <|Jn (ws [0,1])
    refine Sk <|Tn <|Bd fun a3 aW =>Te [2,3,8,10,11,13,14,15,33,34,35] (o1 54 (Jk aW)) Ev ?_
    refine Sb <|T0 [2,3,8,10,11,13,14,33,34,35,57] ?_
    refine Cd ?_ ?_
    ·exact Sx <|Bo <|Bx <|Jn (ws [0,1])
    refine T0 [2,3,8,10,11,14,33,34,35,60] ?_;refine Cd ?_ ?_
    ·refine F0 [2,3,8,10,11,33,34,35] ?_;exact Bn <|Bn <|Jn (ws [0,1])
    refine T0 [2,3,8,10,11,14,33,34,35,66] ?_;refine Cd ?_ ?_
    ·refine Bd fun a4 aX =>Te [2,3,8,10,11,16,33,34,35] (o1 70 (ML aX)) Ev ?_
     refine Bd fun a5 aY =>Te [2,3,8,10,11,16,33,34,35,73] (o1 72 (Iq aY)) Ev ?_
     refine Cd ?_ ?_
     ·refine F0 [2,3,8,10,11,33,34,35] ?_;exact Bn <|Bn <|Jn (ws [0,1])
     exact Sk <|Bn <|Bn <|Jn (ws [0,1])
    exact Sk <|Bn <|Bn <|Jn (ws [0,1])
   rintro⟨w,x,y,z⟩;refine F0 [2,3,8,10,11,33,34,35] ?_;exact Ln (ws [0,1])
  refine Sx <|Tx <|Ly v u <|Bx <|?_
  exact Jm ((ws (l':=[(8,.ref 0 0),(10,.ref 1 0),(11,.bool d)]) (O':=[.box [.str ([]:List UInt8),i64 0,.sl true (L Ab ([]))] false,.box [.str e,i64 f,.sl false (L Ab g)] false]) [0,1]).trans (ws [0,1]))
 rintro⟨p,q,s,t⟩;refine Sq <|T0 [8,10,77] ?_
 refine Cd ?_ ?_
 ·refine T0 [8,9] ?_;exact Sr <|Tr <|Cr <|Rr
 refine Sk <|Tn <|T0 [8,9] ?_
 exact Sr <|Cr <|Rr
theorem L7{a b c d r}(h:FP a b c d=some r):Con (B rs) 11 [.sl false (L Ak a),i64 b,i64 c,i64 d] [] (fun r' O'=>r'=.tup [.sl false (L Ai r.1),i64 r.2]/\O'=[]):=by
 refine Cw 27 [.tmp 8,.tmp 9] Tryz.func11 (fun F hE=>?_) h;unfold FP;refine T0 [0,1,2,3] ?_;refine Bd fun g e =>Te [10,11] (o1 17 (DR e)) Ev ?_
 refine Sq <|T0 [10,11,21] ?_
 refine Cd ?_ ?_
 ·refine T0 [8,9] ?_;exact Sr <|Tr <|Rr
 refine Sk <|Tn <|Bd fun i f =>Te [8,9] (o1 24 (IZ f)) Ev ?_
 exact Sr <|Rr
theorem Lu{r}(h:top_editionsSane  = some r):Con (B rs) 5 [] [] (fun r' O'=>r'=.bool r/\O'=[]):=by
 refine Cw 32 [.tmp 0] Tryz.func5 (fun F hE=>?_) h;unfold top_editionsSane;refine T0 [] ?_;refine Lt fun b e =>Te (fr':=[(1,.bs true 0 (b.length) 0 (b.length))]) (O':=[.buf 21 (L Ak b) false]) [1] Aa (Ew1 e) ?_
 refine Bd fun i f =>Te [1,2,3] (o1 13 (DR f)) Ev ?_
 refine Bd fun j g =>Te [2,3,5] (o1 18 (DR g)) Ev ?_
 refine Tw [0] (fun d=>⟨Ah 32 [(0,.bool d)],[]⟩) ?_ ?_
 ·intro _;refine Sp (fun a=>?_) fun a=>?_
  ·refine Sp (fun c=>?_) fun c=>?_
   ·exact Lf Aa (Ew2 a c) (ws [])
   exact Lf Aa (Ew2 a c) (ws [])
  exact Lf Aa (Ew1 a) (ws [])
 intro d;exact Sr <|Rr
variable {rs:Aqm}
theorem Ql{c:Aqs}{v:Aqq}{r:Bool×Int}(h:HF c v=some r):Con (B rs) 13 [.agg (Ab c),.agg (i64 v.Has::C1 i64 v.V.l)] [] (fun r' O'=>r'=.tup [.bool r.1,i64 r.2]/\O'=[]):=by
 unfold HF at h;replace h:=Am h;obtain⟨r,h,he⟩:=h;obtain rfl:=AqF he;clear he;refine Aav (cf:=29) (rs:=[.tmp 4,.cell 5 35]) (N:=34) (m:=3) (sel:=[2]) (rfr:=[(4,.bool (Yg r).1),(5,.ref 2 0)]) (rfr':=[(4,.bool (Yg r).1),(5,.ref 0 0)]) (pre:=[_]) (caps:=[]) (fr1:=[(2,.ref 0 0),(3,.ref 1 0),(4,.bool false),(5,.ref 2 0)]) (σ1:=[.box (Ab c) false,.box (i64 v.Has::C1 i64 v.V.l) false,.box [i64 0] false]) ok Tryz.func13 rfl (by decide +kernel) rfl rfl (AqV rfl) (fun F=>?_) rfl rfl rfl rfl rfl (fun ys hh=>by cases hh) rfl (by decide) (by decide) rfl Tryz.func29 rfl (by decide +kernel) (fun F D=>?_)
 ·have hE:=(ok (rs:=rs)).env F;refine Pre.step (C8 hE TE [2,3,4,5] (fr':=[(2,.ref 0 0),(3,.ref 1 0),(4,.bool false),(5,.ref 2 0)]) (O':=[.box (Ab c) false,.box (i64 v.Has::C1 i64 v.V.l) false,.box [i64 0] false]) ⟨_,Aa,by simp only[go_sem,LG]⟩ R7) ?_;exact Pre.nil _
 refine Aed (has:=v.Has) (v:=v.V) (d1:=10) (d2:=11) (d3:=6) rfl rfl rfl rfl rfl rfl rfl rfl rfl (by decide) gs rfl (fun b_ m_=>?_);obtain⟨rs',hrs⟩:∃rs':Aqm,rs'=⟨rs.r,some (b_,m_,v.Has,v.V)⟩:=⟨_,rfl⟩;have hev:rs'.ev=some (b_,m_,v.Has,v.V):=by rw[hrs]
 rw[<-hrs];have hE:=(ok (rs:=rs')).env { F:=F,D:=D };refine EG (D0 _ _ [2,4,5,6] _ _) ?_;show Run ((Go.Proofs.YtldngkmkhfddpaaGreatDoor.B rs').env { F:=F,D:=D }) 3 _ ⟨Ah 34 [(2,.ref 0 0),(4,.bool false),(5,.ref 2 0),(6,.glob (b_+4))],[.box (Ab c) false,.box (i64 v.Has::C1 i64 v.V.l) false,.box [i64 0] false]⟩ _;refine BN ?_;unfold JF at h;revert h;refine Jo (fun _=>⟨Ah 34 [(4,.bool false),(5,.ref 2 0)],[.box (Ab c) false,.box (i64 v.Has::C1 i64 v.V.l) false,.box [i64 0] false]⟩) ?_ ?_
 ·intro ac j;refine Te [4,5,6,13,14,15] Aa (Ev (by simp only[go_sem,Xw hev];exact Ce)) ?_;refine Sb ?_;refine Lo (fun a=>⟨Ah 34 [(4,.bool false),(5,.ref 2 0),(6,.glob (b_+4)),(13,.sl false (L Ag c.When)),(14,i64 (c.When.length:Int)),(15,i64 a)],[.box (Ab c) false,.box (i64 v.Has::C1 i64 v.V.l) false,.box [i64 0] false]⟩) (ws [0,1,2]) ?_;rintro a ad o b d;show GW v c a=some o->_;unfold GW;refine Te [4,5,6,13,14,15,16] Aa (Ev (by simp only[go_sem,Xw hev];exact Ce)) ?_;refine Sq <|Cd ?_ ?_
  ·refine Sk <|Tn <|Sq <|Sb <|Ck fun p =>Lt fun e q =>Lt fun s t =>Lt fun u w =>Te (O':=[_,_,_,.box [i64 e,i64 s,i64 u] false]) [4,5,6,8,13,14,15] Aa (Ev (by simp only[go_sem,Xw hev,qR p,q,t,w];exact Ce)) ?_
   intro h;replace h:=Am h;obtain⟨x,k,h⟩:=h;rcases x with ae|f
   rotate_left
   ·dsimp only at h;refine Tj [4,5] [.bool false,.ref 2 0] 3 22 [.glob (b_+4),i64 e] (Pw (Gf hev k) []) (fun af y g=>?_) (h:=by simp only[go_sem,Xw hev]);refine DU ?_;refine Dx ?_;refine TC ?_;replace h:=Am h;obtain⟨ag,h,z⟩:=h;obtain rfl:=AqF z;have aa:=d _ rfl;subst aa;obtain rfl:=AqF b;refine DU ?_;refine GP ?_;replace h:=Am h;obtain⟨ah,h,ab⟩:=h;obtain rfl:=AqF ab;obtain rfl:=AqF j;obtain rfl:=AqF h;refine Fp (Weak.refl _ _) ?_;refine⟨_,[.box [.junk] false],_,[.box [i64 f] false,.box [i64 f] false],[.bool false,i64 f],y,.inr ⟨_,rfl,rfl⟩,?_,YX,rfl,?_,⟨⟨rfl,.inr ⟨rfl,rfl⟩⟩,⟨rfl,.inl ⟨2,0,rfl,rfl,rfl⟩⟩,trivial⟩,YI ?_,?_⟩
    ·simp only[go_sem]
    ·simp only[Arc,ArS,Ar3]at g;exact⟨g.1,g.2.1,trivial⟩
    ·simp only[go_sem,Yg]
    simp only[go_sem,Yg]
   dsimp only at h;refine Td [4,5,6,8,9,13,14,15] 22 [.glob (b_+4),i64 e] (wcp (Gf hev k) []) ?_ (h:=by simp only[go_sem,Xw hev];exact Ce);revert h;refine Tw [4,5,6,13,14,15,32] (fun n=>⟨Ah 34 [(4,.bool false),(5,.ref 2 0),(6,.glob (b_+4)),(13,.sl false (L Ag c.When)),(14,i64 (c.When.length:Int)),(15,i64 a),(32,.bool n)],[.box (Ab c) false,.box (i64 v.Has::C1 i64 v.V.l) false,.box [i64 0] false]⟩) ?_ ?_
   ·intro _;refine Sp (fun i=>?_) fun i=>?_
    ·exact Lf Aa (Ew1 i) (ws [0,1,2])
    exact Lf Aa (Ew1 i) (ws [0,1,2])
   intro n;refine Cd ?_ ?_
   ·refine Te [4,5] Aa (Ev (by simp only[go_sem,Xw hev];exact Ce)) ?_;refine Sr <|Br <|Tr <|Lr d b <|Br <|Jr j <|?_
    intro h;obtain rfl:=AqF h;refine Fp (Weak.refl _ _) ?_;refine⟨_,[.box [i64 0] false],_,[.box [i64 0] false],[.bool false,i64 0],Lh _ _,.inl ⟨.inr rfl,rfl⟩,?_,Q3,rfl,?_,⟨⟨rfl,.inr ⟨rfl,rfl⟩⟩,⟨rfl,.inl ⟨2,0,rfl,rfl,rfl⟩⟩,trivial⟩,YI ?_,?_⟩
    ·simp only[go_sem]
    ·simp only[go_sem,Yg]
    ·simp only[go_sem,Yg]
    simp only[go_sem,Yg]
   refine Sk <|Bn <|Tn <|Fe [4,5,6,13,14,15] Aa (Ev (by simp only[go_sem,Xw hev];exact Ce)) ?_
   exact Ln (ws [0,1,2])
  refine Sx <|Tx <|Lx d b <|Bx <|?_
  exact Jn ((ws (l':=[(4,.bool false),(5,.ref 2 0)]) (O':=[.box (Ab c) false,.box (i64 v.Has::C1 i64 v.V.l) false,.box [i64 0] false]) [0,1,2]).trans (ws [0,1,2]))
 intro _;refine Te [4,5] Aa (Ev (by simp only[go_sem,Xw hev];exact Ce)) ?_;refine Sr ?_;intro h;obtain rfl:=AqF h;refine Fp (Weak.refl _ _) ?_;refine⟨_,[.box [i64 0] false],_,[.box [i64 0] false],[.bool true,i64 0],Lh _ _,.inl ⟨.inr rfl,rfl⟩,?_,Q3,rfl,?_,⟨⟨rfl,.inr ⟨rfl,rfl⟩⟩,⟨rfl,.inl ⟨2,0,rfl,rfl,rfl⟩⟩,trivial⟩,YI ?_,?_⟩
 ·simp only[go_sem]
 ·simp only[go_sem,Yg]
 ·simp only[go_sem,Yg]
 simp only[go_sem,Yg]
theorem MJ{q s t u a r}(h:F4 q s t u a=some r):Con (B rs) 4 [.sl false (L Ak q),i64 s,i64 t,i64 u,.agg (i64 a.Has::C1 i64 a.V.l)] [] (fun r' O'=>r'=.bool r/\O'=[]):=by
 refine Cw 134 [.tmp 10] Tryz.func4 (fun F hE=>?_) h;unfold F4;refine T0 [0,1,2,3,9] ?_;refine Sq <|Bd fun aJ ah =>Te [0,1,2,3,9,26] (o1 25 (Lu ah)) Ev ?_
 refine Cd ?_ ?_
 ·refine T0 [10] ?_;exact Sr <|Tr <|Rr
 refine Sk <|Tn <|Sq <|Bd fun aK ai =>Te [0,1,2,3,9,29] (o1 28 (Mv ai)) Ev ?_
 refine Cd ?_ ?_
 ·refine T0 [10] ?_;exact Sr <|Tr <|Rr
 refine Sk <|Tn <|Bd fun b aj =>Te [0,1,2,3,9,11,12] (o1 35 (DR aj)) Ev ?_
 refine Bd fun aL ak =>Te [2,9,11,12,13,14] (o1 43 (L7 ak)) Ev ?_
 refine Sq <|T0 [2,9,11,12,13,14,47] ?_
 refine Cd ?_ ?_
 ·refine Tw [10] (fun w=>⟨Ah 134 [(10,.bool w)],[]⟩) ?_ ?_
  ·intro _;refine Sp (fun f=>?_) fun f=>?_
   ·refine Sp (fun i=>?_) fun i=>?_
    ·exact Lf Aa (Ew2 f i) (ws [])
    exact Lf Aa (Ew2 f i) (ws [])
   exact Lf Aa (Ew1 f) (ws [])
  intro w;exact Sr <|Tr <|Rr
 refine Sk <|Tn <|Bd fun aM al =>Te [2,9,11,14,15,16] (o1 64 (JY al)) Ev ?_
 refine Bd fun aN am =>Te [2,9,11,14,16,17,18] (o1 70 (Jk am)) Ev ?_
 refine Sq ?_;refine Tw [9,11,94] (fun x=>⟨Ah 134 [(9,.ref 0 0),(11,.ref 1 0),(94,.bool x)],[.box (i64 a.Has::C1 i64 a.V.l) false,.box (Aj b.1) false]⟩) ?_ ?_
 ·intro _;refine Sp (fun c=>?_) fun c=>?_
  ·exact Lf Aa (Ew1 c) (ws [0,1])
  refine Sp (fun e=>?_) fun e=>?_
  ·exact Lf Aa (Ew2 c e) (ws [0,1])
  refine Sp (fun g=>?_) fun g=>?_
  ·exact Lf Aa (Ew3 c e g) (ws [0,1])
  refine Bd fun aO y=>?_
  refine Sp (fun j=>?_) fun j=>?_
  ·exact Lf (o1 86 (Kk y)) (Ew4 c e g j) (ws [0,1])
  exact Lf (o1 86 (Kk y)) (Ew4 c e g j) (ws [0,1])
 intro x;refine Cd ?_ ?_
 ·refine T0 [10] ?_;exact Sr <|Tr <|Rr
 refine Sk <|Tn <|T0 [9,11,19] ?_
 refine Jo (fun _=>⟨Ah 134 [(9,.ref 0 0),(11,.ref 1 0),(19,i64 0)],[.box (i64 a.Has::C1 i64 a.V.l) false,.box (Aj b.1) false]⟩) ?_ ?_
 ·intro aP an;refine T0 [9,11,19,95] ?_;refine Sb ?_;refine Lo (fun d=>⟨Ah 134 [(9,.ref 0 0),(11,.ref 1 0),(19,i64 0),(95,i64 d)],[.box (i64 a.Has::C1 i64 a.V.l) false,.box (Aj b.1) false]⟩) (ws [0,1]) ?_;rintro d aQ ao z aa;show Ed a d=some ao->_;unfold Ed;refine T0 [9,11,19,95,96] ?_;refine Sq <|Cd ?_ ?_
  ·refine Sk <|Tn <|Sq <|Sb <|T0 [9,11,19,20,95] ?_
   refine Tw [9,11,19,95,109] (fun ab=>⟨Ah 134 [(9,.ref 0 0),(11,.ref 1 0),(19,i64 0),(95,i64 d),(109,.bool ab)],[.box (i64 a.Has::C1 i64 a.V.l) false,.box (Aj b.1) false]⟩) ?_ ?_
   ·intro _;refine Ck fun k=>?_
    have ac:1+d.toNat<=16:=by have:=k.2;omega
    refine Sp (fun m=>?_) fun m=>?_
    ·exact Lf Aa (Ew3 (qR k) ac m) (ws [0,1])
    refine Ck fun ad=>?_
    have ap:1+d.toNat<=16:=by have:=ad.2;omega
    exact Lf Aa (Ew5 (qR k) ac m (qR ad) ap) (ws [0,1])
   intro ab;refine Cd ?_ ?_
   ·refine T0 [10] ?_;exact Sr <|Br <|Tr <|Lr aa z <|Br <|Jr an <|Rr
   refine Sk <|Bn <|Tn <|F0 [9,11,19,95] ?_
   exact Ln (ws [0,1])
  refine Sx <|Tx <|Lx aa z <|Bx <|?_
  exact Jn ((ws (l':=[(9,.ref 0 0),(11,.ref 1 0),(19,i64 0)]) (O':=[.box (i64 a.Has::C1 i64 a.V.l) false,.box (Aj b.1) false]) [0,1]).trans (ws [0,1]))
 intro _;refine Ja (fun ae=>⟨Ah 134 [(19,i64 ae)],[]⟩) ?_ ?_
 ·intro aR;refine T0 [9,19,112,113,114] ?_;refine Sb ?_;refine Lo (fun(v:Int×Int)=>(⟨Ah 134 [(9,.ref 0 0),(19,i64 v.1),(112,.sl false (L Ab b.1.Clauses)),(113,i64 (b.1.Clauses.length:Int)),(114,i64 v.2)],[.box (i64 a.Has::C1 i64 a.V.l) false]⟩:St)) (ws [0]) ?_;rintro⟨n,o⟩ aS aq ar au;show DX a b n o=some aq->_;unfold DX;refine T0 [9,19,112,113,114,115] ?_;refine Sq <|Cd ?_ ?_
  ·refine Sk <|Tn <|?_
   refine Ja (fun af=>⟨Ah 134 [(9,.ref 0 0),(19,i64 af),(112,.sl false (L Ab b.1.Clauses)),(113,i64 (b.1.Clauses.length:Int)),(114,i64 o)],[.box (i64 a.Has::C1 i64 a.V.l) false]⟩) ?_ ?_
   ·intro aT;refine Sb <|Ck fun av =>Lt fun aw ax =>Lt fun ay az =>Lt fun aA aB =>Lt fun aC aD =>Lt fun aE aF =>Lt fun aG aH =>Te (O':=[_,.box (.str aw::.sl false (L Ag ay)::i64 aA::i64 aC::(C1 i64 aE.l++[.sl false (L cApi_Expr aG)])) false]) [9,19,22,112,113,114] Aa (Ev (by simp only[go_sem,qR av,ax,az,aB,aD,aF,aH];exact Ce)) ?_
    refine Bd fun aU aI =>Te [9,19,23,24,112,113,114] (o1 121 (Ql aI)) Ev ?_
    refine Tw [9,19,112,113,114,128] (fun ag=>⟨Ah 134 [(9,.ref 0 0),(19,i64 n),(112,.sl false (L Ab b.1.Clauses)),(113,i64 (b.1.Clauses.length:Int)),(114,i64 o),(128,.bool ag)],[.box (i64 a.Has::C1 i64 a.V.l) false]⟩) ?_ ?_
    ·intro _;refine Sp (fun p=>?_) fun p=>?_
     ·exact Lf Aa (Ew1 p) (ws [0])
     exact Lf Aa (Ew1 p) (ws [0])
    intro ag;refine Cd ?_ ?_
    ·refine F0 [9,19,112,113,114] ?_;exact Bn <|Jm (ws [0])
    exact Sk <|Bn <|Jm (ws [0])
   intro af;refine F0 [9,19,112,113,114] ?_;exact Ln (ws [0])
  refine Sx <|Tx <|Ly au ar <|Bx <|?_
  exact Jm ((ws (l':=[(19,i64 n)]) (O':=[]) []).trans (ws []))
 intro ae;refine T0 [10] ?_;exact Sr <|Rr
set_option maxRecDepth 8000
theorem B5{α β:Type}(x:α)(f:α->Option β):lt1 x f=f x:=Atq (eq_self (f x))
theorem Bt{k:Nat}(h:k<9223372036854775807):w64 ((k:Int)+1)=((k+1:Nat):Int):=by rw[FB (by omega)];rfl
theorem Ad{α β:Type}(x:α)(f:α->Option β):(some x).bind f=f x:=Atq (eq_self (f x))
theorem Ng{V X S:Type}(n:Nat)(f:V->Option (V⊕X))(st:Int->S->V)(F:Nat->S)(out:S->X)(hn:n<1152921504606846976) (hs:∀k:Nat,k<n->f (st (k:Int) (F k))=some (.inl (st ((k+1:Nat):Int) (F (k+1))))) (he:f (st (n:Int) (F n))=some (.inr (out (F n)))) :Bf f (st 0 (F 0))=some (out (F n)):=by
 obtain⟨x,hx,hq⟩:∃x,Bf f (st 0 (F 0))=some x/\x=out (F n):=by
  refine UF n (fun k v=>v=st (k:Int) (F k)) _ (by omega) ?_ ?_ rfl
  ·rintro k v hk rfl;exact⟨_,hs k hk,rfl⟩
  rintro v rfl;exact⟨_,he,rfl⟩
 rw[hx,hq]
def TP{α:Type}(o:Option α)(P:α->Prop):Prop:=∃a,o=some a/\P a
abbrev Aak{α:Type}(o:Option α):Prop:=TP o fun _=>True
section
variable {α β:Type}{P:α->Prop}{Q:β->Prop}
theorem Af{a:α}(h:P a):TP (some a) P:=⟨a,rfl,h⟩
theorem AB{o:Option β}{f:β->Option α}(h:TP o Q)(k:∀b,Q b->TP (f b) P):TP (o.bind f) P:=by
 obtain⟨b,rfl,hb⟩:=h;exact k b hb
theorem Aji{o:Option β}{f:β->Option α}(h:Aak o)(k:∀b,TP (f b) P):TP (o.bind f) P:=AB h fun b _=>k b
theorem AK{c:Prop}[Decidable c]{x y:Option α}(h:c->TP x P)(k:¬c->TP y P):TP (if c then x else y) P:=by
 by_cases hc:c
 ·rw[AqJ hc];exact h hc
 rw[AqI hc];exact k hc
theorem CY{c:Prop}[Decidable c]{x:Option α}(h:c)(k:TP x P):TP (if c then x else none) P:=by rw[AqJ h];exact k
theorem AR{x:β}{f:β->Option α}(h:TP (f x) P):TP (lt1 x f) P:=by rw[B5];exact h
theorem Ao8{P':α->Prop}{o:Option α}(h:TP o P)(k:∀a,P a->P' a):TP o P':=by
 obtain⟨a,e,hp⟩:=h;exact⟨a,e,k a hp⟩
end
theorem AX{V X:Type}(I:V->Prop)(μ:V->Nat){Q:X->Prop}{f:V->Option (V⊕X)}{v0:V}(h:∀v,I v->TP (f v) fun y=>match y with|.inl v'=>I v'/\μ v'<μ v|.inr x=>Q x)(h0:I v0)(hm:μ v0<18446744073709551616):TP (Bf f v0) Q:=by
 refine Ld I μ Q (fun v hv=>?_) h0 hm;obtain⟨y,e,hy⟩:=h v hv;cases y with
 |inl v'=>exact .inl ⟨v',e,hy.1,hy.2⟩
 |inr x=>exact .inr ⟨x,e,hy⟩
theorem Aii{k:Nat}(h:k<9223372036854775807):w64 (k:Int)=(k:Int):=FB (by omega)
theorem As{k n:Nat}(h:k<n):InR (k:Int) n:=by unfold InR;omega
theorem PV{k n:Nat}(h:k<=n):InB (k:Int) n:=by unfold InB;omega
theorem UK{α β:Type}{o:Option α}{a:α}{f:α->Option β}(h:o=some a):o.bind f=f a:=by rw[h];rfl
theorem Bb{α:Type}[Inhabited α]{l:List α}{k:Nat}(h:k<l.length):nth l k=l[k]:=by simp[nth,h]
theorem AF{α:Type}[Inhabited α]{l:List α}{k:Nat}(h:k<l.length):nth l k∈l:=by rw[Bb h];exact ArY h
theorem G0(x:Aqr):Aqr.mk x.Op x.N x.Unit x.L=x:=by cases x;rfl
theorem FY(c:Aqs):({ Name:=c.Name,When:=c.When,Pay:=Aqr.mk c.Pay.Op c.Pay.N c.Pay.Unit c.Pay.L }:Aqs)=c:=by rw[G0]
def w_attributes:List (List UInt8):=[[116,121,112,101],[111,119,110,101,114],[114,97,105,108,119,97,121],[115,104,105,112,112,101,114],[99,108,97,115,115],[119,101,105,103,104,116],[107,109],[109,105,110,117,116,101,115],[119,111,114,107,105,110,103],[99,111,100,101],[119,111,114,116,104],[99,111,115,116],[109,111,110,116,104],[98,101,103,105,110],[112,97,114,116,115],[112,97,114,116]]
theorem FZ:Bp ([116,121,112,101,32,111,119,110,101,114,32,114,97,105,108,119,97,121,32,115,104,105,112,112,101,114,32,99,108,97,115,115,32,119,101,105,103,104,116,32,107,109,32,109,105,110,117,116,101,115,32,119,111,114,107,105,110,103,32,99,111,100,101,32,119,111,114,116,104,32,99,111,115,116,32,109,111,110,116,104,32,98,101,103,105,110,32,112,97,114,116,115,32,112,97,114,116]:List UInt8)=some w_attributes:=by decide +kernel
def w_kinds:List (List UInt8):=[[104,105,114,101],[100,101,109,117,114,114,97,103,101],[102,114,101,105,103,104,116],[114,101,112,97,105,114],[108,111,115,115],[99,108,101,97,110,105,110,103]]
theorem Wg:Bp ([104,105,114,101,32,100,101,109,117,114,114,97,103,101,32,102,114,101,105,103,104,116,32,114,101,112,97,105,114,32,108,111,115,115,32,99,108,101,97,110,105,110,103]:List UInt8)=some w_kinds:=by decide +kernel
def w_units:List (List UInt8):=[[109,111,110,101,121],[109,105,110,117,116,101],[107,109],[107,103]]
theorem Qk:Bp ([109,111,110,101,121,32,109,105,110,117,116,101,32,107,109,32,107,103]:List UInt8)=some w_units:=by decide +kernel
def w_calls:List (List UInt8):=[[109,105,110],[109,97,120],[100,111,119,110],[117,112],[104,97,108,102]]
theorem S2:Bp ([109,105,110,32,109,97,120,32,100,111,119,110,32,117,112,32,104,97,108,102]:List UInt8)=some w_calls:=by decide +kernel
abbrev Ps:=Aqu
abbrev XY:=Int×Int×Ps
def AmF(p:Ps):Int:=match p.l with
 |[]=>p.end_
 |t::_=>t.At
def MT(p:Ps)(s:List UInt8):Bool×Ps:=match p.l with
 |[]=>(false,p)
 |t::r=>if t.Kind≠2/\t.Text=s then(true,⟨r,p.end_⟩)else(false,p)
def Qy(p:Ps):XY:=(AmF p,160,p)
def Vi(p:Ps)(s:List UInt8):Ps⊕XY:=if(MT p s).1=true then .inl (MT p s).2 else .inr (Qy p)
def AdH(p:Ps):(Int×Ps)⊕XY:=match p.l with
 |[]=>.inr (Qy p)
 |t::r=>if t.Kind=2 then .inl (t.N,⟨r,p.end_⟩)else .inr (Qy p)
def Agn(s:List UInt8):Bool:=IW false tab1 s
def U9(p:Ps):(List UInt8×Ps)⊕XY:=match p.l with
 |[]=>.inr (Qy p)
 |t::r=>if t.Kind=1 then(if Agn t.Text=true then .inr (t.At,161,p)else .inl (t.Text,⟨r,p.end_⟩))else .inr (Qy p)
def chS(p:Ps)(ws:List (List UInt8)):Option (Nat×Ps):=match p.l with
 |[]=>none
 |t::r=>if t.Kind=1/\ws.findIdx (t.Text==·)<ws.length then some (ws.findIdx (t.Text==·),⟨r,p.end_⟩)else none
def QH(p:Ps)(ws:List (List UInt8)):(Int×Ps)⊕XY:=match chS p ws with
 |some (i,q)=>.inl ((i:Int),q)
 |none=>.inr (Qy p)
theorem HN(p:Ps):Bq p=some (AmF p,p):=by
 obtain⟨l,e⟩:=p;cases l with
 |nil=>rfl
 |cons t r=>
  unfold Bq;rw[AqJ (by simp),AqJ (show InR 0 _ from⟨by decide,by simp⟩)];rfl
theorem ME(p:Ps):Bz p=some (.inr (Qy p)):=by
 unfold Bz;rw[HN];rfl
theorem Sy{t:Aqn}{r:List Aqn}:(((t::r).drop 1).take ((t::r).length-1))=r:=by
 simp
def RU(p:Ps)(k:Int):Aqn×Bool×Ps:=match p.l with
 |[]=>({ Kind:=0,Text:=[],N:=0,At:=0 },false,p)
 |t::r=>if t.Kind=k then(t,true,p)else({ Kind:=0,Text:=[],N:=0,At:=0 },false,p)
theorem VM{p:Ps}{k:Int}:(RU p k).2.2=p:=by
 unfold RU;split
 ·rfl
 split<;>rfl
theorem NB(p:Ps)(k:Int):BR p k=some (RU p k):=by
 unfold RU;obtain⟨l,e⟩:=p;cases l with
 |nil=>rfl
 | cons t r=>
  unfold BR;have hi:InR 0 (t::r).length:=⟨by decide,by simp⟩;rw[AqI (by simp;omega)];simp only[AqJ hi,Ad];show(if(t.Kind != k)then _ else _)=_;by_cases h:t.Kind=k
  ·rw[AqI (by simp[h])];simp only[h,Aro];rfl
  rw[AqJ (by simp[h])];simp only[h,Arx]
theorem AQ(p:Ps)(s:List UInt8):Aw p s=some (MT p s):=by
 obtain⟨l,e⟩:=p;cases l with
 |nil=>rfl
 | cons t r=>
  unfold Aw MT;have hi:InR 0 (t::r).length:=⟨by decide,by simp⟩;have hb:InB 1 (t::r).length:=⟨by decide,by simp⟩;rw[AqI (by simp;omega)];simp only[AqJ hi,AqJ hb,Sy,B5];show((if(t.Kind==2)then some true else some (!(t.Text==s))).bind _)=_;by_cases h:t.Kind=2
  ·rw[AqJ (by simp[h])];simp[h]
  rw[AqI (by simp[h])];simp only[Ad];by_cases h2:t.Text=s
  ·simp[h,h2]
  simp[h,h2]
theorem BO(p:Ps)(s:List UInt8):Ax p s=some (Vi p s):=by
 unfold Ax Vi;rw[AQ];simp only[Ad];by_cases h:(MT p s).1=true
 ·rw[AqI (by simp[h]),AqJ h]
 rw[AqJ (by simp[h]),AqI h]
 have:(MT p s).2=p:=by
  unfold MT at h ⊢;split<;>rename_i hl
  ·rfl
  rw[hl]at h;simp only at h;split at h
  ·exact(h rfl).elim
  rename_i hc;rw[AqI hc]
 rw[this,ME];rfl
theorem Gd(p:Ps):Bv p=some (AdH p):=by
 unfold Bv AdH;rw[NB];unfold RU;obtain⟨l,e⟩:=p;cases l with
 |nil=>rfl
 |cons t r=>
  have hb:InB 1 (t::r).length:=⟨by decide,by simp⟩;simp only[Ad];by_cases h:t.Kind=2
  ·simp only[h,Aro,Atu,Aq6,Arx,Ad,AqJ hb,Sy,B5]
  simp only[h,Arx,Ato,Aro,ME,Ad]
theorem Mi(s:List UInt8):Em s=some (Agn s):=by
 unfold Em;rfl
theorem RK(p:Ps):CT p=some (U9 p):=by
 unfold CT U9;rw[NB];unfold RU;obtain⟨l,e⟩:=p;cases l with
 |nil=>rfl
 | cons t r=>
  have hb:InB 1 (t::r).length:=⟨by decide,by simp⟩;simp only[Ad];by_cases h:t.Kind=1
  ·simp only[h,Aro,Atu,Aq6,Arx,Ad,AqJ hb,Sy,B5,Mi];split<;>rfl
  simp only[h,Arx,Ato,Aro,ME,Ad]
theorem Tq(s:List (List UInt8))(v:List UInt8)(hl:s.length<1000000):D8 s v=some (if s.findIdx (v==·)<s.length then((s.findIdx (v==·):Nat):Int)else -1):=by
 have key:TP (D8 s v) fun r=>r=if s.findIdx (v==·)<s.length then((s.findIdx (v==·):Nat):Int)else -1:=by
  unfold D8
  refine AB (Q:=fun z=>match z with
   |.inl ()=>s.findIdx (v==·)=s.length
   |.inr r=>s.findIdx (v==·)<s.length/\r=((s.findIdx (v==·):Nat):Int)) ?_ fun z hz=>?_
  ·refine AB (Q:=fun z=>match z with
    |.inl ()=>s.findIdx (v==·)=s.length
    |.inr (.inr r)=>s.findIdx (v==·)<s.length/\r=((s.findIdx (v==·):Nat):Int)
    |_=>False) ?_ fun z hz=>?_
   ·refine AX (fun i=>∃k:Nat,i=(k:Int)/\k<=s.length/\∀j,j<k->(v==nth s j)=false) (fun i=>((s.length:Int)-i).toNat) ?_ ⟨0,rfl,Aq5 _,fun j h=>by omega⟩ (by simp;omega);rintro _ ⟨k,rfl,hk,hj⟩;unfold Ep;refine AK (fun h=>?_) fun h=>Af ?_
    ·have hk':k<s.length:=by simpa using h
     refine CY (As hk') ?_;simp only[AqR];refine AK (fun hv=>?_) fun hv=>Af ⟨⟨k+1,Bt (by omega),hk',fun j h1=>?_⟩,by rw[Bt (by omega)];omega⟩
     ·have he:s.findIdx (v==·)=k:=by
       rw[List.findIdx_eq hk'];refine⟨by rw[<-Bb hk'];exact hv,fun j hjk=>?_⟩;rw[<-Bb (by omega)];exact hj j hjk
      refine Af ⟨by rw[he];exact hk',by rw[he]⟩
     by_cases e:j<k
     ·exact hj j e
     have:j=k:=by omega
     subst this;exact Arh hv
    have:k=s.length:=by simp at h;omega
    subst this;rw[List.findIdx_eq_length];intro x hx;obtain⟨j,hj',rfl⟩:=ArA hx;rw[<-Bb hj'];exact hj j hj'
   match z,hz with
   |.inl (),hz=>exact Af hz
   |.inr (.inr r),hz=>exact Af hz
  match z,hz with
  |.inl (),hz=>exact Af (by rw[AqI (by omega)])
  |.inr r,hz=>exact Af (by rw[AqJ hz.1];exact hz.2)
 obtain⟨r,e,h⟩:=key;rw[e,h]
theorem IP(p:Ps){words:List UInt8}{ws:List (List UInt8)}(hf:Bp words=some ws)(hl:ws.length<1000000):BP p words=some (match chS p ws with
  |some (i,q)=>((i:Int),true,q)
  |none=>(0,false,p)):=by
 unfold BP chS;rw[NB,hf];unfold RU;obtain⟨l,e⟩:=p;cases l with
 |nil=>
  simp only[Ad,Tq _ _ hl];rfl
 | cons t r=>
  have hb:InB 1 (t::r).length:=⟨by decide,by simp⟩;simp only[Ad];by_cases h:t.Kind=1
  ·simp only[h,Aro,Tq _ _ hl,Ad,Atu,Aq6,Arx,true_and];by_cases h2:ws.findIdx (t.Text==·)<ws.length
   ·rw[AqJ h2,AqJ h2,AqI (by simp),AqJ hb,B5,Sy]
   rw[AqI h2,AqI h2,AqJ (by decide)]
  simp only[h,Arx,false_and,Tq _ _ hl,Ad,Ato,Aro]
theorem KG(p:Ps){words:List UInt8}{ws:List (List UInt8)}(hf:Bp words=some ws)(hl:ws.length<1000000):BV p words=some (QH p ws):=by
 unfold BV QH;rw[IP p hf hl];simp only[Ad];cases h:chS p ws with
 |none=>simp only[Ato,Aro,ME,Ad]
 |some q=>simp only[Atu,Aq6,Arx,Ad]
variable{p q:Ps}{s:List UInt8}{x:Aqr}{d:Nat}
theorem LJ(h:(MT p s).1=true):(MT p s).2.l.length+1=p.l.length:=by
 unfold MT at h ⊢;split<;>rename_i hl
 ·rw[hl]at h;cases h
 rw[hl]at h ⊢;simp only at h;split at h<;>rename_i hc
 ·rw[AqJ hc];simp
 cases h
theorem Oa(h:¬(MT p s).1=true):(MT p s).2=p:=by
 unfold MT at h ⊢;split<;>rename_i hl
 ·rfl
 rw[hl]at h;simp only at h;split at h<;>rename_i hc
 ·exact(h rfl).elim
 rw[AqI hc]
theorem Pj:(MT p s).2.l.length<=p.l.length:=by
 by_cases h:(MT p s).1=true
 ·have:=LJ h;omega
 rw[Oa h];exact AqT _
theorem GZ(h:Vi p s=.inl q):q.l.length+1=p.l.length:=by
 unfold Vi at h;split at h
 ·rename_i hc;cases h;exact LJ hc
 cases h
theorem OI{n:Int}(h:AdH p=.inl (n,q)):q.l.length+1=p.l.length:=by
 unfold AdH at h;split at h
 ·cases h
 rename_i hl;split at h
 ·cases h;rw[hl];simp
 cases h
theorem TI{n:List UInt8}(h:U9 p=.inl (n,q)):q.l.length+1=p.l.length:=by
 unfold U9 at h;split at h
 ·cases h
 rename_i hl;split at h
 ·split at h
  ·cases h
  cases h;rw[hl];simp
 cases h
theorem V6{ws:List (List UInt8)}{i:Nat}(h:chS p ws=some (i,q)):q.l.length+1=p.l.length/\i<ws.length:=by
 unfold chS at h;split at h
 ·cases h
 rename_i hl;split at h
 ·rename_i hc;cases h;exact⟨by rw[hl];simp,hc.2⟩
 cases h
theorem MK{ws:List (List UInt8)}{i:Int}(h:QH p ws=.inl (i,q)):q.l.length+1=p.l.length/\0<=i/\i<(ws.length:Int):=by
 unfold QH at h;split at h
 ·rename_i hc;cases h;have:=V6 hc;exact⟨this.1,by omega,by omega⟩
 cases h
abbrev Apr{α:Type}(p:Ps)(r:(α×Ps)⊕XY):Prop:=∀x q,r=.inl (x,q)->q.l.length<=p.l.length
theorem Ada(p:Ps):TP (C3 p) (Apr p):=by
 unfold C3;refine AB (Q:=fun z=>z.1.length<=p.l.length) ?_ ?_
 ·rw[IP p Qk (by decide)];simp only[Ad];cases h:chS p w_units with
  |none=>
   simp only[Aq6,Arx];exact Af (AqT _)
  |some q=>
   obtain⟨i,q⟩:=q;obtain⟨h1,h2⟩:=V6 h;simp only[Aro];have h4:i<4:=h2;exact CY (As h4) (CY (As h4) (AR (Af (by simp only;omega))))
 rintro⟨l,e,d⟩ hl;simp only at hl ⊢
 refine AB (Q:=fun z=>match z with
  |.inl z=>z.1.length<=p.l.length
  |.inr (.inl _)=>False
  |.inr (.inr _)=>True) ?_ fun z hz=>?_
 ·rw[AQ];simp only[Ad];have ha:=Pj (p:=⟨l,e⟩) (s:=[112,101,114]);refine AK (fun h=>?_) fun h=>Af ?_
  ·rw[KG _ Qk (by decide)];simp only[Ad];cases hm:QH (MT ⟨l,e⟩ [112,101,114]).2 w_units with
   |inr e=>exact Af trivial
   |inl q=>
    obtain⟨i,q⟩:=q;obtain⟨h1,h2,h3⟩:=MK hm;have h4:i<4:=h3;refine CY ⟨h2,by omega⟩ (CY ⟨h2,by omega⟩ (AR (Af ?_)));have h1':q.l.length+1=_:=h1;show q.l.length<=_;have ha':(MT ⟨l,e⟩ [112,101,114]).2.l.length<=l.length:=ha;omega
  have ha':(MT ⟨l,e⟩ [112,101,114]).2.l.length<=l.length:=ha;show(MT ⟨l,e⟩ [112,101,114]).2.l.length<=_;omega
 match z,hz with
 |.inl (l2,e2,d2),hz=>
  refine Af fun x q hh=>?_
  cases hh;exact hz
 |.inr (.inr z),hz=>exact Af fun x q hh=>by cases hh
def Dp:Nat->Aqr->Prop
 |0,_=>False
 |d+1,x=>x.L.length<=4/\∀y∈x.L,Dp d y
theorem Dp.mono:∀{d e:Nat} {x:Aqr},Dp d x->d<=e->Dp e x
 |0,_,_,h,_=>h.elim
 |d+1,0,_,_,h=>by omega
 |d+1,e+1,x,h,hh=>⟨h.1,fun y hy=>(h.2 y hy).mono (by omega)⟩
theorem AiW(h:x.L=[])(hd:0<d):Dp d x:=by
 obtain⟨d,rfl⟩:∃e,d=e+1:=⟨d-1,by omega⟩;exact⟨by rw[h];simp,by rw[h];simp⟩
def nod:Nat->Aqr->Nat
 |0,_=>0
 |d+1,x=>1+(x.L.map (nod d)).sum
theorem Kn{α:Type}{f g:α->Nat}:∀{l:List α},(∀x∈l,f x=g x)->(l.map f).sum=(l.map g).sum
 |[],_=>rfl
 |x::l,h=>by
  rw[Arc,Arc,Ash,Ash,h x Aq4,Kn fun y hy=>h y (Arn _ hy)]
theorem KS:∀{d e:Nat} {x:Aqr},Dp d x->d<=e->nod e x=nod d x
 |0,_,_,h,_=>h.elim
 |d+1,0,_,_,h=>by omega
 |d+1,e+1,x,h,hh=>by
  show 1+_=1+_;rw[Kn fun y hy=>KS (h.2 y hy) (by omega)]
def Ez(m:Nat)(x:Aqr):Prop:=Dp m x/\nod m x<=m
def EzL(m:Nat)(l:List Aqr):Prop:=(∀x∈l,Dp m x)/\(l.map (nod m)).sum<=m
theorem Ez.mono{m n:Nat}{x:Aqr}(h:Ez m x)(k:m<=n):Ez n x:=⟨h.1.mono k,by rw[KS h.1 k];exact ArZ h.2 k⟩
theorem EzL.mono{m n:Nat}{l:List Aqr}(h:EzL m l)(k:m<=n):EzL n l:=⟨fun x hx=>(h.1 x hx).mono k,(Kn fun x hx=>KS (h.1 x hx) k:(l.map (nod n)).sum=(l.map (nod m)).sum) ▸ ArZ h.2 k⟩
theorem EzL.nil{m:Nat}:EzL m []:=⟨fun x hx=>(by cases hx),Aq5 _⟩
theorem EzL.snoc{m k n:Nat}{l:List Aqr}{x:Aqr}(h:EzL m l)(hx:Ez k x)(hn:m+k<=n):EzL n (l++[x]):=by
 refine⟨fun y hy=>?_,?_⟩
 ·rcases Aq3.1 hy with hy|hy
  ·exact(h.1 y hy).mono (by omega)
  simp only[Arm]at hy;subst hy;exact hx.1.mono (by omega)
 have h1:=h.2;have h2:=hx.2;have e:(l.map (nod n)).sum=(l.map (nod m)).sum:=Kn fun y hy=>KS (h.1 y hy) (by omega)
 rw[Asm,AtH,e];simp only[Arc,ArS,Ash,List.sum_nil,Asb];rw[KS hx.1 (show k<=n by omega)];omega
theorem AbE(h:x.L=[])(hd:0<d):Ez d x:=by
 refine⟨AiW h hd,?_⟩;obtain⟨d,rfl⟩:∃e,d=e+1:=⟨d-1,by omega⟩;show 1+_<=_;rw[h];simp
theorem Abq{m n:Nat}(h4:x.L.length<=4)(h:EzL m x.L)(hn:m+1<=n):Ez n x:=by
 obtain⟨n,rfl⟩:∃e,n=e+1:=⟨n-1,by omega⟩;have h':=h.mono (show m<=n by omega);refine⟨⟨h4,h'.1⟩,?_⟩;show 1+_<=_;have e:(x.L.map (nod n)).sum=(x.L.map (nod m)).sum:=Kn fun y hy=>KS (h.1 y hy) (by omega)
 rw[e];have:=h.2;omega
theorem K0:∀(d:Nat) (x:Aqr) (n:Nat),Dp d x->d<=n->d<1000000->TP (E7 n x) fun k=>0<=k/\k<=(d:Int)
 |0,x,n,h,_,_=>h.elim
 |d+1,x,0,_,h,_=>by omega
 | d+1,x,n+1,h,hn,hd=>by
  show TP (EC (E7 n) x) _;unfold EC;refine AB (Q:=fun k=>0<=k/\k<=(d:Int)) (AB (Q:=fun k=>0<=k/\k<=(d:Int)) ?_ fun k hk=>Af hk) fun k hk=>Af ?_
  ·refine AX (fun v=>(0<=v.1/\v.1<=(d:Int))/\∃k:Nat,v.2=(k:Int)/\k<=x.L.length) (fun v=>((x.L.length:Int)-v.2).toNat) ?_ ⟨⟨by decide,by simp⟩,0,rfl,Aq5 _⟩ (by have:=h.1;simp;omega);rintro⟨m,_⟩ ⟨hm,k,rfl,hk⟩;simp only at hm ⊢;have h4:=h.1;unfold Fh;refine AK (fun hh=>?_) fun hh=>Af hm
   have hk':k<x.L.length:=by simpa using hh
   simp only[AqJ (As hk'),B5,AqR,G0];refine AB (K0 d _ n (h.2 _ (AF hk')) (by omega) (by omega)) fun r hr=>Af ⟨⟨?_,k+1,Bt (by omega),hk'⟩,by simp only;rw[Bt (by omega)];omega⟩
   simp only;unfold QC;split<;>omega
  rw[FB (by omega)];omega
abbrev ZC(p:Ps)(r:(Aqr×Ps)⊕XY):Prop:=∀x q,r=.inl (x,q)->q.l.length<p.l.length/\Ez (p.l.length-q.l.length) x
def UX(n:Nat)(rec_:Ps->Option ((Aqr×Ps)⊕XY)):Prop:=∀p:Ps,p.l.length<n->TP (rec_ p) (ZC p)
section
variable {rec_:Ps->Option ((Aqr×Ps)⊕XY)}{n:Nat}
theorem MP(hr:UX n rec_)(hn:n<1000000)(p:Ps)(hp:p.l.length<=n)(op:Int)(signs:List (List UInt8))(hs:signs.length<=4) :TP (Bj rec_ p op signs) fun r=>∀x q ss,r=.inl (x,q,ss)->q.l.length<p.l.length/\Ez (p.l.length-q.l.length) x:=by
 unfold Bj;rw[BO];simp only[Ad];cases he:Vi p [40]with
 |inr e=>exact Af fun x q ss h=>by cases h
 | inl q0=>
  have hq0:=GZ he
  refine AB (Q:=fun z=>match z with
   |.inl z=>z.1.length<=q0.l.length/\z.2.2.length<=4/\EzL (q0.l.length-z.1.length) z.2.2
   |.inr (.inl _)=>False
   |.inr (.inr _)=>True) ?_ fun z hz=>?_
  ·refine AB (Q:=fun z=>match z with
    |.inl z=>z.1.length<=q0.l.length/\z.2.2.length<=4/\EzL (q0.l.length-z.1.length) z.2.2
    |.inr (.inr (.inr _))=>True
    |_=>False) ?_ fun z hz=>?_
   ·refine AX (fun v=>∃k:Nat,v.1=(k:Int)/\k<=signs.length/\v.2.1.length<=q0.l.length/\v.2.2.2.length=k/\EzL (q0.l.length-v.2.1.length) v.2.2.2) (fun v=>((signs.length:Int)-v.1).toNat) ?_ ⟨0,rfl,Aq5 _,AqT _,rfl,EzL.nil⟩ (by simp;omega);rintro⟨_,l,e,xs⟩ ⟨k,rfl,hk,hl,hx,hd⟩;simp only at hl hx hd ⊢;unfold Ca;refine AK (fun hh=>?_) fun hh=>Af ⟨hl,by simp only;omega,hd⟩
    have hk':k<signs.length:=by simpa using hh
    simp only[AqJ (As hk'),B5,AqR];refine AB (hr ⟨l,e⟩ (by show l.length<n;omega)) fun y hy=>?_
    cases y with
    |inr e=>exact Af trivial
    | inl y=>
     obtain⟨y,q⟩:=y;obtain⟨y1,y2⟩:=hy y q rfl;have y1':q.l.length<l.length:=y1;have y2':Ez (l.length-q.l.length) y:=y2;refine CY ⟨by unfold maxLen;omega,by unfold I7;omega⟩ ?_;rw[BO];simp only[Ad];cases he2:Vi q (nth signs k)with
     |inr e=>exact Af trivial
     |inl q2=>
      have hq2:=GZ he2;refine Af ⟨⟨k+1,Bt (by omega),hk',by simp only;omega,by simp[hx],hd.snoc y2' (by simp only;omega)⟩,by simp only;rw[Bt (by omega)];omega⟩
   match z,hz with
   |.inl z,hz=>exact Af hz
   |.inr (.inr (.inr z)),hz=>exact Af hz
  match z,hz with
  |.inl (l,e,xs),hz=>
   refine Af fun x q ss h=>?_
   cases h;obtain⟨h1,h2,h3⟩:=hz;simp only at h1 h2 h3;exact⟨by simp only;omega,Abq h2 h3 (by simp only;omega)⟩
  |.inr (.inr z),hz=>exact Af fun x q ss h=>by cases h
theorem P8(hr:UX n rec_)(hn:n<1000000)(p:Ps)(hp:p.l.length<=n):TP (Au rec_ p) (ZC p):=by
 unfold Au;rw[NB];simp only[Ad];rw[VM];refine AK (fun _=>?_) fun _=>?_
 ·rw[Gd];simp only[Ad];cases hi:AdH p with
  |inr e=>exact Af fun x q h=>by cases h
  | inl q=>
   obtain⟨m,q⟩:=q;have hq:=OI hi;simp only;refine AB (Ada q) fun r hu=>?_
   cases r with
   |inr e=>exact Af fun x q h=>by cases h
   |inl r=>
    obtain⟨d,q2⟩:=r;refine Af fun x q' h=>?_
    cases h;have:=hu d q2 rfl;exact⟨by simp only;omega,AbE rfl (by simp only;omega)⟩
 rw [AQ];simp only[Ad];refine AK (fun h=>?_) fun h=>?_
 ·have hq:=LJ h;refine AB (hr _ (by omega)) fun y hy=>?_
  cases y with
  |inr e=>exact Af fun x q h=>by cases h
  | inl y=>
   obtain⟨y,q⟩:=y;obtain⟨y1,y2⟩:=hy y q rfl;simp only[BO,Ad];cases he:Vi q [41]with
   |inr e=>exact Af fun x q h=>by cases h
   |inl q2=>
    have h2:=GZ he;refine Af fun x q' h=>?_
    cases h;exact⟨by omega,y2.mono (by omega)⟩
 rw [Oa h,AQ];simp only[Ad];refine AK (fun h=>?_) fun h=>?_
 ·have hq:=LJ h;refine AB (MP hr hn _ (by omega) _ _ (by decide)) fun r hh=>?_
  cases r with
  |inr e=>exact Af fun x q h=>by cases h
  |inl r=>
   obtain⟨x,q,ss⟩:=r;obtain⟨h1,h2⟩:=hh x q ss rfl;refine Af fun x q' h=>?_
   cases h;exact⟨by simp only;omega,h2.mono (by simp only;omega)⟩
 rw[Oa h,IP p S2 (by decide)];simp only[Ad];cases hc:chS p w_calls with
 | some q=>
  obtain⟨i,q⟩:=q;obtain⟨h1,h2⟩:=V6 hc;simp only[Aro];refine AB (MP hr hn q (by omega) _ _ (by decide)) fun r hh=>?_
  cases r with
  |inr e=>exact Af fun x q h=>by cases h
  |inl r=>
   obtain⟨x,q2,ss⟩:=r;obtain⟨h3,h4⟩:=hh x q2 ss rfl;refine Af fun x q' h=>?_
   cases h;exact⟨by simp only;omega,h4.mono (by simp only;omega)⟩
 | none=>
  simp only[Aq6,Arx];rw[KG p FZ (by decide)];simp only[Ad];cases hm:QH p w_attributes with
  |inr e=>exact Af fun x q h=>by cases h
  |inl q=>
   obtain⟨i,q⟩:=q;obtain⟨h1,_⟩:=MK hm;refine Af fun x q' h=>?_
   cases h;exact⟨by simp only;omega,AbE rfl (by simp only;omega)⟩
theorem TU(p:Ps):TP (Av p) fun r=>(r.1=0->r.2.l.length=p.l.length)/\(r.1≠0->r.2.l.length+1=p.l.length):=by
 unfold Av;rw[AQ];simp only[Ad];refine AK (fun h=>Af ⟨fun e=>(by cases e),fun _=>LJ h⟩) fun h=>Af ⟨fun _=>by rw[Oa h],fun e=>(e rfl).elim⟩
theorem Ack(p:Ps):TP (A4 p) fun r=>(r.1=0->r.2.l.length=p.l.length)/\(r.1≠0->r.2.l.length+1=p.l.length):=by
 unfold A4;rw[AQ];simp only[Ad];refine AK (fun h=>Af ⟨fun e=>(by cases e),fun _=>LJ h⟩) fun h=>?_
 rw[Oa h,AQ];simp only[Ad];refine AK (fun h=>Af ⟨fun e=>(by cases e),fun _=>LJ h⟩) fun h=>Af ⟨fun _=>by rw[Oa h],fun e=>(e rfl).elim⟩
theorem AgR{a b:Aqr}{op:Int}{u:Arr Int 4}{d1 d2:Nat}(h1:Ez d1 a)(h2:Ez d2 b)(e:d1+d2+1<=d):Ez d (Aqr.mk op 0 u [a,b]) :=
 Abq (x:=Aqr.mk op 0 u [a,b]) (by show[a,b].length<=4;simp) ((EzL.nil (m:=0)).snoc h1 (AqT _) |>.snoc h2 (AqT _)) (by omega)
theorem WJ(hr:UX n rec_)(hn:n<1000000)(p:Ps)(hp:p.l.length<=n):TP (AE rec_ p) (ZC p):=by
 unfold AE;refine AB (P8 hr hn p hp) fun r h0=>?_
 cases r with
 |inr e=>exact Af fun x q h=>by cases h
 | inl r=>
  obtain⟨x,q⟩:=r;obtain⟨h1,h2⟩:=h0 x q rfl;simp only
  refine AB (Q:=fun z=>match z with
   |.inl z=>z.1.length<p.l.length/\Ez (p.l.length-z.1.length) (Aqr.mk z.2.2.1 z.2.2.2.1 z.2.2.2.2.1 z.2.2.2.2.2)
   |.inr (.inl _)=>False
   |.inr (.inr _)=>True) ?_ fun z hz=>?_
  ·refine AB (TU q) fun y hy=>AB (Q:=fun z=>match z with
    |.inl z=>z.1.length<p.l.length/\Ez (p.l.length-z.1.length) (Aqr.mk z.2.2.1 z.2.2.2.1 z.2.2.2.2.1 z.2.2.2.2.2)
    |.inr (.inr (.inr _))=>True
    |_=>False) ?_ fun z hz=>?_
   ·obtain⟨op,q1⟩:=y;simp only at hy ⊢
    refine AX (fun v=>∃d:Nat,v.2.1.length<p.l.length/\Ez d (Aqr.mk v.2.2.2.1 v.2.2.2.2.1 v.2.2.2.2.2.1 v.2.2.2.2.2.2)/\(v.1=0->d+v.2.1.length<=p.l.length)/\(v.1≠0->d+1+v.2.1.length<=p.l.length)) (fun v=>v.2.1.length+(if v.1=0 then 0 else 1)) ?_
     ⟨p.l.length-q.l.length,?_,by simp only[G0];exact h2,fun e=>?_,fun e=>?_⟩ ?_
    ·rintro⟨op,l,e,a,b,c,xs⟩ ⟨d,hl,hd,g0,g1⟩;simp only at hl hd g0 g1 ⊢;unfold AH;refine AK (fun hh=>?_) fun hh=>Af ⟨hl,hd.mono ?_⟩
     ·have hop:op≠0:=by simpa using hh
      refine AB (P8 hr hn ⟨l,e⟩ (by show l.length<=n;omega)) fun r2 hh2=>?_
      cases r2 with
      |inr e=>exact Af trivial
      | inl r2=>
       obtain⟨x2,q2⟩:=r2;obtain⟨k1,k2⟩:=hh2 x2 q2 rfl;have k1':q2.l.length<l.length:=k1;have k2':Ez (l.length-q2.l.length) x2:=k2;refine AR (AB (TU q2) fun y hy=>Af ?_);have g1':=g1 hop;obtain⟨op2,q3⟩:=y;simp only at hy ⊢
       have hle:q3.l.length<=q2.l.length:=by
        by_cases e0:op2=0
        ·have:=hy.1 e0;omega
        have:=hy.2 e0;omega
       refine⟨⟨p.l.length-q2.l.length,by omega,AgR hd k2' (by omega),fun e0=>?_,fun e0=>?_⟩,?_⟩
       ·have:=hy.1 e0;omega
       ·have:=hy.2 e0;omega
       rw[AqI hop];by_cases e0:op2=0
       ·have:=hy.1 e0;rw[AqJ e0];omega
       have:=hy.2 e0;rw[AqI e0];omega
     have:op=0:=by simpa using hh
     have:=g0 this;simp only;omega
    ·simp only;by_cases e0:op=0
     ·have:=hy.1 e0;omega
     have:=hy.2 e0;omega
    ·have:=hy.1 e;simp only;omega
    ·have:=hy.2 e;simp only;omega
    simp only
    have:q1.l.length<=n:=by
     by_cases e0:op=0
     ·have:=hy.1 e0;omega
     have:=hy.2 e0;omega
    split<;>omega
   match z,hz with
   |.inl z,hz=>exact Af hz
   |.inr (.inr (.inr z)),hz=>exact Af hz
  match z,hz with
  |.inl (l,e,a,b,c,xs),hz=>
   refine Af fun x q h=>?_
   cases h;exact hz
  |.inr (.inr z),hz=>exact Af fun x q h=>by cases h
theorem UT(hr:UX n rec_)(hn:n<1000000)(p:Ps)(hp:p.l.length<=n):TP (A5 rec_ p) (ZC p):=by
 unfold A5;refine AB (WJ hr hn p hp) fun r h=>?_
 cases r with
 |inr e=>exact Af fun x q h=>by cases h
 |inl r=>exact Af h
theorem VS(hr:UX n rec_)(hn:n<1000000)(p:Ps)(hp:p.l.length<=n):TP (AD rec_ p) (ZC p):=by
 unfold AD;refine AB (UT hr hn p hp) fun r h0=>?_
 cases r with
 |inr e=>exact Af fun x q h=>by cases h
 | inl r=>
  obtain⟨x,q⟩:=r;obtain⟨h1,h2⟩:=h0 x q rfl;simp only
  refine AB (Q:=fun z=>match z with
   |.inl z=>z.1.length<p.l.length/\Ez (p.l.length-z.1.length) (Aqr.mk z.2.2.1 z.2.2.2.1 z.2.2.2.2.1 z.2.2.2.2.2)
   |.inr (.inl _)=>False
   |.inr (.inr _)=>True) ?_ fun z hz=>?_
  ·refine AB (Ack q) fun y hy=>AB (Q:=fun z=>match z with
    |.inl z=>z.1.length<p.l.length/\Ez (p.l.length-z.1.length) (Aqr.mk z.2.2.1 z.2.2.2.1 z.2.2.2.2.1 z.2.2.2.2.2)
    |.inr (.inr (.inr _))=>True
    |_=>False) ?_ fun z hz=>?_
   ·obtain⟨op,q1⟩:=y;simp only at hy ⊢
    refine AX (fun v=>∃d:Nat,v.2.1.length<p.l.length/\Ez d (Aqr.mk v.2.2.2.1 v.2.2.2.2.1 v.2.2.2.2.2.1 v.2.2.2.2.2.2)/\(v.1=0->d+v.2.1.length<=p.l.length)/\(v.1≠0->d+1+v.2.1.length<=p.l.length)) (fun v=>v.2.1.length+(if v.1=0 then 0 else 1)) ?_
     ⟨p.l.length-q.l.length,?_,by simp only[G0];exact h2,fun e=>?_,fun e=>?_⟩ ?_
    ·rintro⟨op,l,e,a,b,c,xs⟩ ⟨d,hl,hd,g0,g1⟩;simp only at hl hd g0 g1 ⊢;unfold AG;refine AK (fun hh=>?_) fun hh=>Af ⟨hl,hd.mono ?_⟩
     ·have hop:op≠0:=by simpa using hh
      refine AB (UT hr hn ⟨l,e⟩ (by show l.length<=n;omega)) fun r2 hh2=>?_
      cases r2 with
      |inr e=>exact Af trivial
      | inl r2=>
       obtain⟨x2,q2⟩:=r2;obtain⟨k1,k2⟩:=hh2 x2 q2 rfl;have k1':q2.l.length<l.length:=k1;have k2':Ez (l.length-q2.l.length) x2:=k2;refine AR (AB (Ack q2) fun y hy=>Af ?_);have g1':=g1 hop;obtain⟨op2,q3⟩:=y;simp only at hy ⊢
       have hle:q3.l.length<=q2.l.length:=by
        by_cases e0:op2=0
        ·have:=hy.1 e0;omega
        have:=hy.2 e0;omega
       refine⟨⟨p.l.length-q2.l.length,by omega,AgR hd k2' (by omega),fun e0=>?_,fun e0=>?_⟩,?_⟩
       ·have:=hy.1 e0;omega
       ·have:=hy.2 e0;omega
       rw[AqI hop];by_cases e0:op2=0
       ·have:=hy.1 e0;rw[AqJ e0];omega
       have:=hy.2 e0;rw[AqI e0];omega
     have:op=0:=by simpa using hh
     have:=g0 this;simp only;omega
    ·simp only;by_cases e0:op=0
     ·have:=hy.1 e0;omega
     have:=hy.2 e0;omega
    ·have:=hy.1 e;simp only;omega
    ·have:=hy.2 e;simp only;omega
    simp only
    have:q1.l.length<=n:=by
     by_cases e0:op=0
     ·have:=hy.1 e0;omega
     have:=hy.2 e0;omega
    split<;>omega
   match z,hz with
   |.inl z,hz=>exact Af hz
   |.inr (.inr (.inr z)),hz=>exact Af hz
  match z,hz with
  |.inl (l,e,a,b,c,xs),hz=>
   refine Af fun x q h=>?_
   cases h;exact hz
  |.inr (.inr z),hz=>exact Af fun x q h=>by cases h
theorem AbN(hr:UX n rec_)(hn:n<1000000):UX (n+1) (BQ rec_):=by
 intro p hp;unfold BQ;refine AB (VS hr hn p (by omega)) fun r h=>?_
 cases r with
 |inr e=>exact Af fun x q h=>by cases h
 |inl r=>exact Af h
end
theorem QX:∀k n,k<1000000->k<=n->UX k (AZ n)
 |0,n,_,_=>fun p h=>absurd h (ArF _)
 |k+1,0,_,h=>by omega
 |k+1,n+1,h,hn=>AbN (QX k n (by omega) (by omega)) (by omega)
theorem AfN(p:Ps)(hp:p.l.length<900000):TP (EI p) (ZC p):=QX 900000 _ (by omega) (by omega) p hp
variable{k:Nat}{s:List UInt8}{t:Aqn}{b x:UInt8}
theorem AaO{j:Nat}(h:j+k<9223372036854775807):w64 ((j:Int)+(k:Int))=((j+k:Nat):Int):=by rw[FB (by omega)];omega
theorem Sd(h:k+1<9223372036854775807):w64 ((k:Int)+1)=((k+1:Nat):Int):=by rw[FB (by omega)];omega
def isL(c:UInt8):Bool:=decide ((97:UInt8)<=c)&&decide (c<=(122:UInt8))
def isD(c:UInt8):Bool:=decide ((48:UInt8)<=c)&&decide (c<=(57:UInt8))
def IB(c:UInt8):Bool:=isL c||isD c
def isB(c:UInt8):Bool:=c==32||(c==9||(c==13||c==10))
theorem UB(c:UInt8):GN c=some (isL c):=by
 unfold GN isL;cases decide ((97:UInt8)<=c)<;>simp
theorem SW(c:UInt8):GD c=some (isD c):=by
 unfold GD isD;cases decide ((48:UInt8)<=c)<;>simp
theorem Aa7(c:UInt8):Hu c=some (IB c):=by
 unfold Hu IB;rw[UB,SW];cases isL c<;>simp
theorem AgQ(p:UInt8->Bool):∀(l:List UInt8) (k:Nat),(k<(l.takeWhile p).length->p (nth l k)=true)/\(k=(l.takeWhile p).length->k<l.length->p (nth l k)=false)
 |[],k=>by simp
 | a::l,k=>by
  rw[Ar6];cases ha:p a with
  |false=>
   simp only[Aq6,Arx,Ara,AqP];refine⟨fun h=>absurd h (by omega),fun h _=>?_⟩;subst h;simpa [nth]using ha
  | true=>
   simp only[Aro,AqP];cases k with
   |zero=>exact⟨fun _=>by simpa [nth]using ha,fun h=>absurd h (by omega)⟩
   |succ k=>
    have:=AgQ p l k;have e:nth (a::l) (k+1)=nth l k:=by simp[nth]
    rw[e];exact⟨fun h=>this.1 (by omega),fun h1 h2=>this.2 (by omega) (by omega)⟩
theorem Yw(p:UInt8->Bool):∀l:List UInt8,(l.takeWhile p).length<=l.length
 |[]=>by simp
 |a::l=>by
  rw[Ar6];have:=Yw p l;cases p a<;>simp<;>omega
theorem Qs(p:UInt8->Bool):∀l:List UInt8,l.take (l.takeWhile p).length=l.takeWhile p
 |[]=>by simp
 |a::l=>by
  rw[Ar6];have:=Qs p l;cases p a<;>simp[this]
theorem AcA(s:List UInt8)(f:UInt8->Option Bool)(p:UInt8->Bool)(hf:∀c,f c=some (p c))(hs:s.length<=1000000):J4 s f=some ((s.takeWhile p).length:Int):=by
 unfold J4;have hl:=Yw p s
 obtain⟨x,hx,hq⟩:=Ld (f:=fun v:Int=>Dj s f v) (fun v=>∃k:Nat,v=(k:Int)/\k<=(s.takeWhile p).length) (fun v=>s.length-v.toNat)
  (fun x:Unit⊕(Unit⊕Int)=>(match x with|.inl ()=>(s.length:Int)|.inr (.inl ())=>(s.length:Int)|.inr (.inr z)=>z)=((s.takeWhile p).length:Int)) (by
   rintro v ⟨k,rfl,hk⟩;have ht:=AgQ p s k;by_cases h1:k<s.length
   ·have e1:decide ((k:Int)<(s.length:Int))=true:=by simp;omega
    by_cases h2:k<(s.takeWhile p).length
    ·left;refine⟨((k+1:Nat):Int),?_,⟨k+1,rfl,by omega⟩,by simp;omega⟩;show Dj s f (k:Int)=_;unfold Dj;rw[AqJ e1,AqJ (As h1),AqR,hf,ht.1 h2,Sd (by omega)];rfl
    right;refine⟨.inr (.inr (k:Int)),?_,?_⟩
    ·show Dj s f (k:Int)=_;unfold Dj;rw[AqJ e1,AqJ (As h1),AqR,hf,ht.2 (by omega) h1];rfl
    show(k:Int)=_;omega
   right;refine⟨.inl (),?_,?_⟩
   ·show Dj s f (k:Int)=_;unfold Dj;rw[AqI (by simp;omega)]
   show(s.length:Int)=_;omega) (v0:=(0:Int)) ⟨0,rfl,by omega⟩ (by show s.length-0<_;omega)
 rw[hx];rcases x with u|(u|z)
 ·simpa using hq
 ·simpa using hq
 simpa using hq
def dg(n:Nat)(c:UInt8):Nat:=10*n+(c-48).toNat
def dval(d:List UInt8):Nat:=d.foldl dg 0
theorem UJ(d:List UInt8)(c:UInt8):dval (d++[c])=dg (dval d) c:=by simp[dval]
theorem AhR(l:List UInt8):∀n,n<=l.foldl dg n:=by
 induction l with
 |nil=>intro n;exact AqT _
 |cons c l ih=>intro n;exact ArZ (by unfold dg;omega) (ih (dg n c))
theorem Ae1(a b:List UInt8):dval a<=dval (a++b):=by
 unfold dval;rw[List.foldl_append];exact AhR b _
theorem Abw(d:List UInt8)(k:Nat):dval (d.take k)<=dval d:=by
 have:=Ae1 (d.take k) (d.drop k);rwa[ArV]at this
theorem Af4{α:Type}[Inhabited α]{l:List α}(h:k<l.length):l.take (k+1)=l.take k++[nth l k]:=by
 rw[Aq0 h];congr 2;simp[nth,h]
theorem Aph(n:Nat)(c:UInt8):dg n c<=10*n+255:=by
 have:=As3 (c-48);unfold dg;omega
def num(d:List UInt8):Int×Int:=if d.length>1/\nth d 0=48 then(0,150)else if 1099511627776<dval d then(0,2)else((dval d:Int),0)
theorem Ac2(d:List UInt8)(hd:d.length<=1000000):HH d=some (num d):=by
 unfold HH num
 have h1:(if(decide ((d.length:Int)>1))then if InR 0 d.length then some (((nth d 0)==(48:UInt8)))else none else some false:Option Bool)=some (decide (d.length>1/\nth d 0=48)):=by
  by_cases h:d.length>1
  ·rw[AqJ (by simp;omega),AqJ (by unfold InR;omega)];by_cases h2:nth d 0=48<;>simp[h,h2]
  rw[AqI (by simp;omega)];simp[h]
 rw[UK h1];by_cases hz:d.length>1/\nth d 0=48
 ·simp[hz]
 rw [AqI (by simpa using hz),AqI hz]
 obtain⟨x,hx,hq⟩:=Ld (f:=fun v:Int×Int=>Cu d v.1 v.2) (fun v=>∃k:Nat,v=((dval (d.take k):Int),(k:Int))/\k<=d.length/\dval (d.take k)<=1099511627776) (fun v=>d.length-v.2.toNat)
  (fun x:Int⊕(Int⊕(Int×Int))=>(match x with|.inl n=>(n,(0:Int))|.inr (.inl n)=>(n,(0:Int))|.inr (.inr z)=>z)=if 1099511627776<dval d then(0,2)else((dval d:Int),0)) (by
   rintro v ⟨k,rfl,hk,hv⟩;by_cases h1:k<d.length
   ·have e1:decide ((k:Int)<(d.length:Int))=true:=by simp;omega
    have hb:=Aph (dval (d.take k)) (nth d k)
    have e2:w64 ((w64 (10*(dval (d.take k):Int)))+((((nth d k)-(48:UInt8))).toNat:Int))=(dval (d.take (k+1)):Int):=by
     rw[Af4 h1,UJ];unfold dg at hb ⊢;have:=As3 (nth d k-48);have e0:w64 (10*(dval (d.take k):Int))=10*(dval (d.take k):Int):=FB (by omega);rw[e0,FB (by omega)];omega
    have e3:Cu d (dval (d.take k):Int) (k:Int)=if(decide ((dval (d.take (k+1)):Int)>1099511627776))then some (.inr (.inr (.inr (0,2))))else some (.inl ((dval (d.take (k+1)):Int),((k+1:Nat):Int))):=by
     unfold Cu;rw[AqJ e1,AqJ (As h1),AqR];show(if _ then _ else _)=_;rw[e2,Sd (by omega)];rfl
    by_cases h3:dval (d.take (k+1))<=1099511627776
    ·left;refine⟨((dval (d.take (k+1)):Int),((k+1:Nat):Int)),?_,⟨k+1,rfl,by omega,h3⟩,by simp;omega⟩;show Cu d _ _=_;rw[e3,AqI (by simp;omega)]
    right;refine⟨.inr (.inr (0,2)),?_,?_⟩
    ·show Cu d _ _=_;rw[e3,AqJ (by simp;omega)]
    have:=Abw d (k+1);show((0:Int),(2:Int))=_;rw[AqJ (by omega)]
   right;have hk':k=d.length:=by omega
   subst hk';rw[ArB]at hv ⊢;refine⟨.inl (dval d:Int),?_,?_⟩
   ·show Cu d _ _=_;unfold Cu;rw[AqI (by simp)]
   show((dval d:Int),(0:Int))=_;rw[AqI (by omega)]) (v0:=((0,0):Int×Int)) ⟨0,rfl,by omega,by simp[dval]⟩ (by show d.length-0<_;omega)
 rw[hx];rcases x with n|(n|z)
 ·simpa using hq
 ·simpa using hq
 simpa using hq
def sgn(c:UInt8):List UInt8:=IW ([]:List UInt8) tab3 c
theorem Vq(s p:List UInt8):Do s p=some (decide (s.take p.length=p)):=by
 unfold Do DD;by_cases h:p.length<=s.length
 ·rw[AqJ (by simp;omega),AqJ (by unfold InB;omega),AqR];by_cases h2:s.take p.length=p
  ·simp[h2]
  simp[h2]
 rw[AqI (by simp;omega)]
 have:¬s.take p.length=p:=fun e=>by
  have:=Arz List.length e;simp at this;omega
 simp[this]
def tok(s:List UInt8):Aqn×Int :=
 if isL (nth s 0)=true then
  if 32<(s.takeWhile IB).length then(⟨0,[],0,0⟩,2)else(⟨1,s.takeWhile IB,0,0⟩,0)
 else if isD (nth s 0)=true then(⟨2,s.takeWhile isD,(num (s.takeWhile isD)).1,0⟩,(num (s.takeWhile isD)).2)
 else if sgn (nth s 0)≠[]/\s.take (sgn (nth s 0)).length=sgn (nth s 0)then(⟨3,sgn (nth s 0),0,0⟩,0)
 else(⟨0,[],0,0⟩,150)
theorem XZ(s:List UInt8)(h0:0<s.length)(hs:s.length<=1000000):HB s=some (tok s):=by
 unfold HB tok;have hR:InR 0 s.length:=by unfold InR;omega
 have hw:=Yw IB s;have hd:=Yw isD s;rw[AqJ hR,UB];show(if isL (nth s 0)=true then _ else _)=_;by_cases h1:isL (nth s 0)=true
 ·rw[AqJ h1,AqJ h1,UK (AcA s _ IB Aa7 hs),AqJ (PV hw),AqR,Qs];by_cases h2:32<(s.takeWhile IB).length
  ·rw[AqJ (by simp;omega),AqJ h2]
  rw[AqI (by simp;omega),AqI h2]
 rw[AqI h1,AqI h1,SW];show(if isD (nth s 0)=true then _ else _)=_;by_cases h2:isD (nth s 0)=true
 ·rw[AqJ h2,AqJ h2,UK (AcA s _ isD SW hs),AqJ (PV hd),AqR,Qs,UK (Ac2 _ (by omega))]
 rw[AqI h2,AqI h2,AqJ hR];show((if(!(sgn (nth s 0)==[]))then(Do s (sgn (nth s 0))).bind fun y=>some y else some false:Option Bool).bind fun t=>if t then some (({ Kind:=3,Text:=sgn (nth s 0),N:=0,At:=0 }:Aqn),(0:Int))else some (({ Kind:=0,Text:=([]:List UInt8),N:=0,At:=0 }:Aqn),150))=_;rw[Vq];by_cases h3:sgn (nth s 0)=[]
 ·simp[h3]
 by_cases h4:s.take (sgn (nth s 0)).length=sgn (nth s 0)
 ·simp[h3,h4]
 simp[h3,h4]
theorem Ahh:∀n:Fin 256,sgn (UInt8.ofNat n.val)=[]\/(nth (sgn (UInt8.ofNat n.val)) 0=UInt8.ofNat n.val/\isL (UInt8.ofNat n.val)=false/\isD (UInt8.ofNat n.val)=false/\isB (UInt8.ofNat n.val)=false/\UInt8.ofNat n.val≠35/\(sgn (UInt8.ofNat n.val)).length<=2):=by decide +kernel
theorem Agv(c:UInt8)(h:sgn c≠[]):nth (sgn c) 0=c/\isL c=false/\isD c=false/\isB c=false/\c≠35/\(sgn c).length<=2:=by
 have:=Ahh ⟨c.toNat,As3 c⟩;have e:UInt8.ofNat c.toNat=c:=As0;simp only[e]at this;exact this.resolve_left h
theorem Afa:∀n:Fin 256,(isL (UInt8.ofNat n.val)=true->isB (UInt8.ofNat n.val)=false/\UInt8.ofNat n.val≠35/\isD (UInt8.ofNat n.val)=false)/\(isD (UInt8.ofNat n.val)=true->isB (UInt8.ofNat n.val)=false/\UInt8.ofNat n.val≠35/\isL (UInt8.ofNat n.val)=false)/\(isB (UInt8.ofNat n.val)=true->IB (UInt8.ofNat n.val)=false):=by decide +kernel
theorem RL(c:UInt8):(isL c=true->isB c=false/\c≠35/\isD c=false)/\(isD c=true->isB c=false/\c≠35/\isL c=false)/\(isB c=true->IB c=false):=by
 have:=Afa ⟨c.toNat,As3 c⟩;have e:UInt8.ofNat c.toNat=c:=As0;simpa only[e]using this
def Apb(k:Int)(x:UInt8):Bool:=if k=1 then IB x else if k=2 then isD x else false
def Tk(t:Aqn):Prop:=t.Text≠[]/\t.At=0/\((t.Kind=1/\isL (nth t.Text 0)=true/\(∀x∈t.Text,IB x=true)/\t.Text.length<=32/\t.N=0)
 \/ (t.Kind=2/\isL (nth t.Text 0)=false/\isD (nth t.Text 0)=true/\(∀x∈t.Text,isD x=true)/\num t.Text=(t.N,0))
 \/ (t.Kind=3/\isL (nth t.Text 0)=false/\isD (nth t.Text 0)=false/\t.Text=sgn (nth t.Text 0)/\t.N=0))
def Ak1(k:Int)(r:List UInt8):Prop:=∀x,r.head?=some x->Apb k x=false
theorem Ud(p:UInt8->Bool):∀l:List UInt8,(∀x∈l.takeWhile p,p x=true)/\∀x,(l.drop (l.takeWhile p).length).head?=some x->p x=false
 |[]=>by simp
 |a::l=>by
  rw[Ar6];have:=Ud p l;cases ha:p a with
  |false=>simp[ha]
  |true=>simpa [ha]using this
theorem Adf(p:UInt8->Bool):∀(t r:List UInt8),(∀x∈t,p x=true)->(∀x,r.head?=some x->p x=false)->(t++r).takeWhile p=t
 |[],[],_,_=>rfl
 |[],x::r,_,h=>by
  have:=h x rfl;simp[this]
 |a::t,r,h1,h2=>by
  have h3:=h1 a (by simp);show List.takeWhile p (a::(t++r))=_;rw[Ar6,h3,AqJ rfl,Adf p t r (fun x hx=>h1 x (by simp[hx])) h2]
theorem Akf(p:UInt8->Bool)(h0:0<s.length)(h:p (nth s 0)=true):s.takeWhile p≠[]/\nth (s.takeWhile p) 0=nth s 0:=by
 cases s with
 |nil=>simp at h0
 |cons a s=>
  have e:nth (a::s) 0=a:=rfl;rw[e]at h ⊢;rw[Ar6,h,AqJ rfl];exact⟨by simp,rfl⟩
theorem WL{t:List UInt8}(r:List UInt8)(h:t≠[]):nth (t++r) 0=nth t 0:=by
 cases t with
 |nil=>exact absurd rfl h
 |cons a t=>rfl
theorem Sw(h0:0<s.length)(h:(tok s).2=0):Tk (tok s).1/\s=(tok s).1.Text++s.drop (tok s).1.Text.length/\Ak1 (tok s).1.Kind (s.drop (tok s).1.Text.length)/\nth (tok s).1.Text 0=nth s 0:=by
 unfold tok at h ⊢;by_cases h1:isL (nth s 0)=true
 ·have hp:IB (nth s 0)=true:=by unfold IB;rw[h1];rfl
  obtain⟨n1,n2⟩:=Akf IB h0 hp;by_cases h2:32<(s.takeWhile IB).length
  ·rw[AqJ h1,AqJ h2]at h;cases h
  rw[AqJ h1,AqI h2];refine⟨⟨n1,rfl,.inl ⟨rfl,by simpa [n2]using h1,(Ud IB s).1,by simp only;omega,rfl⟩⟩,?_,(Ud IB s).2,n2⟩;show s=s.takeWhile IB++s.drop (s.takeWhile IB).length
  conv=>lhs;rw[<-ArV (s.takeWhile IB).length s,Qs]
 rw[AqI h1]at h ⊢;have h1':isL (nth s 0)=false:=by simpa using h1
 by_cases h2:isD (nth s 0)=true
 ·obtain⟨n1,n2⟩:=Akf isD h0 h2;rw[AqJ h2]at h ⊢;refine⟨⟨n1,rfl,.inr (.inl ⟨rfl,by simpa [n2]using h1',by simpa [n2]using h2,(Ud isD s).1,Prod.ext rfl h⟩)⟩,?_,(Ud isD s).2,n2⟩;show s=s.takeWhile isD++s.drop (s.takeWhile isD).length
  conv=>lhs;rw[<-ArV (s.takeWhile isD).length s,Qs]
 rw[AqI h2]at h ⊢;have h2':isD (nth s 0)=false:=by simpa using h2
 by_cases h3:sgn (nth s 0)≠[]/\s.take (sgn (nth s 0)).length=sgn (nth s 0)
 ·rw[AqJ h3];have h4:=(Agv _ h3.1).1;refine⟨⟨h3.1,rfl,.inr (.inr ⟨rfl,by simpa [h4]using h1',by simpa [h4]using h2',by simp only[h4],rfl⟩)⟩,?_,fun x _=>rfl,h4⟩;show s=sgn (nth s 0)++s.drop (sgn (nth s 0)).length
  conv=>lhs;rw[<-ArV (sgn (nth s 0)).length s,h3.2]
 rw[AqI h3]at h;cases h
theorem Agu(r:List UInt8)(h:Tk t)(he:Ak1 t.Kind r):tok (t.Text++r)=(t,0):=by
 obtain⟨k,x,n,a⟩:=t;obtain⟨h1,h2,h3⟩:=h;simp only at h1 h2 h3 he;subst h2;unfold tok;simp only;rw[WL r h1];rcases h3 with⟨rfl,a1,a2,a3,rfl⟩|⟨rfl,a0,a1,a2,a3⟩|⟨rfl,a0,a1,a2,rfl⟩
 ·rw[Adf IB x r a2 he,AqJ a1,AqI (by omega)]
 ·rw[Adf isD x r a2 he,a0,AqI (by simp),AqJ a1,a3]
 rw[a0,a1,AqI (by simp),AqI (by simp),<-a2,AqJ ⟨h1,by simp⟩]
def gb(c:Bool)(b:UInt8):Option Bool:=if(if b=10 then false else if b=35 then true else c)then some true else if isB b=true then some false else none
theorem Rg{c:Bool}(h:gb c b=none):c=false/\isB b=false/\b≠35/\b≠10:=by
 unfold gb at h;by_cases h1:(if b=10 then false else if b=35 then true else c)=true
 ·rw[AqJ h1]at h;cases h
 rw[AqI h1]at h;by_cases h2:isB b=true
 ·rw[AqJ h2]at h;cases h
 have h2':isB b=false:=by simpa using h2
 by_cases h3:b=10
 ·subst h3;exact absurd h2' (by decide)
 rw[AqI h3]at h1;by_cases h4:b=35
 ·rw[AqJ h4]at h1;exact absurd rfl h1
 rw[AqI h4]at h1;exact⟨by simpa using h1,h2',h4,h3⟩
theorem W5(h1:isB b=false)(h2:b≠35):gb false b=none:=by
 unfold gb;have h3:b≠10:=fun e=>by subst e;exact absurd h1 (by decide)
 rw[AqI h3,AqI h2,AqI (by simp),AqI (by simp[h1])]
theorem Ak4(c:Bool):gb c 10=some false:=by unfold gb;rw[AqJ rfl];rfl
theorem AiN(c:Bool):gb c 35=some true:=rfl
theorem Aci(h:b≠10):gb true b=some true:=by unfold gb;rw[AqI h];by_cases h2:b=35<;>simp[h2]
theorem Ad0(h:isB b=true):gb false b=some false:=by
 unfold gb;have h2:b≠35:=fun e=>by subst e;exact absurd h (by decide)
 by_cases h3:b=10
 ·rw[AqJ h3,AqI (by simp),AqJ h]
 rw[AqI h3,AqI h2,AqI (by simp),AqJ h]
inductive Rt:Bool->Nat->List UInt8->List Aqn->Option (Nat×Int)->Prop
  |nil (c:Bool) (o:Nat):Rt c o [] [] none
  |skip {c c':Bool} {o:Nat} {b:UInt8} {s:List UInt8} {l:List Aqn} {e:Option (Nat×Int)} (h:gb c b=some c') (r:Rt c' (o+1) s l e):Rt c o (b::s) l e
  |tok {c:Bool} {o:Nat} {b:UInt8} {s:List UInt8} {t:Aqn} {l:List Aqn} {e:Option (Nat×Int)} (h:gb c b=none) (ht:tok (b::s)=(t,0)) (r:Rt false (o+t.Text.length) ((b::s).drop t.Text.length) l e):Rt c o (b::s) ({ t with At:=o }::l) e
  |err {c:Bool} {o:Nat} {b:UInt8} {s:List UInt8} {x:Int} (h:gb c b=none) (ht:(tok (b::s)).2=x) (hx:x≠0):Rt c o (b::s) [] (some (o,x))
theorem Afl(h:(tok s).2=0):tok s=((tok s).1,0):=Prod.ext rfl h
theorem Rt.total:∀(n:Nat) (s:List UInt8) (c:Bool) (o:Nat),s.length<=n->∃l e,Rt c o s l e
 |_,[],c,o,_=>⟨_,_,.nil c o⟩
 |0,b::s,c,o,h=>absurd h (by simp)
 | n+1,b::s,c,o,h=>by
  simp only[AqP]at h;cases hg:gb c b with
  |some c'=>
   obtain⟨l,e,hr⟩:=Rt.total n s c' (o+1) (by omega);exact⟨l,e,.skip hg hr⟩
  | none=>
   by_cases hx:(Go.Proofs.YtldngkmkhfddpaaGreatDoor.tok (b::s)).2=0
   ·have hi:=(Sw (by simp) hx).1.1;have hp:=ArW.2 hi;obtain⟨l,e,hr⟩:=Rt.total n ((b::s).drop (Go.Proofs.YtldngkmkhfddpaaGreatDoor.tok (b::s)).1.Text.length) false (o+(Go.Proofs.YtldngkmkhfddpaaGreatDoor.tok (b::s)).1.Text.length) (by simp only[Ar4,AqP];omega);exact⟨_,e,.tok hg (Afl hx) hr⟩
   exact⟨[],_,.err hg rfl hx⟩
theorem T1(h:tok (b::s)=(t,0)):0<t.Text.length/\t.Text.length<=s.length+1:=by
 have h2:(tok (b::s)).2=0:=by rw[h]
 obtain⟨hk,hs,_⟩:=Sw (by simp) h2;rw[h]at hk hs;have:=Arz List.length hs;simp only[AqP,AqM]at this;exact⟨ArW.2 hk.1,by omega⟩
theorem Rt.len{c:Bool}{o:Nat}{s:List UInt8}{l:List Aqn}{e:Option (Nat×Int)}(h:Rt c o s l e):l.length<=s.length:=by
 induction h with
 |nil=>simp
 |skip h r ih=>simp only[AqP];omega
 |tok h ht r ih=>
  have:=T1 ht;simp only[Ar4,AqP]at ih ⊢;omega
 |err=>simp
theorem Rt.comment:∀{s:List UInt8} {o:Nat} {l:List Aqn} {e:Option (Nat×Int)},Rt true o s l e->(Lib.indexByte s 10=-1/\l=[]/\e=none)\/∃n:Nat,Lib.indexByte s 10=(n:Int)/\n<s.length/\Rt false (o+(n+1)) (s.drop (n+1)) l e
 |[],o,l,e,h=>by
  cases h;exact .inl ⟨rfl,rfl,rfl⟩
 | b :: s,o,l,e,h=>by
  unfold Lib.indexByte;cases h with
  |tok h ht r=>exact absurd (Rg h).1 (by simp)
  |err h ht hx=>exact absurd (Rg h).1 (by simp)
  | skip h r=>
   by_cases hb:b=10
   ·subst hb;rw[Ak4]at h;obtain rfl:=AqF h;exact .inr ⟨0,by rw[AqJ (by simp)];rfl,by simp,by simpa using r⟩
   rw[Aci hb]at h;obtain rfl:=AqF h;rw[AqI (by simpa using hb)];rcases Rt.comment r with⟨h1,h2,h3⟩|⟨n,h1,h2,h3⟩
   ·exact .inl ⟨by rw[h1];rfl,h2,h3⟩
   refine .inr ⟨n+1,?_,by simp only[AqP];omega,?_⟩
   ·rw[h1,AqI (show ¬(((n:Int)==-1)=true) by rw[ArO];omega)];omega
   have e:o+1+(n+1)=o+(n+1+1):=by omega
   rw[e]at h3;exact h3
def res(l:List Aqn):Option (Nat×Int)->List Aqn×Int×Int
 |none=>(l,0,0)
 |some (o,x)=>([],(o:Int),x)
theorem Mp(h:k<s.length):s.drop k=nth s k::s.drop (k+1):=by
 rw[Arq h];congr 1;simp[nth,h]
theorem Aa9(s:List UInt8):Dq s 10=some (Lib.indexByte s 10):=by
 unfold Dq DB Ej Xs AcI;rw[Lib.firstIdx_eq];rfl
theorem AdB(s:List UInt8)(k:Nat):(s.drop k).take (s.length-k)=s.drop k:=Arp (by simp)
theorem AjY(c:UInt8):(if(c==(32:UInt8))then some (c==(32:UInt8))else if(c==(9:UInt8))then some (c==(9:UInt8))else if(c==(13:UInt8))then some (c==(13:UInt8))else some (c==(10:UInt8)):Option Bool)=some (isB c):=by
 unfold isB;cases c==32<;>cases c==9<;>cases c==13<;>simp
theorem AjE{n:Nat}(h:n<=1000000):GX n 40:=by unfold GX maxLen I7;omega
theorem TF{src:List UInt8}{l:List Aqn}{e:Option (Nat×Int)}(h:Rt false 0 src l e)(hs:src.length<=2000):Eu src=some (res l e):=by
 unfold Eu;rw[AqI (by simp;omega)];have hll:=h.len
 obtain ⟨x,hx,hq⟩:=Ld (f:=fun v:Int×List Aqn=>Bs src v.1 v.2) (fun v=>∃(k:Nat) (acc l2:List Aqn),v=((k:Int),acc)/\k<=src.length/\acc++l2=l/\Rt false k (src.drop k) l2 e) (fun v=>src.length-v.1.toNat)
  (fun x:List Aqn⊕(List Aqn⊕(List Aqn×Int×Int))=>(match x with|.inl n=>(n,(0:Int),(0:Int))|.inr (.inl n)=>(n,(0:Int),(0:Int))|.inr (.inr z)=>z)=res l e) (by
   rintro v ⟨k,acc,l2,rfl,hk,hacc,hr⟩;have hl:=Arz List.length hacc;simp only[AqM]at hl;by_cases h1:k<src.length
   ·have e1:decide ((k:Int)<(src.length:Int))=true:=by simp;omega
    have hB:InB (k:Int) src.length:=PV hk;rw[Mp h1]at hr
    have step:Bs src (k:Int) acc=if isB (nth src k)=true then some (.inl (((k+1:Nat):Int),acc))else if(nth src k==(35:UInt8))then
      (Dq (nth src k::src.drop (k+1)) 10).bind fun y=>if(decide (y<0))then some (.inr (.inl acc))else some (.inl (w64 ((k:Int)+w64 (y+1)),acc))
      else(HB (nth src k::src.drop (k+1))).bind fun y=>if(y.2 != 0)then some (.inr (.inr (.inr ([],(k:Int),y.2))))else some (.inl (w64 ((k:Int)+(y.1.Text.length:Int)),acc++[{ y.1 with At:=(k:Int) }])):=by
     unfold Bs;rw[AqJ e1,AqJ (As h1),AqR,UK (AjY _),Sd (by omega),AqJ hB,AdB,Mp h1,AqJ hB];simp only[AqJ (show GX (acc.length+1) 40 from AjE (by omega))];rfl
    cases hr with
    | skip hg hr=>
     by_cases hb:isB (nth src k)=true
     ·rw[Ad0 hb]at hg;obtain rfl:=AqF hg;left;refine⟨(((k+1:Nat):Int),acc),?_,⟨k+1,acc,l2,rfl,by omega,hacc,hr⟩,by simp;omega⟩;show Bs src (k:Int) acc=_;rw[step,AqJ hb]
     have hc:nth src k=35:=by
      have h0:=hg;unfold gb at h0;by_cases e10:nth src k=10
      ·rw[e10]at hb;exact absurd (by decide) hb
      rw[AqI e10]at h0;by_cases e35:nth src k=35
      ·exact e35
      rw[AqI e35,AqI (by simp),AqI hb]at h0;cases h0
     rw[hc,AiN]at hg;obtain rfl:=AqF hg;have hcm:Rt true k (nth src k::src.drop (k+1)) l2 e:=.skip (by rw[hc];exact Aci (by decide)) hr
     have hstep:Bs src (k:Int) acc=if(decide (Lib.indexByte (nth src k::src.drop (k+1)) 10<0))then some (.inr (.inl acc))else some (.inl (w64 ((k:Int)+w64 (Lib.indexByte (nth src k::src.drop (k+1)) 10+1)),acc)):=by
      rw[step,AqI hb,AqJ (by simp[hc]),UK (Aa9 _)]
     rcases hcm.comment with⟨i1,i2,i3⟩|⟨n,i1,i2,i3⟩
     ·right;subst i2 i3;refine⟨.inl acc,?_,by rw[ArI]at hacc;rw[hacc];rfl⟩;show Bs src (k:Int) acc=_;rw[hstep,i1,AqJ (by decide)]
     left;simp only[AqP,Ar4]at i2;refine⟨(((k+(n+1):Nat):Int),acc),?_,⟨k+(n+1),acc,l2,rfl,by omega,hacc,?_⟩,by simp;omega⟩
     ·show Bs src (k:Int) acc=_;rw[hstep,i1,AqI (by simp),Sd (by omega),AaO (by omega)]
     rw[<-Mp h1,AtS]at i3;exact i3
    | tok hg ht hr=>
     rename_i t l2;have hb:=Rg hg;have hp:=T1 ht;simp only[Ar4]at hp;left;refine⟨(((k+t.Text.length:Nat):Int),acc++[{ t with At:=(k:Int) }]),?_,⟨k+t.Text.length,_,l2,rfl,by omega,by rw[Ars];exact hacc,?_⟩,by simp;omega⟩
     ·show Bs src (k:Int) acc=_;rw[step,AqI (by simp[hb.2.1]),AqI (by simp[hb.2.2.1]),UK (XZ _ (by simp) (by simp;omega)),ht];dsimp only;rw[AqI (by simp),AaO (by omega)]
     rw[<-Mp h1,AtS]at hr;exact hr
    |err hg ht hx=>
     rename_i x;have hb:=Rg hg;right;refine⟨.inr (.inr ([],(k:Int),x)),?_,rfl⟩;show Bs src (k:Int) acc=_;rw[step,AqI (by simp[hb.2.1]),AqI (by simp[hb.2.2.1]),UK (XZ _ (by simp) (by simp;omega)),ht,AqJ (by simpa using hx)]
   right;have hk':k=src.length:=by omega
   subst hk';rw[AsO]at hr;cases hr;refine⟨.inl acc,?_,by rw[ArI]at hacc;rw[hacc];rfl⟩;show Bs src (src.length:Int) acc=_;unfold Bs;rw[AqI (by simp)]) (v0:=((0,[]):Int×List Aqn)) ⟨0,[],l,rfl,by omega,rfl,h⟩ (by show src.length-0<_;omega)
 rw[hx];rcases x with n|(n|z)
 ·simpa using hq
 ·simpa using hq
 simpa using hq
theorem Wf{src:List UInt8}(hs:2000<src.length):Eu src=some ([],0,2):=by
 unfold Eu;rw[AqJ (by simp;omega)]
def chain(c:UInt8):Option Bool :=
 if(c==(123:UInt8))then some ((c==(123:UInt8)))else if(c==(125:UInt8))then some ((c==(125:UInt8)))else if(c==(40:UInt8))then some ((c==(40:UInt8)))else if(c==(41:UInt8))then some ((c==(41:UInt8)))else if(c==(59:UInt8))then some ((c==(59:UInt8)))
 else if(c==(44:UInt8))then some ((c==(44:UInt8)))else if(c==(43:UInt8))then some ((c==(43:UInt8)))else if(c==(45:UInt8))then some ((c==(45:UInt8)))else if(c==(42:UInt8))then some ((c==(42:UInt8)))else some ((c==(60:UInt8)))
theorem Aal{c:UInt8}(h:IB c=false):isL c=false/\isD c=false:=by
 unfold IB at h;rwa[Bool.or_eq_false_iff]at h
def er(t:Aqn):Aqn:={ t with At:=0 }
def sh(k:Nat)(t:Aqn):Aqn:={ t with At:=t.At+(k:Int) }
theorem Aqb(k:Nat)(l:List Aqn):(l.map (sh k)).map er=l.map er:=by simp[er,sh,Asi]
def Stop(x:UInt8):Prop:=isB x=true\/x=35
theorem SS(h:Stop x):IB x=false/\isD x=false:=by
 have h1:IB x=false:=by
  rcases h with h|rfl
  ·exact(RL x).2.2 h
  decide
 exact⟨h1,(Aal h1).2⟩
theorem U7(h:Stop x)(k:Int):Apb k x=false:=by
 unfold Apb;split
 ·exact(SS h).1
 split
 ·exact(SS h).2
 rfl
theorem AfK:∀n:Fin 256,∀y∈sgn (UInt8.ofNat n.val),isB y=false/\y≠35:=by decide +kernel
theorem Af8{c:UInt8}(h:Stop x):x ∉ sgn c:=fun hx=>by
 have:=AfK ⟨c.toNat,As3 c⟩;have e:UInt8.ofNat c.toNat=c:=As0;simp only[e]at this;have h2:=this x hx;rcases h with h|h
 ·rw[h2.1]at h;cases h
 exact h2.2 h
theorem AcF(p:UInt8->Bool)(x:UInt8)(r:List UInt8)(hx:p x=false):∀s:List UInt8,(s++x::r).takeWhile p=s.takeWhile p
 |[]=>by simp[hx]
 |a::s=>by
  show List.takeWhile p (a::(s++x::r))=_;rw[Ar6,Ar6,AcF p x r hx s]
theorem Aeg{w r:List UInt8}(hx:x ∉ w):((s++x::r).take w.length=w)↔(s.take w.length=w):=by
 by_cases h:w.length<=s.length
 ·rw[As8 h]
 constructor
 ·intro h2;refine absurd ?_ hx;rw[<-h2,List.take_append];refine List.mem_append_right _ ?_;obtain⟨j,hj⟩:∃j,w.length-s.length=j+1:=⟨w.length-s.length-1,by omega⟩;rw[hj,Atc];exact Aq4
 intro h2;have:=Arz List.length h2;simp only[ArH]at this;omega
theorem AiV{r:List UInt8}(h0:s≠[])(hx:Stop x):tok (s++x::r)=tok s:=by
 unfold tok;rw[WL _ h0,AcF IB x r (SS hx).1,AcF isD x r (SS hx).2];have:=Aeg (s:=s) (r:=r) (Af8 (c:=nth s 0) hx);simp only[this]
theorem Rt.shift{c:Bool}{o:Nat}{s:List UInt8}{l:List Aqn}{e:Option (Nat×Int)}(k:Nat)(h:Rt c o s l e):Rt c (o+k) s (l.map (sh k)) (e.map fun p=>(p.1+k,p.2)):=by
 induction h with
 |nil c o=>exact .nil c (o+k)
 |skip h r ih=>
  rw[Nat.add_right_comm]at ih;exact .skip h ih
 |tok h ht r ih=>
  rw[Nat.add_right_comm]at ih;have:=Rt.tok h ht ih;rw[Arc];exact this
 |err h ht hx=>exact .err h ht hx
theorem Rt.join{b:List UInt8}{m:List Aqn}{e:Option (Nat×Int)}{c:Bool}{o:Nat}{a:List UInt8}{l:List Aqn}{e0:Option (Nat×Int)}(h:Rt c o a l e0):e0=none->Rt false (o+a.length+1) b m e->Rt c o (a++10::b) (l++m) e:=by
 induction h with
 |nil c o=>exact fun _ h=>.skip (Ak4 c) h
 |skip h r ih=>
  intro h0 h2;refine .skip h (ih h0 ?_);rw[AqP]at h2;rw[show ∀a b:Nat,a+1+b+1=a+(b+1)+1 by omega];exact h2
 | tok h ht r ih=>
  intro h0 h2;have hp:=T1 ht;rename_i c o b1 s t l e;have e1:(b1::s++10::b).drop t.Text.length=(b1::s).drop t.Text.length++10::b:=List.drop_append_of_le_length (by simp only[AqP];omega);refine Rt.tok (s:=s++10::b) h ?_ ?_
  ·rw[<-ht];exact AiV (s:=b1::s) (by simp) (.inl (by decide))
  show Rt false _ ((b1::s++10::b).drop t.Text.length) _ _;rw[e1];refine ih h0 ?_;rw[Ar4,AqP];rw[AqP]at h2;have e2:o+t.Text.length+(s.length+1-t.Text.length)+1=o+(s.length+1)+1:=by omega
  rw[e2];exact h2
 |err h ht hx=>exact fun h0=>by cases h0
def NV:Bool->List UInt8->Option Bool
 |c,[]=>some c
 |c,b::s=>match gb c b with
  |some c'=>NV c' s
  |none=>none
theorem Rt.gap{s:List UInt8}{l:List Aqn}{e:Option (Nat×Int)}{c':Bool}:∀(p:List UInt8) (c:Bool) (o:Nat),NV c p=some c'->Rt c' (o+p.length) s l e->Rt c o (p++s) l e
 |[],c,o,h,r=>by
  obtain rfl:=AqF h;exact r
 | b::p,c,o,h,r=>by
  unfold NV at h;cases hg:gb c b with
  |none=>rw[hg]at h;cases h
  |some c2=>
   rw[hg]at h;rw[AqP,Ast p.length 1,<-Asg]at r;exact .skip hg (Rt.gap p c2 (o+1) h r)
theorem Ajc(h:Tk t):gb false (nth t.Text 0)=none:=by
 obtain⟨h1,_,h3⟩:=h;rcases h3 with⟨_,a,_⟩|⟨_,_,a,_⟩|⟨_,_,_,a,_⟩
 ·have:=(RL (nth t.Text 0)).1 a;exact W5 this.1 this.2.1
 ·have:=(RL (nth t.Text 0)).2.1 a;exact W5 this.1 this.2.1
 have:=Agv (nth t.Text 0) (by rw[<-a];exact h1);exact W5 this.2.2.2.1 this.2.2.2.2.1
theorem Rt.tok'{o:Nat}{r:List UInt8}{t:Aqn}{l:List Aqn}{e:Option (Nat×Int)}(h:Tk t)(he:Ak1 t.Kind r)(hr:Rt false (o+t.Text.length) r l e):Rt false o (t.Text++r) ({ t with At:=(o:Int) }::l) e:=by
 have hh:=Ajc h;have ht:=Agu r h he;have hd:(t.Text++r).drop t.Text.length=r:=List.drop_left
 obtain⟨b,x,hx⟩:∃b x,t.Text=b::x:=by
  cases hx:t.Text with
  |nil=>exact absurd hx h.1
  |cons b x=>exact⟨b,x,rfl⟩
 have e0:t.Text++r=b::(x++r):=by rw[hx];rfl
 have e1:nth t.Text 0=b:=by rw[hx];rfl
 rw[e1]at hh;rw[e0]at ht hd ⊢;refine Rt.tok hh ht ?_;rw[hd];exact hr
theorem Rt.sum{c:Bool}{o:Nat}{s:List UInt8}{l:List Aqn}{e:Option (Nat×Int)}(h:Rt c o s l e):(l.map fun t=>t.Text.length).sum<=s.length:=by
 induction h with
 |nil=>simp
 |skip h r ih=>simp only[AqP];omega
 |tok h ht r ih=>
  have:=T1 ht;simp only[Ar4,AqP,Arc,Ash]at ih ⊢;omega
 |err=>simp
def Aag(l:List Aqn):List (List UInt8):=l.map fun t=>t.Text
theorem Up(x:List UInt8)(r:List (List UInt8)):Lib.joinTail [32] (x::r)=32::(x++Lib.joinTail [32] r):=by simp[Lib.joinTail]
theorem Va(k:Int)(r:List (List UInt8)):Ak1 k (Lib.joinTail [32] r):=by
 cases r with
 |nil=>intro x hx;simp[Lib.joinTail]at hx
 |cons a r=>
  rw[Up];intro x hx;obtain rfl:=AqF hx;exact U7 (.inl (by decide)) k
theorem Ab6:∀(l:List Aqn) (o:Nat),(∀t∈l,Tk (er t))->∃m,Rt false o (Lib.joinTail [32] (Aag l)) m none/\m.map er=l.map er
 |[],o,_=>⟨[],.nil _ _,rfl⟩
 |t::l,o,h=>by
  obtain⟨m,h1,h2⟩:=Ab6 l (o+1+t.Text.length) (fun t' ht'=>h t' (by simp[ht']));refine⟨{ er t with At:=((o+1:Nat):Int) }::m,?_,by rw[Arc,Arc,h2];rfl⟩;show Rt false o (Lib.joinTail [32] (t.Text::Aag l)) _ _;rw[Up];exact .skip (by decide) (Rt.tok' (t:=er t) (h t (by simp)) (Va _ _) h1)
theorem AhN(l:List Aqn)(h:∀t∈l,Tk (er t)):∃m,Rt false 0 (Lib.join (Aag l) [32]) m none/\m.map er=l.map er:=by
 cases l with
 |nil=>exact⟨[],.nil _ _,rfl⟩
 |cons t l=>
  obtain⟨m,h1,h2⟩:=Ab6 l (0+t.Text.length) (fun t' ht'=>h t' (by simp[ht']));refine⟨{ er t with At:=((0:Nat):Int) }::m,?_,by rw[Arc,Arc,h2];rfl⟩;show Rt false 0 (Lib.join (t.Text::Aag l) [32]) _ _;rw[Lib.join_cons];exact Rt.tok' (t:=er t) (h t (by simp)) (Va _ _) h1
theorem Rt.insert{p:List UInt8}(hp:NV false p=some false)(hs:∃x r,p=x::r/\Stop x){c:Bool}{o:Nat}{s:List UInt8}{l:List Aqn}{e:Option (Nat×Int)}(h:Rt c o s l e) :e=none->∀n,n<l.length->∃k m,(nth l n).At=((o+k:Nat):Int)/\k<=s.length/\Rt c o (s.take k++(p++s.drop k)) m none/\m.map er=l.map er:=by
 induction h with
 |nil c o=>intro _ n hn;simp at hn
 |skip h r ih=>
  intro he n hn;obtain⟨k,m,h1,h2,h3,h4⟩:=ih he n hn;refine⟨k+1,m,by rw[h1];omega,by simp only[AqP];omega,?_,h4⟩;exact .skip h h3
 | tok h ht r ih=>
  intro he n hn;subst he;rename_i c o b s t l;have hi:=Sw (s:=b::s) (by simp) (by rw[ht]);rw[ht]at hi;obtain⟨hk,hsplit,hends,hhead⟩:=hi;obtain rfl:=(Rg h).1;cases n with
  |zero=>
   refine⟨0,({ t with At:=(o:Int) }::l).map (sh p.length),rfl,by simp,?_,Aqb _ _⟩;show Rt false o (p++b::s) _ none;exact Rt.gap p false o hp ((Rt.tok h ht r).shift p.length)
  | succ n=>
   obtain⟨k,m,h1,h2,h3,h4⟩:=ih rfl n (by simpa using hn);have hlen:=Arz List.length hsplit;simp only[AqM,AqP]at hlen;refine⟨t.Text.length+k,{ t with At:=(o:Int) }::m,?_,by simp only[AqP];omega,?_,by rw[Arc,Arc,h4]⟩
   ·show(nth l n).At=_;rw[h1];omega
   have e1:(b::s).take (t.Text.length+k)++(p++(b::s).drop (t.Text.length+k))=t.Text++(((b::s).drop t.Text.length).take k++(p++((b::s).drop t.Text.length).drop k)):=by
    rw[AtS,<-Ars t.Text];congr 1;rw[List.take_add];congr 1
    conv=>lhs;rw[hsplit]
    exact List.take_left
   rw[e1];refine Rt.tok' hk ?_ h3;intro x hx;cases k with
   |zero=>
    obtain⟨y,q,rfl,hy⟩:=hs;obtain rfl:=AqF hx;exact U7 hy _
   | succ k=>
    cases hd:(b::s).drop t.Text.length with
    |nil=>rw[hd]at h2;simp at h2
    |cons y q=>
     rw[hd]at hx hends;exact hends x hx
 |err h ht hx=>intro he;cases he
theorem Rt.head{c:Bool}{o:Nat}{s:List UInt8}{l:List Aqn}{e:Option (Nat×Int)}(h:Rt c o s l e):e=none->match l with
  |[]=>∃c',NV c s=some c'
  |t::l'=>∃g r,s=g++(t.Text++r)/\NV c g=some false/\t.At=((o+g.length:Nat):Int)/\t.Text≠[]/\Rt false (o+g.length+t.Text.length) r l' none:=by
 induction h with
 |nil c o=>exact fun _=>⟨c,rfl⟩
 | skip h r ih=>
  intro he;have:=ih he;rename_i c c' o b s l e;cases l with
  |nil=>
   obtain⟨c2,h2⟩:=this;exact⟨c2,by unfold NV;rw[h];exact h2⟩
  |cons t l=>
   obtain⟨g,q,h1,h2,h3,h4,h5⟩:=this;have e1:∀n,o+1+g.length+n=o+(b::g).length+n:=fun n=>by simp only[AqP];omega
   refine⟨b::g,q,by rw[h1];rfl,by unfold NV;rw[h];exact h2,?_,h4,?_⟩
   ·rw[h3];simp only[AqP];omega
   rw[<-e1];exact h5
 |tok h ht r ih=>
  intro he;subst he;rename_i c o b s t l;have hi:=Sw (s:=b::s) (by simp) (by rw[ht]);rw[ht]at hi;obtain⟨hk,hsplit,hends,hhead⟩:=hi;exact⟨[],_,hsplit,by rw[(Rg h).1];rfl,rfl,hk.1,r⟩
 |err h ht hx=>intro he;cases he
end Go.Proofs.YtldngkmkhfddpaaGreatDoor
