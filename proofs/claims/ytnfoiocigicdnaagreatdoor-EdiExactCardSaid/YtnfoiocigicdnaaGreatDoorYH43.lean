/-
  Part 43.
-/
import Derived.Test.YtnfoiocigicdnaaGreatDoorYH40
import Derived.Test.YtnfoiocigicdnaaGreatDoorYH42
import Derived.KernelRfl
namespace Go.Proofs.YtnfoiocigicdnaaGreatDoor
open Go.Rv
set_option linter.unusedVariables false
set_option linter.unusedSimpArgs false
set_option maxRecDepth 20000
set_option maxHeartbeats 4000000
theorem Oj {a r} (h : N5 a = some r) : Con B 21 [.agg [i64 a.Zb,i64 a.Ref.Za,i64 a.Ref.No,i64 a.Ze,i64 a.Zf,i64 a.Zg,i64 a.Zh,i64 a.Zi,i64 a.To,i64 a.Code,i64 a.Zj,i64 a.Zk,i64 a.Zl,i64 a.Zm,.str a.Zn,.sl false (L Ad a.Zo)]] [] (fun r' σ' => r' = .agg [i64 r.Zb,i64 r.N,.sl false (L cU8 r.B),.sl false (L cApi_Value r.L)]∧σ' = []):=by
 refine Cw 70 [.cell 2 55] Tryz.func21 (fun F hE => ?_) h
 unfold N5
 refine T0 [1,2] ?_
 refine Bd fun bF av =>Bd fun aw ax =>Bd fun ay az =>Bd fun bG aA =>Lt fun f aB =>De (fr':=[(1,_),(2,_),(3,.bs true 2 (f.length) 0 (f.length))]) (σ':=[_,_,.buf 4 (L cApi_Value f) false]) [[],[0],[0,1],[],[3],[3,4],[0,1,2,3,4,5],[],[7],[7,8],[0,1,2,3,4,5,6,7,8,9],[0,1,2,3,4,5,6,7,8,9,10],[0,1,2,3,4,5,6,7,8,9,10,11],[0,1,2,3,4,5,6,7,8,9,10,11,12],[0,1,2,3,4,5,6,7,8,9,10,11,12,13]] [1,2,3] (An (l:=[(12,_,_,_),(16,_,_,_),(20,_,_,_)]) (m:=[(22,59,[.sl false (L cApi_Value ([aw,ay] : List Api_Value))],[.box [i64 a.Zb,i64 a.Ref.Za,i64 a.Ref.No,i64 a.Ze,i64 a.Zf,i64 a.Zg,i64 a.Zh,i64 a.Zi,i64 a.To,i64 a.Code,i64 a.Zj,i64 a.Zk,i64 a.Zl,i64 a.Zm,.str a.Zn,.sl false (L Ad a.Zo)] false,.box [i64 0,i64 0,.sl true (L cU8 ([])),.sl true (L cApi_Value ([]))] false],_,_)]) ⟨A3  av,A3  ax,A3  az,trivial⟩ ⟨(wc (Kk aA) []),trivial⟩) (Ev (by simp only [go_sem,aB];exact Al)) ?_
 refine Ja (fun b => ⟨Au 70 [(1,.ref 0 0),(2,.ref 1 0),(3,.bs false 2 (b.length) 0 (b.length))],[.box [i64 a.Zb,i64 a.Ref.Za,i64 a.Ref.No,i64 a.Ze,i64 a.Zf,i64 a.Zg,i64 a.Zh,i64 a.Zi,i64 a.To,i64 a.Code,i64 a.Zj,i64 a.Zk,i64 a.Zl,i64 a.Zm,.str a.Zn,.sl false (L Ad a.Zo)] false,.box [i64 0,i64 0,.sl true (L cU8 ([])),.sl true (L cApi_Value ([]))] false,.buf 4 (L cApi_Value b) false]⟩) ?_ ?_
 ·intro bH
  refine Te [1,2,3,24,25] (An (l:=[]) (m:=[(24,51,[.ref 0 0],[.box [i64 a.Zb,i64 a.Ref.Za,i64 a.Ref.No,i64 a.Ze,i64 a.Zf,i64 a.Zg,i64 a.Zh,i64 a.Zi,i64 a.To,i64 a.Code,i64 a.Zj,i64 a.Zk,i64 a.Zl,i64 a.Zm,.str a.Zn,.sl false (L Ad a.Zo)] false,.box [i64 0,i64 0,.sl true (L cU8 ([])),.sl true (L cApi_Value ([]))] false,.buf 4 (L cApi_Value f) false],.agg [.ref 0 3,.ref 0 4,.ref 0 5,.ref 0 6,.ref 0 7,.ref 0 8,.ref 0 9,.ref 0 10,.ref 0 11,.ref 0 12,.ref 0 13],[.box [i64 a.Zb,i64 a.Ref.Za,i64 a.Ref.No,i64 a.Ze,i64 a.Zf,i64 a.Zg,i64 a.Zh,i64 a.Zi,i64 a.To,i64 a.Code,i64 a.Zj,i64 a.Zk,i64 a.Zl,i64 a.Zm,.str a.Zn,.sl false (L Ad a.Zo)] false,.box [i64 0,i64 0,.sl true (L cU8 ([])),.sl true (L cApi_Value ([]))] false,.buf 4 (L cApi_Value f) false])]) trivial ⟨Ba,trivial⟩) Ev ?_
  refine Sb ?_
  refine Ul 17 ?_
  refine Ug (m:=16) ?_
  refine T0 [1,2,3,24,25,26] ?_
  refine Sq <|Ct <|Sk <|Tn <|Sq <|Sb <|?_
  have ae : InR 0 11:=by decide
  refine Te [1,2,3,5,24,25] Ac (Ev (by simp only [go_sem,ae,ae.2];exact Al)) ?_
  refine Bd fun bI aC =>Ck fun aD =>Lt fun n aE =>Fe (fr':=[(1,_),(2,_),(3,.bs false 2 (n.length) 0 (n.length)),(24,_),(25,_)]) (σ':=[_,_,.buf 4 (L cApi_Value n) false,_]) [1,2,3,24,25] (o1 32 (A3 aC)) (Ev (by simp only [go_sem,aD,aE];exact Al)) ?_
  refine Bn <|Tn <|?_
  have aF : w64 1 = 1:=by decide
  refine Fe [1,2,3,24,25] Ac (Ev (by simp only [go_sem,aF];exact Al)) ?_
  refine Un ?_
  refine Ug (m:=15) ?_
  refine T0 [1,2,3,24,25,26] ?_
  refine Sq <|Ct <|Sk <|Tn <|Sq <|Sb <|?_
  have af : InR 1 11:=by decide
  refine Te [1,2,3,5,24,25] Ac (Ev (by simp only [go_sem,af,af.2];exact Al)) ?_
  refine Bd fun bJ aG =>Ck fun aH =>Lt fun o aI =>Fe (fr':=[(1,_),(2,_),(3,.bs false 2 (o.length) 0 (o.length)),(24,_),(25,_)]) (σ':=[_,_,.buf 4 (L cApi_Value o) false,_,_]) [1,2,3,24,25] (o1 32 (A3 aG)) (Ev (by simp only [go_sem,aH,aI];exact Al)) ?_
  refine Bn <|Tn <|?_
  have aJ : w64 2 = 2:=by decide
  refine Fe [1,2,3,24,25] Ac (Ev (by simp only [go_sem,aJ];exact Al)) ?_
  refine Un ?_
  refine Ug (m:=14) ?_
  refine T0 [1,2,3,24,25,26] ?_
  refine Sq <|Ct <|Sk <|Tn <|Sq <|Sb <|?_
  have ag : InR 2 11:=by decide
  refine Te [1,2,3,5,24,25] Ac (Ev (by simp only [go_sem,ag,ag.2];exact Al)) ?_
  refine Bd fun bK aK =>Ck fun aL =>Lt fun p aM =>Fe (fr':=[(1,_),(2,_),(3,.bs false 2 (p.length) 0 (p.length)),(24,_),(25,_)]) (σ':=[_,_,.buf 4 (L cApi_Value p) false,_,_,_]) [1,2,3,24,25] (o1 32 (A3 aK)) (Ev (by simp only [go_sem,aL,aM];exact Al)) ?_
  refine Bn <|Tn <|?_
  have aN : w64 3 = 3:=by decide
  refine Fe [1,2,3,24,25] Ac (Ev (by simp only [go_sem,aN];exact Al)) ?_
  refine Un ?_
  refine Ug (m:=13) ?_
  refine T0 [1,2,3,24,25,26] ?_
  refine Sq <|Ct <|Sk <|Tn <|Sq <|Sb <|?_
  have ah : InR 3 11:=by decide
  refine Te [1,2,3,5,24,25] Ac (Ev (by simp only [go_sem,ah,ah.2];exact Al)) ?_
  refine Bd fun bL aO =>Ck fun aP =>Lt fun q aQ =>Fe (fr':=[(1,_),(2,_),(3,.bs false 2 (q.length) 0 (q.length)),(24,_),(25,_)]) (σ':=[_,_,.buf 4 (L cApi_Value q) false,_,_,_,_]) [1,2,3,24,25] (o1 32 (A3 aO)) (Ev (by simp only [go_sem,aP,aQ];exact Al)) ?_
  refine Bn <|Tn <|?_
  have aR : w64 4 = 4:=by decide
  refine Fe [1,2,3,24,25] Ac (Ev (by simp only [go_sem,aR];exact Al)) ?_
  refine Un ?_
  refine Ug (m:=12) ?_
  refine T0 [1,2,3,24,25,26] ?_
  refine Sq <|Ct <|Sk <|Tn <|Sq <|Sb <|?_
  have ai : InR 4 11:=by decide
  refine Te [1,2,3,5,24,25] Ac (Ev (by simp only [go_sem,ai,ai.2];exact Al)) ?_
  refine Bd fun bM aS =>Ck fun aT =>Lt fun s aU =>Fe (fr':=[(1,_),(2,_),(3,.bs false 2 (s.length) 0 (s.length)),(24,_),(25,_)]) (σ':=[_,_,.buf 4 (L cApi_Value s) false,_,_,_,_,_]) [1,2,3,24,25] (o1 32 (A3 aS)) (Ev (by simp only [go_sem,aT,aU];exact Al)) ?_
  refine Bn <|Tn <|?_
  have aV : w64 5 = 5:=by decide
  refine Fe [1,2,3,24,25] Ac (Ev (by simp only [go_sem,aV];exact Al)) ?_
  refine Un ?_
  refine Ug (m:=11) ?_
  refine T0 [1,2,3,24,25,26] ?_
  refine Sq <|Ct <|Sk <|Tn <|Sq <|Sb <|?_
  have aj : InR 5 11:=by decide
  refine Te [1,2,3,5,24,25] Ac (Ev (by simp only [go_sem,aj,aj.2];exact Al)) ?_
  refine Bd fun bN aW =>Ck fun aX =>Lt fun t aY =>Fe (fr':=[(1,_),(2,_),(3,.bs false 2 (t.length) 0 (t.length)),(24,_),(25,_)]) (σ':=[_,_,.buf 4 (L cApi_Value t) false,_,_,_,_,_,_]) [1,2,3,24,25] (o1 32 (A3 aW)) (Ev (by simp only [go_sem,aX,aY];exact Al)) ?_
  refine Bn <|Tn <|?_
  have aZ : w64 6 = 6:=by decide
  refine Fe [1,2,3,24,25] Ac (Ev (by simp only [go_sem,aZ];exact Al)) ?_
  refine Un ?_
  refine Ug (m:=10) ?_
  refine T0 [1,2,3,24,25,26] ?_
  refine Sq <|Ct <|Sk <|Tn <|Sq <|Sb <|?_
  have ak : InR 6 11:=by decide
  refine Te [1,2,3,5,24,25] Ac (Ev (by simp only [go_sem,ak,ak.2];exact Al)) ?_
  refine Bd fun bO a0 =>Ck fun a1 =>Lt fun u a2 =>Fe (fr':=[(1,_),(2,_),(3,.bs false 2 (u.length) 0 (u.length)),(24,_),(25,_)]) (σ':=[_,_,.buf 4 (L cApi_Value u) false,_,_,_,_,_,_,_]) [1,2,3,24,25] (o1 32 (A3 a0)) (Ev (by simp only [go_sem,a1,a2];exact Al)) ?_
  refine Bn <|Tn <|?_
  have a3 : w64 7 = 7:=by decide
  refine Fe [1,2,3,24,25] Ac (Ev (by simp only [go_sem,a3];exact Al)) ?_
  refine Un ?_
  refine Ug (m:=9) ?_
  refine T0 [1,2,3,24,25,26] ?_
  refine Sq <|Ct <|Sk <|Tn <|Sq <|Sb <|?_
  have al : InR 7 11:=by decide
  refine Te [1,2,3,5,24,25] Ac (Ev (by simp only [go_sem,al,al.2];exact Al)) ?_
  refine Bd fun bP a4 =>Ck fun a5 =>Lt fun w a6 =>Fe (fr':=[(1,_),(2,_),(3,.bs false 2 (w.length) 0 (w.length)),(24,_),(25,_)]) (σ':=[_,_,.buf 4 (L cApi_Value w) false,_,_,_,_,_,_,_,_]) [1,2,3,24,25] (o1 32 (A3 a4)) (Ev (by simp only [go_sem,a5,a6];exact Al)) ?_
  refine Bn <|Tn <|?_
  have a7 : w64 8 = 8:=by decide
  refine Fe [1,2,3,24,25] Ac (Ev (by simp only [go_sem,a7];exact Al)) ?_
  refine Un ?_
  refine Ug (m:=8) ?_
  refine T0 [1,2,3,24,25,26] ?_
  refine Sq <|Ct <|Sk <|Tn <|Sq <|Sb <|?_
  have am : InR 8 11:=by decide
  refine Te [1,2,3,5,24,25] Ac (Ev (by simp only [go_sem,am,am.2];exact Al)) ?_
  refine Bd fun bQ a8 =>Ck fun a9 =>Lt fun x ba =>Fe (fr':=[(1,_),(2,_),(3,.bs false 2 (x.length) 0 (x.length)),(24,_),(25,_)]) (σ':=[_,_,.buf 4 (L cApi_Value x) false,_,_,_,_,_,_,_,_,_]) [1,2,3,24,25] (o1 32 (A3 a8)) (Ev (by simp only [go_sem,a9,ba];exact Al)) ?_
  refine Bn <|Tn <|?_
  have bb : w64 9 = 9:=by decide
  refine Fe [1,2,3,24,25] Ac (Ev (by simp only [go_sem,bb];exact Al)) ?_
  refine Un ?_
  refine Ug (m:=7) ?_
  refine T0 [1,2,3,24,25,26] ?_
  refine Sq <|Ct <|Sk <|Tn <|Sq <|Sb <|?_
  have an : InR 9 11:=by decide
  refine Te [1,2,3,5,24,25] Ac (Ev (by simp only [go_sem,an,an.2];exact Al)) ?_
  refine Bd fun bR bc =>Ck fun bd =>Lt fun y be =>Fe (fr':=[(1,_),(2,_),(3,.bs false 2 (y.length) 0 (y.length)),(24,_),(25,_)]) (σ':=[_,_,.buf 4 (L cApi_Value y) false,_,_,_,_,_,_,_,_,_,_]) [1,2,3,24,25] (o1 32 (A3 bc)) (Ev (by simp only [go_sem,bd,be];exact Al)) ?_
  refine Bn <|Tn <|?_
  have bf : w64 10 = 10:=by decide
  refine Fe [1,2,3,24,25] Ac (Ev (by simp only [go_sem,bf];exact Al)) ?_
  refine Un ?_
  refine Ug (m:=6) ?_
  refine T0 [1,2,3,24,25,26] ?_
  refine Sq <|Ct <|Sk <|Tn <|Sq <|Sb <|?_
  have ao : InR 10 11:=by decide
  refine Te [1,2,3,5,24,25] Ac (Ev (by simp only [go_sem,ao,ao.2];exact Al)) ?_
  refine Bd fun bS bg =>Ck fun bh =>Lt fun z bi =>Fe (fr':=[(1,_),(2,_),(3,.bs false 2 (z.length) 0 (z.length)),(24,_),(25,_)]) (σ':=[_,_,.buf 4 (L cApi_Value z) false,_,_,_,_,_,_,_,_,_,_,_]) [1,2,3,24,25] (o1 32 (A3 bg)) (Ev (by simp only [go_sem,bh,bi];exact Al)) ?_
  refine Bn <|Tn <|?_
  have bj : w64 11 = 11:=by decide
  refine Fe [1,2,3,24,25] Ac (Ev (by simp only [go_sem,bj];exact Al)) ?_
  refine Un ?_
  refine Ug (m:=5) ?_
  refine T0 [1,2,3,24,25,26] ?_
  exact Sq <|Cf <|Sx <|Tx <|Ux <|Bx <|Jm (ws [0,1,2])
 intro b
 refine Bd fun c bk =>Te [1,2,3,6] (An (l:=[]) (m:=[(36,59,[.sl true (L cApi_Value ([]))],[.box [i64 a.Zb,i64 a.Ref.Za,i64 a.Ref.No,i64 a.Ze,i64 a.Zf,i64 a.Zg,i64 a.Zh,i64 a.Zi,i64 a.To,i64 a.Code,i64 a.Zj,i64 a.Zk,i64 a.Zl,i64 a.Zm,.str a.Zn,.sl false (L Ad a.Zo)] false,.box [i64 0,i64 0,.sl true (L cU8 ([])),.sl true (L cApi_Value ([]))] false,.buf 4 (L cApi_Value b) false],_,_)]) trivial ⟨(wc (Pa bk) []),trivial⟩) Ev ?_
 refine Ja (fun d => ⟨Au 70 [(1,.ref 0 0),(2,.ref 1 0),(3,.bs false 2 (b.length) 0 (b.length)),(6,.ref 3 0)],[.box [i64 a.Zb,i64 a.Ref.Za,i64 a.Ref.No,i64 a.Ze,i64 a.Zf,i64 a.Zg,i64 a.Zh,i64 a.Zi,i64 a.To,i64 a.Code,i64 a.Zj,i64 a.Zk,i64 a.Zl,i64 a.Zm,.str a.Zn,.sl false (L Ad a.Zo)] false,.box [i64 0,i64 0,.sl true (L cU8 ([])),.sl true (L cApi_Value ([]))] false,.buf 4 (L cApi_Value b) false,.box [i64 c.Zb,i64 c.N,.sl true (L cU8 ([])),.bs false 4 (d.length) 0 (d.length)] false,.buf 4 (L cApi_Value d) false]⟩) ?_ ?_
 ·intro bT
  refine T0 [1,2,3,6,38,39,40] ?_
  refine Sb ?_
  refine Lo (fun (v : Int×List Api_Value) => (⟨Au 70 [(1,.ref 0 0),(2,.ref 1 0),(3,.bs false 2 (b.length) 0 (b.length)),(6,.ref 3 0),(38,.sl false (L Ad a.Zo)),(39,i64 (a.Zo.length : Int)),(40,i64 v.1)],[.box [i64 a.Zb,i64 a.Ref.Za,i64 a.Ref.No,i64 a.Ze,i64 a.Zf,i64 a.Zg,i64 a.Zh,i64 a.Zi,i64 a.To,i64 a.Code,i64 a.Zj,i64 a.Zk,i64 a.Zl,i64 a.Zm,.str a.Zn,.sl false (L Ad a.Zo)] false,.box [i64 0,i64 0,.sl true (L cU8 ([])),.sl true (L cApi_Value ([]))] false,.buf 4 (L cApi_Value b) false,.box [i64 c.Zb,i64 c.N,.sl true (L cU8 ([])),.bs false 4 (v.2.length) 0 (v.2.length)] false,.buf 4 (L cApi_Value v.2) false]⟩ : St)) ((Mi 3 3 4 rfl rfl).trans (ws [0,1,2,3,4])) ?_
  rintro ⟨aa,e⟩ bU bl bm bn
  show Mb a aa e = some bl→_
  unfold Mb
  refine T0 [1,2,3,6,38,39,40,41] ?_
  refine Sq <|Cd ?_ ?_
  ·refine Sk <|Tn <|Sq <|Sb <|Ck fun bo =>Lt fun g bp =>Lt fun i bq =>Lt fun j br =>Te (σ':=[_,_,_,_,_,.box [i64 g,i64 i,.bool j] false]) [1,2,3,6,8,38,39,40] Ac (Ev (by simp only [go_sem,qR bo,bp,bq,br];exact Al)) ?_
   refine T0 [1,2,3,6,8,9,38,39,40] ?_
   refine Ja (fun ap => ⟨Au 70 [(1,.ref 0 0),(2,.ref 1 0),(3,.bs false 2 (b.length) 0 (b.length)),(6,.ref 3 0),(8,.ref 4 0),(9,i64 ap),(38,.sl false (L Ad a.Zo)),(39,i64 (a.Zo.length : Int)),(40,i64 aa)],[.box [i64 a.Zb,i64 a.Ref.Za,i64 a.Ref.No,i64 a.Ze,i64 a.Zf,i64 a.Zg,i64 a.Zh,i64 a.Zi,i64 a.To,i64 a.Code,i64 a.Zj,i64 a.Zk,i64 a.Zl,i64 a.Zm,.str a.Zn,.sl false (L Ad a.Zo)] false,.box [i64 0,i64 0,.sl true (L cU8 ([])),.sl true (L cApi_Value ([]))] false,.buf 4 (L cApi_Value b) false,.box [i64 c.Zb,i64 c.N,.sl true (L cU8 ([])),.bs false 5 (e.length) 0 (e.length)] false,.box [i64 g,i64 i,.bool j] false,.buf 4 (L cApi_Value e) false]⟩) ?_ ?_
   ·intro bV
    refine T0 [1,2,3,6,8,9,38,39,40,45] ?_
    refine Cd ?_ ?_
    ·refine F0 [1,2,3,6,8,9,38,39,40] ?_
     exact Jm (ws [0,1,2,3,5,4])
    ·exact Sk <|Jm (ws [0,1,2,3,5,4])
   intro ap
   refine Bd fun bt bu =>Bd fun bv bw =>Bd fun bx bz =>Bd fun ab bA =>Ck fun aq =>Lt fun ac ar =>?_
   intro h
   refine Ac0 hE mixed [[],[0],[],[2],[2,3],[],[5],[2,3,4,5,6],[],[2,3,4,5,6,7,8],[2,3,4,5,6,7,8,9],[2,3,4,5,6,7,8,9,10],[2,3,4,5,6,7,8,9,10,11],[0,1,2,3,4,5,6,7,8,9,10,11,12],[0,1,2,3,4,5,6,7,8,9,10,11,12,13],[0,1,2,3,4,5,6,7,8,9,10,11,12,13,14]] (by kernel_rfl) 11 [0,1] [1,2,3,6,38,39,40,46] (by kernel_rfl) (D4 R1) (fr':=[(1,.ref 0 0),(2,.ref 1 0),(3,.bs false 2 (b.length) 0 (b.length)),(6,.ref 3 0),(38,.sl false (L Ad a.Zo)),(39,i64 (a.Zo.length : Int)),(40,i64 aa),(46,.ref 3 3)]) (σ':=[.box [i64 a.Zb,i64 a.Ref.Za,i64 a.Ref.No,i64 a.Ze,i64 a.Zf,i64 a.Zg,i64 a.Zh,i64 a.Zi,i64 a.To,i64 a.Code,i64 a.Zj,i64 a.Zk,i64 a.Zl,i64 a.Zm,.str a.Zn,.sl false (L Ad a.Zo)] false,.box [i64 0,i64 0,.sl true (L cU8 ([])),.sl true (L cApi_Value ([]))] false,.buf 4 (L cApi_Value b) false,.box [i64 c.Zb,i64 c.N,.sl true (L cU8 ([])),.bs false 5 (ac.length) 0 (ac.length)] false,.box [i64 g,i64 i,.bool j] false,.buf 4 (L cApi_Value ac) false,.buf 4 (L cApi_Value ([(Api_Value.mk ab.Zb ab.N ([]) ab.L)] : List Api_Value)) false]) ⟨_,_,_,_,_,_,_,rfl,?_,(An (l:=[(50,_,_,_),(53,_,_,_),(55,_,_,_)]) (m:=[(57,59,[.sl false (L cApi_Value ([bt,bv,bx] : List Api_Value))],[.box [i64 a.Zb,i64 a.Ref.Za,i64 a.Ref.No,i64 a.Ze,i64 a.Zf,i64 a.Zg,i64 a.Zh,i64 a.Zi,i64 a.To,i64 a.Code,i64 a.Zj,i64 a.Zk,i64 a.Zl,i64 a.Zm,.str a.Zn,.sl false (L Ad a.Zo)] false,.box [i64 0,i64 0,.sl true (L cU8 ([])),.sl true (L cApi_Value ([]))] false,.buf 4 (L cApi_Value b) false,.box [i64 c.Zb,i64 c.N,.sl true (L cU8 ([])),.bs false 5 (e.length) 0 (e.length)] false,.box [i64 g,i64 i,.bool j] false,.buf 4 (L cApi_Value e) false],_,_)]) ⟨A3  bu,A3  bw,A3  bz,trivial⟩ ⟨(wc (Kk bA) []),trivial⟩),?_⟩ ?_
   ·subst ar;simp only [go_sem,aq]
   ·subst ar;simp only [go_sem,aq]
   revert h
   refine Bn <|Tn <|F0 [1,2,3,6,38,39,40] ?_
   exact Ln (ws [0,1,2,3,5])
  ·refine Sx <|Tx <|Ly bn bm <|Bx <|?_
   exact Jm ((ws (l':=[(1,.ref 0 0),(2,.ref 1 0),(3,.bs false 2 (b.length) 0 (b.length)),(6,.ref 3 0)]) (σ':=[.box [i64 a.Zb,i64 a.Ref.Za,i64 a.Ref.No,i64 a.Ze,i64 a.Zf,i64 a.Zg,i64 a.Zh,i64 a.Zi,i64 a.To,i64 a.Code,i64 a.Zj,i64 a.Zk,i64 a.Zl,i64 a.Zm,.str a.Zn,.sl false (L Ad a.Zo)] false,.box [i64 0,i64 0,.sl true (L cU8 ([])),.sl true (L cApi_Value ([]))] false,.buf 4 (L cApi_Value b) false,.box [i64 c.Zb,i64 c.N,.sl true (L cU8 ([])),.bs false 4 (e.length) 0 (e.length)] false,.buf 4 (L cApi_Value e) false]) [0,1,2,3,4]).trans (ws [0,1,2,3,4]))
 intro d
 refine Rw (Iv 3 3 rfl rfl rfl gs gs) ?_
 refine Bd fun k bB =>Ck fun bC =>Bd fun au bD =>Lt fun ad bE =>De (σ':=[_,.box [i64 au.Zb,i64 au.N,.sl true (L cU8 ([])),.bs false 2 (ad.length) 0 (ad.length)] false,.buf 4 (L cApi_Value ad) false,_,_,_]) [[],[],[1],[1,2],[],[1,2,3,4],[0,1,2,3,4,5],[0,1,2,3,4,5,6],[0,1,2,3,4,5,6,7]] [2] (An (l:=[(65,_,_,_)]) (m:=[(69,59,[.bs false 2 ((b ++ ([k,(Api_Value.mk c.Zb c.N ([]) d)] : List Api_Value)).length) 0 ((b ++ ([k,(Api_Value.mk c.Zb c.N ([]) d)] : List Api_Value)).length)],[.box [i64 a.Zb,i64 a.Ref.Za,i64 a.Ref.No,i64 a.Ze,i64 a.Zf,i64 a.Zg,i64 a.Zh,i64 a.Zi,i64 a.To,i64 a.Code,i64 a.Zj,i64 a.Zk,i64 a.Zl,i64 a.Zm,.str a.Zn,.sl false (L Ad a.Zo)] false,.box [i64 0,i64 0,.sl true (L cU8 ([])),.sl true (L cApi_Value ([]))] false,.buf 4 (L cApi_Value (b ++ ([k,(Api_Value.mk c.Zb c.N ([]) d)] : List Api_Value))) false,.box [i64 c.Zb,i64 c.N,.sl true (L cU8 ([])),.sl false (L cApi_Value d)] false,.buf 4 (L cApi_Value d) true,.buf 4 (L cApi_Value ([k,(Api_Value.mk c.Zb c.N ([]) d)] : List Api_Value)) false],_,_)]) ⟨Xy  bB,trivial⟩ ⟨(wc (Qx bD) [2]),trivial⟩) (Ev (by simp only [go_sem,bC,bE];exact Al)) ?_
 exact Sr <|Rr
theorem Ns {a : List UInt8} {b : List UInt8} {r : Int} (h : Mo a b = some r) : Con B 113 [.sl false (L cU8 a),.sl false (L cU8 b)] [] (fun r' σ' => r' = i64 r∧σ' = []) :=
 Aax Tryz.func113 (by decide +kernel) rfl (by kernel_rfl) (by kernel_rfl) h
theorem Kg {a r} (h : H2 a = some r) : Con B 112 [i64 a] [] (fun r' σ' => r' = .bool r∧σ' = []):=by
 refine Cw 6 [.tmp 2] Tryz.func112 (fun F hE => ?_) h
 unfold H2
 refine T0 [0] ?_
 refine T0 [2] ?_
 exact Sr <|Rr
theorem I6 {a b r} (h : G3 a b = some r) : Con B 74 [i64 a,i64 b] [] (fun r' σ' => r' = i64 r∧σ' = []):=by
 refine Cw 20 [.tmp 4] Tryz.func74 (fun F hE => ?_) h
 unfold G3
 refine T0 [0,1] ?_
 refine Bd fun e c =>Te [0,1,5] (o1 8 (Kg c)) Ev ?_
 refine Bd fun f d =>Te [0,1,5,6] (o1 10 (Kg d)) Ev ?_
 refine Sq <|T0 [0,1,6,11] ?_
 refine Cd ?_ ?_
 ·refine Sq <|T0 [12] ?_
  refine Cd ?_ ?_
  ·refine T0 [4] ?_
   exact Sr <|Tr <|Tr <|Rr
  ·refine Sk <|Tn <|T0 [4] ?_
   exact Sr <|Tr <|Rr
 ·refine Sk <|Tn <|Sq <|T0 [0,1,13] ?_
  refine Cd ?_ ?_
  ·refine T0 [4] ?_
   exact Sr <|Tr <|Rr
  ·refine Sk <|Tn <|Sq <|T0 [0,1,16] ?_
   refine Cd ?_ ?_
   ·refine T0 [4] ?_
    exact Sr <|Tr <|Rr
   ·refine Sk <|Tn <|Sq <|T0 [19] ?_
    refine Cd ?_ ?_
    ·refine T0 [4] ?_
     exact Sr <|Tr <|Rr
    ·refine Sk <|Tn <|T0 [4] ?_
     exact Sr <|Rr
theorem P6 {a b r} (h : Kv a b = some r) : Con B 75 [.sl false (L cU8 a),.sl false (L cU8 b)] [] (fun r' σ' => r' = i64 r∧σ' = []):=by
 refine Cw 8 [.tmp 4] Tryz.func75 (fun F hE => ?_) h
 unfold Kv
 refine T0 [0,1] ?_
 refine Bd fun d c =>Te [4] (o1 7 (Ns c)) Ev ?_
 exact Sr <|Rr
theorem Jw {f : Api_Value→Api_Value→Option (Int)} {s1_3072 : List Api_Value} {s2_3073 : List Api_Value} {b : Api_Value→Api_Value→Option (Int)} (h26 : ∀ {a0 : Api_Value} {a1 : Api_Value} {r : Int},f a0 a1 = some r→Con B 26 [.agg [i64 a0.Zb,i64 a0.N,.sl false (L cU8 a0.B),.sl false (L cApi_Value a0.L)],.agg [i64 a1.Zb,i64 a1.N,.sl false (L cU8 a1.B),.sl false (L cApi_Value a1.L)]] [] (fun r' σ' => r' = i64 r∧σ' = [])) {a : Nat} (i : ∀ {a0 : Api_Value} {a1 : Api_Value} {r : Int},b a0 a1 = some r→Con B a [.agg [i64 a0.Zb,i64 a0.N,.sl false (L cU8 a0.B),.sl false (L cApi_Value a0.L)],.agg [i64 a1.Zb,i64 a1.N,.sl false (L cU8 a1.B),.sl false (L cApi_Value a1.L)]] [] (fun r' σ' => r' = i64 r∧σ' = [])) {r : Int} (h : Ep f s1_3072 s2_3073 b = some r) : Con B 76 [.sl false (L cApi_Value s1_3072),.sl false (L cApi_Value s2_3073),.fn a []] [] (fun r' σ' => r' = i64 r∧σ' = []):=by
 refine N9 (N:=39) (rs:=[.tmp 6]) ok Tryz.func76 rfl (by decide +kernel) rfl rfl (Nat.le_of_ble_eq_true rfl) (fun F => ?_)
 have hE:=ok.env F
 unfold Ep at h
 show Run (B.env F) 0 _ ⟨Au 39 [(0,.sl false (L cApi_Value s1_3072)),(1,.sl false (L cApi_Value s2_3073)),(2,.fn a [])],[]⟩ _
 refine O9 ?_
 revert h
 refine T0 [0,1,2] ?_
 refine Jo (fun _ => ⟨Au 39 [(0,.sl false (L cApi_Value s1_3072)),(1,.sl false (L cApi_Value s2_3073))],[]⟩) ?_ ?_
 ·intro ae g
  refine T0 [0,1,2,11,12,13] ?_
  refine Sb ?_
  refine Lo (fun c => ⟨Au 39 [(0,.sl false (L cApi_Value s1_3072)),(1,.sl false (L cApi_Value s2_3073)),(2,.fn a []),(11,.sl false (L cApi_Value s1_3072)),(12,i64 (s1_3072.length : Int)),(13,i64 c)],[]⟩) (ws []) ?_
  rintro c af j d e
  show D6 s1_3072 s2_3073 b c = some j→_
  unfold D6
  refine T0 [0,1,2,11,12,13,14] ?_
  refine Sq <|Cd ?_ ?_
  ·refine Sk <|Tn <|Sq <|Sb <|Ck fun k =>Lt fun l m =>Lt fun n o =>Lt fun p q =>Lt fun s t =>Te (σ':=[.box [i64 l,i64 n,.sl false (L cU8 p),.sl false (L cApi_Value s)] false]) [0,1,2,7,8,11,12,13] Ac (Ev (by simp only [go_sem,qR k,m,o,q,t];exact Al)) ?_
   refine Sq <|T0 [0,1,2,7,8,11,12,13,21] ?_
   refine Cd ?_ ?_
   ·refine T0 [6] ?_
    exact Sr <|Tr <|Br <|Tr <|Lr e d <|Br <|Jr g <|Rr
   ·refine Sk <|Tn <|Ck fun u =>Lt fun v w =>Lt fun x y =>Lt fun z aa =>Lt fun ab ac =>Te (σ':=[_,.box [i64 v,i64 x,.sl false (L cU8 z),.sl false (L cApi_Value ab)] false]) [0,1,2,8,9,11,12,13] Ac (Ev (by simp only [go_sem,qR u,w,y,aa,ac];exact Al)) ?_
    refine Bd fun ag ad =>Te [0,1,2,10,11,12,13] (o1 29 (i ad)) Ev ?_
    refine T0 [0,1,2,10,11,12,13,31] ?_
    refine Cd ?_ ?_
    ·refine T0 [6] ?_
     exact Sr <|Br <|Tr <|Lr e d <|Br <|Jr g <|Rr
    ·refine Sk <|Bn <|Tn <|F0 [0,1,2,11,12,13] ?_
     exact Ln (ws [])
  ·refine Sx <|Tx <|Lx e d <|Bx <|?_
   exact Jn ((ws (l':=[(0,.sl false (L cApi_Value s1_3072)),(1,.sl false (L cApi_Value s2_3073))]) (σ':=[]) []).trans (ws []))
 intro _
 refine Sq <|T0 [38] ?_
 refine Cd ?_ ?_
 ·refine T0 [6] ?_
  exact Sr <|Tr <|Rr
 ·refine Sk <|Tn <|T0 [6] ?_
  exact Sr <|Rr
theorem Ng {rec_ : Api_Value→Api_Value→Option (Int)} (hrec : ∀ {a : Api_Value} {b : Api_Value} {r : Int},rec_ a b = some r→Con B 26 [.agg [i64 a.Zb,i64 a.N,.sl false (L cU8 a.B),.sl false (L cApi_Value a.L)],.agg [i64 b.Zb,i64 b.N,.sl false (L cU8 b.B),.sl false (L cApi_Value b.L)]] [] (fun r' σ' => r' = i64 r∧σ' = [])) {a : Api_Value} {b : Api_Value} {r : Int} (h : Ik rec_ a b = some r) : Con B 26 [.agg [i64 a.Zb,i64 a.N,.sl false (L cU8 a.B),.sl false (L cApi_Value a.L)],.agg [i64 b.Zb,i64 b.N,.sl false (L cU8 b.B),.sl false (L cApi_Value b.L)]] [] (fun r' σ' => r' = i64 r∧σ' = []):=by
 refine N9 (N:=37) (rs:=[.tmp 4]) ok Tryz.func26 rfl (by decide +kernel) rfl rfl (Nat.le_of_ble_eq_true rfl) (fun F => ?_)
 have hE:=ok.env F
 unfold Ik at h
 show Run (B.env F) 0 _ ⟨Au 37 [(0,.agg [i64 a.Zb,i64 a.N,.sl false (L cU8 a.B),.sl false (L cApi_Value a.L)]),(1,.agg [i64 b.Zb,i64 b.N,.sl false (L cU8 b.B),.sl false (L cApi_Value b.L)])],[]⟩ _
 refine O9 ?_
 revert h
 refine T0 [2,3] ?_
 refine Sq <|Bd fun g c =>Te [2,3,5] (o1 10 (I6 c)) Ev ?_
 refine T0 [2,3,5,12] ?_
 refine Cd ?_ ?_
 ·refine T0 [4] ?_
  exact Sr <|Tr <|Rr
 ·refine Sk <|Tn <|Sq <|T0 [2,3,15] ?_
  refine Sb <|T0 [2,3,15,16] ?_
  refine Cd ?_ ?_
  ·refine Bd fun i d =>Te [4] (o1 22 (I6 d)) Ev ?_
   exact Sr <|Br <|Tr <|Rr
  ·refine T0 [2,3,15,23] ?_
   refine Cd ?_ ?_
   ·refine Bd fun j e =>Te [4] (o1 29 (P6 e)) Ev ?_
    exact Sr <|Br <|Tr <|Rr
   ·refine T0 [2,3,30] ?_
    refine Cd ?_ ?_
    ·refine Bd fun k f =>Te [4] (o1 36 (Jw (fun h => hrec h) (fun h => hrec h) f)) Ev ?_
     exact Sr <|Br <|Tr <|Rr
    ·refine Sk <|Bn <|Tn <|T0 [4] ?_
     exact Sr <|Rr
theorem Nf (n : Nat) : ∀ {a : Api_Value} {b : Api_Value} {r : Int},Id n a b = some r→Con B 26 [.agg [i64 a.Zb,i64 a.N,.sl false (L cU8 a.B),.sl false (L cApi_Value a.L)],.agg [i64 b.Zb,i64 b.N,.sl false (L cU8 b.B),.sl false (L cApi_Value b.L)]] [] (fun r' σ' => r' = i64 r∧σ' = []):=by
  induction n with
  | zero => intro a b r h;cases h
  | succ n ih => intro a b r h;exact Ng ih h
theorem E2 {a : Api_Value} {b : Api_Value} {r : Int} (h : Oo a b = some r) : Con B 26 [.agg [i64 a.Zb,i64 a.N,.sl false (L cU8 a.B),.sl false (L cApi_Value a.L)],.agg [i64 b.Zb,i64 b.N,.sl false (L cU8 b.B),.sl false (L cApi_Value b.L)]] [] (fun r' σ' => r' = i64 r∧σ' = []):=Nf _ h
theorem Uk {rec_ : Api_Value→Api_Value→Option (Bool)} (hrec : ∀ {a : Api_Value} {b : Api_Value} {r : Bool},rec_ a b = some r→Con B 79 [.agg [i64 a.Zb,i64 a.N,.sl false (L cU8 a.B),.sl false (L cApi_Value a.L)],.agg [i64 b.Zb,i64 b.N,.sl false (L cU8 b.B),.sl false (L cApi_Value b.L)]] [] (fun r' σ' => r' = .bool r∧σ' = [])) {a : Api_Value} {b : Api_Value} {r : Bool} (h : Pq rec_ a b = some r) : Con B 79 [.agg [i64 a.Zb,i64 a.N,.sl false (L cU8 a.B),.sl false (L cApi_Value a.L)],.agg [i64 b.Zb,i64 b.N,.sl false (L cU8 b.B),.sl false (L cApi_Value b.L)]] [] (fun r' σ' => r' = .bool r∧σ' = []):=by
 refine N9 (N:=61) (rs:=[.tmp 4]) ok Tryz.func79 rfl (by decide +kernel) rfl rfl (Nat.le_of_ble_eq_true rfl) (fun F => ?_)
 have hE:=ok.env F
 unfold Pq at h
 show Run (B.env F) 0 _ ⟨Au 61 [(0,.agg [i64 a.Zb,i64 a.N,.sl false (L cU8 a.B),.sl false (L cApi_Value a.L)]),(1,.agg [i64 b.Zb,i64 b.N,.sl false (L cU8 b.B),.sl false (L cApi_Value b.L)])],[]⟩ _
 refine O9 ?_
 revert h
 refine T0 [2,3] ?_
 refine Sq ?_
 refine Tw [2,3,41] (fun j => ⟨Au 61 [(2,.ref 0 0),(3,.ref 1 0),(41,.bool j)],[.box [i64 a.Zb,i64 a.N,.sl false (L cU8 a.B),.sl false (L cApi_Value a.L)] false,.box [i64 b.Zb,i64 b.N,.sl false (L cU8 b.B),.sl false (L cApi_Value b.L)] false]⟩) ?_ ?_
 ·intro _
  refine Sp (fun c => ?_) fun c => ?_
  ·exact Lf Ac (Ev (by simp only [go_sem,c];exact Al)) (ws [0,1])
  ·refine Bd fun s e => ?_
   refine Sp (fun d => ?_) fun d => ?_
   ·exact Lf (o1 14 (E2 e)) (Ev (by simp only [go_sem,c,d];exact Al)) (ws [0,1])
   ·refine Sp (fun f => ?_) fun f => ?_
    ·exact Lf (o1 14 (E2 e)) (Ev (by simp only [go_sem,c,d,f];exact Al)) (ws [0,1])
    ·refine Sp (fun g => ?_) fun g => ?_
     ·exact Lf (o1 14 (E2 e)) (Ev (by simp only [go_sem,c,d,f,g];exact Al)) (ws [0,1])
     ·exact Lf (o1 14 (E2 e)) (Ev (by simp only [go_sem,c,d,f,g];exact Al)) (ws [0,1])
 intro j
 refine Cd ?_ ?_
 ·refine T0 [4] ?_
  exact Sr <|Tr <|Rr
 ·refine Sk <|Tn <|?_
  refine Jo (fun _ => ⟨Au 61 [],[]⟩) ?_ ?_
  ·intro t m
   refine T0 [2,3,44,45] ?_
   refine Sb ?_
   refine Lo (fun i => ⟨Au 61 [(2,.ref 0 0),(3,.ref 1 0),(44,i64 (a.L.length : Int)),(45,i64 i)],[.box [i64 a.Zb,i64 a.N,.sl false (L cU8 a.B),.sl false (L cApi_Value a.L)] false,.box [i64 b.Zb,i64 b.N,.sl false (L cU8 b.B),.sl false (L cApi_Value b.L)] false]⟩) (ws [0,1]) ?_
   rintro i u n k l
   show Nh a b rec_ i = some n→_
   unfold Nh
   refine T0 [2,3,44,45,46] ?_
   refine Sq <|Cd ?_ ?_
   ·refine Sk <|Tn <|Sq <|Sb <|T0 [2,3,5,44,45] ?_
    refine Ck fun o =>Ck fun p =>Bd fun v q =>De [[],[0],[],[0,1,2],[0,1,2,3],[],[5],[],[5,6,7],[5,6,7,8],[0,1,2,3,4,5,6,7,8,9],[0,1,2,3,4,5,6,7,8,9,10]] [2,3,44,45,59] (o1 58 (hrec q)) (Ev (by simp only [go_sem,qR o,qR p];exact Al)) ?_
    refine Cd ?_ ?_
    ·refine T0 [4] ?_
     exact Sr <|Br <|Tr <|Lr l k <|Br <|Jr m <|Rr
    ·refine Sk <|Bn <|Tn <|F0 [2,3,44,45] ?_
     exact Ln (ws [0,1])
   ·refine Sx <|Tx <|Lx l k <|Bx <|?_
    exact Jn ((ws (l':=[]) (σ':=[]) []).trans (ws []))
  intro _
  refine T0 [4] ?_
  exact Sr <|Rr
theorem Uh (n : Nat) : ∀ {a : Api_Value} {b : Api_Value} {r : Bool},Ps n a b = some r→Con B 79 [.agg [i64 a.Zb,i64 a.N,.sl false (L cU8 a.B),.sl false (L cApi_Value a.L)],.agg [i64 b.Zb,i64 b.N,.sl false (L cU8 b.B),.sl false (L cApi_Value b.L)]] [] (fun r' σ' => r' = .bool r∧σ' = []):=by
  induction n with
  | zero => intro a b r h;cases h
  | succ n ih => intro a b r h;exact Uk ih h
theorem Y1 {a : Api_Value} {b : Api_Value} {r : Bool} (h : Ab8 a b = some r) : Con B 79 [.agg [i64 a.Zb,i64 a.N,.sl false (L cU8 a.B),.sl false (L cApi_Value a.L)],.agg [i64 b.Zb,i64 b.N,.sl false (L cU8 b.B),.sl false (L cApi_Value b.L)]] [] (fun r' σ' => r' = .bool r∧σ' = []):=Uh _ h
theorem Ko {a r} (h : H4 a = some r) : Con B 32 [.agg [i64 a.Zb,i64 a.N,.sl false (L cU8 a.B),.sl false (L cApi_Value a.L)]] [] (fun r' σ' => r' = .tup [.agg [i64 r.1.Zb,i64 r.1.Ref.Za,i64 r.1.Ref.No,i64 r.1.Ze,i64 r.1.Zf,i64 r.1.Zg,i64 r.1.Zh,i64 r.1.Zi,i64 r.1.To,i64 r.1.Code,i64 r.1.Zj,i64 r.1.Zk,i64 r.1.Zl,i64 r.1.Zm,.str r.1.Zn,.sl false (L Ad r.1.Zo)],i64 r.2]∧σ' = []):=by
 refine Cw 114 [.cell 2 41,.tmp 3] Tryz.func32 (fun F hE => ?_) h
 unfold H4
 refine T0 [1,2] ?_
 refine Te [1,2,4] (An (l:=[]) (m:=[(8,51,[.ref 1 0],[.box [i64 a.Zb,i64 a.N,.sl false (L cU8 a.B),.sl false (L cApi_Value a.L)] false,.box [i64 0,i64 0,i64 0,i64 0,i64 0,i64 0,i64 0,i64 0,i64 0,i64 0,i64 0,i64 0,i64 0,i64 0,.str ([] : List UInt8),.sl true (L Ad ([]))] false],.agg [.ref 1 3,.ref 1 4,.ref 1 5,.ref 1 6,.ref 1 7,.ref 1 8,.ref 1 9,.ref 1 10,.ref 1 11,.ref 1 12,.ref 1 13],[.box [i64 a.Zb,i64 a.N,.sl false (L cU8 a.B),.sl false (L cApi_Value a.L)] false,.box [i64 0,i64 0,i64 0,i64 0,i64 0,i64 0,i64 0,i64 0,i64 0,i64 0,i64 0,i64 0,i64 0,i64 0,.str ([] : List UInt8),.sl true (L Ad ([]))] false])]) trivial ⟨Ba,trivial⟩) Ev ?_
 refine Sq ?_
 refine Tw [1,2,4,21] (fun i => ⟨Au 114 [(1,.ref 0 0),(2,.ref 1 0),(4,.ref 2 0),(21,.bool i)],[.box [i64 a.Zb,i64 a.N,.sl false (L cU8 a.B),.sl false (L cApi_Value a.L)] false,.box [i64 0,i64 0,i64 0,i64 0,i64 0,i64 0,i64 0,i64 0,i64 0,i64 0,i64 0,i64 0,i64 0,i64 0,.str ([] : List UInt8),.sl true (L Ad ([]))] false,.box [.ref 1 3,.ref 1 4,.ref 1 5,.ref 1 6,.ref 1 7,.ref 1 8,.ref 1 9,.ref 1 10,.ref 1 11,.ref 1 12,.ref 1 13] false]⟩) ?_ ?_
 ·intro _
  refine Sp (fun f => ?_) fun f => ?_
  ·exact Lf Ac (Ev (by simp only [go_sem,f];exact Al)) (ws [0,1,2])
  ·refine Ck fun aa => ?_
   exact Lf Ac (Ev (by simp only [go_sem,f,qL aa];exact Al)) (ws [0,1,2])
 intro i
 refine Cd ?_ ?_
 ·refine T0 [2,3] ?_
  exact Sr <|Tr <|Rr
 ·refine Sk <|Tn <|Ck fun ab =>Te [1,2,4] Ac (Ev (by simp only [go_sem,qL ab];exact Al)) ?_
  refine Ck fun ac =>Ck fun ad =>Ck fun ae =>Ck fun af =>Lt fun b ag =>Lt fun c ah =>De (σ':=[_,.box [i64 ((nth a.L 0).N),i64 b,i64 c,i64 0,i64 0,i64 0,i64 0,i64 0,i64 0,i64 0,i64 0,i64 0,i64 0,i64 0,.str ([] : List UInt8),.sl true (L Ad ([]))] false,_]) [[],[0],[0,1],[0,1,2],[0,1,2,3],[0,1,2,3,4],[0,1,2,3,4,5],[0,1,2,3,4,5,6],[],[8],[8,9],[8,9,10],[8,9,10,11],[8,9,10,11,12],[8,9,10,11,12,13],[8,9,10,11,12,13,14],[0,1,2,3,4,5,6,7,8,9,10,11,12,13,14,15],[0,1,2,3,4,5,6,7,8,9,10,11,12,13,14,15,16],[0,1,2,3,4,5,6,7,8,9,10,11,12,13,14,15,16,17]] [1,2,4] Ac (Ev (by simp only [go_sem,qL ac,qL ad,qL ae,qL af,ag,ah];exact Al)) ?_
  refine Ja (fun _ => ⟨Au 114 [(1,.ref 0 0),(2,.ref 1 0)],[.box [i64 a.Zb,i64 a.N,.sl false (L cU8 a.B),.sl false (L cApi_Value a.L)] false,.box [i64 ((nth a.L 0).N),i64 b,i64 c,i64 ((nth a.L 2).N),i64 ((nth a.L 3).N),i64 ((nth a.L 4).N),i64 ((nth a.L 5).N),i64 ((nth a.L 6).N),i64 ((nth a.L 7).N),i64 ((nth a.L 8).N),i64 ((nth a.L 9).N),i64 ((nth a.L 10).N),i64 ((nth a.L 11).N),i64 ((nth a.L 12).N),.str ([] : List UInt8),.sl true (L Ad ([]))] false]⟩) ?_ ?_
  ·intro bc
   refine T0 [1,2,4,47] ?_
   refine Sb ?_
   refine Ul 17 ?_
   refine Ug (m:=16) ?_
   refine T0 [1,2,4,47,48] ?_
   refine Sq <|Ct <|Sk <|Tn <|Sq <|Sb <|T0 [1,2,4,5,47] ?_
   have j : InR 0 11:=by decide
   have ai : w64 2 = 2:=by decide
   refine Ck fun aj =>Ge [[],[0],[0,1],[],[3],[],[5],[3,4,5,6],[3,4,5,6,7],[3,4,5,6,7,8],[0,1,2,3,4,5,6,7,8,9],[0,1,2,3,4,5,6,7,8,9,10]] [1,2,4,47] Ac (Ev (by simp only [go_sem,j,j.2,ai,qL aj];exact Al)) ?_
   refine Bn <|Tn <|?_
   have ak : w64 1 = 1:=by decide
   refine Fe [1,2,4,47] Ac (Ev (by simp only [go_sem,ak];exact Al)) ?_
   refine Un ?_
   refine Ug (m:=15) ?_
   refine T0 [1,2,4,47,48] ?_
   refine Sq <|Ct <|Sk <|Tn <|Sq <|Sb <|T0 [1,2,4,5,47] ?_
   have k : InR 1 11:=by decide
   have al : w64 3 = 3:=by decide
   refine Ck fun am =>Ge [[],[0],[0,1],[],[3],[],[5],[3,4,5,6],[3,4,5,6,7],[3,4,5,6,7,8],[0,1,2,3,4,5,6,7,8,9],[0,1,2,3,4,5,6,7,8,9,10]] [1,2,4,47] Ac (Ev (by simp only [go_sem,k,k.2,al,qL am];exact Al)) ?_
   refine Bn <|Tn <|?_
   have an : w64 2 = 2:=by decide
   refine Fe [1,2,4,47] Ac (Ev (by simp only [go_sem,an];exact Al)) ?_
   refine Un ?_
   refine Ug (m:=14) ?_
   refine T0 [1,2,4,47,48] ?_
   refine Sq <|Ct <|Sk <|Tn <|Sq <|Sb <|T0 [1,2,4,5,47] ?_
   have n : InR 2 11:=by decide
   have ao : w64 4 = 4:=by decide
   refine Ck fun ap =>Ge [[],[0],[0,1],[],[3],[],[5],[3,4,5,6],[3,4,5,6,7],[3,4,5,6,7,8],[0,1,2,3,4,5,6,7,8,9],[0,1,2,3,4,5,6,7,8,9,10]] [1,2,4,47] Ac (Ev (by simp only [go_sem,n,n.2,ao,qL ap];exact Al)) ?_
   refine Bn <|Tn <|?_
   have aq : w64 3 = 3:=by decide
   refine Fe [1,2,4,47] Ac (Ev (by simp only [go_sem,aq];exact Al)) ?_
   refine Un ?_
   refine Ug (m:=13) ?_
   refine T0 [1,2,4,47,48] ?_
   refine Sq <|Ct <|Sk <|Tn <|Sq <|Sb <|T0 [1,2,4,5,47] ?_
   have o : InR 3 11:=by decide
   have ar : w64 5 = 5:=by decide
   refine Ck fun au =>Ge [[],[0],[0,1],[],[3],[],[5],[3,4,5,6],[3,4,5,6,7],[3,4,5,6,7,8],[0,1,2,3,4,5,6,7,8,9],[0,1,2,3,4,5,6,7,8,9,10]] [1,2,4,47] Ac (Ev (by simp only [go_sem,o,o.2,ar,qL au];exact Al)) ?_
   refine Bn <|Tn <|?_
   have av : w64 4 = 4:=by decide
   refine Fe [1,2,4,47] Ac (Ev (by simp only [go_sem,av];exact Al)) ?_
   refine Un ?_
   refine Ug (m:=12) ?_
   refine T0 [1,2,4,47,48] ?_
   refine Sq <|Ct <|Sk <|Tn <|Sq <|Sb <|T0 [1,2,4,5,47] ?_
   have p : InR 4 11:=by decide
   have aw : w64 6 = 6:=by decide
   refine Ck fun ax =>Ge [[],[0],[0,1],[],[3],[],[5],[3,4,5,6],[3,4,5,6,7],[3,4,5,6,7,8],[0,1,2,3,4,5,6,7,8,9],[0,1,2,3,4,5,6,7,8,9,10]] [1,2,4,47] Ac (Ev (by simp only [go_sem,p,p.2,aw,qL ax];exact Al)) ?_
   refine Bn <|Tn <|?_
   have ay : w64 5 = 5:=by decide
   refine Fe [1,2,4,47] Ac (Ev (by simp only [go_sem,ay];exact Al)) ?_
   refine Un ?_
   refine Ug (m:=11) ?_
   refine T0 [1,2,4,47,48] ?_
   refine Sq <|Ct <|Sk <|Tn <|Sq <|Sb <|T0 [1,2,4,5,47] ?_
   have q : InR 5 11:=by decide
   have az : w64 7 = 7:=by decide
   refine Ck fun aA =>Ge [[],[0],[0,1],[],[3],[],[5],[3,4,5,6],[3,4,5,6,7],[3,4,5,6,7,8],[0,1,2,3,4,5,6,7,8,9],[0,1,2,3,4,5,6,7,8,9,10]] [1,2,4,47] Ac (Ev (by simp only [go_sem,q,q.2,az,qL aA];exact Al)) ?_
   refine Bn <|Tn <|?_
   have aB : w64 6 = 6:=by decide
   refine Fe [1,2,4,47] Ac (Ev (by simp only [go_sem,aB];exact Al)) ?_
   refine Un ?_
   refine Ug (m:=10) ?_
   refine T0 [1,2,4,47,48] ?_
   refine Sq <|Ct <|Sk <|Tn <|Sq <|Sb <|T0 [1,2,4,5,47] ?_
   have s : InR 6 11:=by decide
   have aC : w64 8 = 8:=by decide
   refine Ck fun aD =>Ge [[],[0],[0,1],[],[3],[],[5],[3,4,5,6],[3,4,5,6,7],[3,4,5,6,7,8],[0,1,2,3,4,5,6,7,8,9],[0,1,2,3,4,5,6,7,8,9,10]] [1,2,4,47] Ac (Ev (by simp only [go_sem,s,s.2,aC,qL aD];exact Al)) ?_
   refine Bn <|Tn <|?_
   have aE : w64 7 = 7:=by decide
   refine Fe [1,2,4,47] Ac (Ev (by simp only [go_sem,aE];exact Al)) ?_
   refine Un ?_
   refine Ug (m:=9) ?_
   refine T0 [1,2,4,47,48] ?_
   refine Sq <|Ct <|Sk <|Tn <|Sq <|Sb <|T0 [1,2,4,5,47] ?_
   have t : InR 7 11:=by decide
   have aF : w64 9 = 9:=by decide
   refine Ck fun aG =>Ge [[],[0],[0,1],[],[3],[],[5],[3,4,5,6],[3,4,5,6,7],[3,4,5,6,7,8],[0,1,2,3,4,5,6,7,8,9],[0,1,2,3,4,5,6,7,8,9,10]] [1,2,4,47] Ac (Ev (by simp only [go_sem,t,t.2,aF,qL aG];exact Al)) ?_
   refine Bn <|Tn <|?_
   have aH : w64 8 = 8:=by decide
   refine Fe [1,2,4,47] Ac (Ev (by simp only [go_sem,aH];exact Al)) ?_
   refine Un ?_
   refine Ug (m:=8) ?_
   refine T0 [1,2,4,47,48] ?_
   refine Sq <|Ct <|Sk <|Tn <|Sq <|Sb <|T0 [1,2,4,5,47] ?_
   have u : InR 8 11:=by decide
   have aI : w64 10 = 10:=by decide
   refine Ck fun aJ =>Ge [[],[0],[0,1],[],[3],[],[5],[3,4,5,6],[3,4,5,6,7],[3,4,5,6,7,8],[0,1,2,3,4,5,6,7,8,9],[0,1,2,3,4,5,6,7,8,9,10]] [1,2,4,47] Ac (Ev (by simp only [go_sem,u,u.2,aI,qL aJ];exact Al)) ?_
   refine Bn <|Tn <|?_
   have aK : w64 9 = 9:=by decide
   refine Fe [1,2,4,47] Ac (Ev (by simp only [go_sem,aK];exact Al)) ?_
   refine Un ?_
   refine Ug (m:=7) ?_
   refine T0 [1,2,4,47,48] ?_
   refine Sq <|Ct <|Sk <|Tn <|Sq <|Sb <|T0 [1,2,4,5,47] ?_
   have w : InR 9 11:=by decide
   have aL : w64 11 = 11:=by decide
   refine Ck fun aM =>Ge [[],[0],[0,1],[],[3],[],[5],[3,4,5,6],[3,4,5,6,7],[3,4,5,6,7,8],[0,1,2,3,4,5,6,7,8,9],[0,1,2,3,4,5,6,7,8,9,10]] [1,2,4,47] Ac (Ev (by simp only [go_sem,w,w.2,aL,qL aM];exact Al)) ?_
   refine Bn <|Tn <|?_
   have aN : w64 10 = 10:=by decide
   refine Fe [1,2,4,47] Ac (Ev (by simp only [go_sem,aN];exact Al)) ?_
   refine Un ?_
   refine Ug (m:=6) ?_
   refine T0 [1,2,4,47,48] ?_
   refine Sq <|Ct <|Sk <|Tn <|Sq <|Sb <|T0 [1,2,4,5,47] ?_
   have x : InR 10 11:=by decide
   have aO : w64 12 = 12:=by decide
   refine Ck fun aP =>Ge [[],[0],[0,1],[],[3],[],[5],[3,4,5,6],[3,4,5,6,7],[3,4,5,6,7,8],[0,1,2,3,4,5,6,7,8,9],[0,1,2,3,4,5,6,7,8,9,10]] [1,2,4,47] Ac (Ev (by simp only [go_sem,x,x.2,aO,qL aP];exact Al)) ?_
   refine Bn <|Tn <|?_
   have aQ : w64 11 = 11:=by decide
   refine Fe [1,2,4,47] Ac (Ev (by simp only [go_sem,aQ];exact Al)) ?_
   refine Un ?_
   refine Ug (m:=5) ?_
   refine T0 [1,2,4,47,48] ?_
   exact Sq <|Cf <|Sx <|Tx <|Ux <|Bx <|Jm (ws [0,1])
  intro _
  refine Ck fun aR =>Te [1,2] Ac (Ev (by simp only [go_sem,qL aR];exact Al)) ?_
  refine Jo (fun d => ⟨Au 114 [(1,.ref 0 0),(2,.ref 1 0)],[.box [i64 a.Zb,i64 a.N,.sl false (L cU8 a.B),.sl false (L cApi_Value a.L)] false,.box [i64 ((nth a.L 0).N),i64 b,i64 c,i64 ((nth a.L 2).N),i64 ((nth a.L 3).N),i64 ((nth a.L 4).N),i64 ((nth a.L 5).N),i64 ((nth a.L 6).N),i64 ((nth a.L 7).N),i64 ((nth a.L 8).N),i64 ((nth a.L 9).N),i64 ((nth a.L 10).N),i64 ((nth a.L 11).N),i64 ((nth a.L 12).N),.str ((nth a.L 13).B),.bs false 2 (d.length) 0 (d.length)] false,.buf 3 (L Ad d) false]⟩) ?_ ?_
  ·intro bd aS
   refine Ck fun aT =>Te [1,2,73,74,75] Ac (Ev (by simp only [go_sem,qL aT];exact Al)) ?_
   refine Sb ?_
   refine Lo (fun (v : Int×List Api_Part) => (⟨Au 114 [(1,.ref 0 0),(2,.ref 1 0),(73,.sl false (L cApi_Value ((nth a.L 14).L))),(74,i64 (((nth a.L 14).L).length : Int)),(75,i64 v.1)],[.box [i64 a.Zb,i64 a.N,.sl false (L cU8 a.B),.sl false (L cApi_Value a.L)] false,.box [i64 ((nth a.L 0).N),i64 b,i64 c,i64 ((nth a.L 2).N),i64 ((nth a.L 3).N),i64 ((nth a.L 4).N),i64 ((nth a.L 5).N),i64 ((nth a.L 6).N),i64 ((nth a.L 7).N),i64 ((nth a.L 8).N),i64 ((nth a.L 9).N),i64 ((nth a.L 10).N),i64 ((nth a.L 11).N),i64 ((nth a.L 12).N),.str ((nth a.L 13).B),.bs false 2 (v.2.length) 0 (v.2.length)] false,.buf 3 (L Ad v.2) false]⟩ : St)) ((Mi 1 15 3 rfl rfl).trans (ws [0,1,2])) ?_
   rintro ⟨aU,e⟩ be aV y z
   show Hp a aU e = some aV→_
   unfold Hp
   refine T0 [1,2,73,74,75,76] ?_
   refine Sq <|Cd ?_ ?_
   ·refine Sk <|Tn <|Sq <|Sb <|Ck fun aW =>Lt fun aX aY =>Lt fun aZ a0 =>Lt fun a1 a2 =>Lt fun a3 a4 =>Te (σ':=[_,_,_,.box [i64 aX,i64 aZ,.sl false (L cU8 a1),.sl false (L cApi_Value a3)] false]) [1,2,7,73,74,75] Ac (Ev (by simp only [go_sem,qR aW,aY,a0,a2,a4];exact Al)) ?_
    refine Sq <|T0 [1,2,7,73,74,75,82] ?_
    refine Cd ?_ ?_
    ·refine T0 [2,3] ?_
     exact Sr <|Tr <|Br <|Tr <|Lr z y <|Br <|Jr aS <|Rr
    ·refine Sk <|Tn <|Ck fun a5 =>Ck fun a6 =>Ck fun a7 =>Ck fun a8 =>Lt fun g a9 =>Ge (σ':=[_,.box [i64 ((nth a.L 0).N),i64 b,i64 c,i64 ((nth a.L 2).N),i64 ((nth a.L 3).N),i64 ((nth a.L 4).N),i64 ((nth a.L 5).N),i64 ((nth a.L 6).N),i64 ((nth a.L 7).N),i64 ((nth a.L 8).N),i64 ((nth a.L 9).N),i64 ((nth a.L 10).N),i64 ((nth a.L 11).N),i64 ((nth a.L 12).N),.str ((nth a.L 13).B),.bs false 2 (g.length) 0 (g.length)] false,.buf 3 (L Ad g) false,_,_]) [[],[0],[],[2],[2,3],[2,3,4],[2,3,4,5],[],[7],[7,8],[7,8,9],[7,8,9,10],[],[12],[12,13],[12,13,14],[12,13,14,15],[12,13,14,15,16],[2,3,4,5,6,7,8,9,10,11,12,13,14,15,16,17],[2,3,4,5,6,7,8,9,10,11,12,13,14,15,16,17,18],[0,1,2,3,4,5,6,7,8,9,10,11,12,13,14,15,16,17,18,19],[0,1,2,3,4,5,6,7,8,9,10,11,12,13,14,15,16,17,18,19,20],[0,1,2,3,4,5,6,7,8,9,10,11,12,13,14,15,16,17,18,19,20,21]] [1,2,73,74,75] Ac (Ev (by simp only [go_sem,qL a5,qL a6,qL a7,a8,a9];exact Al)) ?_
     refine Bn <|Tn <|F0 [1,2,73,74,75] ?_
     exact Ln (ws [0,1,2])
   ·refine Sx <|Tx <|Lx z y <|Bx <|?_
    exact Jn ((ws (l':=[(1,.ref 0 0),(2,.ref 1 0)]) (σ':=[.box [i64 a.Zb,i64 a.N,.sl false (L cU8 a.B),.sl false (L cApi_Value a.L)] false,.box [i64 ((nth a.L 0).N),i64 b,i64 c,i64 ((nth a.L 2).N),i64 ((nth a.L 3).N),i64 ((nth a.L 4).N),i64 ((nth a.L 5).N),i64 ((nth a.L 6).N),i64 ((nth a.L 7).N),i64 ((nth a.L 8).N),i64 ((nth a.L 9).N),i64 ((nth a.L 10).N),i64 ((nth a.L 11).N),i64 ((nth a.L 12).N),.str ((nth a.L 13).B),.bs false 2 (e.length) 0 (e.length)] false,.buf 3 (L Ad e) false]) [0,1,2]).trans (ws [0,1,2]))
  intro d
  refine Sq ?_
  refine Rw (Iv 1 15 rfl rfl rfl gs gs) ?_
  refine Bd fun bf ba =>Bd fun bg bb =>De [[],[0],[],[0,1,2],[0,1,2,3]] [2,111] (o2 108 (Oj ba) 110 (Y1 bb)) Ev ?_
  refine Cd ?_ ?_
  ·refine T0 [2,3] ?_
   exact Sr <|Tr <|Rr
  ·refine Sk <|Tn <|T0 [2,3] ?_
   exact Sr <|Rr
theorem Ph {a b r} (h : I8 a b = some r) : Con B 28 [.str a,u8 b] [] (fun r' σ' => r' = .bool r∧σ' = []):=by
 refine Cw 17 [.tmp 4] Tryz.func28 (fun F hE => ?_) h
 unfold I8
 refine T0 [0,1] ?_
 refine Jo (fun _ => ⟨Au 17 [],[]⟩) ?_ ?_
 ·intro j f
  refine T0 [0,1,5] ?_
  refine Sb ?_
  refine Lo (fun c => ⟨Au 17 [(0,.str a),(1,u8 b),(5,i64 c)],[]⟩) (ws []) ?_
  rintro c k g d e
  show Ig a b c = some g→_
  unfold Ig
  refine Sq <|T0 [0,1,5,9] ?_
  refine Cd ?_ ?_
  ·refine Sk <|Tn <|Sq <|Sb <|Ck fun i =>Te [0,1,5,16] Ac (Ev (by simp only [go_sem,qR i];exact Al)) ?_
   refine Cd ?_ ?_
   ·refine T0 [4] ?_
    exact Sr <|Br <|Tr <|Lr e d <|Br <|Jr f <|Rr
   ·refine Sk <|Bn <|Tn <|F0 [0,1,5] ?_
    exact Ln (ws [])
  ·refine Sx <|Tx <|Lx e d <|Bx <|?_
   exact Jn ((ws (l':=[]) (σ':=[]) []).trans (ws []))
 intro _
 refine T0 [4] ?_
 exact Sr <|Rr
theorem Yn {a r} (h : Em a = some r) : Con B 27 [i64 a] [] (fun r' σ' => r' = .str r∧σ' = []):=by
 refine Cw 30 [.tmp 2] Tryz.func27 (fun F hE => ?_) h
 unfold Em
 refine T0 [0] ?_
 refine Sq <|T0 [3] ?_
 refine Sb <|T0 [3,4] ?_
 refine Cd ?_ ?_
 ·refine T0 [2] ?_
  exact Sr <|Br <|Tr <|Rr
 ·refine T0 [3,6] ?_
  refine Cd ?_ ?_
  ·refine T0 [2] ?_
   exact Sr <|Br <|Tr <|Rr
  ·refine Ja (fun b => ⟨Au 30 [(3,i64 a),(8,.bool b)],[]⟩) ?_ ?_
   ·intro d
    refine T0 [3,8] ?_
    refine Cd ?_ ?_
    ·exact Sk <|Jm (ws [])
    ·refine F0 [3,8] ?_
     exact Jm (ws [])
   intro b
   refine Cd ?_ ?_
   ·refine T0 [2] ?_
    exact Sr <|Br <|Tr <|Rr
   ·refine T0 [3,11] ?_
    refine Cd ?_ ?_
    ·refine T0 [2] ?_
     exact Sr <|Br <|Tr <|Rr
    ·refine T0 [3,13] ?_
     refine Cd ?_ ?_
     ·refine T0 [2] ?_
      exact Sr <|Br <|Tr <|Rr
     ·refine T0 [3,15] ?_
      refine Cd ?_ ?_
      ·refine T0 [2] ?_
       exact Sr <|Br <|Tr <|Rr
      ·refine T0 [3,17] ?_
       refine Cd ?_ ?_
       ·refine T0 [2] ?_
        exact Sr <|Br <|Tr <|Rr
       ·refine T0 [3,19] ?_
        refine Cd ?_ ?_
        ·refine T0 [2] ?_
         exact Sr <|Br <|Tr <|Rr
        ·refine T0 [3,21] ?_
         refine Cd ?_ ?_
         ·refine T0 [2] ?_
          exact Sr <|Br <|Tr <|Rr
         ·refine Ja (fun c => ⟨Au 30 [(3,i64 a),(23,.bool c)],[]⟩) ?_ ?_
          ·intro e
           refine T0 [3,23] ?_
           refine Cd ?_ ?_
           ·exact Sk <|Jm (ws [])
           ·refine F0 [3,23] ?_
            exact Jm (ws [])
          intro c
          refine Cd ?_ ?_
          ·refine T0 [2] ?_
           exact Sr <|Br <|Tr <|Rr
          ·refine T0 [3,26] ?_
           refine Cd ?_ ?_
           ·refine T0 [2] ?_
            exact Sr <|Br <|Tr <|Rr
           ·refine T0 [28] ?_
            refine Cd ?_ ?_
            ·refine T0 [2] ?_
             exact Sr <|Br <|Tr <|Rr
            ·refine Sk <|Bn <|Tn <|T0 [2] ?_
             exact Sr <|Rr
theorem Ah5 {a b c r} (h : AcL a b c = some r) : Con B 29 [.agg [i64 a.Zb,i64 a.Ref.Za,i64 a.Ref.No,i64 a.Ze,i64 a.Zf,i64 a.Zg,i64 a.Zh,i64 a.Zi,i64 a.To,i64 a.Code,i64 a.Zj,i64 a.Zk,i64 a.Zl,i64 a.Zm,.str a.Zn,.bs false 0 (a.Zo.length) 0 (a.Zo.length)],u8 b,i64 c] [.buf 3 (L Ad a.Zo) false] (fun r' σ' => r' = .agg [i64 r.Zb,i64 r.Ref.Za,i64 r.Ref.No,i64 r.Ze,i64 r.Zf,i64 r.Zg,i64 r.Zh,i64 r.Zi,i64 r.To,i64 r.Code,i64 r.Zj,i64 r.Zk,i64 r.Zl,i64 r.Zm,.str r.Zn,.bs false 0 (r.Zo.length) 0 (r.Zo.length)]∧σ' = [.buf 3 (L Ad r.Zo) false]):=by
 refine Co 1 51 [.cell 6 41] Tryz.func29 (fun F hE => ?_) h
 unfold AcL
 refine T0 [1,2,3,6] ?_
 refine Ja (fun ⟨d,e,f,g,i,j,k,l,m,n,o⟩ => ⟨Au 51 [(3,.ref 1 0),(6,.ref 2 0)],[.buf 3 (L Ad a.Zo) false,.box [i64 a.Zb,i64 a.Ref.Za,i64 a.Ref.No,i64 d,i64 e,i64 f,i64 g,i64 i,i64 j,i64 k,i64 l,i64 m,i64 n,i64 o,.str a.Zn,.bs false 0 (a.Zo.length) 0 (a.Zo.length)] false,.box [i64 0,i64 0,i64 0,i64 0,i64 0,i64 0,i64 0,i64 0,i64 0,i64 0,i64 0,i64 0,i64 0,i64 0,.str ([] : List UInt8),.sl true (L Ad ([]))] false]⟩) ?_ ?_
 ·intro p
  refine T0 [2,3,6,7] ?_
  refine Sb <|T0 [2,3,6,7,10] ?_
  refine Cd ?_ ?_
  ·refine F0 [3,6] ?_
   exact Bn <|Jm (ws [0,1,2])
  ·refine T0 [2,3,6,7,14] ?_
   refine Cd ?_ ?_
   ·refine F0 [3,6] ?_
    exact Bn <|Jm (ws [0,1,2])
   ·refine T0 [2,3,6,7,18] ?_
    refine Cd ?_ ?_
    ·refine F0 [3,6] ?_
     exact Bn <|Jm (ws [0,1,2])
    ·refine T0 [2,3,6,7,22] ?_
     refine Cd ?_ ?_
     ·refine F0 [3,6] ?_
      exact Bn <|Jm (ws [0,1,2])
     ·refine T0 [2,3,6,7,26] ?_
      refine Cd ?_ ?_
      ·refine F0 [3,6] ?_
       exact Bn <|Jm (ws [0,1,2])
      ·refine T0 [2,3,6,7,30] ?_
       refine Cd ?_ ?_
       ·refine F0 [3,6] ?_
        exact Bn <|Jm (ws [0,1,2])
       ·refine T0 [2,3,6,7,34] ?_
        refine Cd ?_ ?_
        ·refine F0 [3,6] ?_
         exact Bn <|Jm (ws [0,1,2])
        ·refine T0 [2,3,6,7,38] ?_
         refine Cd ?_ ?_
         ·refine F0 [3,6] ?_
          exact Bn <|Jm (ws [0,1,2])
         ·refine T0 [2,3,6,7,42] ?_
          refine Cd ?_ ?_
          ·refine F0 [3,6] ?_
           exact Bn <|Jm (ws [0,1,2])
          ·refine T0 [2,3,6,46] ?_
           refine Cd ?_ ?_
           ·refine F0 [3,6] ?_
            exact Bn <|Jm (ws [0,1,2])
           ·refine F0 [3,6] ?_
            exact Bn <|Jm (ws [0,1,2])
 rintro ⟨d,e,f,g,i,j,k,l,m,n,o⟩
 refine T0 [6] ?_
 exact Sr <|Ro [0]
theorem Oz {a b c r} (h : Hw a b c = some r) : Con B 29 [.agg [i64 a.Zb,i64 a.Ref.Za,i64 a.Ref.No,i64 a.Ze,i64 a.Zf,i64 a.Zg,i64 a.Zh,i64 a.Zi,i64 a.To,i64 a.Code,i64 a.Zj,i64 a.Zk,i64 a.Zl,i64 a.Zm,.str a.Zn,.sl false (L Ad a.Zo)],u8 b,i64 c] [] (fun r' σ' => r' = .agg [i64 r.Zb,i64 r.Ref.Za,i64 r.Ref.No,i64 r.Ze,i64 r.Zf,i64 r.Zg,i64 r.Zh,i64 r.Zi,i64 r.To,i64 r.Code,i64 r.Zj,i64 r.Zk,i64 r.Zl,i64 r.Zm,.str r.Zn,.sl false (L Ad r.Zo)]∧σ' = []):=by
 refine Cw 51 [.cell 6 41] Tryz.func29 (fun F hE => ?_) h
 unfold Hw
 refine T0 [1,2,3,6] ?_
 refine Ja (fun ⟨d,e,f,g,i,j,k,l,m,n,o⟩ => ⟨Au 51 [(3,.ref 0 0),(6,.ref 1 0)],[.box [i64 a.Zb,i64 a.Ref.Za,i64 a.Ref.No,i64 d,i64 e,i64 f,i64 g,i64 i,i64 j,i64 k,i64 l,i64 m,i64 n,i64 o,.str a.Zn,.sl false (L Ad a.Zo)] false,.box [i64 0,i64 0,i64 0,i64 0,i64 0,i64 0,i64 0,i64 0,i64 0,i64 0,i64 0,i64 0,i64 0,i64 0,.str ([] : List UInt8),.sl true (L Ad ([]))] false]⟩) ?_ ?_
 ·intro p
  refine T0 [2,3,6,7] ?_
  refine Sb <|T0 [2,3,6,7,10] ?_
  refine Cd ?_ ?_
  ·refine F0 [3,6] ?_
   exact Bn <|Jm (ws [0,1])
  ·refine T0 [2,3,6,7,14] ?_
   refine Cd ?_ ?_
   ·refine F0 [3,6] ?_
    exact Bn <|Jm (ws [0,1])
   ·refine T0 [2,3,6,7,18] ?_
    refine Cd ?_ ?_
    ·refine F0 [3,6] ?_
     exact Bn <|Jm (ws [0,1])
    ·refine T0 [2,3,6,7,22] ?_
     refine Cd ?_ ?_
     ·refine F0 [3,6] ?_
      exact Bn <|Jm (ws [0,1])
     ·refine T0 [2,3,6,7,26] ?_
      refine Cd ?_ ?_
      ·refine F0 [3,6] ?_
       exact Bn <|Jm (ws [0,1])
      ·refine T0 [2,3,6,7,30] ?_
       refine Cd ?_ ?_
       ·refine F0 [3,6] ?_
        exact Bn <|Jm (ws [0,1])
       ·refine T0 [2,3,6,7,34] ?_
        refine Cd ?_ ?_
        ·refine F0 [3,6] ?_
         exact Bn <|Jm (ws [0,1])
        ·refine T0 [2,3,6,7,38] ?_
         refine Cd ?_ ?_
         ·refine F0 [3,6] ?_
          exact Bn <|Jm (ws [0,1])
         ·refine T0 [2,3,6,7,42] ?_
          refine Cd ?_ ?_
          ·refine F0 [3,6] ?_
           exact Bn <|Jm (ws [0,1])
          ·refine T0 [2,3,6,46] ?_
           refine Cd ?_ ?_
           ·refine F0 [3,6] ?_
            exact Bn <|Jm (ws [0,1])
           ·refine F0 [3,6] ?_
            exact Bn <|Jm (ws [0,1])
 rintro ⟨d,e,f,g,i,j,k,l,m,n,o⟩
 refine T0 [6] ?_
 exact Sr <|Rr
theorem On {a b r} (h : Cb a b = some r) : Con B 72 [.agg [i64 a.Zb,i64 a.Ref.Za,i64 a.Ref.No,i64 a.Ze,i64 a.Zf,i64 a.Zg,i64 a.Zh,i64 a.Zi,i64 a.To,i64 a.Code,i64 a.Zj,i64 a.Zk,i64 a.Zl,i64 a.Zm,.str a.Zn,.sl false (L Ad a.Zo)],u8 b] [] (fun r' σ' => r' = i64 r∧σ' = []):=by
 refine Cw 48 [.tmp 4] Tryz.func72 (fun F hE => ?_) h
 unfold Cb
 refine T0 [1,2] ?_
 refine Sq <|T0 [2,5] ?_
 refine Sb <|T0 [2,5,6] ?_
 refine Cd ?_ ?_
 ·refine T0 [4] ?_
  exact Sr <|Br <|Tr <|Rr
 ·refine T0 [2,5,10] ?_
  refine Cd ?_ ?_
  ·refine T0 [4] ?_
   exact Sr <|Br <|Tr <|Rr
  ·refine T0 [2,5,14] ?_
   refine Cd ?_ ?_
   ·refine T0 [4] ?_
    exact Sr <|Br <|Tr <|Rr
   ·refine T0 [2,5,18] ?_
    refine Cd ?_ ?_
    ·refine T0 [4] ?_
     exact Sr <|Br <|Tr <|Rr
    ·refine T0 [2,5,22] ?_
     refine Cd ?_ ?_
     ·refine T0 [4] ?_
      exact Sr <|Br <|Tr <|Rr
     ·refine T0 [2,5,26] ?_
      refine Cd ?_ ?_
      ·refine T0 [4] ?_
       exact Sr <|Br <|Tr <|Rr
      ·refine T0 [2,5,30] ?_
       refine Cd ?_ ?_
       ·refine T0 [4] ?_
        exact Sr <|Br <|Tr <|Rr
       ·refine T0 [2,5,34] ?_
        refine Cd ?_ ?_
        ·refine T0 [4] ?_
         exact Sr <|Br <|Tr <|Rr
        ·refine T0 [2,5,38] ?_
         refine Cd ?_ ?_
         ·refine T0 [4] ?_
          exact Sr <|Br <|Tr <|Rr
         ·refine T0 [2,42] ?_
          refine Cd ?_ ?_
          ·refine T0 [4] ?_
           exact Sr <|Br <|Tr <|Rr
          ·refine Sk <|Bn <|Tn <|T0 [4] ?_
           exact Sr <|Rr
end Go.Proofs.YtnfoiocigicdnaaGreatDoor
