/-
  Part 43.
-/
import Derived.Test.YtnfoiocigicdnaaGreatDoorYG40
import Derived.Test.YtnfoiocigicdnaaGreatDoorYG42
import Derived.KernelRfl
namespace Go.Proofs.YtnfoiocigicdnaaGreatDoor
open Go.Rv
set_option linter.unusedVariables false
set_option linter.unusedSimpArgs false
set_option maxRecDepth 20000
set_option maxHeartbeats 4000000
theorem Og {a r} (h : Ol a = some r) : Con B 21 [.agg [i64 a.Zb,i64 a.Ref.Za,i64 a.Ref.No,i64 a.Ze,i64 a.Zf,i64 a.Zg,i64 a.Zh,i64 a.Zi,i64 a.To,i64 a.Code,i64 a.Zj,i64 a.Zk,i64 a.Zl,i64 a.Zm,.str a.Zn,.sl false (L Ad a.Zo)]] [] (fun r' σ' => r' = .agg [i64 r.Zb,i64 r.N,.sl false (L cU8 r.B),.sl false (L cApi_Value r.L)]∧σ' = []):=by
 refine Cw 70 [.cell 2 55] Tryz.func21 (fun F hE => ?_) h
 unfold Ol
 refine T0 [1,2] ?_
 refine Bd fun bF av =>Bd fun aw ax =>Bd fun ay az =>Bd fun bG aA =>Lt fun f aB =>De (fr':=[(1,_),(2,_),(3,.bs true 2 (f.length) 0 (f.length))]) (σ':=[_,_,.buf 4 (L cApi_Value f) false]) [[],[0],[0,1],[],[3],[3,4],[0,1,2,3,4,5],[],[7],[7,8],[0,1,2,3,4,5,6,7,8,9],[0,1,2,3,4,5,6,7,8,9,10],[0,1,2,3,4,5,6,7,8,9,10,11],[0,1,2,3,4,5,6,7,8,9,10,11,12],[0,1,2,3,4,5,6,7,8,9,10,11,12,13]] [1,2,3] (Ao (l:=[(12,_,_,_),(16,_,_,_),(20,_,_,_)]) (m:=[(22,59,[.sl false (L cApi_Value ([aw,ay] : List Api_Value))],[.box [i64 a.Zb,i64 a.Ref.Za,i64 a.Ref.No,i64 a.Ze,i64 a.Zf,i64 a.Zg,i64 a.Zh,i64 a.Zi,i64 a.To,i64 a.Code,i64 a.Zj,i64 a.Zk,i64 a.Zl,i64 a.Zm,.str a.Zn,.sl false (L Ad a.Zo)] false,.box [i64 0,i64 0,.sl true (L cU8 ([])),.sl true (L cApi_Value ([]))] false],_,_)]) ⟨A7  av,A7  ax,A7  az,trivial⟩ ⟨(wc (Kj aA) []),trivial⟩) (Ev (by simp only [go_sem,aB];exact Ak)) ?_
 refine Ja (fun b => ⟨As 70 [(1,.ref 0 0),(2,.ref 1 0),(3,.bs false 2 (b.length) 0 (b.length))],[.box [i64 a.Zb,i64 a.Ref.Za,i64 a.Ref.No,i64 a.Ze,i64 a.Zf,i64 a.Zg,i64 a.Zh,i64 a.Zi,i64 a.To,i64 a.Code,i64 a.Zj,i64 a.Zk,i64 a.Zl,i64 a.Zm,.str a.Zn,.sl false (L Ad a.Zo)] false,.box [i64 0,i64 0,.sl true (L cU8 ([])),.sl true (L cApi_Value ([]))] false,.buf 4 (L cApi_Value b) false]⟩) ?_ ?_
 ·intro bH
  refine Te [1,2,3,24,25] (Ao (l:=[]) (m:=[(24,51,[.ref 0 0],[.box [i64 a.Zb,i64 a.Ref.Za,i64 a.Ref.No,i64 a.Ze,i64 a.Zf,i64 a.Zg,i64 a.Zh,i64 a.Zi,i64 a.To,i64 a.Code,i64 a.Zj,i64 a.Zk,i64 a.Zl,i64 a.Zm,.str a.Zn,.sl false (L Ad a.Zo)] false,.box [i64 0,i64 0,.sl true (L cU8 ([])),.sl true (L cApi_Value ([]))] false,.buf 4 (L cApi_Value f) false],.agg [.ref 0 3,.ref 0 4,.ref 0 5,.ref 0 6,.ref 0 7,.ref 0 8,.ref 0 9,.ref 0 10,.ref 0 11,.ref 0 12,.ref 0 13],[.box [i64 a.Zb,i64 a.Ref.Za,i64 a.Ref.No,i64 a.Ze,i64 a.Zf,i64 a.Zg,i64 a.Zh,i64 a.Zi,i64 a.To,i64 a.Code,i64 a.Zj,i64 a.Zk,i64 a.Zl,i64 a.Zm,.str a.Zn,.sl false (L Ad a.Zo)] false,.box [i64 0,i64 0,.sl true (L cU8 ([])),.sl true (L cApi_Value ([]))] false,.buf 4 (L cApi_Value f) false])]) trivial ⟨Bc,trivial⟩) Ev ?_
  refine Sb ?_
  refine Ul 17 ?_
  refine Ug (m:=16) ?_
  refine T0 [1,2,3,24,25,26] ?_
  refine Sq <|Ct <|Sk <|Tn <|Sq <|Sb <|?_
  have ae : InR 0 11:=by decide
  refine Te [1,2,3,5,24,25] Ac (Ev (by simp only [go_sem,ae,ae.2];exact Ak)) ?_
  refine Bd fun bI aC =>Ck fun aD =>Lt fun n aE =>Fe (fr':=[(1,_),(2,_),(3,.bs false 2 (n.length) 0 (n.length)),(24,_),(25,_)]) (σ':=[_,_,.buf 4 (L cApi_Value n) false,_]) [1,2,3,24,25] (o1 32 (A7 aC)) (Ev (by simp only [go_sem,aD,aE];exact Ak)) ?_
  refine Bn <|Tn <|?_
  have aF : w64 1 = 1:=by decide
  refine Fe [1,2,3,24,25] Ac (Ev (by simp only [go_sem,aF];exact Ak)) ?_
  refine Un ?_
  refine Ug (m:=15) ?_
  refine T0 [1,2,3,24,25,26] ?_
  refine Sq <|Ct <|Sk <|Tn <|Sq <|Sb <|?_
  have af : InR 1 11:=by decide
  refine Te [1,2,3,5,24,25] Ac (Ev (by simp only [go_sem,af,af.2];exact Ak)) ?_
  refine Bd fun bJ aG =>Ck fun aH =>Lt fun o aI =>Fe (fr':=[(1,_),(2,_),(3,.bs false 2 (o.length) 0 (o.length)),(24,_),(25,_)]) (σ':=[_,_,.buf 4 (L cApi_Value o) false,_,_]) [1,2,3,24,25] (o1 32 (A7 aG)) (Ev (by simp only [go_sem,aH,aI];exact Ak)) ?_
  refine Bn <|Tn <|?_
  have aJ : w64 2 = 2:=by decide
  refine Fe [1,2,3,24,25] Ac (Ev (by simp only [go_sem,aJ];exact Ak)) ?_
  refine Un ?_
  refine Ug (m:=14) ?_
  refine T0 [1,2,3,24,25,26] ?_
  refine Sq <|Ct <|Sk <|Tn <|Sq <|Sb <|?_
  have ag : InR 2 11:=by decide
  refine Te [1,2,3,5,24,25] Ac (Ev (by simp only [go_sem,ag,ag.2];exact Ak)) ?_
  refine Bd fun bK aK =>Ck fun aL =>Lt fun p aM =>Fe (fr':=[(1,_),(2,_),(3,.bs false 2 (p.length) 0 (p.length)),(24,_),(25,_)]) (σ':=[_,_,.buf 4 (L cApi_Value p) false,_,_,_]) [1,2,3,24,25] (o1 32 (A7 aK)) (Ev (by simp only [go_sem,aL,aM];exact Ak)) ?_
  refine Bn <|Tn <|?_
  have aN : w64 3 = 3:=by decide
  refine Fe [1,2,3,24,25] Ac (Ev (by simp only [go_sem,aN];exact Ak)) ?_
  refine Un ?_
  refine Ug (m:=13) ?_
  refine T0 [1,2,3,24,25,26] ?_
  refine Sq <|Ct <|Sk <|Tn <|Sq <|Sb <|?_
  have ah : InR 3 11:=by decide
  refine Te [1,2,3,5,24,25] Ac (Ev (by simp only [go_sem,ah,ah.2];exact Ak)) ?_
  refine Bd fun bL aO =>Ck fun aP =>Lt fun q aQ =>Fe (fr':=[(1,_),(2,_),(3,.bs false 2 (q.length) 0 (q.length)),(24,_),(25,_)]) (σ':=[_,_,.buf 4 (L cApi_Value q) false,_,_,_,_]) [1,2,3,24,25] (o1 32 (A7 aO)) (Ev (by simp only [go_sem,aP,aQ];exact Ak)) ?_
  refine Bn <|Tn <|?_
  have aR : w64 4 = 4:=by decide
  refine Fe [1,2,3,24,25] Ac (Ev (by simp only [go_sem,aR];exact Ak)) ?_
  refine Un ?_
  refine Ug (m:=12) ?_
  refine T0 [1,2,3,24,25,26] ?_
  refine Sq <|Ct <|Sk <|Tn <|Sq <|Sb <|?_
  have ai : InR 4 11:=by decide
  refine Te [1,2,3,5,24,25] Ac (Ev (by simp only [go_sem,ai,ai.2];exact Ak)) ?_
  refine Bd fun bM aS =>Ck fun aT =>Lt fun s aU =>Fe (fr':=[(1,_),(2,_),(3,.bs false 2 (s.length) 0 (s.length)),(24,_),(25,_)]) (σ':=[_,_,.buf 4 (L cApi_Value s) false,_,_,_,_,_]) [1,2,3,24,25] (o1 32 (A7 aS)) (Ev (by simp only [go_sem,aT,aU];exact Ak)) ?_
  refine Bn <|Tn <|?_
  have aV : w64 5 = 5:=by decide
  refine Fe [1,2,3,24,25] Ac (Ev (by simp only [go_sem,aV];exact Ak)) ?_
  refine Un ?_
  refine Ug (m:=11) ?_
  refine T0 [1,2,3,24,25,26] ?_
  refine Sq <|Ct <|Sk <|Tn <|Sq <|Sb <|?_
  have aj : InR 5 11:=by decide
  refine Te [1,2,3,5,24,25] Ac (Ev (by simp only [go_sem,aj,aj.2];exact Ak)) ?_
  refine Bd fun bN aW =>Ck fun aX =>Lt fun t aY =>Fe (fr':=[(1,_),(2,_),(3,.bs false 2 (t.length) 0 (t.length)),(24,_),(25,_)]) (σ':=[_,_,.buf 4 (L cApi_Value t) false,_,_,_,_,_,_]) [1,2,3,24,25] (o1 32 (A7 aW)) (Ev (by simp only [go_sem,aX,aY];exact Ak)) ?_
  refine Bn <|Tn <|?_
  have aZ : w64 6 = 6:=by decide
  refine Fe [1,2,3,24,25] Ac (Ev (by simp only [go_sem,aZ];exact Ak)) ?_
  refine Un ?_
  refine Ug (m:=10) ?_
  refine T0 [1,2,3,24,25,26] ?_
  refine Sq <|Ct <|Sk <|Tn <|Sq <|Sb <|?_
  have ak : InR 6 11:=by decide
  refine Te [1,2,3,5,24,25] Ac (Ev (by simp only [go_sem,ak,ak.2];exact Ak)) ?_
  refine Bd fun bO a0 =>Ck fun a1 =>Lt fun u a2 =>Fe (fr':=[(1,_),(2,_),(3,.bs false 2 (u.length) 0 (u.length)),(24,_),(25,_)]) (σ':=[_,_,.buf 4 (L cApi_Value u) false,_,_,_,_,_,_,_]) [1,2,3,24,25] (o1 32 (A7 a0)) (Ev (by simp only [go_sem,a1,a2];exact Ak)) ?_
  refine Bn <|Tn <|?_
  have a3 : w64 7 = 7:=by decide
  refine Fe [1,2,3,24,25] Ac (Ev (by simp only [go_sem,a3];exact Ak)) ?_
  refine Un ?_
  refine Ug (m:=9) ?_
  refine T0 [1,2,3,24,25,26] ?_
  refine Sq <|Ct <|Sk <|Tn <|Sq <|Sb <|?_
  have al : InR 7 11:=by decide
  refine Te [1,2,3,5,24,25] Ac (Ev (by simp only [go_sem,al,al.2];exact Ak)) ?_
  refine Bd fun bP a4 =>Ck fun a5 =>Lt fun w a6 =>Fe (fr':=[(1,_),(2,_),(3,.bs false 2 (w.length) 0 (w.length)),(24,_),(25,_)]) (σ':=[_,_,.buf 4 (L cApi_Value w) false,_,_,_,_,_,_,_,_]) [1,2,3,24,25] (o1 32 (A7 a4)) (Ev (by simp only [go_sem,a5,a6];exact Ak)) ?_
  refine Bn <|Tn <|?_
  have a7 : w64 8 = 8:=by decide
  refine Fe [1,2,3,24,25] Ac (Ev (by simp only [go_sem,a7];exact Ak)) ?_
  refine Un ?_
  refine Ug (m:=8) ?_
  refine T0 [1,2,3,24,25,26] ?_
  refine Sq <|Ct <|Sk <|Tn <|Sq <|Sb <|?_
  have am : InR 8 11:=by decide
  refine Te [1,2,3,5,24,25] Ac (Ev (by simp only [go_sem,am,am.2];exact Ak)) ?_
  refine Bd fun bQ a8 =>Ck fun a9 =>Lt fun x ba =>Fe (fr':=[(1,_),(2,_),(3,.bs false 2 (x.length) 0 (x.length)),(24,_),(25,_)]) (σ':=[_,_,.buf 4 (L cApi_Value x) false,_,_,_,_,_,_,_,_,_]) [1,2,3,24,25] (o1 32 (A7 a8)) (Ev (by simp only [go_sem,a9,ba];exact Ak)) ?_
  refine Bn <|Tn <|?_
  have bb : w64 9 = 9:=by decide
  refine Fe [1,2,3,24,25] Ac (Ev (by simp only [go_sem,bb];exact Ak)) ?_
  refine Un ?_
  refine Ug (m:=7) ?_
  refine T0 [1,2,3,24,25,26] ?_
  refine Sq <|Ct <|Sk <|Tn <|Sq <|Sb <|?_
  have an : InR 9 11:=by decide
  refine Te [1,2,3,5,24,25] Ac (Ev (by simp only [go_sem,an,an.2];exact Ak)) ?_
  refine Bd fun bR bc =>Ck fun bd =>Lt fun y be =>Fe (fr':=[(1,_),(2,_),(3,.bs false 2 (y.length) 0 (y.length)),(24,_),(25,_)]) (σ':=[_,_,.buf 4 (L cApi_Value y) false,_,_,_,_,_,_,_,_,_,_]) [1,2,3,24,25] (o1 32 (A7 bc)) (Ev (by simp only [go_sem,bd,be];exact Ak)) ?_
  refine Bn <|Tn <|?_
  have bf : w64 10 = 10:=by decide
  refine Fe [1,2,3,24,25] Ac (Ev (by simp only [go_sem,bf];exact Ak)) ?_
  refine Un ?_
  refine Ug (m:=6) ?_
  refine T0 [1,2,3,24,25,26] ?_
  refine Sq <|Ct <|Sk <|Tn <|Sq <|Sb <|?_
  have ao : InR 10 11:=by decide
  refine Te [1,2,3,5,24,25] Ac (Ev (by simp only [go_sem,ao,ao.2];exact Ak)) ?_
  refine Bd fun bS bg =>Ck fun bh =>Lt fun z bi =>Fe (fr':=[(1,_),(2,_),(3,.bs false 2 (z.length) 0 (z.length)),(24,_),(25,_)]) (σ':=[_,_,.buf 4 (L cApi_Value z) false,_,_,_,_,_,_,_,_,_,_,_]) [1,2,3,24,25] (o1 32 (A7 bg)) (Ev (by simp only [go_sem,bh,bi];exact Ak)) ?_
  refine Bn <|Tn <|?_
  have bj : w64 11 = 11:=by decide
  refine Fe [1,2,3,24,25] Ac (Ev (by simp only [go_sem,bj];exact Ak)) ?_
  refine Un ?_
  refine Ug (m:=5) ?_
  refine T0 [1,2,3,24,25,26] ?_
  exact Sq <|Cf <|Sx <|Tx <|Ux <|Bx <|Jm (ws [0,1,2])
 intro b
 refine Bd fun c bk =>Te [1,2,3,6] (Ao (l:=[]) (m:=[(36,59,[.sl true (L cApi_Value ([]))],[.box [i64 a.Zb,i64 a.Ref.Za,i64 a.Ref.No,i64 a.Ze,i64 a.Zf,i64 a.Zg,i64 a.Zh,i64 a.Zi,i64 a.To,i64 a.Code,i64 a.Zj,i64 a.Zk,i64 a.Zl,i64 a.Zm,.str a.Zn,.sl false (L Ad a.Zo)] false,.box [i64 0,i64 0,.sl true (L cU8 ([])),.sl true (L cApi_Value ([]))] false,.buf 4 (L cApi_Value b) false],_,_)]) trivial ⟨(wc (Qf bk) []),trivial⟩) Ev ?_
 refine Ja (fun d => ⟨As 70 [(1,.ref 0 0),(2,.ref 1 0),(3,.bs false 2 (b.length) 0 (b.length)),(6,.ref 3 0)],[.box [i64 a.Zb,i64 a.Ref.Za,i64 a.Ref.No,i64 a.Ze,i64 a.Zf,i64 a.Zg,i64 a.Zh,i64 a.Zi,i64 a.To,i64 a.Code,i64 a.Zj,i64 a.Zk,i64 a.Zl,i64 a.Zm,.str a.Zn,.sl false (L Ad a.Zo)] false,.box [i64 0,i64 0,.sl true (L cU8 ([])),.sl true (L cApi_Value ([]))] false,.buf 4 (L cApi_Value b) false,.box [i64 c.Zb,i64 c.N,.sl true (L cU8 ([])),.bs false 4 (d.length) 0 (d.length)] false,.buf 4 (L cApi_Value d) false]⟩) ?_ ?_
 ·intro bT
  refine T0 [1,2,3,6,38,39,40] ?_
  refine Sb ?_
  refine Lo (fun (v : Int×List Api_Value) => (⟨As 70 [(1,.ref 0 0),(2,.ref 1 0),(3,.bs false 2 (b.length) 0 (b.length)),(6,.ref 3 0),(38,.sl false (L Ad a.Zo)),(39,i64 (a.Zo.length : Int)),(40,i64 v.1)],[.box [i64 a.Zb,i64 a.Ref.Za,i64 a.Ref.No,i64 a.Ze,i64 a.Zf,i64 a.Zg,i64 a.Zh,i64 a.Zi,i64 a.To,i64 a.Code,i64 a.Zj,i64 a.Zk,i64 a.Zl,i64 a.Zm,.str a.Zn,.sl false (L Ad a.Zo)] false,.box [i64 0,i64 0,.sl true (L cU8 ([])),.sl true (L cApi_Value ([]))] false,.buf 4 (L cApi_Value b) false,.box [i64 c.Zb,i64 c.N,.sl true (L cU8 ([])),.bs false 4 (v.2.length) 0 (v.2.length)] false,.buf 4 (L cApi_Value v.2) false]⟩ : St)) ((M8 3 3 4 rfl rfl).trans (ws [0,1,2,3,4])) ?_
  rintro ⟨aa,e⟩ bU bl bm bn
  show Na a aa e = some bl→_
  unfold Na
  refine T0 [1,2,3,6,38,39,40,41] ?_
  refine Sq <|Cd ?_ ?_
  ·refine Sk <|Tn <|Sq <|Sb <|Ck fun bo =>Lt fun g bp =>Lt fun i bq =>Lt fun j br =>Te (σ':=[_,_,_,_,_,.box [i64 g,i64 i,.bool j] false]) [1,2,3,6,8,38,39,40] Ac (Ev (by simp only [go_sem,qR bo,bp,bq,br];exact Ak)) ?_
   refine T0 [1,2,3,6,8,9,38,39,40] ?_
   refine Ja (fun ap => ⟨As 70 [(1,.ref 0 0),(2,.ref 1 0),(3,.bs false 2 (b.length) 0 (b.length)),(6,.ref 3 0),(8,.ref 4 0),(9,i64 ap),(38,.sl false (L Ad a.Zo)),(39,i64 (a.Zo.length : Int)),(40,i64 aa)],[.box [i64 a.Zb,i64 a.Ref.Za,i64 a.Ref.No,i64 a.Ze,i64 a.Zf,i64 a.Zg,i64 a.Zh,i64 a.Zi,i64 a.To,i64 a.Code,i64 a.Zj,i64 a.Zk,i64 a.Zl,i64 a.Zm,.str a.Zn,.sl false (L Ad a.Zo)] false,.box [i64 0,i64 0,.sl true (L cU8 ([])),.sl true (L cApi_Value ([]))] false,.buf 4 (L cApi_Value b) false,.box [i64 c.Zb,i64 c.N,.sl true (L cU8 ([])),.bs false 5 (e.length) 0 (e.length)] false,.box [i64 g,i64 i,.bool j] false,.buf 4 (L cApi_Value e) false]⟩) ?_ ?_
   ·intro bV
    refine T0 [1,2,3,6,8,9,38,39,40,45] ?_
    refine Cd ?_ ?_
    ·refine F0 [1,2,3,6,8,9,38,39,40] ?_
     exact Jm (ws [0,1,2,3,5,4])
    ·exact Sk <|Jm (ws [0,1,2,3,5,4])
   intro ap
   refine Bd fun bt bu =>Bd fun bv bw =>Bd fun bx bz =>Bd fun ab bA =>Ck fun aq =>Lt fun ac ar =>?_
   intro h
   refine AdM hE mixed [[],[0],[],[2],[2,3],[],[5],[2,3,4,5,6],[],[2,3,4,5,6,7,8],[2,3,4,5,6,7,8,9],[2,3,4,5,6,7,8,9,10],[2,3,4,5,6,7,8,9,10,11],[0,1,2,3,4,5,6,7,8,9,10,11,12],[0,1,2,3,4,5,6,7,8,9,10,11,12,13],[0,1,2,3,4,5,6,7,8,9,10,11,12,13,14]] (by kernel_rfl) 11 [0,1] [1,2,3,6,38,39,40,46] (by kernel_rfl) (Ed Uh) (fr':=[(1,.ref 0 0),(2,.ref 1 0),(3,.bs false 2 (b.length) 0 (b.length)),(6,.ref 3 0),(38,.sl false (L Ad a.Zo)),(39,i64 (a.Zo.length : Int)),(40,i64 aa),(46,.ref 3 3)]) (σ':=[.box [i64 a.Zb,i64 a.Ref.Za,i64 a.Ref.No,i64 a.Ze,i64 a.Zf,i64 a.Zg,i64 a.Zh,i64 a.Zi,i64 a.To,i64 a.Code,i64 a.Zj,i64 a.Zk,i64 a.Zl,i64 a.Zm,.str a.Zn,.sl false (L Ad a.Zo)] false,.box [i64 0,i64 0,.sl true (L cU8 ([])),.sl true (L cApi_Value ([]))] false,.buf 4 (L cApi_Value b) false,.box [i64 c.Zb,i64 c.N,.sl true (L cU8 ([])),.bs false 5 (ac.length) 0 (ac.length)] false,.box [i64 g,i64 i,.bool j] false,.buf 4 (L cApi_Value ac) false,.buf 4 (L cApi_Value ([(Api_Value.mk ab.Zb ab.N ([]) ab.L)] : List Api_Value)) false]) ⟨_,_,_,_,_,_,_,rfl,?_,(Ao (l:=[(50,_,_,_),(53,_,_,_),(55,_,_,_)]) (m:=[(57,59,[.sl false (L cApi_Value ([bt,bv,bx] : List Api_Value))],[.box [i64 a.Zb,i64 a.Ref.Za,i64 a.Ref.No,i64 a.Ze,i64 a.Zf,i64 a.Zg,i64 a.Zh,i64 a.Zi,i64 a.To,i64 a.Code,i64 a.Zj,i64 a.Zk,i64 a.Zl,i64 a.Zm,.str a.Zn,.sl false (L Ad a.Zo)] false,.box [i64 0,i64 0,.sl true (L cU8 ([])),.sl true (L cApi_Value ([]))] false,.buf 4 (L cApi_Value b) false,.box [i64 c.Zb,i64 c.N,.sl true (L cU8 ([])),.bs false 5 (e.length) 0 (e.length)] false,.box [i64 g,i64 i,.bool j] false,.buf 4 (L cApi_Value e) false],_,_)]) ⟨A7  bu,A7  bw,A7  bz,trivial⟩ ⟨(wc (Kj bA) []),trivial⟩),?_⟩ ?_
   ·subst ar;simp only [go_sem,aq]
   ·subst ar;simp only [go_sem,aq]
   revert h
   refine Bn <|Tn <|F0 [1,2,3,6,38,39,40] ?_
   exact Ln (ws [0,1,2,3,5])
  ·refine Sx <|Tx <|Ly bn bm <|Bx <|?_
   exact Jm ((ws (l':=[(1,.ref 0 0),(2,.ref 1 0),(3,.bs false 2 (b.length) 0 (b.length)),(6,.ref 3 0)]) (σ':=[.box [i64 a.Zb,i64 a.Ref.Za,i64 a.Ref.No,i64 a.Ze,i64 a.Zf,i64 a.Zg,i64 a.Zh,i64 a.Zi,i64 a.To,i64 a.Code,i64 a.Zj,i64 a.Zk,i64 a.Zl,i64 a.Zm,.str a.Zn,.sl false (L Ad a.Zo)] false,.box [i64 0,i64 0,.sl true (L cU8 ([])),.sl true (L cApi_Value ([]))] false,.buf 4 (L cApi_Value b) false,.box [i64 c.Zb,i64 c.N,.sl true (L cU8 ([])),.bs false 4 (e.length) 0 (e.length)] false,.buf 4 (L cApi_Value e) false]) [0,1,2,3,4]).trans (ws [0,1,2,3,4]))
 intro d
 refine Rw (Mj 3 3 rfl rfl rfl gs gs) ?_
 refine Bd fun k bB =>Ck fun bC =>Bd fun au bD =>Lt fun ad bE =>De (σ':=[_,.box [i64 au.Zb,i64 au.N,.sl true (L cU8 ([])),.bs false 2 (ad.length) 0 (ad.length)] false,.buf 4 (L cApi_Value ad) false,_,_,_]) [[],[],[1],[1,2],[],[1,2,3,4],[0,1,2,3,4,5],[0,1,2,3,4,5,6],[0,1,2,3,4,5,6,7]] [2] (Ao (l:=[(65,_,_,_)]) (m:=[(69,59,[.bs false 2 ((b ++ ([k,(Api_Value.mk c.Zb c.N ([]) d)] : List Api_Value)).length) 0 ((b ++ ([k,(Api_Value.mk c.Zb c.N ([]) d)] : List Api_Value)).length)],[.box [i64 a.Zb,i64 a.Ref.Za,i64 a.Ref.No,i64 a.Ze,i64 a.Zf,i64 a.Zg,i64 a.Zh,i64 a.Zi,i64 a.To,i64 a.Code,i64 a.Zj,i64 a.Zk,i64 a.Zl,i64 a.Zm,.str a.Zn,.sl false (L Ad a.Zo)] false,.box [i64 0,i64 0,.sl true (L cU8 ([])),.sl true (L cApi_Value ([]))] false,.buf 4 (L cApi_Value (b ++ ([k,(Api_Value.mk c.Zb c.N ([]) d)] : List Api_Value))) false,.box [i64 c.Zb,i64 c.N,.sl true (L cU8 ([])),.sl false (L cApi_Value d)] false,.buf 4 (L cApi_Value d) true,.buf 4 (L cApi_Value ([k,(Api_Value.mk c.Zb c.N ([]) d)] : List Api_Value)) false],_,_)]) ⟨Aap  bB,trivial⟩ ⟨(wc (Rg bD) [2]),trivial⟩) (Ev (by simp only [go_sem,bC,bE];exact Ak)) ?_
 exact Sr <|Rr
theorem N6 {a : List UInt8} {b : List UInt8} {r : Int} (h : Mc a b = some r) : Con B 113 [.sl false (L cU8 a),.sl false (L cU8 b)] [] (fun r' σ' => r' = i64 r∧σ' = []) :=
 Acn Tryz.func113 (by decide +kernel) rfl (by kernel_rfl) (by kernel_rfl) h
theorem Kl {a r} (h : Ia a = some r) : Con B 112 [i64 a] [] (fun r' σ' => r' = .bool r∧σ' = []):=by
 refine Cw 6 [.tmp 2] Tryz.func112 (fun F hE => ?_) h
 unfold Ia
 refine T0 [0] ?_
 refine T0 [2] ?_
 exact Sr <|Rr
theorem Jj {a b r} (h : Hm a b = some r) : Con B 74 [i64 a,i64 b] [] (fun r' σ' => r' = i64 r∧σ' = []):=by
 refine Cw 20 [.tmp 4] Tryz.func74 (fun F hE => ?_) h
 unfold Hm
 refine T0 [0,1] ?_
 refine Bd fun e c =>Te [0,1,5] (o1 8 (Kl c)) Ev ?_
 refine Bd fun f d =>Te [0,1,5,6] (o1 10 (Kl d)) Ev ?_
 refine Sq <|T0 [0,1,6,11] ?_
 refine Cd ?_ ?_
 ·refine Sq <|T0 [12] ?_
  refine Cd ?_ ?_
  ·refine T0 [4] ?_
   exact Sr <|Tr <|Tr <|Rr
  ·refine Sk <|Tn <|T0 [4] ?_
   exact Sr <|Tr <|Rr
 ·refine Sk <|Tn <|Sq <|T0 [0,1,13] ?_
  refine Cd ?_ ?_
  ·refine T0 [4] ?_
   exact Sr <|Tr <|Rr
  ·refine Sk <|Tn <|Sq <|T0 [0,1,16] ?_
   refine Cd ?_ ?_
   ·refine T0 [4] ?_
    exact Sr <|Tr <|Rr
   ·refine Sk <|Tn <|Sq <|T0 [19] ?_
    refine Cd ?_ ?_
    ·refine T0 [4] ?_
     exact Sr <|Tr <|Rr
    ·refine Sk <|Tn <|T0 [4] ?_
     exact Sr <|Rr
theorem P8 {a b r} (h : K2 a b = some r) : Con B 75 [.sl false (L cU8 a),.sl false (L cU8 b)] [] (fun r' σ' => r' = i64 r∧σ' = []):=by
 refine Cw 8 [.tmp 4] Tryz.func75 (fun F hE => ?_) h
 unfold K2
 refine T0 [0,1] ?_
 refine Bd fun d c =>Te [4] (o1 7 (N6 c)) Ev ?_
 exact Sr <|Rr
theorem Jw {f : Api_Value→Api_Value→Option (Int)} {s1_3072 : List Api_Value} {s2_3073 : List Api_Value} {b : Api_Value→Api_Value→Option (Int)} (h26 : ∀ {a0 : Api_Value} {a1 : Api_Value} {r : Int},f a0 a1 = some r→Con B 26 [.agg [i64 a0.Zb,i64 a0.N,.sl false (L cU8 a0.B),.sl false (L cApi_Value a0.L)],.agg [i64 a1.Zb,i64 a1.N,.sl false (L cU8 a1.B),.sl false (L cApi_Value a1.L)]] [] (fun r' σ' => r' = i64 r∧σ' = [])) {a : Nat} (i : ∀ {a0 : Api_Value} {a1 : Api_Value} {r : Int},b a0 a1 = some r→Con B a [.agg [i64 a0.Zb,i64 a0.N,.sl false (L cU8 a0.B),.sl false (L cApi_Value a0.L)],.agg [i64 a1.Zb,i64 a1.N,.sl false (L cU8 a1.B),.sl false (L cApi_Value a1.L)]] [] (fun r' σ' => r' = i64 r∧σ' = [])) {r : Int} (h : E2 f s1_3072 s2_3073 b = some r) : Con B 76 [.sl false (L cApi_Value s1_3072),.sl false (L cApi_Value s2_3073),.fn a []] [] (fun r' σ' => r' = i64 r∧σ' = []):=by
 refine Ou (N:=39) (rs:=[.tmp 6]) ok Tryz.func76 rfl (by decide +kernel) rfl rfl (Nat.le_of_ble_eq_true rfl) (fun F => ?_)
 have hE:=ok.env F
 unfold E2 at h
 show Run (B.env F) 0 _ ⟨As 39 [(0,.sl false (L cApi_Value s1_3072)),(1,.sl false (L cApi_Value s2_3073)),(2,.fn a [])],[]⟩ _
 refine Qc ?_
 revert h
 refine T0 [0,1,2] ?_
 refine Jo (fun _ => ⟨As 39 [(0,.sl false (L cApi_Value s1_3072)),(1,.sl false (L cApi_Value s2_3073))],[]⟩) ?_ ?_
 ·intro ae g
  refine T0 [0,1,2,11,12,13] ?_
  refine Sb ?_
  refine Lo (fun c => ⟨As 39 [(0,.sl false (L cApi_Value s1_3072)),(1,.sl false (L cApi_Value s2_3073)),(2,.fn a []),(11,.sl false (L cApi_Value s1_3072)),(12,i64 (s1_3072.length : Int)),(13,i64 c)],[]⟩) (ws []) ?_
  rintro c af j d e
  show Ef s1_3072 s2_3073 b c = some j→_
  unfold Ef
  refine T0 [0,1,2,11,12,13,14] ?_
  refine Sq <|Cd ?_ ?_
  ·refine Sk <|Tn <|Sq <|Sb <|Ck fun k =>Lt fun l m =>Lt fun n o =>Lt fun p q =>Lt fun s t =>Te (σ':=[.box [i64 l,i64 n,.sl false (L cU8 p),.sl false (L cApi_Value s)] false]) [0,1,2,7,8,11,12,13] Ac (Ev (by simp only [go_sem,qR k,m,o,q,t];exact Ak)) ?_
   refine Sq <|T0 [0,1,2,7,8,11,12,13,21] ?_
   refine Cd ?_ ?_
   ·refine T0 [6] ?_
    exact Sr <|Tr <|Br <|Tr <|Lr e d <|Br <|Jr g <|Rr
   ·refine Sk <|Tn <|Ck fun u =>Lt fun v w =>Lt fun x y =>Lt fun z aa =>Lt fun ab ac =>Te (σ':=[_,.box [i64 v,i64 x,.sl false (L cU8 z),.sl false (L cApi_Value ab)] false]) [0,1,2,8,9,11,12,13] Ac (Ev (by simp only [go_sem,qR u,w,y,aa,ac];exact Ak)) ?_
    refine Bd fun ag ad =>Te [0,1,2,10,11,12,13] (o1 29 (i ad)) Ev ?_
    refine T0 [0,1,2,10,11,12,13,31] ?_
    refine Cd ?_ ?_
    ·refine T0 [6] ?_
     exact Sr <|Br <|Tr <|Lr e d <|Br <|Jr g <|Rr
    ·refine Sk <|Bn <|Tn <|F0 [0,1,2,11,12,13] ?_
     exact Ln (ws [])
  ·refine Sx <|Tx <|Lx e d <|Bx <|?_
   exact Jn ((ws (l':=[(0,.sl false (L cApi_Value s1_3072)),(1,.sl false (L cApi_Value s2_3073))]) (σ':=[]) []).trans (ws []))
 intro _
 refine Sq <|T0 [38] ?_
 refine Cd ?_ ?_
 ·refine T0 [6] ?_
  exact Sr <|Tr <|Rr
 ·refine Sk <|Tn <|T0 [6] ?_
  exact Sr <|Rr
theorem Nw {rec_ : Api_Value→Api_Value→Option (Int)} (hrec : ∀ {a : Api_Value} {b : Api_Value} {r : Int},rec_ a b = some r→Con B 26 [.agg [i64 a.Zb,i64 a.N,.sl false (L cU8 a.B),.sl false (L cApi_Value a.L)],.agg [i64 b.Zb,i64 b.N,.sl false (L cU8 b.B),.sl false (L cApi_Value b.L)]] [] (fun r' σ' => r' = i64 r∧σ' = [])) {a : Api_Value} {b : Api_Value} {r : Int} (h : It rec_ a b = some r) : Con B 26 [.agg [i64 a.Zb,i64 a.N,.sl false (L cU8 a.B),.sl false (L cApi_Value a.L)],.agg [i64 b.Zb,i64 b.N,.sl false (L cU8 b.B),.sl false (L cApi_Value b.L)]] [] (fun r' σ' => r' = i64 r∧σ' = []):=by
 refine Ou (N:=37) (rs:=[.tmp 4]) ok Tryz.func26 rfl (by decide +kernel) rfl rfl (Nat.le_of_ble_eq_true rfl) (fun F => ?_)
 have hE:=ok.env F
 unfold It at h
 show Run (B.env F) 0 _ ⟨As 37 [(0,.agg [i64 a.Zb,i64 a.N,.sl false (L cU8 a.B),.sl false (L cApi_Value a.L)]),(1,.agg [i64 b.Zb,i64 b.N,.sl false (L cU8 b.B),.sl false (L cApi_Value b.L)])],[]⟩ _
 refine Qc ?_
 revert h
 refine T0 [2,3] ?_
 refine Sq <|Bd fun g c =>Te [2,3,5] (o1 10 (Jj c)) Ev ?_
 refine T0 [2,3,5,12] ?_
 refine Cd ?_ ?_
 ·refine T0 [4] ?_
  exact Sr <|Tr <|Rr
 ·refine Sk <|Tn <|Sq <|T0 [2,3,15] ?_
  refine Sb <|T0 [2,3,15,16] ?_
  refine Cd ?_ ?_
  ·refine Bd fun i d =>Te [4] (o1 22 (Jj d)) Ev ?_
   exact Sr <|Br <|Tr <|Rr
  ·refine T0 [2,3,15,23] ?_
   refine Cd ?_ ?_
   ·refine Bd fun j e =>Te [4] (o1 29 (P8 e)) Ev ?_
    exact Sr <|Br <|Tr <|Rr
   ·refine T0 [2,3,30] ?_
    refine Cd ?_ ?_
    ·refine Bd fun k f =>Te [4] (o1 36 (Jw (fun h => hrec h) (fun h => hrec h) f)) Ev ?_
     exact Sr <|Br <|Tr <|Rr
    ·refine Sk <|Bn <|Tn <|T0 [4] ?_
     exact Sr <|Rr
theorem Oa (n : Nat) : ∀ {a : Api_Value} {b : Api_Value} {r : Int},Io n a b = some r→Con B 26 [.agg [i64 a.Zb,i64 a.N,.sl false (L cU8 a.B),.sl false (L cApi_Value a.L)],.agg [i64 b.Zb,i64 b.N,.sl false (L cU8 b.B),.sl false (L cApi_Value b.L)]] [] (fun r' σ' => r' = i64 r∧σ' = []):=by
  induction n with
  | zero => intro a b r h;cases h
  | succ n ih => intro a b r h;exact Nw ih h
theorem Fo {a : Api_Value} {b : Api_Value} {r : Int} (h : Oe a b = some r) : Con B 26 [.agg [i64 a.Zb,i64 a.N,.sl false (L cU8 a.B),.sl false (L cApi_Value a.L)],.agg [i64 b.Zb,i64 b.N,.sl false (L cU8 b.B),.sl false (L cApi_Value b.L)]] [] (fun r' σ' => r' = i64 r∧σ' = []):=Oa _ h
theorem Ui {rec_ : Api_Value→Api_Value→Option (Bool)} (hrec : ∀ {a : Api_Value} {b : Api_Value} {r : Bool},rec_ a b = some r→Con B 79 [.agg [i64 a.Zb,i64 a.N,.sl false (L cU8 a.B),.sl false (L cApi_Value a.L)],.agg [i64 b.Zb,i64 b.N,.sl false (L cU8 b.B),.sl false (L cApi_Value b.L)]] [] (fun r' σ' => r' = .bool r∧σ' = [])) {a : Api_Value} {b : Api_Value} {r : Bool} (h : Pn rec_ a b = some r) : Con B 79 [.agg [i64 a.Zb,i64 a.N,.sl false (L cU8 a.B),.sl false (L cApi_Value a.L)],.agg [i64 b.Zb,i64 b.N,.sl false (L cU8 b.B),.sl false (L cApi_Value b.L)]] [] (fun r' σ' => r' = .bool r∧σ' = []):=by
 refine Ou (N:=61) (rs:=[.tmp 4]) ok Tryz.func79 rfl (by decide +kernel) rfl rfl (Nat.le_of_ble_eq_true rfl) (fun F => ?_)
 have hE:=ok.env F
 unfold Pn at h
 show Run (B.env F) 0 _ ⟨As 61 [(0,.agg [i64 a.Zb,i64 a.N,.sl false (L cU8 a.B),.sl false (L cApi_Value a.L)]),(1,.agg [i64 b.Zb,i64 b.N,.sl false (L cU8 b.B),.sl false (L cApi_Value b.L)])],[]⟩ _
 refine Qc ?_
 revert h
 refine T0 [2,3] ?_
 refine Sq ?_
 refine Tw [2,3,41] (fun j => ⟨As 61 [(2,.ref 0 0),(3,.ref 1 0),(41,.bool j)],[.box [i64 a.Zb,i64 a.N,.sl false (L cU8 a.B),.sl false (L cApi_Value a.L)] false,.box [i64 b.Zb,i64 b.N,.sl false (L cU8 b.B),.sl false (L cApi_Value b.L)] false]⟩) ?_ ?_
 ·intro _
  refine Sp (fun c => ?_) fun c => ?_
  ·exact Lf Ac (Ev (by simp only [go_sem,c];exact Ak)) (ws [0,1])
  ·refine Bd fun s e => ?_
   refine Sp (fun d => ?_) fun d => ?_
   ·exact Lf (o1 14 (Fo e)) (Ev (by simp only [go_sem,c,d];exact Ak)) (ws [0,1])
   ·refine Sp (fun f => ?_) fun f => ?_
    ·exact Lf (o1 14 (Fo e)) (Ev (by simp only [go_sem,c,d,f];exact Ak)) (ws [0,1])
    ·refine Sp (fun g => ?_) fun g => ?_
     ·exact Lf (o1 14 (Fo e)) (Ev (by simp only [go_sem,c,d,f,g];exact Ak)) (ws [0,1])
     ·exact Lf (o1 14 (Fo e)) (Ev (by simp only [go_sem,c,d,f,g];exact Ak)) (ws [0,1])
 intro j
 refine Cd ?_ ?_
 ·refine T0 [4] ?_
  exact Sr <|Tr <|Rr
 ·refine Sk <|Tn <|?_
  refine Jo (fun _ => ⟨As 61 [],[]⟩) ?_ ?_
  ·intro t m
   refine T0 [2,3,44,45] ?_
   refine Sb ?_
   refine Lo (fun i => ⟨As 61 [(2,.ref 0 0),(3,.ref 1 0),(44,i64 (a.L.length : Int)),(45,i64 i)],[.box [i64 a.Zb,i64 a.N,.sl false (L cU8 a.B),.sl false (L cApi_Value a.L)] false,.box [i64 b.Zb,i64 b.N,.sl false (L cU8 b.B),.sl false (L cApi_Value b.L)] false]⟩) (ws [0,1]) ?_
   rintro i u n k l
   show N8 a b rec_ i = some n→_
   unfold N8
   refine T0 [2,3,44,45,46] ?_
   refine Sq <|Cd ?_ ?_
   ·refine Sk <|Tn <|Sq <|Sb <|T0 [2,3,5,44,45] ?_
    refine Ck fun o =>Ck fun p =>Bd fun v q =>De [[],[0],[],[0,1,2],[0,1,2,3],[],[5],[],[5,6,7],[5,6,7,8],[0,1,2,3,4,5,6,7,8,9],[0,1,2,3,4,5,6,7,8,9,10]] [2,3,44,45,59] (o1 58 (hrec q)) (Ev (by simp only [go_sem,qR o,qR p];exact Ak)) ?_
    refine Cd ?_ ?_
    ·refine T0 [4] ?_
     exact Sr <|Br <|Tr <|Lr l k <|Br <|Jr m <|Rr
    ·refine Sk <|Bn <|Tn <|F0 [2,3,44,45] ?_
     exact Ln (ws [0,1])
   ·refine Sx <|Tx <|Lx l k <|Bx <|?_
    exact Jn ((ws (l':=[]) (σ':=[]) []).trans (ws []))
  intro _
  refine T0 [4] ?_
  exact Sr <|Rr
theorem U4 (n : Nat) : ∀ {a : Api_Value} {b : Api_Value} {r : Bool},Qe n a b = some r→Con B 79 [.agg [i64 a.Zb,i64 a.N,.sl false (L cU8 a.B),.sl false (L cApi_Value a.L)],.agg [i64 b.Zb,i64 b.N,.sl false (L cU8 b.B),.sl false (L cApi_Value b.L)]] [] (fun r' σ' => r' = .bool r∧σ' = []):=by
  induction n with
  | zero => intro a b r h;cases h
  | succ n ih => intro a b r h;exact Ui ih h
theorem Yc {a : Api_Value} {b : Api_Value} {r : Bool} (h : Acr a b = some r) : Con B 79 [.agg [i64 a.Zb,i64 a.N,.sl false (L cU8 a.B),.sl false (L cApi_Value a.L)],.agg [i64 b.Zb,i64 b.N,.sl false (L cU8 b.B),.sl false (L cApi_Value b.L)]] [] (fun r' σ' => r' = .bool r∧σ' = []):=U4 _ h
theorem Kr {a r} (h : Ic a = some r) : Con B 32 [.agg [i64 a.Zb,i64 a.N,.sl false (L cU8 a.B),.sl false (L cApi_Value a.L)]] [] (fun r' σ' => r' = .tup [.agg [i64 r.1.Zb,i64 r.1.Ref.Za,i64 r.1.Ref.No,i64 r.1.Ze,i64 r.1.Zf,i64 r.1.Zg,i64 r.1.Zh,i64 r.1.Zi,i64 r.1.To,i64 r.1.Code,i64 r.1.Zj,i64 r.1.Zk,i64 r.1.Zl,i64 r.1.Zm,.str r.1.Zn,.sl false (L Ad r.1.Zo)],i64 r.2]∧σ' = []):=by
 refine Cw 114 [.cell 2 41,.tmp 3] Tryz.func32 (fun F hE => ?_) h
 unfold Ic
 refine T0 [1,2] ?_
 refine Te [1,2,4] (Ao (l:=[]) (m:=[(8,51,[.ref 1 0],[.box [i64 a.Zb,i64 a.N,.sl false (L cU8 a.B),.sl false (L cApi_Value a.L)] false,.box [i64 0,i64 0,i64 0,i64 0,i64 0,i64 0,i64 0,i64 0,i64 0,i64 0,i64 0,i64 0,i64 0,i64 0,.str ([] : List UInt8),.sl true (L Ad ([]))] false],.agg [.ref 1 3,.ref 1 4,.ref 1 5,.ref 1 6,.ref 1 7,.ref 1 8,.ref 1 9,.ref 1 10,.ref 1 11,.ref 1 12,.ref 1 13],[.box [i64 a.Zb,i64 a.N,.sl false (L cU8 a.B),.sl false (L cApi_Value a.L)] false,.box [i64 0,i64 0,i64 0,i64 0,i64 0,i64 0,i64 0,i64 0,i64 0,i64 0,i64 0,i64 0,i64 0,i64 0,.str ([] : List UInt8),.sl true (L Ad ([]))] false])]) trivial ⟨Bc,trivial⟩) Ev ?_
 refine Sq ?_
 refine Tw [1,2,4,21] (fun i => ⟨As 114 [(1,.ref 0 0),(2,.ref 1 0),(4,.ref 2 0),(21,.bool i)],[.box [i64 a.Zb,i64 a.N,.sl false (L cU8 a.B),.sl false (L cApi_Value a.L)] false,.box [i64 0,i64 0,i64 0,i64 0,i64 0,i64 0,i64 0,i64 0,i64 0,i64 0,i64 0,i64 0,i64 0,i64 0,.str ([] : List UInt8),.sl true (L Ad ([]))] false,.box [.ref 1 3,.ref 1 4,.ref 1 5,.ref 1 6,.ref 1 7,.ref 1 8,.ref 1 9,.ref 1 10,.ref 1 11,.ref 1 12,.ref 1 13] false]⟩) ?_ ?_
 ·intro _
  refine Sp (fun f => ?_) fun f => ?_
  ·exact Lf Ac (Ev (by simp only [go_sem,f];exact Ak)) (ws [0,1,2])
  ·refine Ck fun aa => ?_
   exact Lf Ac (Ev (by simp only [go_sem,f,qL aa];exact Ak)) (ws [0,1,2])
 intro i
 refine Cd ?_ ?_
 ·refine T0 [2,3] ?_
  exact Sr <|Tr <|Rr
 ·refine Sk <|Tn <|Ck fun ab =>Te [1,2,4] Ac (Ev (by simp only [go_sem,qL ab];exact Ak)) ?_
  refine Ck fun ac =>Ck fun ad =>Ck fun ae =>Ck fun af =>Lt fun b ag =>Lt fun c ah =>De (σ':=[_,.box [i64 ((nth a.L 0).N),i64 b,i64 c,i64 0,i64 0,i64 0,i64 0,i64 0,i64 0,i64 0,i64 0,i64 0,i64 0,i64 0,.str ([] : List UInt8),.sl true (L Ad ([]))] false,_]) [[],[0],[0,1],[0,1,2],[0,1,2,3],[0,1,2,3,4],[0,1,2,3,4,5],[0,1,2,3,4,5,6],[],[8],[8,9],[8,9,10],[8,9,10,11],[8,9,10,11,12],[8,9,10,11,12,13],[8,9,10,11,12,13,14],[0,1,2,3,4,5,6,7,8,9,10,11,12,13,14,15],[0,1,2,3,4,5,6,7,8,9,10,11,12,13,14,15,16],[0,1,2,3,4,5,6,7,8,9,10,11,12,13,14,15,16,17]] [1,2,4] Ac (Ev (by simp only [go_sem,qL ac,qL ad,qL ae,qL af,ag,ah];exact Ak)) ?_
  refine Ja (fun _ => ⟨As 114 [(1,.ref 0 0),(2,.ref 1 0)],[.box [i64 a.Zb,i64 a.N,.sl false (L cU8 a.B),.sl false (L cApi_Value a.L)] false,.box [i64 ((nth a.L 0).N),i64 b,i64 c,i64 ((nth a.L 2).N),i64 ((nth a.L 3).N),i64 ((nth a.L 4).N),i64 ((nth a.L 5).N),i64 ((nth a.L 6).N),i64 ((nth a.L 7).N),i64 ((nth a.L 8).N),i64 ((nth a.L 9).N),i64 ((nth a.L 10).N),i64 ((nth a.L 11).N),i64 ((nth a.L 12).N),.str ([] : List UInt8),.sl true (L Ad ([]))] false]⟩) ?_ ?_
  ·intro bc
   refine T0 [1,2,4,47] ?_
   refine Sb ?_
   refine Ul 17 ?_
   refine Ug (m:=16) ?_
   refine T0 [1,2,4,47,48] ?_
   refine Sq <|Ct <|Sk <|Tn <|Sq <|Sb <|T0 [1,2,4,5,47] ?_
   have j : InR 0 11:=by decide
   have ai : w64 2 = 2:=by decide
   refine Ck fun aj =>Ge [[],[0],[0,1],[],[3],[],[5],[3,4,5,6],[3,4,5,6,7],[3,4,5,6,7,8],[0,1,2,3,4,5,6,7,8,9],[0,1,2,3,4,5,6,7,8,9,10]] [1,2,4,47] Ac (Ev (by simp only [go_sem,j,j.2,ai,qL aj];exact Ak)) ?_
   refine Bn <|Tn <|?_
   have ak : w64 1 = 1:=by decide
   refine Fe [1,2,4,47] Ac (Ev (by simp only [go_sem,ak];exact Ak)) ?_
   refine Un ?_
   refine Ug (m:=15) ?_
   refine T0 [1,2,4,47,48] ?_
   refine Sq <|Ct <|Sk <|Tn <|Sq <|Sb <|T0 [1,2,4,5,47] ?_
   have k : InR 1 11:=by decide
   have al : w64 3 = 3:=by decide
   refine Ck fun am =>Ge [[],[0],[0,1],[],[3],[],[5],[3,4,5,6],[3,4,5,6,7],[3,4,5,6,7,8],[0,1,2,3,4,5,6,7,8,9],[0,1,2,3,4,5,6,7,8,9,10]] [1,2,4,47] Ac (Ev (by simp only [go_sem,k,k.2,al,qL am];exact Ak)) ?_
   refine Bn <|Tn <|?_
   have an : w64 2 = 2:=by decide
   refine Fe [1,2,4,47] Ac (Ev (by simp only [go_sem,an];exact Ak)) ?_
   refine Un ?_
   refine Ug (m:=14) ?_
   refine T0 [1,2,4,47,48] ?_
   refine Sq <|Ct <|Sk <|Tn <|Sq <|Sb <|T0 [1,2,4,5,47] ?_
   have n : InR 2 11:=by decide
   have ao : w64 4 = 4:=by decide
   refine Ck fun ap =>Ge [[],[0],[0,1],[],[3],[],[5],[3,4,5,6],[3,4,5,6,7],[3,4,5,6,7,8],[0,1,2,3,4,5,6,7,8,9],[0,1,2,3,4,5,6,7,8,9,10]] [1,2,4,47] Ac (Ev (by simp only [go_sem,n,n.2,ao,qL ap];exact Ak)) ?_
   refine Bn <|Tn <|?_
   have aq : w64 3 = 3:=by decide
   refine Fe [1,2,4,47] Ac (Ev (by simp only [go_sem,aq];exact Ak)) ?_
   refine Un ?_
   refine Ug (m:=13) ?_
   refine T0 [1,2,4,47,48] ?_
   refine Sq <|Ct <|Sk <|Tn <|Sq <|Sb <|T0 [1,2,4,5,47] ?_
   have o : InR 3 11:=by decide
   have ar : w64 5 = 5:=by decide
   refine Ck fun au =>Ge [[],[0],[0,1],[],[3],[],[5],[3,4,5,6],[3,4,5,6,7],[3,4,5,6,7,8],[0,1,2,3,4,5,6,7,8,9],[0,1,2,3,4,5,6,7,8,9,10]] [1,2,4,47] Ac (Ev (by simp only [go_sem,o,o.2,ar,qL au];exact Ak)) ?_
   refine Bn <|Tn <|?_
   have av : w64 4 = 4:=by decide
   refine Fe [1,2,4,47] Ac (Ev (by simp only [go_sem,av];exact Ak)) ?_
   refine Un ?_
   refine Ug (m:=12) ?_
   refine T0 [1,2,4,47,48] ?_
   refine Sq <|Ct <|Sk <|Tn <|Sq <|Sb <|T0 [1,2,4,5,47] ?_
   have p : InR 4 11:=by decide
   have aw : w64 6 = 6:=by decide
   refine Ck fun ax =>Ge [[],[0],[0,1],[],[3],[],[5],[3,4,5,6],[3,4,5,6,7],[3,4,5,6,7,8],[0,1,2,3,4,5,6,7,8,9],[0,1,2,3,4,5,6,7,8,9,10]] [1,2,4,47] Ac (Ev (by simp only [go_sem,p,p.2,aw,qL ax];exact Ak)) ?_
   refine Bn <|Tn <|?_
   have ay : w64 5 = 5:=by decide
   refine Fe [1,2,4,47] Ac (Ev (by simp only [go_sem,ay];exact Ak)) ?_
   refine Un ?_
   refine Ug (m:=11) ?_
   refine T0 [1,2,4,47,48] ?_
   refine Sq <|Ct <|Sk <|Tn <|Sq <|Sb <|T0 [1,2,4,5,47] ?_
   have q : InR 5 11:=by decide
   have az : w64 7 = 7:=by decide
   refine Ck fun aA =>Ge [[],[0],[0,1],[],[3],[],[5],[3,4,5,6],[3,4,5,6,7],[3,4,5,6,7,8],[0,1,2,3,4,5,6,7,8,9],[0,1,2,3,4,5,6,7,8,9,10]] [1,2,4,47] Ac (Ev (by simp only [go_sem,q,q.2,az,qL aA];exact Ak)) ?_
   refine Bn <|Tn <|?_
   have aB : w64 6 = 6:=by decide
   refine Fe [1,2,4,47] Ac (Ev (by simp only [go_sem,aB];exact Ak)) ?_
   refine Un ?_
   refine Ug (m:=10) ?_
   refine T0 [1,2,4,47,48] ?_
   refine Sq <|Ct <|Sk <|Tn <|Sq <|Sb <|T0 [1,2,4,5,47] ?_
   have s : InR 6 11:=by decide
   have aC : w64 8 = 8:=by decide
   refine Ck fun aD =>Ge [[],[0],[0,1],[],[3],[],[5],[3,4,5,6],[3,4,5,6,7],[3,4,5,6,7,8],[0,1,2,3,4,5,6,7,8,9],[0,1,2,3,4,5,6,7,8,9,10]] [1,2,4,47] Ac (Ev (by simp only [go_sem,s,s.2,aC,qL aD];exact Ak)) ?_
   refine Bn <|Tn <|?_
   have aE : w64 7 = 7:=by decide
   refine Fe [1,2,4,47] Ac (Ev (by simp only [go_sem,aE];exact Ak)) ?_
   refine Un ?_
   refine Ug (m:=9) ?_
   refine T0 [1,2,4,47,48] ?_
   refine Sq <|Ct <|Sk <|Tn <|Sq <|Sb <|T0 [1,2,4,5,47] ?_
   have t : InR 7 11:=by decide
   have aF : w64 9 = 9:=by decide
   refine Ck fun aG =>Ge [[],[0],[0,1],[],[3],[],[5],[3,4,5,6],[3,4,5,6,7],[3,4,5,6,7,8],[0,1,2,3,4,5,6,7,8,9],[0,1,2,3,4,5,6,7,8,9,10]] [1,2,4,47] Ac (Ev (by simp only [go_sem,t,t.2,aF,qL aG];exact Ak)) ?_
   refine Bn <|Tn <|?_
   have aH : w64 8 = 8:=by decide
   refine Fe [1,2,4,47] Ac (Ev (by simp only [go_sem,aH];exact Ak)) ?_
   refine Un ?_
   refine Ug (m:=8) ?_
   refine T0 [1,2,4,47,48] ?_
   refine Sq <|Ct <|Sk <|Tn <|Sq <|Sb <|T0 [1,2,4,5,47] ?_
   have u : InR 8 11:=by decide
   have aI : w64 10 = 10:=by decide
   refine Ck fun aJ =>Ge [[],[0],[0,1],[],[3],[],[5],[3,4,5,6],[3,4,5,6,7],[3,4,5,6,7,8],[0,1,2,3,4,5,6,7,8,9],[0,1,2,3,4,5,6,7,8,9,10]] [1,2,4,47] Ac (Ev (by simp only [go_sem,u,u.2,aI,qL aJ];exact Ak)) ?_
   refine Bn <|Tn <|?_
   have aK : w64 9 = 9:=by decide
   refine Fe [1,2,4,47] Ac (Ev (by simp only [go_sem,aK];exact Ak)) ?_
   refine Un ?_
   refine Ug (m:=7) ?_
   refine T0 [1,2,4,47,48] ?_
   refine Sq <|Ct <|Sk <|Tn <|Sq <|Sb <|T0 [1,2,4,5,47] ?_
   have w : InR 9 11:=by decide
   have aL : w64 11 = 11:=by decide
   refine Ck fun aM =>Ge [[],[0],[0,1],[],[3],[],[5],[3,4,5,6],[3,4,5,6,7],[3,4,5,6,7,8],[0,1,2,3,4,5,6,7,8,9],[0,1,2,3,4,5,6,7,8,9,10]] [1,2,4,47] Ac (Ev (by simp only [go_sem,w,w.2,aL,qL aM];exact Ak)) ?_
   refine Bn <|Tn <|?_
   have aN : w64 10 = 10:=by decide
   refine Fe [1,2,4,47] Ac (Ev (by simp only [go_sem,aN];exact Ak)) ?_
   refine Un ?_
   refine Ug (m:=6) ?_
   refine T0 [1,2,4,47,48] ?_
   refine Sq <|Ct <|Sk <|Tn <|Sq <|Sb <|T0 [1,2,4,5,47] ?_
   have x : InR 10 11:=by decide
   have aO : w64 12 = 12:=by decide
   refine Ck fun aP =>Ge [[],[0],[0,1],[],[3],[],[5],[3,4,5,6],[3,4,5,6,7],[3,4,5,6,7,8],[0,1,2,3,4,5,6,7,8,9],[0,1,2,3,4,5,6,7,8,9,10]] [1,2,4,47] Ac (Ev (by simp only [go_sem,x,x.2,aO,qL aP];exact Ak)) ?_
   refine Bn <|Tn <|?_
   have aQ : w64 11 = 11:=by decide
   refine Fe [1,2,4,47] Ac (Ev (by simp only [go_sem,aQ];exact Ak)) ?_
   refine Un ?_
   refine Ug (m:=5) ?_
   refine T0 [1,2,4,47,48] ?_
   exact Sq <|Cf <|Sx <|Tx <|Ux <|Bx <|Jm (ws [0,1])
  intro _
  refine Ck fun aR =>Te [1,2] Ac (Ev (by simp only [go_sem,qL aR];exact Ak)) ?_
  refine Jo (fun d => ⟨As 114 [(1,.ref 0 0),(2,.ref 1 0)],[.box [i64 a.Zb,i64 a.N,.sl false (L cU8 a.B),.sl false (L cApi_Value a.L)] false,.box [i64 ((nth a.L 0).N),i64 b,i64 c,i64 ((nth a.L 2).N),i64 ((nth a.L 3).N),i64 ((nth a.L 4).N),i64 ((nth a.L 5).N),i64 ((nth a.L 6).N),i64 ((nth a.L 7).N),i64 ((nth a.L 8).N),i64 ((nth a.L 9).N),i64 ((nth a.L 10).N),i64 ((nth a.L 11).N),i64 ((nth a.L 12).N),.str ((nth a.L 13).B),.bs false 2 (d.length) 0 (d.length)] false,.buf 3 (L Ad d) false]⟩) ?_ ?_
  ·intro bd aS
   refine Ck fun aT =>Te [1,2,73,74,75] Ac (Ev (by simp only [go_sem,qL aT];exact Ak)) ?_
   refine Sb ?_
   refine Lo (fun (v : Int×List Api_Part) => (⟨As 114 [(1,.ref 0 0),(2,.ref 1 0),(73,.sl false (L cApi_Value ((nth a.L 14).L))),(74,i64 (((nth a.L 14).L).length : Int)),(75,i64 v.1)],[.box [i64 a.Zb,i64 a.N,.sl false (L cU8 a.B),.sl false (L cApi_Value a.L)] false,.box [i64 ((nth a.L 0).N),i64 b,i64 c,i64 ((nth a.L 2).N),i64 ((nth a.L 3).N),i64 ((nth a.L 4).N),i64 ((nth a.L 5).N),i64 ((nth a.L 6).N),i64 ((nth a.L 7).N),i64 ((nth a.L 8).N),i64 ((nth a.L 9).N),i64 ((nth a.L 10).N),i64 ((nth a.L 11).N),i64 ((nth a.L 12).N),.str ((nth a.L 13).B),.bs false 2 (v.2.length) 0 (v.2.length)] false,.buf 3 (L Ad v.2) false]⟩ : St)) ((M8 1 15 3 rfl rfl).trans (ws [0,1,2])) ?_
   rintro ⟨aU,e⟩ be aV y z
   show H4 a aU e = some aV→_
   unfold H4
   refine T0 [1,2,73,74,75,76] ?_
   refine Sq <|Cd ?_ ?_
   ·refine Sk <|Tn <|Sq <|Sb <|Ck fun aW =>Lt fun aX aY =>Lt fun aZ a0 =>Lt fun a1 a2 =>Lt fun a3 a4 =>Te (σ':=[_,_,_,.box [i64 aX,i64 aZ,.sl false (L cU8 a1),.sl false (L cApi_Value a3)] false]) [1,2,7,73,74,75] Ac (Ev (by simp only [go_sem,qR aW,aY,a0,a2,a4];exact Ak)) ?_
    refine Sq <|T0 [1,2,7,73,74,75,82] ?_
    refine Cd ?_ ?_
    ·refine T0 [2,3] ?_
     exact Sr <|Tr <|Br <|Tr <|Lr z y <|Br <|Jr aS <|Rr
    ·refine Sk <|Tn <|Ck fun a5 =>Ck fun a6 =>Ck fun a7 =>Ck fun a8 =>Lt fun g a9 =>Ge (σ':=[_,.box [i64 ((nth a.L 0).N),i64 b,i64 c,i64 ((nth a.L 2).N),i64 ((nth a.L 3).N),i64 ((nth a.L 4).N),i64 ((nth a.L 5).N),i64 ((nth a.L 6).N),i64 ((nth a.L 7).N),i64 ((nth a.L 8).N),i64 ((nth a.L 9).N),i64 ((nth a.L 10).N),i64 ((nth a.L 11).N),i64 ((nth a.L 12).N),.str ((nth a.L 13).B),.bs false 2 (g.length) 0 (g.length)] false,.buf 3 (L Ad g) false,_,_]) [[],[0],[],[2],[2,3],[2,3,4],[2,3,4,5],[],[7],[7,8],[7,8,9],[7,8,9,10],[],[12],[12,13],[12,13,14],[12,13,14,15],[12,13,14,15,16],[2,3,4,5,6,7,8,9,10,11,12,13,14,15,16,17],[2,3,4,5,6,7,8,9,10,11,12,13,14,15,16,17,18],[0,1,2,3,4,5,6,7,8,9,10,11,12,13,14,15,16,17,18,19],[0,1,2,3,4,5,6,7,8,9,10,11,12,13,14,15,16,17,18,19,20],[0,1,2,3,4,5,6,7,8,9,10,11,12,13,14,15,16,17,18,19,20,21]] [1,2,73,74,75] Ac (Ev (by simp only [go_sem,qL a5,qL a6,qL a7,a8,a9];exact Ak)) ?_
     refine Bn <|Tn <|F0 [1,2,73,74,75] ?_
     exact Ln (ws [0,1,2])
   ·refine Sx <|Tx <|Lx z y <|Bx <|?_
    exact Jn ((ws (l':=[(1,.ref 0 0),(2,.ref 1 0)]) (σ':=[.box [i64 a.Zb,i64 a.N,.sl false (L cU8 a.B),.sl false (L cApi_Value a.L)] false,.box [i64 ((nth a.L 0).N),i64 b,i64 c,i64 ((nth a.L 2).N),i64 ((nth a.L 3).N),i64 ((nth a.L 4).N),i64 ((nth a.L 5).N),i64 ((nth a.L 6).N),i64 ((nth a.L 7).N),i64 ((nth a.L 8).N),i64 ((nth a.L 9).N),i64 ((nth a.L 10).N),i64 ((nth a.L 11).N),i64 ((nth a.L 12).N),.str ((nth a.L 13).B),.bs false 2 (e.length) 0 (e.length)] false,.buf 3 (L Ad e) false]) [0,1,2]).trans (ws [0,1,2]))
  intro d
  refine Sq ?_
  refine Rw (Mj 1 15 rfl rfl rfl gs gs) ?_
  refine Bd fun bf ba =>Bd fun bg bb =>De [[],[0],[],[0,1,2],[0,1,2,3]] [2,111] (o2 108 (Og ba) 110 (Yc bb)) Ev ?_
  refine Cd ?_ ?_
  ·refine T0 [2,3] ?_
   exact Sr <|Tr <|Rr
  ·refine Sk <|Tn <|T0 [2,3] ?_
   exact Sr <|Rr
theorem Au {b c d r} (h : A3 b c d = some r) : Con B 55 [i64 b,i64 c,i64 d] [] (fun r' σ' => r' = .bool r∧σ' = []):=by
 refine Cw 15 [.tmp 6] Tryz.func55 (fun F hE => ?_) h
 unfold A3
 refine T0 [0,1,2] ?_
 refine Tw [6] (fun e => ⟨As 15 [(6,.bool e)],[]⟩) ?_ ?_
 ·intro _
  refine Sp (fun a => ?_) fun a => ?_
  ·exact Lf Ac (Ev (by simp only [go_sem,a];exact Ak)) (ws [])
  ·exact Lf Ac (Ev (by simp only [go_sem,a];exact Ak)) (ws [])
 intro e
 exact Sr <|Rr
theorem Ce {a b r} (h : Me a b = some r) : Con B 28 [.str a,u8 b] [] (fun r' σ' => r' = .bool r∧σ' = []):=by
 refine Cw 17 [.tmp 4] Tryz.func28 (fun F hE => ?_) h
 unfold Me
 refine T0 [0,1] ?_
 refine Jo (fun _ => ⟨As 17 [],[]⟩) ?_ ?_
 ·intro j f
  refine T0 [0,1,5] ?_
  refine Sb ?_
  refine Lo (fun c => ⟨As 17 [(0,.str a),(1,u8 b),(5,i64 c)],[]⟩) (ws []) ?_
  rintro c k g d e
  show I6 a b c = some g→_
  unfold I6
  refine Sq <|T0 [0,1,5,9] ?_
  refine Cd ?_ ?_
  ·refine Sk <|Tn <|Sq <|Sb <|Ck fun i =>Te [0,1,5,16] Ac (Ev (by simp only [go_sem,qR i];exact Ak)) ?_
   refine Cd ?_ ?_
   ·refine T0 [4] ?_
    exact Sr <|Br <|Tr <|Lr e d <|Br <|Jr f <|Rr
   ·refine Sk <|Bn <|Tn <|F0 [0,1,5] ?_
    exact Ln (ws [])
  ·refine Sx <|Tx <|Lx e d <|Bx <|?_
   exact Jn ((ws (l':=[]) (σ':=[]) []).trans (ws []))
 intro _
 refine T0 [4] ?_
 exact Sr <|Rr
theorem Yi {a r} (h : Gp a = some r) : Con B 27 [i64 a] [] (fun r' σ' => r' = .str r∧σ' = []):=by
 refine Cw 30 [.tmp 2] Tryz.func27 (fun F hE => ?_) h
 unfold Gp
 refine T0 [0] ?_
 refine Sq <|T0 [3] ?_
 refine Sb <|T0 [3,4] ?_
 refine Cd ?_ ?_
 ·refine T0 [2] ?_
  exact Sr <|Br <|Tr <|Rr
 ·refine T0 [3,6] ?_
  refine Cd ?_ ?_
  ·refine T0 [2] ?_
   exact Sr <|Br <|Tr <|Rr
  ·refine Ja (fun b => ⟨As 30 [(3,i64 a),(8,.bool b)],[]⟩) ?_ ?_
   ·intro d
    refine T0 [3,8] ?_
    refine Cd ?_ ?_
    ·exact Sk <|Jm (ws [])
    ·refine F0 [3,8] ?_
     exact Jm (ws [])
   intro b
   refine Cd ?_ ?_
   ·refine T0 [2] ?_
    exact Sr <|Br <|Tr <|Rr
   ·refine T0 [3,11] ?_
    refine Cd ?_ ?_
    ·refine T0 [2] ?_
     exact Sr <|Br <|Tr <|Rr
    ·refine T0 [3,13] ?_
     refine Cd ?_ ?_
     ·refine T0 [2] ?_
      exact Sr <|Br <|Tr <|Rr
     ·refine T0 [3,15] ?_
      refine Cd ?_ ?_
      ·refine T0 [2] ?_
       exact Sr <|Br <|Tr <|Rr
      ·refine T0 [3,17] ?_
       refine Cd ?_ ?_
       ·refine T0 [2] ?_
        exact Sr <|Br <|Tr <|Rr
       ·refine T0 [3,19] ?_
        refine Cd ?_ ?_
        ·refine T0 [2] ?_
         exact Sr <|Br <|Tr <|Rr
        ·refine T0 [3,21] ?_
         refine Cd ?_ ?_
         ·refine T0 [2] ?_
          exact Sr <|Br <|Tr <|Rr
         ·refine Ja (fun c => ⟨As 30 [(3,i64 a),(23,.bool c)],[]⟩) ?_ ?_
          ·intro e
           refine T0 [3,23] ?_
           refine Cd ?_ ?_
           ·exact Sk <|Jm (ws [])
           ·refine F0 [3,23] ?_
            exact Jm (ws [])
          intro c
          refine Cd ?_ ?_
          ·refine T0 [2] ?_
           exact Sr <|Br <|Tr <|Rr
          ·refine T0 [3,26] ?_
           refine Cd ?_ ?_
           ·refine T0 [2] ?_
            exact Sr <|Br <|Tr <|Rr
           ·refine T0 [28] ?_
            refine Cd ?_ ?_
            ·refine T0 [2] ?_
             exact Sr <|Br <|Tr <|Rr
            ·refine Sk <|Bn <|Tn <|T0 [2] ?_
             exact Sr <|Rr
theorem Id {a b r} (h : Cl a b = some r) : Con B 72 [.agg [i64 a.Zb,i64 a.Ref.Za,i64 a.Ref.No,i64 a.Ze,i64 a.Zf,i64 a.Zg,i64 a.Zh,i64 a.Zi,i64 a.To,i64 a.Code,i64 a.Zj,i64 a.Zk,i64 a.Zl,i64 a.Zm,.str a.Zn,.sl false (L Ad a.Zo)],u8 b] [] (fun r' σ' => r' = i64 r∧σ' = []):=by
 refine Cw 48 [.tmp 4] Tryz.func72 (fun F hE => ?_) h
 unfold Cl
 refine T0 [1,2] ?_
 refine Sq <|T0 [2,5] ?_
 refine Sb <|T0 [2,5,6] ?_
 refine Cd ?_ ?_
 ·refine T0 [4] ?_
  exact Sr <|Br <|Tr <|Rr
 ·refine T0 [2,5,10] ?_
  refine Cd ?_ ?_
  ·refine T0 [4] ?_
   exact Sr <|Br <|Tr <|Rr
  ·refine T0 [2,5,14] ?_
   refine Cd ?_ ?_
   ·refine T0 [4] ?_
    exact Sr <|Br <|Tr <|Rr
   ·refine T0 [2,5,18] ?_
    refine Cd ?_ ?_
    ·refine T0 [4] ?_
     exact Sr <|Br <|Tr <|Rr
    ·refine T0 [2,5,22] ?_
     refine Cd ?_ ?_
     ·refine T0 [4] ?_
      exact Sr <|Br <|Tr <|Rr
     ·refine T0 [2,5,26] ?_
      refine Cd ?_ ?_
      ·refine T0 [4] ?_
       exact Sr <|Br <|Tr <|Rr
      ·refine T0 [2,5,30] ?_
       refine Cd ?_ ?_
       ·refine T0 [4] ?_
        exact Sr <|Br <|Tr <|Rr
       ·refine T0 [2,5,34] ?_
        refine Cd ?_ ?_
        ·refine T0 [4] ?_
         exact Sr <|Br <|Tr <|Rr
        ·refine T0 [2,5,38] ?_
         refine Cd ?_ ?_
         ·refine T0 [4] ?_
          exact Sr <|Br <|Tr <|Rr
         ·refine T0 [2,42] ?_
          refine Cd ?_ ?_
          ·refine T0 [4] ?_
           exact Sr <|Br <|Tr <|Rr
          ·refine Sk <|Bn <|Tn <|T0 [4] ?_
           exact Sr <|Rr
theorem La {a r} (h : Mg a = some r) : Con B 98 [.agg [i64 a.Zb,i64 a.Ref.Za,i64 a.Ref.No,i64 a.Ze,i64 a.Zf,i64 a.Zg,i64 a.Zh,i64 a.Zi,i64 a.To,i64 a.Code,i64 a.Zj,i64 a.Zk,i64 a.Zl,i64 a.Zm,.str a.Zn,.sl false (L Ad a.Zo)]] [] (fun r' σ' => r' = .bool r∧σ' = []):=by
 refine Cw 51 [.tmp 2] Tryz.func98 (fun F hE => ?_) h
 unfold Mg
 refine T0 [1] ?_
 refine Sq ?_
 refine Tw [1,19] (fun k => ⟨As 51 [(1,.ref 0 0),(19,.bool k)],[.box [i64 a.Zb,i64 a.Ref.Za,i64 a.Ref.No,i64 a.Ze,i64 a.Zf,i64 a.Zg,i64 a.Zh,i64 a.Zi,i64 a.To,i64 a.Code,i64 a.Zj,i64 a.Zk,i64 a.Zl,i64 a.Zm,.str a.Zn,.sl false (L Ad a.Zo)] false]⟩) ?_ ?_
 ·intro _
  refine Sp (fun c => ?_) fun c => ?_
  ·exact Lf Ac (Ev (by simp only [go_sem,c];exact Ak)) (ws [0])
  ·refine Sp (fun g => ?_) fun g => ?_
   ·exact Lf Ac (Ev (by simp only [go_sem,c,g];exact Ak)) (ws [0])
   ·exact Lf Ac (Ev (by simp only [go_sem,c,g];exact Ak)) (ws [0])
 intro k
 refine Cd ?_ ?_
 ·refine T0 [2] ?_
  exact Sr <|Tr <|Rr
 ·refine Sk <|Tn <|?_
  refine Jo (fun _ => ⟨As 51 [],[]⟩) ?_ ?_
  ·intro y o
   refine T0 [1,3] ?_
   refine Sb ?_
   refine Lo (fun d => ⟨As 51 [(1,.ref 0 0),(3,i64 d)],[.box [i64 a.Zb,i64 a.Ref.Za,i64 a.Ref.No,i64 a.Ze,i64 a.Zf,i64 a.Zg,i64 a.Zh,i64 a.Zi,i64 a.To,i64 a.Code,i64 a.Zj,i64 a.Zk,i64 a.Zl,i64 a.Zm,.str a.Zn,.sl false (L Ad a.Zo)] false]⟩) (ws [0]) ?_
   rintro d z p l m
   show E8 a d = some p→_
   unfold E8
   refine Sq <|T0 [1,3,24] ?_
   refine Cd ?_ ?_
   ·refine Sk <|Tn <|Sq <|Sb <|Ck fun q =>Lt fun s t =>Lt fun u v =>Lt fun w x =>Te (σ':=[_,.box [i64 s,i64 u,.bool w] false]) [1,3,4] Ac (Ev (by simp only [go_sem,qR q,t,v,x];exact Ak)) ?_
    refine Tw [1,3,50] (fun n => ⟨As 51 [(1,.ref 0 0),(3,i64 d),(50,.bool n)],[.box [i64 a.Zb,i64 a.Ref.Za,i64 a.Ref.No,i64 a.Ze,i64 a.Zf,i64 a.Zg,i64 a.Zh,i64 a.Zi,i64 a.To,i64 a.Code,i64 a.Zj,i64 a.Zk,i64 a.Zl,i64 a.Zm,.str a.Zn,.sl false (L Ad a.Zo)] false]⟩) ?_ ?_
    ·intro _
     refine Bd fun aa e => ?_
     refine Sp (fun b => ?_) fun b => ?_
     ·exact Lf (o1 34 (Au e)) (Ev (by simp only [go_sem,b];exact Ak)) (ws [0])
     ·refine Bd fun ab i => ?_
      refine Sp (fun f => ?_) fun f => ?_
      ·exact Lf (o2 34 (Au e) 39 (Au i)) (Ev (by simp only [go_sem,b,f];exact Ak)) (ws [0])
      ·refine Sp (fun j => ?_) fun j => ?_
       ·exact Lf (o2 34 (Au e) 39 (Au i)) (Ev (by simp only [go_sem,b,f,j];exact Ak)) (ws [0])
       ·exact Lf (o2 34 (Au e) 39 (Au i)) (Ev (by simp only [go_sem,b,f,j];exact Ak)) (ws [0])
    intro n
    refine Cd ?_ ?_
    ·refine T0 [2] ?_
     exact Sr <|Br <|Tr <|Lr m l <|Br <|Jr o <|Rr
    ·refine Sk <|Bn <|Tn <|F0 [1,3] ?_
     exact Ln (ws [0])
   ·refine Sx <|Tx <|Lx m l <|Bx <|?_
    exact Jn ((ws (l':=[]) (σ':=[]) []).trans (ws []))
  intro _
  refine T0 [2] ?_
  exact Sr <|Rr
theorem P2 {a b r} (h : K6 a b = some r) : Con B 73 [.sl false (L Ad a),.sl false (L Ad b)] [] (fun r' σ' => r' = .bool r∧σ' = []):=by
 refine Cw 26 [.tmp 4] Tryz.func73 (fun F hE => ?_) h
 unfold K6
 refine T0 [0,1] ?_
 refine Sq <|T0 [0,1,10] ?_
 refine Cd ?_ ?_
 ·refine T0 [4] ?_
  exact Sr <|Tr <|Rr
 ·refine Sk <|Tn <|?_
  refine Jo (fun _ => ⟨As 26 [],[]⟩) ?_ ?_
  ·intro m f
   refine T0 [0,1,5] ?_
   refine Sb ?_
   refine Lo (fun c => ⟨As 26 [(0,.sl false (L Ad a)),(1,.sl false (L Ad b)),(5,i64 c)],[]⟩) (ws []) ?_
   rintro c n g d e
   show H3 a b c = some g→_
   unfold H3
   refine Sq <|T0 [0,1,5,14] ?_
   refine Cd ?_ ?_
   ·refine Sk <|Tn <|Sq <|Sb <|Ck fun i =>Ck fun j =>Lt fun k l =>De (fr':=[(0,_),(1,_),(5,_),(25,.bool k)]) [[],[],[0,1],[0,1,2],[],[],[4,5],[4,5,6],[0,1,2,3,4,5,6,7]] [0,1,5,25] Ac (Ev (by simp only [go_sem,qR i,qR j,l];exact Ak)) ?_
    refine Cd ?_ ?_
    ·refine T0 [4] ?_
     exact Sr <|Br <|Tr <|Lr e d <|Br <|Jr f <|Rr
    ·refine Sk <|Bn <|Tn <|F0 [0,1,5] ?_
     exact Ln (ws [])
   ·refine Sx <|Tx <|Lx e d <|Bx <|?_
    exact Jn ((ws (l':=[]) (σ':=[]) []).trans (ws []))
  intro _
  refine T0 [4] ?_
  exact Sr <|Rr
theorem Jb {a b r} (h : Ot a b = some r) : Con B 25 [.agg [i64 a.Zb,i64 a.Ref.Za,i64 a.Ref.No,i64 a.Ze,i64 a.Zf,i64 a.Zg,i64 a.Zh,i64 a.Zi,i64 a.To,i64 a.Code,i64 a.Zj,i64 a.Zk,i64 a.Zl,i64 a.Zm,.str a.Zn,.sl false (L Ad a.Zo)],.agg [i64 b.Zb,i64 b.Ref.Za,i64 b.Ref.No,i64 b.Ze,i64 b.Zf,i64 b.Zg,i64 b.Zh,i64 b.Zi,i64 b.To,i64 b.Code,i64 b.Zj,i64 b.Zk,i64 b.Zl,i64 b.Zm,.str b.Zn,.sl false (L Ad b.Zo)]] [] (fun r' σ' => r' = .bool r∧σ' = []):=by
 refine Cw 45 [.tmp 4] Tryz.func25 (fun F hE => ?_) h
 unfold Ot
 refine T0 [2,3] ?_
 refine Jo (fun _ => ⟨As 45 [(2,.ref 0 0),(3,.ref 1 0)],[.box [i64 a.Zb,i64 a.Ref.Za,i64 a.Ref.No,i64 a.Ze,i64 a.Zf,i64 a.Zg,i64 a.Zh,i64 a.Zi,i64 a.To,i64 a.Code,i64 a.Zj,i64 a.Zk,i64 a.Zl,i64 a.Zm,.str a.Zn,.sl false (L Ad a.Zo)] false,.box [i64 b.Zb,i64 b.Ref.Za,i64 b.Ref.No,i64 b.Ze,i64 b.Zf,i64 b.Zg,i64 b.Zh,i64 b.Zi,i64 b.To,i64 b.Code,i64 b.Zj,i64 b.Zk,i64 b.Zl,i64 b.Zm,.str b.Zn,.sl false (L Ad b.Zo)] false]⟩) ?_ ?_
 ·intro u o
  refine T0 [2,3,5] ?_
  refine Sb ?_
  refine Lo (fun e => ⟨As 45 [(2,.ref 0 0),(3,.ref 1 0),(5,i64 e)],[.box [i64 a.Zb,i64 a.Ref.Za,i64 a.Ref.No,i64 a.Ze,i64 a.Zf,i64 a.Zg,i64 a.Zh,i64 a.Zi,i64 a.To,i64 a.Code,i64 a.Zj,i64 a.Zk,i64 a.Zl,i64 a.Zm,.str a.Zn,.sl false (L Ad a.Zo)] false,.box [i64 b.Zb,i64 b.Ref.Za,i64 b.Ref.No,i64 b.Ze,i64 b.Zf,i64 b.Zg,i64 b.Zh,i64 b.Zi,i64 b.To,i64 b.Code,i64 b.Zj,i64 b.Zk,i64 b.Zl,i64 b.Zm,.str b.Zn,.sl false (L Ad b.Zo)] false]⟩) (ws [0,1]) ?_
  rintro e v p g i
  show N2 a b e = some p→_
  unfold N2
  refine Sq <|T0 [2,3,5,7] ?_
  refine Cd ?_ ?_
  ·refine Sk <|Tn <|Sq <|Sb <|Ck fun j =>?_
   have k:=j;simp only [List.cons_append,List.nil_append,List.length_append,List.length_cons,List.length_nil,Nat.zero_add,Nat.reduceAdd] at k
   refine Bd fun w q =>Ck fun l =>?_
   have m:=l;simp only [List.cons_append,List.nil_append,List.length_append,List.length_cons,List.length_nil,Nat.zero_add,Nat.reduceAdd] at m
   refine Bd fun x s =>De [[],[],[1],[0,1,2],[],[],[5],[0,1,2,3,4,5,6],[0,1,2,3,4,5,6,7]] [2,3,5,18] (o2 13 (Id q) 17 (Id s)) (Ev (by simp only [go_sem,qR j,k,qR l,m];exact Ak)) ?_
   refine Cd ?_ ?_
   ·refine T0 [4] ?_
    exact Sr <|Br <|Tr <|Lr i g <|Br <|Jr o <|Rr
   ·refine Sk <|Bn <|Tn <|F0 [2,3,5] ?_
    exact Ln (ws [0,1])
  ·refine Sx <|Tx <|Lx i g <|Bx <|?_
   exact Jn ((ws (l':=[(2,.ref 0 0),(3,.ref 1 0)]) (σ':=[.box [i64 a.Zb,i64 a.Ref.Za,i64 a.Ref.No,i64 a.Ze,i64 a.Zf,i64 a.Zg,i64 a.Zh,i64 a.Zi,i64 a.To,i64 a.Code,i64 a.Zj,i64 a.Zk,i64 a.Zl,i64 a.Zm,.str a.Zn,.sl false (L Ad a.Zo)] false,.box [i64 b.Zb,i64 b.Ref.Za,i64 b.Ref.No,i64 b.Ze,i64 b.Zf,i64 b.Zg,i64 b.Zh,i64 b.Zi,i64 b.To,i64 b.Code,i64 b.Zj,i64 b.Zk,i64 b.Zl,i64 b.Zm,.str b.Zn,.sl false (L Ad b.Zo)] false]) [0,1]).trans (ws [0,1]))
 intro _
 refine Tw [4] (fun n => ⟨As 45 [(4,.bool n)],[]⟩) ?_ ?_
 ·intro _
  refine Sp (fun c => ?_) fun c => ?_
  ·refine Sp (fun d => ?_) fun d => ?_
   ·refine Sp (fun f => ?_) fun f => ?_
    ·refine Bd fun y t => ?_
     exact Lf (o1 43 (P2 t)) (Ev (by simp only [go_sem,c,d,f];exact Ak)) (ws [])
    ·exact Lf Ac (Ev (by simp only [go_sem,c,d,f];exact Ak)) (ws [])
   ·exact Lf Ac (Ev (by simp only [go_sem,c,d];exact Ak)) (ws [])
  ·exact Lf Ac (Ev (by simp only [go_sem,c];exact Ak)) (ws [])
 intro n
 exact Sr <|Rr
theorem Jq {b r} (h : Gj b = some r) : Con B 128 [u64 b] [] (fun r' σ' => r' = i64 r∧σ' = []):=by
 refine Cw 25 [.tmp 2] Tryz.func128 (fun F hE => ?_) h
 unfold Gj
 refine T0 [0,2] ?_
 refine Ja (fun (v : UInt64×Int) => (⟨As 25 [(0,u64 v.1),(2,i64 v.2)],[]⟩ : St)) ?_ ?_
 ·intro m
  refine T0 [0,2,4] ?_
  refine Cd ?_ ?_
  ·refine Lt fun d e =>Te (fr':=[(0,u64 d)]) [0] Ac (Ev (by simp only [go_sem,e];exact Ak)) ?_
   refine F0 [0,2] ?_
   exact Jm (ws [])
  ·exact Sk <|Jm (ws [])
 rintro ⟨n,o⟩
 refine Ja (fun (v : UInt64×Int) => (⟨As 25 [(0,u64 v.1),(2,i64 v.2)],[]⟩ : St)) ?_ ?_
 ·intro p
  refine T0 [0,2,8] ?_
  refine Cd ?_ ?_
  ·refine Lt fun f g =>Te (fr':=[(0,u64 f),(2,_)]) [0,2] Ac (Ev (by simp only [go_sem,g];exact Ak)) ?_
   refine F0 [0,2] ?_
   exact Jm (ws [])
  ·exact Sk <|Jm (ws [])
 rintro ⟨q,s⟩
 refine Ja (fun (v : UInt64×Int) => (⟨As 25 [(0,u64 v.1),(2,i64 v.2)],[]⟩ : St)) ?_ ?_
 ·intro t
  refine T0 [0,2,14] ?_
  refine Cd ?_ ?_
  ·refine Lt fun i j =>Te (fr':=[(0,u64 i),(2,_)]) [0,2] Ac (Ev (by simp only [go_sem,j];exact Ak)) ?_
   refine F0 [0,2] ?_
   exact Jm (ws [])
  ·exact Sk <|Jm (ws [])
 rintro ⟨u,w⟩
 refine Ck fun c => ?_
 have a:=c;simp only [List.cons_append,List.nil_append,List.length_append,List.length_cons,List.length_nil,Nat.zero_add,Nat.reduceAdd] at a
 refine Lt fun k l =>Te (fr':=[(2,i64 k)]) [2] Ac (Ev (by simp only [go_sem,qN c,a,L0 a,Ale (L0 a),l];exact Ak)) ?_
 exact Sr <|Rr
theorem Jk {a r} (h : Ea a = some r) : Con B 42 [.agg [i64 a.Zr.1.Zi,i64 a.Zr.1.To,i64 a.Zr.2.1.Zi,i64 a.Zr.2.1.To,i64 a.Zr.2.2.1.Zi,i64 a.Zr.2.2.1.To,i64 a.Zr.2.2.2.1.Zi,i64 a.Zr.2.2.2.1.To,i64 a.Zr.2.2.2.2.1.Zi,i64 a.Zr.2.2.2.2.1.To,i64 a.Zr.2.2.2.2.2.1.Zi,i64 a.Zr.2.2.2.2.2.1.To,i64 a.Zr.2.2.2.2.2.2.Zi,i64 a.Zr.2.2.2.2.2.2.To,.sl false (L Hg a.Zs)]] [] (fun r' σ' => r' = i64 r∧σ' = []):=by
 refine Cw 45 [.tmp 2] Tryz.func42 (fun F hE => ?_) h
 unfold Ea
 refine Lt fun b aq =>Lt fun c ar =>Te (σ':=[.box [i64 a.Zr.1.Zi,i64 a.Zr.1.To,i64 a.Zr.2.1.Zi,i64 a.Zr.2.1.To,i64 a.Zr.2.2.1.Zi,i64 a.Zr.2.2.1.To,i64 a.Zr.2.2.2.1.Zi,i64 a.Zr.2.2.2.1.To,i64 a.Zr.2.2.2.2.1.Zi,i64 a.Zr.2.2.2.2.1.To,i64 b,i64 a.Zr.2.2.2.2.2.1.To,i64 c,i64 a.Zr.2.2.2.2.2.2.To,.sl false (L Hg a.Zs)] false]) [1] Ac (Ev (by simp only [go_sem,aq,ar];exact Ak)) ?_
 refine Jo (fun _ => ⟨As 45 [(1,.ref 0 0)],[.box [i64 a.Zr.1.Zi,i64 a.Zr.1.To,i64 a.Zr.2.1.Zi,i64 a.Zr.2.1.To,i64 a.Zr.2.2.1.Zi,i64 a.Zr.2.2.1.To,i64 a.Zr.2.2.2.1.Zi,i64 a.Zr.2.2.2.1.To,i64 a.Zr.2.2.2.2.1.Zi,i64 a.Zr.2.2.2.2.1.To,i64 b,i64 a.Zr.2.2.2.2.2.1.To,i64 c,i64 a.Zr.2.2.2.2.2.2.To,.sl false (L Hg a.Zs)] false]⟩) ?_ ?_
 ·intro aG d
  refine T0 [1,9,10] ?_
  refine Sb ?_
  refine Ul 17 ?_
  refine Ug (m:=16) ?_
  refine T0 [1,9,10,11] ?_
  refine Sq <|Ct <|Sk <|Tn <|Sq <|Sb <|?_
  have x : InR 0 7:=by decide
  refine Te [1,4,9,10] Ac (Ev (by simp only [go_sem,x,x.2];exact Ak)) ?_
  refine Tw [1,9,10,27] (fun y => ⟨As 45 [(1,.ref 0 0),(9,.agg [i64 a.Zr.1.Zi,i64 a.Zr.1.To,i64 a.Zr.2.1.Zi,i64 a.Zr.2.1.To,i64 a.Zr.2.2.1.Zi,i64 a.Zr.2.2.1.To,i64 a.Zr.2.2.2.1.Zi,i64 a.Zr.2.2.2.1.To,i64 a.Zr.2.2.2.2.1.Zi,i64 a.Zr.2.2.2.2.1.To,i64 b,i64 a.Zr.2.2.2.2.2.1.To,i64 c,i64 a.Zr.2.2.2.2.2.2.To]),(10,i64 0),(27,.bool y)],[.box [i64 a.Zr.1.Zi,i64 a.Zr.1.To,i64 a.Zr.2.1.Zi,i64 a.Zr.2.1.To,i64 a.Zr.2.2.1.Zi,i64 a.Zr.2.2.1.To,i64 a.Zr.2.2.2.1.Zi,i64 a.Zr.2.2.2.1.To,i64 a.Zr.2.2.2.2.1.Zi,i64 a.Zr.2.2.2.2.1.To,i64 b,i64 a.Zr.2.2.2.2.2.1.To,i64 c,i64 a.Zr.2.2.2.2.2.2.To,.sl false (L Hg a.Zs)] false]⟩) ?_ ?_
  ·intro _
   refine Sp (fun e => ?_) fun e => ?_
   ·exact Lf Ac (Ev (by simp only [go_sem,e];exact Ak)) (ws [0])
   ·refine Sp (fun n => ?_) fun n => ?_
    ·exact Lf Ac (Ev (by simp only [go_sem,e,n];exact Ak)) (ws [0])
    ·exact Lf Ac (Ev (by simp only [go_sem,e,n];exact Ak)) (ws [0])
  intro y
  refine Cd ?_ ?_
  ·refine T0 [2] ?_
   exact Sr <|Br <|Tr <|Ur <|Br <|Jr d <|Rr
  ·refine Sk <|Bn <|Tn <|?_
   have au : w64 1 = 1:=by decide
   refine Fe [1,9,10] Ac (Ev (by simp only [go_sem,au];exact Ak)) ?_
   refine Un ?_
   refine Ug (m:=15) ?_
   refine T0 [1,9,10,11] ?_
   refine Sq <|Ct <|Sk <|Tn <|Sq <|Sb <|?_
   have z : InR 1 7:=by decide
   refine Te [1,4,9,10] Ac (Ev (by simp only [go_sem,z,z.2];exact Ak)) ?_
   refine Tw [1,9,10,27] (fun aa => ⟨As 45 [(1,.ref 0 0),(9,.agg [i64 a.Zr.1.Zi,i64 a.Zr.1.To,i64 a.Zr.2.1.Zi,i64 a.Zr.2.1.To,i64 a.Zr.2.2.1.Zi,i64 a.Zr.2.2.1.To,i64 a.Zr.2.2.2.1.Zi,i64 a.Zr.2.2.2.1.To,i64 a.Zr.2.2.2.2.1.Zi,i64 a.Zr.2.2.2.2.1.To,i64 b,i64 a.Zr.2.2.2.2.2.1.To,i64 c,i64 a.Zr.2.2.2.2.2.2.To]),(10,i64 1),(27,.bool aa)],[.box [i64 a.Zr.1.Zi,i64 a.Zr.1.To,i64 a.Zr.2.1.Zi,i64 a.Zr.2.1.To,i64 a.Zr.2.2.1.Zi,i64 a.Zr.2.2.1.To,i64 a.Zr.2.2.2.1.Zi,i64 a.Zr.2.2.2.1.To,i64 a.Zr.2.2.2.2.1.Zi,i64 a.Zr.2.2.2.2.1.To,i64 b,i64 a.Zr.2.2.2.2.2.1.To,i64 c,i64 a.Zr.2.2.2.2.2.2.To,.sl false (L Hg a.Zs)] false]⟩) ?_ ?_
   ·intro _
    refine Sp (fun f => ?_) fun f => ?_
    ·exact Lf Ac (Ev (by simp only [go_sem,f];exact Ak)) (ws [0])
    ·refine Sp (fun o => ?_) fun o => ?_
     ·exact Lf Ac (Ev (by simp only [go_sem,f,o];exact Ak)) (ws [0])
     ·exact Lf Ac (Ev (by simp only [go_sem,f,o];exact Ak)) (ws [0])
   intro aa
   refine Cd ?_ ?_
   ·refine T0 [2] ?_
    exact Sr <|Br <|Tr <|Ur <|Br <|Jr d <|Rr
   ·refine Sk <|Bn <|Tn <|?_
    have av : w64 2 = 2:=by decide
    refine Fe [1,9,10] Ac (Ev (by simp only [go_sem,av];exact Ak)) ?_
    refine Un ?_
    refine Ug (m:=14) ?_
    refine T0 [1,9,10,11] ?_
    refine Sq <|Ct <|Sk <|Tn <|Sq <|Sb <|?_
    have ab : InR 2 7:=by decide
    refine Te [1,4,9,10] Ac (Ev (by simp only [go_sem,ab,ab.2];exact Ak)) ?_
    refine Tw [1,9,10,27] (fun ac => ⟨As 45 [(1,.ref 0 0),(9,.agg [i64 a.Zr.1.Zi,i64 a.Zr.1.To,i64 a.Zr.2.1.Zi,i64 a.Zr.2.1.To,i64 a.Zr.2.2.1.Zi,i64 a.Zr.2.2.1.To,i64 a.Zr.2.2.2.1.Zi,i64 a.Zr.2.2.2.1.To,i64 a.Zr.2.2.2.2.1.Zi,i64 a.Zr.2.2.2.2.1.To,i64 b,i64 a.Zr.2.2.2.2.2.1.To,i64 c,i64 a.Zr.2.2.2.2.2.2.To]),(10,i64 2),(27,.bool ac)],[.box [i64 a.Zr.1.Zi,i64 a.Zr.1.To,i64 a.Zr.2.1.Zi,i64 a.Zr.2.1.To,i64 a.Zr.2.2.1.Zi,i64 a.Zr.2.2.1.To,i64 a.Zr.2.2.2.1.Zi,i64 a.Zr.2.2.2.1.To,i64 a.Zr.2.2.2.2.1.Zi,i64 a.Zr.2.2.2.2.1.To,i64 b,i64 a.Zr.2.2.2.2.2.1.To,i64 c,i64 a.Zr.2.2.2.2.2.2.To,.sl false (L Hg a.Zs)] false]⟩) ?_ ?_
    ·intro _
     refine Sp (fun g => ?_) fun g => ?_
     ·exact Lf Ac (Ev (by simp only [go_sem,g];exact Ak)) (ws [0])
     ·refine Sp (fun p => ?_) fun p => ?_
      ·exact Lf Ac (Ev (by simp only [go_sem,g,p];exact Ak)) (ws [0])
      ·exact Lf Ac (Ev (by simp only [go_sem,g,p];exact Ak)) (ws [0])
    intro ac
    refine Cd ?_ ?_
    ·refine T0 [2] ?_
     exact Sr <|Br <|Tr <|Ur <|Br <|Jr d <|Rr
    ·refine Sk <|Bn <|Tn <|?_
     have aw : w64 3 = 3:=by decide
     refine Fe [1,9,10] Ac (Ev (by simp only [go_sem,aw];exact Ak)) ?_
     refine Un ?_
     refine Ug (m:=13) ?_
     refine T0 [1,9,10,11] ?_
     refine Sq <|Ct <|Sk <|Tn <|Sq <|Sb <|?_
     have ad : InR 3 7:=by decide
     refine Te [1,4,9,10] Ac (Ev (by simp only [go_sem,ad,ad.2];exact Ak)) ?_
     refine Tw [1,9,10,27] (fun ae => ⟨As 45 [(1,.ref 0 0),(9,.agg [i64 a.Zr.1.Zi,i64 a.Zr.1.To,i64 a.Zr.2.1.Zi,i64 a.Zr.2.1.To,i64 a.Zr.2.2.1.Zi,i64 a.Zr.2.2.1.To,i64 a.Zr.2.2.2.1.Zi,i64 a.Zr.2.2.2.1.To,i64 a.Zr.2.2.2.2.1.Zi,i64 a.Zr.2.2.2.2.1.To,i64 b,i64 a.Zr.2.2.2.2.2.1.To,i64 c,i64 a.Zr.2.2.2.2.2.2.To]),(10,i64 3),(27,.bool ae)],[.box [i64 a.Zr.1.Zi,i64 a.Zr.1.To,i64 a.Zr.2.1.Zi,i64 a.Zr.2.1.To,i64 a.Zr.2.2.1.Zi,i64 a.Zr.2.2.1.To,i64 a.Zr.2.2.2.1.Zi,i64 a.Zr.2.2.2.1.To,i64 a.Zr.2.2.2.2.1.Zi,i64 a.Zr.2.2.2.2.1.To,i64 b,i64 a.Zr.2.2.2.2.2.1.To,i64 c,i64 a.Zr.2.2.2.2.2.2.To,.sl false (L Hg a.Zs)] false]⟩) ?_ ?_
     ·intro _
      refine Sp (fun i => ?_) fun i => ?_
      ·exact Lf Ac (Ev (by simp only [go_sem,i];exact Ak)) (ws [0])
      ·refine Sp (fun q => ?_) fun q => ?_
       ·exact Lf Ac (Ev (by simp only [go_sem,i,q];exact Ak)) (ws [0])
       ·exact Lf Ac (Ev (by simp only [go_sem,i,q];exact Ak)) (ws [0])
     intro ae
     refine Cd ?_ ?_
     ·refine T0 [2] ?_
      exact Sr <|Br <|Tr <|Ur <|Br <|Jr d <|Rr
     ·refine Sk <|Bn <|Tn <|?_
      have ax : w64 4 = 4:=by decide
      refine Fe [1,9,10] Ac (Ev (by simp only [go_sem,ax];exact Ak)) ?_
      refine Un ?_
      refine Ug (m:=12) ?_
      refine T0 [1,9,10,11] ?_
      refine Sq <|Ct <|Sk <|Tn <|Sq <|Sb <|?_
      have af : InR 4 7:=by decide
      refine Te [1,4,9,10] Ac (Ev (by simp only [go_sem,af,af.2];exact Ak)) ?_
      refine Tw [1,9,10,27] (fun ag => ⟨As 45 [(1,.ref 0 0),(9,.agg [i64 a.Zr.1.Zi,i64 a.Zr.1.To,i64 a.Zr.2.1.Zi,i64 a.Zr.2.1.To,i64 a.Zr.2.2.1.Zi,i64 a.Zr.2.2.1.To,i64 a.Zr.2.2.2.1.Zi,i64 a.Zr.2.2.2.1.To,i64 a.Zr.2.2.2.2.1.Zi,i64 a.Zr.2.2.2.2.1.To,i64 b,i64 a.Zr.2.2.2.2.2.1.To,i64 c,i64 a.Zr.2.2.2.2.2.2.To]),(10,i64 4),(27,.bool ag)],[.box [i64 a.Zr.1.Zi,i64 a.Zr.1.To,i64 a.Zr.2.1.Zi,i64 a.Zr.2.1.To,i64 a.Zr.2.2.1.Zi,i64 a.Zr.2.2.1.To,i64 a.Zr.2.2.2.1.Zi,i64 a.Zr.2.2.2.1.To,i64 a.Zr.2.2.2.2.1.Zi,i64 a.Zr.2.2.2.2.1.To,i64 b,i64 a.Zr.2.2.2.2.2.1.To,i64 c,i64 a.Zr.2.2.2.2.2.2.To,.sl false (L Hg a.Zs)] false]⟩) ?_ ?_
      ·intro _
       refine Sp (fun j => ?_) fun j => ?_
       ·exact Lf Ac (Ev (by simp only [go_sem,j];exact Ak)) (ws [0])
       ·refine Sp (fun s => ?_) fun s => ?_
        ·exact Lf Ac (Ev (by simp only [go_sem,j,s];exact Ak)) (ws [0])
        ·exact Lf Ac (Ev (by simp only [go_sem,j,s];exact Ak)) (ws [0])
      intro ag
      refine Cd ?_ ?_
      ·refine T0 [2] ?_
       exact Sr <|Br <|Tr <|Ur <|Br <|Jr d <|Rr
      ·refine Sk <|Bn <|Tn <|?_
       have ay : w64 5 = 5:=by decide
       refine Fe [1,9,10] Ac (Ev (by simp only [go_sem,ay];exact Ak)) ?_
       refine Un ?_
       refine Ug (m:=11) ?_
       refine T0 [1,9,10,11] ?_
       refine Sq <|Ct <|Sk <|Tn <|Sq <|Sb <|?_
       have ah : InR 5 7:=by decide
       refine Te [1,4,9,10] Ac (Ev (by simp only [go_sem,ah,ah.2];exact Ak)) ?_
       refine Tw [1,9,10,27] (fun ai => ⟨As 45 [(1,.ref 0 0),(9,.agg [i64 a.Zr.1.Zi,i64 a.Zr.1.To,i64 a.Zr.2.1.Zi,i64 a.Zr.2.1.To,i64 a.Zr.2.2.1.Zi,i64 a.Zr.2.2.1.To,i64 a.Zr.2.2.2.1.Zi,i64 a.Zr.2.2.2.1.To,i64 a.Zr.2.2.2.2.1.Zi,i64 a.Zr.2.2.2.2.1.To,i64 b,i64 a.Zr.2.2.2.2.2.1.To,i64 c,i64 a.Zr.2.2.2.2.2.2.To]),(10,i64 5),(27,.bool ai)],[.box [i64 a.Zr.1.Zi,i64 a.Zr.1.To,i64 a.Zr.2.1.Zi,i64 a.Zr.2.1.To,i64 a.Zr.2.2.1.Zi,i64 a.Zr.2.2.1.To,i64 a.Zr.2.2.2.1.Zi,i64 a.Zr.2.2.2.1.To,i64 a.Zr.2.2.2.2.1.Zi,i64 a.Zr.2.2.2.2.1.To,i64 b,i64 a.Zr.2.2.2.2.2.1.To,i64 c,i64 a.Zr.2.2.2.2.2.2.To,.sl false (L Hg a.Zs)] false]⟩) ?_ ?_
       ·intro _
        refine Sp (fun k => ?_) fun k => ?_
        ·exact Lf Ac (Ev (by simp only [go_sem,k];exact Ak)) (ws [0])
        ·refine Sp (fun t => ?_) fun t => ?_
         ·exact Lf Ac (Ev (by simp only [go_sem,k,t];exact Ak)) (ws [0])
         ·exact Lf Ac (Ev (by simp only [go_sem,k,t];exact Ak)) (ws [0])
       intro ai
       refine Cd ?_ ?_
       ·refine T0 [2] ?_
        exact Sr <|Br <|Tr <|Ur <|Br <|Jr d <|Rr
       ·refine Sk <|Bn <|Tn <|?_
        have az : w64 6 = 6:=by decide
        refine Fe [1,9,10] Ac (Ev (by simp only [go_sem,az];exact Ak)) ?_
        refine Un ?_
        refine Ug (m:=10) ?_
        refine T0 [1,9,10,11] ?_
        refine Sq <|Ct <|Sk <|Tn <|Sq <|Sb <|?_
        have aj : InR 6 7:=by decide
        refine Te [1,4,9,10] Ac (Ev (by simp only [go_sem,aj,aj.2];exact Ak)) ?_
        refine Tw [1,9,10,27] (fun ak => ⟨As 45 [(1,.ref 0 0),(9,.agg [i64 a.Zr.1.Zi,i64 a.Zr.1.To,i64 a.Zr.2.1.Zi,i64 a.Zr.2.1.To,i64 a.Zr.2.2.1.Zi,i64 a.Zr.2.2.1.To,i64 a.Zr.2.2.2.1.Zi,i64 a.Zr.2.2.2.1.To,i64 a.Zr.2.2.2.2.1.Zi,i64 a.Zr.2.2.2.2.1.To,i64 b,i64 a.Zr.2.2.2.2.2.1.To,i64 c,i64 a.Zr.2.2.2.2.2.2.To]),(10,i64 6),(27,.bool ak)],[.box [i64 a.Zr.1.Zi,i64 a.Zr.1.To,i64 a.Zr.2.1.Zi,i64 a.Zr.2.1.To,i64 a.Zr.2.2.1.Zi,i64 a.Zr.2.2.1.To,i64 a.Zr.2.2.2.1.Zi,i64 a.Zr.2.2.2.1.To,i64 a.Zr.2.2.2.2.1.Zi,i64 a.Zr.2.2.2.2.1.To,i64 b,i64 a.Zr.2.2.2.2.2.1.To,i64 c,i64 a.Zr.2.2.2.2.2.2.To,.sl false (L Hg a.Zs)] false]⟩) ?_ ?_
        ·intro _
         refine Sp (fun l => ?_) fun l => ?_
         ·exact Lf Ac (Ev (by simp only [go_sem,l];exact Ak)) (ws [0])
         ·refine Sp (fun u => ?_) fun u => ?_
          ·exact Lf Ac (Ev (by simp only [go_sem,l,u];exact Ak)) (ws [0])
          ·exact Lf Ac (Ev (by simp only [go_sem,l,u];exact Ak)) (ws [0])
        intro ak
        refine Cd ?_ ?_
        ·refine T0 [2] ?_
         exact Sr <|Br <|Tr <|Ur <|Br <|Jr d <|Rr
        ·refine Sk <|Bn <|Tn <|?_
         have aA : w64 7 = 7:=by decide
         refine Fe [1,9,10] Ac (Ev (by simp only [go_sem,aA];exact Ak)) ?_
         refine Un ?_
         refine Ug (m:=9) ?_
         refine T0 [1,9,10,11] ?_
         exact Sq <|Cf <|Sx <|Tx <|Ux <|Bx <|Jn (ws [0])
 intro _
 refine T0 [1,5] ?_
 refine Jo (fun _ => ⟨As 45 [],[]⟩) ?_ ?_
 ·intro aH aB
  refine T0 [5,30,31,32] ?_
  refine Sb ?_
  refine Lo (fun (v : Int×Int) => (⟨As 45 [(5,i64 v.1),(30,.sl false (L Hg a.Zs)),(31,i64 (a.Zs.length : Int)),(32,i64 v.2)],[]⟩ : St)) (ws []) ?_
  rintro ⟨aC,al⟩ aI aD am an
  show Dn a aC al = some aD→_
  unfold Dn
  refine T0 [5,30,31,32,33] ?_
  refine Sq <|Cd ?_ ?_
  ·refine Sk <|Tn <|Sq <|Sb <|Ck fun aE =>Lt fun ao aF =>Te (fr':=[(5,_),(7,i64 ao),(30,_),(31,_),(32,_)]) [5,7,30,31,32] Ac (Ev (by simp only [go_sem,qR aE,aF];exact Ak)) ?_
   refine Sq ?_
   refine Tw [7,30,31,32,42] (fun ap => ⟨As 45 [(7,i64 ao),(30,.sl false (L Hg a.Zs)),(31,i64 (a.Zs.length : Int)),(32,i64 al),(42,.bool ap)],[]⟩) ?_ ?_
   ·intro _
    refine Sp (fun w => ?_) fun w => ?_
    ·exact Lf Ac (Ev (by simp only [go_sem,w];exact Ak)) (ws [])
    ·exact Lf Ac (Ev (by simp only [go_sem,w];exact Ak)) (ws [])
   intro ap
   refine Cd ?_ ?_
   ·refine T0 [2] ?_
    exact Sr <|Tr <|Br <|Tr <|Lr an am <|Br <|Jr aB <|Rr
   ·refine Sk <|Tn <|F0 [5,30,31,32] ?_
    refine Bn <|Tn <|F0 [5,30,31,32] ?_
    exact Ln (ws [])
  ·refine Sx <|Tx <|Lx an am <|Bx <|?_
   exact Jn ((ws (l':=[]) (σ':=[]) []).trans (ws []))
 intro _
 refine T0 [2] ?_
 exact Sr <|Rr
end Go.Proofs.YtnfoiocigicdnaaGreatDoor
