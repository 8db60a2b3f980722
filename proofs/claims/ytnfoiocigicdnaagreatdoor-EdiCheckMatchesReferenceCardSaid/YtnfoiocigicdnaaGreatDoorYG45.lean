/-
  Part 45.
-/
import Derived.Test.YtnfoiocigicdnaaGreatDoorYG39
import Derived.Test.YtnfoiocigicdnaaGreatDoorYG40
import Derived.Test.YtnfoiocigicdnaaGreatDoorYG42
import Derived.Test.YtnfoiocigicdnaaGreatDoorYG43
import Derived.Test.YtnfoiocigicdnaaGreatDoorYG44
import Derived.KernelRfl
import Derived.Lib.Mul64
namespace Go.Proofs.YtnfoiocigicdnaaGreatDoor
open Go.Rv
set_option linter.unusedVariables false
set_option linter.unusedSimpArgs false
set_option maxRecDepth 20000
set_option maxHeartbeats 4000000
theorem Uv {b a r} (h : Fp b a = some r) : Con B 38 [.agg [.sl false (L Ah b.Zs1.Zu),.sl false (L Al b.Zs1.Zv),.sl false (L Aa b.Zt1.Zm1),.sl false (L Af b.Zt1.Zn1),.sl false (L Aj b.Zt1.Zo1),.sl false (L Ai b.Zt1.Zp1),.sl false (L Ag b.Zu1),.sl false (L Ae b.Zv1),.sl false (L Ab b.Zw1)],.agg [i64 a.Zb,i64 a.Ref.Za,i64 a.Ref.No,i64 a.Ze,i64 a.Zf,i64 a.Zg,i64 a.Zh,i64 a.Zi,i64 a.To,i64 a.Code,i64 a.Zj,i64 a.Zk,i64 a.Zl,i64 a.Zm,.str a.Zn,.sl false (L Ad a.Zo)]] [] (fun r' σ' => r' = .bool r∧σ' = []):=by
 refine Cw 46 [.tmp 4] Tryz.func38 (fun F hE => ?_) h
 unfold Fp
 refine T0 [2,3] ?_
 refine T0 [3,5] ?_
 refine Ja (fun ⟨c,d,e,f,g,i,j,k,n,o,p,q,s,t,u,v,w,x,y,z,aa,ab,ac,ad,ae,ah⟩ => ⟨As 46 [(5,.ref 0 0)],[.box [.sl false (L Ah c),.sl false (L Al d),.sl false (L Aa e),.sl false (L Af f),.sl false (L Aj g),.sl false (L Ai i),.sl false (L Ag j),.sl false (L Ae k),.sl false (L Ab n),i64 o,i64 p,i64 q,i64 s,i64 t,i64 u,i64 v,i64 w,i64 x,i64 y,i64 z,i64 aa,i64 ab,i64 ac,.str ad,.sl false (L Ad ae),.bool ah] false]⟩) ?_ ?_
 ·intro a6
  refine T0 [5,13] ?_
  refine Cd ?_ ?_
  ·refine Bd fun a7 aT =>Fe [5] (Ao (l:=[]) (m:=[(14,85,[.ref 2 0],[.box [.sl false (L Ah b.Zs1.Zu),.sl false (L Al b.Zs1.Zv),.sl false (L Aa b.Zt1.Zm1),.sl false (L Af b.Zt1.Zn1),.sl false (L Aj b.Zt1.Zo1),.sl false (L Ai b.Zt1.Zp1),.sl false (L Ag b.Zu1),.sl false (L Ae b.Zv1),.sl false (L Ab b.Zw1)] false,.box [i64 a.Zb,i64 a.Ref.Za,i64 a.Ref.No,i64 a.Ze,i64 a.Zf,i64 a.Zg,i64 a.Zh,i64 a.Zi,i64 a.To,i64 a.Code,i64 a.Zj,i64 a.Zk,i64 a.Zl,i64 a.Zm,.str a.Zn,.sl false (L Ad a.Zo)] false,.box [.sl false (L Ah b.Zs1.Zu),.sl false (L Al b.Zs1.Zv),.sl false (L Aa b.Zt1.Zm1),.sl false (L Af b.Zt1.Zn1),.sl false (L Aj b.Zt1.Zo1),.sl false (L Ai b.Zt1.Zp1),.sl false (L Ag b.Zu1),.sl false (L Ae b.Zv1),.sl false (L Ab b.Zw1),i64 a.Zb,i64 a.Ref.Za,i64 a.Ref.No,i64 a.Ze,i64 a.Zf,i64 a.Zg,i64 a.Zh,i64 a.Zi,i64 a.To,i64 a.Code,i64 a.Zj,i64 a.Zk,i64 a.Zl,i64 a.Zm,.str a.Zn,.sl false (L Ad a.Zo),.bool true] false],_,_)]) trivial ⟨(wc (Kv aT) [2]),trivial⟩) Ev ?_
   exact Jm (ws [2])
  ·refine Bd fun a8 aU =>Fe [5] (Ao (l:=[]) (m:=[(15,86,[.ref 2 0],[.box [.sl false (L Ah b.Zs1.Zu),.sl false (L Al b.Zs1.Zv),.sl false (L Aa b.Zt1.Zm1),.sl false (L Af b.Zt1.Zn1),.sl false (L Aj b.Zt1.Zo1),.sl false (L Ai b.Zt1.Zp1),.sl false (L Ag b.Zu1),.sl false (L Ae b.Zv1),.sl false (L Ab b.Zw1)] false,.box [i64 a.Zb,i64 a.Ref.Za,i64 a.Ref.No,i64 a.Ze,i64 a.Zf,i64 a.Zg,i64 a.Zh,i64 a.Zi,i64 a.To,i64 a.Code,i64 a.Zj,i64 a.Zk,i64 a.Zl,i64 a.Zm,.str a.Zn,.sl false (L Ad a.Zo)] false,.box [.sl false (L Ah b.Zs1.Zu),.sl false (L Al b.Zs1.Zv),.sl false (L Aa b.Zt1.Zm1),.sl false (L Af b.Zt1.Zn1),.sl false (L Aj b.Zt1.Zo1),.sl false (L Ai b.Zt1.Zp1),.sl false (L Ag b.Zu1),.sl false (L Ae b.Zv1),.sl false (L Ab b.Zw1),i64 a.Zb,i64 a.Ref.Za,i64 a.Ref.No,i64 a.Ze,i64 a.Zf,i64 a.Zg,i64 a.Zh,i64 a.Zi,i64 a.To,i64 a.Code,i64 a.Zj,i64 a.Zk,i64 a.Zl,i64 a.Zm,.str a.Zn,.sl false (L Ad a.Zo),.bool true] false],_,_)]) trivial ⟨(wc (Mn aU) [2]),trivial⟩) Ev ?_
   exact Jm (ws [2])
 rintro ⟨c,d,e,f,g,i,j,k,n,o,p,q,s,t,u,v,w,x,y,z,aa,ab,ac,ad,ae,ah⟩
 refine Ja (fun av => ⟨As 46 [(5,.ref 0 0)],[.box [.sl false (L Ah c),.sl false (L Al d),.sl false (L Aa e),.sl false (L Af f),.sl false (L Aj g),.sl false (L Ai i),.sl false (L Ag j),.sl false (L Ae k),.sl false (L Ab n),i64 o,i64 p,i64 q,i64 s,i64 t,i64 u,i64 v,i64 w,i64 x,i64 y,i64 z,i64 aa,i64 ab,i64 ac,.str ad,.sl false (L Ad ae),.bool av] false]⟩) ?_ ?_
 ·intro a9
  refine Te [5,17,18] (Ao (l:=[]) (m:=[(17,51,[.ref 0 9],[.box [.sl false (L Ah c),.sl false (L Al d),.sl false (L Aa e),.sl false (L Af f),.sl false (L Aj g),.sl false (L Ai i),.sl false (L Ag j),.sl false (L Ae k),.sl false (L Ab n),i64 o,i64 p,i64 q,i64 s,i64 t,i64 u,i64 v,i64 w,i64 x,i64 y,i64 z,i64 aa,i64 ab,i64 ac,.str ad,.sl false (L Ad ae),.bool ah] false],.agg [.ref 0 12,.ref 0 13,.ref 0 14,.ref 0 15,.ref 0 16,.ref 0 17,.ref 0 18,.ref 0 19,.ref 0 20,.ref 0 21,.ref 0 22],[.box [.sl false (L Ah c),.sl false (L Al d),.sl false (L Aa e),.sl false (L Af f),.sl false (L Aj g),.sl false (L Ai i),.sl false (L Ag j),.sl false (L Ae k),.sl false (L Ab n),i64 o,i64 p,i64 q,i64 s,i64 t,i64 u,i64 v,i64 w,i64 x,i64 y,i64 z,i64 aa,i64 ab,i64 ac,.str ad,.sl false (L Ad ae),.bool ah] false])]) trivial ⟨Qk,trivial⟩) Ev ?_
  refine Sb ?_
  refine Ul 17 ?_
  refine Ug (m:=16) ?_
  refine T0 [5,17,18,19] ?_
  refine Sq <|Ct <|Sk <|Tn <|Sq <|Sb <|?_
  have aw : InR 0 11:=by decide
  refine Te [5,7,17,18] Ac (Ev (by simp only [go_sem,aw,aw.2];exact Ak)) ?_
  refine Fw [5,17,18] (fun ax => ⟨As 46 [(5,.ref 0 0),(17,.agg [.ref 0 12,.ref 0 13,.ref 0 14,.ref 0 15,.ref 0 16,.ref 0 17,.ref 0 18,.ref 0 19,.ref 0 20,.ref 0 21,.ref 0 22]),(18,i64 0)],[.box [.sl false (L Ah c),.sl false (L Al d),.sl false (L Aa e),.sl false (L Af f),.sl false (L Aj g),.sl false (L Ai i),.sl false (L Ag j),.sl false (L Ae k),.sl false (L Ab n),i64 o,i64 p,i64 q,i64 s,i64 t,i64 u,i64 v,i64 w,i64 x,i64 y,i64 z,i64 aa,i64 ab,i64 ac,.str ad,.sl false (L Ad ae),.bool ax] false]⟩) ?_ ?_
  ·intro _
   refine Sp (fun ai => ?_) fun ai => ?_
   ·exact Lf Ac (Ev (by simp only [go_sem,ai];exact Ak)) (ws [0])
   ·exact Lf Ac (Ev (by simp only [go_sem,ai];exact Ak)) (ws [0])
  intro ax
  refine Bn <|Tn <|?_
  have aV : w64 1 = 1:=by decide
  refine Fe [5,17,18] Ac (Ev (by simp only [go_sem,aV];exact Ak)) ?_
  refine Un ?_
  refine Ug (m:=15) ?_
  refine T0 [5,17,18,19] ?_
  refine Sq <|Ct <|Sk <|Tn <|Sq <|Sb <|?_
  have ay : InR 1 11:=by decide
  refine Te [5,7,17,18] Ac (Ev (by simp only [go_sem,ay,ay.2];exact Ak)) ?_
  refine Fw [5,17,18] (fun az => ⟨As 46 [(5,.ref 0 0),(17,.agg [.ref 0 12,.ref 0 13,.ref 0 14,.ref 0 15,.ref 0 16,.ref 0 17,.ref 0 18,.ref 0 19,.ref 0 20,.ref 0 21,.ref 0 22]),(18,i64 1)],[.box [.sl false (L Ah c),.sl false (L Al d),.sl false (L Aa e),.sl false (L Af f),.sl false (L Aj g),.sl false (L Ai i),.sl false (L Ag j),.sl false (L Ae k),.sl false (L Ab n),i64 o,i64 p,i64 q,i64 s,i64 t,i64 u,i64 v,i64 w,i64 x,i64 y,i64 z,i64 aa,i64 ab,i64 ac,.str ad,.sl false (L Ad ae),.bool az] false]⟩) ?_ ?_
  ·intro _
   refine Sp (fun aj => ?_) fun aj => ?_
   ·exact Lf Ac (Ev (by simp only [go_sem,aj];exact Ak)) (ws [0])
   ·exact Lf Ac (Ev (by simp only [go_sem,aj];exact Ak)) (ws [0])
  intro az
  refine Bn <|Tn <|?_
  have aW : w64 2 = 2:=by decide
  refine Fe [5,17,18] Ac (Ev (by simp only [go_sem,aW];exact Ak)) ?_
  refine Un ?_
  refine Ug (m:=14) ?_
  refine T0 [5,17,18,19] ?_
  refine Sq <|Ct <|Sk <|Tn <|Sq <|Sb <|?_
  have aA : InR 2 11:=by decide
  refine Te [5,7,17,18] Ac (Ev (by simp only [go_sem,aA,aA.2];exact Ak)) ?_
  refine Fw [5,17,18] (fun aB => ⟨As 46 [(5,.ref 0 0),(17,.agg [.ref 0 12,.ref 0 13,.ref 0 14,.ref 0 15,.ref 0 16,.ref 0 17,.ref 0 18,.ref 0 19,.ref 0 20,.ref 0 21,.ref 0 22]),(18,i64 2)],[.box [.sl false (L Ah c),.sl false (L Al d),.sl false (L Aa e),.sl false (L Af f),.sl false (L Aj g),.sl false (L Ai i),.sl false (L Ag j),.sl false (L Ae k),.sl false (L Ab n),i64 o,i64 p,i64 q,i64 s,i64 t,i64 u,i64 v,i64 w,i64 x,i64 y,i64 z,i64 aa,i64 ab,i64 ac,.str ad,.sl false (L Ad ae),.bool aB] false]⟩) ?_ ?_
  ·intro _
   refine Sp (fun ak => ?_) fun ak => ?_
   ·exact Lf Ac (Ev (by simp only [go_sem,ak];exact Ak)) (ws [0])
   ·exact Lf Ac (Ev (by simp only [go_sem,ak];exact Ak)) (ws [0])
  intro aB
  refine Bn <|Tn <|?_
  have aX : w64 3 = 3:=by decide
  refine Fe [5,17,18] Ac (Ev (by simp only [go_sem,aX];exact Ak)) ?_
  refine Un ?_
  refine Ug (m:=13) ?_
  refine T0 [5,17,18,19] ?_
  refine Sq <|Ct <|Sk <|Tn <|Sq <|Sb <|?_
  have aC : InR 3 11:=by decide
  refine Te [5,7,17,18] Ac (Ev (by simp only [go_sem,aC,aC.2];exact Ak)) ?_
  refine Fw [5,17,18] (fun aD => ⟨As 46 [(5,.ref 0 0),(17,.agg [.ref 0 12,.ref 0 13,.ref 0 14,.ref 0 15,.ref 0 16,.ref 0 17,.ref 0 18,.ref 0 19,.ref 0 20,.ref 0 21,.ref 0 22]),(18,i64 3)],[.box [.sl false (L Ah c),.sl false (L Al d),.sl false (L Aa e),.sl false (L Af f),.sl false (L Aj g),.sl false (L Ai i),.sl false (L Ag j),.sl false (L Ae k),.sl false (L Ab n),i64 o,i64 p,i64 q,i64 s,i64 t,i64 u,i64 v,i64 w,i64 x,i64 y,i64 z,i64 aa,i64 ab,i64 ac,.str ad,.sl false (L Ad ae),.bool aD] false]⟩) ?_ ?_
  ·intro _
   refine Sp (fun al => ?_) fun al => ?_
   ·exact Lf Ac (Ev (by simp only [go_sem,al];exact Ak)) (ws [0])
   ·exact Lf Ac (Ev (by simp only [go_sem,al];exact Ak)) (ws [0])
  intro aD
  refine Bn <|Tn <|?_
  have aY : w64 4 = 4:=by decide
  refine Fe [5,17,18] Ac (Ev (by simp only [go_sem,aY];exact Ak)) ?_
  refine Un ?_
  refine Ug (m:=12) ?_
  refine T0 [5,17,18,19] ?_
  refine Sq <|Ct <|Sk <|Tn <|Sq <|Sb <|?_
  have aE : InR 4 11:=by decide
  refine Te [5,7,17,18] Ac (Ev (by simp only [go_sem,aE,aE.2];exact Ak)) ?_
  refine Fw [5,17,18] (fun aF => ⟨As 46 [(5,.ref 0 0),(17,.agg [.ref 0 12,.ref 0 13,.ref 0 14,.ref 0 15,.ref 0 16,.ref 0 17,.ref 0 18,.ref 0 19,.ref 0 20,.ref 0 21,.ref 0 22]),(18,i64 4)],[.box [.sl false (L Ah c),.sl false (L Al d),.sl false (L Aa e),.sl false (L Af f),.sl false (L Aj g),.sl false (L Ai i),.sl false (L Ag j),.sl false (L Ae k),.sl false (L Ab n),i64 o,i64 p,i64 q,i64 s,i64 t,i64 u,i64 v,i64 w,i64 x,i64 y,i64 z,i64 aa,i64 ab,i64 ac,.str ad,.sl false (L Ad ae),.bool aF] false]⟩) ?_ ?_
  ·intro _
   refine Sp (fun am => ?_) fun am => ?_
   ·exact Lf Ac (Ev (by simp only [go_sem,am];exact Ak)) (ws [0])
   ·exact Lf Ac (Ev (by simp only [go_sem,am];exact Ak)) (ws [0])
  intro aF
  refine Bn <|Tn <|?_
  have aZ : w64 5 = 5:=by decide
  refine Fe [5,17,18] Ac (Ev (by simp only [go_sem,aZ];exact Ak)) ?_
  refine Un ?_
  refine Ug (m:=11) ?_
  refine T0 [5,17,18,19] ?_
  refine Sq <|Ct <|Sk <|Tn <|Sq <|Sb <|?_
  have aG : InR 5 11:=by decide
  refine Te [5,7,17,18] Ac (Ev (by simp only [go_sem,aG,aG.2];exact Ak)) ?_
  refine Fw [5,17,18] (fun aH => ⟨As 46 [(5,.ref 0 0),(17,.agg [.ref 0 12,.ref 0 13,.ref 0 14,.ref 0 15,.ref 0 16,.ref 0 17,.ref 0 18,.ref 0 19,.ref 0 20,.ref 0 21,.ref 0 22]),(18,i64 5)],[.box [.sl false (L Ah c),.sl false (L Al d),.sl false (L Aa e),.sl false (L Af f),.sl false (L Aj g),.sl false (L Ai i),.sl false (L Ag j),.sl false (L Ae k),.sl false (L Ab n),i64 o,i64 p,i64 q,i64 s,i64 t,i64 u,i64 v,i64 w,i64 x,i64 y,i64 z,i64 aa,i64 ab,i64 ac,.str ad,.sl false (L Ad ae),.bool aH] false]⟩) ?_ ?_
  ·intro _
   refine Sp (fun an => ?_) fun an => ?_
   ·exact Lf Ac (Ev (by simp only [go_sem,an];exact Ak)) (ws [0])
   ·exact Lf Ac (Ev (by simp only [go_sem,an];exact Ak)) (ws [0])
  intro aH
  refine Bn <|Tn <|?_
  have a0 : w64 6 = 6:=by decide
  refine Fe [5,17,18] Ac (Ev (by simp only [go_sem,a0];exact Ak)) ?_
  refine Un ?_
  refine Ug (m:=10) ?_
  refine T0 [5,17,18,19] ?_
  refine Sq <|Ct <|Sk <|Tn <|Sq <|Sb <|?_
  have aI : InR 6 11:=by decide
  refine Te [5,7,17,18] Ac (Ev (by simp only [go_sem,aI,aI.2];exact Ak)) ?_
  refine Fw [5,17,18] (fun aJ => ⟨As 46 [(5,.ref 0 0),(17,.agg [.ref 0 12,.ref 0 13,.ref 0 14,.ref 0 15,.ref 0 16,.ref 0 17,.ref 0 18,.ref 0 19,.ref 0 20,.ref 0 21,.ref 0 22]),(18,i64 6)],[.box [.sl false (L Ah c),.sl false (L Al d),.sl false (L Aa e),.sl false (L Af f),.sl false (L Aj g),.sl false (L Ai i),.sl false (L Ag j),.sl false (L Ae k),.sl false (L Ab n),i64 o,i64 p,i64 q,i64 s,i64 t,i64 u,i64 v,i64 w,i64 x,i64 y,i64 z,i64 aa,i64 ab,i64 ac,.str ad,.sl false (L Ad ae),.bool aJ] false]⟩) ?_ ?_
  ·intro _
   refine Sp (fun ao => ?_) fun ao => ?_
   ·exact Lf Ac (Ev (by simp only [go_sem,ao];exact Ak)) (ws [0])
   ·exact Lf Ac (Ev (by simp only [go_sem,ao];exact Ak)) (ws [0])
  intro aJ
  refine Bn <|Tn <|?_
  have a1 : w64 7 = 7:=by decide
  refine Fe [5,17,18] Ac (Ev (by simp only [go_sem,a1];exact Ak)) ?_
  refine Un ?_
  refine Ug (m:=9) ?_
  refine T0 [5,17,18,19] ?_
  refine Sq <|Ct <|Sk <|Tn <|Sq <|Sb <|?_
  have aK : InR 7 11:=by decide
  refine Te [5,7,17,18] Ac (Ev (by simp only [go_sem,aK,aK.2];exact Ak)) ?_
  refine Fw [5,17,18] (fun aL => ⟨As 46 [(5,.ref 0 0),(17,.agg [.ref 0 12,.ref 0 13,.ref 0 14,.ref 0 15,.ref 0 16,.ref 0 17,.ref 0 18,.ref 0 19,.ref 0 20,.ref 0 21,.ref 0 22]),(18,i64 7)],[.box [.sl false (L Ah c),.sl false (L Al d),.sl false (L Aa e),.sl false (L Af f),.sl false (L Aj g),.sl false (L Ai i),.sl false (L Ag j),.sl false (L Ae k),.sl false (L Ab n),i64 o,i64 p,i64 q,i64 s,i64 t,i64 u,i64 v,i64 w,i64 x,i64 y,i64 z,i64 aa,i64 ab,i64 ac,.str ad,.sl false (L Ad ae),.bool aL] false]⟩) ?_ ?_
  ·intro _
   refine Sp (fun ap => ?_) fun ap => ?_
   ·exact Lf Ac (Ev (by simp only [go_sem,ap];exact Ak)) (ws [0])
   ·exact Lf Ac (Ev (by simp only [go_sem,ap];exact Ak)) (ws [0])
  intro aL
  refine Bn <|Tn <|?_
  have a2 : w64 8 = 8:=by decide
  refine Fe [5,17,18] Ac (Ev (by simp only [go_sem,a2];exact Ak)) ?_
  refine Un ?_
  refine Ug (m:=8) ?_
  refine T0 [5,17,18,19] ?_
  refine Sq <|Ct <|Sk <|Tn <|Sq <|Sb <|?_
  have aM : InR 8 11:=by decide
  refine Te [5,7,17,18] Ac (Ev (by simp only [go_sem,aM,aM.2];exact Ak)) ?_
  refine Fw [5,17,18] (fun aN => ⟨As 46 [(5,.ref 0 0),(17,.agg [.ref 0 12,.ref 0 13,.ref 0 14,.ref 0 15,.ref 0 16,.ref 0 17,.ref 0 18,.ref 0 19,.ref 0 20,.ref 0 21,.ref 0 22]),(18,i64 8)],[.box [.sl false (L Ah c),.sl false (L Al d),.sl false (L Aa e),.sl false (L Af f),.sl false (L Aj g),.sl false (L Ai i),.sl false (L Ag j),.sl false (L Ae k),.sl false (L Ab n),i64 o,i64 p,i64 q,i64 s,i64 t,i64 u,i64 v,i64 w,i64 x,i64 y,i64 z,i64 aa,i64 ab,i64 ac,.str ad,.sl false (L Ad ae),.bool aN] false]⟩) ?_ ?_
  ·intro _
   refine Sp (fun aq => ?_) fun aq => ?_
   ·exact Lf Ac (Ev (by simp only [go_sem,aq];exact Ak)) (ws [0])
   ·exact Lf Ac (Ev (by simp only [go_sem,aq];exact Ak)) (ws [0])
  intro aN
  refine Bn <|Tn <|?_
  have a3 : w64 9 = 9:=by decide
  refine Fe [5,17,18] Ac (Ev (by simp only [go_sem,a3];exact Ak)) ?_
  refine Un ?_
  refine Ug (m:=7) ?_
  refine T0 [5,17,18,19] ?_
  refine Sq <|Ct <|Sk <|Tn <|Sq <|Sb <|?_
  have aO : InR 9 11:=by decide
  refine Te [5,7,17,18] Ac (Ev (by simp only [go_sem,aO,aO.2];exact Ak)) ?_
  refine Fw [5,17,18] (fun aP => ⟨As 46 [(5,.ref 0 0),(17,.agg [.ref 0 12,.ref 0 13,.ref 0 14,.ref 0 15,.ref 0 16,.ref 0 17,.ref 0 18,.ref 0 19,.ref 0 20,.ref 0 21,.ref 0 22]),(18,i64 9)],[.box [.sl false (L Ah c),.sl false (L Al d),.sl false (L Aa e),.sl false (L Af f),.sl false (L Aj g),.sl false (L Ai i),.sl false (L Ag j),.sl false (L Ae k),.sl false (L Ab n),i64 o,i64 p,i64 q,i64 s,i64 t,i64 u,i64 v,i64 w,i64 x,i64 y,i64 z,i64 aa,i64 ab,i64 ac,.str ad,.sl false (L Ad ae),.bool aP] false]⟩) ?_ ?_
  ·intro _
   refine Sp (fun ar => ?_) fun ar => ?_
   ·exact Lf Ac (Ev (by simp only [go_sem,ar];exact Ak)) (ws [0])
   ·exact Lf Ac (Ev (by simp only [go_sem,ar];exact Ak)) (ws [0])
  intro aP
  refine Bn <|Tn <|?_
  have a4 : w64 10 = 10:=by decide
  refine Fe [5,17,18] Ac (Ev (by simp only [go_sem,a4];exact Ak)) ?_
  refine Un ?_
  refine Ug (m:=6) ?_
  refine T0 [5,17,18,19] ?_
  refine Sq <|Ct <|Sk <|Tn <|Sq <|Sb <|?_
  have aQ : InR 10 11:=by decide
  refine Te [5,7,17,18] Ac (Ev (by simp only [go_sem,aQ,aQ.2];exact Ak)) ?_
  refine Fw [5,17,18] (fun aR => ⟨As 46 [(5,.ref 0 0),(17,.agg [.ref 0 12,.ref 0 13,.ref 0 14,.ref 0 15,.ref 0 16,.ref 0 17,.ref 0 18,.ref 0 19,.ref 0 20,.ref 0 21,.ref 0 22]),(18,i64 10)],[.box [.sl false (L Ah c),.sl false (L Al d),.sl false (L Aa e),.sl false (L Af f),.sl false (L Aj g),.sl false (L Ai i),.sl false (L Ag j),.sl false (L Ae k),.sl false (L Ab n),i64 o,i64 p,i64 q,i64 s,i64 t,i64 u,i64 v,i64 w,i64 x,i64 y,i64 z,i64 aa,i64 ab,i64 ac,.str ad,.sl false (L Ad ae),.bool aR] false]⟩) ?_ ?_
  ·intro _
   refine Sp (fun au => ?_) fun au => ?_
   ·exact Lf Ac (Ev (by simp only [go_sem,au];exact Ak)) (ws [0])
   ·exact Lf Ac (Ev (by simp only [go_sem,au];exact Ak)) (ws [0])
  intro aR
  refine Bn <|Tn <|?_
  have a5 : w64 11 = 11:=by decide
  refine Fe [5,17,18] Ac (Ev (by simp only [go_sem,a5];exact Ak)) ?_
  refine Un ?_
  refine Ug (m:=5) ?_
  refine T0 [5,17,18,19] ?_
  exact Sq <|Cf <|Sx <|Tx <|Ux <|Bx <|Jm (ws [0])
 intro av
 refine Tw [4] (fun aS => ⟨As 46 [(4,.bool aS)],[]⟩) ?_ ?_
 ·intro _
  refine Sp (fun af => ?_) fun af => ?_
  ·refine Sp (fun ag => ?_) fun ag => ?_
   ·exact Lf Ac (Ev (by simp only [go_sem,af,ag];exact Ak)) (ws [] (by simp only [go_sem,af,ag]) (by simp only [go_sem,af,ag]))
   ·exact Lf Ac (Ev (by simp only [go_sem,af,ag];exact Ak)) (ws [] (by simp only [go_sem,af,ag]) (by simp only [go_sem,af,ag]))
  ·exact Lf Ac (Ev (by simp only [go_sem,af];exact Ak)) (ws [] (by simp only [go_sem,af]) (by simp only [go_sem,af]))
 intro aS
 exact Sr <|Rr
theorem O1 {b a r} (h : Iz b a = some r) : Con B 15 [.agg [.sl false (L Ah b.Zs1.Zu),.sl false (L Al b.Zs1.Zv),.sl false (L Aa b.Zt1.Zm1),.sl false (L Af b.Zt1.Zn1),.sl false (L Aj b.Zt1.Zo1),.sl false (L Ai b.Zt1.Zp1),.sl false (L Ag b.Zu1),.sl false (L Ae b.Zv1),.sl false (L Ab b.Zw1)],.agg [i64 a.Zb,i64 a.Ref.Za,i64 a.Ref.No,i64 a.Ze,i64 a.Zf,i64 a.Zg,i64 a.Zh,i64 a.Zi,i64 a.To,i64 a.Code,i64 a.Zj,i64 a.Zk,i64 a.Zl,i64 a.Zm,.str a.Zn,.sl false (L Ad a.Zo)]] [] (fun r' σ' => r' = i64 r∧σ' = []):=by
 refine Cw 19 [.tmp 4] Tryz.func15 (fun F hE => ?_) h
 unfold Iz
 refine T0 [2,3] ?_
 refine Sq <|Bd fun i f =>Te [2,3,4] (o1 6 (I0 f)) Ev ?_
 refine T0 [2,3,4,8] ?_
 refine Cd ?_ ?_
 ·refine T0 [4] ?_
  exact Sr <|Tr <|Rr
 ·refine Sk <|Tn <|Sq <|?_
  refine Tw [18] (fun d => ⟨As 19 [(18,.bool d)],[]⟩) ?_ ?_
  ·intro _
   refine Bd fun j e => ?_
   refine Sp (fun c => ?_) fun c => ?_
   ·exact Lf (o1 11 (Kh e)) (Ev (by simp only [go_sem,c];exact Ak)) (ws [])
   ·refine Bd fun k g => ?_
    exact Lf (o2 11 (Kh e) 16 (Uv g)) (Ev (by simp only [go_sem,c];exact Ak)) (ws [])
  intro d
  refine Cd ?_ ?_
  ·refine T0 [4] ?_
   exact Sr <|Tr <|Rr
  ·refine Sk <|Tn <|T0 [4] ?_
   exact Sr <|Rr
theorem B0 {a e r} (h : Fi a e = some r) : Con B 35 [.agg [i64 a.Zb,i64 a.Ref.Za,i64 a.Ref.No,i64 a.Ze,i64 a.Zf,i64 a.Zg,i64 a.Zh,i64 a.Zi,i64 a.To,i64 a.Code,i64 a.Zj,i64 a.Zk,i64 a.Zl,i64 a.Zm,.str a.Zn,.sl false (L Ad a.Zo)],.str e] [] (fun r' σ' => r' = .bool r∧σ' = []):=by
 refine Cw 35 [.tmp 4] Tryz.func35 (fun F hE => ?_) h
 unfold Fi
 refine T0 [1,2] ?_
 refine Bd fun k g =>Te [1,2,5,6] (o1 11 (J8 g)) Ev ?_
 refine Bd fun l i =>Te [1,2,5,6,7,8] (o1 16 (Pj i)) Ev ?_
 refine Tw [4] (fun f => ⟨As 35 [(4,.bool f)],[]⟩) ?_ ?_
 ·intro _
  refine Sp (fun b => ?_) fun b => ?_
  ·refine Sp (fun c => ?_) fun c => ?_
   ·refine Sp (fun d => ?_) fun d => ?_
    ·refine Bd fun m j => ?_
     exact Lf (o1 33 (Jb j)) (Ev (by simp only [go_sem,b,c,d];exact Ak)) (ws [])
    ·exact Lf Ac (Ev (by simp only [go_sem,b,c,d];exact Ak)) (ws [])
   ·exact Lf Ac (Ev (by simp only [go_sem,b,c];exact Ak)) (ws [])
  ·exact Lf Ac (Ev (by simp only [go_sem,b];exact Ak)) (ws [])
 intro f
 exact Sr <|Rr
theorem Ar {b r} (h : Dl b = some r) : Con B 36 [.str b] [] (fun r' σ' => r' = .bool r∧σ' = []):=by
 refine Cw 17 [.tmp 2] Tryz.func36 (fun F hE => ?_) h
 unfold Dl
 refine T0 [0] ?_
 refine Bd fun f d =>Te [3,4] (o1 7 (Pj d)) Ev ?_
 refine Tw [2] (fun c => ⟨As 17 [(2,.bool c)],[]⟩) ?_ ?_
 ·intro _
  refine Sp (fun a => ?_) fun a => ?_
  ·refine Bd fun g e => ?_
   exact Lf (o1 15 (Jb e)) (Ev (by simp only [go_sem,a];exact Ak)) (ws [])
  ·exact Lf Ac (Ev (by simp only [go_sem,a];exact Ak)) (ws [])
 intro c
 exact Sr <|Rr
theorem Uz {r} (h : law11_sane  = some r) : Con B 12 [] [] (fun r' σ' => r' = .bool r∧σ' = []):=by
 refine Cw 91 [.tmp 0] Tryz.func12 (fun F hE => ?_) h
 unfold law11_sane
 refine T0 [] ?_
 refine Lt fun a ag =>Te (σ':=[.buf 3 (L Ad a) false,.box [i64 10,i64 0,i64 0,i64 0,i64 0,i64 0,i64 0,i64 0,i64 0,i64 0,i64 0,i64 0,i64 0,i64 0,.str ([] : List UInt8),.bs true 0 (a.length) 0 (a.length)] false]) [1] Ac (Ev (by simp only [go_sem,ag];exact Ak)) ?_
 refine Tw [1,2] (fun v => ⟨As 91 [(1,.ref 0 0),(2,.bool v)],[.box [i64 10,i64 0,i64 0,i64 0,i64 0,i64 0,i64 0,i64 0,i64 0,i64 0,i64 0,i64 0,i64 0,i64 0,.str ([] : List UInt8),.bs true 1 (a.length) 0 (a.length)] false,.buf 3 (L Ad a) false]⟩) ?_ ?_
 ·intro _
  refine Bd fun aq p => ?_
  refine Sp (fun k => ?_) fun k => ?_
  ·refine Bd fun ar w => ?_
   refine Sp (fun q => ?_) fun q => ?_
   ·refine Bd fun au ab => ?_
    refine Sp (fun x => ?_) fun x => ?_
    ·refine Bd fun av ah => ?_
     exact Lf (Cp (l:=[(15,_,_,_),(19,_,_,_),(23,_,_,_),(27,_,_,_)]) ⟨B0  p,B0  w,B0  ab,B0  ah,trivial⟩) (Ev (by simp only [go_sem,k,q,x];exact Ak)) (ws [1,0])
    ·exact Lf (Cp (l:=[(15,_,_,_),(19,_,_,_),(23,_,_,_)]) ⟨B0  p,B0  w,B0  ab,trivial⟩) (Ev (by simp only [go_sem,k,q,x];exact Ak)) (ws [1,0])
   ·exact Lf (o2 15 (B0 p) 19 (B0 w)) (Ev (by simp only [go_sem,k,q];exact Ak)) (ws [1,0])
  ·exact Lf (o1 15 (B0 p)) (Ev (by simp only [go_sem,k];exact Ak)) (ws [1,0])
 intro v
 refine Bd fun ai aj =>Te [1,2,4] (o1 31 (J8 aj)) Ev ?_
 refine Bd fun ak al =>Te [1,2,4,6] (o1 36 (Kr al)) Ev ?_
 refine Tw [1,2,4,6,7] (fun ac => ⟨As 91 [(1,.ref 0 0),(2,.bool v),(4,i64 ai.2),(6,i64 ak.2),(7,.bool ac)],[.box [i64 10,i64 0,i64 0,i64 0,i64 0,i64 0,i64 0,i64 0,i64 0,i64 0,i64 0,i64 0,i64 0,i64 0,.str ([] : List UInt8),.bs true 1 (a.length) 0 (a.length)] false,.buf 3 (L Ad a) false]⟩) ?_ ?_
 ·intro _
  refine Bd fun aw d => ?_
  refine Sp (fun b => ?_) fun b => ?_
  ·refine Bd fun ax g => ?_
   refine Sp (fun e => ?_) fun e => ?_
   ·refine Bd fun ay m => ?_
    refine Sp (fun i => ?_) fun i => ?_
    ·refine Bd fun az s => ?_
     refine Sp (fun n => ?_) fun n => ?_
     ·refine Bd fun aA y => ?_
      refine Sp (fun t => ?_) fun t => ?_
      ·refine Bd fun aB ad => ?_
       refine Sp (fun z => ?_) fun z => ?_
       ·refine Bd fun aC am => ?_
        exact Lf (Cp (l:=[(39,_,_,_),(41,_,_,_),(44,_,_,_),(47,_,_,_),(50,_,_,_),(53,_,_,_),(56,_,_,_)]) ⟨Ar  d,Ar  g,Ar  m,Ar  s,Ar  y,Ar  ad,Ar  am,trivial⟩) (Ev (by simp only [go_sem,b,e,i,n,t,z];exact Ak)) (ws [0,1])
       ·exact Lf (Cp (l:=[(39,_,_,_),(41,_,_,_),(44,_,_,_),(47,_,_,_),(50,_,_,_),(53,_,_,_)]) ⟨Ar  d,Ar  g,Ar  m,Ar  s,Ar  y,Ar  ad,trivial⟩) (Ev (by simp only [go_sem,b,e,i,n,t,z];exact Ak)) (ws [0,1])
      ·exact Lf (Cp (l:=[(39,_,_,_),(41,_,_,_),(44,_,_,_),(47,_,_,_),(50,_,_,_)]) ⟨Ar  d,Ar  g,Ar  m,Ar  s,Ar  y,trivial⟩) (Ev (by simp only [go_sem,b,e,i,n,t];exact Ak)) (ws [0,1])
     ·exact Lf (Cp (l:=[(39,_,_,_),(41,_,_,_),(44,_,_,_),(47,_,_,_)]) ⟨Ar  d,Ar  g,Ar  m,Ar  s,trivial⟩) (Ev (by simp only [go_sem,b,e,i,n];exact Ak)) (ws [0,1])
    ·exact Lf (Cp (l:=[(39,_,_,_),(41,_,_,_),(44,_,_,_)]) ⟨Ar  d,Ar  g,Ar  m,trivial⟩) (Ev (by simp only [go_sem,b,e,i];exact Ak)) (ws [0,1])
   ·exact Lf (o2 39 (Ar d) 41 (Ar g)) (Ev (by simp only [go_sem,b,e];exact Ak)) (ws [0,1])
  ·exact Lf (o1 39 (Ar d)) (Ev (by simp only [go_sem,b];exact Ak)) (ws [0,1])
 intro ac
 refine Bd fun aD an =>Bd fun aE ao =>Te [1,2,4,6,7,8,9] (o2 60 (Og an) 61 (Kr ao)) Ev ?_
 refine Tw [0] (fun ae => ⟨As 91 [(0,.bool ae)],[]⟩) ?_ ?_
 ·intro _
  refine Sp (fun c => ?_) fun c => ?_
  ·refine Sp (fun f => ?_) fun f => ?_
   ·refine Sp (fun j => ?_) fun j => ?_
    ·refine Sp (fun o => ?_) fun o => ?_
     ·refine Sp (fun u => ?_) fun u => ?_
      ·refine Bd fun aF af => ?_
       refine Sp (fun aa => ?_) fun aa => ?_
       ·refine Bd fun aG ap => ?_
        exact Lf (o2 83 (Jb af) 88 (O1 ap)) (Ev (by simp only [go_sem,c,f,j,o,u,aa];exact Ak)) (ws [])
       ·exact Lf (o1 83 (Jb af)) (Ev (by simp only [go_sem,c,f,j,o,u,aa];exact Ak)) (ws [])
      ·exact Lf Ac (Ev (by simp only [go_sem,c,f,j,o,u];exact Ak)) (ws [])
     ·exact Lf Ac (Ev (by simp only [go_sem,c,f,j,o];exact Ak)) (ws [])
    ·exact Lf Ac (Ev (by simp only [go_sem,c,f,j];exact Ak)) (ws [])
   ·exact Lf Ac (Ev (by simp only [go_sem,c,f];exact Ak)) (ws [])
  ·exact Lf Ac (Ev (by simp only [go_sem,c];exact Ak)) (ws [])
 intro ae
 exact Sr <|Rr
theorem Gm {b a r} (h : Bl b a = some r) : Con B 3 [.agg [.sl false (L Ah b.Zs1.Zu),.sl false (L Al b.Zs1.Zv),.sl false (L Aa b.Zt1.Zm1),.sl false (L Af b.Zt1.Zn1),.sl false (L Aj b.Zt1.Zo1),.sl false (L Ai b.Zt1.Zp1),.sl false (L Ag b.Zu1),.sl false (L Ae b.Zv1),.sl false (L Ab b.Zw1)],.agg [i64 a.Zb,i64 a.Ref.Za,i64 a.Ref.No,i64 a.Ze,i64 a.Zf,i64 a.Zg,i64 a.Zh,i64 a.Zi,i64 a.To,i64 a.Code,i64 a.Zj,i64 a.Zk,i64 a.Zl,i64 a.Zm,.str a.Zn,.sl false (L Ad a.Zo)]] [] (fun r' σ' => r' = .bool r∧σ' = []):=by
 refine Cw 36 [.tmp 4] Tryz.func3 (fun F hE => ?_) h
 unfold Bl
 refine T0 [2,3] ?_
 refine Sq <|Bd fun o k =>Te [2,3,8] (o1 7 (Uz k)) Ev ?_
 refine Cd ?_ ?_
 ·refine T0 [4] ?_
  exact Sr <|Tr <|Rr
 ·refine Sk <|Tn <|Sq <|?_
  refine Tw [2,3,16] (fun g => ⟨As 36 [(2,.ref 0 0),(3,.ref 1 0),(16,.bool g)],[.box [.sl false (L Ah b.Zs1.Zu),.sl false (L Al b.Zs1.Zv),.sl false (L Aa b.Zt1.Zm1),.sl false (L Af b.Zt1.Zn1),.sl false (L Aj b.Zt1.Zo1),.sl false (L Ai b.Zt1.Zp1),.sl false (L Ag b.Zu1),.sl false (L Ae b.Zv1),.sl false (L Ab b.Zw1)] false,.box [i64 a.Zb,i64 a.Ref.Za,i64 a.Ref.No,i64 a.Ze,i64 a.Zf,i64 a.Zg,i64 a.Zh,i64 a.Zi,i64 a.To,i64 a.Code,i64 a.Zj,i64 a.Zk,i64 a.Zl,i64 a.Zm,.str a.Zn,.sl false (L Ad a.Zo)] false]⟩) ?_ ?_
  ·intro _
   refine Bd fun p i => ?_
   refine Sp (fun d => ?_) fun d => ?_
   ·exact Lf (o1 10 (Pf i)) (Ev (by simp only [go_sem,d];exact Ak)) (ws [0,1])
   ·refine Bd fun q l => ?_
    exact Lf (o2 10 (Pf i) 14 (Tg l)) (Ev (by simp only [go_sem,d];exact Ak)) (ws [0,1])
  intro g
  refine Cd ?_ ?_
  ·refine T0 [4] ?_
   exact Sr <|Tr <|Rr
  ·refine Sk <|Tn <|Bd fun s m =>Te [2,3,5] (o1 19 (O1 m)) Ev ?_
   refine Bd fun t n =>Te [2,3,5,6] (o1 21 (I0 n)) Ev ?_
   refine Tw [4] (fun j => ⟨As 36 [(4,.bool j)],[]⟩) ?_ ?_
   ·intro _
    refine Bd fun u e => ?_
    refine Sp (fun c => ?_) fun c => ?_
    ·refine Sp (fun f => ?_) fun f => ?_
     ·exact Lf (o1 25 (K8 e)) (Ev (by simp only [go_sem,c,f];exact Ak)) (ws [])
     ·exact Lf (o1 25 (K8 e)) (Ev (by simp only [go_sem,c,f];exact Ak)) (ws [])
    ·exact Lf (o1 25 (K8 e)) (Ev (by simp only [go_sem,c];exact Ak)) (ws [])
   intro j
   exact Sr <|Rr
set_option maxRecDepth 4000
theorem R8 (x : UInt64) (n : Nat) : (H0 x n).toNat = x.toNat / 2 ^ n:=by
 show (x.toBitVec >>> n).toNat = _
 rw [BitVec.toNat_ushiftRight,Nat.shiftRight_eq_div_pow];rfl
theorem AfB (x : UInt64) (n : Nat) : (Ms x n).toNat = x.toNat * 2 ^ n % 18446744073709551616:=by
 show (x.toBitVec <<< n).toNat = _
 rw [BitVec.toNat_shiftLeft,Nat.shiftLeft_eq];rfl
theorem Aiq (x : UInt64) : (x &&& 4294967295).toNat = x.toNat % 4294967296:=by
 rw [UInt64.toNat_and]
 exact Nat.and_two_pow_sub_one_eq_mod x.toNat 32
theorem AjU (x : UInt64) : x.toNat < 18446744073709551616:=x.toNat_lt
theorem Uo (x y : UInt64) : (x * y).toNat = x.toNat * y.toNat % 18446744073709551616:=UInt64.toNat_mul x y
theorem Z3 (x y : UInt64) : (x + y).toNat = (x.toNat + y.toNat) % 18446744073709551616:=UInt64.toNat_add x y
theorem ApB {x y : UInt64} (h : x.toNat = y.toNat) : x = y:=UInt64.toNat_inj.1 h
theorem g_32 : ((32 : UInt64)).toNat = 32:=rfl
theorem Ah3 (x y : UInt64) : ∃ r,Kf x y = some r∧r.1.toNat = x.toNat * y.toNat / 18446744073709551616∧r.2.toNat = x.toNat * y.toNat % 18446744073709551616:=by
 obtain ⟨bd,bt,bw,hhi⟩:=Lib.mul64_hi x.toNat y.toNat (AjU x) (AjU y)
 have hx:=AjU x
 have hy:=AjU y
 have ba:=Lib.half_mul_le (a:=x.toNat / 4294967296) (b:=y.toNat / 4294967296) (by omega) (by omega)
 have bb:=Lib.half_mul_le (a:=x.toNat / 4294967296) (b:=y.toNat % 4294967296) (by omega) (by omega)
 have bc:=Lib.half_mul_le (a:=x.toNat % 4294967296) (b:=y.toNat / 4294967296) (by omega) (by omega)
 unfold Kf
 simp only [lt1]
 refine ⟨_,rfl,?_,Uo x y⟩
 rw [← hhi]
 simp only [Z3,Uo,R8,Aiq,g_32,Nat.reducePow]
 generalize x.toNat / 4294967296 * (y.toNat / 4294967296) = a at *
 generalize x.toNat / 4294967296 * (y.toNat % 4294967296) = b at *
 generalize x.toNat % 4294967296 * (y.toNat / 4294967296) = c at *
 generalize x.toNat % 4294967296 * (y.toNat % 4294967296) = d at *
 omega
structure Dig (u w q r : Nat) : Prop where
 eq : u = q * 4294967295 + r
 up : (q + 1) * 18446744073709526392 > u * 4294967296 + w
theorem Yv {u w : Nat} (hu : u < 18446744073709526392) (hw : w < 4294967296) : Dig u w (u / 4294967295) (u % 4294967295):=⟨by omega,by omega⟩
theorem Q7 {a b c : Nat} (h : a = b) (k : b < c) : a < c:=by omega
theorem Aaa {u q r q' r' : Nat} (he : u = q * 4294967295 + r) (hq : 1≤q) (h1 : q' = q - 1) (h2 : r' = r + 4294967295) : u = q' * 4294967295 + r':=by
 have key : ∀ c : Nat,u = q * c + r→r' = r + c→u = q' * c + r':=by
  intro c he h2
  obtain ⟨k,rfl⟩ : ∃ k,q = k + 1:=⟨q - 1,by omega⟩
  have : q' = k:=by omega
  subst this
  rw [he,h2,Nat.add_mul,Nat.one_mul,Nat.add_assoc,Nat.add_comm c r]
 exact key _ he h2
theorem Yq {u w q r q' : Nat} (he : u = q * 4294967295 + r) (hu : u < 18446744073709526392) (hw : w < 4294967296) (h : 4294967296≤q∨4294967296 * r + w < q * 4294942072) (hq : 1≤q) (h1 : q' = q - 1) : (q' + 1) * 18446744073709526392 > u * 4294967296 + w:=by subst h1;omega
theorem X8 {r r' : Nat} (h : r < 4294967296) (h2 : r' = r + 4294967295) : 4294967296 - r' < 4294967296 - r:=by omega
theorem Agk (un32 un1 : UInt64) (hu : un32.toNat < 18446744073709526392) (hw : un1.toNat < 4294967296) :
  ∃ q,A9 (fun (v : UInt64×UInt64) => Ft 4294967295 4294942072 un1 v.1 v.2) ((un32 / 4294967295),(un32 - (un32 / 4294967295) * 4294967295)) = some q∧q.toNat = (un32.toNat * 4294967296 + un1.toNat) / 18446744073709526392:=by
 have hq0 : (un32 / 4294967295).toNat = un32.toNat / 4294967295:=UInt64.toNat_div _ _
 have hr0 : (un32 - (un32 / 4294967295) * 4294967295).toNat = un32.toNat % 4294967295:=by
  have h1 : ((un32 / 4294967295) * 4294967295).toNat = un32.toNat / 4294967295 * 4294967295:=by
   rw [Uo,hq0]
   show un32.toNat / 4294967295 * 4294967295 % _ = _
   omega
  rw [UInt64.toNat_sub_of_le _ _ (UInt64.le_iff_toNat_le.2 (by rw [h1];omega)),h1]
  omega
 have hd:=Yv hu hw
 rw [← hq0,← hr0] at hd
 generalize un32 / 4294967295 = q0 at *
 generalize un32 - q0 * 4294967295 = r0 at *
 refine Fs (fun v => Dig un32.toNat un1.toNat v.1.toNat v.2.toNat∧v.2.toNat < 4294967296) (fun v => 4294967296 - v.2.toNat) _ ?_ ⟨hd,by rw [hr0];omega⟩ (by simp only;omega)
 rintro ⟨q,r⟩ ⟨⟨he,hup⟩,hr⟩
 simp only at he hup hr
 unfold Ft
 have hqb : q.toNat≤4294967297:=by omega
 have m1 : (q * 4294942072).toNat = q.toNat * 4294942072:=by
  rw [Uo];show q.toNat * 4294942072 % _ = _;omega
 have m2 : ((4294967296 : UInt64) * r + un1).toNat = 4294967296 * r.toNat + un1.toNat:=by
  rw [Z3,Uo];show (4294967296 * r.toNat % _ + _) % _ = _;omega
 have m3 : (r + 4294967295).toNat = r.toNat + 4294967295:=by
  rw [Z3];show (r.toNat + 4294967295) % _ = _;omega
 have hb : (q ≥ (4294967296 : UInt64))↔4294967296≤q.toNat:=UInt64.le_iff_toNat_le
 have hg : (q * 4294942072 > (4294967296 : UInt64) * r + un1)↔4294967296 * r.toNat + un1.toNat < q.toNat * 4294942072:=by rw [gt_iff_lt,UInt64.lt_iff_toNat_lt,m1,m2]
 have hh : (r + 4294967295 ≥ (4294967296 : UInt64))↔4294967296≤r.toNat + 4294967295:=by rw [ge_iff_le,UInt64.le_iff_toNat_le,m3];rfl
 have htest : (if (decide (q ≥ (4294967296 : UInt64))) = true then some true else some ((decide ((q * (4294942072 : UInt64)) > (((4294967296 : UInt64) * r) + un1)))) : Option Bool) = some (decide (4294967296≤q.toNat∨4294967296 * r.toNat + un1.toNat < q.toNat * 4294942072)):=by
  by_cases h1 : 4294967296≤q.toNat
  ·rw [if_pos (decide_eq_true (hb.2 h1))];simp [h1]
  ·rw [if_neg (by simp only [decide_eq_true_eq];exact fun e => h1 (hb.1 e))];simp [h1,hg]
 rw [htest,Option.bind_some]
 by_cases ht : 4294967296≤q.toNat∨4294967296 * r.toNat + un1.toNat < q.toNat * 4294942072
 ·have hs : (q - 1).toNat = q.toNat - 1:=by
   rw [UInt64.toNat_sub_of_le _ _ (UInt64.le_iff_toNat_le.2 (by show 1≤q.toNat;omega))];rfl
  rw [if_pos (decide_eq_true ht)]
  by_cases h2 : 4294967296≤r.toNat + 4294967295
  ·right
   rw [if_pos (decide_eq_true (hh.2 h2))]
   refine ⟨_,rfl,?_⟩
   rw [hs]
   omega
  ·left
   rw [if_neg (by simp only [decide_eq_true_eq];exact fun e => h2 (hh.1 e))]
   refine ⟨_,rfl,⟨⟨?_,?_⟩,?_⟩,?_⟩
   ·show un32.toNat = (q - 1).toNat * 4294967295 + (r + 4294967295).toNat
    exact Aaa he (by omega) hs m3
   ·show ((q - 1).toNat + 1) * 18446744073709526392 > un32.toNat * 4294967296 + un1.toNat
    exact Yq he hu hw ht (by omega) hs
   ·exact Q7 m3 (Nat.lt_of_not_le h2)
   ·exact X8 hr m3
 ·right
  rw [if_neg (by simp only [decide_eq_true_eq];exact ht)]
  refine ⟨_,rfl,?_⟩
  show q.toNat = _
  omega
theorem AeV (un32 un1 : UInt64) (hu : un32.toNat < 18446744073709526392) (hw : un1.toNat < 4294967296) :
  ∃ q,A9 (fun (v : UInt64×UInt64) => Fu 4294967295 4294942072 un1 v.1 v.2) ((un32 - (un32 / 4294967295) * 4294967295),(un32 / 4294967295)) = some q∧q.toNat = (un32.toNat * 4294967296 + un1.toNat) / 18446744073709526392:=by
 have hq0 : (un32 / 4294967295).toNat = un32.toNat / 4294967295:=UInt64.toNat_div _ _
 have hr0 : (un32 - (un32 / 4294967295) * 4294967295).toNat = un32.toNat % 4294967295:=by
  have h1 : ((un32 / 4294967295) * 4294967295).toNat = un32.toNat / 4294967295 * 4294967295:=by
   rw [Uo,hq0]
   show un32.toNat / 4294967295 * 4294967295 % _ = _
   omega
  rw [UInt64.toNat_sub_of_le _ _ (UInt64.le_iff_toNat_le.2 (by rw [h1];omega)),h1]
  omega
 have hd:=Yv hu hw
 rw [← hq0,← hr0] at hd
 generalize un32 / 4294967295 = q0 at *
 generalize un32 - q0 * 4294967295 = r0 at *
 refine Fs (fun v => Dig un32.toNat un1.toNat v.2.toNat v.1.toNat∧v.1.toNat < 4294967296) (fun v => 4294967296 - v.1.toNat) _ ?_ ⟨hd,by rw [hr0];omega⟩ (by simp only;omega)
 rintro ⟨r,q⟩ ⟨⟨he,hup⟩,hr⟩
 simp only at he hup hr
 unfold Fu
 have hqb : q.toNat≤4294967297:=by omega
 have m1 : (q * 4294942072).toNat = q.toNat * 4294942072:=by
  rw [Uo];show q.toNat * 4294942072 % _ = _;omega
 have m2 : ((4294967296 : UInt64) * r + un1).toNat = 4294967296 * r.toNat + un1.toNat:=by
  rw [Z3,Uo];show (4294967296 * r.toNat % _ + _) % _ = _;omega
 have m3 : (r + 4294967295).toNat = r.toNat + 4294967295:=by
  rw [Z3];show (r.toNat + 4294967295) % _ = _;omega
 have hb : (q ≥ (4294967296 : UInt64))↔4294967296≤q.toNat:=UInt64.le_iff_toNat_le
 have hg : (q * 4294942072 > (4294967296 : UInt64) * r + un1)↔4294967296 * r.toNat + un1.toNat < q.toNat * 4294942072:=by rw [gt_iff_lt,UInt64.lt_iff_toNat_lt,m1,m2]
 have hh : (r + 4294967295 ≥ (4294967296 : UInt64))↔4294967296≤r.toNat + 4294967295:=by rw [ge_iff_le,UInt64.le_iff_toNat_le,m3];rfl
 have htest : (if (decide (q ≥ (4294967296 : UInt64))) = true then some true else some ((decide ((q * (4294942072 : UInt64)) > (((4294967296 : UInt64) * r) + un1)))) : Option Bool) = some (decide (4294967296≤q.toNat∨4294967296 * r.toNat + un1.toNat < q.toNat * 4294942072)):=by
  by_cases h1 : 4294967296≤q.toNat
  ·rw [if_pos (decide_eq_true (hb.2 h1))];simp [h1]
  ·rw [if_neg (by simp only [decide_eq_true_eq];exact fun e => h1 (hb.1 e))];simp [h1,hg]
 rw [htest,Option.bind_some]
 by_cases ht : 4294967296≤q.toNat∨4294967296 * r.toNat + un1.toNat < q.toNat * 4294942072
 ·have hs : (q - 1).toNat = q.toNat - 1:=by
   rw [UInt64.toNat_sub_of_le _ _ (UInt64.le_iff_toNat_le.2 (by show 1≤q.toNat;omega))];rfl
  rw [if_pos (decide_eq_true ht)]
  by_cases h2 : 4294967296≤r.toNat + 4294967295
  ·right
   rw [if_pos (decide_eq_true (hh.2 h2))]
   refine ⟨_,rfl,?_⟩
   rw [hs]
   omega
  ·left
   rw [if_neg (by simp only [decide_eq_true_eq];exact fun e => h2 (hh.1 e))]
   refine ⟨_,rfl,⟨⟨?_,?_⟩,?_⟩,?_⟩
   ·show un32.toNat = (q - 1).toNat * 4294967295 + (r + 4294967295).toNat
    exact Aaa he (by omega) hs m3
   ·show ((q - 1).toNat + 1) * 18446744073709526392 > un32.toNat * 4294967296 + un1.toNat
    exact Yq he hu hw ht (by omega) hs
   ·exact Q7 m3 (Nat.lt_of_not_le h2)
   ·exact X8 hr m3
 ·right
  rw [if_neg (by simp only [decide_eq_true_eq];exact ht)]
  refine ⟨_,rfl,?_⟩
  show q.toNat = _
  omega
theorem lz_P : Du 2305843009213690799 = some 3:=by decide +kernel
theorem y8 : Ms 2305843009213690799 3 = 18446744073709526392:=by decide +kernel
theorem Ar1 : H0 18446744073709526392 ((32 : UInt64)).toNat = 4294967295:=by decide +kernel
theorem ArI : (18446744073709526392 : UInt64) &&& 4294967295 = 4294942072:=by decide +kernel
theorem s3 : (UInt64.ofInt 3).toNat = 3:=by decide +kernel
theorem s61 : ((64 : UInt64) - UInt64.ofInt 3).toNat = 61:=by decide +kernel
theorem Amc (a b : UInt64) (ha : a.toNat % 8 = 0) (hb : b.toNat < 8) : (a ||| b).toNat = a.toNat + b.toNat:=by
 rw [UInt64.toNat_or]
 have e : a.toNat = (a.toNat / 8) <<< 3:=by rw [Nat.shiftLeft_eq];omega
 rw [e,← Nat.shiftLeft_add_eq_or_of_lt (by simpa using hb)]
theorem Ajp (u w q : UInt64) (v : Nat) (hv : v = 18446744073709526392) (hq : q.toNat = (u.toNat * 4294967296 + w.toNat) / v) : (u * 4294967296 + w - q * 18446744073709526392).toNat = (u.toNat * 4294967296 + w.toNat) % v:=by
 have h1 : (u * 4294967296 + w).toNat = (u.toNat * 4294967296 + w.toNat) % 18446744073709551616:=by
  rw [Z3,Uo]
  show (u.toNat * 4294967296 % 18446744073709551616 + w.toNat) % 18446744073709551616 = _
  rw [Nat.mod_add_mod]
 have h2 : (q * 18446744073709526392).toNat = (q.toNat * v) % 18446744073709551616:=by rw [Uo,hv];rfl
 rw [UInt64.toNat_sub,h1,h2,hq]
 have h3:=Nat.div_add_mod (u.toNat * 4294967296 + w.toNat) v
 have h4 : (u.toNat * 4294967296 + w.toNat) % v < 18446744073709551616:=Nat.lt_of_lt_of_le (Nat.mod_lt _ (by omega)) (by omega)
 generalize u.toNat * 4294967296 + w.toNat = U at *
 generalize hr : U % v = r at *
 rw [Nat.mul_comm v] at h3
 generalize U / v * v = z at *
 subst h3
 show (18446744073709551616 - z % 18446744073709551616 + (z + r) % 18446744073709551616) % 18446744073709551616 = r
 omega
theorem mod8 (N P m : Nat) (h : m = 8 * P) : 8 * N % m / 8 = N % P:=by subst h;rw [Nat.mul_mod_mul_left,Nat.mul_div_cancel_left _ (by omega)]
theorem Aia (a b c m : Nat) : (a % m * c + b) % m = (a * c + b) % m:=by
 rw [Nat.add_mod,Nat.mul_mod,Nat.mod_mod,← Nat.mul_mod,← Nat.add_mod]
theorem Ajk (hi lo : Nat) (hlo : lo < 18446744073709551616) : ((hi * 8 + lo / 2305843009213693952) * 4294967296 + lo * 8 % 18446744073709551616 / 4294967296) * 4294967296 + lo * 8 % 18446744073709551616 % 4294967296 = 8 * (hi * 18446744073709551616 + lo):=by omega
theorem Aed (hi lo m P : Nat) (hm : m = 8 * P) (hlo : lo < 18446744073709551616) : (((hi * 8 + lo / 2305843009213693952) * 4294967296 + lo * 8 % 18446744073709551616 / 4294967296) % m * 4294967296 + lo * 8 % 18446744073709551616 % 4294967296) % m / 8 = (hi * 18446744073709551616 + lo) % P:=by
 rw [Aia,Ajk hi lo hlo]
 exact mod8 _ _ _ hm
theorem Ch {α β : Type} (x : α) (f : α→Option β) : lt1 x f = f x:=of_eq_true (eq_self (f x))
theorem Ag6 (n1 n0 un32 un1 : UInt64) (h1 : n1 = 4294967295) (h0 : n0 = 4294942072) (hu : un32.toNat < 18446744073709526392) (hw : un1.toNat < 4294967296) :
  ∃ q,A9 (fun (v : UInt64×UInt64) => Ft n1 n0 un1 v.1 v.2) ((un32 / n1),(un32 - (un32 / n1) * n1)) = some q∧q.toNat = (un32.toNat * 4294967296 + un1.toNat) / 18446744073709526392:=by
 subst h1 h0;exact Agk un32 un1 hu hw
theorem Ah0 (n1 n0 un32 un1 : UInt64) (h1 : n1 = 4294967295) (h0 : n0 = 4294942072) (hu : un32.toNat < 18446744073709526392) (hw : un1.toNat < 4294967296) :
  ∃ q,A9 (fun (v : UInt64×UInt64) => Fu n1 n0 un1 v.1 v.2) ((un32 - (un32 / n1) * n1),(un32 / n1)) = some q∧q.toNat = (un32.toNat * 4294967296 + un1.toNat) / 18446744073709526392:=by
 subst h1 h0;exact AeV un32 un1 hu hw
theorem AfJ (u w q v8 : UInt64) (h8 : v8 = 18446744073709526392) (hq : q.toNat = (u.toNat * 4294967296 + w.toNat) / 18446744073709526392) : (u * 4294967296 + w - q * v8).toNat = (u.toNat * 4294967296 + w.toNat) % 18446744073709526392:=by
 subst h8;exact Ajp u w q _ rfl hq
theorem Ahb (hi lo y : UInt64) (hy : y = 2305843009213690799) (h : hi.toNat < 2305843009213690799) : ∃ r,Ik hi lo y = some r∧r.2.toNat = (hi.toNat * 18446744073709551616 + lo.toNat) % 2305843009213690799:=by
 have hP : y.toNat = 2305843009213690799:=by rw [hy];rfl
 have hlo:=AjU lo
 have hy0 : ¬ y = 0:=by rw [hy];decide
 have hlz : Du y = some 3:=by rw [hy];exact lz_P
 obtain ⟨v8,hv8⟩ : ∃ v8,v8 = Ms y 3:=⟨_,rfl⟩
 obtain ⟨n1,hn1⟩ : ∃ n1,n1 = H0 v8 ((32 : UInt64)).toNat:=⟨_,rfl⟩
 obtain ⟨n0,hn0⟩ : ∃ n0,n0 = v8 &&& 4294967295:=⟨_,rfl⟩
 have e8 : v8 = 18446744073709526392:=by rw [hv8,hy];exact y8
 have e1 : n1 = 4294967295:=by rw [hn1,e8];exact Ar1
 have e0 : n0 = 4294942072:=by rw [hn0,e8];exact ArI
 have hn1z : ¬ n1 = 0:=by rw [e1];decide
 unfold Ik
 rw [if_neg (by simpa using hy0),if_neg (by simp only [decide_eq_true_eq,UInt64.le_iff_toNat_le,hP];omega)]
 by_cases h0 : hi = 0
 ·subst h0
  rw [if_pos (by decide),if_pos hy0,if_pos hy0]
  refine ⟨_,rfl,?_⟩
  show (lo % y).toNat = _
  rw [UInt64.toNat_mod,hP]
  simp
 ·rw [if_neg (by simpa using h0),hlz,Option.bind_some]
  simp only [Ch,s3,s61]
  rw [← hv8,← hn1,← hn0]
  clear hv8 hn1 hn0 hlz hy
  have a1 : (Ms hi 3).toNat = hi.toNat * 8:=by rw [AfB];omega
  have a2 : (H0 lo 61).toNat = lo.toNat / 2305843009213693952:=R8 lo 61
  have a3 : (Ms hi 3 ||| H0 lo 61).toNat = hi.toNat * 8 + lo.toNat / 2305843009213693952:=by rw [Amc _ _ (by omega) (by omega),a1,a2]
  have a4 : (Ms lo 3).toNat = lo.toNat * 8 % 18446744073709551616:=AfB lo 3
  have a5 : (H0 (Ms lo 3) ((32 : UInt64)).toNat).toNat = lo.toNat * 8 % 18446744073709551616 / 4294967296:=by rw [R8,a4];rfl
  have a6 : (Ms lo 3 &&& 4294967295).toNat = lo.toNat * 8 % 18446744073709551616 % 4294967296:=by rw [Aiq,a4]
  generalize Ms hi 3 ||| H0 lo 61 = un32 at *
  generalize H0 (Ms lo 3) ((32 : UInt64)).toNat = un1 at *
  generalize Ms lo 3 &&& 4294967295 = un0 at *
  obtain ⟨q1,hq1,f1⟩:=Ag6 n1 n0 un32 un1 e1 e0 (by omega) (by omega)
  have r1:=AfJ un32 un1 q1 v8 e8 f1
  rw [if_pos hn1z,hq1]
  simp only [Option.bind_some]
  generalize un32 * 4294967296 + un1 - q1 * v8 = un21 at *
  obtain ⟨q0,hq0,f0⟩:=Ah0 n1 n0 un21 un0 e1 e0 (by omega) (by omega)
  have r0:=AfJ un21 un0 q0 v8 e8 f0
  rw [if_pos hn1z,hq0]
  simp only [Option.bind_some]
  refine ⟨_,rfl,?_⟩
  show (H0 (un21 * 4294967296 + un0 - q0 * v8) 3).toNat = _
  rw [R8,r0,r1,a3,a5,a6]
  exact Aed hi.toNat lo.toNat _ _ (by decide) hlo
theorem AiH (hi lo : UInt64) (h : hi.toNat < 2305843009213690799) : ∃ r,Ik hi lo 2305843009213690799 = some r∧r.2.toNat = (hi.toNat * 18446744073709551616 + lo.toNat) % 2305843009213690799:=Ahb hi lo _ rfl h
abbrev PN : Nat:=2305843009213690799
theorem Yb (a b : UInt64) : ∃ r,Fq a b 2305843009213690799 = some (r,2305843009213690799)∧r.toNat = a.toNat * b.toNat % PN:=by
 have hP : ((2305843009213690799 : UInt64)).toNat = 2305843009213690799:=rfl
 unfold Fq
 obtain ⟨⟨hi,lo⟩,hm,h1,h2⟩:=Ah3 (a % 2305843009213690799) (b % 2305843009213690799)
 rw [if_pos (by decide),if_pos (by decide),hm,Option.bind_some]
 simp only at h1 h2 ⊢
 rw [UInt64.toNat_mod,UInt64.toNat_mod,hP] at h1 h2
 have ha : a.toNat % 2305843009213690799 < 2305843009213690799:=Nat.mod_lt _ (by omega)
 have hb : b.toNat % 2305843009213690799 < 2305843009213690799:=Nat.mod_lt _ (by omega)
 have hab : a.toNat % 2305843009213690799 * (b.toNat % 2305843009213690799) < 2305843009213690799 * 2305843009213690799:=Nat.mul_lt_mul'' ha hb
 have hhi : hi.toNat < 2305843009213690799:=by
  rw [h1]
  generalize a.toNat % 2305843009213690799 * (b.toNat % 2305843009213690799) = z at *
  omega
 obtain ⟨⟨q,r⟩,hd,hr⟩:=AiH hi lo hhi
 rw [hd,Option.bind_some]
 refine ⟨r,rfl,?_⟩
 simp only at hr
 rw [hr,h1,h2,Nat.div_add_mod',← Nat.mul_mod]
theorem Gf {k : Nat} (h : k < 9223372036854775807) : w64 ((k : Int) + 1) = ((k + 1 : Nat) : Int):=by rw [G6 (by omega)];rfl
theorem Aow (b k P : Nat) : (b ^ k % P) * (b ^ k % P) % P = b ^ (2 * k) % P:=by rw [← Nat.mul_mod,← Nat.pow_add,Nat.two_mul]
theorem AhJ (b k P : Nat) : (b ^ k % P) * b % P = b ^ (k + 1) % P:=by rw [Nat.mod_mul_mod,Nat.pow_succ]
theorem Ahr (n e : Nat) : n / 2 ^ e = 2 * (n / 2 ^ (e + 1)) + n / 2 ^ e % 2:=by
 rw [Nat.pow_succ,← Nat.div_div_eq_div_mul];omega
theorem ArK (x : UInt64) : ((x &&& 1) == 1) = decide (x.toNat % 2 = 1):=by
 have h : (x &&& 1).toNat = x.toNat % 2:=by rw [UInt64.toNat_and];exact Nat.and_two_pow_sub_one_eq_mod x.toNat 1
 rw [Bool.eq_iff_iff,beq_iff_eq,decide_eq_true_eq,← h]
 exact ⟨fun e => by rw [e];rfl,fun e => ApB e⟩
theorem Ah8 (b n out : UInt64) (len i : Nat) (hl : Gj n = some (len : Int)) (h64 : len≤64) (hi : i < len) (ho : out.toNat = b.toNat ^ (n.toNat / 2 ^ (len - i)) % PN) :
  ∃ o,Gg b n (len : Int) out (i : Int) 2305843009213690799 = some (.inl (o,((i + 1 : Nat) : Int),2305843009213690799))∧o.toNat = b.toNat ^ (n.toNat / 2 ^ (len - (i + 1))) % PN:=by
 unfold Gg
 rw [if_pos (by simp;omega)]
 obtain ⟨r,hr,er⟩:=Yb out out
 rw [hr,Option.bind_some,hl,Option.bind_some]
 have e1 : w64 (w64 ((len : Int) - 1) - (i : Int)) = ((len - 1 - i : Nat) : Int):=by
  rw [G6 (x:=(len : Int) - 1) (by omega),G6 (by omega)];omega
 rw [e1,if_pos (by unfold Yh;omega)]
 simp only [Ch,Int.toNat_natCast,ArK,R8]
 have hk:=Ahr n.toNat (len - 1 - i)
 rw [show len - 1 - i + 1 = len - i by omega] at hk
 rw [show len - (i + 1) = len - 1 - i by omega]
 rw [ho,Aow] at er
 by_cases hb : n.toNat / 2 ^ (len - 1 - i) % 2 = 1
 ·rw [if_pos (decide_eq_true hb)]
  obtain ⟨q,hq,eq⟩:=Yb r b
  rw [hq]
  simp only [Option.bind_some]
  refine ⟨q,by rw [Gf (by omega)],?_⟩
  rw [eq,er,AhJ,hk,hb]
 ·rw [if_neg (by simpa using hb)]
  simp only [Option.bind_some]
  refine ⟨r,by rw [Gf (by omega)],?_⟩
  rw [er,hk,show n.toNat / 2 ^ (len - 1 - i) % 2 = 0 by omega,Nat.add_zero]
theorem Amu (b n : UInt64) (len : Nat) (hl : Gj n = some (len : Int)) (hn : n.toNat < 2 ^ len) (h64 : len≤64) : ∃ r,O7 b n = some r∧r.toNat = b.toNat ^ n.toNat % PN:=by
 unfold O7 K3
 rw [Option.bind_some,hl,Option.bind_some]
 obtain ⟨x,hx,hq⟩ : ∃ x,A9 (fun (v : UInt64×Int×UInt64) => Gg b n (len : Int) v.1 v.2.1 v.2.2) ((1 : UInt64),0,(2305843009213690799 : UInt64)) = some x∧x.toNat = b.toNat ^ n.toNat % PN:=by
  refine Aac len (fun k v => ∃ o : UInt64,v = (o,(k : Int),(2305843009213690799 : UInt64))∧o.toNat = b.toNat ^ (n.toNat / 2 ^ (len - k)) % PN) _ (by omega) ?_ ?_ ⟨1,rfl,?_⟩
  ·rintro k v hk ⟨o,rfl,ho⟩
   obtain ⟨o',h1,h2⟩:=Ah8 b n o len k hl h64 hk ho
   exact ⟨_,h1,o',rfl,h2⟩
  ·rintro v ⟨o,rfl,ho⟩
   refine ⟨o,?_,by rw [ho,Nat.sub_self,Nat.pow_zero,Nat.div_one]⟩
   simp only
   unfold Gg
   rw [if_neg (by simp)]
  ·rw [Nat.sub_zero,Nat.div_eq_of_lt hn,Nat.pow_zero];decide
 rw [hx]
 exact ⟨x,rfl,hq⟩
theorem Ac5 (a b : UInt64) (ha : a.toNat < PN) : ∃ r,Ka a b 2305843009213690799 = some r∧r.toNat = a.toNat * b.toNat % PN:=by
 have hP : ((2305843009213690799 : UInt64)).toNat = 2305843009213690799:=rfl
 unfold Ka
 obtain ⟨x,hx,hq⟩ : ∃ x,A9 (fun (v : UInt64×UInt64×UInt64) => Hu 2305843009213690799 v.1 v.2.1 v.2.2) (a,b,(0 : UInt64)) = some x∧x.toNat = a.toNat * b.toNat % PN:=by
  refine Fs (fun v => v.1.toNat < PN∧v.2.2.toNat < PN∧(v.2.2.toNat + v.1.toNat * v.2.1.toNat) % PN = a.toNat * b.toNat % PN) (fun v => v.2.1.toNat) _ ?_ ⟨ha,by show (0 : UInt64).toNat < PN;decide,by show (0 + _) % _ = _;rw [Nat.zero_add]⟩ (by have:=AjU b;simp only;omega)
  rintro ⟨a1,b1,o1⟩ ⟨h1,h2,h3⟩
  simp only at h1 h2 h3
  have hPN : PN = 2305843009213690799:=rfl
  unfold Hu
  have hz : (b1 > (0 : UInt64))↔0 < b1.toNat:=by rw [gt_iff_lt,UInt64.lt_iff_toNat_lt];rfl
  have hpz : ¬ (2305843009213690799 : UInt64) = 0:=by decide
  by_cases hb : 0 < b1.toNat
  ·left
   rw [if_pos (decide_eq_true (hz.2 hb))]
   have hodd : ((b1 % (2 : UInt64)) == (1 : UInt64)) = decide (b1.toNat % 2 = 1):=by
    rw [Bool.eq_iff_iff,beq_iff_eq,decide_eq_true_eq]
    have : (b1 % (2 : UInt64)).toNat = b1.toNat % 2:=UInt64.toNat_mod _ _
    rw [← this]
    exact ⟨fun e => by rw [e];rfl,fun e => ApB e⟩
   have ho : ((o1 + a1) % 2305843009213690799).toNat = (o1.toNat + a1.toNat) % PN:=by
    rw [UInt64.toNat_mod,Z3,hP,Nat.mod_eq_of_lt (a:=o1.toNat + a1.toNat) (by omega)]
   have hd : ((a1 + a1) % 2305843009213690799).toNat = (a1.toNat + a1.toNat) % PN:=by
    rw [UInt64.toNat_mod,Z3,hP,Nat.mod_eq_of_lt (a:=a1.toNat + a1.toNat) (by omega)]
   have hh : (b1 / 2).toNat = b1.toNat / 2:=UInt64.toNat_div _ _
   have hlt : ∀ x : Nat,x % PN < PN:=fun x => Nat.mod_lt _ (by decide)
   simp only [hodd,Ch,if_pos hpz]
   by_cases hp : b1.toNat % 2 = 1
   ·rw [if_pos (decide_eq_true hp)]
    refine ⟨_,rfl,⟨?_,?_,?_⟩,?_⟩
    ·show ((a1 + a1) % 2305843009213690799).toNat < PN
     rw [hd];exact hlt _
    ·show ((o1 + a1) % 2305843009213690799).toNat < PN
     rw [ho];exact hlt _
    ·show (((o1 + a1) % 2305843009213690799).toNat + ((a1 + a1) % 2305843009213690799).toNat * (b1 / 2).toNat) % PN = _
     rw [ho,hd,hh,← h3,Nat.add_mod,Nat.mod_mod,Nat.mod_mul_mod,← Nat.add_mod]
     congr 1
     have e : b1.toNat = 2 * (b1.toNat / 2) + 1:=by omega
     generalize b1.toNat / 2 = c at *
     rw [e,Nat.mul_add,Nat.mul_one,← Nat.mul_assoc,Nat.mul_two]
     omega
    ·show (b1 / 2).toNat < b1.toNat
     rw [hh];omega
   ·rw [if_neg (by simpa using hp)]
    refine ⟨_,rfl,⟨?_,h2,?_⟩,?_⟩
    ·show ((a1 + a1) % 2305843009213690799).toNat < PN
     rw [hd];exact hlt _
    ·show (o1.toNat + ((a1 + a1) % 2305843009213690799).toNat * (b1 / 2).toNat) % PN = _
     rw [hd,hh,← h3,Nat.add_mod,Nat.mod_mul_mod,← Nat.add_mod]
     congr 1
     have e : b1.toNat = 2 * (b1.toNat / 2):=by omega
     generalize b1.toNat / 2 = c at *
     rw [e,← Nat.mul_assoc,Nat.mul_two]
    ·show (b1 / 2).toNat < b1.toNat
     rw [hh];omega
  ·right
   rw [if_neg (by simp only [decide_eq_true_eq];exact fun e => hb (hz.1 e))]
   refine ⟨_,rfl,?_⟩
   have : b1.toNat = 0:=by omega
   rw [this,Nat.mul_zero,Nat.add_zero,Nat.mod_eq_of_lt h2] at h3
   exact h3
 rw [hx]
 exact ⟨x,rfl,hq⟩
theorem AiI (b n : UInt64) : ∃ r,Tb b n = some r∧r.toNat = b.toNat ^ n.toNat % PN:=by
 have hP : ((2305843009213690799 : UInt64)).toNat = 2305843009213690799:=rfl
 have hlt : ∀ x : Nat,x % PN < PN:=fun x => Nat.mod_lt _ (by decide)
 unfold Tb
 rw [Ch]
 obtain ⟨x,hx,hq⟩ : ∃ x,A9 (fun (v : UInt64×UInt64×UInt64) => Kc v.1 v.2.1 v.2.2) ((b % 2305843009213690799),n,(1 : UInt64)) = some x∧x.toNat = b.toNat ^ n.toNat % PN:=by
  refine Fs (fun v => v.1.toNat < PN∧v.2.2.toNat < PN∧(v.2.2.toNat * v.1.toNat ^ v.2.1.toNat) % PN = b.toNat ^ n.toNat % PN) (fun v => v.2.1.toNat) _ ?_ ⟨?_,by show (1 : UInt64).toNat < PN;decide,?_⟩ (by have:=AjU n;simp only;omega)
  ·rintro ⟨b1,n1,o1⟩ ⟨h1,h2,h3⟩
   simp only at h1 h2 h3
   unfold Kc
   have hz : (n1 > (0 : UInt64))↔0 < n1.toNat:=by rw [gt_iff_lt,UInt64.lt_iff_toNat_lt];rfl
   by_cases hb : 0 < n1.toNat
   ·left
    rw [if_pos (decide_eq_true (hz.2 hb))]
    have hodd : ((n1 % (2 : UInt64)) == (1 : UInt64)) = decide (n1.toNat % 2 = 1):=by
     rw [Bool.eq_iff_iff,beq_iff_eq,decide_eq_true_eq]
     have : (n1 % (2 : UInt64)).toNat = n1.toNat % 2:=UInt64.toNat_mod _ _
     rw [← this]
     exact ⟨fun e => by rw [e];rfl,fun e => ApB e⟩
    obtain ⟨s,hs,es⟩:=Ac5 b1 b1 h1
    obtain ⟨t,ht,et⟩:=Ac5 o1 b1 h2
    have hh : (n1 / 2).toNat = n1.toNat / 2:=UInt64.toNat_div _ _
    simp only [hodd,hs,ht,Option.bind_some]
    have hsq : ∀ k : Nat,(b1.toNat * b1.toNat % PN) ^ k % PN = b1.toNat ^ (2 * k) % PN:=fun k => by
     rw [← Nat.pow_mod,← Nat.pow_two,← Nat.pow_mul]
    by_cases hp : n1.toNat % 2 = 1
    ·rw [if_pos (decide_eq_true hp)]
     refine ⟨_,rfl,⟨?_,?_,?_⟩,?_⟩
     ·show s.toNat < PN
      rw [es];exact hlt _
     ·show t.toNat < PN
      rw [et];exact hlt _
     ·show (t.toNat * s.toNat ^ (n1 / 2).toNat) % PN = _
      rw [et,es,hh,← h3,Nat.mul_mod,Nat.mod_mod,hsq,← Nat.mul_mod]
      have e : n1.toNat = 2 * (n1.toNat / 2) + 1:=by omega
      generalize n1.toNat / 2 = c at *
      rw [e,Nat.pow_succ,Nat.mul_assoc,Nat.mul_comm b1.toNat]
     ·show (n1 / 2).toNat < n1.toNat
      rw [hh];omega
    ·rw [if_neg (by simpa using hp)]
     refine ⟨_,rfl,⟨?_,h2,?_⟩,?_⟩
     ·show s.toNat < PN
      rw [es];exact hlt _
     ·show (o1.toNat * s.toNat ^ (n1 / 2).toNat) % PN = _
      rw [es,hh,← h3,Nat.mul_mod,hsq,← Nat.mul_mod]
      have e : n1.toNat = 2 * (n1.toNat / 2):=by omega
      generalize n1.toNat / 2 = c at *
      rw [e]
     ·show (n1 / 2).toNat < n1.toNat
      rw [hh];omega
   ·right
    rw [if_neg (by simp only [decide_eq_true_eq];exact fun e => hb (hz.1 e))]
    refine ⟨_,rfl,?_⟩
    have : n1.toNat = 0:=by omega
    rw [this,Nat.pow_zero,Nat.mul_one,Nat.mod_eq_of_lt h2] at h3
    exact h3
  ·show (b % 2305843009213690799).toNat < PN
   rw [UInt64.toNat_mod,hP];exact hlt _
  ·show (1 * (b % 2305843009213690799).toNat ^ n.toNat) % PN = _
   rw [Nat.one_mul,UInt64.toNat_mod,hP,← Nat.pow_mod]
 rw [hx]
 exact ⟨x,rfl,hq⟩
theorem Aqx : Gj 1152921504606845399 = some ((60 : Nat) : Int):=by decide +kernel
theorem Acq (x : UInt64) : ∃ b,Ii x = some b∧I3 x = some b:=by
 unfold Ii I3
 obtain ⟨r,hr,er⟩:=Amu x 1152921504606845399 60 Aqx (by decide) (by omega)
 obtain ⟨s,hs,es⟩:=AiI x 1152921504606845399
 have e : r = s:=ApB (er.trans es.symm)
 subst e
 rw [hr,hs]
 by_cases h1 : decide (x ≥ 2) = true
 ·rw [if_pos h1]
  by_cases h2 : decide (x < 2305843009213690799) = true
  ·rw [if_pos h2];exact ⟨_,rfl,rfl⟩
  ·rw [if_neg h2];exact ⟨_,rfl,rfl⟩
 ·rw [if_neg h1];exact ⟨_,rfl,rfl⟩
theorem Nn (b c : Bool) : (if b = true then some true else some c) = some (b || c):=by cases b <;> rfl
theorem E4 (b c : Bool) : (if b = true then some c else some false) = some (b && c):=by cases b <;> rfl
theorem Aw {α β : Type} (x : α) (f : α→Option β) : (some x).bind f = f x:=of_eq_true (eq_self (f x))
theorem Ue {α : Type} (b : Bool) (x y : α) : (if b = true then some x else some y) = some (if b = true then x else y):=by cases b <;> rfl
theorem AbU (n lo hi : Int) : A5 n lo hi = some (decide (lo≤n) && decide (n≤hi)):=by
 unfold A5;by_cases h : lo≤n <;> simp [h]
theorem Afv (n lo hi : Int) : Dg n lo hi = some (decide (lo≤n) && decide (n≤hi)):=by
 unfold Dg;by_cases h : lo≤n <;> simp [h]
theorem Yf (n lo hi : Int) : Bj n lo hi = some (decide (lo≤n) && decide (n≤hi)):=by
 unfold Bj;by_cases h : lo≤n <;> simp [h]
theorem Dy {α X : Type} [Inhabited α] (l : List α) (f : Int→Option (Int ⊕ X)) (p : α→Bool) (good bad : X) (hl : l.length < 1152921504606846976)
  (hs : ∀ k : Nat,k < l.length→f (k : Int) = some (if p (nth l k) = true then .inl ((k + 1 : Nat) : Int) else .inr bad)) (he : f (l.length : Int) = some (.inr good)) :
  A9 (fun v => f v) 0 = some (if l.all p = true then good else bad):=by
 obtain ⟨x,hx,hq⟩ : ∃ x,A9 (fun v => f v) 0 = some x∧x = (if l.all p = true then good else bad):=by
  refine Fs (fun v => ∃ k : Nat,v = (k : Int)∧k≤l.length∧(l.take k).all p = true) (fun v => (l.length - v).toNat) _ ?_ ⟨0,rfl,Nat.zero_le _,rfl⟩ (by simp;omega)
  rintro v ⟨k,rfl,hk,ht⟩
  by_cases h1 : k < l.length
  ·have hn : nth l k = l[k]:=by simp [nth,h1]
   rw [hs k h1]
   by_cases hp : p (nth l k) = true
   ·left
    refine ⟨_,by rw [if_pos hp],⟨k + 1,rfl,by omega,?_⟩,by omega⟩
    rw [List.take_succ_eq_append_getElem h1,List.all_append,ht,← hn]
    simp [hp]
   ·right
    refine ⟨_,by rw [if_neg hp],?_⟩
    rw [if_neg]
    intro ha
    rw [List.all_eq_true] at ha
    exact hp (by rw [hn];exact ha _ (List.getElem_mem h1))
  ·right
   have : k = l.length:=by omega
   subst this
   rw [List.take_length] at ht
   exact ⟨_,he,by rw [if_pos ht]⟩
 rw [hx,hq]
theorem Ex {α V X S : Type} [Inhabited α] (l : List α) (f : V→Option (V ⊕ X)) (st : Int→S→V) (g : S→α→S) (out : S→X) (s0 : S) (hl : l.length < 1152921504606846976)
  (hs : ∀ (k : Nat) (s : S),k < l.length→f (st (k : Int) s) = some (.inl (st ((k + 1 : Nat) : Int) (g s (nth l k))))) (he : ∀ s,f (st (l.length : Int) s) = some (.inr (out s))) :
  A9 f (st 0 s0) = some (out (l.foldl g s0)):=by
 obtain ⟨x,hx,hq⟩ : ∃ x,A9 f (st 0 s0) = some x∧x = out (l.foldl g s0):=by
  refine Aac l.length (fun k v => v = st (k : Int) ((l.take k).foldl g s0)) _ (by omega) ?_ ?_ rfl
  ·rintro k v hk rfl
   refine ⟨_,hs k _ hk,?_⟩
   rw [List.take_succ_eq_append_getElem hk,List.foldl_append]
   simp [nth,hk]
  ·rintro v rfl
   exact ⟨_,he _,by rw [List.take_length]⟩
 rw [hx,hq]
theorem J0 {α : Type} (q : α→Bool) (l : List α) : ∀ b : Bool,l.foldl (fun b x => b || q x) b = (b || l.any q):=by
  induction l with
  | nil => intro b;simp
  | cons x l ih => intro b;simp [ih,Bool.or_assoc]
theorem Ap7 (a b c : Int) : Ab7 a b < c↔a < c∨b < c:=by unfold Ab7;split <;> omega
theorem AqH (a b c : Int) : AcT a b ≥ c↔a ≥ c∨b ≥ c:=by unfold AcT;split <;> omega
def H8 (p : Api_Place) : Bool:=(Ht p).getD false
theorem AjJ (p : Api_Place) : Ht p = some (H8 p):=by
 unfold H8 Ht
 simp only [Afv,Aw,Nn,E4]
 simp only [Ue,Option.getD_some]
theorem Alb (p : Api_Place) : G5 p = some (H8 p):=by
 unfold H8 G5 Ht
 simp only [Afv,Aw,Nn,E4]
 simp only [Ue,Option.getD_some]
 congr 1
 rw [Bool.eq_iff_iff]
 by_cases h3 : p.Zb = 3
 ·simp [h3];omega
 ·simp [h3];omega
def T5 (n : Int) (x : Api_Edge) : Bool:=(Le x n).getD false
theorem Anw (n : Int) (x : Api_Edge) : Le x n = some (T5 n x):=by
 unfold T5 Le
 simp only [Afv,Aw,Nn,E4]
 simp only [Ue,Option.getD_some]
theorem AmR (n : Api_Network) (hp : n.Zu.length≤4096) (he : n.Zv.length≤4096) : ∃ e,Gs n = some e∧Mq n = some e∧(e = 0→n.Zu.all H8 = true):=by
 have w1 : ∀ k : Nat,k < 5000→w64 ((k : Int) + 1) = ((k + 1 : Nat) : Int):=fun k hk => Gf (by omega)
 have l1 : A9 (fun (v : Int) => Dh n v) 0 = some (if n.Zu.all H8 = true then .inl () else .inr (.inr 1)):=by
  refine Dy n.Zu (Dh n) H8 _ _ (by omega) (fun k hk => ?_) ?_
  ·unfold Dh
   rw [if_pos (by simp;omega),if_pos (Cy hk)]
   simp only [Ch,Int.toNat_natCast,w1 k (by omega)]
   rw [show (⟨(nth n.Zu k).Zb,(nth n.Zu k).Za,(nth n.Zu k).Zg⟩ : Api_Place) = nth n.Zu k from rfl,Alb]
   simp only [Aw]
   cases H8 (nth n.Zu k) <;> rfl
  ·unfold Dh;rw [if_neg (by simp)]
 have r1 : A9 (fun (v : Int) => Fh n v) 0 = some (if n.Zu.all H8 = true then .inl () else .inr (.inr 1)):=by
  refine Dy n.Zu (Fh n) H8 _ _ (by omega) (fun k hk => ?_) ?_
  ·unfold Fh
   rw [if_pos (by simp;omega),if_pos (Cy hk)]
   simp only [Ch,Int.toNat_natCast,w1 k (by omega),AjJ,Aw]
   cases H8 (nth n.Zu k) <;> rfl
  ·unfold Fh;rw [if_neg (by simp)]
 have l2 : A9 (fun (v : Int) => Df n (n.Zu.length : Int) v) 0 = some (if n.Zv.all (T5 (n.Zu.length : Int)) = true then .inl () else .inr (.inr 1)):=by
  refine Dy n.Zv (Df n (n.Zu.length : Int)) (T5 (n.Zu.length : Int)) _ _ (by omega) (fun k hk => ?_) ?_
  ·unfold Df
   rw [if_pos (by simp;omega),if_pos (Cy hk)]
   simp only [Ch,Int.toNat_natCast,w1 k (by omega)]
   generalize nth n.Zv k = x
   have e : (if (decide ((Ab7 (Ab7 (Ab7 x.A x.B) x.Za) x.Km) < 0)) = true then some true else if (decide ((AcT x.A x.B) ≥ (n.Zu.length : Int))) = true then some true else if (x.A == x.B) = true then some true else if (decide (x.Za ≥ 16)) = true then some true else if (decide (x.Zt < 1)) = true then some true else if (decide (x.Zt > 100000)) = true then some true else some ((decide (x.Km > 10000))) : Option Bool) = some (!T5 (n.Zu.length : Int) x):=by
    unfold T5 Le
    simp only [Afv,Aw,Nn,E4,Option.getD_some]
    congr 1
    rw [Bool.eq_iff_iff,show w64 ((n.Zu.length : Int) - 1) = (n.Zu.length : Int) - 1 from G6 (by omega)]
    simp only [Ap7,AqH,Bool.or_eq_true,Bool.and_eq_true,Bool.not_eq_true',Bool.and_eq_false_iff,decide_eq_true_eq,decide_eq_false_iff_not,beq_iff_eq,bne_iff_ne,bne_eq_false_iff_eq]
    omega
   rw [e,Aw]
   cases T5 (n.Zu.length : Int) x <;> rfl
  ·unfold Df;rw [if_neg (by simp)]
 have r2 : A9 (fun (v : Int) => Fb n v) 0 = some (if n.Zv.all (T5 (n.Zu.length : Int)) = true then .inl () else .inr (.inr 1)):=by
  refine Dy n.Zv (Fb n) (T5 (n.Zu.length : Int)) _ _ (by omega) (fun k hk => ?_) ?_
  ·unfold Fb
   rw [if_pos (by simp;omega),if_pos (Cy hk)]
   simp only [Ch,Int.toNat_natCast,w1 k (by omega),Anw,Aw]
   cases T5 (n.Zu.length : Int) (nth n.Zv k) <;> rfl
  ·unfold Fb;rw [if_neg (by simp)]
 unfold Gs Mq
 simp only [Ch,Nn,Aw]
 rw [l1,r1,l2,r2]
 simp only [Aw]
 by_cases h : (decide ((n.Zu.length : Int) > 512) || decide ((n.Zv.length : Int) > 2048)) = true
 ·rw [if_pos h];exact ⟨_,rfl,rfl,fun e => by omega⟩
 ·rw [if_neg h]
  cases n.Zu.all H8
  ·exact ⟨_,rfl,rfl,fun e => by omega⟩
  ·cases n.Zv.all (T5 (n.Zu.length : Int)) <;> exact ⟨_,rfl,rfl,fun _ => rfl⟩
theorem Aga {n k : Nat} (h : k < n) : nth (List.range n) k = k:=by simp [nth,h]
def Aes (l : List Int) (k : Nat) : Bool:=decide (0≤nth l k) && (decide (nth l k≤745654) && (decide (k = 0) || decide (nth l (k - 1) < nth l k)))
theorem Ali (c : Api_Calendar) (hl : c.Zs.length≤1000000) : A9 (fun (v : Int) => Fc c v) 0 = some (if (List.range c.Zs.length).all (Aes c.Zs) = true then .inl () else .inr (.inr 1)):=by
 have h:=Dy (List.range c.Zs.length) (Fc c) (Aes c.Zs) (.inl ()) (.inr (.inr 1)) (by simp;omega) (fun k hk => ?_) ?_
 ·exact h
 ·rw [List.length_range] at hk
  rw [Aga hk]
  unfold Fc
  rw [if_pos (by simp;omega),if_pos (Cy hk)]
  simp only [Ch,Int.toNat_natCast,Gf (k:=k) (by omega)]
  have e : (if (decide (nth c.Zs k < 0)) = true then some true else if (decide (nth c.Zs k > 745654)) = true then some true else if (decide ((k : Int) > 0)) = true then (if InR ((w64 ((k : Int) - 1))) c.Zs.length then some ((decide (nth c.Zs (((w64 ((k : Int) - 1))).toNat) ≥ nth c.Zs k))) else none) else some false : Option Bool) = some (!Aes c.Zs k):=by
   unfold Aes
   by_cases hz : k = 0
   ·subst hz
    rw [if_neg (c:=decide (((0 : Nat) : Int) > 0) = true) (by simp)]
    simp only [Nn]
    congr 1
    rw [Bool.eq_iff_iff]
    simp <;> omega
   ·have hw : w64 ((k : Int) - 1) = ((k - 1 : Nat) : Int):=by rw [G6 (by omega)];omega
    rw [if_pos (c:=decide ((k : Int) > 0) = true) (by simp;omega),hw,if_pos (Cy (by omega))]
    simp only [Nn,Int.toNat_natCast]
    congr 1
    rw [Bool.eq_iff_iff]
    simp [hz] <;> omega
  rw [e,Aw]
  cases Aes c.Zs k <;> rfl
 ·rw [List.length_range]
  unfold Fc;rw [if_neg (by simp)]
theorem AgK (c : Api_Calendar) (hl : c.Zs.length≤1000000) : A9 (fun (v : Int×Int) => Dn c v.1 v.2) (-1,0) = some (if (List.range c.Zs.length).all (Aes c.Zs) = true then .inl () else .inr (.inr 1)):=by
 obtain ⟨x,hx,hq⟩ : ∃ x,A9 (fun (v : Int×Int) => Dn c v.1 v.2) (-1,0) = some x∧x = (if (List.range c.Zs.length).all (Aes c.Zs) = true then .inl () else .inr (.inr 1)):=by
  refine Fs (fun v => ∃ k : Nat,v.2 = (k : Int)∧k≤c.Zs.length∧(∀ j,j < k→Aes c.Zs j = true)∧v.1 = (if k = 0 then -1 else nth c.Zs (k - 1))∧-1≤v.1) (fun v => ((c.Zs.length : Int) - v.2).toNat) _ ?_ ⟨0,rfl,Nat.zero_le _,fun j hj => by omega,rfl,by show (-1 : Int)≤-1;omega⟩ (by simp;omega)
  rintro ⟨last,t⟩ ⟨k,rfl,hk,ht,hlast,hge⟩
  simp only at hlast hge ⊢
  unfold Dn
  by_cases h1 : k < c.Zs.length
  ·rw [if_pos (by simp;omega),if_pos (Cy h1)]
   simp only [Ch,Int.toNat_natCast,Gf (k:=k) (by omega),Nn,Aw]
   have e : (decide (nth c.Zs k≤last) || decide (nth c.Zs k > 745654)) = !Aes c.Zs k:=by
    unfold Aes
    rw [Bool.eq_iff_iff]
    by_cases hz : k = 0
    ·subst hz
     simp at hlast
     subst hlast
     simp <;> omega
    ·rw [if_neg hz] at hlast
     simp [hz,← hlast] <;> omega
   rw [e]
   by_cases hp : Aes c.Zs k = true
   ·left
    rw [if_neg (by simp [hp])]
    refine ⟨_,rfl,⟨k + 1,rfl,by omega,fun j hj => ?_,by simp,?_⟩,by simp only;omega⟩
    ·by_cases hjk : j = k
     ·subst hjk;exact hp
     ·exact ht j (by omega)
    ·show -1≤nth c.Zs k
     unfold Aes at hp
     simp at hp
     omega
   ·right
    rw [if_pos (by simpa using hp)]
    refine ⟨_,rfl,?_⟩
    rw [if_neg]
    intro ha
    rw [List.all_eq_true] at ha
    exact hp (ha k (List.mem_range.2 h1))
  ·right
   have hkl : k = c.Zs.length:=by omega
   rw [if_neg (by simp;omega)]
   refine ⟨_,rfl,?_⟩
   rw [if_pos]
   rw [List.all_eq_true]
   intro j hj
   exact ht j (by rw [hkl];exact List.mem_range.1 hj)
 rw [hx,hq]
theorem Aiv (c : Api_Calendar) (hl : c.Zs.length≤1000000) : ∃ e,Ea c = some e∧Hz c = some e:=by
 unfold Ea Hz
 simp only [Ch,Nn,Aw]
 rw [AgK c hl,Ali c hl]
 generalize (List.range c.Zs.length).all (Aes c.Zs) = z
 repeat' split
 all_goals first
  | exact ⟨_,rfl,rfl⟩
  | (cases z <;> exact ⟨_,rfl,rfl⟩)
def E1 (b : Bool) : Int:=if b = true then 1 else 0
theorem AdB (ok b : Bool) : Ba ok (E1 b) = some (E1 (b || !ok)):=by cases ok <;> cases b <;> rfl
theorem Ajf (a b c : Bool) : (if a = true then some (E1 (b || !c)) else some (E1 (b || !false))) = some (E1 (b || !(a && c))):=by cases a <;> cases b <;> cases c <;> rfl
theorem Ab0 {α : Type} (p : α→Bool) (l : List α) : l.any (fun x => !p x) = !(l.all p):=by
  induction l with
  | nil => rfl
  | cons x l ih => rw [List.any_cons,ih,List.all_cons,Bool.not_and]
def Ub (t : Api_WagonType) : Bool:=(Eo t).getD false
theorem Apw (t : Api_WagonType) : Eo t = some (Ub t):=by
 unfold Ub Eo
 simp only [Yf,Aw,E4,Option.getD_some]
def Ns (n : Int) (t : Api_Wagon) : Bool:=(Eb t n).getD false
theorem Ak6 (n : Int) (t : Api_Wagon) : Eb t n = some (Ns n t):=by
 unfold Ns Eb
 simp only [Yf,Aw,E4,Option.getD_some]
def We (n : Int) (s : Api_Swap) : Bool:=(decide (0≤s.Zj1) && decide (s.Zj1≤n - 1)) && ((decide (0≤s.Zk1) && decide (s.Zk1≤n - 1)) && ((s.Zj1 != s.Zk1) && (decide (0≤s.Zl1) && decide (s.Zl1≤1000000000))))
def V5 (w : Api_Wash) : Bool:=(decide (0≤w.Zi) && decide (w.Zi≤63)) && ((decide (0≤w.To) && decide (w.To≤63)) && ((w.Zi != w.To) && (decide (0≤w.Zt) && decide (w.Zt≤100000))))
def washK (w : Api_Wash) : Nat:=w.Zi.toNat * 64 + w.To.toNat
theorem W8 {w : Api_Wash} (h : V5 w = true) : 0≤w.Zi∧w.Zi≤63∧0≤w.To∧w.To≤63:=by
 unfold V5 at h;simp at h;omega
section
variable (f : Api_Fleet)
theorem Ad6 (hl : f.Zm1.length≤4096) : A9 (fun (v : Int×Int) => D9 f v.1 v.2) (0,0) = some (E1 (!(f.Zm1.all Ub))):=by
 have h:=Ex f.Zm1 (fun (v : Int×Int) => D9 f v.1 v.2) (fun k b => (k,E1 b)) (fun b t => b || !Ub t) E1 false (by omega) (fun k b hk => ?_) (fun b => ?_)
 ·rw [J0,Ab0] at h;exact h
 ·simp only
  unfold D9
  rw [if_pos (by simp;omega),if_pos (Cy hk)]
  simp only [Ch,Int.toNat_natCast,Gf (k:=k) (by omega)]
  generalize nth f.Zm1 k = t
  have hi:=Ex ([t.Zw,t.Zx,t.Zy,t.Za1] : List Int) (fun (v : Int×Int) => Et (([t.Zw,t.Zx,t.Zy,t.Za1] : List Int).length : Int) [t.Zw,t.Zx,t.Zy,t.Za1] v.1 v.2) (fun k b => (k,E1 b)) (fun b n => b || !(decide (0≤n) && decide (n≤1000000))) E1 b (by simp) (fun k b hk => ?_) (fun b => ?_)
  ·rw [J0] at hi
   rw [hi]
   simp only [Aw,AbU,AdB,Ajf]
   have e : (b || ([t.Zw,t.Zx,t.Zy,t.Za1] : List Int).any (fun n => !(decide (0≤n) && decide (n≤1000000))) || !((decide (0≤t.Zz) && decide (t.Zz≤7)) && ((decide (1≤t.Zc1) && decide (t.Zc1≤1073741824)) && (decide (0≤t.Zd1) && decide (t.Zd1≤100))))) = (b || !Ub t):=by
    unfold Ub Eo
    simp only [Yf,Aw,E4,Option.getD_some,List.any_cons,List.any_nil,Bool.or_false]
    rw [Bool.or_assoc]
    congr 1
    simp only [Bool.not_and,Bool.or_assoc]
   rw [e]
  ·simp only
   unfold Et
   rw [if_pos (by simp;simp at hk;omega),if_pos (Cy hk)]
   simp only [AbU,Aw,AdB,Int.toNat_natCast,Gf (k:=k) (by simp at hk;omega)]
  ·simp only
   unfold Et
   rw [if_neg (by simp)]
 ·simp only
  unfold D9
  rw [if_neg (by simp)]
theorem AaK (b0 : Bool) (hl : f.Zn1.length≤4096) (ht : f.Zm1.length≤4096) : A9 (fun (v : Int×Int) => D8 f v.1 v.2) (0,E1 b0) = some (E1 (b0 || !(f.Zn1.all (Ns (f.Zm1.length : Int))))):=by
 have h:=Ex f.Zn1 (fun (v : Int×Int) => D8 f v.1 v.2) (fun k b => (k,E1 b)) (fun b t => b || !Ns (f.Zm1.length : Int) t) E1 b0 (by omega) (fun k b hk => ?_) (fun b => ?_)
 ·rw [J0,Ab0] at h;exact h
 ·simp only
  unfold D8
  rw [if_pos (by simp;omega),if_pos (Cy hk)]
  simp only [Ch,Int.toNat_natCast,Gf (k:=k) (by omega),AbU,Aw,AdB,Ajf]
  generalize nth f.Zn1 k = t
  have e : ∀ a c d e g : Bool,(b || !(a && (c && d)) || !(e && g)) = (b || !(a && (c && (d && (e && g))))):=by intro a c d e g;cases a <;> cases b <;> cases c <;> cases d <;> cases e <;> cases g <;> rfl
  rw [e]
  unfold Ns Eb
  simp only [Yf,Aw,E4,Option.getD_some]
 ·simp only
  unfold D8
  rw [if_neg (by simp)]
theorem Adr (b0 : Bool) (hl : f.Zo1.length≤4096) (ht : f.Zm1.length≤4096) : A9 (fun (v : Int×Int) => D3 f v.1 v.2) (0,E1 b0) = some (E1 (b0 || !(f.Zo1.all (We (f.Zm1.length : Int))))):=by
 have hw : w64 ((f.Zm1.length : Int) - 1) = (f.Zm1.length : Int) - 1:=G6 (by omega)
 have h:=Ex f.Zo1 (fun (v : Int×Int) => D3 f v.1 v.2) (fun k b => (k,E1 b)) (fun b t => b || !We (f.Zm1.length : Int) t) E1 b0 (by omega) (fun k b hk => ?_) (fun b => ?_)
 ·rw [J0,Ab0] at h;exact h
 ·simp only
  unfold D3
  rw [if_pos (by simp;omega),if_pos (Cy hk)]
  simp only [Ch,Int.toNat_natCast,Gf (k:=k) (by omega),AbU,Aw,AdB,Ajf,hw]
  rfl
 ·simp only
  unfold D3
  rw [if_neg (by simp)]
theorem AeI (hl : f.Zm1.length≤4096) : A9 (fun (v : Int) => Fa f v) 0 = some (if f.Zm1.all Ub = true then .inl () else .inr (.inr 1)):=by
 refine Dy f.Zm1 (Fa f) Ub _ _ (by omega) (fun k hk => ?_) ?_
 ·unfold Fa
  rw [if_pos (by simp;omega),if_pos (Cy hk)]
  simp only [Int.toNat_natCast,Gf (k:=k) (by omega),Apw,Aw]
  cases Ub (nth f.Zm1 k) <;> rfl
 ·unfold Fa;rw [if_neg (by simp)]
theorem Ad7 (hl : f.Zn1.length≤4096) : A9 (fun (v : Int) => Ey f v) 0 = some (if f.Zn1.all (Ns (f.Zm1.length : Int)) = true then .inl () else .inr (.inr 1)):=by
 refine Dy f.Zn1 (Ey f) (Ns (f.Zm1.length : Int)) _ _ (by omega) (fun k hk => ?_) ?_
 ·unfold Ey
  rw [if_pos (by simp;omega),if_pos (Cy hk)]
  simp only [Int.toNat_natCast,Gf (k:=k) (by omega),Ak6,Aw]
  cases Ns (f.Zm1.length : Int) (nth f.Zn1 k) <;> rfl
 ·unfold Ey;rw [if_neg (by simp)]
theorem Ae5 (hl : f.Zo1.length≤4096) (ht : f.Zm1.length≤4096) : A9 (fun (v : Int) => E9 f v) 0 = some (if f.Zo1.all (We (f.Zm1.length : Int)) = true then .inl () else .inr (.inr 1)):=by
 have hw : w64 ((f.Zm1.length : Int) - 1) = (f.Zm1.length : Int) - 1:=G6 (by omega)
 refine Dy f.Zo1 (E9 f) (We (f.Zm1.length : Int)) _ _ (by omega) (fun k hk => ?_) ?_
 ·unfold E9
  rw [if_pos (by simp;omega),if_pos (Cy hk)]
  simp only [Ch,Int.toNat_natCast,Gf (k:=k) (by omega),Yf,Aw,Nn,hw]
  generalize nth f.Zo1 k = s
  have e : (!(decide (0≤s.Zj1) && decide (s.Zj1≤(f.Zm1.length : Int) - 1)) || (!(decide (0≤s.Zk1) && decide (s.Zk1≤(f.Zm1.length : Int) - 1)) || ((s.Zj1 == s.Zk1) || !(decide (0≤s.Zl1) && decide (s.Zl1≤1000000000))))) = !We (f.Zm1.length : Int) s:=by
   unfold We
   simp only [Bool.not_and,bne,Bool.not_not]
  rw [e]
  cases We (f.Zm1.length : Int) s <;> rfl
 ·unfold E9;rw [if_neg (by simp)]
def H9 (s : Bool×Arr Bool 4096) (w : Api_Wash) : Bool×Arr Bool 4096:=if V5 w = true then (s.1 || s.2.get (washK w),s.2.set (washK w) true) else (true,s.2)
theorem Ah2 (b c : Bool) (g : Arr Bool 4096) (w : Api_Wash) : H9 (b || c,g) w = (b || (H9 (c,g) w).1,(H9 (c,g) w).2):=by
 unfold H9;split <;> simp [Bool.or_assoc]
theorem Adg (l : List Api_Wash) : ∀ (b c : Bool) (g : Arr Bool 4096),(l.foldl H9 (b || c,g)).1 = (b || (l.foldl H9 (c,g)).1):=by
  induction l with
  | nil => intro b c g;rfl
  | cons w l ih =>
    intro b c g
    rw [List.foldl_cons,List.foldl_cons,Ah2]
    generalize H9 (c,g) w = s
    obtain ⟨d,g'⟩:=s
    exact ih b d g'
theorem AaA (l : List Api_Wash) (g : Arr Bool 4096) : (l.foldl H9 (true,g)).1 = true:=by
 have:=Adg l true false g
 simpa using this
theorem Ain {w : Api_Wash} (h : V5 w = true) : washK w < 4096:=by have:=W8 h;unfold washK;omega
theorem Acf (b0 : Bool) (g0 : Arr Bool 4096) (hl : f.Zp1.length≤4096) : A9 (fun (v : Int×Int×Arr Bool 4096) => D7 f v.1 v.2.1 v.2.2) (0,E1 b0,g0) = some (E1 (f.Zp1.foldl H9 (b0,g0)).1):=by
 refine Ex f.Zp1 (fun (v : Int×Int×Arr Bool 4096) => D7 f v.1 v.2.1 v.2.2) (fun k s => (k,E1 s.1,s.2)) H9 (fun s => E1 s.1) (b0,g0) (by omega) (fun k s hk => ?_) (fun s => ?_)
 ·obtain ⟨b,g⟩:=s
  simp only
  unfold D7
  rw [if_pos (by simp;omega),if_pos (Cy hk)]
  simp only [Ch,Int.toNat_natCast,Gf (k:=k) (by omega),AbU,Aw,E4,AdB]
  generalize nth f.Zp1 k = w
  rw [show ((decide (0≤w.Zi) && decide (w.Zi≤63)) && ((decide (0≤w.To) && decide (w.To≤63)) && ((w.Zi != w.To) && (decide (0≤w.Zt) && decide (w.Zt≤100000))))) = V5 w from rfl]
  unfold H9
  by_cases h : V5 w = true
  ·have hr:=W8 h
   rw [if_pos h,if_pos h,if_pos (show InR w.Zi 64 by unfold InR;omega),if_pos (show InR w.To 64 by unfold InR;omega)]
   simp only [h,Aw,Bool.not_true,Bool.or_false,Bool.not_not,show Ba (!(g.get (w.Zi.toNat * 64 + w.To.toNat))) (E1 b) = some (E1 (b || !(!(g.get (w.Zi.toNat * 64 + w.To.toNat))))) from AdB _ _]
   rw [if_pos (show InR w.Zi 64 by unfold InR;omega),if_pos (show InR w.To 64 by unfold InR;omega),Aw]
   rfl
  ·rw [if_neg h,if_neg h]
   simp only [Bool.not_eq_true] at h
   simp only [h,Aw,Bool.not_false,Bool.or_true]
 ·simp only
  unfold D7
  rw [if_neg (by simp)]
theorem Aei (l : List Api_Wash) (hl : l.length≤4096) : Kn l = some (E1 (l.foldl H9 (false,Arr.rep 4096 false)).1):=by
 unfold Kn
 rw [if_pos (by unfold Mk maxLen Od;omega),Ch]
 obtain ⟨x,hx,hq⟩ : ∃ x,A9 (fun (v : Int×List Bool) => Gv l v.1 v.2) (0,List.replicate 4096 false) = some x∧x = (if (l.foldl H9 (false,Arr.rep 4096 false)).1 = true then .inr (.inr 1) else .inl ()):=by
  refine Fs (fun v => ∃ (k : Nat) (g : Arr Bool 4096),v = ((k : Int),g.l)∧k≤l.length∧(l.take k).foldl H9 (false,Arr.rep 4096 false) = (false,g)) (fun v => ((l.length : Int) - v.1).toNat) _ ?_ ⟨0,Arr.rep 4096 false,rfl,Nat.zero_le _,rfl⟩ (by simp;omega)
  rintro v ⟨k,g,rfl,hk,hf⟩
  simp only
  unfold Gv
  by_cases h1 : k < l.length
  ·rw [if_pos (by simp;omega),if_pos (Cy h1)]
   have hn : nth l k = l[k]:=by simp [nth,h1]
   have hstep : l.foldl H9 (false,Arr.rep 4096 false) = (l.drop (k + 1)).foldl H9 (H9 (false,g) (nth l k)):=by
    conv => lhs;rw [← List.take_append_drop (k + 1) l,List.foldl_append,List.take_succ_eq_append_getElem h1,List.foldl_append,hf]
    rw [hn];rfl
   simp only [Ch,Int.toNat_natCast,Gf (k:=k) (by omega),Yf,Aw,Nn]
   generalize nth l k = w at *
   have e : (!(decide (0≤w.Zi) && decide (w.Zi≤63)) || (!(decide (0≤w.To) && decide (w.To≤63)) || ((w.Zi == w.To) || !(decide (0≤w.Zt) && decide (w.Zt≤100000))))) = !V5 w:=by
    unfold V5
    simp only [Bool.not_and,bne,Bool.not_not]
   rw [e]
   by_cases h : V5 w = true
   ·have hr:=W8 h
    have hkey : w64 (w64 (64 * w.Zi) + w.To) = ((washK w : Nat) : Int):=by
     rw [G6 (x:=64 * w.Zi) (by omega),G6 (by omega)];unfold washK;omega
    rw [if_neg (by simp [h]),hkey,if_pos (by rw [g.h];exact Cy (Ain h))]
    simp only [Int.toNat_natCast]
    have hG : H9 (false,g) w = (g.get (washK w),g.set (washK w) true):=by unfold H9;rw [if_pos h];simp
    by_cases hs : nth g.l (washK w) = true
    ·right
     rw [if_pos hs]
     refine ⟨_,rfl,?_⟩
     rw [hstep,hG,show g.get (washK w) = true from hs,AaA]
     rfl
    ·left
     rw [if_neg hs,if_pos (by rw [g.h];exact Cy (Ain h))]
     refine ⟨_,rfl,⟨k + 1,g.set (washK w) true,rfl,by omega,?_⟩,by simp only;omega⟩
     rw [List.take_succ_eq_append_getElem h1,List.foldl_append,hf,← hn]
     show H9 (false,g) w = _
     rw [hG,show g.get (washK w) = false from (Bool.not_eq_true _).mp hs]
   ·right
    rw [if_pos (by simpa using h)]
    refine ⟨_,rfl,?_⟩
    have hG : H9 (false,g) w = (true,g):=by unfold H9;rw [if_neg h]
    rw [hstep,hG,AaA]
    rfl
  ·right
   have : k = l.length:=by omega
   subst this
   rw [if_neg (by simp)]
   rw [List.take_length] at hf
   exact ⟨_,rfl,by rw [hf];rfl⟩
 rw [hx,hq]
 cases (l.foldl H9 (false,Arr.rep 4096 false)).1 <;> rfl
theorem Ag3 (h1 : f.Zm1.length≤4096) (h2 : f.Zn1.length≤4096) (h3 : f.Zo1.length≤4096) (h4 : f.Zp1.length≤4096) : ∃ e,Iu f = some e∧L4 f = some e:=by
 unfold Iu L4
 simp only [Nn,Aw]
 rw [Ad6 f h1]
 simp only [Aw]
 rw [AaK f _ h2 h1]
 simp only [Aw]
 rw [Adr f _ h3 h1]
 simp only [Aw]
 rw [Acf f _ _ h4]
 simp only [Aw]
 rw [AeI f h1,Ad7 f h2,Ae5 f h3 h1,Aei _ h4]
 split
 ·exact ⟨_,rfl,rfl⟩
 ·have hF:=Adg f.Zp1 (!f.Zm1.all Ub || !f.Zn1.all (Ns (f.Zm1.length : Int)) || !f.Zo1.all (We (f.Zm1.length : Int))) false (Arr.rep 4096 false)
  rw [Bool.or_false] at hF
  rw [hF]
  refine ⟨_,rfl,?_⟩
  generalize (f.Zp1.foldl H9 (false,Arr.rep 4096 false)).1 = z
  cases f.Zm1.all Ub <;> cases f.Zn1.all (Ns (f.Zm1.length : Int)) <;> cases f.Zo1.all (We (f.Zm1.length : Int)) <;> cases z <;> rfl
end
structure Few (p : Api_Pool) : Prop where
 places : p.Zs1.Zu.length≤4096
 edges : p.Zs1.Zv.length≤4096
 types : p.Zt1.Zm1.length≤4096
 wagons : p.Zt1.Zn1.length≤4096
 swaps : p.Zt1.Zo1.length≤4096
 washes : p.Zt1.Zp1.length≤4096
 readers : p.Zu1.length≤4096
 shippers : p.Zv1.length≤4096
 railways : p.Zw1.length≤4096
 days : ∀ k,k < p.Zw1.length→(nth p.Zw1 k).Zr1.Zs.length≤1000000
def Ail (c : Api_Calendar) : Int:=(Hz c).getD 0
theorem Ash {c : Api_Calendar} (hl : c.Zs.length≤1000000) : Ea c = some (Ail c):=by
 obtain ⟨e,h1,h2⟩:=Aiv c hl
 rw [h1];unfold Ail;rw [h2];rfl
theorem Aqz {c : Api_Calendar} (hl : c.Zs.length≤1000000) : Hz c = some (Ail c):=by
 obtain ⟨e,h1,h2⟩:=Aiv c hl
 unfold Ail;rw [h2];rfl
def Alk (x : UInt64) : Bool:=(I3 x).getD false
theorem Ase (x : UInt64) : Ii x = some (Alk x):=by
 obtain ⟨e,h1,h2⟩:=Acq x
 rw [h1];unfold Alk;rw [h2];rfl
theorem Arv (x : UInt64) : I3 x = some (Alk x):=by
 obtain ⟨e,h1,h2⟩:=Acq x
 unfold Alk;rw [h2];rfl
def Ld (n : Int) (r : Api_Reader) : Bool:=!(decide (0≤r.Zf) && decide (r.Zf≤n - 1)) || (decide (r.Low < -1000) || (decide (r.Low > r.Zq1) || decide (r.Zq1 > 1000)))
def Ww (p : Api_Pool) (s : Api_Shipper) : Bool:=if 0≤s.Zf∧s.Zf < (p.Zs1.Zu.length : Int) then (nth p.Zs1.Zu s.Zf.toNat).Zb != 4 else true
def Xa (n : Int) (w : Api_Wagon) : Bool:=decide (w.Zg1 ≥ n)
def Oq (n : Int) (x : Api_Place) : Bool:=decide (x.Za ≥ n) || decide (x.Zg ≥ n)
def Xo (n : Int) (x : Api_Edge) : Bool:=decide (x.Za ≥ n)
def Ab1 (r : Api_RailwayInfo) : Bool:=(Ail r.Zr1 != 0) || !Alk r.Key
section
variable {p : Api_Pool} (h : Few p)
include h
theorem p1 (b0 : Bool) : A9 (fun (v : Bool×Int) => Cv p v.1 v.2) (b0,0) = some (b0 || p.Zu1.any (Ld (p.Zs1.Zu.length : Int))):=by
 have hh:=h.readers
 have hp:=h.places
 have hw : w64 ((p.Zs1.Zu.length : Int) - 1) = (p.Zs1.Zu.length : Int) - 1:=G6 (by omega)
 have:=Ex p.Zu1 (fun (v : Bool×Int) => Cv p v.1 v.2) (fun k b => (b,k)) (fun b t => b || Ld (p.Zs1.Zu.length : Int) t) id b0 (by omega) (fun k b hk => ?_) (fun b => ?_)
 ·rw [J0] at this;exact this
 ·simp only
  unfold Cv
  rw [if_pos (by simp;omega),if_pos (Cy hk)]
  simp only [Ch,Int.toNat_natCast,Gf (k:=k) (by omega),AbU,Aw,Nn,hw]
  rfl
 ·simp only
  unfold Cv
  rw [if_neg (by simp)];rfl
theorem p2 (b0 : Bool) : A9 (fun (v : Bool×Int) => Cu p v.1 v.2) (b0,0) = some (b0 || p.Zv1.any (Ww p)):=by
 have hh:=h.shippers
 have hp:=h.places
 have hw : w64 ((p.Zs1.Zu.length : Int) - 1) = (p.Zs1.Zu.length : Int) - 1:=G6 (by omega)
 have:=Ex p.Zv1 (fun (v : Bool×Int) => Cu p v.1 v.2) (fun k b => (b,k)) (fun b t => b || Ww p t) id b0 (by omega) (fun k b hk => ?_) (fun b => ?_)
 ·rw [J0] at this;exact this
 ·simp only
  unfold Cu
  rw [if_pos (by simp;omega),if_pos (Cy hk)]
  simp only [Ch,Int.toNat_natCast,Gf (k:=k) (by omega),AbU,Aw,hw]
  generalize nth p.Zv1 k = s
  unfold Ww
  cases b
  ·rw [if_neg (by simp)]
   by_cases hq : 0≤s.Zf∧s.Zf < (p.Zs1.Zu.length : Int)
   ·rw [if_neg (by simp;omega),if_pos (show InR s.Zf p.Zs1.Zu.length by unfold InR;omega),Aw,if_pos hq];rfl
   ·rw [if_pos (by simp;omega),Aw,if_neg hq];rfl
  ·rw [if_pos rfl,Aw];rfl
 ·simp only
  unfold Cu
  rw [if_neg (by simp)];rfl
theorem p3 (b0 : Bool) : A9 (fun (v : Bool×Int) => Cr p v.1 v.2) (b0,0) = some (b0 || p.Zt1.Zn1.any (Xa (p.Zs1.Zu.length : Int))):=by
 have hh:=h.wagons
 have:=Ex p.Zt1.Zn1 (fun (v : Bool×Int) => Cr p v.1 v.2) (fun k b => (b,k)) (fun b t => b || Xa (p.Zs1.Zu.length : Int) t) id b0 (by omega) (fun k b hk => ?_) (fun b => ?_)
 ·rw [J0] at this;exact this
 ·simp only
  unfold Cr
  rw [if_pos (by simp;omega),if_pos (Cy hk)]
  simp only [Ch,Int.toNat_natCast,Gf (k:=k) (by omega),Aw,Nn]
  rfl
 ·simp only
  unfold Cr
  rw [if_neg (by simp)];rfl
theorem p4 (n : Int) (b0 : Bool) : A9 (fun (v : Bool×Int) => Cx p n v.1 v.2) (b0,0) = some (b0 || p.Zs1.Zu.any (Oq n)):=by
 have hh:=h.places
 have:=Ex p.Zs1.Zu (fun (v : Bool×Int) => Cx p n v.1 v.2) (fun k b => (b,k)) (fun b t => b || Oq n t) id b0 (by omega) (fun k b hk => ?_) (fun b => ?_)
 ·rw [J0] at this;exact this
 ·simp only
  unfold Cx
  rw [if_pos (by simp;omega),if_pos (Cy hk)]
  simp only [Ch,Int.toNat_natCast,Gf (k:=k) (by omega),Aw,Nn]
  rfl
 ·simp only
  unfold Cx
  rw [if_neg (by simp)];rfl
theorem p5 (n : Int) (b0 : Bool) : A9 (fun (v : Bool×Int) => Cs p n v.1 v.2) (b0,0) = some (b0 || p.Zs1.Zv.any (Xo n)):=by
 have hh:=h.edges
 have:=Ex p.Zs1.Zv (fun (v : Bool×Int) => Cs p n v.1 v.2) (fun k b => (b,k)) (fun b t => b || Xo n t) id b0 (by omega) (fun k b hk => ?_) (fun b => ?_)
 ·rw [J0] at this;exact this
 ·simp only
  unfold Cs
  rw [if_pos (by simp;omega),if_pos (Cy hk)]
  simp only [Ch,Int.toNat_natCast,Gf (k:=k) (by omega),Aw,Nn]
  rfl
 ·simp only
  unfold Cs
  rw [if_neg (by simp)];rfl
theorem p6 (b0 : Bool) : A9 (fun (v : Bool×Int) => Cq p v.1 v.2) (b0,0) = some (b0 || p.Zw1.any Ab1):=by
 have hh:=h.railways
 have:=Ex p.Zw1 (fun (v : Bool×Int) => Cq p v.1 v.2) (fun k b => (b,k)) (fun b t => b || Ab1 t) id b0 (by omega) (fun k b hk => ?_) (fun b => ?_)
 ·rw [J0] at this;exact this
 ·simp only
  unfold Cq
  rw [if_pos (by simp;omega),if_pos (Cy hk)]
  simp only [Ch,Int.toNat_natCast,Gf (k:=k) (by omega)]
  have hc:=Ash (h.days k hk)
  generalize nth p.Zw1 k = r at *
  rw [show Ea _ = some (Ail r.Zr1) from hc]
  simp only [Ase,Aw,Nn]
  rfl
 ·simp only
  unfold Cq
  rw [if_neg (by simp)];rfl
theorem r1 (n : Int) (hn : n = (p.Zs1.Zu.length : Int)) : A9 (fun (v : Int) => Ga p n v) 0 = some (if p.Zu1.all (fun x => !Ld n x) = true then .inl () else .inr (.inr false)):=by
 have hh:=h.readers
 have hp:=h.places
 have hw : w64 (n - 1) = n - 1:=G6 (by omega)
 refine Dy p.Zu1 (Ga p n) (fun x => !Ld n x) _ _ (by omega) (fun k hk => ?_) ?_
 ·unfold Ga
  rw [if_pos (by simp;omega),if_pos (Cy hk)]
  simp only [Ch,Int.toNat_natCast,Gf (k:=k) (by omega),Yf,Aw,Nn,hw]
  generalize nth p.Zu1 k = r
  rw [show (!(decide (0≤r.Zf) && decide (r.Zf≤n - 1)) || (decide (r.Low < -1000) || (decide (r.Zq1 < r.Low) || decide (r.Zq1 > 1000)))) = Ld n r from rfl]
  cases Ld n r <;> rfl
 ·unfold Ga;rw [if_neg (by simp)]
theorem r2 : A9 (fun (v : Int) => F9 p (p.Zs1.Zu.length : Int) v) 0 = some (if p.Zv1.all (fun x => !Ww p x) = true then .inl () else .inr (.inr false)):=by
 have hh:=h.shippers
 have hp:=h.places
 have hw : w64 ((p.Zs1.Zu.length : Int) - 1) = (p.Zs1.Zu.length : Int) - 1:=G6 (by omega)
 refine Dy p.Zv1 (F9 p (p.Zs1.Zu.length : Int)) (fun x => !Ww p x) _ _ (by omega) (fun k hk => ?_) ?_
 ·unfold F9
  rw [if_pos (by simp;omega),if_pos (Cy hk)]
  simp only [Ch,Int.toNat_natCast,Gf (k:=k) (by omega),Yf,Aw,hw]
  rw [if_pos (Cy hk)]
  generalize nth p.Zv1 k = s
  unfold Ww
  by_cases hq : 0≤s.Zf∧s.Zf < (p.Zs1.Zu.length : Int)
  ·rw [if_neg (by simp;omega),if_pos (show InR s.Zf p.Zs1.Zu.length by unfold InR;omega),Aw,if_pos hq]
   cases (nth p.Zs1.Zu s.Zf.toNat).Zb != 4 <;> rfl
  ·rw [if_pos (by simp;omega),Aw,if_neg hq];rfl
 ·unfold F9;rw [if_neg (by simp)]
theorem r3 (n : Int) : A9 (fun (v : Int) => F8 p n v) 0 = some (if p.Zt1.Zn1.all (fun x => !Xa n x) = true then .inl () else .inr (.inr false)):=by
 have hh:=h.wagons
 refine Dy p.Zt1.Zn1 (F8 p n) (fun x => !Xa n x) _ _ (by omega) (fun k hk => ?_) ?_
 ·unfold F8
  rw [if_pos (by simp;omega),if_pos (Cy hk)]
  simp only [Ch,Int.toNat_natCast,Gf (k:=k) (by omega)]
  rw [show decide ((nth p.Zt1.Zn1 k).Zg1 ≥ n) = Xa n (nth p.Zt1.Zn1 k) from rfl]
  cases Xa n (nth p.Zt1.Zn1 k) <;> rfl
 ·unfold F8;rw [if_neg (by simp)]
theorem r4 (n : Int) : A9 (fun (v : Int) => Ez p n v) 0 = some (if p.Zs1.Zu.all (fun x => !Oq n x) = true then .inl () else .inr (.inr false)):=by
 have hh:=h.places
 refine Dy p.Zs1.Zu (Ez p n) (fun x => !Oq n x) _ _ (by omega) (fun k hk => ?_) ?_
 ·unfold Ez
  rw [if_pos (by simp;omega),if_pos (Cy hk)]
  simp only [Ch,Int.toNat_natCast,Gf (k:=k) (by omega),Nn,Aw]
  generalize nth p.Zs1.Zu k = w
  rw [show (decide (w.Za ≥ n) || decide (w.Zg ≥ n)) = Oq n w from rfl]
  cases Oq n w <;> rfl
 ·unfold Ez;rw [if_neg (by simp)]
theorem r5 (n : Int) : A9 (fun (v : Int) => E3 p n v) 0 = some (if p.Zs1.Zv.all (fun x => !Xo n x) = true then .inl () else .inr (.inr false)):=by
 have hh:=h.edges
 refine Dy p.Zs1.Zv (E3 p n) (fun x => !Xo n x) _ _ (by omega) (fun k hk => ?_) ?_
 ·unfold E3
  rw [if_pos (by simp;omega),if_pos (Cy hk)]
  simp only [Ch,Int.toNat_natCast,Gf (k:=k) (by omega)]
  rw [show decide ((nth p.Zs1.Zv k).Za ≥ n) = Xo n (nth p.Zs1.Zv k) from rfl]
  cases Xo n (nth p.Zs1.Zv k) <;> rfl
 ·unfold E3;rw [if_neg (by simp)]
theorem r6 : A9 (fun (v : Int) => Di p v) 0 = some (if p.Zw1.all (fun x => !Ab1 x) = true then .inl () else .inr (.inr 1)):=by
 have hh:=h.railways
 refine Dy p.Zw1 (Di p) (fun x => !Ab1 x) _ _ (by omega) (fun k hk => ?_) ?_
 ·unfold Di
  rw [if_pos (by simp;omega),if_pos (Cy hk)]
  simp only [Ch,Int.toNat_natCast,Gf (k:=k) (by omega)]
  have hc:=Aqz (h.days k hk)
  rw [if_pos (Cy hk)]
  generalize nth p.Zw1 k = r at *
  rw [show Hz _ = some (Ail r.Zr1) from hc]
  simp only [Arv,Aw,Nn]
  rw [show ((Ail r.Zr1 != 0) || !Alk r.Key) = Ab1 r from rfl]
  cases Ab1 r <;> rfl
 ·unfold Di;rw [if_neg (by simp)]
theorem AiL : Pg p = some (!(p.Zu1.any (Ld (p.Zs1.Zu.length : Int)) || (p.Zv1.any (Ww p) || p.Zt1.Zn1.any (Xa (p.Zs1.Zu.length : Int))))):=by
 unfold Pg
 rw [Ch,r1 h _ rfl,r2 h,r3 h]
 simp only [Aw,← Bool.not_eq_true',← List.not_any_eq_all_not]
 cases p.Zu1.any (Ld (p.Zs1.Zu.length : Int)) <;> cases p.Zv1.any (Ww p) <;> cases p.Zt1.Zn1.any (Xa (p.Zs1.Zu.length : Int)) <;> rfl
theorem AgP : L8 p = some (!(p.Zs1.Zu.any (Oq (p.Zw1.length : Int)) || p.Zs1.Zv.any (Xo (p.Zw1.length : Int)))):=by
 unfold L8
 rw [Ch,r4 h,r5 h]
 simp only [Aw,← List.not_any_eq_all_not]
 cases p.Zs1.Zu.any (Oq (p.Zw1.length : Int)) <;> cases p.Zs1.Zv.any (Xo (p.Zw1.length : Int)) <;> rfl
theorem Ald : ∃ e,C8 p = some e∧Gt p = some e∧(e = 0→p.Zs1.Zu.all H8 = true):=by
 obtain ⟨e1,n1,n2,n3⟩:=AmR p.Zs1 h.places h.edges
 obtain ⟨e2,f1,f2⟩:=Ag3 p.Zt1 h.types h.wagons h.swaps h.washes
 unfold C8 Gt
 rw [n1,n2,f1,f2]
 simp only [Aw,Ch,Nn]
 rw [AiL h,AgP h,r6 h,p1 h]
 simp only [Aw]
 rw [p2 h]
 simp only [Aw]
 rw [p3 h]
 simp only [Aw]
 rw [p4 h]
 simp only [Aw]
 rw [p5 h]
 simp only [Aw]
 rw [p6 h]
 simp only [Aw,Nn,Bool.not_not,← List.not_any_eq_all_not]
 split
 ·rename_i q1
  exact ⟨_,rfl,rfl,fun e => by subst e;exact absurd q1 (by decide)⟩
 rename_i q1
 have q0 : e1 = 0:=by simpa using q1
 have hall:=n3 q0
 split
 ·exact ⟨_,rfl,rfl,fun _ => hall⟩
 split
 ·exact ⟨_,rfl,rfl,fun _ => hall⟩
 ·generalize ((p.Zw1.length : Int) == 0) = z
  cases z <;> cases p.Zu1.any (Ld (p.Zs1.Zu.length : Int)) <;> cases p.Zv1.any (Ww p) <;> cases p.Zt1.Zn1.any (Xa (p.Zs1.Zu.length : Int)) <;> cases p.Zs1.Zu.any (Oq (p.Zw1.length : Int)) <;> cases p.Zs1.Zv.any (Xo (p.Zw1.length : Int)) <;> cases p.Zw1.any Ab1 <;> exact ⟨_,rfl,rfl,fun _ => hall⟩
end
theorem Ov (n lo hi : Int) : A3 n lo hi = some (decide (lo≤n) && decide (n≤hi)):=by
 unfold A3;by_cases h : lo≤n <;> simp [h]
theorem Aox (c : Edi_checker) (lo hi : Int) : Da c lo hi = some { c with it:={ c.it with Ze:=0 },ok:=c.ok && (decide (lo≤c.it.Ze) && decide (c.it.Ze≤hi)) }:=by
 unfold Da
 simp only [E4,Aw]
theorem And (c : Edi_checker) (lo hi : Int) : B6 c lo hi = some { c with it:={ c.it with Zg:=0 },ok:=c.ok && (decide (lo≤c.it.Zg) && decide (c.it.Zg≤hi)) }:=by
 unfold B6
 simp only [E4,Aw]
theorem Apq (c : Edi_checker) (lo hi : Int) : B5 c lo hi = some { c with it:={ c.it with Zh:=0 },ok:=c.ok && (decide (lo≤c.it.Zh) && decide (c.it.Zh≤hi)) }:=by
 unfold B5
 simp only [E4,Aw]
theorem An8 (c : Edi_checker) (lo hi : Int) : C4 c lo hi = some { c with it:={ c.it with Zi:=0 },ok:=c.ok && (decide (lo≤c.it.Zi) && decide (c.it.Zi≤hi)) }:=by
 unfold C4
 simp only [E4,Aw]
theorem Alt (c : Edi_checker) (lo hi : Int) : Db c lo hi = some { c with it:={ c.it with To:=0 },ok:=c.ok && (decide (lo≤c.it.To) && decide (c.it.To≤hi)) }:=by
 unfold Db
 simp only [E4,Aw]
theorem AoT (c : Edi_checker) (lo hi : Int) : Bp c lo hi = some { c with it:={ c.it with Code:=0 },ok:=c.ok && (decide (lo≤c.it.Code) && decide (c.it.Code≤hi)) }:=by
 unfold Bp
 simp only [E4,Aw]
theorem Anl (c : Edi_checker) (lo hi : Int) : C9 c lo hi = some { c with it:={ c.it with Zj:=0 },ok:=c.ok && (decide (lo≤c.it.Zj) && decide (c.it.Zj≤hi)) }:=by
 unfold C9
 simp only [E4,Aw]
theorem AoE (c : Edi_checker) (lo hi : Int) : C6 c lo hi = some { c with it:={ c.it with Zk:=0 },ok:=c.ok && (decide (lo≤c.it.Zk) && decide (c.it.Zk≤hi)) }:=by
 unfold C6
 simp only [E4,Aw]
theorem AlH (c : Edi_checker) (lo hi : Int) : Cm c lo hi = some { c with it:={ c.it with Zl:=0 },ok:=c.ok && (decide (lo≤c.it.Zl) && decide (c.it.Zl≤hi)) }:=by
 unfold Cm
 simp only [E4,Aw]
theorem Apr (c : Edi_checker) (lo hi : Int) : Cj c lo hi = some { c with it:={ c.it with Zm:=0 },ok:=c.ok && (decide (lo≤c.it.Zm) && decide (c.it.Zm≤hi)) }:=by
 unfold Cj
 simp only [E4,Aw]
def Gz (p : Api_Pool) (i : Int) : Api_Place:=if 0≤i∧i < (p.Zs1.Zu.length : Int) then nth p.Zs1.Zu i.toNat else ⟨0,0,0⟩
theorem AmW (c : Edi_checker) (kind : Int) : Bw c kind = some (Gz c.p c.it.Zf,{ c with it:={ c.it with Zf:=0 },ok:=c.ok && ((Gz c.p c.it.Zf).Zb != 0 && ((kind == 0) || ((Gz c.p c.it.Zf).Zb == kind))) }):=by
 unfold Bw Gz
 by_cases h : 0≤c.it.Zf∧c.it.Zf < (c.p.Zs1.Zu.length : Int)
 ·have e : (decide (c.it.Zf ≥ 0) && decide (c.it.Zf < (c.p.Zs1.Zu.length : Int))) = true:=by simp;omega
  simp only [E4,Aw,e,if_true]
  rw [if_pos (show InR c.it.Zf c.p.Zs1.Zu.length by unfold InR;omega),if_pos h]
  simp only [Ch,Aw,E4,Nn]
 ·have e : (decide (c.it.Zf ≥ 0) && decide (c.it.Zf < (c.p.Zs1.Zu.length : Int))) = false:=by
   rw [Bool.eq_false_iff];simp;omega
  simp only [E4,Aw,e,Bool.false_eq_true,if_false]
  rw [if_neg h]
  simp only [Aw,E4,Nn]
def Lw (fit : Bool) (x : Api_Part) : Bool:=(decide (1≤x.Zb) && decide (x.Zb≤3)) && ((decide (0≤x.Zc) && decide (x.Zc≤1073741824)) && !(x.Zd && !fit))
theorem Ai8 (l : List Api_Part) (fit : Bool) (hl : l.length≤1000000) : K1 l fit = some (l.all (Lw fit) && decide ((l.length : Int)≤16)):=by
 have h : A9 (fun (v : Int) => E0 l fit v) 0 = some (if l.all (Lw fit) = true then .inl () else .inr (.inr false)):=by
  refine Dy l (E0 l fit) (Lw fit) _ _ (by omega) (fun k hk => ?_) ?_
  ·unfold E0
   rw [if_pos (by simp;omega),if_pos (Cy hk)]
   simp only [Ch,Int.toNat_natCast,Gf (k:=k) (by omega),Nn,E4,Aw]
   generalize nth l k = x
   have e : (decide (x.Zb < 1) || (decide (x.Zb > 3) || (decide (x.Zc < 0) || (decide (x.Zc > 1073741824) || (x.Zd && !fit))))) = !Lw fit x:=by
    unfold Lw
    rw [Bool.eq_iff_iff]
    cases x.Zd <;> cases fit <;> simp <;> omega
   rw [e]
   cases Lw fit x <;> rfl
  ·unfold E0;rw [if_neg (by simp)]
 unfold K1
 rw [h]
 simp only [Aw]
 cases l.all (Lw fit) <;> rfl
theorem Ajg (it : Api_Item) (hl : it.Zo.length≤1000000) : Mg it = some (!(decide ((it.Zo.length : Int) > 16) || ((it.Zb == 10) && ((it.Zo.length : Int) == 0))) && it.Zo.all (Lw (!(it.Zb == 10)))):=by
 have h : A9 (fun (v : Int) => E8 it v) 0 = some (if it.Zo.all (Lw (!(it.Zb == 10))) = true then .inl () else .inr (.inr false)):=by
  refine Dy it.Zo (E8 it) (Lw (!(it.Zb == 10))) _ _ (by omega) (fun k hk => ?_) ?_
  ·unfold E8
   rw [if_pos (by simp;omega),if_pos (Cy hk)]
   simp only [Ch,Int.toNat_natCast,Gf (k:=k) (by omega),Ov,Nn,E4,Aw]
   generalize nth it.Zo k = x
   generalize (it.Zb == 10) = z
   have e : (!(decide (1≤x.Zb) && decide (x.Zb≤3)) || (!(decide (0≤x.Zc) && decide (x.Zc≤1073741824)) || (z && x.Zd))) = !Lw (!z) x:=by
    unfold Lw
    rw [Bool.eq_iff_iff]
    cases x.Zd <;> cases z <;> simp <;> omega
   rw [e]
   cases Lw (!z) x <;> rfl
  ·unfold E8;rw [if_neg (by simp)]
 unfold Mg
 rw [h]
 simp only [Aw,Nn,E4]
 cases it.Zo.all (Lw (!(it.Zb == 10))) <;> cases (decide ((it.Zo.length : Int) > 16) || ((it.Zb == 10) && ((it.Zo.length : Int) == 0))) <;> rfl
theorem AhA (it : Api_Item) : Gx it = D1 it:=by
 unfold Gx D1
 simp only [Ov,E4,Aw]
 congr 2
 rw [Bool.eq_iff_iff]
 simp <;> omega
def Aiw (it : Api_Item) : Bool:=(D1 it).getD false
theorem Alv (it : Api_Item) : D1 it = some (Aiw it):=by
 unfold Aiw D1
 simp only [Ov,E4,Aw]
 simp only [Ue,Option.getD_some]
theorem Aou (s : List UInt8) (b : UInt8) (hl : s.length≤1000000) : Me s b = some (s.any (fun c => c == b)):=by
 have h : A9 (fun (v : Int) => I6 s b v) 0 = some (if s.all (fun c => !(c == b)) = true then .inl () else .inr (.inr true)):=by
  refine Dy s (I6 s b) (fun c => !(c == b)) _ _ (by omega) (fun k hk => ?_) ?_
  ·unfold I6
   rw [if_pos (by simp;omega),if_pos (Cy hk)]
   simp only [Int.toNat_natCast,Gf (k:=k) (by omega)]
   cases nth s k == b <;> rfl
  ·unfold I6;rw [if_neg (by simp)]
 unfold Me
 rw [h,← List.not_any_eq_all_not]
 cases s.any (fun c => c == b) <;> rfl
theorem Afs {α X : Type} [Inhabited α] (l : List α) (f : Int→Option (Int ⊕ X)) (p : α→Bool) (good bad : X) (hl : l.length < 1152921504606846976)
  (hs : ∀ k : Nat,k < l.length→(∀ j,j < k→p (nth l j) = true)→f (k : Int) = some (if p (nth l k) = true then .inl ((k + 1 : Nat) : Int) else .inr bad)) (he : f (l.length : Int) = some (.inr good)) :
  A9 (fun v => f v) 0 = some (if l.all p = true then good else bad):=by
 obtain ⟨x,hx,hq⟩ : ∃ x,A9 (fun v => f v) 0 = some x∧x = (if l.all p = true then good else bad):=by
  refine Fs (fun v => ∃ k : Nat,v = (k : Int)∧k≤l.length∧(l.take k).all p = true∧∀ j,j < k→p (nth l j) = true) (fun v => (l.length - v).toNat) _ ?_ ⟨0,rfl,Nat.zero_le _,rfl,fun j hj => by omega⟩ (by simp;omega)
  rintro v ⟨k,rfl,hk,ht,hj⟩
  by_cases h1 : k < l.length
  ·have hn : nth l k = l[k]:=by simp [nth,h1]
   rw [hs k h1 hj]
   by_cases hp : p (nth l k) = true
   ·left
    refine ⟨_,by rw [if_pos hp],⟨k + 1,rfl,by omega,?_,fun j hjk => ?_⟩,by omega⟩
    ·rw [List.take_succ_eq_append_getElem h1,List.all_append,ht,← hn]
     simp [hp]
    ·by_cases e : j = k
     ·subst e;exact hp
     ·exact hj j (by omega)
   ·right
    refine ⟨_,by rw [if_neg hp],?_⟩
    rw [if_neg]
    intro ha
    rw [List.all_eq_true] at ha
    exact hp (by rw [hn];exact ha _ (List.getElem_mem h1))
  ·right
   have : k = l.length:=by omega
   subst this
   rw [List.take_length] at ht
   exact ⟨_,he,by rw [if_pos ht]⟩
 rw [hx,hq]
def LN : List UInt8:=[119,112,111,110,102,116,99,100,107,103,97]
def Ej (it : Api_Item) (x : UInt8) : Int:=(Cl it x).getD 0
theorem AjI (it : Api_Item) (x : UInt8) : Cl it x = some (Ej it x):=by
 unfold Ej Cl
 simp only [Ue,Option.getD_some]
def Lc (p : Api_Pool) (i : Int) : Bool:=decide (0≤i) && decide (i≤(p.Zs1.Zu.length : Int) - 1)
def T7 (p : Api_Pool) (it : Api_Item) : Bool:=Lc p it.Zf && (if ((it.Zb == 3) || (it.Zb == 4)) = true then (Gz p it.Zf).Zb == 3 else if (it.Zb == 9) = true then (Gz p it.Zf).Zb == 5 else true)
def Y9 (p : Api_Pool) (it : Api_Item) : Bool :=
 if (it.Zb == 1) = true then decide (0≤it.Zg) && decide (it.Zg≤(p.Zu1.length : Int) - 1)
 else if ((it.Zb == 3) || (it.Zb == 4)) = true then (it.Zg == (Gz p it.Zf).Za) || (it.Zg == (Gz p it.Zf).Zg)
 else if (it.Zb == 10) = true then decide (0≤it.Zg) && decide (it.Zg≤63)
 else decide (0≤it.Zg) && decide (it.Zg≤(p.Zv1.length : Int) - 1)
def Tj (p : Api_Pool) (it : Api_Item) : Bool :=
 if (it.Zb == 5) = true then decide (1≤it.Zh) && decide (it.Zh≤1000000000)
 else if (it.Zb == 15) = true then decide (0≤it.Zh) && decide (it.Zh≤(p.Zt1.Zm1.length : Int) - 1)
 else decide (1≤it.Zh) && decide (it.Zh≤6)
def Af0 (it : Api_Item) : Bool :=
 if ((it.Zb == 3) || (it.Zb == 4)) = true then decide (0≤it.Code) && decide (it.Code≤8)
 else if (it.Zb == 6) = true then decide (0≤it.Code) && decide (it.Code≤1)
 else if (it.Zb == 8) = true then decide (1≤it.Code) && decide (it.Code≤9)
 else decide (1≤it.Code) && decide (it.Code≤2)
def Ek (p : Api_Pool) (it : Api_Item) (x : UInt8) : Bool :=
 if (x == 119) = true then decide (0≤it.Ze) && decide (it.Ze≤(p.Zt1.Zn1.length : Int) - 1)
 else if (x == 112) = true then T7 p it
 else if (x == 111) = true then Y9 p it
 else if (x == 110) = true then Tj p it
 else if (x == 102) = true then decide (0≤it.Zi) && decide (it.Zi≤1073741824)
 else if (x == 116) = true then decide (it.Zi≤it.To) && decide (it.To≤1073741824)
 else if (x == 99) = true then Af0 it
 else if (x == 100) = true then Lc p it.Zj
 else if (x == 107) = true then decide (0≤it.Zk) && decide (it.Zk≤63)
 else if (x == 103) = true then (if (it.Zb == 15) = true then decide (1≤it.Zl) && decide (it.Zl≤1000) else decide (0≤it.Zl) && decide (it.Zl≤1000000))
 else decide (0≤it.Zm) && decide (it.Zm≤1000000000)
theorem Xv (a b : Bool) : (if a = true then some a else some b) = some (a || b):=by cases a <;> rfl
section
variable {p : Api_Pool} (h : Few p) (it : Api_Item)
include h
theorem AqK : w64 ((p.Zs1.Zu.length : Int) - 1) = (p.Zs1.Zu.length : Int) - 1:=G6 (by have:=h.places;omega)
theorem w_wg : w64 ((p.Zt1.Zn1.length : Int) - 1) = (p.Zt1.Zn1.length : Int) - 1:=G6 (by have:=h.wagons;omega)
theorem w_ty : w64 ((p.Zt1.Zm1.length : Int) - 1) = (p.Zt1.Zm1.length : Int) - 1:=G6 (by have:=h.types;omega)
theorem w_rd : w64 ((p.Zu1.length : Int) - 1) = (p.Zu1.length : Int) - 1:=G6 (by have:=h.readers;omega)
theorem w_sh : w64 ((p.Zv1.length : Int) - 1) = (p.Zv1.length : Int) - 1:=G6 (by have:=h.shippers;omega)
theorem AjD : L7 p it = some (T7 p it):=by
 unfold L7 T7 Lc Gz
 simp only [Ov,Aw,AqK h,Xv]
 by_cases hr : 0≤it.Zf∧it.Zf < (p.Zs1.Zu.length : Int)
 ·have e : (decide (0≤it.Zf) && decide (it.Zf≤(p.Zs1.Zu.length : Int) - 1)) = true:=by simp;omega
  rw [e,if_neg (by simp),if_pos (show InR it.Zf p.Zs1.Zu.length by unfold InR;omega),if_pos hr]
  simp only [Ch,Aw,Ue,Bool.true_and]
 ·have e : (decide (0≤it.Zf) && decide (it.Zf≤(p.Zs1.Zu.length : Int) - 1)) = false:=by rw [Bool.eq_false_iff];simp;omega
  rw [e,if_pos (by simp),Bool.false_and]
theorem Ak2 (hr : it.Zb = 3∨it.Zb = 4→Lc p it.Zf = true) : Mb p it = some (Y9 p it):=by
 unfold Mb Y9
 simp only [Ov,Aw,w_rd h,w_sh h,Xv,Nn]
 by_cases h1 : (it.Zb == 1) = true
 ·rw [if_pos h1,if_pos h1]
 ·rw [if_neg h1,if_neg h1]
  by_cases h3 : ((it.Zb == 3) || (it.Zb == 4)) = true
  ·have hk : it.Zb = 3∨it.Zb = 4:=by simpa using h3
   have hq:=hr hk
   unfold Lc at hq
   have hq' : 0≤it.Zf∧it.Zf < (p.Zs1.Zu.length : Int):=by simp at hq;omega
   rw [if_pos h3,if_pos h3,if_pos (show InR it.Zf p.Zs1.Zu.length by unfold InR;omega)]
   unfold Gz
   rw [if_pos hq']
   simp only [Ch]
  ·rw [if_neg h3,if_neg h3]
   simp only [Ue]
theorem Ag4 : Ku p it = some (Tj p it):=by
 unfold Ku Tj
 simp only [Ov,Aw,w_ty h,Ue]
omit h in
theorem AnJ : O3 it = some (Af0 it):=by
 unfold O3 Af0
 simp only [Ov,Aw,Xv]
 simp only [Ue]
theorem Ak0 (x : UInt8) (hr : x = 111→it.Zb = 3∨it.Zb = 4→Lc p it.Zf = true) : Mt p it x = some (Ek p it x):=by
 unfold Mt Ek
 simp only [AjD h,Ag4 h,AnJ,Ov,Aw,w_wg h,AqK h]
 by_cases h1 : (x == 111) = true
 ·have hx : x = 111:=by simpa using h1
  rw [Ak2 h it (hr hx)]
  simp only [Aw,Ue]
  rfl
 ·rw [if_neg h1,if_neg h1]
  simp only [Ue]
  rfl
def rb (p : Api_Pool) (it : Api_Item) (u : List UInt8) (x : UInt8) : Bool:=if u.any (fun c => c == x) = true then Ek p it x else Ej it x == 0
def Y4 (p : Api_Pool) (it : Api_Item) (u : List UInt8) : Bool :=
 LN.all (rb p it u) && (((u.any (fun c => c == 120) == !(it.Zn == [])) && !decide ((it.Zn.length : Int) > 2000)) &&
  (if u.any (fun c => c == 113) = true then !(decide ((it.Zo.length : Int) > 16) || ((it.Zb == 10) && ((it.Zo.length : Int) == 0))) && it.Zo.all (Lw (!(it.Zb == 10))) else (it.Zo.length : Int) == 0))
theorem Agd (u : List UInt8) (hu : Gp it.Zb = some u) (hul : u.length≤100) (hpl : it.Zb = 3∨it.Zb = 4→u.any (fun c => c == 112) = true) (hpt : it.Zo.length≤1000000) :
  Ks p it = some (((decide (1≤it.Zb) && decide (it.Zb≤15)) && Aiw it) && Y4 p it u):=by
 have hl : A9 (fun (v : Int) => E5 p it u v) 0 = some (if LN.all (rb p it u) = true then .inl () else .inr (.inr false)):=by
  refine Afs LN (E5 p it u) (rb p it u) _ _ (by decide) (fun k hk hj => ?_) ?_
  ·have hk' : k < 11:=hk
   unfold E5
   rw [if_pos (by simp;omega),if_pos (show InR (k : Int) ([119,112,111,110,102,116,99,100,107,103,97] : List UInt8).length from Cy hk)]
   simp only [Ch,Int.toNat_natCast,Gf (k:=k) (by omega)]
   rw [show nth ([119,112,111,110,102,116,99,100,107,103,97] : List UInt8) k = nth LN k from rfl]
   have hrr : nth LN k = 111→it.Zb = 3∨it.Zb = 4→Lc p it.Zf = true:=by
    intro hx hkk
    have h2 : k = 2:=by
     have : ∀ q : Fin 11,nth LN q.val = 111→q.val = 2:=by decide
     exact this ⟨k,hk'⟩ hx
    have hp1:=hj 1 (by omega)
    unfold rb at hp1
    rw [show nth LN 1 = 112 from rfl,if_pos (hpl hkk)] at hp1
    have : T7 p it = true:=hp1
    unfold T7 at this
    rw [Bool.and_eq_true] at this
    exact this.1
   rw [Aou u _ (by omega),Ak0 h it _ hrr,AjI]
   simp only [Aw]
   unfold rb
   cases u.any (fun c => c == nth LN k)
   ·cases hf : (Ej it (nth LN k) == 0) <;> simp [bne,hf]
   ·cases Ek p it (nth LN k) <;> rfl
  ·unfold E5;rw [if_neg (by decide)]
 unfold Ks Y4
 rw [hu]
 simp only [Aw,Ov,Alv,Nn,Aou u _ (show u.length≤1000000 by omega),Ajg it hpt]
 rw [hl]
 simp only [Aw]
 generalize LN.all (rb p it u) = z1
 generalize (decide (1≤it.Zb) && decide (it.Zb≤15)) = z2
 generalize Aiw it = z3
 generalize (u.any (fun c => c == 120) == !(it.Zn == [])) = z4
 generalize decide ((it.Zn.length : Int) > 2000) = z5
 generalize u.any (fun c => c == 113) = z6
 generalize (!(decide ((it.Zo.length : Int) > 16) || ((it.Zb == 10) && ((it.Zo.length : Int) == 0))) && it.Zo.all (Lw (!(it.Zb == 10)))) = z7
 generalize ((it.Zo.length : Int) == 0) = z8
 cases z1 <;> cases z2 <;> cases z3 <;> cases z4 <;> cases z5 <;> cases z6 <;> cases z7 <;> cases z8 <;> rfl
end
set_option maxRecDepth 8000
set_option maxHeartbeats 8000000
theorem ArU (a b c : Int) : AcT a b≤c↔a≤c∧b≤c:=by unfold AcT;split <;> omega
theorem Ajz (l : List UInt8) : (l == ([] : List UInt8)) = decide ((l.length : Int) = 0):=by cases l <;> simp <;> omega
theorem AjV (n m : Int) : (n == m) = decide (n = m):=by rw [Bool.eq_iff_iff];simp
theorem AeC (a b : UInt8) : (a == b) = (a.toNat == b.toNat):=by rw [Bool.eq_iff_iff,beq_iff_eq,beq_iff_eq,UInt8.toNat_inj]
theorem AjC (n m : Int) : (n != m) = decide (¬ n = m):=by rw [Bool.eq_iff_iff];simp
theorem rv_w (p : Api_Pool) (it : Api_Item) : Ek p it 119 = (decide (0≤it.Ze) && decide (it.Ze≤(p.Zt1.Zn1.length : Int) - 1)):=by unfold Ek;rw [if_pos (by decide)]
theorem fv_w (it : Api_Item) : Ej it 119 = it.Ze:=by unfold Ej Cl;rw [if_pos (by decide)];rfl
theorem rv_p (p : Api_Pool) (it : Api_Item) : Ek p it 112 = T7 p it:=by unfold Ek;rw [if_neg (by decide),if_pos (by decide)]
theorem fv_p (it : Api_Item) : Ej it 112 = it.Zf:=by unfold Ej Cl;rw [if_neg (by decide),if_pos (by decide)];rfl
theorem rv_o (p : Api_Pool) (it : Api_Item) : Ek p it 111 = Y9 p it:=by unfold Ek;rw [if_neg (by decide),if_neg (by decide),if_pos (by decide)]
theorem fv_o (it : Api_Item) : Ej it 111 = it.Zg:=by unfold Ej Cl;rw [if_neg (by decide),if_neg (by decide),if_pos (by decide)];rfl
theorem rv_n (p : Api_Pool) (it : Api_Item) : Ek p it 110 = Tj p it:=by unfold Ek;rw [if_neg (by decide),if_neg (by decide),if_neg (by decide),if_pos (by decide)]
theorem fv_n (it : Api_Item) : Ej it 110 = it.Zh:=by unfold Ej Cl;rw [if_neg (by decide),if_neg (by decide),if_neg (by decide),if_pos (by decide)];rfl
theorem rv_f (p : Api_Pool) (it : Api_Item) : Ek p it 102 = (decide (0≤it.Zi) && decide (it.Zi≤1073741824)):=by unfold Ek;rw [if_neg (by decide),if_neg (by decide),if_neg (by decide),if_neg (by decide),if_pos (by decide)]
theorem fv_f (it : Api_Item) : Ej it 102 = it.Zi:=by unfold Ej Cl;rw [if_neg (by decide),if_neg (by decide),if_neg (by decide),if_neg (by decide),if_pos (by decide)];rfl
theorem rv_t (p : Api_Pool) (it : Api_Item) : Ek p it 116 = (decide (it.Zi≤it.To) && decide (it.To≤1073741824)):=by unfold Ek;rw [if_neg (by decide),if_neg (by decide),if_neg (by decide),if_neg (by decide),if_neg (by decide),if_pos (by decide)]
theorem fv_t (it : Api_Item) : Ej it 116 = it.To:=by unfold Ej Cl;rw [if_neg (by decide),if_neg (by decide),if_neg (by decide),if_neg (by decide),if_neg (by decide),if_pos (by decide)];rfl
theorem rv_c (p : Api_Pool) (it : Api_Item) : Ek p it 99 = Af0 it:=by unfold Ek;rw [if_neg (by decide),if_neg (by decide),if_neg (by decide),if_neg (by decide),if_neg (by decide),if_neg (by decide),if_pos (by decide)]
theorem fv_c (it : Api_Item) : Ej it 99 = it.Code:=by unfold Ej Cl;rw [if_neg (by decide),if_neg (by decide),if_neg (by decide),if_neg (by decide),if_neg (by decide),if_neg (by decide),if_pos (by decide)];rfl
theorem rv_d (p : Api_Pool) (it : Api_Item) : Ek p it 100 = Lc p it.Zj:=by unfold Ek;rw [if_neg (by decide),if_neg (by decide),if_neg (by decide),if_neg (by decide),if_neg (by decide),if_neg (by decide),if_neg (by decide),if_pos (by decide)]
theorem fv_d (it : Api_Item) : Ej it 100 = it.Zj:=by unfold Ej Cl;rw [if_neg (by decide),if_neg (by decide),if_neg (by decide),if_neg (by decide),if_neg (by decide),if_neg (by decide),if_neg (by decide),if_pos (by decide)];rfl
theorem rv_k (p : Api_Pool) (it : Api_Item) : Ek p it 107 = (decide (0≤it.Zk) && decide (it.Zk≤63)):=by unfold Ek;rw [if_neg (by decide),if_neg (by decide),if_neg (by decide),if_neg (by decide),if_neg (by decide),if_neg (by decide),if_neg (by decide),if_neg (by decide),if_pos (by decide)]
theorem fv_k (it : Api_Item) : Ej it 107 = it.Zk:=by unfold Ej Cl;rw [if_neg (by decide),if_neg (by decide),if_neg (by decide),if_neg (by decide),if_neg (by decide),if_neg (by decide),if_neg (by decide),if_neg (by decide),if_pos (by decide)];rfl
theorem rv_g (p : Api_Pool) (it : Api_Item) : Ek p it 103 = (if (it.Zb == 15) = true then decide (1≤it.Zl) && decide (it.Zl≤1000) else decide (0≤it.Zl) && decide (it.Zl≤1000000)):=by unfold Ek;rw [if_neg (by decide),if_neg (by decide),if_neg (by decide),if_neg (by decide),if_neg (by decide),if_neg (by decide),if_neg (by decide),if_neg (by decide),if_neg (by decide),if_pos (by decide)]
theorem fv_g (it : Api_Item) : Ej it 103 = it.Zl:=by unfold Ej Cl;rw [if_neg (by decide),if_neg (by decide),if_neg (by decide),if_neg (by decide),if_neg (by decide),if_neg (by decide),if_neg (by decide),if_neg (by decide),if_neg (by decide),if_pos (by decide)];rfl
theorem rv_a (p : Api_Pool) (it : Api_Item) : Ek p it 97 = (decide (0≤it.Zm) && decide (it.Zm≤1000000000)):=by unfold Ek;rw [if_neg (by decide),if_neg (by decide),if_neg (by decide),if_neg (by decide),if_neg (by decide),if_neg (by decide),if_neg (by decide),if_neg (by decide),if_neg (by decide),if_neg (by decide)]
theorem fv_a (it : Api_Item) : Ej it 97 = it.Zm:=by unfold Ej Cl;rw [if_neg (by decide),if_neg (by decide),if_neg (by decide),if_neg (by decide),if_neg (by decide),if_neg (by decide),if_neg (by decide),if_neg (by decide),if_neg (by decide),if_neg (by decide)];rfl
theorem AeS {p : Api_Pool} (h : Few p) (hv : ∀ i : Int,((Gz p i).Zb != 0) = (decide (0≤i) && decide (i≤(p.Zs1.Zu.length : Int) - 1))) (R : Api_Ref) (w pl o n f t c d cl g a : Int) (tx : List UInt8) (ps : List Api_Part) (hps : ps.length≤1000000) (K : Int) (hK : ¬ (K < 1∨15 < K)) :
  ∃ u,Gp K = some u∧u.length≤100∧(K = 3∨K = 4→u.any (fun c => c == 112) = true)∧Fp p ⟨K,R,w,pl,o,n,f,t,c,d,cl,g,a,tx,ps⟩ = some (Y4 p ⟨K,R,w,pl,o,n,f,t,c,d,cl,g,a,tx,ps⟩ u):=by
 have hK : K = 1∨K = 2∨K = 3∨K = 4∨K = 5∨K = 6∨K = 7∨K = 8∨K = 9∨K = 10∨K = 11∨K = 12∨K = 13∨K = 14∨K = 15:=by omega
 rcases hK with rfl | rfl | rfl | rfl | rfl | rfl | rfl | rfl | rfl | rfl | rfl | rfl | rfl | rfl | rfl <;> refine ⟨_,rfl,by decide,by decide,?_⟩ <;> unfold Fp Dj Eg Y4 LN <;>
  simp only [Dp,Ca,C0,Eh,Dx,Aox,AmW,And,Apq,An8,Alt,AoT,Anl,AoE,AlH,Apr,Ai8 ps _ hps,AqK h,w_wg h,w_ty h,w_rd h,w_sh h,Aw,E4,Nn,Xv,hv,List.all_cons,List.all_nil,rb,List.any_cons,List.any_nil,AeC,UInt8.reduceToNat,Nat.reduceBEq,rv_w,fv_w,rv_p,fv_p,rv_o,fv_o,rv_n,fv_n,rv_f,fv_f,rv_t,fv_t,rv_c,fv_c,rv_d,fv_d,rv_k,fv_k,rv_g,fv_g,rv_a,fv_a,T7,Y9,Tj,Af0,Lc,
   Int.reduceLE,Int.reduceLT,Int.reduceBEq,Int.reduceBNe,Int.reduceEq,Int.reduceGT,Int.reduceGE,decide_true,decide_false,if_true,if_false,Bool.false_eq_true,Bool.true_and,Bool.and_true,Bool.true_or,Bool.or_true,Bool.false_or,Bool.or_false,Bool.false_and,Bool.not_true,Bool.not_false,beq_self_eq_true,List.length_nil,Bool.true_beq,Bool.false_beq,Bool.not_not,Int.ofNat_zero,Int.cast_ofNat_Int,Option.some.injEq] <;>
  rw [Bool.eq_iff_iff] <;>
  simp only [Ajz,AjV,AjC,Bool.and_eq_true,Bool.or_eq_true,Bool.not_eq_true',decide_eq_true_eq,decide_eq_false_iff_not,ArU,Bool.or_eq_false_iff,Bool.not_eq_eq_eq_not,Bool.not_true,Bool.not_false,true_and,and_true,and_assoc]
 ·constructor
  ·rintro ⟨h0,h1,h2,h3,h4,h5,h6,h7,h8,h9,h10,h11,h12,h13,h14,h15⟩
   exact ⟨h0,h1,h6,h2,h3,h7,h4,h5,h8,h9,h10,h11,h12,h13,h14,by first | omega | rfl,h15⟩
  ·rintro ⟨h0,h1,h2,h3,h4,h5,h6,h7,h8,h9,h10,h11,h12,h13,h14,h15,h16⟩
   exact ⟨h0,h1,h3,h4,h6,h7,h2,h5,h8,h9,h10,h11,h12,h13,h14,h16⟩
 ·constructor
  ·rintro ⟨h0,h1,h2,h3,h4,h5,h6,h7,h8,h9,h10,h11,h12,h13,h14,h15,h16,h17⟩
   exact ⟨h0,h1,h2,h3,h9,h10,h7,h8,h4,h6,h11,h12,h13,h14,h15,h16,by first | omega | rfl,h17⟩
  ·rintro ⟨h0,h1,h2,h3,h4,h5,h6,h7,h8,h9,h10,h11,h12,h13,h14,h15,h16,h17⟩
   exact ⟨h0,h1,h2,h3,h8,by first | omega | rfl,h9,h6,h7,h4,h5,h10,h11,h12,h13,h14,h15,h17⟩
 ·constructor
  ·rintro ⟨h0,h1,h2,h3,h4,h5,h6,h7,h8,h9,h10,h11,h12,h13,h14,h15,h16,h17⟩
   exact ⟨h0,h1,h2,h3,h4,h5,h10,h6,h7,h11,h8,h9,h12,h13,h14,h15,h16,by first | omega | rfl,h17⟩
  ·rintro ⟨h0,h1,h2,h3,h4,h5,h6,h7,h8,h9,h10,h11,h12,h13,h14,h15,h16,h17,h18⟩
   exact ⟨h0,h1,h2,h3,h4,h5,h7,h8,h10,h11,h6,h9,h12,h13,h14,h15,h16,h18⟩
 ·constructor
  ·rintro ⟨h0,h1,h2,h3,h4,h5,h6,h7,h8,h9,h10,h11,h12,h13,h14,h15,h16,h17⟩
   exact ⟨h0,h1,h2,h3,h4,h5,h10,h6,h7,h11,h8,h9,h12,h13,h14,h15,h16,by first | omega | rfl,h17⟩
  ·rintro ⟨h0,h1,h2,h3,h4,h5,h6,h7,h8,h9,h10,h11,h12,h13,h14,h15,h16,h17,h18⟩
   exact ⟨h0,h1,h2,h3,h4,h5,h7,h8,h10,h11,h6,h9,h12,h13,h14,h15,h16,h18⟩
 ·constructor
  ·rintro ⟨h0,h1,h2,h3,h4,h5,h6,h7,h8,h9,h10,h11,h12,h13,h14,h15,h16,h17,h18,h19,h20⟩
   exact ⟨h0,h1,h6,h7,h4,h5,h2,h3,h14,h15,h16,h17,h8,h9,h10,h11,h12,h13,h18,h19,by first | omega | rfl,h20⟩
  ·rintro ⟨h0,h1,h2,h3,h4,h5,h6,h7,h8,h9,h10,h11,h12,h13,h14,h15,h16,h17,h18,h19,h20,h21⟩
   exact ⟨h0,h1,h6,h7,h4,h5,h2,h3,h12,h13,h14,h15,h16,h17,h8,h9,h10,h11,h18,h19,h21⟩
 ·constructor
  ·rintro ⟨h0,h1,h2,h3,h4,h5,h6,h7,h8,h9,h10,h11,h12,h13,h14,h15,h16,h17⟩
   exact ⟨h0,h1,h2,h3,h4,h5,h10,h6,h7,h11,h8,h9,h12,h13,h14,h15,h16,by first | omega | rfl,h17⟩
  ·rintro ⟨h0,h1,h2,h3,h4,h5,h6,h7,h8,h9,h10,h11,h12,h13,h14,h15,h16,h17,h18⟩
   exact ⟨h0,h1,h2,h3,h4,h5,h7,h8,h10,h11,h6,h9,h12,h13,h14,h15,h16,h18⟩
 ·constructor
  ·rintro ⟨h0,h1,h2,h3,h4,h5,h6,h7,h8,h9,h10,h11,h12,h13,h14,h15,h16⟩
   exact ⟨h0,h1,h2,h3,h4,h5,h8,h6,h7,h9,h10,h11,h12,h13,h14,h15,by first | omega | rfl,h16⟩
  ·rintro ⟨h0,h1,h2,h3,h4,h5,h6,h7,h8,h9,h10,h11,h12,h13,h14,h15,h16,h17⟩
   exact ⟨h0,h1,h2,h3,h4,h5,h7,h8,h6,h9,h10,h11,h12,h13,h14,h15,h17⟩
 ·constructor
  ·rintro ⟨h0,h1,h2,h3,h4,h5,h6,h7,h8,h9,h10,h11,h12,h13,h14,h15⟩
   exact ⟨h0,h1,h6,h7,h8,h2,h3,h9,h4,h5,h10,h11,h12,h13,h14,by first | omega | rfl,h15⟩
  ·rintro ⟨h0,h1,h2,h3,h4,h5,h6,h7,h8,h9,h10,h11,h12,h13,h14,h15,h16⟩
   exact ⟨h0,h1,h5,h6,h8,h9,h2,h3,h4,h7,h10,h11,h12,h13,h14,h16⟩
 ·generalize ps.all (Lw true) = z
  cases z
  ·simp only [Bool.false_eq_true,and_false,false_and]
  ·simp only [eq_self,and_true,true_and,and_assoc]
   constructor
   ·rintro ⟨h0,h1,h2,h3,h4,h5,h6,h7,h8,h9,h10,h11,h12,h13,h14,h15,h16,h17,h18,h19,h20⟩
    exact ⟨h0,h1,h2,h3,h4,h15,h16,h8,h9,h5,h7,h10,h11,h17,h18,h19,h12,h13,h20,by first | omega | rfl,by first | omega | rfl⟩
   ·rintro ⟨h0,h1,h2,h3,h4,h5,h6,h7,h8,h9,h10,h11,h12,h13,h14,h15,h16,h17,h18,h19,h20⟩
    exact ⟨h0,h1,h2,h3,h4,h9,by first | omega | rfl,h10,h7,h8,h11,h12,h16,h17,by first | omega | rfl,h5,h6,h13,h14,h15,h18⟩
 ·generalize ps.all (Lw false) = z
  cases z
  ·simp only [Bool.false_eq_true,and_false,false_and]
  ·simp only [eq_self,and_true,true_and,and_assoc]
   constructor
   ·rintro ⟨h0,h1,h2,h3,h4,h5,h6,h7,h8,h9,h10,h11,h12,h13,h14⟩
    exact ⟨h4,h5,h0,h1,h6,h7,h8,h9,h10,h11,h12,h13,h14,by first | omega | rfl,by first | omega | rfl,by first | omega | rfl⟩
   ·rintro ⟨h0,h1,h2,h3,h4,h5,h6,h7,h8,h9,h10,h11,h12,h13,h14,h15⟩
    exact ⟨h2,h3,by first | omega | rfl,by first | omega | rfl,h0,h1,h4,h5,h6,h7,h8,h9,h10,h11,h12⟩
 ·constructor
  ·rintro ⟨h0,h1,h2,h3,h4,h5,h6,h7,h8,h9,h10,h11,h12,h13,h14,h15⟩
   exact ⟨h6,h7,h8,h0,h1,h2,h3,h9,h10,h11,h12,h13,h14,by first | omega | rfl,by first | omega | rfl,h15⟩
  ·rintro ⟨h0,h1,h2,h3,h4,h5,h6,h7,h8,h9,h10,h11,h12,h13,h14,h15⟩
   exact ⟨h3,h4,h5,h6,by first | omega | rfl,by first | omega | rfl,h0,h1,h2,h7,h8,h9,h10,h11,h12,h15⟩
 ·constructor
  ·rintro ⟨h0,h1,h2,h3,h4,h5,h6,h7,h8,h9,h10,h11,h12,h13,h14,h15⟩
   exact ⟨h6,h7,h8,h0,h1,h2,h3,h9,h10,h11,h12,h13,h14,by first | omega | rfl,by first | omega | rfl,h15⟩
  ·rintro ⟨h0,h1,h2,h3,h4,h5,h6,h7,h8,h9,h10,h11,h12,h13,h14,h15⟩
   exact ⟨h3,h4,h5,h6,by first | omega | rfl,by first | omega | rfl,h0,h1,h2,h7,h8,h9,h10,h11,h12,h15⟩
 ·constructor
  ·rintro ⟨h0,h1,h2,h3,h4,h5,h6,h7,h8,h9,h10,h11,h12,h13,h14⟩
   exact ⟨h4,h5,h6,h0,h1,h2,h3,h7,h8,h9,h10,h11,h12,h13,by first | omega | rfl,h14⟩
  ·rintro ⟨h0,h1,h2,h3,h4,h5,h6,h7,h8,h9,h10,h11,h12,h13,h14,h15⟩
   exact ⟨h3,h4,h5,h6,h0,h1,h2,h7,h8,h9,h10,h11,h12,h13,h15⟩
 ·constructor
  ·rintro ⟨h0,h1,h2,h3,h4,h5,h6,h7,h8,h9,h10,h11,h12⟩
   exact ⟨h0,h1,h2,h3,h4,h5,h6,h7,h8,h9,h10,h11,by first | omega | rfl,h12⟩
  ·rintro ⟨h0,h1,h2,h3,h4,h5,h6,h7,h8,h9,h10,h11,h12,h13⟩
   exact ⟨h0,h1,h2,h3,h4,h5,h6,h7,h8,h9,h10,h11,h13⟩
 ·constructor
  ·rintro ⟨h0,h1,h2,h3,h4,h5,h6,h7,h8,h9,h10,h11,h12,h13,h14,h15,h16,h17,h18,h19,h20,h21⟩
   exact ⟨h17,h2,h3,h0,h1,h6,h7,h13,h14,h10,h12,h18,h19,h4,h5,h8,h9,h15,h16,h20,by first | omega | rfl,h21⟩
  ·rintro ⟨h0,h1,h2,h3,h4,h5,h6,h7,h8,h9,h10,h11,h12,h13,h14,h15,h16,h17,h18,h19,h20,h21⟩
   exact ⟨h3,h4,h1,h2,h13,h14,h5,h6,h15,h16,h9,by first | omega | rfl,h10,h7,h8,h17,h18,h0,h11,h12,h19,h21⟩
set_option maxRecDepth 4000
theorem Abn {x : Api_Place} (h : H8 x = true) : x.Zb≠0:=by
 intro hk
 unfold H8 Ht at h
 simp only [Afv,Aw,Nn,E4,hk] at h
 simp at h
theorem AgC {p : Api_Pool} (h : p.Zs1.Zu.all H8 = true) (i : Int) : ((Gz p i).Zb != 0) = (decide (0≤i) && decide (i≤(p.Zs1.Zu.length : Int) - 1)):=by
 unfold Gz
 by_cases hr : 0≤i∧i < (p.Zs1.Zu.length : Int)
 ·rw [if_pos hr]
  have hlt : i.toNat < p.Zs1.Zu.length:=by omega
  have hm : nth p.Zs1.Zu i.toNat ∈ p.Zs1.Zu:=by
   have : nth p.Zs1.Zu i.toNat = p.Zs1.Zu[i.toNat]:=by simp [nth,hlt]
   rw [this];exact List.getElem_mem hlt
  have hk:=Abn (List.all_eq_true.1 h _ hm)
  rw [show (decide (0≤i) && decide (i≤(p.Zs1.Zu.length : Int) - 1)) = true by simp;omega]
  simpa using hk
 ·rw [if_neg hr,show (decide (0≤i) && decide (i≤(p.Zs1.Zu.length : Int) - 1)) = false by rw [Bool.eq_false_iff];simp;omega]
  rfl
theorem Aew {p : Api_Pool} (h : Few p) (it : Api_Item) (hk : it.Zb < 1∨15 < it.Zb) : Fp p it = some false:=by
 unfold Fp
 rcases hk with hk | hk
 ·rw [if_pos (by simp;omega)]
  unfold Dj
  rw [if_pos (by simp;omega)]
  simp only [Aw,E4,Bool.false_and,Bool.false_eq_true,if_false]
 ·rw [if_neg (by simp;omega)]
  unfold Eg
  have e : ∀ n : Int,n≤15→(it.Zb == n) = false:=fun n hn => by simp;omega
  simp only [e 8 (by omega),e 9 (by omega),e 10 (by omega),e 11 (by omega),e 12 (by omega),e 13 (by omega),e 14 (by omega),e 15 (by omega),Bool.false_eq_true,if_false,Aw,E4,Bool.false_and]
theorem AcQ (k : Int) (hk : k < 1∨15 < k) : Gp k = some []:=by
 unfold Gp
 have e : ∀ n : Int,1≤n→n≤15→(k == n) = false:=fun n h1 h2 => by simp;omega
 simp only [e 1 (by omega) (by omega),e 2 (by omega) (by omega),e 3 (by omega) (by omega),e 4 (by omega) (by omega),e 5 (by omega) (by omega),e 6 (by omega) (by omega),e 7 (by omega) (by omega),e 8 (by omega) (by omega),e 9 (by omega) (by omega),e 10 (by omega) (by omega),e 11 (by omega) (by omega),e 12 (by omega) (by omega),e 13 (by omega) (by omega),e 15 (by omega) (by omega),Bool.false_eq_true,if_false,Aw]
theorem Akm (K : Int) (hk : ¬ (K < 1∨15 < K)) : ∃ u,Gp K = some u∧u.length≤100:=by
 have hK : K = 1∨K = 2∨K = 3∨K = 4∨K = 5∨K = 6∨K = 7∨K = 8∨K = 9∨K = 10∨K = 11∨K = 12∨K = 13∨K = 14∨K = 15:=by omega
 rcases hK with rfl | rfl | rfl | rfl | rfl | rfl | rfl | rfl | rfl | rfl | rfl | rfl | rfl | rfl | rfl <;> exact ⟨_,rfl,by decide⟩
theorem Adh {p : Api_Pool} (h : Few p) (hv : ∀ i : Int,((Gz p i).Zb != 0) = (decide (0≤i) && decide (i≤(p.Zs1.Zu.length : Int) - 1))) (it : Api_Item) (hps : it.Zo.length≤1000000) :
  ∃ u,Gp it.Zb = some u∧u.length≤100∧(it.Zb = 3∨it.Zb = 4→u.any (fun c => c == 112) = true)∧Fp p it = some ((decide (1≤it.Zb) && decide (it.Zb≤15)) && Y4 p it u):=by
 by_cases hk : it.Zb < 1∨15 < it.Zb
 ·refine ⟨[],AcQ _ hk,by decide,fun e => by omega,?_⟩
  rw [Aew h it hk,show (decide (1≤it.Zb) && decide (it.Zb≤15)) = false by rw [Bool.eq_false_iff];simp;omega,Bool.false_and]
 ·obtain ⟨K,R,w,pl,o,n,f,t,c,d,cl,g,a,tx,ps⟩:=it
  simp only at hk hps ⊢
  obtain ⟨u,a1,a2,a3,a4⟩:=AeS h hv R w pl o n f t c d cl g a tx ps hps K hk
  exact ⟨u,a1,a2,a3,by rw [a4,show (decide (1≤K) && decide (K≤15)) = true by simp;omega,Bool.true_and]⟩
def okB (p : Api_Pool) (it : Api_Item) (u : List UInt8) : Bool:=((decide (1≤it.Zb) && decide (it.Zb≤15)) && Aiw it) && Y4 p it u
def Ac8 (p : Api_Pool) (it : Api_Item) (f : Int) (u : List UInt8) : Int:=if (f != 0) = true then f else if okB p it u = true then 0 else 110
theorem Ae8 {p : Api_Pool} (h : Few p) : ∃ f,C8 p = some f∧∀ it : Api_Item,it.Zo.length≤1000000→∃ u,Gp it.Zb = some u∧u.length≤100∧Iz p it = some (Ac8 p it f u)∧Kt p it = some (Ac8 p it f u):=by
 obtain ⟨f,h1,h2,h3⟩:=Ald h
 refine ⟨f,h1,fun it hps => ?_⟩
 unfold Iz Kt Ac8
 rw [h1,h2]
 simp only [Aw]
 by_cases hf : (f != 0) = true
 ·obtain ⟨u,hu⟩ : ∃ u,Gp it.Zb = some u∧u.length≤100:=by
   by_cases hk : it.Zb < 1∨15 < it.Zb
   ·exact ⟨[],AcQ _ hk,by decide⟩
   ·exact Akm it.Zb hk
  refine ⟨u,hu.1,hu.2,?_,?_⟩ <;> rw [if_pos hf,if_pos hf]
 ·have hf0 : f = 0:=by simpa using hf
  obtain ⟨u,u1,u2,u3,u4⟩:=Adh h (AgC (h3 hf0)) it hps
  refine ⟨u,u1,u2,?_,?_⟩
  ·rw [if_neg hf,if_neg hf,AhA,Alv,show Fp _ it = _ from u4]
   simp only [Aw,Nn]
   unfold okB
   cases Aiw it <;> cases (decide (1≤it.Zb) && decide (it.Zb≤15)) <;> cases Y4 p it u <;> rfl
  ·rw [if_neg hf,if_neg hf,show Ks _ it = _ from Agd h it u u1 u2 u3 hps]
   simp only [Aw]
   unfold okB
   cases Aiw it <;> cases (decide (1≤it.Zb) && decide (it.Zb≤15)) <;> cases Y4 p it u <;> rfl
theorem AgU (p : Api_Pool) : ∃ b,K0 p = some b∧(b = true→Few p):=by
 obtain ⟨x,hx,hq⟩ : ∃ x,A9 (fun (v : Int) => Hp p v) 0 = some x∧(x = .inr (.inr false)∨(x = .inl ()∧∀ j,j < p.Zw1.length→j < 18→(nth p.Zw1 j).Zr1.Zs.length≤10)):=by
  refine Fs (fun v => ∃ k : Nat,v = (k : Int)∧k≤18∧k≤p.Zw1.length∧∀ j,j < k→(nth p.Zw1 j).Zr1.Zs.length≤10) (fun v => (18 - v).toNat) _ ?_ ⟨0,rfl,by omega,by omega,fun j hj => by omega⟩ (by simp)
  rintro v ⟨k,rfl,h1,h2,h3⟩
  unfold Hp
  simp only [E4,Aw]
  by_cases hk : k < p.Zw1.length∧k < 18
  ·rw [if_pos (by simp;omega),if_pos (Cy hk.1)]
   simp only [Ch,Int.toNat_natCast,Gf (k:=k) (by omega)]
   by_cases hd : (nth p.Zw1 k).Zr1.Zs.length≤10
   ·left
    rw [if_neg (by simp;omega)]
    refine ⟨_,rfl,⟨k + 1,rfl,by omega,by omega,fun j hj => ?_⟩,by omega⟩
    by_cases e : j = k
    ·subst e;exact hd
    ·exact h3 j (by omega)
   ·right
    rw [if_pos (by simp;omega)]
    exact ⟨_,rfl,.inl rfl⟩
  ·right
   rw [if_neg (by simp;omega)]
   exact ⟨_,rfl,.inr ⟨rfl,fun j hj hj2 => h3 j (by omega)⟩⟩
 unfold K0
 rw [hx]
 rcases hq with rfl | ⟨rfl,hall⟩
 ·exact ⟨false,rfl,fun e => by cases e⟩
 ·simp only [Aw,E4]
  refine ⟨_,rfl,fun e => ?_⟩
  simp only [Bool.and_eq_true,decide_eq_true_eq] at e
  obtain ⟨⟨a1,a2⟩,⟨b1,b2,b3,b4⟩,c1,c2,c3⟩:=e
  exact ⟨by omega,by omega,by omega,by omega,by omega,by omega,by omega,by omega,by omega,fun k hk => by have:=hall k hk (by omega);omega⟩
theorem Akt (it : Api_Item) : I1 it = some (decide (it.Zn.length≤2000) && decide (it.Zo.length≤20)):=by
 unfold I1
 simp only [E4,Aw]
 congr 2 <;> (rw [decide_eq_decide];omega)
theorem AfO (p : Api_Pool) (it : Api_Item) (hs : law11_sane = some true:=AkN) : Bl p it = some true:=by
 obtain ⟨b,hb,hF⟩:=AgU p
 unfold Bl
 rw [hs,Aw,if_neg (by decide),show K0 _ = _ from hb,Akt]
 simp only [Aw,Nn]
 by_cases hq : (!b || !(decide (it.Zn.length≤2000) && decide (it.Zo.length≤20))) = true
 ·rw [if_pos hq]
 ·rw [if_neg hq]
  have hb1 : b = true∧it.Zn.length≤2000∧it.Zo.length≤20:=by
   cases b <;> simp at hq ⊢
   exact hq
  obtain ⟨f,f1,f2⟩:=Ae8 (hF hb1.1)
  obtain ⟨u,u1,u2,u3,u4⟩:=f2 it (by omega)
  rw [show Iz _ it = _ from u3,show C8 _ = _ from f1,show Kt _ it = _ from u4]
  simp only [Aw,beq_self_eq_true,if_true]
  unfold Ac8
  by_cases hf : (f != 0) = true
  ·have : (f == 0) = false:=by simpa using hf
   rw [this,if_pos hf]
   simp
  ·have : (f == 0) = true:=by simpa using hf
   rw [this]
   simp
open Go.Rv Go.ChangeShapes Go.WideShapes Go.ChangeAt Go.RowKit
theorem Agv {α : Type} {c : α→List AV} {k : Nat} (hk : ∀ x,(c x).length = k) : ∀ (l : List α) (j : Nat) (y : AV),(l.flatMap c)[j]? = some y→∃ i r x,j = i * k + r∧r < k∧l[i]? = some x∧(c x)[r]? = some y:=by
  intro l
  induction l with
  | nil => intro j y h;simp at h
  | cons a l ih =>
    intro j y h
    rw [List.flatMap_cons] at h
    by_cases hj : j < k
    · rw [List.getElem?_append_left (by rw [hk];exact hj)] at h
      exact ⟨0,j,a,by omega,hj,rfl,h⟩
    · rw [List.getElem?_append_right (by rw [hk];omega),hk] at h
      obtain ⟨i,r,x,e1,e2,e3,e4⟩:=ih _ _ h
      exact ⟨i + 1,r,x,by rw [Nat.add_mul,Nat.one_mul];omega,e2,by simpa using e3,e4⟩
theorem Acw {α : Type} {c : α→List AV} {k : Nat} (hk : ∀ x,(c x).length = k) : ∀ l : List α,(l.flatMap c).length = l.length * k:=by
  intro l
  induction l with
  | nil => simp
  | cons a l ih => rw [List.flatMap_cons,List.length_append,hk,ih,List.length_cons,Nat.add_mul,Nat.one_mul,Nat.add_comm]
theorem Agx {α : Type} {c : α→List AV} {k n : Nat} (hk : ∀ x,(c x).length = k) (a : Arr α n) : (a.l.flatMap c).length = n * k:=by rw [Acw hk,a.h]
theorem AdF {P : Program} {B : ∀ H : Type,DataW H→Nat} {t e : TypeId} {n k m : Nat} (ht : P.underlying t = some (.array n e)) (hn : P.cellsOf t = m) (h1 : P.cellsOf e = k) {α : Type} {c : α→List AV} {sz : α→Nat} {ok : α→Prop} (hck : ∀ x,(c x).length = k)
    (he : Opens P B e c sz ok) (hm : m = n * k:=by decide) : Opens P B t (fun a : Arr α n => a.l.flatMap c) (fun _ => 0) (fun _ => True):=by
  subst hm
  intro H enc W pr hpr fuel cs d ps h
  cases fuel with
  | zero => cases h
  | succ fuel =>
    unfold DataW.trod at h
    rw [ht] at h
    split at h <;> try (rename_i hh;cases hh;done)
    all_goals try (rename_i hh _;cases hh;done)
    all_goals try (cases h;done)
    all_goals try (exfalso;rename ∀ (n' : Nat) (e' : TypeId),some (TypeDesc.array n e) = some (TypeDesc.array n' e')→False => hh;exact hh _ _ rfl)
    rename_i cs _ _ n' e' hk
    cases hk
    split at h
    case isFalse => cases h
    rename_i hl
    rw [hn] at hl
    rw [Option.map_eq_some_iff] at h
    obtain ⟨xs,hxs,h⟩:=h
    simp only [Prod.mk.injEq] at h
    obtain ⟨rfl,_⟩:=h
    obtain ⟨hlen,hget⟩:=T8 hxs
    rw [List.length_range] at hlen
    have hex : ∀ i,i < n→∃ x : α,∀ (r : Nat) (y : AV),r < k→(c x)[r]? = some y→Rep W pr [] (cs.getD (i * k + r) undef) y∧one (cs.getD (i * k + r) undef) = true:=by
      intro i hi
      obtain ⟨i',hi',hf⟩:=hget i (xs[i]'(by omega)) (List.getElem?_eq_getElem _)
      rw [List.getElem?_range hi] at hi'
      cases hi'
      rw [h1] at hf
      obtain ⟨x,r1,r2,r3,r4⟩:=he H enc W pr hpr fuel _ _ _ hf
      refine ⟨x,fun r y hr hy => ?_⟩
      have:=r4 r y hy
      have ed : ((cs.drop (i * k)).take k).getD r undef = cs.getD (i * k + r) undef:=by
        simp only [List.getD_eq_getElem?_getD,List.getElem?_take,List.getElem?_drop,hr,if_true]
      rwa [ed] at this
    obtain ⟨l,hll,hl2⟩:=N3 _ n hex
    refine ⟨⟨l,hll⟩,?_,Nat.zero_le _,trivial,fun j y hj => ?_⟩
    · show cs.length = (l.flatMap c).length
      rw [Acw hck,hll,hl]
    · obtain ⟨i,r,x,e1,e2,e3,e4⟩:=Agv hck l j y hj
      subst e1
      exact hl2 i x e3 r y e2 e4
theorem AaX : Tryz.prog.cellsOf 36 = 9:=by kernel_rfl
theorem Sl : Tryz.prog.cellsOf 25 = 2:=by kernel_rfl
theorem Abw : Tryz.prog.cellsOf 22 = 1:=by kernel_rfl
theorem R7 : Tryz.prog.cellsOf 99 = 3:=by kernel_rfl
theorem AiP : Opens Tryz.prog (fun H => Rows.uptoBulk (H:=H)) 99 Ah (fun _ => 0) (fun _ => True) :=
 Bm Cg Tryz.underlying99 (n:=3) R7
  (Ap (k:=1) rfl Av (fun _ => rfl) B3 (Ap (k:=1) rfl Av (fun _ => rfl) B3 (Ap (k:=1) rfl Av (fun _ => rfl) B3 B8)))
  (fun x => (⟨x.1,x.2.1,x.2.2.1⟩ : Api_Place)) (fun _ => rfl) (fun _ => rfl) (fun x => Nat.zero_le _) (fun x h => trivial)
theorem AjM : Opens Tryz.prog (fun H => Rows.uptoBulk (H:=H)) 22 (cSl Ah) (szL fun _ => 0) (fun l => l.length≤maxLen∧∀ x ∈ l,True):=Dr Cg Tryz.underlying22 R7 (fun _ => rfl) AiP
theorem AbT : Tryz.prog.cellsOf 23 = 1:=by kernel_rfl
theorem Qz : Tryz.prog.cellsOf 103 = 5:=by kernel_rfl
theorem Ah6 : Opens Tryz.prog (fun H => Rows.uptoBulk (H:=H)) 103 Al (fun _ => 0) (fun _ => True) :=
 Bm Cg Tryz.underlying103 (n:=5) Qz
  (Ap (k:=1) rfl Av (fun _ => rfl) B3 (Ap (k:=1) rfl Av (fun _ => rfl) B3 (Ap (k:=1) rfl Av (fun _ => rfl) B3 (Ap (k:=1) rfl Av (fun _ => rfl) B3 (Ap (k:=1) rfl Av (fun _ => rfl) B3 B8)))))
  (fun x => (⟨x.1,x.2.1,x.2.2.1,x.2.2.2.1,x.2.2.2.2.1⟩ : Api_Edge)) (fun _ => rfl) (fun _ => rfl) (fun x => Nat.zero_le _) (fun x h => trivial)
theorem Aju : Opens Tryz.prog (fun H => Rows.uptoBulk (H:=H)) 23 (cSl Al) (szL fun _ => 0) (fun l => l.length≤maxLen∧∀ x ∈ l,True):=Dr Cg Tryz.underlying23 Qz (fun _ => rfl) Ah6
theorem AjK : Opens Tryz.prog (fun H => Rows.uptoBulk (H:=H)) 25 Qs (fun _ => 0) (fun _ => True) :=
 Bm Cg Tryz.underlying25 (n:=2) Sl
  (Ap (k:=1) rfl Abw (fun _ => rfl) AjM (Ap (k:=1) rfl AbT (fun _ => rfl) Aju B8))
  (fun x => (⟨x.1,x.2.1⟩ : Api_Network)) (fun _ => rfl) (fun _ => rfl) (fun x => Nat.zero_le _) (fun x h => trivial)
theorem Ud : Tryz.prog.cellsOf 31 = 4:=by kernel_rfl
theorem Aa0 : Tryz.prog.cellsOf 26 = 1:=by kernel_rfl
theorem Q8 : Tryz.prog.cellsOf 162 = 8:=by kernel_rfl
theorem Sn : Tryz.prog.cellsOf 88 = 1:=by kernel_rfl
theorem AfI : Opens Tryz.prog (fun H => Rows.uptoBulk (H:=H)) 88 Aod (fun _ => 1) (fun _ => True):=Af2 Cg Tryz.underlying88
theorem Aig : Opens Tryz.prog (fun H => Rows.uptoBulk (H:=H)) 162 Aa (fun _ => 0) (fun _ => True) :=
 Bm Cg Tryz.underlying162 (n:=8) Q8
  (Ap (k:=1) rfl Av (fun _ => rfl) B3 (Ap (k:=1) rfl Av (fun _ => rfl) B3 (Ap (k:=1) rfl Av (fun _ => rfl) B3 (Ap (k:=1) rfl Av (fun _ => rfl) B3 (Ap (k:=1) rfl Av (fun _ => rfl) B3 (Ap (k:=1) rfl Sn (fun _ => rfl) AfI (Ap (k:=1) rfl Av (fun _ => rfl) B3 (Ap (k:=1) rfl Av (fun _ => rfl) B3 B8))))))))
  (fun x => (⟨x.1,x.2.1,x.2.2.1,x.2.2.2.1,x.2.2.2.2.1,x.2.2.2.2.2.1,x.2.2.2.2.2.2.1,x.2.2.2.2.2.2.2.1⟩ : Api_WagonType)) (fun _ => rfl) (fun _ => rfl) (fun x => Nat.zero_le _) (fun x h => trivial)
theorem AjF : Opens Tryz.prog (fun H => Rows.uptoBulk (H:=H)) 26 (cSl Aa) (szL fun _ => 0) (fun l => l.length≤maxLen∧∀ x ∈ l,True):=Dr Cg Tryz.underlying26 Q8 (fun _ => rfl) Aig
theorem Abe : Tryz.prog.cellsOf 27 = 1:=by kernel_rfl
theorem Q4 : Tryz.prog.cellsOf 101 = 5:=by kernel_rfl
theorem AgS : Opens Tryz.prog (fun H => Rows.uptoBulk (H:=H)) 101 Af (fun _ => 0) (fun _ => True) :=
 Bm Cg Tryz.underlying101 (n:=5) Q4
  (Ap (k:=1) rfl Av (fun _ => rfl) B3 (Ap (k:=1) rfl Av (fun _ => rfl) B3 (Ap (k:=1) rfl Av (fun _ => rfl) B3 (Ap (k:=1) rfl Av (fun _ => rfl) B3 (Ap (k:=1) rfl Av (fun _ => rfl) B3 B8)))))
  (fun x => (⟨x.1,x.2.1,x.2.2.1,x.2.2.2.1,x.2.2.2.2.1⟩ : Api_Wagon)) (fun _ => rfl) (fun _ => rfl) (fun x => Nat.zero_le _) (fun x h => trivial)
theorem AiM : Opens Tryz.prog (fun H => Rows.uptoBulk (H:=H)) 27 (cSl Af) (szL fun _ => 0) (fun l => l.length≤maxLen∧∀ x ∈ l,True):=Dr Cg Tryz.underlying27 Q4 (fun _ => rfl) AgS
theorem Aba : Tryz.prog.cellsOf 28 = 1:=by kernel_rfl
theorem Qu : Tryz.prog.cellsOf 164 = 3:=by kernel_rfl
theorem AgM : Opens Tryz.prog (fun H => Rows.uptoBulk (H:=H)) 164 Aj (fun _ => 0) (fun _ => True) :=
 Bm Cg Tryz.underlying164 (n:=3) Qu
  (Ap (k:=1) rfl Av (fun _ => rfl) B3 (Ap (k:=1) rfl Av (fun _ => rfl) B3 (Ap (k:=1) rfl Av (fun _ => rfl) B3 B8)))
  (fun x => (⟨x.1,x.2.1,x.2.2.1⟩ : Api_Swap)) (fun _ => rfl) (fun _ => rfl) (fun x => Nat.zero_le _) (fun x h => trivial)
theorem Ajc : Opens Tryz.prog (fun H => Rows.uptoBulk (H:=H)) 28 (cSl Aj) (szL fun _ => 0) (fun l => l.length≤maxLen∧∀ x ∈ l,True):=Dr Cg Tryz.underlying28 Qu (fun _ => rfl) AgM
theorem AbR : Tryz.prog.cellsOf 29 = 1:=by kernel_rfl
theorem Q5 : Tryz.prog.cellsOf 168 = 3:=by kernel_rfl
theorem AgJ : Opens Tryz.prog (fun H => Rows.uptoBulk (H:=H)) 168 Ai (fun _ => 0) (fun _ => True) :=
 Bm Cg Tryz.underlying168 (n:=3) Q5
  (Ap (k:=1) rfl Av (fun _ => rfl) B3 (Ap (k:=1) rfl Av (fun _ => rfl) B3 (Ap (k:=1) rfl Av (fun _ => rfl) B3 B8)))
  (fun x => (⟨x.1,x.2.1,x.2.2.1⟩ : Api_Wash)) (fun _ => rfl) (fun _ => rfl) (fun x => Nat.zero_le _) (fun x h => trivial)
theorem AkF : Opens Tryz.prog (fun H => Rows.uptoBulk (H:=H)) 29 (cSl Ai) (szL fun _ => 0) (fun l => l.length≤maxLen∧∀ x ∈ l,True):=Dr Cg Tryz.underlying29 Q5 (fun _ => rfl) AgJ
theorem AkO : Opens Tryz.prog (fun H => Rows.uptoBulk (H:=H)) 31 Vy (fun _ => 0) (fun _ => True) :=
 Bm Cg Tryz.underlying31 (n:=4) Ud
  (Ap (k:=1) rfl Aa0 (fun _ => rfl) AjF (Ap (k:=1) rfl Abe (fun _ => rfl) AiM (Ap (k:=1) rfl Aba (fun _ => rfl) Ajc (Ap (k:=1) rfl AbR (fun _ => rfl) AkF B8))))
  (fun x => (⟨x.1,x.2.1,x.2.2.1,x.2.2.2.1⟩ : Api_Fleet)) (fun _ => rfl) (fun _ => rfl) (fun x => Nat.zero_le _) (fun x h => trivial)
theorem Abx : Tryz.prog.cellsOf 32 = 1:=by kernel_rfl
theorem Ty : Tryz.prog.cellsOf 94 = 3:=by kernel_rfl
theorem Aj9 : Opens Tryz.prog (fun H => Rows.uptoBulk (H:=H)) 94 Ag (fun _ => 0) (fun _ => True) :=
 Bm Cg Tryz.underlying94 (n:=3) Ty
  (Ap (k:=1) rfl Av (fun _ => rfl) B3 (Ap (k:=1) rfl Av (fun _ => rfl) B3 (Ap (k:=1) rfl Av (fun _ => rfl) B3 B8)))
  (fun x => (⟨x.1,x.2.1,x.2.2.1⟩ : Api_Reader)) (fun _ => rfl) (fun _ => rfl) (fun x => Nat.zero_le _) (fun x h => trivial)
theorem AiD : Opens Tryz.prog (fun H => Rows.uptoBulk (H:=H)) 32 (cSl Ag) (szL fun _ => 0) (fun l => l.length≤maxLen∧∀ x ∈ l,True):=Dr Cg Tryz.underlying32 Ty (fun _ => rfl) Aj9
theorem Aa1 : Tryz.prog.cellsOf 33 = 1:=by kernel_rfl
theorem T6 : Tryz.prog.cellsOf 97 = 1:=by kernel_rfl
theorem Akg : Opens Tryz.prog (fun H => Rows.uptoBulk (H:=H)) 97 Ae (fun _ => 0) (fun _ => True) :=
 Bm Cg Tryz.underlying97 (n:=1) T6
  (Ap (k:=1) rfl Av (fun _ => rfl) B3 B8)
  (fun x => (⟨x.1⟩ : Api_Shipper)) (fun _ => rfl) (fun _ => rfl) (fun x => Nat.zero_le _) (fun x h => trivial)
theorem Akn : Opens Tryz.prog (fun H => Rows.uptoBulk (H:=H)) 33 (cSl Ae) (szL fun _ => 0) (fun l => l.length≤maxLen∧∀ x ∈ l,True):=Dr Cg Tryz.underlying33 T6 (fun _ => rfl) Akg
theorem AbP : Tryz.prog.cellsOf 34 = 1:=by kernel_rfl
theorem Sh : Tryz.prog.cellsOf 90 = 16:=by kernel_rfl
theorem T1 : Tryz.prog.cellsOf 87 = 15:=by kernel_rfl
theorem S6 : Tryz.prog.cellsOf 84 = 14:=by kernel_rfl
theorem Tk : Tryz.prog.cellsOf 83 = 2:=by kernel_rfl
theorem Akw : Opens Tryz.prog (fun H => Rows.uptoBulk (H:=H)) 83 Oj (fun _ => 0) (fun _ => True) :=
 Bm Cg Tryz.underlying83 (n:=2) Tk
  (Ap (k:=1) rfl Av (fun _ => rfl) B3 (Ap (k:=1) rfl Av (fun _ => rfl) B3 B8))
  (fun x => (⟨x.1,x.2.1⟩ : Api_Span)) (fun _ => rfl) (fun _ => rfl) (fun x => Nat.zero_le _) (fun x h => trivial)
theorem AjT : Opens Tryz.prog (fun H => Rows.uptoBulk (H:=H)) 84 (fun a : Arr Api_Span 7 => a.l.flatMap Oj) (fun _ => 0) (fun _ => True):=AdF (n:=7) Tryz.underlying84 S6 Tk (fun _ => rfl) Akw
theorem Ace : Tryz.prog.cellsOf 85 = 1:=by kernel_rfl
theorem AjP : Opens Tryz.prog (fun H => Rows.uptoBulk (H:=H)) 85 (cSl Hg) (szL fun _ => 1) (fun l => l.length≤maxLen∧∀ x ∈ l,I64 x):=Dr Cg Tryz.underlying85 Av (fun _ => rfl) B3
theorem Ajh : Opens Tryz.prog (fun H => Rows.uptoBulk (H:=H)) 87 Pi (fun _ => 0) (fun _ => True) :=
 Bm Cg Tryz.underlying87 (n:=15) T1
  (Ap (k:=14) rfl S6 (Agx (c:=Oj) (k:=2) (n:=7) (fun _ => rfl)) AjT (Ap (k:=1) rfl Ace (fun _ => rfl) AjP B8))
  (fun x => (⟨(nth x.1.l 0,nth x.1.l 1,nth x.1.l 2,nth x.1.l 3,nth x.1.l 4,nth x.1.l 5,nth x.1.l 6),x.2.1⟩ : Api_Calendar)) (fun x => by obtain ⟨⟨l,hl⟩,y⟩:=x;match l,hl with | [_,_,_,_,_,_,_],_ => rfl) (fun _ => rfl) (fun x => Nat.zero_le _) (fun x h => trivial)
theorem Ak1 : Opens Tryz.prog (fun H => Rows.uptoBulk (H:=H)) 90 Ab (fun _ => 0) (fun _ => True) :=
 Bm Cg Tryz.underlying90 (n:=16) Sh
  (Ap (k:=1) rfl Sn (fun _ => rfl) AfI (Ap (k:=15) rfl T1 (fun _ => rfl) Ajh B8))
  (fun x => (⟨x.1,x.2.1⟩ : Api_RailwayInfo)) (fun _ => rfl) (fun _ => rfl) (fun x => Nat.zero_le _) (fun x h => trivial)
theorem AjE : Opens Tryz.prog (fun H => Rows.uptoBulk (H:=H)) 34 (cSl Ab) (szL fun _ => 0) (fun l => l.length≤maxLen∧∀ x ∈ l,True):=Dr Cg Tryz.underlying34 Sh (fun _ => rfl) Ak1
theorem AjG : Opens Tryz.prog (fun H => Rows.uptoBulk (H:=H)) 36 Yj (fun _ => 0) (fun _ => True) :=
 Bm Cg Tryz.underlying36 (n:=9) AaX
  (Ap (k:=2) rfl Sl (fun _ => rfl) AjK (Ap (k:=4) rfl Ud (fun _ => rfl) AkO (Ap (k:=1) rfl Abx (fun _ => rfl) AiD (Ap (k:=1) rfl Aa1 (fun _ => rfl) Akn (Ap (k:=1) rfl AbP (fun _ => rfl) AjE B8)))))
  (fun x => (⟨x.1,x.2.1,x.2.2.1,x.2.2.2.1,x.2.2.2.2.1⟩ : Api_Pool)) (fun _ => rfl) (fun _ => rfl) (fun x => Nat.zero_le _) (fun x h => trivial)
theorem AdZ {p : Api_Pool} (_ : True) {it : Api_Item} (_ : Ints it) : Bl p it = some true:=AfO p it
open Go.Rv Go.ChangeShapes Go.WideShapes Go.ChangeAt Go.RowKit
set_option maxRecDepth 100000
theorem Ds {a b : Bool} (ha : a = true) (hb : b = true) : (a && b) = true:=by rw [ha,hb];rfl
theorem j3_0 : (Rows.ediCheckMatchesReferenceRow.wf (OpenSpec.ofChange Rows.ediCheckMatchesReferenceSpec)) = true:=by kernel_rfl
theorem j3_1 : (laidOutB Tryz.prog) = true:=by kernel_rfl
theorem j3_2 : (mapsRowed Tryz.prog) = true:=by kernel_rfl
theorem j3_3 : (Tryz.f3.params.all (Tryz.prog.readableRec ·)) = true:=by kernel_rfl
theorem j3_4 : (namedTie Tryz.prog Rows.ediCheckMatchesReferenceRow.named Rows.ediCheckMatchesReferenceSpec.vars) = true:=by kernel_rfl
theorem j3_5 : ((Rows.ediCheckMatchesReferenceRow.stops == [])) = true:=by kernel_rfl
theorem j3_6 : ((Tryz.prog.stops == [])) = true:=by kernel_rfl
theorem j3_7 : ((Rows.ediCheckMatchesReferenceRow.knobs == [])) = true:=by kernel_rfl
theorem j3_8 : ((Tryz.prog.stopKnobs == [])) = true:=by kernel_rfl
theorem j3_9 : ((Rows.ediCheckMatchesReferenceRow.inPlace == Tryz.prog.inPlace 3)) = true:=by kernel_rfl
theorem Ard : ((Rows.ediCheckMatchesReferenceRow.unfollowed == Tryz.prog.unfollowed 3)) = true:=by kernel_rfl
theorem AqZ : ((Rows.ediCheckMatchesReferenceRow.recurses == Tryz.prog.recurses 3)) = true:=by kernel_rfl
theorem Ap2 : ((Rows.ediCheckMatchesReferenceRow.named == Tryz.prog.varsNamed 3)) = true:=by kernel_rfl
theorem Arw : ((Rows.ediCheckMatchesReferenceRow.maps == (Tryz.f3.params.toList ++ Rows.ediCheckMatchesReferenceSpec.plain.varTypes Tryz.prog).any (Tryz.prog.mapsRec ·))) = true:=by kernel_rfl
theorem ArY : ((Rows.ediCheckMatchesReferenceRow.ifaces == (Tryz.f3.params.toList ++ Rows.ediCheckMatchesReferenceSpec.plain.varTypes Tryz.prog).any (Tryz.prog.ifacesRec ·))) = true:=by kernel_rfl
theorem Aq0 : ((Rows.ediCheckMatchesReferenceRow.mapsOut == Tryz.prog.mapsAmong Tryz.f3.resultTypes.toList)) = true:=by kernel_rfl
theorem Arp : ((Rows.ediCheckMatchesReferenceRow.loops == (Tryz.f3.params.toList ++ Rows.ediCheckMatchesReferenceSpec.plain.varTypes Tryz.prog).any (Tryz.prog.loopsFrom ·))) = true:=by kernel_rfl
theorem AqR : ((Rows.ediCheckMatchesReferenceRow.wideKeys == (Tryz.f3.params.toList ++ Rows.ediCheckMatchesReferenceSpec.plain.varTypes Tryz.prog ++ Tryz.f3.resultTypes.toList).any (Tryz.prog.wideKeysFrom ·))) = true:=by kernel_rfl
theorem Asx : (Rows.ediCheckMatchesReferenceSpec.vars.all (Tryz.prog.varReadable ·)) = true:=by kernel_rfl
theorem AsC : (Tryz.f3.resultTypes.all (fun t => Tryz.prog.readableRec t && decide (t < Tryz.prog.types.size))) = true:=by kernel_rfl
theorem AsR : ((Rows.ediCheckMatchesReferenceRow.ifacesOut == Tryz.f3.resultTypes.toList.any (Tryz.prog.ifacesRec ·))) = true:=by kernel_rfl
theorem AsA : ((Rows.ediCheckMatchesReferenceRow.loopsOut == Tryz.f3.resultTypes.toList.any (Tryz.prog.loopsFrom ·))) = true:=by kernel_rfl
theorem Arx : ((Rows.ediCheckMatchesReferenceRow.plainKeys == Tryz.prog.plainKeys)) = true:=by kernel_rfl
theorem AqP : (Rows.ediCheckMatchesReferenceRow.shortTexts.isNone) = true:=by kernel_rfl
theorem Aqb : (Tryz.prog.stopsHeard) = true:=by kernel_rfl
theorem Ask : (Tryz.prog.mayEnter) = true:=by kernel_rfl
theorem ApI : ((Rows.ediCheckMatchesReferenceRow.lifted == Tryz.prog.liftsFinal)) = true:=by kernel_rfl
theorem Aqo : ((Tryz.prog.make == some Rows.ediCheckMatchesReferenceRow.make)) = true:=by kernel_rfl
theorem ApX : ((Rows.ediCheckMatchesReferenceRow.kinds == (if Rows.ediCheckMatchesReferenceRow.domain.isEmpty then [] else Tryz.f3.params.toList.map fun t => match Tryz.prog.underlying t with | some (.int k) => some k | _ => none))) = true:=by kernel_rfl
theorem AsF : ((Rows.ediCheckMatchesReferenceRow.pinned == Rows.ediCheckMatchesReferenceRow.pinnedBy)) = true:=by kernel_rfl
theorem Aqk : ((Rows.ediCheckMatchesReferenceRow.veiled == (Tryz.f3.params.toList ++ Rows.ediCheckMatchesReferenceSpec.plain.varTypes Tryz.prog ++ Tryz.f3.resultTypes.toList).any (Tryz.prog.veiledRec ·))) = true:=by kernel_rfl
theorem Asp : (Rows.ediCheckMatchesReferenceRow.veiledFits Tryz.prog Tryz.f3.params.toList (Tryz.f3.params.toList ++ Rows.ediCheckMatchesReferenceSpec.plain.varTypes Tryz.prog ++ Tryz.f3.resultTypes.toList)) = true:=by kernel_rfl
theorem Alg : joinedFacts Tryz.prog 3 Tryz.f3 Rows.ediCheckMatchesReferenceSpec Rows.ediCheckMatchesReferenceRow = true:=(Ds (Ds (Ds (Ds (Ds (Ds (Ds (Ds (Ds (Ds (Ds (Ds (Ds (Ds (Ds (Ds (Ds (Ds (Ds (Ds (Ds (Ds (Ds (Ds (Ds (Ds (Ds (Ds (Ds (Ds (Ds j3_0 j3_1) j3_2) j3_3) j3_4) j3_5) j3_6) j3_7) j3_8) j3_9) Ard) AqZ) Ap2) Arw) ArY) Aq0) Arp) AqR) Asx) AsC) AsR) AsA) Arx) AqP) Aqb) Ask) ApI) Aqo) ApX) AsF) Aqk) Asp)
end Go.Proofs.YtnfoiocigicdnaaGreatDoor
