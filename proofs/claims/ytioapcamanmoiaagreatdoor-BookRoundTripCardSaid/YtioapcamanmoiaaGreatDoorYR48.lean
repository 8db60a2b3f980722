/-
  Part 48.
-/
import Derived.Test.YtioapcamanmoiaaGreatDoorYR44
import Derived.Test.YtioapcamanmoiaaGreatDoorYR46
import Derived.Test.YtioapcamanmoiaaGreatDoorYR47
import Derived.KernelRfl
namespace Go.Proofs.YtioapcamanmoiaaGreatDoor
open Go.Rv
set_option linter.unusedVariables false
set_option linter.unusedSimpArgs false
set_option maxRecDepth 20000
set_option maxHeartbeats 4000000
theorem GT{b r}(h:DD b=some r):Con B 130 [.ref 0 0] [.box [.sl false (L Ah b.p.Zg1.Ze),.sl false (L Al b.p.Zg1.Zf),.sl false (L Ab b.p.Zh1.Zx),.sl false (L Af b.p.Zh1.Zy),.sl false (L Aj b.p.Zh1.Zz),.sl false (L Ai b.p.Zh1.Za1),.sl false (L Ag b.p.Zi1),.sl false (L Ae b.p.Zj1),.sl false (L Ac b.p.Zk1),i64 b.it.Za,i64 b.it.Ref.Zb,i64 b.it.Ref.No,i64 b.it.Zn1,i64 b.it.Zb1,i64 b.it.Zc,i64 b.it.Zo1,i64 b.it.Zw,i64 b.it.To,i64 b.it.Code,i64 b.it.Zp1,i64 b.it.Zq1,i64 b.it.Zr1,i64 b.it.Zs1,.str b.it.Zt1,.sl false (L Ad b.it.Zu1),.bool b.ok] false] (fun r' σ'=>r'=.tup []∧σ'=[.box [.sl false (L Ah r.p.Zg1.Ze),.sl false (L Al r.p.Zg1.Zf),.sl false (L Ab r.p.Zh1.Zx),.sl false (L Af r.p.Zh1.Zy),.sl false (L Aj r.p.Zh1.Zz),.sl false (L Ai r.p.Zh1.Za1),.sl false (L Ag r.p.Zi1),.sl false (L Ae r.p.Zj1),.sl false (L Ac r.p.Zk1),i64 r.it.Za,i64 r.it.Ref.Zb,i64 r.it.Ref.No,i64 r.it.Zn1,i64 r.it.Zb1,i64 r.it.Zc,i64 r.it.Zo1,i64 r.it.Zw,i64 r.it.To,i64 r.it.Code,i64 r.it.Zp1,i64 r.it.Zq1,i64 r.it.Zr1,i64 r.it.Zs1,.str r.it.Zt1,.sl false (L Ad r.it.Zu1),.bool r.ok] false]):=by
 refine Co 1 135 [] Tryz.func130 (fun F hE=>?_) h;unfold DD;refine T0 [0,2] ?_;refine Sq <|T0 [0,2,11] ?_
 refine Cd ?_ ?_
 ·refine T0 [] ?_;exact Sr <|Tr <|Ro [0]
 ·refine Sk <|Tn <|Bd fun a z =>Te [0,2] (Ap (l:=[]) (m:=[(16,149,[.ref 0 0],[.box [.sl false (L Ah b.p.Zg1.Ze),.sl false (L Al b.p.Zg1.Zf),.sl false (L Ab b.p.Zh1.Zx),.sl false (L Af b.p.Zh1.Zy),.sl false (L Aj b.p.Zh1.Zz),.sl false (L Ai b.p.Zh1.Za1),.sl false (L Ag b.p.Zi1),.sl false (L Ae b.p.Zj1),.sl false (L Ac b.p.Zk1),i64 b.it.Za,i64 b.it.Ref.Zb,i64 b.it.Ref.No,i64 b.it.Zn1,i64 b.it.Zb1,i64 b.it.Zc,i64 b.it.Zo1,i64 b.it.Zw,i64 b.it.To,i64 b.it.Code,i64 b.it.Zp1,i64 b.it.Zq1,i64 b.it.Zr1,i64 b.it.Zs1,.str b.it.Zt1,.sl false (L Ad b.it.Zu1),.bool b.ok] false],_,_)]) trivial ⟨(wc (CW z) [0]),trivial⟩) Ev ?_
  refine T0 [0,2,20] ?_;refine Sb <|T0 [0,2,20,21] ?_
  refine Cd ?_ ?_
  ·refine Bd fun e aa =>De [[],[],[1],[1,2],[],[4],[4,5],[4,5,6],[4,5,6,7],[4,5,6,7,8],[4,5,6,7,8,9],[0,1,2,3,4,5,6,7,8,9,10]] [0] (Ap (l:=[]) (m:=[(34,150,[.ref 0 0,.ref 0 14,i64 0,i64 (w64 ((a.p.Zi1.length:Int)-1))],[.box [.sl false (L Ah a.p.Zg1.Ze),.sl false (L Al a.p.Zg1.Zf),.sl false (L Ab a.p.Zh1.Zx),.sl false (L Af a.p.Zh1.Zy),.sl false (L Aj a.p.Zh1.Zz),.sl false (L Ai a.p.Zh1.Za1),.sl false (L Ag a.p.Zi1),.sl false (L Ae a.p.Zj1),.sl false (L Ac a.p.Zk1),i64 a.it.Za,i64 a.it.Ref.Zb,i64 a.it.Ref.No,i64 a.it.Zn1,i64 a.it.Zb1,i64 a.it.Zc,i64 a.it.Zo1,i64 a.it.Zw,i64 a.it.To,i64 a.it.Code,i64 a.it.Zp1,i64 a.it.Zq1,i64 a.it.Zr1,i64 a.it.Zs1,.str a.it.Zt1,.sl false (L Ad a.it.Zu1),.bool a.ok] false],_,_)]) trivial ⟨(wc (Cy aa) [0]),trivial⟩) Ev ?_
   refine Bd fun au ab =>Fe [] (Ap (l:=[]) (m:=[(36,151,[.ref 0 0],[.box [.sl false (L Ah e.p.Zg1.Ze),.sl false (L Al e.p.Zg1.Zf),.sl false (L Ab e.p.Zh1.Zx),.sl false (L Af e.p.Zh1.Zy),.sl false (L Aj e.p.Zh1.Zz),.sl false (L Ai e.p.Zh1.Za1),.sl false (L Ag e.p.Zi1),.sl false (L Ae e.p.Zj1),.sl false (L Ac e.p.Zk1),i64 e.it.Za,i64 e.it.Ref.Zb,i64 e.it.Ref.No,i64 e.it.Zn1,i64 e.it.Zb1,i64 e.it.Zc,i64 e.it.Zo1,i64 e.it.Zw,i64 e.it.To,i64 e.it.Code,i64 e.it.Zp1,i64 e.it.Zq1,i64 e.it.Zr1,i64 e.it.Zs1,.str e.it.Zt1,.sl false (L Ad e.it.Zu1),.bool e.ok] false],_,_)]) trivial ⟨(wc (Bk ab) [0]),trivial⟩) Ev ?_
   exact Bn <|Ro [0]
  ·refine T0 [0,2,20,37] ?_;refine Cd ?_ ?_
   ·refine Bd fun f ac =>Te [0] (Ap (l:=[]) (m:=[(40,152,[.ref 0 0,i64 0],[.box [.sl false (L Ah a.p.Zg1.Ze),.sl false (L Al a.p.Zg1.Zf),.sl false (L Ab a.p.Zh1.Zx),.sl false (L Af a.p.Zh1.Zy),.sl false (L Aj a.p.Zh1.Zz),.sl false (L Ai a.p.Zh1.Za1),.sl false (L Ag a.p.Zi1),.sl false (L Ae a.p.Zj1),.sl false (L Ac a.p.Zk1),i64 a.it.Za,i64 a.it.Ref.Zb,i64 a.it.Ref.No,i64 a.it.Zn1,i64 a.it.Zb1,i64 a.it.Zc,i64 a.it.Zo1,i64 a.it.Zw,i64 a.it.To,i64 a.it.Code,i64 a.it.Zp1,i64 a.it.Zq1,i64 a.it.Zr1,i64 a.it.Zs1,.str a.it.Zt1,.sl false (L Ad a.it.Zu1),.bool a.ok] false],_,_)]) trivial ⟨(wc (Bz ac) [0]),trivial⟩) Ev ?_
    refine Bd fun av ad =>Fe [] (Ap (l:=[]) (m:=[(42,153,[.ref 0 0],[.box [.sl false (L Ah f.2.p.Zg1.Ze),.sl false (L Al f.2.p.Zg1.Zf),.sl false (L Ab f.2.p.Zh1.Zx),.sl false (L Af f.2.p.Zh1.Zy),.sl false (L Aj f.2.p.Zh1.Zz),.sl false (L Ai f.2.p.Zh1.Za1),.sl false (L Ag f.2.p.Zi1),.sl false (L Ae f.2.p.Zj1),.sl false (L Ac f.2.p.Zk1),i64 f.2.it.Za,i64 f.2.it.Ref.Zb,i64 f.2.it.Ref.No,i64 f.2.it.Zn1,i64 f.2.it.Zb1,i64 f.2.it.Zc,i64 f.2.it.Zo1,i64 f.2.it.Zw,i64 f.2.it.To,i64 f.2.it.Code,i64 f.2.it.Zp1,i64 f.2.it.Zq1,i64 f.2.it.Zr1,i64 f.2.it.Zs1,.str f.2.it.Zt1,.sl false (L Ad f.2.it.Zu1),.bool f.2.ok] false],_,_)]) trivial ⟨(wc (DF ad) [0]),trivial⟩) Ev ?_
    exact Bn <|Ro [0]
   ·refine Ja (fun x=>⟨Aq 135 [(0,.ref 0 0),(2,.ref 0 9),(20,i64 a.it.Za),(43,.bool x)],[.box [.sl false (L Ah a.p.Zg1.Ze),.sl false (L Al a.p.Zg1.Zf),.sl false (L Ab a.p.Zh1.Zx),.sl false (L Af a.p.Zh1.Zy),.sl false (L Aj a.p.Zh1.Zz),.sl false (L Ai a.p.Zh1.Za1),.sl false (L Ag a.p.Zi1),.sl false (L Ae a.p.Zj1),.sl false (L Ac a.p.Zk1),i64 a.it.Za,i64 a.it.Ref.Zb,i64 a.it.Ref.No,i64 a.it.Zn1,i64 a.it.Zb1,i64 a.it.Zc,i64 a.it.Zo1,i64 a.it.Zw,i64 a.it.To,i64 a.it.Code,i64 a.it.Zp1,i64 a.it.Zq1,i64 a.it.Zr1,i64 a.it.Zs1,.str a.it.Zt1,.sl false (L Ad a.it.Zu1),.bool a.ok] false]⟩) ?_ ?_
    ·intro aw;refine T0 [0,2,20,43] ?_;refine Cd ?_ ?_
     ·exact Sk <|Jm (ws [0])
     ·refine F0 [0,2,20,43] ?_;exact Jm (ws [0])
    intro x;refine Cd ?_ ?_
    ·refine Bd fun c ae =>Te [0,2,3] (Ap (l:=[]) (m:=[(47,152,[.ref 0 0,i64 3],[.box [.sl false (L Ah a.p.Zg1.Ze),.sl false (L Al a.p.Zg1.Zf),.sl false (L Ab a.p.Zh1.Zx),.sl false (L Af a.p.Zh1.Zy),.sl false (L Aj a.p.Zh1.Zz),.sl false (L Ai a.p.Zh1.Za1),.sl false (L Ag a.p.Zi1),.sl false (L Ae a.p.Zj1),.sl false (L Ac a.p.Zk1),i64 a.it.Za,i64 a.it.Ref.Zb,i64 a.it.Ref.No,i64 a.it.Zn1,i64 a.it.Zb1,i64 a.it.Zc,i64 a.it.Zo1,i64 a.it.Zw,i64 a.it.To,i64 a.it.Code,i64 a.it.Zp1,i64 a.it.Zq1,i64 a.it.Zr1,i64 a.it.Zs1,.str a.it.Zt1,.sl false (L Ad a.it.Zu1),.bool a.ok] false],_,_)]) trivial ⟨(wc (Bz ae) [0]),trivial⟩) Ev ?_
     refine Dw [[],[],[1],[1,2],[1,2,3],[1,2,3,4],[1,2,3,4,5],[1,2,3,4,5,6],[1,2,3,4,5,6,7],[1,2,3,4,5,6,7,8],[1,2,3,4,5],[1,2,3,4,5,10],[1,2,3,4,5,6,7,8,9,10,11],[1,2,3,4,5,6,7,8,9,10,11,12],[1,2,3,4,5,6,7,8,9,10,11,12,13],[1,2,3,4,5,6,7,8,9,10,11,12,13,14],[1,2,3,4,5,6,7,8,9,10,11,12,13,14,15],[1,2,3,4,5,6,7,8,9,10,11,12,13,14,15,16],[1,2,3,4,5,6,7,8,9,10,11,12,13],[1,2,3,4,5,6,7,8,9,10,11,12,13,18],[1,2,3,4,5,6,7,8,9,10,11,12,13,14,15,16,17,18,19],[1,2,3,4,5,6,7,8,9,10,11,12,13,14,15,16,17,18,19,20],[1,2,3,4,5,6,7,8,9,10,11,12,13,14,15,16,17,18,19,20,21],[0,1,2,3,4,5,6,7,8,9,10,11,12,13,14,15,16,17,18,19,20,21,22],[0,1,2,3,4,5,6,7,8,9,10,11,12,13,14,15,16,17,18,19,20,21,22,23],[0,1,2,3,4,5,6,7,8,9,10,11,12,13,14,15,16,17,18,19,20,21,22,23,24]] [0,2] (fun v=>⟨Aq 135 [(0,.ref 0 0),(2,.ref 0 9)],[.box [.sl false (L Ah c.2.p.Zg1.Ze),.sl false (L Al c.2.p.Zg1.Zf),.sl false (L Ab c.2.p.Zh1.Zx),.sl false (L Af c.2.p.Zh1.Zy),.sl false (L Aj c.2.p.Zh1.Zz),.sl false (L Ai c.2.p.Zh1.Za1),.sl false (L Ag c.2.p.Zi1),.sl false (L Ae c.2.p.Zj1),.sl false (L Ac c.2.p.Zk1),i64 c.2.it.Za,i64 c.2.it.Ref.Zb,i64 c.2.it.Ref.No,i64 c.2.it.Zn1,i64 c.2.it.Zb1,i64 c.2.it.Zc,i64 c.2.it.Zo1,i64 c.2.it.Zw,i64 c.2.it.To,i64 c.2.it.Code,i64 c.2.it.Zp1,i64 c.2.it.Zq1,i64 c.2.it.Zr1,i64 c.2.it.Zs1,.str c.2.it.Zt1,.sl false (L Ad c.2.it.Zu1),.bool v] false]⟩) ?_ ?_
     ·intro _;refine Sp (fun u=>?_) fun u=>?_
      ·refine Sp (fun w=>?_) fun w=>?_
       ·exact Lf Aa (Ew2 u w) (ws [0])
       ·exact Lf Aa (Ew2 u w) (ws [0])
      ·exact Lf Aa (Ew1 u) (ws [0])
     intro v;refine T0 [0,2] ?_;refine Bd fun g af =>Te [0,2] (Ap (l:=[]) (m:=[(77,151,[.ref 0 0],[.box [.sl false (L Ah c.2.p.Zg1.Ze),.sl false (L Al c.2.p.Zg1.Zf),.sl false (L Ab c.2.p.Zh1.Zx),.sl false (L Af c.2.p.Zh1.Zy),.sl false (L Aj c.2.p.Zh1.Zz),.sl false (L Ai c.2.p.Zh1.Za1),.sl false (L Ag c.2.p.Zi1),.sl false (L Ae c.2.p.Zj1),.sl false (L Ac c.2.p.Zk1),i64 c.2.it.Za,i64 c.2.it.Ref.Zb,i64 c.2.it.Ref.No,i64 c.2.it.Zn1,i64 c.2.it.Zb1,i64 0,i64 c.2.it.Zo1,i64 c.2.it.Zw,i64 c.2.it.To,i64 c.2.it.Code,i64 c.2.it.Zp1,i64 c.2.it.Zq1,i64 c.2.it.Zr1,i64 c.2.it.Zs1,.str c.2.it.Zt1,.sl false (L Ad c.2.it.Zu1),.bool v] false],_,_)]) trivial ⟨(wc (Bk af) [0]),trivial⟩) Ev ?_
     refine Bd fun ax ag =>Fe [] (Ap (l:=[]) (m:=[(82,150,[.ref 0 0,.ref 0 18,i64 0,i64 8],[.box [.sl false (L Ah g.p.Zg1.Ze),.sl false (L Al g.p.Zg1.Zf),.sl false (L Ab g.p.Zh1.Zx),.sl false (L Af g.p.Zh1.Zy),.sl false (L Aj g.p.Zh1.Zz),.sl false (L Ai g.p.Zh1.Za1),.sl false (L Ag g.p.Zi1),.sl false (L Ae g.p.Zj1),.sl false (L Ac g.p.Zk1),i64 g.it.Za,i64 g.it.Ref.Zb,i64 g.it.Ref.No,i64 g.it.Zn1,i64 g.it.Zb1,i64 g.it.Zc,i64 g.it.Zo1,i64 g.it.Zw,i64 g.it.To,i64 g.it.Code,i64 g.it.Zp1,i64 g.it.Zq1,i64 g.it.Zr1,i64 g.it.Zs1,.str g.it.Zt1,.sl false (L Ad g.it.Zu1),.bool g.ok] false],_,_)]) trivial ⟨(wc (BE ag) [0]),trivial⟩) Ev ?_
     exact Bn <|Ro [0]
    ·refine T0 [0,2,20,83] ?_;refine Cd ?_ ?_
     ·refine Bd fun i ah =>Te [0,2] (Ap (l:=[]) (m:=[(89,150,[.ref 0 0,.ref 0 15,i64 1,i64 1000000000],[.box [.sl false (L Ah a.p.Zg1.Ze),.sl false (L Al a.p.Zg1.Zf),.sl false (L Ab a.p.Zh1.Zx),.sl false (L Af a.p.Zh1.Zy),.sl false (L Aj a.p.Zh1.Zz),.sl false (L Ai a.p.Zh1.Za1),.sl false (L Ag a.p.Zi1),.sl false (L Ae a.p.Zj1),.sl false (L Ac a.p.Zk1),i64 a.it.Za,i64 a.it.Ref.Zb,i64 a.it.Ref.No,i64 a.it.Zn1,i64 a.it.Zb1,i64 a.it.Zc,i64 a.it.Zo1,i64 a.it.Zw,i64 a.it.To,i64 a.it.Code,i64 a.it.Zp1,i64 a.it.Zq1,i64 a.it.Zr1,i64 a.it.Zs1,.str a.it.Zt1,.sl false (L Ad a.it.Zu1),.bool a.ok] false],_,_)]) trivial ⟨(wc (Cv ah) [0]),trivial⟩) Ev ?_
      refine Bd fun j ai =>Te [0,2] (Ap (l:=[]) (m:=[(91,154,[.ref 0 0],[.box [.sl false (L Ah i.p.Zg1.Ze),.sl false (L Al i.p.Zg1.Zf),.sl false (L Ab i.p.Zh1.Zx),.sl false (L Af i.p.Zh1.Zy),.sl false (L Aj i.p.Zh1.Zz),.sl false (L Ai i.p.Zh1.Za1),.sl false (L Ag i.p.Zi1),.sl false (L Ae i.p.Zj1),.sl false (L Ac i.p.Zk1),i64 i.it.Za,i64 i.it.Ref.Zb,i64 i.it.Ref.No,i64 i.it.Zn1,i64 i.it.Zb1,i64 i.it.Zc,i64 i.it.Zo1,i64 i.it.Zw,i64 i.it.To,i64 i.it.Code,i64 i.it.Zp1,i64 i.it.Zq1,i64 i.it.Zr1,i64 i.it.Zs1,.str i.it.Zt1,.sl false (L Ad i.it.Zu1),.bool i.ok] false],_,_)]) trivial ⟨(wc (CB ai) [0]),trivial⟩) Ev ?_
      refine Bd fun d aj =>Te [0,2] (Ap (l:=[]) (m:=[(93,152,[.ref 0 0,i64 0],[.box [.sl false (L Ah j.p.Zg1.Ze),.sl false (L Al j.p.Zg1.Zf),.sl false (L Ab j.p.Zh1.Zx),.sl false (L Af j.p.Zh1.Zy),.sl false (L Aj j.p.Zh1.Zz),.sl false (L Ai j.p.Zh1.Za1),.sl false (L Ag j.p.Zi1),.sl false (L Ae j.p.Zj1),.sl false (L Ac j.p.Zk1),i64 j.it.Za,i64 j.it.Ref.Zb,i64 j.it.Ref.No,i64 j.it.Zn1,i64 j.it.Zb1,i64 j.it.Zc,i64 j.it.Zo1,i64 j.it.Zw,i64 j.it.To,i64 j.it.Code,i64 j.it.Zp1,i64 j.it.Zq1,i64 j.it.Zr1,i64 j.it.Zs1,.str j.it.Zt1,.sl false (L Ad j.it.Zu1),.bool j.ok] false],_,_)]) trivial ⟨(wc (Bz aj) [0]),trivial⟩) Ev ?_
      refine Bd fun k ak =>De [[],[],[1],[1,2],[],[4],[4,5],[4,5,6],[4,5,6,7],[4,5,6,7,8],[4,5,6,7,8,9],[4,5,6,7,8,9,10],[0,1,2,3,4,5,6,7,8,9,10,11]] [0,2] (Ap (l:=[]) (m:=[(106,150,[.ref 0 0,.ref 0 19,i64 0,i64 (w64 ((d.2.p.Zg1.Ze.length:Int)-1))],[.box [.sl false (L Ah d.2.p.Zg1.Ze),.sl false (L Al d.2.p.Zg1.Zf),.sl false (L Ab d.2.p.Zh1.Zx),.sl false (L Af d.2.p.Zh1.Zy),.sl false (L Aj d.2.p.Zh1.Zz),.sl false (L Ai d.2.p.Zh1.Za1),.sl false (L Ag d.2.p.Zi1),.sl false (L Ae d.2.p.Zj1),.sl false (L Ac d.2.p.Zk1),i64 d.2.it.Za,i64 d.2.it.Ref.Zb,i64 d.2.it.Ref.No,i64 d.2.it.Zn1,i64 d.2.it.Zb1,i64 d.2.it.Zc,i64 d.2.it.Zo1,i64 d.2.it.Zw,i64 d.2.it.To,i64 d.2.it.Code,i64 d.2.it.Zp1,i64 d.2.it.Zq1,i64 d.2.it.Zr1,i64 d.2.it.Zs1,.str d.2.it.Zt1,.sl false (L Ad d.2.it.Zu1),.bool d.2.ok] false],_,_)]) trivial ⟨(wc (Gx ak) [0]),trivial⟩) Ev ?_
      refine Bd fun n al =>Te [0,2] (Ap (l:=[]) (m:=[(108,155,[.ref 0 0],[.box [.sl false (L Ah k.p.Zg1.Ze),.sl false (L Al k.p.Zg1.Zf),.sl false (L Ab k.p.Zh1.Zx),.sl false (L Af k.p.Zh1.Zy),.sl false (L Aj k.p.Zh1.Zz),.sl false (L Ai k.p.Zh1.Za1),.sl false (L Ag k.p.Zi1),.sl false (L Ae k.p.Zj1),.sl false (L Ac k.p.Zk1),i64 k.it.Za,i64 k.it.Ref.Zb,i64 k.it.Ref.No,i64 k.it.Zn1,i64 k.it.Zb1,i64 k.it.Zc,i64 k.it.Zo1,i64 k.it.Zw,i64 k.it.To,i64 k.it.Code,i64 k.it.Zp1,i64 k.it.Zq1,i64 k.it.Zr1,i64 k.it.Zs1,.str k.it.Zt1,.sl false (L Ad k.it.Zu1),.bool k.ok] false],_,_)]) trivial ⟨(wc (Fc al) [0]),trivial⟩) Ev ?_
      refine Bd fun o am =>Te [0] (Ap (l:=[]) (m:=[(113,150,[.ref 0 0,.ref 0 21,i64 0,i64 1000000],[.box [.sl false (L Ah n.p.Zg1.Ze),.sl false (L Al n.p.Zg1.Zf),.sl false (L Ab n.p.Zh1.Zx),.sl false (L Af n.p.Zh1.Zy),.sl false (L Aj n.p.Zh1.Zz),.sl false (L Ai n.p.Zh1.Za1),.sl false (L Ag n.p.Zi1),.sl false (L Ae n.p.Zj1),.sl false (L Ac n.p.Zk1),i64 n.it.Za,i64 n.it.Ref.Zb,i64 n.it.Ref.No,i64 n.it.Zn1,i64 n.it.Zb1,i64 n.it.Zc,i64 n.it.Zo1,i64 n.it.Zw,i64 n.it.To,i64 n.it.Code,i64 n.it.Zp1,i64 n.it.Zq1,i64 n.it.Zr1,i64 n.it.Zs1,.str n.it.Zt1,.sl false (L Ad n.it.Zu1),.bool n.ok] false],_,_)]) trivial ⟨(wc (DG am) [0]),trivial⟩) Ev ?_
      refine Bd fun ay an =>Fe [] (Ap (l:=[]) (m:=[(115,151,[.ref 0 0],[.box [.sl false (L Ah o.p.Zg1.Ze),.sl false (L Al o.p.Zg1.Zf),.sl false (L Ab o.p.Zh1.Zx),.sl false (L Af o.p.Zh1.Zy),.sl false (L Aj o.p.Zh1.Zz),.sl false (L Ai o.p.Zh1.Za1),.sl false (L Ag o.p.Zi1),.sl false (L Ae o.p.Zj1),.sl false (L Ac o.p.Zk1),i64 o.it.Za,i64 o.it.Ref.Zb,i64 o.it.Ref.No,i64 o.it.Zn1,i64 o.it.Zb1,i64 o.it.Zc,i64 o.it.Zo1,i64 o.it.Zw,i64 o.it.To,i64 o.it.Code,i64 o.it.Zp1,i64 o.it.Zq1,i64 o.it.Zr1,i64 o.it.Zs1,.str o.it.Zt1,.sl false (L Ad o.it.Zu1),.bool o.ok] false],_,_)]) trivial ⟨(wc (Bk an) [0]),trivial⟩) Ev ?_
      exact Bn <|Ro [0]
     ·refine Ja (fun y=>⟨Aq 135 [(0,.ref 0 0),(2,.ref 0 9),(116,.bool y)],[.box [.sl false (L Ah a.p.Zg1.Ze),.sl false (L Al a.p.Zg1.Zf),.sl false (L Ab a.p.Zh1.Zx),.sl false (L Af a.p.Zh1.Zy),.sl false (L Aj a.p.Zh1.Zz),.sl false (L Ai a.p.Zh1.Za1),.sl false (L Ag a.p.Zi1),.sl false (L Ae a.p.Zj1),.sl false (L Ac a.p.Zk1),i64 a.it.Za,i64 a.it.Ref.Zb,i64 a.it.Ref.No,i64 a.it.Zn1,i64 a.it.Zb1,i64 a.it.Zc,i64 a.it.Zo1,i64 a.it.Zw,i64 a.it.To,i64 a.it.Code,i64 a.it.Zp1,i64 a.it.Zq1,i64 a.it.Zr1,i64 a.it.Zs1,.str a.it.Zt1,.sl false (L Ad a.it.Zu1),.bool a.ok] false]⟩) ?_ ?_
      ·intro az;refine T0 [0,2,20,116] ?_;refine Cd ?_ ?_
       ·exact Sk <|Jm (ws [0])
       ·refine F0 [0,2,116] ?_;exact Jm (ws [0])
      intro y;refine Cd ?_ ?_
      ·refine Bd fun q ao =>Te [0,2] (Ap (l:=[]) (m:=[(120,152,[.ref 0 0,i64 0],[.box [.sl false (L Ah a.p.Zg1.Ze),.sl false (L Al a.p.Zg1.Zf),.sl false (L Ab a.p.Zh1.Zx),.sl false (L Af a.p.Zh1.Zy),.sl false (L Aj a.p.Zh1.Zz),.sl false (L Ai a.p.Zh1.Za1),.sl false (L Ag a.p.Zi1),.sl false (L Ae a.p.Zj1),.sl false (L Ac a.p.Zk1),i64 a.it.Za,i64 a.it.Ref.Zb,i64 a.it.Ref.No,i64 a.it.Zn1,i64 a.it.Zb1,i64 a.it.Zc,i64 a.it.Zo1,i64 a.it.Zw,i64 a.it.To,i64 a.it.Code,i64 a.it.Zp1,i64 a.it.Zq1,i64 a.it.Zr1,i64 a.it.Zs1,.str a.it.Zt1,.sl false (L Ad a.it.Zu1),.bool a.ok] false],_,_)]) trivial ⟨(wc (Bz ao) [0]),trivial⟩) Ev ?_
       refine Bd fun s ap =>Te [0,2] (Ap (l:=[]) (m:=[(122,154,[.ref 0 0],[.box [.sl false (L Ah q.2.p.Zg1.Ze),.sl false (L Al q.2.p.Zg1.Zf),.sl false (L Ab q.2.p.Zh1.Zx),.sl false (L Af q.2.p.Zh1.Zy),.sl false (L Aj q.2.p.Zh1.Zz),.sl false (L Ai q.2.p.Zh1.Za1),.sl false (L Ag q.2.p.Zi1),.sl false (L Ae q.2.p.Zj1),.sl false (L Ac q.2.p.Zk1),i64 q.2.it.Za,i64 q.2.it.Ref.Zb,i64 q.2.it.Ref.No,i64 q.2.it.Zn1,i64 q.2.it.Zb1,i64 q.2.it.Zc,i64 q.2.it.Zo1,i64 q.2.it.Zw,i64 q.2.it.To,i64 q.2.it.Code,i64 q.2.it.Zp1,i64 q.2.it.Zq1,i64 q.2.it.Zr1,i64 q.2.it.Zs1,.str q.2.it.Zt1,.sl false (L Ad q.2.it.Zu1),.bool q.2.ok] false],_,_)]) trivial ⟨(wc (CB ap) [0]),trivial⟩) Ev ?_
       refine Bd fun t aq =>Te [0,2] (Ap (l:=[]) (m:=[(124,151,[.ref 0 0],[.box [.sl false (L Ah s.p.Zg1.Ze),.sl false (L Al s.p.Zg1.Zf),.sl false (L Ab s.p.Zh1.Zx),.sl false (L Af s.p.Zh1.Zy),.sl false (L Aj s.p.Zh1.Zz),.sl false (L Ai s.p.Zh1.Za1),.sl false (L Ag s.p.Zi1),.sl false (L Ae s.p.Zj1),.sl false (L Ac s.p.Zk1),i64 s.it.Za,i64 s.it.Ref.Zb,i64 s.it.Ref.No,i64 s.it.Zn1,i64 s.it.Zb1,i64 s.it.Zc,i64 s.it.Zo1,i64 s.it.Zw,i64 s.it.To,i64 s.it.Code,i64 s.it.Zp1,i64 s.it.Zq1,i64 s.it.Zr1,i64 s.it.Zs1,.str s.it.Zt1,.sl false (L Ad s.it.Zu1),.bool s.ok] false],_,_)]) trivial ⟨(wc (Bk aq) [0]),trivial⟩) Ev ?_
       refine T0 [0,2,129] ?_;refine Cd ?_ ?_
       ·refine Bd fun aA ar =>Fe [] (Ap (l:=[]) (m:=[(134,150,[.ref 0 0,.ref 0 18,i64 0,i64 1],[.box [.sl false (L Ah t.p.Zg1.Ze),.sl false (L Al t.p.Zg1.Zf),.sl false (L Ab t.p.Zh1.Zx),.sl false (L Af t.p.Zh1.Zy),.sl false (L Aj t.p.Zh1.Zz),.sl false (L Ai t.p.Zh1.Za1),.sl false (L Ag t.p.Zi1),.sl false (L Ae t.p.Zj1),.sl false (L Ac t.p.Zk1),i64 t.it.Za,i64 t.it.Ref.Zb,i64 t.it.Ref.No,i64 t.it.Zn1,i64 t.it.Zb1,i64 t.it.Zc,i64 t.it.Zo1,i64 t.it.Zw,i64 t.it.To,i64 t.it.Code,i64 t.it.Zp1,i64 t.it.Zq1,i64 t.it.Zr1,i64 t.it.Zs1,.str t.it.Zt1,.sl false (L Ad t.it.Zu1),.bool t.ok] false],_,_)]) trivial ⟨(wc (BE ar) [0]),trivial⟩) Ev ?_
        exact Bn <|Ro [0]
       ·exact Sk <|Bn <|Ro [0]
      ·exact Sk <|Bn <|Ro [0]
theorem K2{a g r}(h:Kn a g=some r):Con B 156 [.sl false (L Ad a),.bool g] [] (fun r' σ'=>r'=.bool r∧σ'=[]):=by
 refine Cw 43 [.tmp 4] Tryz.func156 (fun F hE=>?_) h;unfold Kn;refine T0 [0,1] ?_;refine Jo (fun _=>⟨Aq 43 [(0,.sl false (L Ad a))],[]⟩) ?_ ?_
 ·intro w m;refine T0 [0,1,7,8,9] ?_;refine Sb ?_;refine Lo (fun i=>⟨Aq 43 [(0,.sl false (L Ad a)),(1,.bool g),(7,.sl false (L Ad a)),(8,i64 (a.length:Int)),(9,i64 i)],[]⟩) (ws []) ?_;rintro i x n j k;show Ik a g i=some n→_;unfold Ik;refine T0 [0,1,7,8,9,10] ?_;refine Sq <|Cd ?_ ?_
  ·refine Sk <|Tn <|Sq <|Sb <|Ck fun o =>Lt fun p q =>Lt fun s t =>Lt fun u v =>Te (σ':=[.box [i64 p,i64 s,.bool u] false]) [0,1,6,7,8,9] Aa (Ew4 (qR o) q t v) ?_
   refine Tw [0,1,7,8,9,38] (fun l=>⟨Aq 43 [(0,.sl false (L Ad a)),(1,.bool g),(7,.sl false (L Ad a)),(8,i64 (a.length:Int)),(9,i64 i),(38,.bool l)],[]⟩) ?_ ?_
   ·intro _;refine Sp (fun b=>?_) fun b=>?_
    ·exact Lf Aa (Ew1 b) (ws [])
    ·refine Sp (fun c=>?_) fun c=>?_
     ·exact Lf Aa (Ew2 b c) (ws [])
     ·refine Sp (fun d=>?_) fun d=>?_
      ·exact Lf Aa (Ew3 b c d) (ws [])
      ·refine Sp (fun e=>?_) fun e=>?_
       ·exact Lf Aa (Ew4 b c d e) (ws [])
       ·refine Sp (fun f=>?_) fun f=>?_
        ·exact Lf Aa (Ew5 b c d e f) (ws [] (by simp only[go_sem,b,c,d,e,f]) (by simp only[go_sem,b,c,d,e,f]))
        ·exact Lf Aa (Ew5 b c d e f) (ws [] (by simp only[go_sem,b,c,d,e,f]) (by simp only[go_sem,b,c,d,e,f]))
   intro l;refine Cd ?_ ?_
   ·refine T0 [4] ?_;exact Sr <|Br <|Tr <|Lr k j <|Br <|Jr m <|Rr
   ·refine Sk <|Bn <|Tn <|F0 [0,1,7,8,9] ?_
    exact Ln (ws [])
  ·refine Sx <|Tx <|Lx k j <|Bx <|?_
   exact Jn ((ws (l':=[(0,.sl false (L Ad a))]) (σ':=[]) []).trans (ws []))
 intro _;refine T0 [4] ?_;exact Sr <|Rr
theorem Ia{a r}(h:EK a=some r):Con B 131 [.ref 0 0] [.box [.sl false (L Ah a.p.Zg1.Ze),.sl false (L Al a.p.Zg1.Zf),.sl false (L Ab a.p.Zh1.Zx),.sl false (L Af a.p.Zh1.Zy),.sl false (L Aj a.p.Zh1.Zz),.sl false (L Ai a.p.Zh1.Za1),.sl false (L Ag a.p.Zi1),.sl false (L Ae a.p.Zj1),.sl false (L Ac a.p.Zk1),i64 a.it.Za,i64 a.it.Ref.Zb,i64 a.it.Ref.No,i64 a.it.Zn1,i64 a.it.Zb1,i64 a.it.Zc,i64 a.it.Zo1,i64 a.it.Zw,i64 a.it.To,i64 a.it.Code,i64 a.it.Zp1,i64 a.it.Zq1,i64 a.it.Zr1,i64 a.it.Zs1,.str a.it.Zt1,.sl false (L Ad a.it.Zu1),.bool a.ok] false] (fun r' σ'=>r'=.tup []∧σ'=[.box [.sl false (L Ah r.p.Zg1.Ze),.sl false (L Al r.p.Zg1.Zf),.sl false (L Ab r.p.Zh1.Zx),.sl false (L Af r.p.Zh1.Zy),.sl false (L Aj r.p.Zh1.Zz),.sl false (L Ai r.p.Zh1.Za1),.sl false (L Ag r.p.Zi1),.sl false (L Ae r.p.Zj1),.sl false (L Ac r.p.Zk1),i64 r.it.Za,i64 r.it.Ref.Zb,i64 r.it.Ref.No,i64 r.it.Zn1,i64 r.it.Zb1,i64 r.it.Zc,i64 r.it.Zo1,i64 r.it.Zw,i64 r.it.To,i64 r.it.Code,i64 r.it.Zp1,i64 r.it.Zq1,i64 r.it.Zr1,i64 r.it.Zs1,.str r.it.Zt1,.sl false (L Ad r.it.Zu1),.bool r.ok] false]):=by
 refine Co 1 168 [] Tryz.func131 (fun F hE=>?_) h;unfold EK;refine T0 [0,2] ?_;refine T0 [0,2,9] ?_;refine Sb <|T0 [0,2,9,13] ?_
 refine Cd ?_ ?_
 ·refine Bd fun c af =>Te [0,2] (Ap (l:=[]) (m:=[(16,149,[.ref 0 0],[.box [.sl false (L Ah a.p.Zg1.Ze),.sl false (L Al a.p.Zg1.Zf),.sl false (L Ab a.p.Zh1.Zx),.sl false (L Af a.p.Zh1.Zy),.sl false (L Aj a.p.Zh1.Zz),.sl false (L Ai a.p.Zh1.Za1),.sl false (L Ag a.p.Zi1),.sl false (L Ae a.p.Zj1),.sl false (L Ac a.p.Zk1),i64 a.it.Za,i64 a.it.Ref.Zb,i64 a.it.Ref.No,i64 a.it.Zn1,i64 a.it.Zb1,i64 a.it.Zc,i64 a.it.Zo1,i64 a.it.Zw,i64 a.it.To,i64 a.it.Code,i64 a.it.Zp1,i64 a.it.Zq1,i64 a.it.Zr1,i64 a.it.Zs1,.str a.it.Zt1,.sl false (L Ad a.it.Zu1),.bool a.ok] false],_,_)]) trivial ⟨(wc (CW af) [0]),trivial⟩) Ev ?_
  refine Bd fun d ag =>Te [0,2] (Ap (l:=[]) (m:=[(18,151,[.ref 0 0],[.box [.sl false (L Ah c.p.Zg1.Ze),.sl false (L Al c.p.Zg1.Zf),.sl false (L Ab c.p.Zh1.Zx),.sl false (L Af c.p.Zh1.Zy),.sl false (L Aj c.p.Zh1.Zz),.sl false (L Ai c.p.Zh1.Za1),.sl false (L Ag c.p.Zi1),.sl false (L Ae c.p.Zj1),.sl false (L Ac c.p.Zk1),i64 c.it.Za,i64 c.it.Ref.Zb,i64 c.it.Ref.No,i64 c.it.Zn1,i64 c.it.Zb1,i64 c.it.Zc,i64 c.it.Zo1,i64 c.it.Zw,i64 c.it.To,i64 c.it.Code,i64 c.it.Zp1,i64 c.it.Zq1,i64 c.it.Zr1,i64 c.it.Zs1,.str c.it.Zt1,.sl false (L Ad c.it.Zu1),.bool c.ok] false],_,_)]) trivial ⟨(wc (Bk ag) [0]),trivial⟩) Ev ?_
  refine Bd fun aB ah =>Fe [] (Ap (l:=[]) (m:=[(23,150,[.ref 0 0,.ref 0 18,i64 1,i64 9],[.box [.sl false (L Ah d.p.Zg1.Ze),.sl false (L Al d.p.Zg1.Zf),.sl false (L Ab d.p.Zh1.Zx),.sl false (L Af d.p.Zh1.Zy),.sl false (L Aj d.p.Zh1.Zz),.sl false (L Ai d.p.Zh1.Za1),.sl false (L Ag d.p.Zi1),.sl false (L Ae d.p.Zj1),.sl false (L Ac d.p.Zk1),i64 d.it.Za,i64 d.it.Ref.Zb,i64 d.it.Ref.No,i64 d.it.Zn1,i64 d.it.Zb1,i64 d.it.Zc,i64 d.it.Zo1,i64 d.it.Zw,i64 d.it.To,i64 d.it.Code,i64 d.it.Zp1,i64 d.it.Zq1,i64 d.it.Zr1,i64 d.it.Zs1,.str d.it.Zt1,.sl false (L Ad d.it.Zu1),.bool d.ok] false],_,_)]) trivial ⟨(wc (BE ah) [0]),trivial⟩) Ev ?_
  exact Bn <|Ro [0]
 ·refine T0 [0,2,9,24] ?_;refine Cd ?_ ?_
  ·refine Bd fun e ai =>Te [0,2] (Ap (l:=[]) (m:=[(27,149,[.ref 0 0],[.box [.sl false (L Ah a.p.Zg1.Ze),.sl false (L Al a.p.Zg1.Zf),.sl false (L Ab a.p.Zh1.Zx),.sl false (L Af a.p.Zh1.Zy),.sl false (L Aj a.p.Zh1.Zz),.sl false (L Ai a.p.Zh1.Za1),.sl false (L Ag a.p.Zi1),.sl false (L Ae a.p.Zj1),.sl false (L Ac a.p.Zk1),i64 a.it.Za,i64 a.it.Ref.Zb,i64 a.it.Ref.No,i64 a.it.Zn1,i64 a.it.Zb1,i64 a.it.Zc,i64 a.it.Zo1,i64 a.it.Zw,i64 a.it.To,i64 a.it.Code,i64 a.it.Zp1,i64 a.it.Zq1,i64 a.it.Zr1,i64 a.it.Zs1,.str a.it.Zt1,.sl false (L Ad a.it.Zu1),.bool a.ok] false],_,_)]) trivial ⟨(wc (CW ai) [0]),trivial⟩) Ev ?_
   refine Bd fun f aj =>Te [0,2] (Ap (l:=[]) (m:=[(29,152,[.ref 0 0,i64 5],[.box [.sl false (L Ah e.p.Zg1.Ze),.sl false (L Al e.p.Zg1.Zf),.sl false (L Ab e.p.Zh1.Zx),.sl false (L Af e.p.Zh1.Zy),.sl false (L Aj e.p.Zh1.Zz),.sl false (L Ai e.p.Zh1.Za1),.sl false (L Ag e.p.Zi1),.sl false (L Ae e.p.Zj1),.sl false (L Ac e.p.Zk1),i64 e.it.Za,i64 e.it.Ref.Zb,i64 e.it.Ref.No,i64 e.it.Zn1,i64 e.it.Zb1,i64 e.it.Zc,i64 e.it.Zo1,i64 e.it.Zw,i64 e.it.To,i64 e.it.Code,i64 e.it.Zp1,i64 e.it.Zq1,i64 e.it.Zr1,i64 e.it.Zs1,.str e.it.Zt1,.sl false (L Ad e.it.Zu1),.bool e.ok] false],_,_)]) trivial ⟨(wc (Bz aj) [0]),trivial⟩) Ev ?_
   refine Bd fun g ak =>Te [0,2] (Ap (l:=[]) (m:=[(31,153,[.ref 0 0],[.box [.sl false (L Ah f.2.p.Zg1.Ze),.sl false (L Al f.2.p.Zg1.Zf),.sl false (L Ab f.2.p.Zh1.Zx),.sl false (L Af f.2.p.Zh1.Zy),.sl false (L Aj f.2.p.Zh1.Zz),.sl false (L Ai f.2.p.Zh1.Za1),.sl false (L Ag f.2.p.Zi1),.sl false (L Ae f.2.p.Zj1),.sl false (L Ac f.2.p.Zk1),i64 f.2.it.Za,i64 f.2.it.Ref.Zb,i64 f.2.it.Ref.No,i64 f.2.it.Zn1,i64 f.2.it.Zb1,i64 f.2.it.Zc,i64 f.2.it.Zo1,i64 f.2.it.Zw,i64 f.2.it.To,i64 f.2.it.Code,i64 f.2.it.Zp1,i64 f.2.it.Zq1,i64 f.2.it.Zr1,i64 f.2.it.Zs1,.str f.2.it.Zt1,.sl false (L Ad f.2.it.Zu1),.bool f.2.ok] false],_,_)]) trivial ⟨(wc (DF ak) [0]),trivial⟩) Ev ?_
   refine Bd fun i al =>Te [0,2] (Ap (l:=[]) (m:=[(36,150,[.ref 0 0,.ref 0 18,i64 1,i64 2],[.box [.sl false (L Ah g.p.Zg1.Ze),.sl false (L Al g.p.Zg1.Zf),.sl false (L Ab g.p.Zh1.Zx),.sl false (L Af g.p.Zh1.Zy),.sl false (L Aj g.p.Zh1.Zz),.sl false (L Ai g.p.Zh1.Za1),.sl false (L Ag g.p.Zi1),.sl false (L Ae g.p.Zj1),.sl false (L Ac g.p.Zk1),i64 g.it.Za,i64 g.it.Ref.Zb,i64 g.it.Ref.No,i64 g.it.Zn1,i64 g.it.Zb1,i64 g.it.Zc,i64 g.it.Zo1,i64 g.it.Zw,i64 g.it.To,i64 g.it.Code,i64 g.it.Zp1,i64 g.it.Zq1,i64 g.it.Zr1,i64 g.it.Zs1,.str g.it.Zt1,.sl false (L Ad g.it.Zu1),.bool g.ok] false],_,_)]) trivial ⟨(wc (BE al) [0]),trivial⟩) Ev ?_
   refine Bd fun t am =>Te [0,2] (Ap (l:=[]) (m:=[(41,150,[.ref 0 0,.ref 0 22,i64 0,i64 1000000000],[.box [.sl false (L Ah i.p.Zg1.Ze),.sl false (L Al i.p.Zg1.Zf),.sl false (L Ab i.p.Zh1.Zx),.sl false (L Af i.p.Zh1.Zy),.sl false (L Aj i.p.Zh1.Zz),.sl false (L Ai i.p.Zh1.Za1),.sl false (L Ag i.p.Zi1),.sl false (L Ae i.p.Zj1),.sl false (L Ac i.p.Zk1),i64 i.it.Za,i64 i.it.Ref.Zb,i64 i.it.Ref.No,i64 i.it.Zn1,i64 i.it.Zb1,i64 i.it.Zc,i64 i.it.Zo1,i64 i.it.Zw,i64 i.it.To,i64 i.it.Code,i64 i.it.Zp1,i64 i.it.Zq1,i64 i.it.Zr1,i64 i.it.Zs1,.str i.it.Zt1,.sl false (L Ad i.it.Zu1),.bool i.ok] false],_,_)]) trivial ⟨(wc (DH am) [0]),trivial⟩) Ev ?_
   refine Tw [2] (fun ab=>⟨Aq 168 [(2,.ref 0 9)],[.box [.sl false (L Ah t.p.Zg1.Ze),.sl false (L Al t.p.Zg1.Zf),.sl false (L Ab t.p.Zh1.Zx),.sl false (L Af t.p.Zh1.Zy),.sl false (L Aj t.p.Zh1.Zz),.sl false (L Ai t.p.Zh1.Za1),.sl false (L Ag t.p.Zi1),.sl false (L Ae t.p.Zj1),.sl false (L Ac t.p.Zk1),i64 t.it.Za,i64 t.it.Ref.Zb,i64 t.it.Ref.No,i64 t.it.Zn1,i64 t.it.Zb1,i64 t.it.Zc,i64 t.it.Zo1,i64 t.it.Zw,i64 t.it.To,i64 t.it.Code,i64 t.it.Zp1,i64 t.it.Zq1,i64 t.it.Zr1,i64 t.it.Zs1,.str t.it.Zt1,.sl false (L Ad t.it.Zu1),.bool ab] false]⟩) ?_ ?_
   ·intro _;refine Sp (fun y=>?_) fun y=>?_
    ·refine Bd fun aC an=>?_
     exact Lf (o1 52 (K2 an)) (Ew1 y) (ws [0])
    ·exact Lf Aa (Ew1 y) (ws [0])
   intro ab;refine F0 [] ?_;exact Bn <|Ro [0]
  ·refine T0 [0,2,9,59] ?_;refine Cd ?_ ?_
   ·refine Bd fun u ao =>Te [0,2] (Ap (l:=[]) (m:=[(65,150,[.ref 0 0,.ref 0 14,i64 0,i64 63],[.box [.sl false (L Ah a.p.Zg1.Ze),.sl false (L Al a.p.Zg1.Zf),.sl false (L Ab a.p.Zh1.Zx),.sl false (L Af a.p.Zh1.Zy),.sl false (L Aj a.p.Zh1.Zz),.sl false (L Ai a.p.Zh1.Za1),.sl false (L Ag a.p.Zi1),.sl false (L Ae a.p.Zj1),.sl false (L Ac a.p.Zk1),i64 a.it.Za,i64 a.it.Ref.Zb,i64 a.it.Ref.No,i64 a.it.Zn1,i64 a.it.Zb1,i64 a.it.Zc,i64 a.it.Zo1,i64 a.it.Zw,i64 a.it.To,i64 a.it.Code,i64 a.it.Zp1,i64 a.it.Zq1,i64 a.it.Zr1,i64 a.it.Zs1,.str a.it.Zt1,.sl false (L Ad a.it.Zu1),.bool a.ok] false],_,_)]) trivial ⟨(wc (Cy ao) [0]),trivial⟩) Ev ?_
    refine Tw [2] (fun ac=>⟨Aq 168 [(2,.ref 0 9)],[.box [.sl false (L Ah u.p.Zg1.Ze),.sl false (L Al u.p.Zg1.Zf),.sl false (L Ab u.p.Zh1.Zx),.sl false (L Af u.p.Zh1.Zy),.sl false (L Aj u.p.Zh1.Zz),.sl false (L Ai u.p.Zh1.Za1),.sl false (L Ag u.p.Zi1),.sl false (L Ae u.p.Zj1),.sl false (L Ac u.p.Zk1),i64 u.it.Za,i64 u.it.Ref.Zb,i64 u.it.Ref.No,i64 u.it.Zn1,i64 u.it.Zb1,i64 u.it.Zc,i64 u.it.Zo1,i64 u.it.Zw,i64 u.it.To,i64 u.it.Code,i64 u.it.Zp1,i64 u.it.Zq1,i64 u.it.Zr1,i64 u.it.Zs1,.str u.it.Zt1,.sl false (L Ad u.it.Zu1),.bool ac] false]⟩) ?_ ?_
    ·intro _;refine Sp (fun w=>?_) fun w=>?_
     ·refine Sp (fun z=>?_) fun z=>?_
      ·refine Bd fun aD ap=>?_
       exact Lf (o1 84 (K2 ap)) (Ew2 w z) (ws [0])
      ·exact Lf Aa (Ew2 w z) (ws [0])
     ·exact Lf Aa (Ew1 w) (ws [0])
    intro ac;refine F0 [] ?_;exact Bn <|Ro [0]
   ·refine Ja (fun ad=>⟨Aq 168 [(0,.ref 0 0),(2,.ref 0 9),(9,i64 a.it.Za),(91,.bool ad)],[.box [.sl false (L Ah a.p.Zg1.Ze),.sl false (L Al a.p.Zg1.Zf),.sl false (L Ab a.p.Zh1.Zx),.sl false (L Af a.p.Zh1.Zy),.sl false (L Aj a.p.Zh1.Zz),.sl false (L Ai a.p.Zh1.Za1),.sl false (L Ag a.p.Zi1),.sl false (L Ae a.p.Zj1),.sl false (L Ac a.p.Zk1),i64 a.it.Za,i64 a.it.Ref.Zb,i64 a.it.Ref.No,i64 a.it.Zn1,i64 a.it.Zb1,i64 a.it.Zc,i64 a.it.Zo1,i64 a.it.Zw,i64 a.it.To,i64 a.it.Code,i64 a.it.Zp1,i64 a.it.Zq1,i64 a.it.Zr1,i64 a.it.Zs1,.str a.it.Zt1,.sl false (L Ad a.it.Zu1),.bool a.ok] false]⟩) ?_ ?_
    ·intro aE;refine T0 [0,2,9,91] ?_;refine Cd ?_ ?_
     ·exact Sk <|Jm (ws [0])
     ·refine T0 [0,2,9,91] ?_;refine Cd ?_ ?_
      ·exact Sk <|Jm (ws [0])
      ·refine F0 [0,2,9,91] ?_;exact Jm (ws [0])
    intro ad;refine Cd ?_ ?_
    ·refine Bd fun j aq =>Te [0,2] (Ap (l:=[]) (m:=[(99,150,[.ref 0 0,.ref 0 15,i64 1,i64 6],[.box [.sl false (L Ah a.p.Zg1.Ze),.sl false (L Al a.p.Zg1.Zf),.sl false (L Ab a.p.Zh1.Zx),.sl false (L Af a.p.Zh1.Zy),.sl false (L Aj a.p.Zh1.Zz),.sl false (L Ai a.p.Zh1.Za1),.sl false (L Ag a.p.Zi1),.sl false (L Ae a.p.Zj1),.sl false (L Ac a.p.Zk1),i64 a.it.Za,i64 a.it.Ref.Zb,i64 a.it.Ref.No,i64 a.it.Zn1,i64 a.it.Zb1,i64 a.it.Zc,i64 a.it.Zo1,i64 a.it.Zw,i64 a.it.To,i64 a.it.Code,i64 a.it.Zp1,i64 a.it.Zq1,i64 a.it.Zr1,i64 a.it.Zs1,.str a.it.Zt1,.sl false (L Ad a.it.Zu1),.bool a.ok] false],_,_)]) trivial ⟨(wc (Cv aq) [0]),trivial⟩) Ev ?_
     refine Bd fun v ar =>Te [0,2] (Ap (l:=[]) (m:=[(101,151,[.ref 0 0],[.box [.sl false (L Ah j.p.Zg1.Ze),.sl false (L Al j.p.Zg1.Zf),.sl false (L Ab j.p.Zh1.Zx),.sl false (L Af j.p.Zh1.Zy),.sl false (L Aj j.p.Zh1.Zz),.sl false (L Ai j.p.Zh1.Za1),.sl false (L Ag j.p.Zi1),.sl false (L Ae j.p.Zj1),.sl false (L Ac j.p.Zk1),i64 j.it.Za,i64 j.it.Ref.Zb,i64 j.it.Ref.No,i64 j.it.Zn1,i64 j.it.Zb1,i64 j.it.Zc,i64 j.it.Zo1,i64 j.it.Zw,i64 j.it.To,i64 j.it.Code,i64 j.it.Zp1,i64 j.it.Zq1,i64 j.it.Zr1,i64 j.it.Zs1,.str j.it.Zt1,.sl false (L Ad j.it.Zu1),.bool j.ok] false],_,_)]) trivial ⟨(wc (Bk ar) [0]),trivial⟩) Ev ?_
     refine T0 [0,2,106] ?_;refine Cd ?_ ?_
     ·refine Tw [2] (fun ae=>⟨Aq 168 [(2,.ref 0 9)],[.box [.sl false (L Ah v.p.Zg1.Ze),.sl false (L Al v.p.Zg1.Zf),.sl false (L Ab v.p.Zh1.Zx),.sl false (L Af v.p.Zh1.Zy),.sl false (L Aj v.p.Zh1.Zz),.sl false (L Ai v.p.Zh1.Za1),.sl false (L Ag v.p.Zi1),.sl false (L Ae v.p.Zj1),.sl false (L Ac v.p.Zk1),i64 v.it.Za,i64 v.it.Ref.Zb,i64 v.it.Ref.No,i64 v.it.Zn1,i64 v.it.Zb1,i64 v.it.Zc,i64 v.it.Zo1,i64 v.it.Zw,i64 v.it.To,i64 v.it.Code,i64 v.it.Zp1,i64 v.it.Zq1,i64 v.it.Zr1,i64 v.it.Zs1,.str v.it.Zt1,.sl false (L Ad v.it.Zu1),.bool ae] false]⟩) ?_ ?_
      ·intro _;refine Sp (fun x=>?_) fun x=>?_
       ·refine Sp (fun aa=>?_) fun aa=>?_
        ·exact Lf Aa (Ew2 x aa) (ws [0])
        ·exact Lf Aa (Ew2 x aa) (ws [0])
       ·exact Lf Aa (Ew1 x) (ws [0])
      intro ae;refine F0 [] ?_;exact Bn <|Ro [0]
     ·exact Sk <|Bn <|Ro [0]
    ·refine T0 [0,2,9,133] ?_;refine Cd ?_ ?_
     ·exact Sk <|Bn <|Ro [0]
     ·refine T0 [0,2,135] ?_;refine Cd ?_ ?_
      ·refine Bd fun k au =>Te [0,2] (Ap (l:=[]) (m:=[(138,154,[.ref 0 0],[.box [.sl false (L Ah a.p.Zg1.Ze),.sl false (L Al a.p.Zg1.Zf),.sl false (L Ab a.p.Zh1.Zx),.sl false (L Af a.p.Zh1.Zy),.sl false (L Aj a.p.Zh1.Zz),.sl false (L Ai a.p.Zh1.Za1),.sl false (L Ag a.p.Zi1),.sl false (L Ae a.p.Zj1),.sl false (L Ac a.p.Zk1),i64 a.it.Za,i64 a.it.Ref.Zb,i64 a.it.Ref.No,i64 a.it.Zn1,i64 a.it.Zb1,i64 a.it.Zc,i64 a.it.Zo1,i64 a.it.Zw,i64 a.it.To,i64 a.it.Code,i64 a.it.Zp1,i64 a.it.Zq1,i64 a.it.Zr1,i64 a.it.Zs1,.str a.it.Zt1,.sl false (L Ad a.it.Zu1),.bool a.ok] false],_,_)]) trivial ⟨(wc (CB au) [0]),trivial⟩) Ev ?_
       refine Bd fun n av =>Te [0,2] (Ap (l:=[]) (m:=[(140,152,[.ref 0 0,i64 0],[.box [.sl false (L Ah k.p.Zg1.Ze),.sl false (L Al k.p.Zg1.Zf),.sl false (L Ab k.p.Zh1.Zx),.sl false (L Af k.p.Zh1.Zy),.sl false (L Aj k.p.Zh1.Zz),.sl false (L Ai k.p.Zh1.Za1),.sl false (L Ag k.p.Zi1),.sl false (L Ae k.p.Zj1),.sl false (L Ac k.p.Zk1),i64 k.it.Za,i64 k.it.Ref.Zb,i64 k.it.Ref.No,i64 k.it.Zn1,i64 k.it.Zb1,i64 k.it.Zc,i64 k.it.Zo1,i64 k.it.Zw,i64 k.it.To,i64 k.it.Code,i64 k.it.Zp1,i64 k.it.Zq1,i64 k.it.Zr1,i64 k.it.Zs1,.str k.it.Zt1,.sl false (L Ad k.it.Zu1),.bool k.ok] false],_,_)]) trivial ⟨(wc (Bz av) [0]),trivial⟩) Ev ?_
       refine Bd fun b aw =>Te [0,2] (Ap (l:=[]) (m:=[(142,155,[.ref 0 0],[.box [.sl false (L Ah n.2.p.Zg1.Ze),.sl false (L Al n.2.p.Zg1.Zf),.sl false (L Ab n.2.p.Zh1.Zx),.sl false (L Af n.2.p.Zh1.Zy),.sl false (L Aj n.2.p.Zh1.Zz),.sl false (L Ai n.2.p.Zh1.Za1),.sl false (L Ag n.2.p.Zi1),.sl false (L Ae n.2.p.Zj1),.sl false (L Ac n.2.p.Zk1),i64 n.2.it.Za,i64 n.2.it.Ref.Zb,i64 n.2.it.Ref.No,i64 n.2.it.Zn1,i64 n.2.it.Zb1,i64 n.2.it.Zc,i64 n.2.it.Zo1,i64 n.2.it.Zw,i64 n.2.it.To,i64 n.2.it.Code,i64 n.2.it.Zp1,i64 n.2.it.Zq1,i64 n.2.it.Zr1,i64 n.2.it.Zs1,.str n.2.it.Zt1,.sl false (L Ad n.2.it.Zu1),.bool n.2.ok] false],_,_)]) trivial ⟨(wc (Fc aw) [0]),trivial⟩) Ev ?_
       refine Bd fun o ax =>De [[],[],[1],[1,2],[],[4],[4,5],[4,5,6],[4,5,6,7],[4,5,6,7,8],[4,5,6,7,8,9],[4,5,6,7,8,9,10],[0,1,2,3,4,5,6,7,8,9,10,11]] [0,2] (Ap (l:=[]) (m:=[(155,150,[.ref 0 0,.ref 0 15,i64 0,i64 (w64 ((b.p.Zh1.Zx.length:Int)-1))],[.box [.sl false (L Ah b.p.Zg1.Ze),.sl false (L Al b.p.Zg1.Zf),.sl false (L Ab b.p.Zh1.Zx),.sl false (L Af b.p.Zh1.Zy),.sl false (L Aj b.p.Zh1.Zz),.sl false (L Ai b.p.Zh1.Za1),.sl false (L Ag b.p.Zi1),.sl false (L Ae b.p.Zj1),.sl false (L Ac b.p.Zk1),i64 b.it.Za,i64 b.it.Ref.Zb,i64 b.it.Ref.No,i64 b.it.Zn1,i64 b.it.Zb1,i64 b.it.Zc,i64 b.it.Zo1,i64 b.it.Zw,i64 b.it.To,i64 b.it.Code,i64 b.it.Zp1,i64 b.it.Zq1,i64 b.it.Zr1,i64 b.it.Zs1,.str b.it.Zt1,.sl false (L Ad b.it.Zu1),.bool b.ok] false],_,_)]) trivial ⟨(wc (Cv ax) [0]),trivial⟩) Ev ?_
       refine Bd fun q ay =>Te [0,2] (Ap (l:=[]) (m:=[(160,150,[.ref 0 0,.ref 0 21,i64 1,i64 1000],[.box [.sl false (L Ah o.p.Zg1.Ze),.sl false (L Al o.p.Zg1.Zf),.sl false (L Ab o.p.Zh1.Zx),.sl false (L Af o.p.Zh1.Zy),.sl false (L Aj o.p.Zh1.Zz),.sl false (L Ai o.p.Zh1.Za1),.sl false (L Ag o.p.Zi1),.sl false (L Ae o.p.Zj1),.sl false (L Ac o.p.Zk1),i64 o.it.Za,i64 o.it.Ref.Zb,i64 o.it.Ref.No,i64 o.it.Zn1,i64 o.it.Zb1,i64 o.it.Zc,i64 o.it.Zo1,i64 o.it.Zw,i64 o.it.To,i64 o.it.Code,i64 o.it.Zp1,i64 o.it.Zq1,i64 o.it.Zr1,i64 o.it.Zs1,.str o.it.Zt1,.sl false (L Ad o.it.Zu1),.bool o.ok] false],_,_)]) trivial ⟨(wc (DG ay) [0]),trivial⟩) Ev ?_
       refine Bd fun s az =>Te [0,2] (Ap (l:=[]) (m:=[(162,153,[.ref 0 0],[.box [.sl false (L Ah q.p.Zg1.Ze),.sl false (L Al q.p.Zg1.Zf),.sl false (L Ab q.p.Zh1.Zx),.sl false (L Af q.p.Zh1.Zy),.sl false (L Aj q.p.Zh1.Zz),.sl false (L Ai q.p.Zh1.Za1),.sl false (L Ag q.p.Zi1),.sl false (L Ae q.p.Zj1),.sl false (L Ac q.p.Zk1),i64 q.it.Za,i64 q.it.Ref.Zb,i64 q.it.Ref.No,i64 q.it.Zn1,i64 q.it.Zb1,i64 q.it.Zc,i64 q.it.Zo1,i64 q.it.Zw,i64 q.it.To,i64 q.it.Code,i64 q.it.Zp1,i64 q.it.Zq1,i64 q.it.Zr1,i64 q.it.Zs1,.str q.it.Zt1,.sl false (L Ad q.it.Zu1),.bool q.ok] false],_,_)]) trivial ⟨(wc (DF az) [0]),trivial⟩) Ev ?_
       refine Bd fun aF aA =>Fe [] (Ap (l:=[]) (m:=[(167,150,[.ref 0 0,.ref 0 22,i64 0,i64 1000000000],[.box [.sl false (L Ah s.p.Zg1.Ze),.sl false (L Al s.p.Zg1.Zf),.sl false (L Ab s.p.Zh1.Zx),.sl false (L Af s.p.Zh1.Zy),.sl false (L Aj s.p.Zh1.Zz),.sl false (L Ai s.p.Zh1.Za1),.sl false (L Ag s.p.Zi1),.sl false (L Ae s.p.Zj1),.sl false (L Ac s.p.Zk1),i64 s.it.Za,i64 s.it.Ref.Zb,i64 s.it.Ref.No,i64 s.it.Zn1,i64 s.it.Zb1,i64 s.it.Zc,i64 s.it.Zo1,i64 s.it.Zw,i64 s.it.To,i64 s.it.Code,i64 s.it.Zp1,i64 s.it.Zq1,i64 s.it.Zr1,i64 s.it.Zs1,.str s.it.Zt1,.sl false (L Ad s.it.Zu1),.bool s.ok] false],_,_)]) trivial ⟨(wc (DH aA) [0]),trivial⟩) Ev ?_
       exact Bn <|Ro [0]
      ·refine F0 [] ?_;exact Bn <|Ro [0]
theorem Pn{b a r}(h:KR b a=some r):Con B 102 [.agg [.sl false (L Ah b.Zg1.Ze),.sl false (L Al b.Zg1.Zf),.sl false (L Ab b.Zh1.Zx),.sl false (L Af b.Zh1.Zy),.sl false (L Aj b.Zh1.Zz),.sl false (L Ai b.Zh1.Za1),.sl false (L Ag b.Zi1),.sl false (L Ae b.Zj1),.sl false (L Ac b.Zk1)],.agg [i64 a.Za,i64 a.Ref.Zb,i64 a.Ref.No,i64 a.Zn1,i64 a.Zb1,i64 a.Zc,i64 a.Zo1,i64 a.Zw,i64 a.To,i64 a.Code,i64 a.Zp1,i64 a.Zq1,i64 a.Zr1,i64 a.Zs1,.str a.Zt1,.sl false (L Ad a.Zu1)]] [] (fun r' σ'=>r'=.bool r∧σ'=[]):=by
 refine Cw 46 [.tmp 4] Tryz.func102 (fun F hE=>?_) h;unfold KR;refine T0 [2,3] ?_;refine T0 [3,5] ?_;refine Ja (fun⟨c,d,e,f,g,i,j,k,n,o,p,q,s,t,u,v,w,x,y,z,aa,ab,ac,ad,ae,ah⟩=>⟨Aq 46 [(5,.ref 0 0)],[.box [.sl false (L Ah c),.sl false (L Al d),.sl false (L Ab e),.sl false (L Af f),.sl false (L Aj g),.sl false (L Ai i),.sl false (L Ag j),.sl false (L Ae k),.sl false (L Ac n),i64 o,i64 p,i64 q,i64 s,i64 t,i64 u,i64 v,i64 w,i64 x,i64 y,i64 z,i64 aa,i64 ab,i64 ac,.str ad,.sl false (L Ad ae),.bool ah] false]⟩) ?_ ?_
 ·intro a6;refine T0 [5,13] ?_;refine Cd ?_ ?_
  ·refine Bd fun a7 aT =>Fe [5] (Ap (l:=[]) (m:=[(14,130,[.ref 2 0],[.box [.sl false (L Ah b.Zg1.Ze),.sl false (L Al b.Zg1.Zf),.sl false (L Ab b.Zh1.Zx),.sl false (L Af b.Zh1.Zy),.sl false (L Aj b.Zh1.Zz),.sl false (L Ai b.Zh1.Za1),.sl false (L Ag b.Zi1),.sl false (L Ae b.Zj1),.sl false (L Ac b.Zk1)] false,.box [i64 a.Za,i64 a.Ref.Zb,i64 a.Ref.No,i64 a.Zn1,i64 a.Zb1,i64 a.Zc,i64 a.Zo1,i64 a.Zw,i64 a.To,i64 a.Code,i64 a.Zp1,i64 a.Zq1,i64 a.Zr1,i64 a.Zs1,.str a.Zt1,.sl false (L Ad a.Zu1)] false,.box [.sl false (L Ah b.Zg1.Ze),.sl false (L Al b.Zg1.Zf),.sl false (L Ab b.Zh1.Zx),.sl false (L Af b.Zh1.Zy),.sl false (L Aj b.Zh1.Zz),.sl false (L Ai b.Zh1.Za1),.sl false (L Ag b.Zi1),.sl false (L Ae b.Zj1),.sl false (L Ac b.Zk1),i64 a.Za,i64 a.Ref.Zb,i64 a.Ref.No,i64 a.Zn1,i64 a.Zb1,i64 a.Zc,i64 a.Zo1,i64 a.Zw,i64 a.To,i64 a.Code,i64 a.Zp1,i64 a.Zq1,i64 a.Zr1,i64 a.Zs1,.str a.Zt1,.sl false (L Ad a.Zu1),.bool true] false],_,_)]) trivial ⟨(wc (GT aT) [2]),trivial⟩) Ev ?_
   exact Jm (ws [2])
  ·refine Bd fun a8 aU =>Fe [5] (Ap (l:=[]) (m:=[(15,131,[.ref 2 0],[.box [.sl false (L Ah b.Zg1.Ze),.sl false (L Al b.Zg1.Zf),.sl false (L Ab b.Zh1.Zx),.sl false (L Af b.Zh1.Zy),.sl false (L Aj b.Zh1.Zz),.sl false (L Ai b.Zh1.Za1),.sl false (L Ag b.Zi1),.sl false (L Ae b.Zj1),.sl false (L Ac b.Zk1)] false,.box [i64 a.Za,i64 a.Ref.Zb,i64 a.Ref.No,i64 a.Zn1,i64 a.Zb1,i64 a.Zc,i64 a.Zo1,i64 a.Zw,i64 a.To,i64 a.Code,i64 a.Zp1,i64 a.Zq1,i64 a.Zr1,i64 a.Zs1,.str a.Zt1,.sl false (L Ad a.Zu1)] false,.box [.sl false (L Ah b.Zg1.Ze),.sl false (L Al b.Zg1.Zf),.sl false (L Ab b.Zh1.Zx),.sl false (L Af b.Zh1.Zy),.sl false (L Aj b.Zh1.Zz),.sl false (L Ai b.Zh1.Za1),.sl false (L Ag b.Zi1),.sl false (L Ae b.Zj1),.sl false (L Ac b.Zk1),i64 a.Za,i64 a.Ref.Zb,i64 a.Ref.No,i64 a.Zn1,i64 a.Zb1,i64 a.Zc,i64 a.Zo1,i64 a.Zw,i64 a.To,i64 a.Code,i64 a.Zp1,i64 a.Zq1,i64 a.Zr1,i64 a.Zs1,.str a.Zt1,.sl false (L Ad a.Zu1),.bool true] false],_,_)]) trivial ⟨(wc (Ia aU) [2]),trivial⟩) Ev ?_
   exact Jm (ws [2])
 rintro⟨c,d,e,f,g,i,j,k,n,o,p,q,s,t,u,v,w,x,y,z,aa,ab,ac,ad,ae,ah⟩;refine Ja (fun av=>⟨Aq 46 [(5,.ref 0 0)],[.box [.sl false (L Ah c),.sl false (L Al d),.sl false (L Ab e),.sl false (L Af f),.sl false (L Aj g),.sl false (L Ai i),.sl false (L Ag j),.sl false (L Ae k),.sl false (L Ac n),i64 o,i64 p,i64 q,i64 s,i64 t,i64 u,i64 v,i64 w,i64 x,i64 y,i64 z,i64 aa,i64 ab,i64 ac,.str ad,.sl false (L Ad ae),.bool av] false]⟩) ?_ ?_
 ·intro a9;refine Te [5,17,18] (Ap (l:=[]) (m:=[(17,92,[.ref 0 9],[.box [.sl false (L Ah c),.sl false (L Al d),.sl false (L Ab e),.sl false (L Af f),.sl false (L Aj g),.sl false (L Ai i),.sl false (L Ag j),.sl false (L Ae k),.sl false (L Ac n),i64 o,i64 p,i64 q,i64 s,i64 t,i64 u,i64 v,i64 w,i64 x,i64 y,i64 z,i64 aa,i64 ab,i64 ac,.str ad,.sl false (L Ad ae),.bool ah] false],.agg [.ref 0 12,.ref 0 13,.ref 0 14,.ref 0 15,.ref 0 16,.ref 0 17,.ref 0 18,.ref 0 19,.ref 0 20,.ref 0 21,.ref 0 22],[.box [.sl false (L Ah c),.sl false (L Al d),.sl false (L Ab e),.sl false (L Af f),.sl false (L Aj g),.sl false (L Ai i),.sl false (L Ag j),.sl false (L Ae k),.sl false (L Ac n),i64 o,i64 p,i64 q,i64 s,i64 t,i64 u,i64 v,i64 w,i64 x,i64 y,i64 z,i64 aa,i64 ab,i64 ac,.str ad,.sl false (L Ad ae),.bool ah] false])]) trivial ⟨La,trivial⟩) Ev ?_;refine Sb ?_;refine Ul 17 ?_;refine Ug (m:=16) ?_;refine T0 [5,17,18,19] ?_;refine Sq <|Ct <|Sk <|Tn <|Sq <|Sb <|?_
  have aw:InR 0 11:=by decide
  refine Te [5,7,17,18] Aa (Ev (by simp only[go_sem,aw,aw.2];exact AK)) ?_;refine Fw [5,17,18] (fun ax=>⟨Aq 46 [(5,.ref 0 0),(17,.agg [.ref 0 12,.ref 0 13,.ref 0 14,.ref 0 15,.ref 0 16,.ref 0 17,.ref 0 18,.ref 0 19,.ref 0 20,.ref 0 21,.ref 0 22]),(18,i64 0)],[.box [.sl false (L Ah c),.sl false (L Al d),.sl false (L Ab e),.sl false (L Af f),.sl false (L Aj g),.sl false (L Ai i),.sl false (L Ag j),.sl false (L Ae k),.sl false (L Ac n),i64 o,i64 p,i64 q,i64 s,i64 t,i64 u,i64 v,i64 w,i64 x,i64 y,i64 z,i64 aa,i64 ab,i64 ac,.str ad,.sl false (L Ad ae),.bool ax] false]⟩) ?_ ?_
  ·intro _;refine Sp (fun ai=>?_) fun ai=>?_
   ·exact Lf Aa (Ew1 ai) (ws [0])
   ·exact Lf Aa (Ew1 ai) (ws [0])
  intro ax;refine Bn <|Tn <|?_
  have aV:w64 1=1:=by decide
  refine Fe [5,17,18] Aa (Ew1 aV) ?_;refine Un ?_;refine Ug (m:=15) ?_;refine T0 [5,17,18,19] ?_;refine Sq <|Ct <|Sk <|Tn <|Sq <|Sb <|?_
  have ay:InR 1 11:=by decide
  refine Te [5,7,17,18] Aa (Ev (by simp only[go_sem,ay,ay.2];exact AK)) ?_;refine Fw [5,17,18] (fun az=>⟨Aq 46 [(5,.ref 0 0),(17,.agg [.ref 0 12,.ref 0 13,.ref 0 14,.ref 0 15,.ref 0 16,.ref 0 17,.ref 0 18,.ref 0 19,.ref 0 20,.ref 0 21,.ref 0 22]),(18,i64 1)],[.box [.sl false (L Ah c),.sl false (L Al d),.sl false (L Ab e),.sl false (L Af f),.sl false (L Aj g),.sl false (L Ai i),.sl false (L Ag j),.sl false (L Ae k),.sl false (L Ac n),i64 o,i64 p,i64 q,i64 s,i64 t,i64 u,i64 v,i64 w,i64 x,i64 y,i64 z,i64 aa,i64 ab,i64 ac,.str ad,.sl false (L Ad ae),.bool az] false]⟩) ?_ ?_
  ·intro _;refine Sp (fun aj=>?_) fun aj=>?_
   ·exact Lf Aa (Ew1 aj) (ws [0])
   ·exact Lf Aa (Ew1 aj) (ws [0])
  intro az;refine Bn <|Tn <|?_
  have aW:w64 2=2:=by decide
  refine Fe [5,17,18] Aa (Ew1 aW) ?_;refine Un ?_;refine Ug (m:=14) ?_;refine T0 [5,17,18,19] ?_;refine Sq <|Ct <|Sk <|Tn <|Sq <|Sb <|?_
  have aA:InR 2 11:=by decide
  refine Te [5,7,17,18] Aa (Ev (by simp only[go_sem,aA,aA.2];exact AK)) ?_;refine Fw [5,17,18] (fun aB=>⟨Aq 46 [(5,.ref 0 0),(17,.agg [.ref 0 12,.ref 0 13,.ref 0 14,.ref 0 15,.ref 0 16,.ref 0 17,.ref 0 18,.ref 0 19,.ref 0 20,.ref 0 21,.ref 0 22]),(18,i64 2)],[.box [.sl false (L Ah c),.sl false (L Al d),.sl false (L Ab e),.sl false (L Af f),.sl false (L Aj g),.sl false (L Ai i),.sl false (L Ag j),.sl false (L Ae k),.sl false (L Ac n),i64 o,i64 p,i64 q,i64 s,i64 t,i64 u,i64 v,i64 w,i64 x,i64 y,i64 z,i64 aa,i64 ab,i64 ac,.str ad,.sl false (L Ad ae),.bool aB] false]⟩) ?_ ?_
  ·intro _;refine Sp (fun ak=>?_) fun ak=>?_
   ·exact Lf Aa (Ew1 ak) (ws [0])
   ·exact Lf Aa (Ew1 ak) (ws [0])
  intro aB;refine Bn <|Tn <|?_
  have aX:w64 3=3:=by decide
  refine Fe [5,17,18] Aa (Ew1 aX) ?_;refine Un ?_;refine Ug (m:=13) ?_;refine T0 [5,17,18,19] ?_;refine Sq <|Ct <|Sk <|Tn <|Sq <|Sb <|?_
  have aC:InR 3 11:=by decide
  refine Te [5,7,17,18] Aa (Ev (by simp only[go_sem,aC,aC.2];exact AK)) ?_;refine Fw [5,17,18] (fun aD=>⟨Aq 46 [(5,.ref 0 0),(17,.agg [.ref 0 12,.ref 0 13,.ref 0 14,.ref 0 15,.ref 0 16,.ref 0 17,.ref 0 18,.ref 0 19,.ref 0 20,.ref 0 21,.ref 0 22]),(18,i64 3)],[.box [.sl false (L Ah c),.sl false (L Al d),.sl false (L Ab e),.sl false (L Af f),.sl false (L Aj g),.sl false (L Ai i),.sl false (L Ag j),.sl false (L Ae k),.sl false (L Ac n),i64 o,i64 p,i64 q,i64 s,i64 t,i64 u,i64 v,i64 w,i64 x,i64 y,i64 z,i64 aa,i64 ab,i64 ac,.str ad,.sl false (L Ad ae),.bool aD] false]⟩) ?_ ?_
  ·intro _;refine Sp (fun al=>?_) fun al=>?_
   ·exact Lf Aa (Ew1 al) (ws [0])
   ·exact Lf Aa (Ew1 al) (ws [0])
  intro aD;refine Bn <|Tn <|?_
  have aY:w64 4=4:=by decide
  refine Fe [5,17,18] Aa (Ew1 aY) ?_;refine Un ?_;refine Ug (m:=12) ?_;refine T0 [5,17,18,19] ?_;refine Sq <|Ct <|Sk <|Tn <|Sq <|Sb <|?_
  have aE:InR 4 11:=by decide
  refine Te [5,7,17,18] Aa (Ev (by simp only[go_sem,aE,aE.2];exact AK)) ?_;refine Fw [5,17,18] (fun aF=>⟨Aq 46 [(5,.ref 0 0),(17,.agg [.ref 0 12,.ref 0 13,.ref 0 14,.ref 0 15,.ref 0 16,.ref 0 17,.ref 0 18,.ref 0 19,.ref 0 20,.ref 0 21,.ref 0 22]),(18,i64 4)],[.box [.sl false (L Ah c),.sl false (L Al d),.sl false (L Ab e),.sl false (L Af f),.sl false (L Aj g),.sl false (L Ai i),.sl false (L Ag j),.sl false (L Ae k),.sl false (L Ac n),i64 o,i64 p,i64 q,i64 s,i64 t,i64 u,i64 v,i64 w,i64 x,i64 y,i64 z,i64 aa,i64 ab,i64 ac,.str ad,.sl false (L Ad ae),.bool aF] false]⟩) ?_ ?_
  ·intro _;refine Sp (fun am=>?_) fun am=>?_
   ·exact Lf Aa (Ew1 am) (ws [0])
   ·exact Lf Aa (Ew1 am) (ws [0])
  intro aF;refine Bn <|Tn <|?_
  have aZ:w64 5=5:=by decide
  refine Fe [5,17,18] Aa (Ew1 aZ) ?_;refine Un ?_;refine Ug (m:=11) ?_;refine T0 [5,17,18,19] ?_;refine Sq <|Ct <|Sk <|Tn <|Sq <|Sb <|?_
  have aG:InR 5 11:=by decide
  refine Te [5,7,17,18] Aa (Ev (by simp only[go_sem,aG,aG.2];exact AK)) ?_;refine Fw [5,17,18] (fun aH=>⟨Aq 46 [(5,.ref 0 0),(17,.agg [.ref 0 12,.ref 0 13,.ref 0 14,.ref 0 15,.ref 0 16,.ref 0 17,.ref 0 18,.ref 0 19,.ref 0 20,.ref 0 21,.ref 0 22]),(18,i64 5)],[.box [.sl false (L Ah c),.sl false (L Al d),.sl false (L Ab e),.sl false (L Af f),.sl false (L Aj g),.sl false (L Ai i),.sl false (L Ag j),.sl false (L Ae k),.sl false (L Ac n),i64 o,i64 p,i64 q,i64 s,i64 t,i64 u,i64 v,i64 w,i64 x,i64 y,i64 z,i64 aa,i64 ab,i64 ac,.str ad,.sl false (L Ad ae),.bool aH] false]⟩) ?_ ?_
  ·intro _;refine Sp (fun an=>?_) fun an=>?_
   ·exact Lf Aa (Ew1 an) (ws [0])
   ·exact Lf Aa (Ew1 an) (ws [0])
  intro aH;refine Bn <|Tn <|?_
  have a0:w64 6=6:=by decide
  refine Fe [5,17,18] Aa (Ew1 a0) ?_;refine Un ?_;refine Ug (m:=10) ?_;refine T0 [5,17,18,19] ?_;refine Sq <|Ct <|Sk <|Tn <|Sq <|Sb <|?_
  have aI:InR 6 11:=by decide
  refine Te [5,7,17,18] Aa (Ev (by simp only[go_sem,aI,aI.2];exact AK)) ?_;refine Fw [5,17,18] (fun aJ=>⟨Aq 46 [(5,.ref 0 0),(17,.agg [.ref 0 12,.ref 0 13,.ref 0 14,.ref 0 15,.ref 0 16,.ref 0 17,.ref 0 18,.ref 0 19,.ref 0 20,.ref 0 21,.ref 0 22]),(18,i64 6)],[.box [.sl false (L Ah c),.sl false (L Al d),.sl false (L Ab e),.sl false (L Af f),.sl false (L Aj g),.sl false (L Ai i),.sl false (L Ag j),.sl false (L Ae k),.sl false (L Ac n),i64 o,i64 p,i64 q,i64 s,i64 t,i64 u,i64 v,i64 w,i64 x,i64 y,i64 z,i64 aa,i64 ab,i64 ac,.str ad,.sl false (L Ad ae),.bool aJ] false]⟩) ?_ ?_
  ·intro _;refine Sp (fun ao=>?_) fun ao=>?_
   ·exact Lf Aa (Ew1 ao) (ws [0])
   ·exact Lf Aa (Ew1 ao) (ws [0])
  intro aJ;refine Bn <|Tn <|?_
  have a1:w64 7=7:=by decide
  refine Fe [5,17,18] Aa (Ew1 a1) ?_;refine Un ?_;refine Ug (m:=9) ?_;refine T0 [5,17,18,19] ?_;refine Sq <|Ct <|Sk <|Tn <|Sq <|Sb <|?_
  have aK:InR 7 11:=by decide
  refine Te [5,7,17,18] Aa (Ev (by simp only[go_sem,aK,aK.2];exact AK)) ?_;refine Fw [5,17,18] (fun aL=>⟨Aq 46 [(5,.ref 0 0),(17,.agg [.ref 0 12,.ref 0 13,.ref 0 14,.ref 0 15,.ref 0 16,.ref 0 17,.ref 0 18,.ref 0 19,.ref 0 20,.ref 0 21,.ref 0 22]),(18,i64 7)],[.box [.sl false (L Ah c),.sl false (L Al d),.sl false (L Ab e),.sl false (L Af f),.sl false (L Aj g),.sl false (L Ai i),.sl false (L Ag j),.sl false (L Ae k),.sl false (L Ac n),i64 o,i64 p,i64 q,i64 s,i64 t,i64 u,i64 v,i64 w,i64 x,i64 y,i64 z,i64 aa,i64 ab,i64 ac,.str ad,.sl false (L Ad ae),.bool aL] false]⟩) ?_ ?_
  ·intro _;refine Sp (fun ap=>?_) fun ap=>?_
   ·exact Lf Aa (Ew1 ap) (ws [0])
   ·exact Lf Aa (Ew1 ap) (ws [0])
  intro aL;refine Bn <|Tn <|?_
  have a2:w64 8=8:=by decide
  refine Fe [5,17,18] Aa (Ew1 a2) ?_;refine Un ?_;refine Ug (m:=8) ?_;refine T0 [5,17,18,19] ?_;refine Sq <|Ct <|Sk <|Tn <|Sq <|Sb <|?_
  have aM:InR 8 11:=by decide
  refine Te [5,7,17,18] Aa (Ev (by simp only[go_sem,aM,aM.2];exact AK)) ?_;refine Fw [5,17,18] (fun aN=>⟨Aq 46 [(5,.ref 0 0),(17,.agg [.ref 0 12,.ref 0 13,.ref 0 14,.ref 0 15,.ref 0 16,.ref 0 17,.ref 0 18,.ref 0 19,.ref 0 20,.ref 0 21,.ref 0 22]),(18,i64 8)],[.box [.sl false (L Ah c),.sl false (L Al d),.sl false (L Ab e),.sl false (L Af f),.sl false (L Aj g),.sl false (L Ai i),.sl false (L Ag j),.sl false (L Ae k),.sl false (L Ac n),i64 o,i64 p,i64 q,i64 s,i64 t,i64 u,i64 v,i64 w,i64 x,i64 y,i64 z,i64 aa,i64 ab,i64 ac,.str ad,.sl false (L Ad ae),.bool aN] false]⟩) ?_ ?_
  ·intro _;refine Sp (fun aq=>?_) fun aq=>?_
   ·exact Lf Aa (Ew1 aq) (ws [0])
   ·exact Lf Aa (Ew1 aq) (ws [0])
  intro aN;refine Bn <|Tn <|?_
  have a3:w64 9=9:=by decide
  refine Fe [5,17,18] Aa (Ew1 a3) ?_;refine Un ?_;refine Ug (m:=7) ?_;refine T0 [5,17,18,19] ?_;refine Sq <|Ct <|Sk <|Tn <|Sq <|Sb <|?_
  have aO:InR 9 11:=by decide
  refine Te [5,7,17,18] Aa (Ev (by simp only[go_sem,aO,aO.2];exact AK)) ?_;refine Fw [5,17,18] (fun aP=>⟨Aq 46 [(5,.ref 0 0),(17,.agg [.ref 0 12,.ref 0 13,.ref 0 14,.ref 0 15,.ref 0 16,.ref 0 17,.ref 0 18,.ref 0 19,.ref 0 20,.ref 0 21,.ref 0 22]),(18,i64 9)],[.box [.sl false (L Ah c),.sl false (L Al d),.sl false (L Ab e),.sl false (L Af f),.sl false (L Aj g),.sl false (L Ai i),.sl false (L Ag j),.sl false (L Ae k),.sl false (L Ac n),i64 o,i64 p,i64 q,i64 s,i64 t,i64 u,i64 v,i64 w,i64 x,i64 y,i64 z,i64 aa,i64 ab,i64 ac,.str ad,.sl false (L Ad ae),.bool aP] false]⟩) ?_ ?_
  ·intro _;refine Sp (fun ar=>?_) fun ar=>?_
   ·exact Lf Aa (Ew1 ar) (ws [0])
   ·exact Lf Aa (Ew1 ar) (ws [0])
  intro aP;refine Bn <|Tn <|?_
  have a4:w64 10=10:=by decide
  refine Fe [5,17,18] Aa (Ew1 a4) ?_;refine Un ?_;refine Ug (m:=6) ?_;refine T0 [5,17,18,19] ?_;refine Sq <|Ct <|Sk <|Tn <|Sq <|Sb <|?_
  have aQ:InR 10 11:=by decide
  refine Te [5,7,17,18] Aa (Ev (by simp only[go_sem,aQ,aQ.2];exact AK)) ?_;refine Fw [5,17,18] (fun aR=>⟨Aq 46 [(5,.ref 0 0),(17,.agg [.ref 0 12,.ref 0 13,.ref 0 14,.ref 0 15,.ref 0 16,.ref 0 17,.ref 0 18,.ref 0 19,.ref 0 20,.ref 0 21,.ref 0 22]),(18,i64 10)],[.box [.sl false (L Ah c),.sl false (L Al d),.sl false (L Ab e),.sl false (L Af f),.sl false (L Aj g),.sl false (L Ai i),.sl false (L Ag j),.sl false (L Ae k),.sl false (L Ac n),i64 o,i64 p,i64 q,i64 s,i64 t,i64 u,i64 v,i64 w,i64 x,i64 y,i64 z,i64 aa,i64 ab,i64 ac,.str ad,.sl false (L Ad ae),.bool aR] false]⟩) ?_ ?_
  ·intro _;refine Sp (fun au=>?_) fun au=>?_
   ·exact Lf Aa (Ew1 au) (ws [0])
   ·exact Lf Aa (Ew1 au) (ws [0])
  intro aR;refine Bn <|Tn <|?_
  have a5:w64 11=11:=by decide
  refine Fe [5,17,18] Aa (Ew1 a5) ?_;refine Un ?_;refine Ug (m:=5) ?_;refine T0 [5,17,18,19] ?_;exact Sq <|Cf <|Sx <|Tx <|Ux <|Bx <|Jm (ws [0])
 intro av;refine Tw [4] (fun aS=>⟨Aq 46 [(4,.bool aS)],[]⟩) ?_ ?_
 ·intro _;refine Sp (fun af=>?_) fun af=>?_
  ·refine Sp (fun ag=>?_) fun ag=>?_
   ·exact Lf Aa (Ew2 af ag) (ws [] (by simp only[go_sem,af,ag]) (by simp only[go_sem,af,ag]))
   ·exact Lf Aa (Ew2 af ag) (ws [] (by simp only[go_sem,af,ag]) (by simp only[go_sem,af,ag]))
  ·exact Lf Aa (Ew1 af) (ws [] (by simp only[go_sem,af]) (by simp only[go_sem,af]))
 intro aS;exact Sr <|Rr
theorem Qp{b a r}(h:Kz b a=some r):Con B 63 [.agg [.sl false (L Ah b.Zg1.Ze),.sl false (L Al b.Zg1.Zf),.sl false (L Ab b.Zh1.Zx),.sl false (L Af b.Zh1.Zy),.sl false (L Aj b.Zh1.Zz),.sl false (L Ai b.Zh1.Za1),.sl false (L Ag b.Zi1),.sl false (L Ae b.Zj1),.sl false (L Ac b.Zk1)],.agg [i64 a.Za,i64 a.Ref.Zb,i64 a.Ref.No,i64 a.Zn1,i64 a.Zb1,i64 a.Zc,i64 a.Zo1,i64 a.Zw,i64 a.To,i64 a.Code,i64 a.Zp1,i64 a.Zq1,i64 a.Zr1,i64 a.Zs1,.str a.Zt1,.sl false (L Ad a.Zu1)]] [] (fun r' σ'=>r'=i64 r∧σ'=[]):=by
 refine Cw 19 [.tmp 4] Tryz.func63 (fun F hE=>?_) h;unfold Kz;refine T0 [2,3] ?_;refine Sq <|Bd fun i f =>Te [2,3,4] (o1 6 (DV f)) Ev ?_
 refine T0 [2,3,4,8] ?_;refine Cd ?_ ?_
 ·refine T0 [4] ?_;exact Sr <|Tr <|Rr
 ·refine Sk <|Tn <|Sq <|?_
  refine Tw [18] (fun d=>⟨Aq 19 [(18,.bool d)],[]⟩) ?_ ?_
  ·intro _;refine Bd fun j e=>?_
   refine Sp (fun c=>?_) fun c=>?_
   ·exact Lf (o1 11 (GY e)) (Ew1 c) (ws [])
   ·refine Bd fun k g=>?_
    exact Lf (o2 11 (GY e) 16 (Pn g)) (Ew1 c) (ws [])
  intro d;refine Cd ?_ ?_
  ·refine T0 [4] ?_;exact Sr <|Tr <|Rr
  ·refine Sk <|Tn <|T0 [4] ?_
   exact Sr <|Rr
theorem MI{c d a r}(h:HD c d a=some r):Con B 15 [u64 c,.sl false (L cU8 d),.agg [u64 a.C,u64 a.S]] [] (fun r' σ'=>r'=.bool r∧σ'=[]):=by
 refine Cw 43 [.tmp 6] Tryz.func15 (fun F hE=>?_) h;unfold HD;refine T0 [0,1,5] ?_;refine Sq ?_;refine Tw [0,1,5,25] (fun g=>⟨Aq 43 [(0,u64 c),(1,.sl false (L cU8 d)),(5,.ref 0 0),(25,.bool g)],[.box [u64 a.C,u64 a.S] false]⟩) ?_ ?_
 ·intro _;refine Sp (fun b=>?_) fun b=>?_
  ·exact Lf Aa (Ew1 b) (ws [0])
  ·refine Sp (fun e=>?_) fun e=>?_
   ·exact Lf Aa (Ew2 b e) (ws [0])
   ·refine Sp (fun f=>?_) fun f=>?_
    ·exact Lf Aa (Ew3 b e f) (ws [0])
    ·refine Bd fun v n=>?_
     exact Lf (o1 23 (Jj n)) (Ew3 b e f) (ws [0])
 intro g;refine Cd ?_ ?_
 ·refine T0 [6] ?_;exact Sr <|Tr <|Rr
 ·refine Sk <|Tn <|Bd fun o p =>Bd fun i q =>Bd fun j s =>Bd fun k t =>?_
  intro h;refine SU hE K6 [[],[],[1],[0,1,2],[],[],[5],[5,6],[0,1,2,3,4,5,6,7],[0,1,2,3,4,5,6,7,8],[0,1,2,3,4,5,6,7,8,9]] (by kernel_rfl) [(),(),(),(),(),(),(),()] [(),(),()] (by kernel_rfl) [(5,0),(27,0),(31,0)] [(26,0)] [5,27,31] [0,1,5,7,27,31] (by kernel_rfl) (fr':=[(0,u64 c),(1,.sl false (L cU8 d)),(5,.ref 0 0),(7,u64 k.1),(27,.ref 0 1),(31,.ref 0 0)]) (σ':=[.box [u64 a.C,u64 a.S] false,.box [u64 k.2] false]) ⟨_,_,(Ap (l:=[(29,_,_,u64 i),(34,_,_,u64 j)]) (m:=[(26,48,[u64 (2305843009213690799:UInt64)],[.box [u64 a.C,u64 a.S] false],_,_),(35,82,[u64 i,u64 j,.ref 1 0],[.box [u64 a.C,u64 a.S] false,.box [u64 o] false],_,_)]) ⟨EZ  q,EZ  s,trivial⟩ ⟨(wc (FK p) []),(wc (Dz t) [1]),trivial⟩),(by repeat' (first|exact trivial|(refine And.intro ?_ ?_)|exact fun _=>rfl|exact fun h=>absurd h (by decide))),_,_,(by simp only[go_sem];exact AK),(by exact⟨rfl,rfl,rfl,trivial⟩),(by simp only[go_sem];exact AK)⟩ ?_;revert h;refine Bd fun w u =>De [[],[],[],[0,1,2],[],[4],[0,1,2,3,4,5],[0,1,2,3,4,5,6]] [6] (o1 39 (Gd u)) Ev ?_
  exact Sr <|Rr
theorem Nw{b a r}(h:J5 b a=some r):Con B 25 [.agg [.sl false (L Ah b.Zg1.Ze),.sl false (L Al b.Zg1.Zf),.sl false (L Ab b.Zh1.Zx),.sl false (L Af b.Zh1.Zy),.sl false (L Aj b.Zh1.Zz),.sl false (L Ai b.Zh1.Za1),.sl false (L Ag b.Zi1),.sl false (L Ae b.Zj1),.sl false (L Ac b.Zk1)],.agg (i64 a.Zb::i64 a.No::(C1 u8 a.Zv1.l++[i64 a.Zw1,i64 a.Zx1.Za,i64 a.Zx1.Ref.Zb,i64 a.Zx1.Ref.No,i64 a.Zx1.Zn1,i64 a.Zx1.Zb1,i64 a.Zx1.Zc,i64 a.Zx1.Zo1,i64 a.Zx1.Zw,i64 a.Zx1.To,i64 a.Zx1.Code,i64 a.Zx1.Zp1,i64 a.Zx1.Zq1,i64 a.Zx1.Zr1,i64 a.Zx1.Zs1,.str a.Zx1.Zt1,.sl false (L Ad a.Zx1.Zu1),u64 a.Sig.C,u64 a.Sig.S]))] [] (fun r' σ'=>r'=i64 r∧σ'=[]):=by
 refine Cw 82 [.tmp 4] Tryz.func25 (fun F hE=>?_) h;unfold J5;refine T0 [2,3] ?_;refine Sq <|Bd fun q k =>Te [2,3,5] (o1 10 (DV k)) Ev ?_
 refine T0 [2,3,5,12] ?_;refine Cd ?_ ?_
 ·refine T0 [4] ?_;exact Sr <|Tr <|Rr
 ·refine Sk <|Tn <|Sq <|?_
  refine Tw [2,3,54] (fun j=>⟨Aq 82 [(2,.ref 0 0),(3,.ref 1 0),(54,.bool j)],[.box [.sl false (L Ah b.Zg1.Ze),.sl false (L Al b.Zg1.Zf),.sl false (L Ab b.Zh1.Zx),.sl false (L Af b.Zh1.Zy),.sl false (L Aj b.Zh1.Zz),.sl false (L Ai b.Zh1.Za1),.sl false (L Ag b.Zi1),.sl false (L Ae b.Zj1),.sl false (L Ac b.Zk1)] false,.box (i64 a.Zb::i64 a.No::(C1 u8 a.Zv1.l++[i64 a.Zw1,i64 a.Zx1.Za,i64 a.Zx1.Ref.Zb,i64 a.Zx1.Ref.No,i64 a.Zx1.Zn1,i64 a.Zx1.Zb1,i64 a.Zx1.Zc,i64 a.Zx1.Zo1,i64 a.Zx1.Zw,i64 a.Zx1.To,i64 a.Zx1.Code,i64 a.Zx1.Zp1,i64 a.Zx1.Zq1,i64 a.Zx1.Zr1,i64 a.Zx1.Zs1,.str a.Zx1.Zt1,.sl false (L Ad a.Zx1.Zu1),u64 a.Sig.C,u64 a.Sig.S])) false]⟩) ?_ ?_
  ·intro _;refine Sp (fun c=>?_) fun c=>?_
   ·exact Lf Aa (Ew1 c) (ws [0,1])
   ·refine Sp (fun d=>?_) fun d=>?_
    ·exact Lf Aa (Ew2 c d) (ws [0,1])
    ·refine Sp (fun e=>?_) fun e=>?_
     ·exact Lf Aa (Ew3 c d e) (ws [0,1])
     ·refine Sp (fun f=>?_) fun f=>?_
      ·exact Lf Aa (Ew4 c d e f) (ws [0,1])
      ·refine Sp (fun g=>?_) fun g=>?_
       ·exact Lf Aa (Ew5 c d e f g) (ws [0,1])
       ·refine Sp (fun i=>?_) fun i=>?_
        ·exact Lf Aa (Ev (by simp only[go_sem,c,d,e,f,g,i];exact AK)) (ws [0,1])
        ·exact Lf Aa (Ev (by simp only[go_sem,c,d,e,f,g,i];exact AK)) (ws [0,1])
  intro j;refine Cd ?_ ?_
  ·refine T0 [4] ?_;exact Sr <|Tr <|Rr
  ·refine Sk <|Tn <|Sq <|Bd fun s m =>Te [2,3,6] (o1 58 (Qp m)) Ev ?_
   refine T0 [2,3,6,60] ?_;refine Cd ?_ ?_
   ·refine T0 [4] ?_;exact Sr <|Tr <|Rr
   ·refine Sk <|Tn <|Bd fun t n =>Te [2,3,7,8] (o1 64 (F2 n)) Ev ?_
    refine Sq <|T0 [2,3,7,8,68] ?_
    refine Cd ?_ ?_
    ·refine T0 [4] ?_;exact Sr <|Tr <|Rr
    ·refine Sk <|Tn <|Sq <|Ck fun o =>Bd fun u p =>De [[],[0],[],[2],[0,1,2,3],[0,1,2,3,4],[0,1,2,3,4,5],[],[],[8],[0,1,2,3,4,5,6,7,8,9],[0,1,2,3,4,5,6,7,8,9,10]] [81] (o1 80 (MI p)) (Ew1 (qR o)) ?_
     refine Cd ?_ ?_
     ·refine T0 [4] ?_;exact Sr <|Tr <|Rr
     ·refine Sk <|Tn <|T0 [4] ?_
      exact Sr <|Rr
theorem GL{a r}(h:Ey a=some r):Con B 132 [i64 a] [] (fun r' σ'=>r'=.bool r∧σ'=[]):=by
 refine Cw 6 [.tmp 2] Tryz.func132 (fun F hE=>?_) h;unfold Ey;refine T0 [0] ?_;refine T0 [2] ?_;exact Sr <|Rr
theorem FB{a b r}(h:C6 a b=some r):Con B 103 [i64 a,i64 b] [] (fun r' σ'=>r'=i64 r∧σ'=[]):=by
 refine Cw 20 [.tmp 4] Tryz.func103 (fun F hE=>?_) h;unfold C6;refine T0 [0,1] ?_;refine Bd fun e c =>Te [0,1,5] (o1 8 (GL c)) Ev ?_
 refine Bd fun f d =>Te [0,1,5,6] (o1 10 (GL d)) Ev ?_
 refine Sq <|T0 [0,1,6,11] ?_
 refine Cd ?_ ?_
 ·refine Sq <|T0 [12] ?_
  refine Cd ?_ ?_
  ·refine T0 [4] ?_;exact Sr <|Tr <|Tr <|Rr
  ·refine Sk <|Tn <|T0 [4] ?_
   exact Sr <|Tr <|Rr
 ·refine Sk <|Tn <|Sq <|T0 [0,1,13] ?_
  refine Cd ?_ ?_
  ·refine T0 [4] ?_;exact Sr <|Tr <|Rr
  ·refine Sk <|Tn <|Sq <|T0 [0,1,16] ?_
   refine Cd ?_ ?_
   ·refine T0 [4] ?_;exact Sr <|Tr <|Rr
   ·refine Sk <|Tn <|Sq <|T0 [19] ?_
    refine Cd ?_ ?_
    ·refine T0 [4] ?_;exact Sr <|Tr <|Rr
    ·refine Sk <|Tn <|T0 [4] ?_
     exact Sr <|Rr
theorem Jw{a:List UInt8}{b:List UInt8}{r:Int}(h:FU a b=some r):Con B 133 [.sl false (L cU8 a),.sl false (L cU8 b)] [] (fun r' σ'=>r'=i64 r∧σ'=[]) :=
 TX Tryz.func133 (by decide +kernel) rfl (by kernel_rfl) (by kernel_rfl) h
theorem KY{a b r}(h:Et a b=some r):Con B 104 [.sl false (L cU8 a),.sl false (L cU8 b)] [] (fun r' σ'=>r'=i64 r∧σ'=[]):=by
 refine Cw 8 [.tmp 4] Tryz.func104 (fun F hE=>?_) h;unfold Et;refine T0 [0,1] ?_;refine Bd fun d c =>Te [4] (o1 7 (Jw c)) Ev ?_
 exact Sr <|Rr
theorem FZ{f:AoG→AoG→Option (Int)}{s1_7111:List AoG}{s2_7112:List AoG}{b:AoG→AoG→Option (Int)}(h64:∀{a0:AoG} {a1:AoG} {r:Int},f a0 a1=some r→Con B 64 [.agg [i64 a0.Za,i64 a0.N,.sl false (L cU8 a0.B),.sl false (L cApi_Value a0.L)],.agg [i64 a1.Za,i64 a1.N,.sl false (L cU8 a1.B),.sl false (L cApi_Value a1.L)]] [] (fun r' σ'=>r'=i64 r∧σ'=[])){a:Nat}(i:∀{a0:AoG} {a1:AoG} {r:Int},b a0 a1=some r→Con B a [.agg [i64 a0.Za,i64 a0.N,.sl false (L cU8 a0.B),.sl false (L cApi_Value a0.L)],.agg [i64 a1.Za,i64 a1.N,.sl false (L cU8 a1.B),.sl false (L cApi_Value a1.L)]] [] (fun r' σ'=>r'=i64 r∧σ'=[])){r:Int}(h:B8 f s1_7111 s2_7112 b=some r):Con B 105 [.sl false (L cApi_Value s1_7111),.sl false (L cApi_Value s2_7112),.fn a []] [] (fun r' σ'=>r'=i64 r∧σ'=[]):=by
 refine Ku (N:=39) (rs:=[.tmp 6]) ok Tryz.func105 rfl (by decide +kernel) rfl rfl (Apm rfl) (fun F=>?_);have hE:=ok.env F;unfold B8 at h;show Run (B.env F) 0 _ ⟨Aq 39 [(0,.sl false (L cApi_Value s1_7111)),(1,.sl false (L cApi_Value s2_7112)),(2,.fn a [])],[]⟩ _;refine FG ?_;revert h;refine T0 [0,1,2] ?_;refine Jo (fun _=>⟨Aq 39 [(0,.sl false (L cApi_Value s1_7111)),(1,.sl false (L cApi_Value s2_7112))],[]⟩) ?_ ?_
 ·intro ae g;refine T0 [0,1,2,11,12,13] ?_;refine Sb ?_;refine Lo (fun c=>⟨Aq 39 [(0,.sl false (L cApi_Value s1_7111)),(1,.sl false (L cApi_Value s2_7112)),(2,.fn a []),(11,.sl false (L cApi_Value s1_7111)),(12,i64 (s1_7111.length:Int)),(13,i64 c)],[]⟩) (ws []) ?_;rintro c af j d e;show AW s1_7111 s2_7112 b c=some j→_;unfold AW;refine T0 [0,1,2,11,12,13,14] ?_;refine Sq <|Cd ?_ ?_
  ·refine Sk <|Tn <|Sq <|Sb <|Ck fun k =>Lt fun l m =>Lt fun n o =>Lt fun p q =>Lt fun s t =>Te (σ':=[.box [i64 l,i64 n,.sl false (L cU8 p),.sl false (L cApi_Value s)] false]) [0,1,2,7,8,11,12,13] Aa (Ew5 (qR k) m o q t) ?_
   refine Sq <|T0 [0,1,2,7,8,11,12,13,21] ?_
   refine Cd ?_ ?_
   ·refine T0 [6] ?_;exact Sr <|Tr <|Br <|Tr <|Lr e d <|Br <|Jr g <|Rr
   ·refine Sk <|Tn <|Ck fun u =>Lt fun v w =>Lt fun x y =>Lt fun z aa =>Lt fun ab ac =>Te (σ':=[_,.box [i64 v,i64 x,.sl false (L cU8 z),.sl false (L cApi_Value ab)] false]) [0,1,2,8,9,11,12,13] Aa (Ew5 (qR u) w y aa ac) ?_
    refine Bd fun ag ad =>Te [0,1,2,10,11,12,13] (o1 29 (i ad)) Ev ?_
    refine T0 [0,1,2,10,11,12,13,31] ?_;refine Cd ?_ ?_
    ·refine T0 [6] ?_;exact Sr <|Br <|Tr <|Lr e d <|Br <|Jr g <|Rr
    ·refine Sk <|Bn <|Tn <|F0 [0,1,2,11,12,13] ?_
     exact Ln (ws [])
  ·refine Sx <|Tx <|Lx e d <|Bx <|?_
   exact Jn ((ws (l':=[(0,.sl false (L cApi_Value s1_7111)),(1,.sl false (L cApi_Value s2_7112))]) (σ':=[]) []).trans (ws []))
 intro _;refine Sq <|T0 [38] ?_
 refine Cd ?_ ?_
 ·refine T0 [6] ?_;exact Sr <|Tr <|Rr
 ·refine Sk <|Tn <|T0 [6] ?_
  exact Sr <|Rr
theorem JF{rec_:AoG→AoG→Option (Int)}(hrec:∀{a:AoG} {b:AoG} {r:Int},rec_ a b=some r→Con B 64 [.agg [i64 a.Za,i64 a.N,.sl false (L cU8 a.B),.sl false (L cApi_Value a.L)],.agg [i64 b.Za,i64 b.N,.sl false (L cU8 b.B),.sl false (L cApi_Value b.L)]] [] (fun r' σ'=>r'=i64 r∧σ'=[])){a:AoG}{b:AoG}{r:Int}(h:Dj rec_ a b=some r):Con B 64 [.agg [i64 a.Za,i64 a.N,.sl false (L cU8 a.B),.sl false (L cApi_Value a.L)],.agg [i64 b.Za,i64 b.N,.sl false (L cU8 b.B),.sl false (L cApi_Value b.L)]] [] (fun r' σ'=>r'=i64 r∧σ'=[]):=by
 refine Ku (N:=37) (rs:=[.tmp 4]) ok Tryz.func64 rfl (by decide +kernel) rfl rfl (Apm rfl) (fun F=>?_);have hE:=ok.env F;unfold Dj at h;show Run (B.env F) 0 _ ⟨Aq 37 [(0,.agg [i64 a.Za,i64 a.N,.sl false (L cU8 a.B),.sl false (L cApi_Value a.L)]),(1,.agg [i64 b.Za,i64 b.N,.sl false (L cU8 b.B),.sl false (L cApi_Value b.L)])],[]⟩ _;refine FG ?_;revert h;refine T0 [2,3] ?_;refine Sq <|Bd fun g c =>Te [2,3,5] (o1 10 (FB c)) Ev ?_
 refine T0 [2,3,5,12] ?_;refine Cd ?_ ?_
 ·refine T0 [4] ?_;exact Sr <|Tr <|Rr
 ·refine Sk <|Tn <|Sq <|T0 [2,3,15] ?_
  refine Sb <|T0 [2,3,15,16] ?_
  refine Cd ?_ ?_
  ·refine Bd fun i d =>Te [4] (o1 22 (FB d)) Ev ?_
   exact Sr <|Br <|Tr <|Rr
  ·refine T0 [2,3,15,23] ?_;refine Cd ?_ ?_
   ·refine Bd fun j e =>Te [4] (o1 29 (KY e)) Ev ?_
    exact Sr <|Br <|Tr <|Rr
   ·refine T0 [2,3,30] ?_;refine Cd ?_ ?_
    ·refine Bd fun k f =>Te [4] (o1 36 (FZ (fun h=>hrec h) (fun h=>hrec h) f)) Ev ?_
     exact Sr <|Br <|Tr <|Rr
    ·refine Sk <|Bn <|Tn <|T0 [4] ?_
     exact Sr <|Rr
theorem J4(n:Nat):∀{a:AoG} {b:AoG} {r:Int},Dc n a b=some r→Con B 64 [.agg [i64 a.Za,i64 a.N,.sl false (L cU8 a.B),.sl false (L cApi_Value a.L)],.agg [i64 b.Za,i64 b.N,.sl false (L cU8 b.B),.sl false (L cApi_Value b.L)]] [] (fun r' σ'=>r'=i64 r∧σ'=[]):=by
 induction n with
 |zero=>intro a b r h;cases h
 |succ n ih=>intro a b r h;exact JF ih h
theorem C8{a:AoG}{b:AoG}{r:Int}(h:Ft a b=some r):Con B 64 [.agg [i64 a.Za,i64 a.N,.sl false (L cU8 a.B),.sl false (L cApi_Value a.L)],.agg [i64 b.Za,i64 b.N,.sl false (L cU8 b.B),.sl false (L cApi_Value b.L)]] [] (fun r' σ'=>r'=i64 r∧σ'=[]):=J4 _ h
theorem QE{a b r}(h:On a b=some r):Con B 27 [.agg (i64 a.Zb::i64 a.No::(C1 u8 a.Zv1.l++[i64 a.Zw1,i64 a.Zx1.Za,i64 a.Zx1.Ref.Zb,i64 a.Zx1.Ref.No,i64 a.Zx1.Zn1,i64 a.Zx1.Zb1,i64 a.Zx1.Zc,i64 a.Zx1.Zo1,i64 a.Zx1.Zw,i64 a.Zx1.To,i64 a.Zx1.Code,i64 a.Zx1.Zp1,i64 a.Zx1.Zq1,i64 a.Zx1.Zr1,i64 a.Zx1.Zs1,.str a.Zx1.Zt1,.sl false (L Ad a.Zx1.Zu1),u64 a.Sig.C,u64 a.Sig.S])),.agg (i64 b.Zb::i64 b.No::(C1 u8 b.Zv1.l++[i64 b.Zw1,i64 b.Zx1.Za,i64 b.Zx1.Ref.Zb,i64 b.Zx1.Ref.No,i64 b.Zx1.Zn1,i64 b.Zx1.Zb1,i64 b.Zx1.Zc,i64 b.Zx1.Zo1,i64 b.Zx1.Zw,i64 b.Zx1.To,i64 b.Zx1.Code,i64 b.Zx1.Zp1,i64 b.Zx1.Zq1,i64 b.Zx1.Zr1,i64 b.Zx1.Zs1,.str b.Zx1.Zt1,.sl false (L Ad b.Zx1.Zu1),u64 b.Sig.C,u64 b.Sig.S]))] [] (fun r' σ'=>r'=.bool r∧σ'=[]):=by
 refine Cw 50 [.tmp 4] Tryz.func27 (fun F hE=>?_) h;unfold On;refine T0 [2,3] ?_;refine Tw [2,3,5] (fun i=>⟨Aq 50 [(2,.ref 0 0),(3,.ref 1 0),(5,.bool i)],[.box (i64 a.Zb::i64 a.No::(C1 u8 a.Zv1.l++[i64 a.Zw1,i64 a.Zx1.Za,i64 a.Zx1.Ref.Zb,i64 a.Zx1.Ref.No,i64 a.Zx1.Zn1,i64 a.Zx1.Zb1,i64 a.Zx1.Zc,i64 a.Zx1.Zo1,i64 a.Zx1.Zw,i64 a.Zx1.To,i64 a.Zx1.Code,i64 a.Zx1.Zp1,i64 a.Zx1.Zq1,i64 a.Zx1.Zr1,i64 a.Zx1.Zs1,.str a.Zx1.Zt1,.sl false (L Ad a.Zx1.Zu1),u64 a.Sig.C,u64 a.Sig.S])) false,.box (i64 b.Zb::i64 b.No::(C1 u8 b.Zv1.l++[i64 b.Zw1,i64 b.Zx1.Za,i64 b.Zx1.Ref.Zb,i64 b.Zx1.Ref.No,i64 b.Zx1.Zn1,i64 b.Zx1.Zb1,i64 b.Zx1.Zc,i64 b.Zx1.Zo1,i64 b.Zx1.Zw,i64 b.Zx1.To,i64 b.Zx1.Code,i64 b.Zx1.Zp1,i64 b.Zx1.Zq1,i64 b.Zx1.Zr1,i64 b.Zx1.Zs1,.str b.Zx1.Zt1,.sl false (L Ad b.Zx1.Zu1),u64 b.Sig.C,u64 b.Sig.S])) false]⟩) ?_ ?_
 ·intro _;refine Sp (fun c=>?_) fun c=>?_
  ·refine Sp (fun d=>?_) fun d=>?_
   ·refine Sp (fun e=>?_) fun e=>?_
    ·refine Sp (fun f=>?_) fun f=>?_
     ·exact Lf Aa (Ew4 c d e f) (ws [0,1])
     ·exact Lf Aa (Ew4 c d e f) (ws [0,1])
    ·exact Lf Aa (Ew3 c d e) (ws [0,1])
   ·exact Lf Aa (Ew2 c d) (ws [0,1])
  ·exact Lf Aa (Ew1 c) (ws [0,1])
 intro i;refine Dw [[],[0],[0,1],[0,1,2],[0,1,2,3],[0,1],[0,1,5],[0,1,2,3,4,5,6],[0,1,2,3,4,5,6,7],[0,1,2,3,4,5,6,7,8],[0,1,2,3,4,5,6,7,8,9],[0,1,2,3,4,5,6,7,8,9,10]] [4] (fun j=>⟨Aq 50 [(4,.bool j)],[]⟩) ?_ ?_
 ·intro _;refine Sp (fun g=>?_) fun g=>?_
  ·refine Bd fun o k =>Bd fun p m =>Bd fun q n =>?_
   exact Lf (Fg (l:=[(43,_,_,_),(46,_,_,_),(47,_,_,_)]) ⟨Fs  k,Fs  m,C8  n,trivial⟩) (Ew1 g) (ws [])
  ·exact Lf Aa (Ew1 g) (ws [])
 intro j;exact Sr <|Rr
theorem LI{d a r}(h:IB d a=some r):Con B 28 [.sl false (L Ak d),.agg (i64 a.Zb::i64 a.No::(C1 u8 a.Zv1.l++[i64 a.Zw1,i64 a.Zx1.Za,i64 a.Zx1.Ref.Zb,i64 a.Zx1.Ref.No,i64 a.Zx1.Zn1,i64 a.Zx1.Zb1,i64 a.Zx1.Zc,i64 a.Zx1.Zo1,i64 a.Zx1.Zw,i64 a.Zx1.To,i64 a.Zx1.Code,i64 a.Zx1.Zp1,i64 a.Zx1.Zq1,i64 a.Zx1.Zr1,i64 a.Zx1.Zs1,.str a.Zx1.Zt1,.sl false (L Ad a.Zx1.Zu1),u64 a.Sig.C,u64 a.Sig.S]))] [] (fun r' σ'=>r'=i64 r∧σ'=[]):=by
 refine Cw 85 [.tmp 4] Tryz.func28 (fun F hE=>?_) h;unfold IB;refine T0 [0,3] ?_;refine Sq <|T0 [0,3,15] ?_
 refine Cd ?_ ?_
 ·refine T0 [4] ?_;exact Sr <|Tr <|Rr
 ·refine Sk <|Tn <|T0 [0,3,5] ?_
  refine Jo (fun i=>⟨Aq 85 [(0,.sl false (L Ak d)),(3,.ref 0 0),(5,.ref 1 0)],[.box (i64 a.Zb::i64 a.No::(C1 u8 a.Zv1.l++[i64 a.Zw1,i64 a.Zx1.Za,i64 a.Zx1.Ref.Zb,i64 a.Zx1.Ref.No,i64 a.Zx1.Zn1,i64 a.Zx1.Zb1,i64 a.Zx1.Zc,i64 a.Zx1.Zo1,i64 a.Zx1.Zw,i64 a.Zx1.To,i64 a.Zx1.Code,i64 a.Zx1.Zp1,i64 a.Zx1.Zq1,i64 a.Zx1.Zr1,i64 a.Zx1.Zs1,.str a.Zx1.Zt1,.sl false (L Ad a.Zx1.Zu1),u64 a.Sig.C,u64 a.Sig.S])) false,.box (C1 u8 i.l) false]⟩) ?_ ?_
  ·intro t m;refine T0 [0,3,5,18] ?_;refine Cd ?_ ?_
   ·refine Ck fun n =>Bd fun o p =>Te [0,3,5,6,7] (o1 26 (I0 p)) (Ew1 (qR n)) ?_
    refine Sq ?_;refine Dw [[],[0],[0,1],[0,1,2],[0,1,2,3],[0,1,2],[0,1,2],[0,1,2,6],[0,1,2,6,7],[0,1,2,5,6,7,8],[0,1,2,5,6,7,8,9],[0,1,2,5,6,7,8,9,10],[0,1,2,3,4,5,6,7,8,9,10,11],[0,1,2,3,4,5,6,7,8,9,10,11,12]] [0,3,5,6,42] (fun j=>⟨Aq 85 [(0,.sl false (L Ak d)),(3,.ref 0 0),(5,.ref 1 0),(6,.ref 2 0),(42,.bool j)],[.box (i64 a.Zb::i64 a.No::(C1 u8 a.Zv1.l++[i64 a.Zw1,i64 a.Zx1.Za,i64 a.Zx1.Ref.Zb,i64 a.Zx1.Ref.No,i64 a.Zx1.Zn1,i64 a.Zx1.Zb1,i64 a.Zx1.Zc,i64 a.Zx1.Zo1,i64 a.Zx1.Zw,i64 a.Zx1.To,i64 a.Zx1.Code,i64 a.Zx1.Zp1,i64 a.Zx1.Zq1,i64 a.Zx1.Zr1,i64 a.Zx1.Zs1,.str a.Zx1.Zt1,.sl false (L Ad a.Zx1.Zu1),u64 a.Sig.C,u64 a.Sig.S])) false,.box (C1 u8 (Arr.rep 32 (0:UInt8)).l) false,.box (C1 u8 o.1.l) false]⟩) ?_ ?_
    ·intro _;refine Sp (fun f=>?_) fun f=>?_
     ·exact Lf Aa (Ew1 f) (ws [0,1,2])
     ·refine Ck fun q=>?_
      exact Lf Aa (Ew2 f (qR q)) (ws [0,1,2])
    intro j;refine Cd ?_ ?_
    ·refine T0 [4] ?_;exact Sr <|Tr <|Jr m <|Rr
    ·refine Sk <|Tn <|F0 [0,3,5] ?_
     exact Jn (ws [0,1])
   ·exact Sk <|Jn (ws [0,1])
  intro i;refine Sq <|T0 [0,3,47] ?_
  refine Cd ?_ ?_
  ·refine T0 [4] ?_;exact Sr <|Tr <|Rr
  ·refine Sk <|Tn <|T0 [0,3,8] ?_
   refine T0 [0,3,8,9] ?_;refine Sq ?_;refine Dw [[],[],[0,1],[0,1,2],[0,1,2,3],[0,1,2,3,4],[0,1,2,3],[0,1,2,3,6],[0,1,2,3,4,5,6,7],[0,1,2,3,4,5,6,7,8],[0,1,2,3,4,5,6,7,8,9],[0,1,2,3,4,5,6,7,8,9,10],[0,1,2,3,4,5,6,7,8,9,10,11],[0,1,2,3,4,5,6,7,8,9,10,11,12],[0,1,2,3,4,5,6,7,8,9,10,11,12,13],[0,1,2,3,4,5,6,7,8,9,10,11,12,13,14],[0,1,2,3,4,5,6,7,8,9,10,11,12,13,14,15],[0,1,2,3,4,5,6,7,8,9,10,11,12,13,14],[0,1,2,3,4,5,6,7,8,9,10,11,12,13,14,17],[0,1,2,3,4,5,6,7,8,9,10,11,12,13,14,15,16,17,18],[0,1,2,3,4,5,6,7,8,9,10,11,12,13,14,15,16,17,18,19],[0,1,2,3,4,5,6,7,8,9,10,11,12,13,14,15,16,17,18,19,20],[0,1,2,3,4,5,6,7,8,9,10,11,12,13,14,15,16,17,18,19,20,21],[0,1,2,3,4,5,6,7,8,9,10,11,12,13,14,15,16,17,18,19,20,21],[0,1,2,3,4,5,6,7,8,9,10,11,12,13,14,15,16,17,18,19,20,21,23],[0,1,2,3,4,5,6,7,8,9,10,11,12,13,14,15,16,17,18,19,20,21,23,24],[0,1,2,3,4,5,6,7,8,9,10,11,12,13,14,15,16,17,18,19,20,21,22,23,24,25],[0,1,2,3,4,5,6,7,8,9,10,11,12,13,14,15,16,17,18,19,20,21,22,23,24,25,26],[0,1,2,3,4,5,6,7,8,9,10,11,12,13,14,15,16,17,18,19,20,21,22,23,24,25,26,27],[0,1,2,3,4,5,6,7,8,9,10,11,12,13,14,15,16,17,18,19,20,21,22,23,24,25,26,27,28],[0,1,2,3,4,5,6,7,8,9,10,11,12,13,14,15,16,17,18,19,20,21],[0,1,2,3,4,5,6,7,8,9,10,11,12,13,14,15,16,17,18,19,20,21,22,23,24,25,26,27,28,29,30],[0,1,2,3,4,5,6,7,8,9,10,11,12,13,14,15,16,17,18,19,20,21,22,23,24,25,26,27,28,29,30,31],[0,1,2,3,4,5,6,7,8,9,10,11,12,13,14,15,16,17,18,19,20,21,22,23,24,25,26,27,28,29,30,31,32]] [84] (fun k=>⟨Aq 85 [(84,.bool k)],[]⟩) ?_ ?_
   ·intro _;refine Sp (fun b=>?_) fun b=>?_
    ·refine Sp (fun c=>?_) fun c=>?_
     ·exact Lf Aa (Ew2 b c) (ws [])
     ·refine Sp (fun e=>?_) fun e=>?_
      ·exact Lf Aa (Ew3 b c e) (ws [])
      ·refine Sp (fun g=>?_) fun g=>?_
       ·exact Lf Aa (Ew4 b c e g) (ws [])
       ·refine Ck fun s=>?_
        exact Lf Aa (Ew5 b c e g (qR s)) (ws [])
    ·exact Lf Aa (Ew1 b) (ws [])
   intro k;refine Cd ?_ ?_
   ·refine T0 [4] ?_;exact Sr <|Tr <|Rr
   ·refine Sk <|Tn <|T0 [4] ?_
    exact Sr <|Rr
theorem JH{a r}(h:FC a=some r):Con B 29 [.sl false (L Ak a)] [] (fun r' σ'=>r'=.bs false 0 (r.length) 0 (r.length)∧σ'=[.buf 53 (L Ak r) false]):=by
 refine Co 0 8 [.tmp 2] Tryz.func29 (fun F hE=>?_) h;unfold FC;refine T0 [0] ?_;refine Sq ?_;intro h;refine PD hE 0 3 4 75 52 rfl rfl rfl rfl rfl rfl rfl (by decide) Tryz.underlying75 (fun b_ hb_=>?_);cases b_
 ·revert h;refine Cf <|Sk <|Tn <|Ck fun c =>?_
  have d:=c;simp only[Ao5,ApC,Ao7,Ape,Apr,ApG,Nat.reduceAdd]at d;refine Lt fun b e =>Te (fr':=[(2,.bs false 0 (b.length) 0 (b.length))]) (σ':=[.buf 53 (L Ak b) false]) [2] Aa (Ew3 c d e) ?_
  exact Sr <|Ro [0]
 ·obtain rfl:a=[]:=List.map_eq_nil_iff.1 (hb_ rfl);replace h:some ([])=some r:=by first|exact h|(split at h<;>first|exact h|cases h)
  revert h;refine Ct <|T0 [2] ?_
  refine Rw (Qt 2 53 rfl) ?_;exact Sr <|Tr <|Ro [0]
theorem Ll{a b r}(h:HK a b=some r):Con B 31 [.agg (i64 a.A.Zb::i64 a.A.No::(C1 u8 a.A.Zv1.l++i64 a.A.Zw1::i64 a.A.Zx1.Za::i64 a.A.Zx1.Ref.Zb::i64 a.A.Zx1.Ref.No::i64 a.A.Zx1.Zn1::i64 a.A.Zx1.Zb1::i64 a.A.Zx1.Zc::i64 a.A.Zx1.Zo1::i64 a.A.Zx1.Zw::i64 a.A.Zx1.To::i64 a.A.Zx1.Code::i64 a.A.Zx1.Zp1::i64 a.A.Zx1.Zq1::i64 a.A.Zx1.Zr1::i64 a.A.Zx1.Zs1::.str a.A.Zx1.Zt1::.sl false (L Ad a.A.Zx1.Zu1)::u64 a.A.Sig.C::u64 a.A.Sig.S::i64 a.B.Zb::i64 a.B.No::(C1 u8 a.B.Zv1.l++[i64 a.B.Zw1,i64 a.B.Zx1.Za,i64 a.B.Zx1.Ref.Zb,i64 a.B.Zx1.Ref.No,i64 a.B.Zx1.Zn1,i64 a.B.Zx1.Zb1,i64 a.B.Zx1.Zc,i64 a.B.Zx1.Zo1,i64 a.B.Zx1.Zw,i64 a.B.Zx1.To,i64 a.B.Zx1.Code,i64 a.B.Zx1.Zp1,i64 a.B.Zx1.Zq1,i64 a.B.Zx1.Zr1,i64 a.B.Zx1.Zs1,.str a.B.Zx1.Zt1,.sl false (L Ad a.B.Zx1.Zu1),u64 a.B.Sig.C,u64 a.B.Sig.S]))),.ref 0 0] [.box (i64 b.Zb::i64 b.No::(C1 u8 b.Zv1.l++[i64 b.Zw1,i64 b.Zx1.Za,i64 b.Zx1.Ref.Zb,i64 b.Zx1.Ref.No,i64 b.Zx1.Zn1,i64 b.Zx1.Zb1,i64 b.Zx1.Zc,i64 b.Zx1.Zo1,i64 b.Zx1.Zw,i64 b.Zx1.To,i64 b.Zx1.Code,i64 b.Zx1.Zp1,i64 b.Zx1.Zq1,i64 b.Zx1.Zr1,i64 b.Zx1.Zs1,.str b.Zx1.Zt1,.sl false (L Ad b.Zx1.Zu1),u64 b.Sig.C,u64 b.Sig.S])) false] (fun r' σ'=>r'=.bool r.1∧σ'=[.box (i64 r.2.Zb::i64 r.2.No::(C1 u8 r.2.Zv1.l++[i64 r.2.Zw1,i64 r.2.Zx1.Za,i64 r.2.Zx1.Ref.Zb,i64 r.2.Zx1.Ref.No,i64 r.2.Zx1.Zn1,i64 r.2.Zx1.Zb1,i64 r.2.Zx1.Zc,i64 r.2.Zx1.Zo1,i64 r.2.Zx1.Zw,i64 r.2.Zx1.To,i64 r.2.Zx1.Code,i64 r.2.Zx1.Zp1,i64 r.2.Zx1.Zq1,i64 r.2.Zx1.Zr1,i64 r.2.Zx1.Zs1,.str r.2.Zx1.Zt1,.sl false (L Ad r.2.Zx1.Zu1),u64 r.2.Sig.C,u64 r.2.Sig.S])) false]):=by
 refine Co 1 18 [.tmp 3] Tryz.func31 (fun F hE=>?_) h;unfold HK;refine T0 [1,2] ?_;refine Tw [3] (fun d=>⟨Aq 18 [(3,.bool d)],[.box (i64 b.Zb::i64 b.No::(C1 u8 b.Zv1.l++[i64 b.Zw1,i64 b.Zx1.Za,i64 b.Zx1.Ref.Zb,i64 b.Zx1.Ref.No,i64 b.Zx1.Zn1,i64 b.Zx1.Zb1,i64 b.Zx1.Zc,i64 b.Zx1.Zo1,i64 b.Zx1.Zw,i64 b.Zx1.To,i64 b.Zx1.Code,i64 b.Zx1.Zp1,i64 b.Zx1.Zq1,i64 b.Zx1.Zr1,i64 b.Zx1.Zs1,.str b.Zx1.Zt1,.sl false (L Ad b.Zx1.Zu1),u64 b.Sig.C,u64 b.Sig.S])) false]⟩) ?_ ?_
 ·intro _;refine Sp (fun c=>?_) fun c=>?_
  ·exact Lf Aa (Ew1 c) (ws [0])
  ·exact Lf Aa (Ew1 c) (ws [0])
 intro d;exact Sr <|Ro [0]
theorem Fa{a c r}(h:Cg a c=some r):Con B 66 [.sl false (L An a),.fn 31 [.ref 0 0]] [.box (i64 c.Zb::i64 c.No::(C1 u8 c.Zv1.l++[i64 c.Zw1,i64 c.Zx1.Za,i64 c.Zx1.Ref.Zb,i64 c.Zx1.Ref.No,i64 c.Zx1.Zn1,i64 c.Zx1.Zb1,i64 c.Zx1.Zc,i64 c.Zx1.Zo1,i64 c.Zx1.Zw,i64 c.Zx1.To,i64 c.Zx1.Code,i64 c.Zx1.Zp1,i64 c.Zx1.Zq1,i64 c.Zx1.Zr1,i64 c.Zx1.Zs1,.str c.Zx1.Zt1,.sl false (L Ad c.Zx1.Zu1),u64 c.Sig.C,u64 c.Sig.S])) false] (fun r' σ'=>r'=i64 r.1∧σ'=[.box (i64 r.2.Zb::i64 r.2.No::(C1 u8 r.2.Zv1.l++[i64 r.2.Zw1,i64 r.2.Zx1.Za,i64 r.2.Zx1.Ref.Zb,i64 r.2.Zx1.Ref.No,i64 r.2.Zx1.Zn1,i64 r.2.Zx1.Zb1,i64 r.2.Zx1.Zc,i64 r.2.Zx1.Zo1,i64 r.2.Zx1.Zw,i64 r.2.Zx1.To,i64 r.2.Zx1.Code,i64 r.2.Zx1.Zp1,i64 r.2.Zx1.Zq1,i64 r.2.Zx1.Zr1,i64 r.2.Zx1.Zs1,.str r.2.Zx1.Zt1,.sl false (L Ad r.2.Zx1.Zu1),u64 r.2.Sig.C,u64 r.2.Sig.S])) false]):=by
 refine Co 1 19 [.tmp 4] Tryz.func66 (fun F hE=>?_) h;unfold Cg;refine T0 [0,1] ?_;refine Jo (fun⟨ad,ae,af,ag,ah,ai,aj,ak,al,am,an,ao,ap,aq,ar,au,av,aw,ax,ay,az,aA⟩=>⟨Aq 19 [],[.box (i64 ad::i64 ae::(C1 u8 af.l++[i64 ag,i64 ah,i64 ai,i64 aj,i64 ak,i64 al,i64 am,i64 an,i64 ao,i64 ap,i64 aq,i64 ar,i64 au,i64 av,i64 aw,.str ax,.sl false (L Ad ay),u64 az,u64 aA])) false]⟩) ?_ ?_
 ·intro aH aD;refine T0 [0,1,7,8] ?_;refine Sb ?_;refine Lo (fun⟨b,d,e,f,g,i,j,k,n,o,p,q,s,t,u,v,w,x,y,z,aa,ab,ac⟩=>⟨Aq 19 [(0,.sl false (L An a)),(1,.fn 31 [.ref 0 0]),(7,i64 (a.length:Int)),(8,i64 b)],[.box (i64 d::i64 e::(C1 u8 f.l++[i64 g,i64 i,i64 j,i64 k,i64 n,i64 o,i64 p,i64 q,i64 s,i64 t,i64 u,i64 v,i64 w,i64 x,i64 y,.str z,.sl false (L Ad aa),u64 ab,u64 ac])) false]⟩) (ws [0]) ?_;rintro⟨b,d,e,f,g,i,j,k,n,o,p,q,s,t,u,v,w,x,y,z,aa,ab,ac⟩ aI aE aB aC;show BO a b d e f g i j k n o p q s t u v w x y z aa ab ac=some aE→_;unfold BO;refine T0 [0,1,7,8,9] ?_;refine Sq <|Cd ?_ ?_
  ·refine Sk <|Tn <|Sq <|Sb <|T0 [0,1,5,7,8] ?_
   refine Ck fun aF =>Bd fun aJ aG =>Te [0,1,5,7,8,16] (Ap (l:=[]) (m:=[(16,31,[.agg (i64 (((nth a b.toNat).A).Zb)::i64 (((nth a b.toNat).A).No)::(C1 u8 (((nth a b.toNat).A).Zv1).l++i64 (((nth a b.toNat).A).Zw1)::i64 ((((nth a b.toNat).A).Zx1).Za)::i64 (((((nth a b.toNat).A).Zx1).Ref).Zb)::i64 (((((nth a b.toNat).A).Zx1).Ref).No)::i64 ((((nth a b.toNat).A).Zx1).Zn1)::i64 ((((nth a b.toNat).A).Zx1).Zb1)::i64 ((((nth a b.toNat).A).Zx1).Zc)::i64 ((((nth a b.toNat).A).Zx1).Zo1)::i64 ((((nth a b.toNat).A).Zx1).Zw)::i64 ((((nth a b.toNat).A).Zx1).To)::i64 ((((nth a b.toNat).A).Zx1).Code)::i64 ((((nth a b.toNat).A).Zx1).Zp1)::i64 ((((nth a b.toNat).A).Zx1).Zq1)::i64 ((((nth a b.toNat).A).Zx1).Zr1)::i64 ((((nth a b.toNat).A).Zx1).Zs1)::.str ((((nth a b.toNat).A).Zx1).Zt1)::.sl false (L Ad ((((nth a b.toNat).A).Zx1).Zu1))::u64 ((((nth a b.toNat).A).Sig).C)::u64 ((((nth a b.toNat).A).Sig).S)::i64 (((nth a b.toNat).B).Zb)::i64 (((nth a b.toNat).B).No)::(C1 u8 (((nth a b.toNat).B).Zv1).l++[i64 (((nth a b.toNat).B).Zw1),i64 ((((nth a b.toNat).B).Zx1).Za),i64 (((((nth a b.toNat).B).Zx1).Ref).Zb),i64 (((((nth a b.toNat).B).Zx1).Ref).No),i64 ((((nth a b.toNat).B).Zx1).Zn1),i64 ((((nth a b.toNat).B).Zx1).Zb1),i64 ((((nth a b.toNat).B).Zx1).Zc),i64 ((((nth a b.toNat).B).Zx1).Zo1),i64 ((((nth a b.toNat).B).Zx1).Zw),i64 ((((nth a b.toNat).B).Zx1).To),i64 ((((nth a b.toNat).B).Zx1).Code),i64 ((((nth a b.toNat).B).Zx1).Zp1),i64 ((((nth a b.toNat).B).Zx1).Zq1),i64 ((((nth a b.toNat).B).Zx1).Zr1),i64 ((((nth a b.toNat).B).Zx1).Zs1),.str ((((nth a b.toNat).B).Zx1).Zt1),.sl false (L Ad ((((nth a b.toNat).B).Zx1).Zu1)),u64 ((((nth a b.toNat).B).Sig).C),u64 ((((nth a b.toNat).B).Sig).S)]))),.ref 0 0],[.box (i64 d::i64 e::(C1 u8 f.l++[i64 g,i64 i,i64 j,i64 k,i64 n,i64 o,i64 p,i64 q,i64 s,i64 t,i64 u,i64 v,i64 w,i64 x,i64 y,.str z,.sl false (L Ad aa),u64 ab,u64 ac])) false],_,_)]) trivial ⟨(wc (Ll aG) [0]),trivial⟩) (Ew1 (qR aF)) ?_
   refine Cd ?_ ?_
   ·refine T0 [4] ?_;exact Sr <|Br <|Tr <|Lr aC aB <|Br <|Jr aD <|Ro [0]
   ·refine Sk <|Bn <|Tn <|F0 [0,1,7,8] ?_
    exact Ln (ws [0])
  ·refine Sx <|Tx <|Lx aC aB <|Bx <|?_
   exact Jn ((ws (l':=[]) (σ':=[.box (i64 d::i64 e::(C1 u8 f.l++[i64 g,i64 i,i64 j,i64 k,i64 n,i64 o,i64 p,i64 q,i64 s,i64 t,i64 u,i64 v,i64 w,i64 x,i64 y,.str z,.sl false (L Ad aa),u64 ab,u64 ac])) false]) [0]).trans (ws [0]))
 rintro⟨ad,ae,af,ag,ah,ai,aj,ak,al,am,an,ao,ap,aq,ar,au,av,aw,ax,ay,az,aA⟩;refine T0 [4] ?_;exact Sr <|Ro [0]
theorem Ei{b a r}(h:BP b a=some r):Con B 30 [.sl false (L An b),.fn 31 [.ref 0 0]] [.box (i64 a.Zb::i64 a.No::(C1 u8 a.Zv1.l++[i64 a.Zw1,i64 a.Zx1.Za,i64 a.Zx1.Ref.Zb,i64 a.Zx1.Ref.No,i64 a.Zx1.Zn1,i64 a.Zx1.Zb1,i64 a.Zx1.Zc,i64 a.Zx1.Zo1,i64 a.Zx1.Zw,i64 a.Zx1.To,i64 a.Zx1.Code,i64 a.Zx1.Zp1,i64 a.Zx1.Zq1,i64 a.Zx1.Zr1,i64 a.Zx1.Zs1,.str a.Zx1.Zt1,.sl false (L Ad a.Zx1.Zu1),u64 a.Sig.C,u64 a.Sig.S])) false] (fun r' σ'=>r'=.bool r.1∧σ'=[.box (i64 r.2.Zb::i64 r.2.No::(C1 u8 r.2.Zv1.l++[i64 r.2.Zw1,i64 r.2.Zx1.Za,i64 r.2.Zx1.Ref.Zb,i64 r.2.Zx1.Ref.No,i64 r.2.Zx1.Zn1,i64 r.2.Zx1.Zb1,i64 r.2.Zx1.Zc,i64 r.2.Zx1.Zo1,i64 r.2.Zx1.Zw,i64 r.2.Zx1.To,i64 r.2.Zx1.Code,i64 r.2.Zx1.Zp1,i64 r.2.Zx1.Zq1,i64 r.2.Zx1.Zr1,i64 r.2.Zx1.Zs1,.str r.2.Zx1.Zt1,.sl false (L Ad r.2.Zx1.Zu1),u64 r.2.Sig.C,u64 r.2.Sig.S])) false]):=by
 refine Co 1 9 [.tmp 4] Tryz.func30 (fun F hE=>?_) h;unfold BP;refine T0 [0,1] ?_;refine Bd fun d c =>Te [4] (Ap (l:=[]) (m:=[(7,66,[.sl false (L An b),.fn 31 [.ref 0 0]],[.box (i64 a.Zb::i64 a.No::(C1 u8 a.Zv1.l++[i64 a.Zw1,i64 a.Zx1.Za,i64 a.Zx1.Ref.Zb,i64 a.Zx1.Ref.No,i64 a.Zx1.Zn1,i64 a.Zx1.Zb1,i64 a.Zx1.Zc,i64 a.Zx1.Zo1,i64 a.Zx1.Zw,i64 a.Zx1.To,i64 a.Zx1.Code,i64 a.Zx1.Zp1,i64 a.Zx1.Zq1,i64 a.Zx1.Zr1,i64 a.Zx1.Zs1,.str a.Zx1.Zt1,.sl false (L Ad a.Zx1.Zu1),u64 a.Sig.C,u64 a.Sig.S])) false],_,_)]) trivial ⟨(wc (Fa c) [0]),trivial⟩) Ev ?_
 exact Sr <|Ro [0]
theorem JE{a r}(h:FO a=some r):Con B 32 [.sl false (L An a)] [] (fun r' σ'=>r'=.bs false 0 (r.length) 0 (r.length)∧σ'=[.buf 106 (L An r) false]):=by
 refine Co 0 8 [.tmp 2] Tryz.func32 (fun F hE=>?_) h;unfold FO;refine T0 [0] ?_;refine Sq ?_;intro h;refine PD hE 0 3 4 38 88 rfl rfl rfl rfl rfl rfl rfl (by decide) Tryz.underlying38 (fun b_ hb_=>?_);cases b_
 ·revert h;refine Cf <|Sk <|Tn <|Ck fun c =>?_
  have d:=c;simp only[Ao5,ApC,Ao7,Ape,Apr,ApG,Nat.reduceAdd]at d;refine Lt fun b e =>Te (fr':=[(2,.bs false 0 (b.length) 0 (b.length))]) (σ':=[.buf 106 (L An b) false]) [2] Aa (Ew3 c d e) ?_
  exact Sr <|Ro [0]
 ·obtain rfl:a=[]:=List.map_eq_nil_iff.1 (hb_ rfl);replace h:some ([])=some r:=by first|exact h|(split at h<;>first|exact h|cases h)
  revert h;refine Ct <|T0 [2] ?_
  refine Rw (Qt 2 106 rfl) ?_;exact Sr <|Tr <|Ro [0]
theorem CZ{b d a r}(h:Bq b d a=some r):Con B 10 [.agg [.sl false (L Ah b.Zg1.Ze),.sl false (L Al b.Zg1.Zf),.sl false (L Ab b.Zh1.Zx),.sl false (L Af b.Zh1.Zy),.sl false (L Aj b.Zh1.Zz),.sl false (L Ai b.Zh1.Za1),.sl false (L Ag b.Zi1),.sl false (L Ae b.Zj1),.sl false (L Ac b.Zk1)],.agg [.sl false (L (cSl Ak) d.Zy1),.sl false (L An d.Zz1)],.agg (i64 a.Zb::i64 a.No::(C1 u8 a.Zv1.l++[i64 a.Zw1,i64 a.Zx1.Za,i64 a.Zx1.Ref.Zb,i64 a.Zx1.Ref.No,i64 a.Zx1.Zn1,i64 a.Zx1.Zb1,i64 a.Zx1.Zc,i64 a.Zx1.Zo1,i64 a.Zx1.Zw,i64 a.Zx1.To,i64 a.Zx1.Code,i64 a.Zx1.Zp1,i64 a.Zx1.Zq1,i64 a.Zx1.Zr1,i64 a.Zx1.Zs1,.str a.Zx1.Zt1,.sl false (L Ad a.Zx1.Zu1),u64 a.Sig.C,u64 a.Sig.S]))] [] (fun r' σ'=>r'=.tup [.agg [.sl false (L (cSl Ak) r.1.Zy1),.sl false (L An r.1.Zz1)],i64 r.2]∧σ'=[]):=by
 refine Cw 95 [.cell 6 40,.tmp 7] Tryz.func10 (fun F hE=>?_) h;unfold Bq;refine T0 [3,4,5,6] ?_;refine Sq <|Bd fun aj t =>Te [3,4,5,6,7] (o1 11 (Nw t)) Ev ?_
 refine T0 [3,4,5,6,7,13] ?_;refine Cd ?_ ?_
 ·refine T0 [6,7] ?_;exact Sr <|Tr <|Rr
 ·refine Sk <|Tn <|Bd fun e u =>Te [3,4,5,6,8] (o1 19 (Jl u)) Ev ?_
  refine Sq ?_;refine Dw [[],[0],[],[2],[0,1,2,3],[0,1,2,3,4],[0,1,2,3,4,5],[0,1,2,3,4,5],[0,1,2,3,4,5,7],[0,1,2,3,4,5,7,8],[0,1,2,3,4,5,6,7,8,9],[0,1,2,3,4,5,6,7,8,9,10],[0,1,2,3,4,5],[0,1,2,3,4,5,6,7,8,9,10,11,12],[0,1,2,3,4,5,6,7,8,9,10,11,12,13]] [3,4,5,6,8,34] (fun p=>⟨Aq 95 [(3,.ref 0 0),(4,.ref 1 0),(5,.ref 2 0),(6,.ref 3 0),(8,.sl false (L Ak e)),(34,.bool p)],[.box [.sl false (L Ah b.Zg1.Ze),.sl false (L Al b.Zg1.Zf),.sl false (L Ab b.Zh1.Zx),.sl false (L Af b.Zh1.Zy),.sl false (L Aj b.Zh1.Zz),.sl false (L Ai b.Zh1.Za1),.sl false (L Ag b.Zi1),.sl false (L Ae b.Zj1),.sl false (L Ac b.Zk1)] false,.box [.sl false (L (cSl Ak) d.Zy1),.sl false (L An d.Zz1)] false,.box (i64 a.Zb::i64 a.No::(C1 u8 a.Zv1.l++[i64 a.Zw1,i64 a.Zx1.Za,i64 a.Zx1.Ref.Zb,i64 a.Zx1.Ref.No,i64 a.Zx1.Zn1,i64 a.Zx1.Zb1,i64 a.Zx1.Zc,i64 a.Zx1.Zo1,i64 a.Zx1.Zw,i64 a.Zx1.To,i64 a.Zx1.Code,i64 a.Zx1.Zp1,i64 a.Zx1.Zq1,i64 a.Zx1.Zr1,i64 a.Zx1.Zs1,.str a.Zx1.Zt1,.sl false (L Ad a.Zx1.Zu1),u64 a.Sig.C,u64 a.Sig.S])) false,.box [.sl true (L (cSl Ak) ([])),.sl true (L An ([]))] false]⟩) ?_ ?_
  ·intro _;refine Sp (fun k=>?_) fun k=>?_
   ·refine Ck fun v =>Bd fun ak w =>?_
    exact Lf (o1 33 (QE w)) (Ew2 k (qR v)) (ws [0,1,2,3])
   ·exact Lf Aa (Ew1 k) (ws [0,1,2,3])
  intro p;refine Cd ?_ ?_
  ·refine T0 [6,7] ?_;exact Sr <|Tr <|Rr
  ·refine Sk <|Tn <|Sq <|Bd fun al x =>Te [3,4,5,6,7,8] (o1 38 (LI x)) Ev ?_
   refine T0 [3,4,5,6,7,8,40] ?_;refine Cd ?_ ?_
   ·refine T0 [6,7] ?_;exact Sr <|Tr <|Rr
   ·refine Sk <|Tn <|T0 [3,4,5,6,8] ?_
    refine Sq <|T0 [3,4,5,6,8,49] ?_
    refine Cd ?_ ?_
    ·refine Ck fun y =>Lt fun n z =>Te (σ':=[_,_,_,.box [.bs true 4 (n.length) 0 (n.length),.sl false (L An d.Zz1)] false,.buf 1 (L (cSl Ak) n) false]) [4,5,6,8] Aa (Ew2 y z) ?_
     refine Lt fun f aa =>Te (σ':=[_,_,_,.box [.bs true 4 (f.length) 0 (f.length),.sl false (L An d.Zz1)] false,.buf 1 (L (cSl Ak) f) false]) [5,6,8] Aa (Ew1 aa) ?_
     refine Bd fun g ab =>Ck fun ac =>Ck fun ad =>Lt fun j q =>?_
     intro h;refine Y8 hE K6 [[],[0],[],[2],[],[4],[],[6],[4,5,6,7],[0,1,2,3,4,5,6,7,8],[0,1,2,3,4,5,6,7,8,9]] (by kernel_rfl) [(5,2),(6,3),(64,3),(66,2)] [(69,2),(69,3)] [(69,5)] [] [5,6,64,66,69] (by kernel_rfl) (fr':=[(5,.ref 2 0),(6,.ref 3 0),(64,.ref 3 0),(66,.ref 2 0),(69,.bs false 5 (g.length) 0 (g.length))]) (σ':=[.box [.sl false (L Ah b.Zg1.Ze),.sl false (L Al b.Zg1.Zf),.sl false (L Ab b.Zh1.Zx),.sl false (L Af b.Zh1.Zy),.sl false (L Aj b.Zh1.Zz),.sl false (L Ai b.Zh1.Za1),.sl false (L Ag b.Zi1),.sl false (L Ae b.Zj1),.sl false (L Ac b.Zk1)] false,.box [.sl false (L (cSl Ak) d.Zy1),.sl false (L An d.Zz1)] false,.box (i64 a.Zb::i64 a.No::(C1 u8 a.Zv1.l++[i64 a.Zw1,i64 a.Zx1.Za,i64 a.Zx1.Ref.Zb,i64 a.Zx1.Ref.No,i64 a.Zx1.Zn1,i64 a.Zx1.Zb1,i64 a.Zx1.Zc,i64 a.Zx1.Zo1,i64 a.Zx1.Zw,i64 a.Zx1.To,i64 a.Zx1.Code,i64 a.Zx1.Zp1,i64 a.Zx1.Zq1,i64 a.Zx1.Zr1,i64 a.Zx1.Zs1,.str a.Zx1.Zt1,.sl false (L Ad a.Zx1.Zu1),u64 a.Sig.C,u64 a.Sig.S])) false,.box [.bs true 4 (j.length) 0 (j.length),.sl false (L An d.Zz1)] false,.buf 1 ((L (cSl Ak) f).set (a.Zb.toNat) [.bs false 5 ((g++([a]:List AoD)).length) 0 ((g++([a]:List AoD)).length)]) false,.buf 53 (L Ak (g++([a]:List AoD))) false]) ⟨rfl,rfl,rfl,rfl,trivial⟩ ⟨(by exact And.intro rfl (And.intro rfl rfl)),trivial⟩ trivial ⟨_,_,(Ap (l:=[]) (m:=[(69,29,[.sl false (L Ak e)],[.box [.sl false (L Ah b.Zg1.Ze),.sl false (L Al b.Zg1.Zf),.sl false (L Ab b.Zh1.Zx),.sl false (L Af b.Zh1.Zy),.sl false (L Aj b.Zh1.Zz),.sl false (L Ai b.Zh1.Za1),.sl false (L Ag b.Zi1),.sl false (L Ae b.Zj1),.sl false (L Ac b.Zk1)] false,.box [.sl false (L (cSl Ak) d.Zy1),.sl false (L An d.Zz1)] false,.box (i64 a.Zb::i64 a.No::(C1 u8 a.Zv1.l++[i64 a.Zw1,i64 a.Zx1.Za,i64 a.Zx1.Ref.Zb,i64 a.Zx1.Ref.No,i64 a.Zx1.Zn1,i64 a.Zx1.Zb1,i64 a.Zx1.Zc,i64 a.Zx1.Zo1,i64 a.Zx1.Zw,i64 a.Zx1.To,i64 a.Zx1.Code,i64 a.Zx1.Zp1,i64 a.Zx1.Zq1,i64 a.Zx1.Zr1,i64 a.Zx1.Zs1,.str a.Zx1.Zt1,.sl false (L Ad a.Zx1.Zu1),u64 a.Sig.C,u64 a.Sig.S])) false,.box [.bs true 4 (f.length) 0 (f.length),.sl false (L An d.Zz1)] false,.buf 1 (L (cSl Ak) f) false],_,_)]) trivial ⟨(wc (JH ab) []),trivial⟩),(by repeat' (first|exact trivial|(refine And.intro ?_ ?_)|exact fun _=>rfl|exact fun h=>absurd h (by decide))),?_⟩ ?_
     ·subst q;simp only[go_sem,ac,qR ad]
     revert h;refine Rw (Ua 4 5 (cr:=Ak) (lg:=f) (lg':=j) (i:=a.Zb) (row:=(g++([a]:List AoD))) (full:=false) (σ':=[.box [.sl false (L Ah b.Zg1.Ze),.sl false (L Al b.Zg1.Zf),.sl false (L Ab b.Zh1.Zx),.sl false (L Af b.Zh1.Zy),.sl false (L Aj b.Zh1.Zz),.sl false (L Ai b.Zh1.Za1),.sl false (L Ag b.Zi1),.sl false (L Ae b.Zj1),.sl false (L Ac b.Zk1)] false,.box [.sl false (L (cSl Ak) d.Zy1),.sl false (L An d.Zz1)] false,.box (i64 a.Zb::i64 a.No::(C1 u8 a.Zv1.l++[i64 a.Zw1,i64 a.Zx1.Za,i64 a.Zx1.Ref.Zb,i64 a.Zx1.Ref.No,i64 a.Zx1.Zn1,i64 a.Zx1.Zb1,i64 a.Zx1.Zc,i64 a.Zx1.Zo1,i64 a.Zx1.Zw,i64 a.Zx1.To,i64 a.Zx1.Code,i64 a.Zx1.Zp1,i64 a.Zx1.Zq1,i64 a.Zx1.Zr1,i64 a.Zx1.Zs1,.str a.Zx1.Zt1,.sl false (L Ad a.Zx1.Zu1),u64 a.Sig.C,u64 a.Sig.S])) false,.box [.bs true 4 (j.length) 0 (j.length),.sl false (L An d.Zz1)] false,.buf 1 (L (cSl Ak) j) false,.buf 53 (L Ak (g++([a]:List AoD))) true]) (by assumption) rfl rfl (by decide) gs q rfl) ?_;refine T0 [6,7] ?_;exact Sr <|Tr <|Rr
    ·refine Sk <|Tn <|?_
     refine Ja (fun s=>⟨Aq 95 [(6,.ref 0 0)],[.box [.sl false (L (cSl Ak) d.Zy1),.sl false (L An s)] false]⟩) ?_ ?_
     ·intro am;refine Bd fun c ae =>Te [4,5,6,8,79] (Ap (l:=[]) (m:=[(78,30,[.sl false (L An d.Zz1),.fn 31 [.ref 2 0]],[.box [.sl false (L Ah b.Zg1.Ze),.sl false (L Al b.Zg1.Zf),.sl false (L Ab b.Zh1.Zx),.sl false (L Af b.Zh1.Zy),.sl false (L Aj b.Zh1.Zz),.sl false (L Ai b.Zh1.Za1),.sl false (L Ag b.Zi1),.sl false (L Ae b.Zj1),.sl false (L Ac b.Zk1)] false,.box [.sl false (L (cSl Ak) d.Zy1),.sl false (L An d.Zz1)] false,.box (i64 a.Zb::i64 a.No::(C1 u8 a.Zv1.l++[i64 a.Zw1,i64 a.Zx1.Za,i64 a.Zx1.Ref.Zb,i64 a.Zx1.Ref.No,i64 a.Zx1.Zn1,i64 a.Zx1.Zb1,i64 a.Zx1.Zc,i64 a.Zx1.Zo1,i64 a.Zx1.Zw,i64 a.Zx1.To,i64 a.Zx1.Code,i64 a.Zx1.Zp1,i64 a.Zx1.Zq1,i64 a.Zx1.Zr1,i64 a.Zx1.Zs1,.str a.Zx1.Zt1,.sl false (L Ad a.Zx1.Zu1),u64 a.Sig.C,u64 a.Sig.S])) false,.box [.sl false (L (cSl Ak) d.Zy1),.sl false (L An d.Zz1)] false],_,_)]) trivial ⟨(wc (Ei ae) [2]),trivial⟩) Ev ?_
      refine Cd ?_ ?_
      ·refine Bd fun an af =>Ck fun ag =>Ck fun ah =>Lt fun o ai =>?_
       intro h;refine Qg hE K6 [[],[0],[0,1],[],[],[4],[4,5],[3,4,5,6],[3,4,5,6,7],[],[3,4,5,6,7,8,9],[3,4,5,6,7,8,9,10],[0,1,2,3,4,5,6,7,8,9,10,11],[0,1,2,3,4,5,6,7,8,9,10,11,12],[0,1,2,3,4,5,6,7,8,9,10,11,12,13]] (by kernel_rfl) [(5,2),(84,2)] [(82,2)] [] [83,87] [5,6,83,84,87] (by kernel_rfl) MR (fr':=[(5,.ref 2 0),(6,.ref 3 0),(83,.sl false (L Ak e)),(84,.ref 2 1),(87,.rp (i64 ((nth e ((w64 (c.2.No-1)).toNat)).Zb)::i64 ((nth e ((w64 (c.2.No-1)).toNat)).No)::(C1 u8 ((nth e ((w64 (c.2.No-1)).toNat)).Zv1).l++[i64 ((nth e ((w64 (c.2.No-1)).toNat)).Zw1),i64 (((nth e ((w64 (c.2.No-1)).toNat)).Zx1).Za),i64 ((((nth e ((w64 (c.2.No-1)).toNat)).Zx1).Ref).Zb),i64 ((((nth e ((w64 (c.2.No-1)).toNat)).Zx1).Ref).No),i64 (((nth e ((w64 (c.2.No-1)).toNat)).Zx1).Zn1),i64 (((nth e ((w64 (c.2.No-1)).toNat)).Zx1).Zb1),i64 (((nth e ((w64 (c.2.No-1)).toNat)).Zx1).Zc),i64 (((nth e ((w64 (c.2.No-1)).toNat)).Zx1).Zo1),i64 (((nth e ((w64 (c.2.No-1)).toNat)).Zx1).Zw),i64 (((nth e ((w64 (c.2.No-1)).toNat)).Zx1).To),i64 (((nth e ((w64 (c.2.No-1)).toNat)).Zx1).Code),i64 (((nth e ((w64 (c.2.No-1)).toNat)).Zx1).Zp1),i64 (((nth e ((w64 (c.2.No-1)).toNat)).Zx1).Zq1),i64 (((nth e ((w64 (c.2.No-1)).toNat)).Zx1).Zr1),i64 (((nth e ((w64 (c.2.No-1)).toNat)).Zx1).Zs1),.str (((nth e ((w64 (c.2.No-1)).toNat)).Zx1).Zt1),.sl false (L Ad (((nth e ((w64 (c.2.No-1)).toNat)).Zx1).Zu1)),u64 (((nth e ((w64 (c.2.No-1)).toNat)).Sig).C),u64 (((nth e ((w64 (c.2.No-1)).toNat)).Sig).S)])))]) (σ':=[.box [.sl false (L Ah b.Zg1.Ze),.sl false (L Al b.Zg1.Zf),.sl false (L Ab b.Zh1.Zx),.sl false (L Af b.Zh1.Zy),.sl false (L Aj b.Zh1.Zz),.sl false (L Ai b.Zh1.Za1),.sl false (L Ag b.Zi1),.sl false (L Ae b.Zj1),.sl false (L Ac b.Zk1)] false,.box [.sl false (L (cSl Ak) d.Zy1),.sl false (L An d.Zz1)] false,.box (i64 c.2.Zb::i64 c.2.No::(C1 u8 c.2.Zv1.l++[i64 c.2.Zw1,i64 c.2.Zx1.Za,i64 c.2.Zx1.Ref.Zb,i64 c.2.Zx1.Ref.No,i64 c.2.Zx1.Zn1,i64 c.2.Zx1.Zb1,i64 c.2.Zx1.Zc,i64 c.2.Zx1.Zo1,i64 c.2.Zx1.Zw,i64 c.2.Zx1.To,i64 c.2.Zx1.Code,i64 c.2.Zx1.Zp1,i64 c.2.Zx1.Zq1,i64 c.2.Zx1.Zr1,i64 c.2.Zx1.Zs1,.str c.2.Zx1.Zt1,.sl false (L Ad c.2.Zx1.Zu1),u64 c.2.Sig.C,u64 c.2.Sig.S])) false,.box [.sl false (L (cSl Ak) d.Zy1),.bs false 4 (o.length) 0 (o.length)] false,.buf 106 (L An o) false]) ⟨rfl,rfl,trivial⟩ trivial ⟨rfl,rfl,trivial⟩ ⟨_,_,(Ap (l:=[]) (m:=[(82,32,[.sl false (L An d.Zz1)],[.box [.sl false (L Ah b.Zg1.Ze),.sl false (L Al b.Zg1.Zf),.sl false (L Ab b.Zh1.Zx),.sl false (L Af b.Zh1.Zy),.sl false (L Aj b.Zh1.Zz),.sl false (L Ai b.Zh1.Za1),.sl false (L Ag b.Zi1),.sl false (L Ae b.Zj1),.sl false (L Ac b.Zk1)] false,.box [.sl false (L (cSl Ak) d.Zy1),.sl false (L An d.Zz1)] false,.box (i64 c.2.Zb::i64 c.2.No::(C1 u8 c.2.Zv1.l++[i64 c.2.Zw1,i64 c.2.Zx1.Za,i64 c.2.Zx1.Ref.Zb,i64 c.2.Zx1.Ref.No,i64 c.2.Zx1.Zn1,i64 c.2.Zx1.Zb1,i64 c.2.Zx1.Zc,i64 c.2.Zx1.Zo1,i64 c.2.Zx1.Zw,i64 c.2.Zx1.To,i64 c.2.Zx1.Code,i64 c.2.Zx1.Zp1,i64 c.2.Zx1.Zq1,i64 c.2.Zx1.Zr1,i64 c.2.Zx1.Zs1,.str c.2.Zx1.Zt1,.sl false (L Ad c.2.Zx1.Zu1),u64 c.2.Sig.C,u64 c.2.Sig.S])) false,.box [.sl false (L (cSl Ak) d.Zy1),.sl false (L An d.Zz1)] false],_,_)]) trivial ⟨(wc (JE af) []),trivial⟩),(by repeat' (first|exact trivial|(refine And.intro ?_ ?_)|exact fun _=>rfl|exact fun h=>absurd h (by decide))),?_⟩ ?_
       ·subst ai;simp only[go_sem,qR ag,ah]
       revert h;exact Jm ((FL 3 1 rfl rfl rfl gs gs).trans (ws [3]))
      ·exact Sk <|Jm (ws [3])
     intro s;refine T0 [6,7] ?_;exact Sr <|Rr
theorem DA{b c d f e a r}(h:Bs b c d f e a=some r):Con B 21 [.agg [.sl false (L Ah b.Zg1.Ze),.sl false (L Al b.Zg1.Zf),.sl false (L Ab b.Zh1.Zx),.sl false (L Af b.Zh1.Zy),.sl false (L Aj b.Zh1.Zz),.sl false (L Ai b.Zh1.Za1),.sl false (L Ag b.Zi1),.sl false (L Ae b.Zj1),.sl false (L Ac b.Zk1)],.agg [.sl false (L (cSl Ak) c.Zy1),.sl false (L An c.Zz1)],i64 d,u64 f,i64 e,.agg [i64 a.Za,i64 a.Ref.Zb,i64 a.Ref.No,i64 a.Zn1,i64 a.Zb1,i64 a.Zc,i64 a.Zo1,i64 a.Zw,i64 a.To,i64 a.Code,i64 a.Zp1,i64 a.Zq1,i64 a.Zr1,i64 a.Zs1,.str a.Zt1,.sl false (L Ad a.Zu1)]] [] (fun r' σ'=>r'=.tup [.agg (i64 r.1.Zb::i64 r.1.No::(C1 u8 r.1.Zv1.l++[i64 r.1.Zw1,i64 r.1.Zx1.Za,i64 r.1.Zx1.Ref.Zb,i64 r.1.Zx1.Ref.No,i64 r.1.Zx1.Zn1,i64 r.1.Zx1.Zb1,i64 r.1.Zx1.Zc,i64 r.1.Zx1.Zo1,i64 r.1.Zx1.Zw,i64 r.1.Zx1.To,i64 r.1.Zx1.Code,i64 r.1.Zx1.Zp1,i64 r.1.Zx1.Zq1,i64 r.1.Zx1.Zr1,i64 r.1.Zx1.Zs1,.str r.1.Zx1.Zt1,.sl false (L Ad r.1.Zx1.Zu1),u64 r.1.Sig.C,u64 r.1.Sig.S])),i64 r.2]∧σ'=[]):=by
 refine Cw 112 [.cell 12 52,.tmp 13] Tryz.func21 (fun F hE=>?_) h;unfold Bs;refine T0 [2,3,4,6,7,11,12] ?_;refine Sq <|Bd fun y m =>Te [2,3,4,6,7,11,12,13] (o1 19 (DV m)) Ev ?_
 refine T0 [2,3,4,6,7,11,12,13,21] ?_;refine Cd ?_ ?_
 ·refine T0 [12,13] ?_;exact Sr <|Tr <|Rr
 ·refine Sk <|Tn <|Sq <|?_
  refine Tw [2,3,4,6,7,11,12,32] (fun i=>⟨Aq 112 [(2,i64 d),(3,u64 f),(4,i64 e),(6,.ref 0 0),(7,.ref 1 0),(11,.ref 2 0),(12,.ref 3 0),(32,.bool i)],[.box [.sl false (L Ah b.Zg1.Ze),.sl false (L Al b.Zg1.Zf),.sl false (L Ab b.Zh1.Zx),.sl false (L Af b.Zh1.Zy),.sl false (L Aj b.Zh1.Zz),.sl false (L Ai b.Zh1.Za1),.sl false (L Ag b.Zi1),.sl false (L Ae b.Zj1),.sl false (L Ac b.Zk1)] false,.box [.sl false (L (cSl Ak) c.Zy1),.sl false (L An c.Zz1)] false,.box [i64 a.Za,i64 a.Ref.Zb,i64 a.Ref.No,i64 a.Zn1,i64 a.Zb1,i64 a.Zc,i64 a.Zo1,i64 a.Zw,i64 a.To,i64 a.Code,i64 a.Zp1,i64 a.Zq1,i64 a.Zr1,i64 a.Zs1,.str a.Zt1,.sl false (L Ad a.Zu1)] false,.box (i64 0::i64 0::(C1 u8 (Arr.rep 32 (0:UInt8)).l++[i64 0,i64 0,i64 0,i64 0,i64 0,i64 0,i64 0,i64 0,i64 0,i64 0,i64 0,i64 0,i64 0,i64 0,i64 0,.str ([]:List UInt8),.sl true (L Ad ([])),u64 (0:UInt64),u64 (0:UInt64)])) false]⟩) ?_ ?_
  ·intro _;refine Sp (fun g=>?_) fun g=>?_
   ·exact Lf Aa (Ew1 g) (ws [0,1,2,3])
   ·exact Lf Aa (Ew1 g) (ws [0,1,2,3])
  intro i;refine Cd ?_ ?_
  ·refine T0 [12,13] ?_;exact Sr <|Tr <|Rr
  ·refine Sk <|Tn <|Bd fun z n =>Te [2,3,4,6,7,11,12,13,14] (o1 36 (HX n)) Ev ?_
   refine Sq <|T0 [2,3,4,6,7,11,12,13,14,40] ?_
   refine Cd ?_ ?_
   ·refine T0 [12,13] ?_;exact Sr <|Tr <|Rr
   ·refine Sk <|Tn <|Sq <|Ck fun o =>Te [2,3,4,6,7,11,12,50] Aa (Ew1 (qR o)) ?_
    refine Cd ?_ ?_
    ·refine T0 [12,13] ?_;exact Sr <|Tr <|Rr
    ·refine Sk <|Tn <|Bd fun aa p =>Te [2,3,4,6,7,11,12,15] (o1 54 (Jl p)) Ev ?_
     refine Lt fun j q =>Te (σ':=[_,_,_,_,.box (i64 d::i64 j::(C1 u8 (Arr.rep 32 (0:UInt8)).l++[i64 e,i64 a.Za,i64 a.Ref.Zb,i64 a.Ref.No,i64 a.Zn1,i64 a.Zb1,i64 a.Zc,i64 a.Zo1,i64 a.Zw,i64 a.To,i64 a.Code,i64 a.Zp1,i64 a.Zq1,i64 a.Zr1,i64 a.Zs1,.str a.Zt1,.sl false (L Ad a.Zu1),u64 (0:UInt64),u64 (0:UInt64)])) false]) [3,6,7,12,15,16] Aa (Ew1 q) ?_
     refine Jo (fun k=>⟨Aq 112 [(3,u64 f),(6,.ref 0 0),(7,.ref 1 0),(12,.ref 2 0),(16,.ref 3 0)],[.box [.sl false (L Ah b.Zg1.Ze),.sl false (L Al b.Zg1.Zf),.sl false (L Ab b.Zh1.Zx),.sl false (L Af b.Zh1.Zy),.sl false (L Aj b.Zh1.Zz),.sl false (L Ai b.Zh1.Za1),.sl false (L Ag b.Zi1),.sl false (L Ae b.Zj1),.sl false (L Ac b.Zk1)] false,.box [.sl false (L (cSl Ak) c.Zy1),.sl false (L An c.Zz1)] false,.box (i64 0::i64 0::(C1 u8 (Arr.rep 32 (0:UInt8)).l++[i64 0,i64 0,i64 0,i64 0,i64 0,i64 0,i64 0,i64 0,i64 0,i64 0,i64 0,i64 0,i64 0,i64 0,i64 0,.str ([]:List UInt8),.sl true (L Ad ([])),u64 (0:UInt64),u64 (0:UInt64)])) false,.box (i64 d::i64 j::(C1 u8 k.l++[i64 e,i64 a.Za,i64 a.Ref.Zb,i64 a.Ref.No,i64 a.Zn1,i64 a.Zb1,i64 a.Zc,i64 a.Zo1,i64 a.Zw,i64 a.To,i64 a.Code,i64 a.Zp1,i64 a.Zq1,i64 a.Zr1,i64 a.Zs1,.str a.Zt1,.sl false (L Ad a.Zu1),u64 (0:UInt64),u64 (0:UInt64)])) false]⟩) ?_ ?_
     ·intro ab s;refine T0 [3,6,7,12,15,16,64] ?_;refine Cd ?_ ?_
      ·refine Ck fun t =>Bd fun ac u =>Te [3,6,7,12,13,16] (o1 72 (I0 u)) (Ew1 (qR t)) ?_
       refine T0 [3,6,7,12,13,16,77] ?_;refine Cd ?_ ?_
       ·refine T0 [12,13] ?_;exact Sr <|Jr s <|Rr
       ·exact Sk <|Jn (ws [0,1,3,4])
      ·exact Sk <|Jn (ws [0,1,3,4])
     intro k;refine Bd fun ad v =>Te [3,6,7,12,13,16,17] (o1 82 (F2 v)) Ev ?_
     refine Sq <|T0 [3,6,7,12,13,16,17,86] ?_
     refine Cd ?_ ?_
     ·refine T0 [12,13] ?_;exact Sr <|Tr <|Rr
     ·refine Sk <|Tn <|Sq <|Bd fun ae w =>Te [6,7,12,13,16] (o1 92 (Q4 w)) Ev ?_
      refine T0 [6,7,12,13,16,97] ?_;refine Cd ?_ ?_
      ·refine T0 [12,13] ?_;exact Sr <|Tr <|Rr
      ·refine Sk <|Tn <|Sq <|Bd fun af x =>Te [12,13,16] (o1 104 (CZ x)) Ev ?_
       refine T0 [12,13,16,108] ?_;refine Cd ?_ ?_
       ·refine T0 [12,13] ?_;exact Sr <|Tr <|Rr
       ·refine Sk <|Tn <|T0 [12,13] ?_
        exact Sr <|Rr
theorem JQ{a b r}(h:Iq a b=some r):Con B 94 [.agg [i64 a.Za,i64 a.Ref.Zb,i64 a.Ref.No,i64 a.Zn1,i64 a.Zb1,i64 a.Zc,i64 a.Zo1,i64 a.Zw,i64 a.To,i64 a.Code,i64 a.Zp1,i64 a.Zq1,i64 a.Zr1,i64 a.Zs1,.str a.Zt1,.sl false (L Ad a.Zu1)],u8 b] [] (fun r' σ'=>r'=i64 r∧σ'=[]):=by
 refine Cw 48 [.tmp 4] Tryz.func94 (fun F hE=>?_) h;unfold Iq;refine T0 [1,2] ?_;refine Sq <|T0 [2,5] ?_
 refine Sb <|T0 [2,5,6] ?_
 refine Cd ?_ ?_
 ·refine T0 [4] ?_;exact Sr <|Br <|Tr <|Rr
 ·refine T0 [2,5,10] ?_;refine Cd ?_ ?_
  ·refine T0 [4] ?_;exact Sr <|Br <|Tr <|Rr
  ·refine T0 [2,5,14] ?_;refine Cd ?_ ?_
   ·refine T0 [4] ?_;exact Sr <|Br <|Tr <|Rr
   ·refine T0 [2,5,18] ?_;refine Cd ?_ ?_
    ·refine T0 [4] ?_;exact Sr <|Br <|Tr <|Rr
    ·refine T0 [2,5,22] ?_;refine Cd ?_ ?_
     ·refine T0 [4] ?_;exact Sr <|Br <|Tr <|Rr
     ·refine T0 [2,5,26] ?_;refine Cd ?_ ?_
      ·refine T0 [4] ?_;exact Sr <|Br <|Tr <|Rr
      ·refine T0 [2,5,30] ?_;refine Cd ?_ ?_
       ·refine T0 [4] ?_;exact Sr <|Br <|Tr <|Rr
       ·refine T0 [2,5,34] ?_;refine Cd ?_ ?_
        ·refine T0 [4] ?_;exact Sr <|Br <|Tr <|Rr
        ·refine T0 [2,5,38] ?_;refine Cd ?_ ?_
         ·refine T0 [4] ?_;exact Sr <|Br <|Tr <|Rr
         ·refine T0 [2,42] ?_;refine Cd ?_ ?_
          ·refine T0 [4] ?_;exact Sr <|Br <|Tr <|Rr
          ·refine Sk <|Bn <|Tn <|T0 [4] ?_
           exact Sr <|Rr
theorem KS{a b r}(h:En a b=some r):Con B 95 [.sl false (L Ad a),.sl false (L Ad b)] [] (fun r' σ'=>r'=.bool r∧σ'=[]):=by
 refine Cw 26 [.tmp 4] Tryz.func95 (fun F hE=>?_) h;unfold En;refine T0 [0,1] ?_;refine Sq <|T0 [0,1,10] ?_
 refine Cd ?_ ?_
 ·refine T0 [4] ?_;exact Sr <|Tr <|Rr
 ·refine Sk <|Tn <|?_
  refine Jo (fun _=>⟨Aq 26 [],[]⟩) ?_ ?_
  ·intro m f;refine T0 [0,1,5] ?_;refine Sb ?_;refine Lo (fun c=>⟨Aq 26 [(0,.sl false (L Ad a)),(1,.sl false (L Ad b)),(5,i64 c)],[]⟩) (ws []) ?_;rintro c n g d e;show Ci a b c=some g→_;unfold Ci;refine Sq <|T0 [0,1,5,14] ?_
   refine Cd ?_ ?_
   ·refine Sk <|Tn <|Sq <|Sb <|Ck fun i =>Ck fun j =>Lt fun k l =>De (fr':=[(0,_),(1,_),(5,_),(25,.bool k)]) [[],[],[0,1],[0,1,2],[],[],[4,5],[4,5,6],[0,1,2,3,4,5,6,7]] [0,1,5,25] Aa (Ew3 (qR i) (qR j) l) ?_
    refine Cd ?_ ?_
    ·refine T0 [4] ?_;exact Sr <|Br <|Tr <|Lr e d <|Br <|Jr f <|Rr
    ·refine Sk <|Bn <|Tn <|F0 [0,1,5] ?_
     exact Ln (ws [])
   ·refine Sx <|Tx <|Lx e d <|Bx <|?_
    exact Jn ((ws (l':=[]) (σ':=[]) []).trans (ws []))
  intro _;refine T0 [4] ?_;exact Sr <|Rr
theorem Sn{a b r}(h:JV a b=some r):Con B 55 [.agg [i64 a.Za,i64 a.Ref.Zb,i64 a.Ref.No,i64 a.Zn1,i64 a.Zb1,i64 a.Zc,i64 a.Zo1,i64 a.Zw,i64 a.To,i64 a.Code,i64 a.Zp1,i64 a.Zq1,i64 a.Zr1,i64 a.Zs1,.str a.Zt1,.sl false (L Ad a.Zu1)],.agg [i64 b.Za,i64 b.Ref.Zb,i64 b.Ref.No,i64 b.Zn1,i64 b.Zb1,i64 b.Zc,i64 b.Zo1,i64 b.Zw,i64 b.To,i64 b.Code,i64 b.Zp1,i64 b.Zq1,i64 b.Zr1,i64 b.Zs1,.str b.Zt1,.sl false (L Ad b.Zu1)]] [] (fun r' σ'=>r'=.bool r∧σ'=[]):=by
 refine Cw 45 [.tmp 4] Tryz.func55 (fun F hE=>?_) h;unfold JV;refine T0 [2,3] ?_;refine Jo (fun _=>⟨Aq 45 [(2,.ref 0 0),(3,.ref 1 0)],[.box [i64 a.Za,i64 a.Ref.Zb,i64 a.Ref.No,i64 a.Zn1,i64 a.Zb1,i64 a.Zc,i64 a.Zo1,i64 a.Zw,i64 a.To,i64 a.Code,i64 a.Zp1,i64 a.Zq1,i64 a.Zr1,i64 a.Zs1,.str a.Zt1,.sl false (L Ad a.Zu1)] false,.box [i64 b.Za,i64 b.Ref.Zb,i64 b.Ref.No,i64 b.Zn1,i64 b.Zb1,i64 b.Zc,i64 b.Zo1,i64 b.Zw,i64 b.To,i64 b.Code,i64 b.Zp1,i64 b.Zq1,i64 b.Zr1,i64 b.Zs1,.str b.Zt1,.sl false (L Ad b.Zu1)] false]⟩) ?_ ?_
 ·intro u o;refine T0 [2,3,5] ?_;refine Sb ?_;refine Lo (fun e=>⟨Aq 45 [(2,.ref 0 0),(3,.ref 1 0),(5,i64 e)],[.box [i64 a.Za,i64 a.Ref.Zb,i64 a.Ref.No,i64 a.Zn1,i64 a.Zb1,i64 a.Zc,i64 a.Zo1,i64 a.Zw,i64 a.To,i64 a.Code,i64 a.Zp1,i64 a.Zq1,i64 a.Zr1,i64 a.Zs1,.str a.Zt1,.sl false (L Ad a.Zu1)] false,.box [i64 b.Za,i64 b.Ref.Zb,i64 b.Ref.No,i64 b.Zn1,i64 b.Zb1,i64 b.Zc,i64 b.Zo1,i64 b.Zw,i64 b.To,i64 b.Code,i64 b.Zp1,i64 b.Zq1,i64 b.Zr1,i64 b.Zs1,.str b.Zt1,.sl false (L Ad b.Zu1)] false]⟩) (ws [0,1]) ?_;rintro e v p g i;show EI a b e=some p→_;unfold EI;refine Sq <|T0 [2,3,5,7] ?_
  refine Cd ?_ ?_
  ·refine Sk <|Tn <|Sq <|Sb <|Ck fun j =>?_
   have k:=j;simp only[Ao5,ApC,Ao7,Ape,Apr,ApG,Nat.reduceAdd]at k;refine Bd fun w q =>Ck fun l =>?_
   have m:=l;simp only[Ao5,ApC,Ao7,Ape,Apr,ApG,Nat.reduceAdd]at m;refine Bd fun x s =>De [[],[],[1],[0,1,2],[],[],[5],[0,1,2,3,4,5,6],[0,1,2,3,4,5,6,7]] [2,3,5,18] (o2 13 (JQ q) 17 (JQ s)) (Ew4 (qR j) k (qR l) m) ?_
   refine Cd ?_ ?_
   ·refine T0 [4] ?_;exact Sr <|Br <|Tr <|Lr i g <|Br <|Jr o <|Rr
   ·refine Sk <|Bn <|Tn <|F0 [2,3,5] ?_
    exact Ln (ws [0,1])
  ·refine Sx <|Tx <|Lx i g <|Bx <|?_
   exact Jn ((ws (l':=[(2,.ref 0 0),(3,.ref 1 0)]) (σ':=[.box [i64 a.Za,i64 a.Ref.Zb,i64 a.Ref.No,i64 a.Zn1,i64 a.Zb1,i64 a.Zc,i64 a.Zo1,i64 a.Zw,i64 a.To,i64 a.Code,i64 a.Zp1,i64 a.Zq1,i64 a.Zr1,i64 a.Zs1,.str a.Zt1,.sl false (L Ad a.Zu1)] false,.box [i64 b.Za,i64 b.Ref.Zb,i64 b.Ref.No,i64 b.Zn1,i64 b.Zb1,i64 b.Zc,i64 b.Zo1,i64 b.Zw,i64 b.To,i64 b.Code,i64 b.Zp1,i64 b.Zq1,i64 b.Zr1,i64 b.Zs1,.str b.Zt1,.sl false (L Ad b.Zu1)] false]) [0,1]).trans (ws [0,1]))
 intro _;refine Tw [4] (fun n=>⟨Aq 45 [(4,.bool n)],[]⟩) ?_ ?_
 ·intro _;refine Sp (fun c=>?_) fun c=>?_
  ·refine Sp (fun d=>?_) fun d=>?_
   ·refine Sp (fun f=>?_) fun f=>?_
    ·refine Bd fun y t=>?_
     exact Lf (o1 43 (KS t)) (Ew3 c d f) (ws [])
    ·exact Lf Aa (Ew3 c d f) (ws [])
   ·exact Lf Aa (Ew2 c d) (ws [])
  ·exact Lf Aa (Ew1 c) (ws [])
 intro n;exact Sr <|Rr
theorem Bl{a b r}(h:Bf a b=some r):Con B 19 [.agg (i64 a.Zb::i64 a.No::(C1 u8 a.Zv1.l++[i64 a.Zw1,i64 a.Zx1.Za,i64 a.Zx1.Ref.Zb,i64 a.Zx1.Ref.No,i64 a.Zx1.Zn1,i64 a.Zx1.Zb1,i64 a.Zx1.Zc,i64 a.Zx1.Zo1,i64 a.Zx1.Zw,i64 a.Zx1.To,i64 a.Zx1.Code,i64 a.Zx1.Zp1,i64 a.Zx1.Zq1,i64 a.Zx1.Zr1,i64 a.Zx1.Zs1,.str a.Zx1.Zt1,.sl false (L Ad a.Zx1.Zu1),u64 a.Sig.C,u64 a.Sig.S])),.agg (i64 b.Zb::i64 b.No::(C1 u8 b.Zv1.l++[i64 b.Zw1,i64 b.Zx1.Za,i64 b.Zx1.Ref.Zb,i64 b.Zx1.Ref.No,i64 b.Zx1.Zn1,i64 b.Zx1.Zb1,i64 b.Zx1.Zc,i64 b.Zx1.Zo1,i64 b.Zx1.Zw,i64 b.Zx1.To,i64 b.Zx1.Code,i64 b.Zx1.Zp1,i64 b.Zx1.Zq1,i64 b.Zx1.Zr1,i64 b.Zx1.Zs1,.str b.Zx1.Zt1,.sl false (L Ad b.Zx1.Zu1),u64 b.Sig.C,u64 b.Sig.S]))] [] (fun r' σ'=>r'=.bool r∧σ'=[]):=by
 refine Cw 45 [.tmp 4] Tryz.func19 (fun F hE=>?_) h;unfold Bf;refine T0 [2,3] ?_;refine Tw [4] (fun i=>⟨Aq 45 [(4,.bool i)],[]⟩) ?_ ?_
 ·intro _;refine Sp (fun c=>?_) fun c=>?_
  ·refine Sp (fun d=>?_) fun d=>?_
   ·refine Sp (fun e=>?_) fun e=>?_
    ·refine Sp (fun f=>?_) fun f=>?_
     ·refine Sp (fun g=>?_) fun g=>?_
      ·refine Bd fun k j=>?_
       exact Lf (o1 43 (Sn j)) (Ew5 c d e f g) (ws [])
      ·exact Lf Aa (Ew5 c d e f g) (ws [])
     ·exact Lf Aa (Ew4 c d e f) (ws [])
    ·exact Lf Aa (Ew3 c d e) (ws [])
   ·exact Lf Aa (Ew2 c d) (ws [])
  ·exact Lf Aa (Ew1 c) (ws [])
 intro i;exact Sr <|Rr
theorem Og{a b r}(h:Jz a b=some r):Con B 16 [.sl false (L Ak a),.sl false (L Ak b)] [] (fun r' σ'=>r'=.bool r∧σ'=[]):=by
 refine Cw 27 [.tmp 4] Tryz.func16 (fun F hE=>?_) h;unfold Jz;refine T0 [0,1] ?_;refine Sq <|T0 [0,1,10] ?_
 refine Cd ?_ ?_
 ·refine T0 [4] ?_;exact Sr <|Tr <|Rr
 ·refine Sk <|Tn <|?_
  refine Jo (fun _=>⟨Aq 27 [],[]⟩) ?_ ?_
  ·intro l f;refine T0 [0,1,5] ?_;refine Sb ?_;refine Lo (fun c=>⟨Aq 27 [(0,.sl false (L Ak a)),(1,.sl false (L Ak b)),(5,i64 c)],[]⟩) (ws []) ?_;rintro c m g d e;show G0 a b c=some g→_;unfold G0;refine Sq <|T0 [0,1,5,14] ?_
   refine Cd ?_ ?_
   ·refine Sk <|Tn <|Sq <|Sb <|Ck fun i =>Ck fun j =>Bd fun n k =>De [[],[],[0,1],[0,1,2],[],[],[4,5],[4,5,6],[0,1,2,3,4,5,6,7],[0,1,2,3,4,5,6,7,8]] [0,1,5,26] (o1 25 (Bl k)) (Ew2 (qR i) (qR j)) ?_
    refine Cd ?_ ?_
    ·refine T0 [4] ?_;exact Sr <|Br <|Tr <|Lr e d <|Br <|Jr f <|Rr
    ·refine Sk <|Bn <|Tn <|F0 [0,1,5] ?_
     exact Ln (ws [])
   ·refine Sx <|Tx <|Lx e d <|Bx <|?_
    exact Jn ((ws (l':=[]) (σ':=[]) []).trans (ws []))
  intro _;refine T0 [4] ?_;exact Sr <|Rr
theorem L2{a b r}(h:Kk a b=some r):Con B 12 [.agg [.sl false (L (cSl Ak) a.Zy1),.sl false (L An a.Zz1)],.agg [.sl false (L (cSl Ak) b.Zy1),.sl false (L An b.Zz1)]] [] (fun r' σ'=>r'=.bool r∧σ'=[]):=by
 refine Cw 79 [.tmp 4] Tryz.func12 (fun F hE=>?_) h;unfold Kk;refine T0 [2,3] ?_;refine Sq ?_;refine Tw [2,3,22] (fun g=>⟨Aq 79 [(2,.ref 0 0),(3,.ref 1 0),(22,.bool g)],[.box [.sl false (L (cSl Ak) a.Zy1),.sl false (L An a.Zz1)] false,.box [.sl false (L (cSl Ak) b.Zy1),.sl false (L An b.Zz1)] false]⟩) ?_ ?_
 ·intro _;refine Sp (fun d=>?_) fun d=>?_
  ·exact Lf Aa (Ew1 d) (ws [0,1])
  ·exact Lf Aa (Ew1 d) (ws [0,1])
 intro g;refine Cd ?_ ?_
 ·refine T0 [4] ?_;exact Sr <|Tr <|Rr
 ·refine Sk <|Tn <|?_
  refine Jo (fun _=>⟨Aq 79 [(2,.ref 0 0),(3,.ref 1 0)],[.box [.sl false (L (cSl Ak) a.Zy1),.sl false (L An a.Zz1)] false,.box [.sl false (L (cSl Ak) b.Zy1),.sl false (L An b.Zz1)] false]⟩) ?_ ?_
  ·intro ab q;refine T0 [2,3,5] ?_;refine Sb ?_;refine Lo (fun e=>⟨Aq 79 [(2,.ref 0 0),(3,.ref 1 0),(5,i64 e)],[.box [.sl false (L (cSl Ak) a.Zy1),.sl false (L An a.Zz1)] false,.box [.sl false (L (cSl Ak) b.Zy1),.sl false (L An b.Zz1)] false]⟩) (ws [0,1]) ?_;rintro e ac s i j;show J7 a b e=some s→_;unfold J7;refine Sq <|T0 [2,3,5,27] ?_
   refine Cd ?_ ?_
   ·refine Sk <|Tn <|Sq <|Sb <|Ck fun t =>Ck fun u =>Bd fun ad v =>De [[],[0],[],[0,1,2],[0,1,2,3],[],[5],[],[5,6,7],[5,6,7,8],[0,1,2,3,4,5,6,7,8,9],[0,1,2,3,4,5,6,7,8,9,10]] [2,3,5,41] (o1 40 (Og v)) (Ew2 (qR t) (qR u)) ?_
    refine Cd ?_ ?_
    ·refine T0 [4] ?_;exact Sr <|Br <|Tr <|Lr j i <|Br <|Jr q <|Rr
    ·refine Sk <|Bn <|Tn <|F0 [2,3,5] ?_
     exact Ln (ws [0,1])
   ·refine Sx <|Tx <|Lx j i <|Bx <|?_
    exact Jn ((ws (l':=[(2,.ref 0 0),(3,.ref 1 0)]) (σ':=[.box [.sl false (L (cSl Ak) a.Zy1),.sl false (L An a.Zz1)] false,.box [.sl false (L (cSl Ak) b.Zy1),.sl false (L An b.Zz1)] false]) [0,1]).trans (ws [0,1]))
  intro _;refine Jo (fun _=>⟨Aq 79 [],[]⟩) ?_ ?_
  ·intro ae w;refine T0 [2,3,6] ?_;refine Sb ?_;refine Lo (fun c=>⟨Aq 79 [(2,.ref 0 0),(3,.ref 1 0),(6,i64 c)],[.box [.sl false (L (cSl Ak) a.Zy1),.sl false (L An a.Zz1)] false,.box [.sl false (L (cSl Ak) b.Zy1),.sl false (L An b.Zz1)] false]⟩) (ws [0,1]) ?_;rintro c af x k l;show JJ a b c=some x→_;unfold JJ;refine Sq <|T0 [2,3,6,46] ?_
   refine Cd ?_ ?_
   ·refine Sk <|Tn <|Sq <|Sb <|?_
    refine Dw [[],[0],[],[0,1,2],[0,1,2,3],[0,1,2,3,4],[],[6],[],[6,7,8],[6,7,8,9],[6,7,8,9,10],[0,1,2,3,4,5,6,7,8,9,10,11],[0,1,2,3,4,5,6,7,8,9,10,11,12],[0,1,2,3,4,5,6,7,8,9,10,11,12,13],[0,1,2,3,4,5,6,7,8,9,10,11,12,13,14],[0,1,2,3,4,5,6,7,8,9,10,11,12,13,14,15],[0,1,2,3,4,5,6,7,8,9,10,11,12,13,14],[0,1,2,3,4,5,6,7,8,9,10,11,12,13,14,15,16,17],[0,1,2,3,4,5,6,7,8,9,10,11,12,13,14,15,16,17,18],[0,1,2,3,4,5,6,7,8,9,10,11,12,13,14,15,16,17,18,19],[0,1,2,3,4,5,6,7,8,9,10,11,12,13,14],[0,1,2,3,4,5,6,7,8,9,10,11,12,13,14,21],[0,1,2,3,4,5,6,7,8,9,10,11,12,13,14],[0,1,2,3,4,5,6,7,8,9,10,11,12,13,14,21,22,23],[0,1,2,3,4,5,6,7,8,9,10,11,12,13,14,21,22,23,24],[0,1,2,3,4,5,6,7,8,9,10,11,12,13,14,21,22,23,24,25],[0,1,2,3,4,5,6,7,8,9,10,11,12,13,14,15,16,17,18,19,20,21,22,23,24,25,26],[0,1,2,3,4,5,6,7,8,9,10,11,12,13,14,15,16,17,18,19,20,21,22,23,24,25,26,27],[0,1,2,3,4,5,6,7,8,9,10,11,12,13,14,15,16,17,18,19,20,21,22,23,24,25,26,27,28]] [2,3,6,78] (fun m=>⟨Aq 79 [(2,.ref 0 0),(3,.ref 1 0),(6,i64 c),(78,.bool m)],[.box [.sl false (L (cSl Ak) a.Zy1),.sl false (L An a.Zz1)] false,.box [.sl false (L (cSl Ak) b.Zy1),.sl false (L An b.Zz1)] false]⟩) ?_ ?_
    ·intro _;refine Ck fun n =>Ck fun o =>Bd fun ag p =>?_
     refine Sp (fun f=>?_) fun f=>?_
     ·exact Lf (o1 61 (Bl p)) (Ew3 (qR n) (qR o) f) (ws [0,1])
     ·refine Ck fun y =>Ck fun z =>Bd fun ah aa =>?_
      exact Lf (o2 61 (Bl p) 76 (Bl aa)) (Ew5 (qR n) (qR o) f (qR y) (qR z)) (ws [0,1])
    intro m;refine Cd ?_ ?_
    ·refine T0 [4] ?_;exact Sr <|Br <|Tr <|Lr l k <|Br <|Jr w <|Rr
    ·refine Sk <|Bn <|Tn <|F0 [2,3,6] ?_
     exact Ln (ws [0,1])
   ·refine Sx <|Tx <|Lx l k <|Bx <|?_
    exact Jn ((ws (l':=[]) (σ':=[]) []).trans (ws []))
  intro _;refine T0 [4] ?_;exact Sr <|Rr
theorem BL{a b r}(h:CG a b=some r):Con B 23 [.agg [.sl false (L (cSl Ak) a.Zy1),.sl false (L An a.Zz1)],i64 b] [] (fun r' σ'=>r'=i64 r∧σ'=[]):=by
 refine Cw 41 [.tmp 4] Tryz.func23 (fun F hE=>?_) h;unfold CG;refine T0 [1,2,4] ?_;refine Ja (fun i=>⟨Aq 41 [(4,i64 i)],[]⟩) ?_ ?_
 ·intro bu;refine T0 [1,4,8,9,10] ?_;refine Sb ?_;refine Lo (fun(v:Int×Int)=>(⟨Aq 41 [(1,i64 b),(4,i64 v.1),(8,.sl false (L An a.Zz1)),(9,i64 (a.Zz1.length:Int)),(10,i64 v.2)],[]⟩:St)) (ws []) ?_;rintro⟨e,f⟩ bv aI aJ aK;show GF a b e f=some aI→_;unfold GF;refine T0 [1,4,8,9,10,11] ?_;refine Sq <|Cd ?_ ?_
  ·refine Sk <|Tn <|?_
   refine Ja (fun j=>⟨Aq 41 [(1,i64 b),(4,i64 j),(8,.sl false (L An a.Zz1)),(9,i64 (a.Zz1.length:Int)),(10,i64 f)],[]⟩) ?_ ?_
   ·intro bw;refine Sb <|Ck fun aL =>Lt fun k aM =>Lt fun m aN =>Lt fun n aO =>Lt fun o aP =>Lt fun p aQ =>Lt fun q aR =>Lt fun s aS =>Lt fun t aT =>Lt fun u aU =>Lt fun w aV =>Lt fun x aW =>Lt fun y aX =>Lt fun z aY =>Lt fun aa aZ =>Lt fun ab a0 =>Lt fun ac a1 =>Lt fun ad a2 =>Lt fun ae a3 =>Lt fun af a4 =>Lt fun ag a5 =>Lt fun ah a6 =>Lt fun ai a7 =>Lt fun aj a8 =>Lt fun ak a9 =>Lt fun al ba =>Lt fun am bb =>Lt fun an bc =>Lt fun ao bd =>Lt fun ap be =>Lt fun aq bf =>Lt fun ar bg =>Lt fun au bh =>Lt fun av bi =>Lt fun aw bj =>Lt fun ax bk =>Lt fun ay bl =>Lt fun az bm =>Lt fun aA bn =>Lt fun aB bo =>Lt fun aC bp =>Lt fun aD bq =>Lt fun aE br =>Lt fun aF bs =>Lt fun aG bt =>Te (σ':=[.box (i64 k::i64 m::(C1 u8 n.l++i64 o::i64 p::i64 q::i64 s::i64 t::i64 u::i64 w::i64 x::i64 y::i64 z::i64 aa::i64 ab::i64 ac::i64 ad::i64 ae::.str af::.sl false (L Ad ag)::u64 ah::u64 ai::i64 aj::i64 ak::(C1 u8 al.l++[i64 am,i64 an,i64 ao,i64 ap,i64 aq,i64 ar,i64 au,i64 av,i64 aw,i64 ax,i64 ay,i64 az,i64 aA,i64 aB,i64 aC,.str aD,.sl false (L Ad aE),u64 aF,u64 aG]))) false]) [1,4,6,8,9,10] Aa (Ev (by simp only[go_sem,qR aL,aM,aN,aO,aP,aQ,aR,aS,aT,aU,aV,aW,aX,aY,aZ,a0,a1,a2,a3,a4,a5,a6,a7,a8,a9,ba,bb,bc,bd,be,bf,bg,bh,bi,bj,bk,bl,bm,bn,bo,bp,bq,br,bs,bt];exact AK)) ?_
    refine Tw [1,4,6,8,9,10,35] (fun aH=>⟨Aq 41 [(1,i64 b),(4,i64 e),(6,.ref 0 0),(8,.sl false (L An a.Zz1)),(9,i64 (a.Zz1.length:Int)),(10,i64 f),(35,.bool aH)],[.box (i64 k::i64 m::(C1 u8 n.l++i64 o::i64 p::i64 q::i64 s::i64 t::i64 u::i64 w::i64 x::i64 y::i64 z::i64 aa::i64 ab::i64 ac::i64 ad::i64 ae::.str af::.sl false (L Ad ag)::u64 ah::u64 ai::i64 aj::i64 ak::(C1 u8 al.l++[i64 am,i64 an,i64 ao,i64 ap,i64 aq,i64 ar,i64 au,i64 av,i64 aw,i64 ax,i64 ay,i64 az,i64 aA,i64 aB,i64 aC,.str aD,.sl false (L Ad aE),u64 aF,u64 aG]))) false]⟩) ?_ ?_
    ·intro _;refine Sp (fun c=>?_) fun c=>?_
     ·refine Sp (fun d=>?_) fun d=>?_
      ·refine Sp (fun g=>?_) fun g=>?_
       ·exact Lf Aa (Ew3 c d g) (ws [0])
       ·exact Lf Aa (Ew3 c d g) (ws [0])
      ·exact Lf Aa (Ew2 c d) (ws [0])
     ·exact Lf Aa (Ew1 c) (ws [0])
    intro aH;refine Cd ?_ ?_
    ·refine F0 [1,4,8,9,10] ?_;exact Bn <|Jm (ws [])
    ·exact Sk <|Bn <|Jm (ws [])
   intro j;refine F0 [1,4,8,9,10] ?_;exact Ln (ws [])
  ·refine Sx <|Tx <|Ly aK aJ <|Bx <|?_
   exact Jm ((ws (l':=[(4,i64 e)]) (σ':=[]) []).trans (ws []))
 intro i;refine T0 [4] ?_;exact Sr <|Rr
theorem LL{a r}(h:I9 a=some r):Con B 61 [.agg [.sl false (L (cSl Ak) a.Zy1),.sl false (L An a.Zz1)]] [] (fun r' σ'=>r'=.agg [.sl false (L (cSl Ak) r.Zy1),.sl false (L An r.Zz1)]∧σ'=[]):=by
 refine Cw 34 [.cell 2 40] Tryz.func61 (fun F hE=>?_) h;unfold I9;refine T0 [1,2] ?_;refine Ja (fun c=>⟨Aq 34 [(2,.ref 0 0)],[.box [.bs false 1 (c.length) 0 (c.length),.sl true (L An ([]))] false,.buf 1 (L (cSl Ak) c) false]⟩) ?_ ?_
 ·intro u;refine T0 [1,2,7,8,9] ?_;refine Sb ?_;refine Lo (fun(v:Int×List (List AoD))=>(⟨Aq 34 [(1,.ref 0 0),(2,.ref 1 0),(7,.sl false (L (cSl Ak) a.Zy1)),(8,i64 (a.Zy1.length:Int)),(9,i64 v.1)],[.box [.sl false (L (cSl Ak) a.Zy1),.sl false (L An a.Zz1)] false,.box [.bs false 2 (v.2.length) 0 (v.2.length),.sl true (L An ([]))] false,.buf 1 (L (cSl Ak) v.2) false]⟩:St)) ((Du 1 0 1 rfl rfl).trans (ws [0,1,2])) ?_;rintro⟨e,b⟩ w g i j;show FN a e b=some g→_;unfold FN;refine T0 [1,2,7,8,9,10] ?_;refine Sq <|Cd ?_ ?_
  ·refine Sk <|Tn <|Sq <|Sb <|Ck fun k =>Lt fun l m =>Te (fr':=[(1,_),(2,_),(3,_),(4,.sl false (L Ak l)),(7,_),(8,_),(9,_)]) [1,2,3,4,7,8,9] Aa (Ew2 (qR k) m) ?_
   refine Ja (fun f=>⟨Aq 34 [(1,.ref 0 0),(2,.ref 1 0),(4,.sl false (L Ak f)),(7,.sl false (L (cSl Ak) a.Zy1)),(8,i64 (a.Zy1.length:Int)),(9,i64 e)],[.box [.sl false (L (cSl Ak) a.Zy1),.sl false (L An a.Zz1)] false,.box [.bs false 2 (b.length) 0 (b.length),.sl true (L An ([]))] false,.buf 1 (L (cSl Ak) b) false]⟩) ?_ ?_
   ·intro x;refine Bd fun y n =>Te [1,2,4,5,7,8,9] (o1 16 (BL n)) Ev ?_
    refine T0 [1,2,4,5,7,8,9,18] ?_;refine Cd ?_ ?_
    ·refine Ck fun o =>Lt fun p q =>Fe (fr':=[(1,_),(2,_),(4,.sl false (L Ak p)),(7,_),(8,_),(9,_)]) [1,2,4,7,8,9] Aa (Ew2 o q) ?_
     exact Jm (ws [0,1,2])
    ·exact Sk <|Jm (ws [0,1,2])
   intro f;refine Ck fun s =>Lt fun d t =>Fe (σ':=[_,.box [.bs false 2 (d.length) 0 (d.length),.sl true (L An ([]))] false,.buf 1 (L (cSl Ak) d) false,_]) [1,2,7,8,9] Aa (Ew2 s t) ?_
   refine Bn <|Tn <|F0 [1,2,7,8,9] ?_
   exact Ln (ws [0,1,2])
  ·refine Sx <|Tx <|Ly j i <|Bx <|?_
   exact Jm ((ws (l':=[(2,.ref 0 0)]) (σ':=[.box [.bs false 1 (b.length) 0 (b.length),.sl true (L An ([]))] false,.buf 1 (L (cSl Ak) b) false]) [1,2]).trans (ws [0,1]))
 intro c;refine T0 [2] ?_;exact Sr <|Rr
theorem LA{a r}(h:Mb a=some r):Con B 62 [.agg [.sl false (L (cSl Ak) a.Zy1),.sl false (L An a.Zz1)]] [] (fun r' σ'=>r'=.fn 100 [.ref 0 0]∧σ'=[.box [.sl false (L (cSl Ak) r.Zy1),.sl false (L An r.Zz1)] false]):=by
 refine Co 0 4 [.tmp 2] Tryz.func62 (fun F hE=>?_) h;unfold Mb;refine T0 [1] ?_;refine T0 [2] ?_;exact Sr <|Ro [0]
theorem AeA{F:Out}{σ:Am}{id:Nat}{a b:Int}{x:AV}:Td (B.env F) σ 138 (.mref id) (.agg [i64 a,i64 b]) x=(if RZ a b then(match σ[id]? with
 |some (.mp es)=>if x.closed=true then some (σ.set id (.mp (LH es (a,b) x)))else none
 |_=>none)else none):=Aah rfl rfl
attribute [local go_sem] AeA
theorem CL{j r}(h:Bw j=some r):Con B 24 [.agg [.sl false (L (cSl Ak) j.Zy1),.sl false (L An j.Zz1)]] [] (fun r' σ'=>r'=.sl false (L A5 r)∧σ'=[]):=by
 refine Cm 78 [.cell 2 85] Tryz.func24 (fun F b_ hE=>?_) h;unfold Bw;refine T0 [1,2] ?_;refine Bd fun c aq =>Te [2,3] (o1 14 (LL aq)) Ev ?_
 refine T0 [2,3,4] ?_;refine T0 [2,3,4,5] ?_;refine Sq <|Bd fun e ar =>Te [2,3,4,5,17] (Ap (l:=[]) (m:=[(17,62,[.agg [.sl false (L (cSl Ak) c.Zy1),.sl false (L An c.Zz1)]],[.box [.sl false (L (cSl Ak) j.Zy1),.sl false (L An j.Zz1)] false,.box [.sl true (L A5 ([]))] false,.box [.sl false (L (cSl Ak) c.Zy1),.sl false (L An c.Zz1)] false,.box [i64 0,i64 0] false,.mp (M2 Ed ([])),.box [.mref 4] false],_,_)]) trivial ⟨(wc (LA ar) []),trivial⟩) Ev ?_
 refine Sb ?_;refine Rw (ws (l':=[(2,.ref 0 0),(3,.ref 1 0),(4,.ref 2 0),(5,.ref 3 0),(17,.fn 100 [.ref 4 0])]) (σ':=[.box [.sl true (L A5 ([]))] false,.box [.sl false (L (cSl Ak) c.Zy1),.sl false (L An c.Zz1)] false,.box [i64 0,i64 0] false,.box [.mref 5] false,.box [.sl false (L (cSl Ak) e.Zy1),.sl false (L An e.Zz1)] false,.mp (M2 Ed ([]))]) [1,2,3,5,6,4]) ?_;refine Bd ?_;rintro g hx_x_9418 hP_x_9418;refine Ra (fun(v:List ((Int×Int)×AoI))=>[.box [.sl true (L A5 ([]))] false,.box [.sl false (L (cSl Ak) c.Zy1),.sl false (L An c.Zz1)] false,.box [i64 0,i64 0] false,.box [.mref 5] false,.box [.sl false (L (cSl Ak) e.Zy1),.sl false (L An e.Zz1)] false,.mp (M2 Ed v)]) [(4,.ref 2 0),(5,.ref 3 0)] 6 [.box [.sl true (L A5 ([]))] false,.box [.sl false (L (cSl Ak) c.Zy1),.sl false (L An c.Zz1)] false,.box [i64 0,i64 0] false,.box [.mref 5] false,.box [.sl false (L (cSl Ak) e.Zy1),.sl false (L An e.Zz1)] false,.mp (M2 Ed ([]))] [.box [.sl true (L A5 ([]))] false,.box [.sl false (L (cSl Ak) c.Zy1),.sl false (L An c.Zz1)] false,.box [i64 0,i64 0] false,.box [.mref 5] false,.box [.sl false (L (cSl Ak) e.Zy1),.sl false (L An e.Zz1)] false,.mp (M2 Ed g),.gone] ?_ ?_ hx_x_9418 (⟨⟨by decide,rfl⟩,⟨by decide,rfl⟩,trivial⟩)
 ·intro lp_ ac_ bd_;rintro g k n a v_;show FY g k n a=some v_→Run _ _ _ ⟨Aq 78 [(19,.agg (i64 a.Zb::i64 a.No::(C1 u8 a.Zv1.l++[i64 a.Zw1,i64 a.Zx1.Za,i64 a.Zx1.Ref.Zb,i64 a.Zx1.Ref.No,i64 a.Zx1.Zn1,i64 a.Zx1.Zb1,i64 a.Zx1.Zc,i64 a.Zx1.Zo1,i64 a.Zx1.Zw,i64 a.Zx1.To,i64 a.Zx1.Code,i64 a.Zx1.Zp1,i64 a.Zx1.Zq1,i64 a.Zx1.Zr1,i64 a.Zx1.Zs1,.str a.Zx1.Zt1,.sl false (L Ad a.Zx1.Zu1),u64 a.Sig.C,u64 a.Sig.S]))),(18,.agg [i64 k,i64 n]),(4,.ref 2 0),(5,.ref 3 0)],[.box [.sl true (L A5 ([]))] false,.box [.sl false (L (cSl Ak) c.Zy1),.sl false (L An c.Zz1)] false,.box [i64 0,i64 0] false,.box [.mref 5] false,.box [.sl false (L (cSl Ak) e.Zy1),.sl false (L An e.Zz1)] false,.mp (M2 Ed g),.lp false 78 [(4,.ref 2 0),(5,.ref 3 0)] #[18,19] ac_ bd_,.box (i64 a.Zb::i64 a.No::(C1 u8 a.Zv1.l++[i64 a.Zw1,i64 a.Zx1.Za,i64 a.Zx1.Ref.Zb,i64 a.Zx1.Ref.No,i64 a.Zx1.Zn1,i64 a.Zx1.Zb1,i64 a.Zx1.Zc,i64 a.Zx1.Zo1,i64 a.Zx1.Zw,i64 a.Zx1.To,i64 a.Zx1.Code,i64 a.Zx1.Zp1,i64 a.Zx1.Zq1,i64 a.Zx1.Zr1,i64 a.Zx1.Zs1,.str a.Zx1.Zt1,.sl false (L Ad a.Zx1.Zu1),u64 a.Sig.C,u64 a.Sig.S])) false]⟩ _;have hE:=ok.env { F:=F,rd:=some lp_ };unfold FY;refine T0 [4,5,6,19] ?_;refine F0 [4,5,6,7] ?_;refine Wp (Weak.refl _ _) ?_;refine Yb (N':=0) [.box [.sl true (L A5 ([]))] false,.box [.sl false (L (cSl Ak) c.Zy1),.sl false (L An c.Zz1)] false,.box [i64 0,i64 0] false,.box [.mref 5] false,.box [.sl false (L (cSl Ak) e.Zy1),.sl false (L An e.Zz1)] false,.mp (M2 Ed g),.lp true 78 [(4,.ref 2 0),(5,.ref 3 0)] #[18,19] ac_ bd_,.box (i64 a.Zb::i64 a.No::(C1 u8 a.Zv1.l++[i64 a.Zw1,i64 a.Zx1.Za,i64 a.Zx1.Ref.Zb,i64 a.Zx1.Ref.No,i64 a.Zx1.Zn1,i64 a.Zx1.Zb1,i64 a.Zx1.Zc,i64 a.Zx1.Zo1,i64 a.Zx1.Zw,i64 a.Zx1.To,i64 a.Zx1.Code,i64 a.Zx1.Zp1,i64 a.Zx1.Zq1,i64 a.Zx1.Zr1,i64 a.Zx1.Zs1,.str a.Zx1.Zt1,.sl false (L Ad a.Zx1.Zu1),u64 a.Sig.C,u64 a.Sig.S])) false,.box [i64 k,i64 n] false,.box (i64 a.Zb::i64 a.No::(C1 u8 a.Zv1.l++[i64 a.Zw1,i64 a.Zx1.Za,i64 a.Zx1.Ref.Zb,i64 a.Zx1.Ref.No,i64 a.Zx1.Zn1,i64 a.Zx1.Zb1,i64 a.Zx1.Zc,i64 a.Zx1.Zo1,i64 a.Zx1.Zw,i64 a.Zx1.To,i64 a.Zx1.Code,i64 a.Zx1.Zp1,i64 a.Zx1.Zq1,i64 a.Zx1.Zr1,i64 a.Zx1.Zs1,.str a.Zx1.Zt1,.sl false (L Ad a.Zx1.Zu1),u64 a.Sig.C,u64 a.Sig.S])) false] ?_;refine Sb <|T0 [4,5,6,7,8] ?_
  refine Tw [5,6,7,8,32] (fun s=>⟨Aq 78 [(5,.ref 3 0),(6,.ref 7 0),(7,.ref 8 0),(8,.ref 9 0),(32,.bool s)],[.box [.sl true (L A5 ([]))] false,.box [.sl false (L (cSl Ak) c.Zy1),.sl false (L An c.Zz1)] false,.box [i64 0,i64 0] false,.box [.mref 5] false,.box [.sl false (L (cSl Ak) e.Zy1),.sl false (L An e.Zz1)] false,.mp (M2 Ed g),.lp true 78 [(4,.ref 2 0),(5,.ref 3 0)] #[18,19] ac_ bd_,.box [i64 k,i64 n] false,.box (i64 a.Zb::i64 a.No::(C1 u8 a.Zv1.l++[i64 a.Zw1,i64 a.Zx1.Za,i64 a.Zx1.Ref.Zb,i64 a.Zx1.Ref.No,i64 a.Zx1.Zn1,i64 a.Zx1.Zb1,i64 a.Zx1.Zc,i64 a.Zx1.Zo1,i64 a.Zx1.Zw,i64 a.Zx1.To,i64 a.Zx1.Code,i64 a.Zx1.Zp1,i64 a.Zx1.Zq1,i64 a.Zx1.Zr1,i64 a.Zx1.Zs1,.str a.Zx1.Zt1,.sl false (L Ad a.Zx1.Zu1),u64 a.Sig.C,u64 a.Sig.S])) false,.box [i64 a.Zx1.Ref.Zb,i64 a.Zx1.Ref.No] false]⟩) ?_ ?_
  ·intro _;refine Sp (fun o=>?_) fun o=>?_
   ·exact Lf Aa (Ew1 o) (ws [0,1,2,3,4,5,6,8,9,10])
   ·exact Lf Aa (Ew1 o) (ws [0,1,2,3,4,5,6,8,9,10])
  intro s;refine Cd ?_ ?_
  ·refine Ck fun au =>Lt fun t av =>Fe (σ':=[_,_,_,_,_,.mp (M2 Ed t),_,_,_,_]) [] Aa (Ew2 au av) ?_
   refine Bn ?_;refine Wp (ws (l':=[]) (σ':=[.box [.sl true (L A5 ([]))] false,.box [.sl false (L (cSl Ak) c.Zy1),.sl false (L An c.Zz1)] false,.box [i64 0,i64 0] false,.box [.mref 5] false,.box [.sl false (L (cSl Ak) e.Zy1),.sl false (L An e.Zz1)] false,.mp (M2 Ed t),.lp true 78 [(4,.ref 2 0),(5,.ref 3 0)] #[18,19] ac_ bd_]) [0,1,2,3,4,5,6]) ?_;exact Yf
  ·refine Sk <|Bn <|?_
   refine Wp (ws (l':=[]) (σ':=[.box [.sl true (L A5 ([]))] false,.box [.sl false (L (cSl Ak) c.Zy1),.sl false (L An c.Zz1)] false,.box [i64 0,i64 0] false,.box [.mref 5] false,.box [.sl false (L (cSl Ak) e.Zy1),.sl false (L An e.Zz1)] false,.mp (M2 Ed g),.lp true 78 [(4,.ref 2 0),(5,.ref 3 0)] #[18,19] ac_ bd_]) [0,1,2,3,4,5,6]) ?_;exact Yf
 ·revert hP_x_9418;refine Bn <|Tn <|?_
  refine Rw (ws (l':=[(2,.ref 0 0),(3,.ref 1 0),(4,.ref 2 0),(5,.ref 3 0)]) (σ':=[.box [.sl true (L A5 ([]))] false,.box [.sl false (L (cSl Ak) c.Zy1),.sl false (L An c.Zz1)] false,.box [i64 0,i64 0] false,.box [.mref 5] false,.box [.sl false (L (cSl Ak) e.Zy1),.sl false (L An e.Zz1)] false,.mp (M2 Ed g)]) [0,1,2,3,4,5]) ?_;refine Sq <|Bd fun f aw =>Te [2,4,5,43] (Ap (l:=[]) (m:=[(43,62,[.agg [.sl false (L (cSl Ak) c.Zy1),.sl false (L An c.Zz1)]],[.box [.sl true (L A5 ([]))] false,.box [.sl false (L (cSl Ak) c.Zy1),.sl false (L An c.Zz1)] false,.box [i64 0,i64 0] false,.box [.mref 5] false,.box [.sl false (L (cSl Ak) e.Zy1),.sl false (L An e.Zz1)] false,.mp (M2 Ed g)],_,_)]) trivial ⟨(wc (LA aw) []),trivial⟩) Ev ?_
  refine Sb ?_;refine Rw ((Du 0 0 21 rfl rfl).trans (ws (l':=[(2,.ref 0 0),(4,.ref 1 0),(5,.ref 2 0),(43,.fn 100 [.ref 3 0])]) (σ':=[.box [.bs false 4 (([]:List AoI).length) 0 (([]:List AoI).length)] false,.box [i64 0,i64 0] false,.box [.mref 5] false,.box [.sl false (L (cSl Ak) f.Zy1),.sl false (L An f.Zz1)] false,.buf 21 (L A5 ([])) false,.mp (M2 Ed g)]) [0,2,3,6,7,5])) ?_;refine Bd ?_;rintro d hx_x_9587 hP_x_9587;refine Ra (fun(v:List AoI)=>[.box [.bs false 4 (v.length) 0 (v.length)] false,.box [i64 0,i64 0] false,.box [.mref 5] false,.box [.sl false (L (cSl Ak) f.Zy1),.sl false (L An f.Zz1)] false,.buf 21 (L A5 v) false,.mp (M2 Ed g)]) [(2,.ref 0 0),(4,.ref 1 0),(5,.ref 2 0)] 6 [.box [.bs false 4 (([]:List AoI).length) 0 (([]:List AoI).length)] false,.box [i64 0,i64 0] false,.box [.mref 5] false,.box [.sl false (L (cSl Ak) f.Zy1),.sl false (L An f.Zz1)] false,.buf 21 (L A5 ([])) false,.mp (M2 Ed g)] [.box [.bs false 4 (d.length) 0 (d.length)] false,.box [i64 0,i64 0] false,.box [.mref 5] false,.box [.sl false (L (cSl Ak) f.Zy1),.sl false (L An f.Zz1)] false,.buf 21 (L A5 d) false,.mp (M2 Ed g),.gone] ?_ ?_ hx_x_9587 (⟨⟨by decide,rfl⟩,⟨by decide,rfl⟩,⟨by decide,rfl⟩,trivial⟩)
  ·intro lp_ ac_ bd_;rintro d p q b v_;show FP g d p q b=some v_→Run _ _ _ ⟨Aq 78 [(45,.agg (i64 b.Zb::i64 b.No::(C1 u8 b.Zv1.l++[i64 b.Zw1,i64 b.Zx1.Za,i64 b.Zx1.Ref.Zb,i64 b.Zx1.Ref.No,i64 b.Zx1.Zn1,i64 b.Zx1.Zb1,i64 b.Zx1.Zc,i64 b.Zx1.Zo1,i64 b.Zx1.Zw,i64 b.Zx1.To,i64 b.Zx1.Code,i64 b.Zx1.Zp1,i64 b.Zx1.Zq1,i64 b.Zx1.Zr1,i64 b.Zx1.Zs1,.str b.Zx1.Zt1,.sl false (L Ad b.Zx1.Zu1),u64 b.Sig.C,u64 b.Sig.S]))),(44,.agg [i64 p,i64 q]),(2,.ref 0 0),(4,.ref 1 0),(5,.ref 2 0)],[.box [.bs false 4 (d.length) 0 (d.length)] false,.box [i64 0,i64 0] false,.box [.mref 5] false,.box [.sl false (L (cSl Ak) f.Zy1),.sl false (L An f.Zz1)] false,.buf 21 (L A5 d) false,.mp (M2 Ed g),.lp false 78 [(2,.ref 0 0),(4,.ref 1 0),(5,.ref 2 0)] #[44,45] ac_ bd_,.box (i64 b.Zb::i64 b.No::(C1 u8 b.Zv1.l++[i64 b.Zw1,i64 b.Zx1.Za,i64 b.Zx1.Ref.Zb,i64 b.Zx1.Ref.No,i64 b.Zx1.Zn1,i64 b.Zx1.Zb1,i64 b.Zx1.Zc,i64 b.Zx1.Zo1,i64 b.Zx1.Zw,i64 b.Zx1.To,i64 b.Zx1.Code,i64 b.Zx1.Zp1,i64 b.Zx1.Zq1,i64 b.Zx1.Zr1,i64 b.Zx1.Zs1,.str b.Zx1.Zt1,.sl false (L Ad b.Zx1.Zu1),u64 b.Sig.C,u64 b.Sig.S])) false]⟩ _;have hE:=ok.env { F:=F,rd:=some lp_ };unfold FP;refine T0 [2,4,5,9,45] ?_;refine F0 [2,4,5,9,10] ?_;refine Wp (Weak.refl _ _) ?_;refine Yb (N':=0) [.box [.bs false 4 (d.length) 0 (d.length)] false,.box [i64 0,i64 0] false,.box [.mref 5] false,.box [.sl false (L (cSl Ak) f.Zy1),.sl false (L An f.Zz1)] false,.buf 21 (L A5 d) false,.mp (M2 Ed g),.lp true 78 [(2,.ref 0 0),(4,.ref 1 0),(5,.ref 2 0)] #[44,45] ac_ bd_,.box (i64 b.Zb::i64 b.No::(C1 u8 b.Zv1.l++[i64 b.Zw1,i64 b.Zx1.Za,i64 b.Zx1.Ref.Zb,i64 b.Zx1.Ref.No,i64 b.Zx1.Zn1,i64 b.Zx1.Zb1,i64 b.Zx1.Zc,i64 b.Zx1.Zo1,i64 b.Zx1.Zw,i64 b.Zx1.To,i64 b.Zx1.Code,i64 b.Zx1.Zp1,i64 b.Zx1.Zq1,i64 b.Zx1.Zr1,i64 b.Zx1.Zs1,.str b.Zx1.Zt1,.sl false (L Ad b.Zx1.Zu1),u64 b.Sig.C,u64 b.Sig.S])) false,.box [i64 p,i64 q] false,.box (i64 b.Zb::i64 b.No::(C1 u8 b.Zv1.l++[i64 b.Zw1,i64 b.Zx1.Za,i64 b.Zx1.Ref.Zb,i64 b.Zx1.Ref.No,i64 b.Zx1.Zn1,i64 b.Zx1.Zb1,i64 b.Zx1.Zc,i64 b.Zx1.Zo1,i64 b.Zx1.Zw,i64 b.Zx1.To,i64 b.Zx1.Code,i64 b.Zx1.Zp1,i64 b.Zx1.Zq1,i64 b.Zx1.Zr1,i64 b.Zx1.Zs1,.str b.Zx1.Zt1,.sl false (L Ad b.Zx1.Zu1),u64 b.Sig.C,u64 b.Sig.S])) false] ?_;refine Sb <|Sq <|Lt fun ax ay =>Te (fr':=[(2,_),(4,_),(5,_),(9,_),(10,_),(50,.bool ax)]) [2,4,5,9,10,50] Aa (Ew1 ay) ?_
   refine Cd ?_ ?_
   ·refine Sx <|Tx <|Bx <|?_
    refine Wp (ws (l':=[]) (σ':=[.box [.bs false 4 (d.length) 0 (d.length)] false,.box [i64 0,i64 0] false,.box [.mref 5] false,.box [.sl false (L (cSl Ak) f.Zy1),.sl false (L An f.Zz1)] false,.buf 21 (L A5 d) false,.mp (M2 Ed g),.lp true 78 [(2,.ref 0 0),(4,.ref 1 0),(5,.ref 2 0)] #[44,45] ac_ bd_]) [0,1,2,3,4,5,6]) ?_;exact Yf
   ·refine Sk <|Tn <|Ck fun az =>Lt fun aA aB =>Lt fun aC aD =>Lt fun aE aF =>Lt fun aG aH =>Lt fun aI aJ =>Lt fun aK aL =>Lt fun aM aN =>Lt fun aO aP =>Lt fun aQ aR =>Lt fun aS aT =>Lt fun aU aV =>Lt fun aW aX =>Lt fun aY aZ =>Lt fun a0 a1 =>Lt fun a2 a3 =>Lt fun a4 a5 =>Lt fun a6 a7 =>Lt fun a8 a9 =>Lt fun ba bb =>Lt fun bc bd =>Lt fun be bf =>Lt fun bg bh =>Te (fr':=[(2,_),(4,_),(9,_),(10,_),(11,_),(12,.bool aA)]) (σ':=[_,_,_,_,_,_,_,_,_,_,.box [i64 aC,i64 aE,i64 aG,i64 aI,i64 aK,i64 aM,i64 aO,i64 aQ,i64 aS,i64 aU,i64 aW,i64 aY,i64 a0,i64 a2,i64 a4,i64 a6,i64 a8,i64 ba,i64 bc,.str be,.sl false (L Ad bg)] false]) [2,4,9,10,11,12] Aa (Ev (by simp only[go_sem,az,aB,aD,aF,aH,aJ,aL,aN,aP,aR,aT,aV,aX,aZ,a1,a3,a5,a7,a9,bb,bd,bf,bh];exact AK)) ?_
    refine Jo (fun⟨u,w,x,y,z,aa,ab,ac,ad,ae,af,ag,ah,ai,aj,ak,al,am,an,ao,ap⟩=>⟨Aq 78 [(2,.ref 0 0),(4,.ref 1 0),(11,.ref 7 0)],[.box [.bs false 4 (d.length) 0 (d.length)] false,.box [i64 0,i64 0] false,.box [.mref 5] false,.box [.sl false (L (cSl Ak) f.Zy1),.sl false (L An f.Zz1)] false,.buf 21 (L A5 d) false,.mp (M2 Ed g),.lp true 78 [(2,.ref 0 0),(4,.ref 1 0),(5,.ref 2 0)] #[44,45] ac_ bd_,.box [i64 u,i64 w,i64 x,i64 y,i64 z,i64 aa,i64 ab,i64 ac,i64 ad,i64 ae,i64 af,i64 ag,i64 ah,i64 ai,i64 aj,i64 ak,i64 al,i64 am,i64 an,.str ao,.sl false (L Ad ap)] false]⟩) ?_ ?_
    ·intro bl bi;refine T0 [2,4,9,10,11,58] ?_;refine Cd ?_ ?_
     ·refine F0 [2,4,11] ?_;exact Jn (ws [0,1,2,3,4,5,6,10])
     ·refine T0 [2,4,11,69] ?_;refine Cd ?_ ?_
      ·refine Sx <|Jx bi <|Bx <|?_
       refine Wp (ws (l':=[]) (σ':=[.box [.bs false 4 (d.length) 0 (d.length)] false,.box [i64 0,i64 0] false,.box [.mref 5] false,.box [.sl false (L (cSl Ak) f.Zy1),.sl false (L An f.Zz1)] false,.buf 21 (L A5 d) false,.mp (M2 Ed g),.lp true 78 [(2,.ref 0 0),(4,.ref 1 0),(5,.ref 2 0)] #[44,45] ac_ bd_]) [0,1,2,3,4,5,6]) ?_;exact Yf
      ·exact Sk <|Jn (ws [0,1,2,3,4,5,6,10])
    rintro⟨u,w,x,y,z,aa,ab,ac,ad,ae,af,ag,ah,ai,aj,ak,al,am,an,ao,ap⟩;refine T0 [2,11] ?_;refine Ck fun bj =>Lt fun i bk =>Fe (σ':=[.box [.bs false 4 (i.length) 0 (i.length)] false,_,_,_,.buf 21 (L A5 i) false,_,_,_,_]) [] Aa (Ew2 bj bk) ?_
    refine Bn ?_;refine Wp (ws (l':=[]) (σ':=[.box [.bs false 4 (i.length) 0 (i.length)] false,.box [i64 0,i64 0] false,.box [.mref 5] false,.box [.sl false (L (cSl Ak) f.Zy1),.sl false (L An f.Zz1)] false,.buf 21 (L A5 i) false,.mp (M2 Ed g),.lp true 78 [(2,.ref 0 0),(4,.ref 1 0),(5,.ref 2 0)] #[44,45] ac_ bd_]) [0,1,2,3,4,5,6]) ?_;exact Yf
  ·revert hP_x_9587;refine Bn <|Tn <|?_
   refine Rw (ws (l':=[(2,.ref 0 0)]) (σ':=[.box [.bs false 4 (d.length) 0 (d.length)] false,.box [i64 0,i64 0] false,.box [.mref 5] false,.box [.sl false (L (cSl Ak) f.Zy1),.sl false (L An f.Zz1)] false,.buf 21 (L A5 d) false,.mp (M2 Ed g)]) [0,1,2,3,4,5]) ?_;refine T0 [2] ?_;exact Sr <|Rr
theorem Po{r}(h:law14_sane  = some r):Con B 6 [] [] (fun r' σ'=>r'=.bool r∧σ'=[]):=by
 refine Cw 203 [.tmp 0] Tryz.func6 (fun F hE=>?_) h;unfold law14_sane;refine T0 [] ?_;refine Bd fun aF am =>Te [1] (o1 25 (O6 am)) Ev ?_
 refine T0 [1,2] ?_;refine Bd fun aG an =>Bd fun aH ao =>De [[],[],[],[0,1,2],[0,1,2,3],[0,1,2,3,4],[0,1,2,3,4],[],[0,1,2,3,4,5,7],[0,1,2,3,4,5,6,7,8]] [1,2,3,4] (o2 30 (DP an) 31 (DA ao)) Ev ?_
 refine Bd fun ad ap =>Te [1,2,3,4,5,6] (o1 38 (CZ ap)) Ev ?_
 refine Bd fun aI aq =>Te [1,2,3,4,5,6,7,8] (o1 45 (CZ aq)) Ev ?_
 refine Bd fun aJ ar =>Bd fun aK au =>De [[],[],[],[0,1,2],[0,1,2,3],[0,1,2,3,4],[0,1,2,3,4],[],[0,1,2,3,4,5,7],[0,1,2,3,4,5,6,7,8]] [1,2,3,4,5,6,7,8,10] (o2 51 (DP ar) 52 (DA au)) Ev ?_
 refine Bd fun aL av =>Bd fun aw ax =>De [[],[],[],[0,1,2],[0,1,2,3],[0,1,2,3,4],[0,1,2,3,4],[],[0,1,2,3,4,5,7],[0,1,2,3,4,5,6,7,8]] [1,2,3,4,5,6,7,8,10,11,12] (o2 58 (DP av) 59 (DA ax)) Ev ?_
 refine Bd fun x ay =>Te [1,2,3,4,5,6,7,8,10,12,13,14] (o1 66 (CZ ay)) Ev ?_
 refine Bd fun aM az =>Bd fun ae aA =>De [[],[],[],[0,1,2],[0,1,2,3],[0,1,2,3,4],[0,1,2,3,4],[],[0,1,2,3,4,5,7],[0,1,2,3,4,5,6,7,8]] [1,2,3,4,5,6,7,8,10,12,13,14,16] (o2 72 (DP az) 73 (DA aA)) Ev ?_
 refine Bd fun af aB =>Te [1,2,3,4,5,6,7,8,10,12,13,14,16,17,18] (o1 81 (DA aB)) Ev ?_
 refine Bd fun j aC =>Te [1,2,3,4,5,6,7,8,10,12,13,14,16,18,19,20] (o1 88 (CZ aC)) Ev ?_
 refine Bd fun ag aD =>Te [3,4,5,6,7,8,10,12,13,14,16,18,19,20,22] (o1 96 (DA aD)) Ev ?_
 refine Tw [5,12,13,14,16,18,19,20,22,23] (fun y=>⟨Aq 203 [(5,.ref 0 0),(12,i64 aw.2),(13,.ref 1 0),(14,i64 x.2),(16,i64 ae.2),(18,i64 af.2),(19,.ref 2 0),(20,i64 j.2),(22,i64 ag.2),(23,.bool y)],[.box [.sl false (L (cSl Ak) ad.1.Zy1),.sl false (L An ad.1.Zz1)] false,.box [.sl false (L (cSl Ak) x.1.Zy1),.sl false (L An x.1.Zz1)] false,.box [.sl false (L (cSl Ak) j.1.Zy1),.sl false (L An j.1.Zz1)] false]⟩) ?_ ?_
 ·intro _;refine Sp (fun a=>?_) fun a=>?_
  ·refine Sp (fun b=>?_) fun b=>?_
   ·refine Sp (fun c=>?_) fun c=>?_
    ·refine Sp (fun f=>?_) fun f=>?_
     ·refine Sp (fun k=>?_) fun k=>?_
      ·refine Ck fun s=>?_
       refine Sp (fun o=>?_) fun o=>?_
       ·refine Sp (fun t=>?_) fun t=>?_
        ·refine Bd fun aN ah=>?_
         refine Sp (fun z=>?_) fun z=>?_
         ·exact Lf (o1 137 (L2 ah)) (Ev (by simp only[go_sem,a,b,Ji,JO,H1,c,f,k,qL s,o,t,z];exact AK)) (ws [3,7,10])
         ·exact Lf (o1 137 (L2 ah)) (Ev (by simp only[go_sem,a,b,Ji,JO,H1,c,f,k,qL s,o,t,z];exact AK)) (ws [3,7,10])
        ·exact Lf Aa (Ev (by simp only[go_sem,a,b,Ji,JO,H1,c,f,k,qL s,o,t];exact AK)) (ws [3,7,10])
       ·exact Lf Aa (Ev (by simp only[go_sem,a,b,Ji,JO,H1,c,f,k,qL s,o];exact AK)) (ws [3,7,10])
      ·exact Lf Aa (Ev (by simp only[go_sem,a,b,Ji,JO,H1,c,f,k];exact AK)) (ws [3,7,10])
     ·exact Lf Aa (Ev (by simp only[go_sem,a,b,Ji,JO,H1,c,f];exact AK)) (ws [3,7,10])
    ·exact Lf Aa (Ev (by simp only[go_sem,a,b,Ji,JO,H1,c];exact AK)) (ws [3,7,10])
   ·exact Lf Aa (Ew2 a b) (ws [3,7,10])
  ·exact Lf Aa (Ew1 a) (ws [3,7,10])
 intro y;refine Tw [16,18,19,20,22,23,24] (fun ai=>⟨Aq 203 [(16,i64 ae.2),(18,i64 af.2),(19,.ref 0 0),(20,i64 j.2),(22,i64 ag.2),(23,.bool y),(24,.bool ai)],[.box [.sl false (L (cSl Ak) j.1.Zy1),.sl false (L An j.1.Zz1)] false]⟩) ?_ ?_
 ·intro _;refine Sp (fun d=>?_) fun d=>?_
  ·refine Sp (fun g=>?_) fun g=>?_
   ·refine Sp (fun m=>?_) fun m=>?_
    ·refine Bd fun aO u=>?_
     refine Sp (fun p=>?_) fun p=>?_
     ·refine Bd fun aP aa=>?_
      refine Sp (fun v=>?_) fun v=>?_
      ·refine Bd fun aQ aj=>?_
       refine Sp (fun ab=>?_) fun ab=>?_
       ·refine Bd fun aR aE=>?_
        exact Lf (Fg (l:=[(157,_,_,_),(162,_,_,_),(167,_,_,_),(173,_,_,_)]) ⟨BL  u,BL  aa,CL  aj,CL  aE,trivial⟩) (Ev (by simp only[go_sem,d,g,m,p,v,ab];exact AK)) (ws [2])
       ·exact Lf (Fg (l:=[(157,_,_,_),(162,_,_,_),(167,_,_,_)]) ⟨BL  u,BL  aa,CL  aj,trivial⟩) (Ev (by simp only[go_sem,d,g,m,p,v,ab];exact AK)) (ws [2])
      ·exact Lf (o2 157 (BL u) 162 (BL aa)) (Ew5 d g m p v) (ws [2])
     ·exact Lf (o1 157 (BL u)) (Ew4 d g m p) (ws [2])
    ·exact Lf Aa (Ew3 d g m) (ws [2])
   ·exact Lf Aa (Ew2 d g) (ws [2])
  ·exact Lf Aa (Ew1 d) (ws [2])
 intro ai;refine Tw [0] (fun ak=>⟨Aq 203 [(0,.bool ak)],[]⟩) ?_ ?_
 ·intro _;refine Sp (fun e=>?_) fun e=>?_
  ·refine Sp (fun i=>?_) fun i=>?_
   ·refine Sp (fun n=>?_) fun n=>?_
    ·refine Sp (fun q=>?_) fun q=>?_
     ·refine Sp (fun w=>?_) fun w=>?_
      ·refine Bd fun aS al=>?_
       refine Sp (fun ac=>?_) fun ac=>?_
       ·exact Lf (o1 195 (CL al)) (Ev (by simp only[go_sem,e,i,n,q,w,ac];exact AK)) (ws [])
       ·exact Lf (o1 195 (CL al)) (Ev (by simp only[go_sem,e,i,n,q,w,ac];exact AK)) (ws [])
      ·exact Lf Aa (Ew5 e i n q w) (ws [])
     ·exact Lf Aa (Ew4 e i n q) (ws [])
    ·exact Lf Aa (Ew3 e i n) (ws [])
   ·exact Lf Aa (Ew2 e i) (ws [])
  ·exact Lf Aa (Ew1 e) (ws [])
 intro ak;exact Sr <|Rr
theorem Dk{a r}(h:E9 a=some r):Con B 9 [.agg [i64 a.Za,i64 a.Ref.Zb,i64 a.Ref.No,i64 a.Zn1,i64 a.Zb1,i64 a.Zc,i64 a.Zo1,i64 a.Zw,i64 a.To,i64 a.Code,i64 a.Zp1,i64 a.Zq1,i64 a.Zr1,i64 a.Zs1,.str a.Zt1,.sl false (L Ad a.Zu1)]] [] (fun r' σ'=>r'=.bool r∧σ'=[]):=by
 refine Cw 13 [.tmp 2] Tryz.func9 (fun F hE=>?_) h;unfold E9;refine T0 [1] ?_;refine Tw [2] (fun c=>⟨Aq 13 [(2,.bool c)],[]⟩) ?_ ?_
 ·intro _;refine Sp (fun b=>?_) fun b=>?_
  ·exact Lf Aa (Ew1 b) (ws [])
  ·exact Lf Aa (Ew1 b) (ws [])
 intro c;exact Sr <|Rr
end Go.Proofs.YtioapcamanmoiaaGreatDoor
