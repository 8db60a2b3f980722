/-
  Part 45.
-/
import Derived.Test.YtioapcamanmoiaaDoorYF26
import Derived.Test.YtioapcamanmoiaaDoorYF41
import Derived.Test.YtioapcamanmoiaaDoorYF42
import Derived.Test.YtioapcamanmoiaaDoorYF43
import Derived.Test.YtioapcamanmoiaaDoorYF44
import Derived.KernelRfl
import Derived.Lib.Mul64
namespace Go.Proofs.YtioapcamanmoiaaDoor
open Go.Rv
set_option linter.unusedVariables false
set_option linter.unusedSimpArgs false
set_option maxRecDepth 20000
set_option maxHeartbeats 4000000
theorem GO{b r}(h:Cp b=some r):Con B 92 [.ref 0 0] [.box [.sl false (L Ag b.p.Zg1.Ze),.sl false (L Am b.p.Zg1.Zf),.sl false (L Ab b.p.Zh1.Zx),.sl false (L Ae b.p.Zh1.Zy),.sl false (L Ai b.p.Zh1.Zz),.sl false (L Ah b.p.Zh1.Za1),.sl false (L Af b.p.Zi1),.sl false (L Ad b.p.Zj1),.sl false (L Ac b.p.Zk1),i64 b.it.Za,i64 b.it.Ref.Zb,i64 b.it.Ref.No,i64 b.it.Zn1,i64 b.it.Zb1,i64 b.it.Zc,i64 b.it.Zo1,i64 b.it.Zw,i64 b.it.To,i64 b.it.Code,i64 b.it.Zp1,i64 b.it.Zq1,i64 b.it.Zr1,i64 b.it.Zs1,.str b.it.Zt1,.sl false (L Aj b.it.Zu1),.bool b.ok] false] (fun r' σ'=>r'=.tup []∧σ'=[.box [.sl false (L Ag r.p.Zg1.Ze),.sl false (L Am r.p.Zg1.Zf),.sl false (L Ab r.p.Zh1.Zx),.sl false (L Ae r.p.Zh1.Zy),.sl false (L Ai r.p.Zh1.Zz),.sl false (L Ah r.p.Zh1.Za1),.sl false (L Af r.p.Zi1),.sl false (L Ad r.p.Zj1),.sl false (L Ac r.p.Zk1),i64 r.it.Za,i64 r.it.Ref.Zb,i64 r.it.Ref.No,i64 r.it.Zn1,i64 r.it.Zb1,i64 r.it.Zc,i64 r.it.Zo1,i64 r.it.Zw,i64 r.it.To,i64 r.it.Code,i64 r.it.Zp1,i64 r.it.Zq1,i64 r.it.Zr1,i64 r.it.Zs1,.str r.it.Zt1,.sl false (L Aj r.it.Zu1),.bool r.ok] false]):=by
 refine Co 1 135 [] Tryd.func92 (fun F hE=>?_) h;unfold Cp;refine T0 [0,2] ?_;refine Sq <|T0 [0,2,11] ?_
 refine Cd ?_ ?_
 ·refine T0 [] ?_;exact Sr <|Tr <|Ro [0]
 ·refine Sk <|Tn <|Bd fun a z =>Te [0,2] (Ar (l:=[]) (m:=[(16,97,[.ref 0 0],[.box [.sl false (L Ag b.p.Zg1.Ze),.sl false (L Am b.p.Zg1.Zf),.sl false (L Ab b.p.Zh1.Zx),.sl false (L Ae b.p.Zh1.Zy),.sl false (L Ai b.p.Zh1.Zz),.sl false (L Ah b.p.Zh1.Za1),.sl false (L Af b.p.Zi1),.sl false (L Ad b.p.Zj1),.sl false (L Ac b.p.Zk1),i64 b.it.Za,i64 b.it.Ref.Zb,i64 b.it.Ref.No,i64 b.it.Zn1,i64 b.it.Zb1,i64 b.it.Zc,i64 b.it.Zo1,i64 b.it.Zw,i64 b.it.To,i64 b.it.Code,i64 b.it.Zp1,i64 b.it.Zq1,i64 b.it.Zr1,i64 b.it.Zs1,.str b.it.Zt1,.sl false (L Aj b.it.Zu1),.bool b.ok] false],_,_)]) trivial ⟨(wc (DF z) [0]),trivial⟩) Ev ?_
  refine T0 [0,2,20] ?_;refine Sb <|T0 [0,2,20,21] ?_
  refine Cd ?_ ?_
  ·refine Bd fun e aa =>De [[],[],[1],[1,2],[],[4],[4,5],[4,5,6],[4,5,6,7],[4,5,6,7,8],[4,5,6,7,8,9],[0,1,2,3,4,5,6,7,8,9,10]] [0] (Ar (l:=[]) (m:=[(34,98,[.ref 0 0,.ref 0 14,i64 0,i64 (w64 ((a.p.Zi1.length:Int)-1))],[.box [.sl false (L Ag a.p.Zg1.Ze),.sl false (L Am a.p.Zg1.Zf),.sl false (L Ab a.p.Zh1.Zx),.sl false (L Ae a.p.Zh1.Zy),.sl false (L Ai a.p.Zh1.Zz),.sl false (L Ah a.p.Zh1.Za1),.sl false (L Af a.p.Zi1),.sl false (L Ad a.p.Zj1),.sl false (L Ac a.p.Zk1),i64 a.it.Za,i64 a.it.Ref.Zb,i64 a.it.Ref.No,i64 a.it.Zn1,i64 a.it.Zb1,i64 a.it.Zc,i64 a.it.Zo1,i64 a.it.Zw,i64 a.it.To,i64 a.it.Code,i64 a.it.Zp1,i64 a.it.Zq1,i64 a.it.Zr1,i64 a.it.Zs1,.str a.it.Zt1,.sl false (L Aj a.it.Zu1),.bool a.ok] false],_,_)]) trivial ⟨(wc (CJ aa) [0]),trivial⟩) Ev ?_
   refine Bd fun au ab =>Fe [] (Ar (l:=[]) (m:=[(36,99,[.ref 0 0],[.box [.sl false (L Ag e.p.Zg1.Ze),.sl false (L Am e.p.Zg1.Zf),.sl false (L Ab e.p.Zh1.Zx),.sl false (L Ae e.p.Zh1.Zy),.sl false (L Ai e.p.Zh1.Zz),.sl false (L Ah e.p.Zh1.Za1),.sl false (L Af e.p.Zi1),.sl false (L Ad e.p.Zj1),.sl false (L Ac e.p.Zk1),i64 e.it.Za,i64 e.it.Ref.Zb,i64 e.it.Ref.No,i64 e.it.Zn1,i64 e.it.Zb1,i64 e.it.Zc,i64 e.it.Zo1,i64 e.it.Zw,i64 e.it.To,i64 e.it.Code,i64 e.it.Zp1,i64 e.it.Zq1,i64 e.it.Zr1,i64 e.it.Zs1,.str e.it.Zt1,.sl false (L Aj e.it.Zu1),.bool e.ok] false],_,_)]) trivial ⟨(wc (Bs ab) [0]),trivial⟩) Ev ?_
   exact Bn <|Ro [0]
  ·refine T0 [0,2,20,37] ?_;refine Cd ?_ ?_
   ·refine Bd fun f ac =>Te [0] (Ar (l:=[]) (m:=[(40,100,[.ref 0 0,i64 0],[.box [.sl false (L Ag a.p.Zg1.Ze),.sl false (L Am a.p.Zg1.Zf),.sl false (L Ab a.p.Zh1.Zx),.sl false (L Ae a.p.Zh1.Zy),.sl false (L Ai a.p.Zh1.Zz),.sl false (L Ah a.p.Zh1.Za1),.sl false (L Af a.p.Zi1),.sl false (L Ad a.p.Zj1),.sl false (L Ac a.p.Zk1),i64 a.it.Za,i64 a.it.Ref.Zb,i64 a.it.Ref.No,i64 a.it.Zn1,i64 a.it.Zb1,i64 a.it.Zc,i64 a.it.Zo1,i64 a.it.Zw,i64 a.it.To,i64 a.it.Code,i64 a.it.Zp1,i64 a.it.Zq1,i64 a.it.Zr1,i64 a.it.Zs1,.str a.it.Zt1,.sl false (L Aj a.it.Zu1),.bool a.ok] false],_,_)]) trivial ⟨(wc (B1 ac) [0]),trivial⟩) Ev ?_
    refine Bd fun av ad =>Fe [] (Ar (l:=[]) (m:=[(42,101,[.ref 0 0],[.box [.sl false (L Ag f.2.p.Zg1.Ze),.sl false (L Am f.2.p.Zg1.Zf),.sl false (L Ab f.2.p.Zh1.Zx),.sl false (L Ae f.2.p.Zh1.Zy),.sl false (L Ai f.2.p.Zh1.Zz),.sl false (L Ah f.2.p.Zh1.Za1),.sl false (L Af f.2.p.Zi1),.sl false (L Ad f.2.p.Zj1),.sl false (L Ac f.2.p.Zk1),i64 f.2.it.Za,i64 f.2.it.Ref.Zb,i64 f.2.it.Ref.No,i64 f.2.it.Zn1,i64 f.2.it.Zb1,i64 f.2.it.Zc,i64 f.2.it.Zo1,i64 f.2.it.Zw,i64 f.2.it.To,i64 f.2.it.Code,i64 f.2.it.Zp1,i64 f.2.it.Zq1,i64 f.2.it.Zr1,i64 f.2.it.Zs1,.str f.2.it.Zt1,.sl false (L Aj f.2.it.Zu1),.bool f.2.ok] false],_,_)]) trivial ⟨(wc (DW ad) [0]),trivial⟩) Ev ?_
    exact Bn <|Ro [0]
   ·refine Ja (fun x=>⟨Aq 135 [(0,.ref 0 0),(2,.ref 0 9),(20,i64 a.it.Za),(43,.bool x)],[.box [.sl false (L Ag a.p.Zg1.Ze),.sl false (L Am a.p.Zg1.Zf),.sl false (L Ab a.p.Zh1.Zx),.sl false (L Ae a.p.Zh1.Zy),.sl false (L Ai a.p.Zh1.Zz),.sl false (L Ah a.p.Zh1.Za1),.sl false (L Af a.p.Zi1),.sl false (L Ad a.p.Zj1),.sl false (L Ac a.p.Zk1),i64 a.it.Za,i64 a.it.Ref.Zb,i64 a.it.Ref.No,i64 a.it.Zn1,i64 a.it.Zb1,i64 a.it.Zc,i64 a.it.Zo1,i64 a.it.Zw,i64 a.it.To,i64 a.it.Code,i64 a.it.Zp1,i64 a.it.Zq1,i64 a.it.Zr1,i64 a.it.Zs1,.str a.it.Zt1,.sl false (L Aj a.it.Zu1),.bool a.ok] false]⟩) ?_ ?_
    ·intro aw;refine T0 [0,2,20,43] ?_;refine Cd ?_ ?_
     ·exact Sk <|Jm (ws [0])
     ·refine F0 [0,2,20,43] ?_;exact Jm (ws [0])
    intro x;refine Cd ?_ ?_
    ·refine Bd fun c ae =>Te [0,2,3] (Ar (l:=[]) (m:=[(47,100,[.ref 0 0,i64 3],[.box [.sl false (L Ag a.p.Zg1.Ze),.sl false (L Am a.p.Zg1.Zf),.sl false (L Ab a.p.Zh1.Zx),.sl false (L Ae a.p.Zh1.Zy),.sl false (L Ai a.p.Zh1.Zz),.sl false (L Ah a.p.Zh1.Za1),.sl false (L Af a.p.Zi1),.sl false (L Ad a.p.Zj1),.sl false (L Ac a.p.Zk1),i64 a.it.Za,i64 a.it.Ref.Zb,i64 a.it.Ref.No,i64 a.it.Zn1,i64 a.it.Zb1,i64 a.it.Zc,i64 a.it.Zo1,i64 a.it.Zw,i64 a.it.To,i64 a.it.Code,i64 a.it.Zp1,i64 a.it.Zq1,i64 a.it.Zr1,i64 a.it.Zs1,.str a.it.Zt1,.sl false (L Aj a.it.Zu1),.bool a.ok] false],_,_)]) trivial ⟨(wc (B1 ae) [0]),trivial⟩) Ev ?_
     refine Dw [[],[],[1],[1,2],[1,2,3],[1,2,3,4],[1,2,3,4,5],[1,2,3,4,5,6],[1,2,3,4,5,6,7],[1,2,3,4,5,6,7,8],[1,2,3,4,5],[1,2,3,4,5,10],[1,2,3,4,5,6,7,8,9,10,11],[1,2,3,4,5,6,7,8,9,10,11,12],[1,2,3,4,5,6,7,8,9,10,11,12,13],[1,2,3,4,5,6,7,8,9,10,11,12,13,14],[1,2,3,4,5,6,7,8,9,10,11,12,13,14,15],[1,2,3,4,5,6,7,8,9,10,11,12,13,14,15,16],[1,2,3,4,5,6,7,8,9,10,11,12,13],[1,2,3,4,5,6,7,8,9,10,11,12,13,18],[1,2,3,4,5,6,7,8,9,10,11,12,13,14,15,16,17,18,19],[1,2,3,4,5,6,7,8,9,10,11,12,13,14,15,16,17,18,19,20],[1,2,3,4,5,6,7,8,9,10,11,12,13,14,15,16,17,18,19,20,21],[0,1,2,3,4,5,6,7,8,9,10,11,12,13,14,15,16,17,18,19,20,21,22],[0,1,2,3,4,5,6,7,8,9,10,11,12,13,14,15,16,17,18,19,20,21,22,23],[0,1,2,3,4,5,6,7,8,9,10,11,12,13,14,15,16,17,18,19,20,21,22,23,24]] [0,2] (fun v=>⟨Aq 135 [(0,.ref 0 0),(2,.ref 0 9)],[.box [.sl false (L Ag c.2.p.Zg1.Ze),.sl false (L Am c.2.p.Zg1.Zf),.sl false (L Ab c.2.p.Zh1.Zx),.sl false (L Ae c.2.p.Zh1.Zy),.sl false (L Ai c.2.p.Zh1.Zz),.sl false (L Ah c.2.p.Zh1.Za1),.sl false (L Af c.2.p.Zi1),.sl false (L Ad c.2.p.Zj1),.sl false (L Ac c.2.p.Zk1),i64 c.2.it.Za,i64 c.2.it.Ref.Zb,i64 c.2.it.Ref.No,i64 c.2.it.Zn1,i64 c.2.it.Zb1,i64 c.2.it.Zc,i64 c.2.it.Zo1,i64 c.2.it.Zw,i64 c.2.it.To,i64 c.2.it.Code,i64 c.2.it.Zp1,i64 c.2.it.Zq1,i64 c.2.it.Zr1,i64 c.2.it.Zs1,.str c.2.it.Zt1,.sl false (L Aj c.2.it.Zu1),.bool v] false]⟩) ?_ ?_
     ·intro _;refine Sp (fun u=>?_) fun u=>?_
      ·refine Sp (fun w=>?_) fun w=>?_
       ·exact Lf Aa (Ew2 u w) (ws [0])
       ·exact Lf Aa (Ew2 u w) (ws [0])
      ·exact Lf Aa (Ew1 u) (ws [0])
     intro v;refine T0 [0,2] ?_;refine Bd fun g af =>Te [0,2] (Ar (l:=[]) (m:=[(77,99,[.ref 0 0],[.box [.sl false (L Ag c.2.p.Zg1.Ze),.sl false (L Am c.2.p.Zg1.Zf),.sl false (L Ab c.2.p.Zh1.Zx),.sl false (L Ae c.2.p.Zh1.Zy),.sl false (L Ai c.2.p.Zh1.Zz),.sl false (L Ah c.2.p.Zh1.Za1),.sl false (L Af c.2.p.Zi1),.sl false (L Ad c.2.p.Zj1),.sl false (L Ac c.2.p.Zk1),i64 c.2.it.Za,i64 c.2.it.Ref.Zb,i64 c.2.it.Ref.No,i64 c.2.it.Zn1,i64 c.2.it.Zb1,i64 0,i64 c.2.it.Zo1,i64 c.2.it.Zw,i64 c.2.it.To,i64 c.2.it.Code,i64 c.2.it.Zp1,i64 c.2.it.Zq1,i64 c.2.it.Zr1,i64 c.2.it.Zs1,.str c.2.it.Zt1,.sl false (L Aj c.2.it.Zu1),.bool v] false],_,_)]) trivial ⟨(wc (Bs af) [0]),trivial⟩) Ev ?_
     refine Bd fun ax ag =>Fe [] (Ar (l:=[]) (m:=[(82,98,[.ref 0 0,.ref 0 18,i64 0,i64 8],[.box [.sl false (L Ag g.p.Zg1.Ze),.sl false (L Am g.p.Zg1.Zf),.sl false (L Ab g.p.Zh1.Zx),.sl false (L Ae g.p.Zh1.Zy),.sl false (L Ai g.p.Zh1.Zz),.sl false (L Ah g.p.Zh1.Za1),.sl false (L Af g.p.Zi1),.sl false (L Ad g.p.Zj1),.sl false (L Ac g.p.Zk1),i64 g.it.Za,i64 g.it.Ref.Zb,i64 g.it.Ref.No,i64 g.it.Zn1,i64 g.it.Zb1,i64 g.it.Zc,i64 g.it.Zo1,i64 g.it.Zw,i64 g.it.To,i64 g.it.Code,i64 g.it.Zp1,i64 g.it.Zq1,i64 g.it.Zr1,i64 g.it.Zs1,.str g.it.Zt1,.sl false (L Aj g.it.Zu1),.bool g.ok] false],_,_)]) trivial ⟨(wc (BN ag) [0]),trivial⟩) Ev ?_
     exact Bn <|Ro [0]
    ·refine T0 [0,2,20,83] ?_;refine Cd ?_ ?_
     ·refine Bd fun i ah =>Te [0,2] (Ar (l:=[]) (m:=[(89,98,[.ref 0 0,.ref 0 15,i64 1,i64 1000000000],[.box [.sl false (L Ag a.p.Zg1.Ze),.sl false (L Am a.p.Zg1.Zf),.sl false (L Ab a.p.Zh1.Zx),.sl false (L Ae a.p.Zh1.Zy),.sl false (L Ai a.p.Zh1.Zz),.sl false (L Ah a.p.Zh1.Za1),.sl false (L Af a.p.Zi1),.sl false (L Ad a.p.Zj1),.sl false (L Ac a.p.Zk1),i64 a.it.Za,i64 a.it.Ref.Zb,i64 a.it.Ref.No,i64 a.it.Zn1,i64 a.it.Zb1,i64 a.it.Zc,i64 a.it.Zo1,i64 a.it.Zw,i64 a.it.To,i64 a.it.Code,i64 a.it.Zp1,i64 a.it.Zq1,i64 a.it.Zr1,i64 a.it.Zs1,.str a.it.Zt1,.sl false (L Aj a.it.Zu1),.bool a.ok] false],_,_)]) trivial ⟨(wc (CL ah) [0]),trivial⟩) Ev ?_
      refine Bd fun j ai =>Te [0,2] (Ar (l:=[]) (m:=[(91,102,[.ref 0 0],[.box [.sl false (L Ag i.p.Zg1.Ze),.sl false (L Am i.p.Zg1.Zf),.sl false (L Ab i.p.Zh1.Zx),.sl false (L Ae i.p.Zh1.Zy),.sl false (L Ai i.p.Zh1.Zz),.sl false (L Ah i.p.Zh1.Za1),.sl false (L Af i.p.Zi1),.sl false (L Ad i.p.Zj1),.sl false (L Ac i.p.Zk1),i64 i.it.Za,i64 i.it.Ref.Zb,i64 i.it.Ref.No,i64 i.it.Zn1,i64 i.it.Zb1,i64 i.it.Zc,i64 i.it.Zo1,i64 i.it.Zw,i64 i.it.To,i64 i.it.Code,i64 i.it.Zp1,i64 i.it.Zq1,i64 i.it.Zr1,i64 i.it.Zs1,.str i.it.Zt1,.sl false (L Aj i.it.Zu1),.bool i.ok] false],_,_)]) trivial ⟨(wc (CU ai) [0]),trivial⟩) Ev ?_
      refine Bd fun d aj =>Te [0,2] (Ar (l:=[]) (m:=[(93,100,[.ref 0 0,i64 0],[.box [.sl false (L Ag j.p.Zg1.Ze),.sl false (L Am j.p.Zg1.Zf),.sl false (L Ab j.p.Zh1.Zx),.sl false (L Ae j.p.Zh1.Zy),.sl false (L Ai j.p.Zh1.Zz),.sl false (L Ah j.p.Zh1.Za1),.sl false (L Af j.p.Zi1),.sl false (L Ad j.p.Zj1),.sl false (L Ac j.p.Zk1),i64 j.it.Za,i64 j.it.Ref.Zb,i64 j.it.Ref.No,i64 j.it.Zn1,i64 j.it.Zb1,i64 j.it.Zc,i64 j.it.Zo1,i64 j.it.Zw,i64 j.it.To,i64 j.it.Code,i64 j.it.Zp1,i64 j.it.Zq1,i64 j.it.Zr1,i64 j.it.Zs1,.str j.it.Zt1,.sl false (L Aj j.it.Zu1),.bool j.ok] false],_,_)]) trivial ⟨(wc (B1 aj) [0]),trivial⟩) Ev ?_
      refine Bd fun k ak =>De [[],[],[1],[1,2],[],[4],[4,5],[4,5,6],[4,5,6,7],[4,5,6,7,8],[4,5,6,7,8,9],[4,5,6,7,8,9,10],[0,1,2,3,4,5,6,7,8,9,10,11]] [0,2] (Ar (l:=[]) (m:=[(106,98,[.ref 0 0,.ref 0 19,i64 0,i64 (w64 ((d.2.p.Zg1.Ze.length:Int)-1))],[.box [.sl false (L Ag d.2.p.Zg1.Ze),.sl false (L Am d.2.p.Zg1.Zf),.sl false (L Ab d.2.p.Zh1.Zx),.sl false (L Ae d.2.p.Zh1.Zy),.sl false (L Ai d.2.p.Zh1.Zz),.sl false (L Ah d.2.p.Zh1.Za1),.sl false (L Af d.2.p.Zi1),.sl false (L Ad d.2.p.Zj1),.sl false (L Ac d.2.p.Zk1),i64 d.2.it.Za,i64 d.2.it.Ref.Zb,i64 d.2.it.Ref.No,i64 d.2.it.Zn1,i64 d.2.it.Zb1,i64 d.2.it.Zc,i64 d.2.it.Zo1,i64 d.2.it.Zw,i64 d.2.it.To,i64 d.2.it.Code,i64 d.2.it.Zp1,i64 d.2.it.Zq1,i64 d.2.it.Zr1,i64 d.2.it.Zs1,.str d.2.it.Zt1,.sl false (L Aj d.2.it.Zu1),.bool d.2.ok] false],_,_)]) trivial ⟨(wc (G9 ak) [0]),trivial⟩) Ev ?_
      refine Bd fun n al =>Te [0,2] (Ar (l:=[]) (m:=[(108,103,[.ref 0 0],[.box [.sl false (L Ag k.p.Zg1.Ze),.sl false (L Am k.p.Zg1.Zf),.sl false (L Ab k.p.Zh1.Zx),.sl false (L Ae k.p.Zh1.Zy),.sl false (L Ai k.p.Zh1.Zz),.sl false (L Ah k.p.Zh1.Za1),.sl false (L Af k.p.Zi1),.sl false (L Ad k.p.Zj1),.sl false (L Ac k.p.Zk1),i64 k.it.Za,i64 k.it.Ref.Zb,i64 k.it.Ref.No,i64 k.it.Zn1,i64 k.it.Zb1,i64 k.it.Zc,i64 k.it.Zo1,i64 k.it.Zw,i64 k.it.To,i64 k.it.Code,i64 k.it.Zp1,i64 k.it.Zq1,i64 k.it.Zr1,i64 k.it.Zs1,.str k.it.Zt1,.sl false (L Aj k.it.Zu1),.bool k.ok] false],_,_)]) trivial ⟨(wc (Fq al) [0]),trivial⟩) Ev ?_
      refine Bd fun o am =>Te [0] (Ar (l:=[]) (m:=[(113,98,[.ref 0 0,.ref 0 21,i64 0,i64 1000000],[.box [.sl false (L Ag n.p.Zg1.Ze),.sl false (L Am n.p.Zg1.Zf),.sl false (L Ab n.p.Zh1.Zx),.sl false (L Ae n.p.Zh1.Zy),.sl false (L Ai n.p.Zh1.Zz),.sl false (L Ah n.p.Zh1.Za1),.sl false (L Af n.p.Zi1),.sl false (L Ad n.p.Zj1),.sl false (L Ac n.p.Zk1),i64 n.it.Za,i64 n.it.Ref.Zb,i64 n.it.Ref.No,i64 n.it.Zn1,i64 n.it.Zb1,i64 n.it.Zc,i64 n.it.Zo1,i64 n.it.Zw,i64 n.it.To,i64 n.it.Code,i64 n.it.Zp1,i64 n.it.Zq1,i64 n.it.Zr1,i64 n.it.Zs1,.str n.it.Zt1,.sl false (L Aj n.it.Zu1),.bool n.ok] false],_,_)]) trivial ⟨(wc (Eb am) [0]),trivial⟩) Ev ?_
      refine Bd fun ay an =>Fe [] (Ar (l:=[]) (m:=[(115,99,[.ref 0 0],[.box [.sl false (L Ag o.p.Zg1.Ze),.sl false (L Am o.p.Zg1.Zf),.sl false (L Ab o.p.Zh1.Zx),.sl false (L Ae o.p.Zh1.Zy),.sl false (L Ai o.p.Zh1.Zz),.sl false (L Ah o.p.Zh1.Za1),.sl false (L Af o.p.Zi1),.sl false (L Ad o.p.Zj1),.sl false (L Ac o.p.Zk1),i64 o.it.Za,i64 o.it.Ref.Zb,i64 o.it.Ref.No,i64 o.it.Zn1,i64 o.it.Zb1,i64 o.it.Zc,i64 o.it.Zo1,i64 o.it.Zw,i64 o.it.To,i64 o.it.Code,i64 o.it.Zp1,i64 o.it.Zq1,i64 o.it.Zr1,i64 o.it.Zs1,.str o.it.Zt1,.sl false (L Aj o.it.Zu1),.bool o.ok] false],_,_)]) trivial ⟨(wc (Bs an) [0]),trivial⟩) Ev ?_
      exact Bn <|Ro [0]
     ·refine Ja (fun y=>⟨Aq 135 [(0,.ref 0 0),(2,.ref 0 9),(116,.bool y)],[.box [.sl false (L Ag a.p.Zg1.Ze),.sl false (L Am a.p.Zg1.Zf),.sl false (L Ab a.p.Zh1.Zx),.sl false (L Ae a.p.Zh1.Zy),.sl false (L Ai a.p.Zh1.Zz),.sl false (L Ah a.p.Zh1.Za1),.sl false (L Af a.p.Zi1),.sl false (L Ad a.p.Zj1),.sl false (L Ac a.p.Zk1),i64 a.it.Za,i64 a.it.Ref.Zb,i64 a.it.Ref.No,i64 a.it.Zn1,i64 a.it.Zb1,i64 a.it.Zc,i64 a.it.Zo1,i64 a.it.Zw,i64 a.it.To,i64 a.it.Code,i64 a.it.Zp1,i64 a.it.Zq1,i64 a.it.Zr1,i64 a.it.Zs1,.str a.it.Zt1,.sl false (L Aj a.it.Zu1),.bool a.ok] false]⟩) ?_ ?_
      ·intro az;refine T0 [0,2,20,116] ?_;refine Cd ?_ ?_
       ·exact Sk <|Jm (ws [0])
       ·refine F0 [0,2,116] ?_;exact Jm (ws [0])
      intro y;refine Cd ?_ ?_
      ·refine Bd fun q ao =>Te [0,2] (Ar (l:=[]) (m:=[(120,100,[.ref 0 0,i64 0],[.box [.sl false (L Ag a.p.Zg1.Ze),.sl false (L Am a.p.Zg1.Zf),.sl false (L Ab a.p.Zh1.Zx),.sl false (L Ae a.p.Zh1.Zy),.sl false (L Ai a.p.Zh1.Zz),.sl false (L Ah a.p.Zh1.Za1),.sl false (L Af a.p.Zi1),.sl false (L Ad a.p.Zj1),.sl false (L Ac a.p.Zk1),i64 a.it.Za,i64 a.it.Ref.Zb,i64 a.it.Ref.No,i64 a.it.Zn1,i64 a.it.Zb1,i64 a.it.Zc,i64 a.it.Zo1,i64 a.it.Zw,i64 a.it.To,i64 a.it.Code,i64 a.it.Zp1,i64 a.it.Zq1,i64 a.it.Zr1,i64 a.it.Zs1,.str a.it.Zt1,.sl false (L Aj a.it.Zu1),.bool a.ok] false],_,_)]) trivial ⟨(wc (B1 ao) [0]),trivial⟩) Ev ?_
       refine Bd fun s ap =>Te [0,2] (Ar (l:=[]) (m:=[(122,102,[.ref 0 0],[.box [.sl false (L Ag q.2.p.Zg1.Ze),.sl false (L Am q.2.p.Zg1.Zf),.sl false (L Ab q.2.p.Zh1.Zx),.sl false (L Ae q.2.p.Zh1.Zy),.sl false (L Ai q.2.p.Zh1.Zz),.sl false (L Ah q.2.p.Zh1.Za1),.sl false (L Af q.2.p.Zi1),.sl false (L Ad q.2.p.Zj1),.sl false (L Ac q.2.p.Zk1),i64 q.2.it.Za,i64 q.2.it.Ref.Zb,i64 q.2.it.Ref.No,i64 q.2.it.Zn1,i64 q.2.it.Zb1,i64 q.2.it.Zc,i64 q.2.it.Zo1,i64 q.2.it.Zw,i64 q.2.it.To,i64 q.2.it.Code,i64 q.2.it.Zp1,i64 q.2.it.Zq1,i64 q.2.it.Zr1,i64 q.2.it.Zs1,.str q.2.it.Zt1,.sl false (L Aj q.2.it.Zu1),.bool q.2.ok] false],_,_)]) trivial ⟨(wc (CU ap) [0]),trivial⟩) Ev ?_
       refine Bd fun t aq =>Te [0,2] (Ar (l:=[]) (m:=[(124,99,[.ref 0 0],[.box [.sl false (L Ag s.p.Zg1.Ze),.sl false (L Am s.p.Zg1.Zf),.sl false (L Ab s.p.Zh1.Zx),.sl false (L Ae s.p.Zh1.Zy),.sl false (L Ai s.p.Zh1.Zz),.sl false (L Ah s.p.Zh1.Za1),.sl false (L Af s.p.Zi1),.sl false (L Ad s.p.Zj1),.sl false (L Ac s.p.Zk1),i64 s.it.Za,i64 s.it.Ref.Zb,i64 s.it.Ref.No,i64 s.it.Zn1,i64 s.it.Zb1,i64 s.it.Zc,i64 s.it.Zo1,i64 s.it.Zw,i64 s.it.To,i64 s.it.Code,i64 s.it.Zp1,i64 s.it.Zq1,i64 s.it.Zr1,i64 s.it.Zs1,.str s.it.Zt1,.sl false (L Aj s.it.Zu1),.bool s.ok] false],_,_)]) trivial ⟨(wc (Bs aq) [0]),trivial⟩) Ev ?_
       refine T0 [0,2,129] ?_;refine Cd ?_ ?_
       ·refine Bd fun aA ar =>Fe [] (Ar (l:=[]) (m:=[(134,98,[.ref 0 0,.ref 0 18,i64 0,i64 1],[.box [.sl false (L Ag t.p.Zg1.Ze),.sl false (L Am t.p.Zg1.Zf),.sl false (L Ab t.p.Zh1.Zx),.sl false (L Ae t.p.Zh1.Zy),.sl false (L Ai t.p.Zh1.Zz),.sl false (L Ah t.p.Zh1.Za1),.sl false (L Af t.p.Zi1),.sl false (L Ad t.p.Zj1),.sl false (L Ac t.p.Zk1),i64 t.it.Za,i64 t.it.Ref.Zb,i64 t.it.Ref.No,i64 t.it.Zn1,i64 t.it.Zb1,i64 t.it.Zc,i64 t.it.Zo1,i64 t.it.Zw,i64 t.it.To,i64 t.it.Code,i64 t.it.Zp1,i64 t.it.Zq1,i64 t.it.Zr1,i64 t.it.Zs1,.str t.it.Zt1,.sl false (L Aj t.it.Zu1),.bool t.ok] false],_,_)]) trivial ⟨(wc (BN ar) [0]),trivial⟩) Ev ?_
        exact Bn <|Ro [0]
       ·exact Sk <|Bn <|Ro [0]
      ·exact Sk <|Bn <|Ro [0]
theorem Jz{a g r}(h:Hd a g=some r):Con B 104 [.sl false (L Aj a),.bool g] [] (fun r' σ'=>r'=.bool r∧σ'=[]):=by
 refine Cw 43 [.tmp 4] Tryd.func104 (fun F hE=>?_) h;unfold Hd;refine T0 [0,1] ?_;refine Jo (fun _=>⟨Aq 43 [(0,.sl false (L Aj a))],[]⟩) ?_ ?_
 ·intro w m;refine T0 [0,1,7,8,9] ?_;refine Sb ?_;refine Lo (fun i=>⟨Aq 43 [(0,.sl false (L Aj a)),(1,.bool g),(7,.sl false (L Aj a)),(8,i64 (a.length:Int)),(9,i64 i)],[]⟩) (ws []) ?_;rintro i x n j k;show Eo a g i=some n→_;unfold Eo;refine T0 [0,1,7,8,9,10] ?_;refine Sq <|Cd ?_ ?_
  ·refine Sk <|Tn <|Sq <|Sb <|Ck fun o =>Lt fun p q =>Lt fun s t =>Lt fun u v =>Te (σ':=[.box [i64 p,i64 s,.bool u] false]) [0,1,6,7,8,9] Aa (Ew4 (qR o) q t v) ?_
   refine Tw [0,1,7,8,9,38] (fun l=>⟨Aq 43 [(0,.sl false (L Aj a)),(1,.bool g),(7,.sl false (L Aj a)),(8,i64 (a.length:Int)),(9,i64 i),(38,.bool l)],[]⟩) ?_ ?_
   ·intro _;refine Sp (fun b=>?_) fun b=>?_
    ·exact Lf Aa (Ew1 b) (ws [])
    ·refine Sp (fun c=>?_) fun c=>?_
     ·exact Lf Aa (Ew2 b c) (ws [])
     ·refine Sp (fun d=>?_) fun d=>?_
      ·exact Lf Aa (Ew3 b c d) (ws [])
      ·refine Sp (fun e=>?_) fun e=>?_
       ·exact Lf Aa (Ew4 b c d e) (ws [])
       ·refine Sp (fun f=>?_) fun f=>?_
        ·exact Lf Aa (Ew5 b c d e f) (ws [] (by simp only[go_sem,b,c,d,e,f]) (by simp only[go_sem,b,c,d,e,f]))
        ·exact Lf Aa (Ew5 b c d e f) (ws [] (by simp only[go_sem,b,c,d,e,f]) (by simp only[go_sem,b,c,d,e,f]))
   intro l;refine Cd ?_ ?_
   ·refine T0 [4] ?_;exact Sr <|Br <|Tr <|Lr k j <|Br <|Jr m <|Rr
   ·refine Sk <|Bn <|Tn <|F0 [0,1,7,8,9] ?_
    exact Ln (ws [])
  ·refine Sx <|Tx <|Lx k j <|Bx <|?_
   exact Jn ((ws (l':=[(0,.sl false (L Aj a))]) (σ':=[]) []).trans (ws []))
 intro _;refine T0 [4] ?_;exact Sr <|Rr
theorem HL{a r}(h:CQ a=some r):Con B 93 [.ref 0 0] [.box [.sl false (L Ag a.p.Zg1.Ze),.sl false (L Am a.p.Zg1.Zf),.sl false (L Ab a.p.Zh1.Zx),.sl false (L Ae a.p.Zh1.Zy),.sl false (L Ai a.p.Zh1.Zz),.sl false (L Ah a.p.Zh1.Za1),.sl false (L Af a.p.Zi1),.sl false (L Ad a.p.Zj1),.sl false (L Ac a.p.Zk1),i64 a.it.Za,i64 a.it.Ref.Zb,i64 a.it.Ref.No,i64 a.it.Zn1,i64 a.it.Zb1,i64 a.it.Zc,i64 a.it.Zo1,i64 a.it.Zw,i64 a.it.To,i64 a.it.Code,i64 a.it.Zp1,i64 a.it.Zq1,i64 a.it.Zr1,i64 a.it.Zs1,.str a.it.Zt1,.sl false (L Aj a.it.Zu1),.bool a.ok] false] (fun r' σ'=>r'=.tup []∧σ'=[.box [.sl false (L Ag r.p.Zg1.Ze),.sl false (L Am r.p.Zg1.Zf),.sl false (L Ab r.p.Zh1.Zx),.sl false (L Ae r.p.Zh1.Zy),.sl false (L Ai r.p.Zh1.Zz),.sl false (L Ah r.p.Zh1.Za1),.sl false (L Af r.p.Zi1),.sl false (L Ad r.p.Zj1),.sl false (L Ac r.p.Zk1),i64 r.it.Za,i64 r.it.Ref.Zb,i64 r.it.Ref.No,i64 r.it.Zn1,i64 r.it.Zb1,i64 r.it.Zc,i64 r.it.Zo1,i64 r.it.Zw,i64 r.it.To,i64 r.it.Code,i64 r.it.Zp1,i64 r.it.Zq1,i64 r.it.Zr1,i64 r.it.Zs1,.str r.it.Zt1,.sl false (L Aj r.it.Zu1),.bool r.ok] false]):=by
 refine Co 1 168 [] Tryd.func93 (fun F hE=>?_) h;unfold CQ;refine T0 [0,2] ?_;refine T0 [0,2,9] ?_;refine Sb <|T0 [0,2,9,13] ?_
 refine Cd ?_ ?_
 ·refine Bd fun c af =>Te [0,2] (Ar (l:=[]) (m:=[(16,97,[.ref 0 0],[.box [.sl false (L Ag a.p.Zg1.Ze),.sl false (L Am a.p.Zg1.Zf),.sl false (L Ab a.p.Zh1.Zx),.sl false (L Ae a.p.Zh1.Zy),.sl false (L Ai a.p.Zh1.Zz),.sl false (L Ah a.p.Zh1.Za1),.sl false (L Af a.p.Zi1),.sl false (L Ad a.p.Zj1),.sl false (L Ac a.p.Zk1),i64 a.it.Za,i64 a.it.Ref.Zb,i64 a.it.Ref.No,i64 a.it.Zn1,i64 a.it.Zb1,i64 a.it.Zc,i64 a.it.Zo1,i64 a.it.Zw,i64 a.it.To,i64 a.it.Code,i64 a.it.Zp1,i64 a.it.Zq1,i64 a.it.Zr1,i64 a.it.Zs1,.str a.it.Zt1,.sl false (L Aj a.it.Zu1),.bool a.ok] false],_,_)]) trivial ⟨(wc (DF af) [0]),trivial⟩) Ev ?_
  refine Bd fun d ag =>Te [0,2] (Ar (l:=[]) (m:=[(18,99,[.ref 0 0],[.box [.sl false (L Ag c.p.Zg1.Ze),.sl false (L Am c.p.Zg1.Zf),.sl false (L Ab c.p.Zh1.Zx),.sl false (L Ae c.p.Zh1.Zy),.sl false (L Ai c.p.Zh1.Zz),.sl false (L Ah c.p.Zh1.Za1),.sl false (L Af c.p.Zi1),.sl false (L Ad c.p.Zj1),.sl false (L Ac c.p.Zk1),i64 c.it.Za,i64 c.it.Ref.Zb,i64 c.it.Ref.No,i64 c.it.Zn1,i64 c.it.Zb1,i64 c.it.Zc,i64 c.it.Zo1,i64 c.it.Zw,i64 c.it.To,i64 c.it.Code,i64 c.it.Zp1,i64 c.it.Zq1,i64 c.it.Zr1,i64 c.it.Zs1,.str c.it.Zt1,.sl false (L Aj c.it.Zu1),.bool c.ok] false],_,_)]) trivial ⟨(wc (Bs ag) [0]),trivial⟩) Ev ?_
  refine Bd fun aB ah =>Fe [] (Ar (l:=[]) (m:=[(23,98,[.ref 0 0,.ref 0 18,i64 1,i64 9],[.box [.sl false (L Ag d.p.Zg1.Ze),.sl false (L Am d.p.Zg1.Zf),.sl false (L Ab d.p.Zh1.Zx),.sl false (L Ae d.p.Zh1.Zy),.sl false (L Ai d.p.Zh1.Zz),.sl false (L Ah d.p.Zh1.Za1),.sl false (L Af d.p.Zi1),.sl false (L Ad d.p.Zj1),.sl false (L Ac d.p.Zk1),i64 d.it.Za,i64 d.it.Ref.Zb,i64 d.it.Ref.No,i64 d.it.Zn1,i64 d.it.Zb1,i64 d.it.Zc,i64 d.it.Zo1,i64 d.it.Zw,i64 d.it.To,i64 d.it.Code,i64 d.it.Zp1,i64 d.it.Zq1,i64 d.it.Zr1,i64 d.it.Zs1,.str d.it.Zt1,.sl false (L Aj d.it.Zu1),.bool d.ok] false],_,_)]) trivial ⟨(wc (BN ah) [0]),trivial⟩) Ev ?_
  exact Bn <|Ro [0]
 ·refine T0 [0,2,9,24] ?_;refine Cd ?_ ?_
  ·refine Bd fun e ai =>Te [0,2] (Ar (l:=[]) (m:=[(27,97,[.ref 0 0],[.box [.sl false (L Ag a.p.Zg1.Ze),.sl false (L Am a.p.Zg1.Zf),.sl false (L Ab a.p.Zh1.Zx),.sl false (L Ae a.p.Zh1.Zy),.sl false (L Ai a.p.Zh1.Zz),.sl false (L Ah a.p.Zh1.Za1),.sl false (L Af a.p.Zi1),.sl false (L Ad a.p.Zj1),.sl false (L Ac a.p.Zk1),i64 a.it.Za,i64 a.it.Ref.Zb,i64 a.it.Ref.No,i64 a.it.Zn1,i64 a.it.Zb1,i64 a.it.Zc,i64 a.it.Zo1,i64 a.it.Zw,i64 a.it.To,i64 a.it.Code,i64 a.it.Zp1,i64 a.it.Zq1,i64 a.it.Zr1,i64 a.it.Zs1,.str a.it.Zt1,.sl false (L Aj a.it.Zu1),.bool a.ok] false],_,_)]) trivial ⟨(wc (DF ai) [0]),trivial⟩) Ev ?_
   refine Bd fun f aj =>Te [0,2] (Ar (l:=[]) (m:=[(29,100,[.ref 0 0,i64 5],[.box [.sl false (L Ag e.p.Zg1.Ze),.sl false (L Am e.p.Zg1.Zf),.sl false (L Ab e.p.Zh1.Zx),.sl false (L Ae e.p.Zh1.Zy),.sl false (L Ai e.p.Zh1.Zz),.sl false (L Ah e.p.Zh1.Za1),.sl false (L Af e.p.Zi1),.sl false (L Ad e.p.Zj1),.sl false (L Ac e.p.Zk1),i64 e.it.Za,i64 e.it.Ref.Zb,i64 e.it.Ref.No,i64 e.it.Zn1,i64 e.it.Zb1,i64 e.it.Zc,i64 e.it.Zo1,i64 e.it.Zw,i64 e.it.To,i64 e.it.Code,i64 e.it.Zp1,i64 e.it.Zq1,i64 e.it.Zr1,i64 e.it.Zs1,.str e.it.Zt1,.sl false (L Aj e.it.Zu1),.bool e.ok] false],_,_)]) trivial ⟨(wc (B1 aj) [0]),trivial⟩) Ev ?_
   refine Bd fun g ak =>Te [0,2] (Ar (l:=[]) (m:=[(31,101,[.ref 0 0],[.box [.sl false (L Ag f.2.p.Zg1.Ze),.sl false (L Am f.2.p.Zg1.Zf),.sl false (L Ab f.2.p.Zh1.Zx),.sl false (L Ae f.2.p.Zh1.Zy),.sl false (L Ai f.2.p.Zh1.Zz),.sl false (L Ah f.2.p.Zh1.Za1),.sl false (L Af f.2.p.Zi1),.sl false (L Ad f.2.p.Zj1),.sl false (L Ac f.2.p.Zk1),i64 f.2.it.Za,i64 f.2.it.Ref.Zb,i64 f.2.it.Ref.No,i64 f.2.it.Zn1,i64 f.2.it.Zb1,i64 f.2.it.Zc,i64 f.2.it.Zo1,i64 f.2.it.Zw,i64 f.2.it.To,i64 f.2.it.Code,i64 f.2.it.Zp1,i64 f.2.it.Zq1,i64 f.2.it.Zr1,i64 f.2.it.Zs1,.str f.2.it.Zt1,.sl false (L Aj f.2.it.Zu1),.bool f.2.ok] false],_,_)]) trivial ⟨(wc (DW ak) [0]),trivial⟩) Ev ?_
   refine Bd fun i al =>Te [0,2] (Ar (l:=[]) (m:=[(36,98,[.ref 0 0,.ref 0 18,i64 1,i64 2],[.box [.sl false (L Ag g.p.Zg1.Ze),.sl false (L Am g.p.Zg1.Zf),.sl false (L Ab g.p.Zh1.Zx),.sl false (L Ae g.p.Zh1.Zy),.sl false (L Ai g.p.Zh1.Zz),.sl false (L Ah g.p.Zh1.Za1),.sl false (L Af g.p.Zi1),.sl false (L Ad g.p.Zj1),.sl false (L Ac g.p.Zk1),i64 g.it.Za,i64 g.it.Ref.Zb,i64 g.it.Ref.No,i64 g.it.Zn1,i64 g.it.Zb1,i64 g.it.Zc,i64 g.it.Zo1,i64 g.it.Zw,i64 g.it.To,i64 g.it.Code,i64 g.it.Zp1,i64 g.it.Zq1,i64 g.it.Zr1,i64 g.it.Zs1,.str g.it.Zt1,.sl false (L Aj g.it.Zu1),.bool g.ok] false],_,_)]) trivial ⟨(wc (BN al) [0]),trivial⟩) Ev ?_
   refine Bd fun t am =>Te [0,2] (Ar (l:=[]) (m:=[(41,98,[.ref 0 0,.ref 0 22,i64 0,i64 1000000000],[.box [.sl false (L Ag i.p.Zg1.Ze),.sl false (L Am i.p.Zg1.Zf),.sl false (L Ab i.p.Zh1.Zx),.sl false (L Ae i.p.Zh1.Zy),.sl false (L Ai i.p.Zh1.Zz),.sl false (L Ah i.p.Zh1.Za1),.sl false (L Af i.p.Zi1),.sl false (L Ad i.p.Zj1),.sl false (L Ac i.p.Zk1),i64 i.it.Za,i64 i.it.Ref.Zb,i64 i.it.Ref.No,i64 i.it.Zn1,i64 i.it.Zb1,i64 i.it.Zc,i64 i.it.Zo1,i64 i.it.Zw,i64 i.it.To,i64 i.it.Code,i64 i.it.Zp1,i64 i.it.Zq1,i64 i.it.Zr1,i64 i.it.Zs1,.str i.it.Zt1,.sl false (L Aj i.it.Zu1),.bool i.ok] false],_,_)]) trivial ⟨(wc (DZ am) [0]),trivial⟩) Ev ?_
   refine Tw [2] (fun ab=>⟨Aq 168 [(2,.ref 0 9)],[.box [.sl false (L Ag t.p.Zg1.Ze),.sl false (L Am t.p.Zg1.Zf),.sl false (L Ab t.p.Zh1.Zx),.sl false (L Ae t.p.Zh1.Zy),.sl false (L Ai t.p.Zh1.Zz),.sl false (L Ah t.p.Zh1.Za1),.sl false (L Af t.p.Zi1),.sl false (L Ad t.p.Zj1),.sl false (L Ac t.p.Zk1),i64 t.it.Za,i64 t.it.Ref.Zb,i64 t.it.Ref.No,i64 t.it.Zn1,i64 t.it.Zb1,i64 t.it.Zc,i64 t.it.Zo1,i64 t.it.Zw,i64 t.it.To,i64 t.it.Code,i64 t.it.Zp1,i64 t.it.Zq1,i64 t.it.Zr1,i64 t.it.Zs1,.str t.it.Zt1,.sl false (L Aj t.it.Zu1),.bool ab] false]⟩) ?_ ?_
   ·intro _;refine Sp (fun y=>?_) fun y=>?_
    ·refine Bd fun aC an=>?_
     exact Lf (o1 52 (Jz an)) (Ew1 y) (ws [0])
    ·exact Lf Aa (Ew1 y) (ws [0])
   intro ab;refine F0 [] ?_;exact Bn <|Ro [0]
  ·refine T0 [0,2,9,59] ?_;refine Cd ?_ ?_
   ·refine Bd fun u ao =>Te [0,2] (Ar (l:=[]) (m:=[(65,98,[.ref 0 0,.ref 0 14,i64 0,i64 63],[.box [.sl false (L Ag a.p.Zg1.Ze),.sl false (L Am a.p.Zg1.Zf),.sl false (L Ab a.p.Zh1.Zx),.sl false (L Ae a.p.Zh1.Zy),.sl false (L Ai a.p.Zh1.Zz),.sl false (L Ah a.p.Zh1.Za1),.sl false (L Af a.p.Zi1),.sl false (L Ad a.p.Zj1),.sl false (L Ac a.p.Zk1),i64 a.it.Za,i64 a.it.Ref.Zb,i64 a.it.Ref.No,i64 a.it.Zn1,i64 a.it.Zb1,i64 a.it.Zc,i64 a.it.Zo1,i64 a.it.Zw,i64 a.it.To,i64 a.it.Code,i64 a.it.Zp1,i64 a.it.Zq1,i64 a.it.Zr1,i64 a.it.Zs1,.str a.it.Zt1,.sl false (L Aj a.it.Zu1),.bool a.ok] false],_,_)]) trivial ⟨(wc (CJ ao) [0]),trivial⟩) Ev ?_
    refine Tw [2] (fun ac=>⟨Aq 168 [(2,.ref 0 9)],[.box [.sl false (L Ag u.p.Zg1.Ze),.sl false (L Am u.p.Zg1.Zf),.sl false (L Ab u.p.Zh1.Zx),.sl false (L Ae u.p.Zh1.Zy),.sl false (L Ai u.p.Zh1.Zz),.sl false (L Ah u.p.Zh1.Za1),.sl false (L Af u.p.Zi1),.sl false (L Ad u.p.Zj1),.sl false (L Ac u.p.Zk1),i64 u.it.Za,i64 u.it.Ref.Zb,i64 u.it.Ref.No,i64 u.it.Zn1,i64 u.it.Zb1,i64 u.it.Zc,i64 u.it.Zo1,i64 u.it.Zw,i64 u.it.To,i64 u.it.Code,i64 u.it.Zp1,i64 u.it.Zq1,i64 u.it.Zr1,i64 u.it.Zs1,.str u.it.Zt1,.sl false (L Aj u.it.Zu1),.bool ac] false]⟩) ?_ ?_
    ·intro _;refine Sp (fun w=>?_) fun w=>?_
     ·refine Sp (fun z=>?_) fun z=>?_
      ·refine Bd fun aD ap=>?_
       exact Lf (o1 84 (Jz ap)) (Ew2 w z) (ws [0])
      ·exact Lf Aa (Ew2 w z) (ws [0])
     ·exact Lf Aa (Ew1 w) (ws [0])
    intro ac;refine F0 [] ?_;exact Bn <|Ro [0]
   ·refine Ja (fun ad=>⟨Aq 168 [(0,.ref 0 0),(2,.ref 0 9),(9,i64 a.it.Za),(91,.bool ad)],[.box [.sl false (L Ag a.p.Zg1.Ze),.sl false (L Am a.p.Zg1.Zf),.sl false (L Ab a.p.Zh1.Zx),.sl false (L Ae a.p.Zh1.Zy),.sl false (L Ai a.p.Zh1.Zz),.sl false (L Ah a.p.Zh1.Za1),.sl false (L Af a.p.Zi1),.sl false (L Ad a.p.Zj1),.sl false (L Ac a.p.Zk1),i64 a.it.Za,i64 a.it.Ref.Zb,i64 a.it.Ref.No,i64 a.it.Zn1,i64 a.it.Zb1,i64 a.it.Zc,i64 a.it.Zo1,i64 a.it.Zw,i64 a.it.To,i64 a.it.Code,i64 a.it.Zp1,i64 a.it.Zq1,i64 a.it.Zr1,i64 a.it.Zs1,.str a.it.Zt1,.sl false (L Aj a.it.Zu1),.bool a.ok] false]⟩) ?_ ?_
    ·intro aE;refine T0 [0,2,9,91] ?_;refine Cd ?_ ?_
     ·exact Sk <|Jm (ws [0])
     ·refine T0 [0,2,9,91] ?_;refine Cd ?_ ?_
      ·exact Sk <|Jm (ws [0])
      ·refine F0 [0,2,9,91] ?_;exact Jm (ws [0])
    intro ad;refine Cd ?_ ?_
    ·refine Bd fun j aq =>Te [0,2] (Ar (l:=[]) (m:=[(99,98,[.ref 0 0,.ref 0 15,i64 1,i64 6],[.box [.sl false (L Ag a.p.Zg1.Ze),.sl false (L Am a.p.Zg1.Zf),.sl false (L Ab a.p.Zh1.Zx),.sl false (L Ae a.p.Zh1.Zy),.sl false (L Ai a.p.Zh1.Zz),.sl false (L Ah a.p.Zh1.Za1),.sl false (L Af a.p.Zi1),.sl false (L Ad a.p.Zj1),.sl false (L Ac a.p.Zk1),i64 a.it.Za,i64 a.it.Ref.Zb,i64 a.it.Ref.No,i64 a.it.Zn1,i64 a.it.Zb1,i64 a.it.Zc,i64 a.it.Zo1,i64 a.it.Zw,i64 a.it.To,i64 a.it.Code,i64 a.it.Zp1,i64 a.it.Zq1,i64 a.it.Zr1,i64 a.it.Zs1,.str a.it.Zt1,.sl false (L Aj a.it.Zu1),.bool a.ok] false],_,_)]) trivial ⟨(wc (CL aq) [0]),trivial⟩) Ev ?_
     refine Bd fun v ar =>Te [0,2] (Ar (l:=[]) (m:=[(101,99,[.ref 0 0],[.box [.sl false (L Ag j.p.Zg1.Ze),.sl false (L Am j.p.Zg1.Zf),.sl false (L Ab j.p.Zh1.Zx),.sl false (L Ae j.p.Zh1.Zy),.sl false (L Ai j.p.Zh1.Zz),.sl false (L Ah j.p.Zh1.Za1),.sl false (L Af j.p.Zi1),.sl false (L Ad j.p.Zj1),.sl false (L Ac j.p.Zk1),i64 j.it.Za,i64 j.it.Ref.Zb,i64 j.it.Ref.No,i64 j.it.Zn1,i64 j.it.Zb1,i64 j.it.Zc,i64 j.it.Zo1,i64 j.it.Zw,i64 j.it.To,i64 j.it.Code,i64 j.it.Zp1,i64 j.it.Zq1,i64 j.it.Zr1,i64 j.it.Zs1,.str j.it.Zt1,.sl false (L Aj j.it.Zu1),.bool j.ok] false],_,_)]) trivial ⟨(wc (Bs ar) [0]),trivial⟩) Ev ?_
     refine T0 [0,2,106] ?_;refine Cd ?_ ?_
     ·refine Tw [2] (fun ae=>⟨Aq 168 [(2,.ref 0 9)],[.box [.sl false (L Ag v.p.Zg1.Ze),.sl false (L Am v.p.Zg1.Zf),.sl false (L Ab v.p.Zh1.Zx),.sl false (L Ae v.p.Zh1.Zy),.sl false (L Ai v.p.Zh1.Zz),.sl false (L Ah v.p.Zh1.Za1),.sl false (L Af v.p.Zi1),.sl false (L Ad v.p.Zj1),.sl false (L Ac v.p.Zk1),i64 v.it.Za,i64 v.it.Ref.Zb,i64 v.it.Ref.No,i64 v.it.Zn1,i64 v.it.Zb1,i64 v.it.Zc,i64 v.it.Zo1,i64 v.it.Zw,i64 v.it.To,i64 v.it.Code,i64 v.it.Zp1,i64 v.it.Zq1,i64 v.it.Zr1,i64 v.it.Zs1,.str v.it.Zt1,.sl false (L Aj v.it.Zu1),.bool ae] false]⟩) ?_ ?_
      ·intro _;refine Sp (fun x=>?_) fun x=>?_
       ·refine Sp (fun aa=>?_) fun aa=>?_
        ·exact Lf Aa (Ew2 x aa) (ws [0])
        ·exact Lf Aa (Ew2 x aa) (ws [0])
       ·exact Lf Aa (Ew1 x) (ws [0])
      intro ae;refine F0 [] ?_;exact Bn <|Ro [0]
     ·exact Sk <|Bn <|Ro [0]
    ·refine T0 [0,2,9,133] ?_;refine Cd ?_ ?_
     ·exact Sk <|Bn <|Ro [0]
     ·refine T0 [0,2,135] ?_;refine Cd ?_ ?_
      ·refine Bd fun k au =>Te [0,2] (Ar (l:=[]) (m:=[(138,102,[.ref 0 0],[.box [.sl false (L Ag a.p.Zg1.Ze),.sl false (L Am a.p.Zg1.Zf),.sl false (L Ab a.p.Zh1.Zx),.sl false (L Ae a.p.Zh1.Zy),.sl false (L Ai a.p.Zh1.Zz),.sl false (L Ah a.p.Zh1.Za1),.sl false (L Af a.p.Zi1),.sl false (L Ad a.p.Zj1),.sl false (L Ac a.p.Zk1),i64 a.it.Za,i64 a.it.Ref.Zb,i64 a.it.Ref.No,i64 a.it.Zn1,i64 a.it.Zb1,i64 a.it.Zc,i64 a.it.Zo1,i64 a.it.Zw,i64 a.it.To,i64 a.it.Code,i64 a.it.Zp1,i64 a.it.Zq1,i64 a.it.Zr1,i64 a.it.Zs1,.str a.it.Zt1,.sl false (L Aj a.it.Zu1),.bool a.ok] false],_,_)]) trivial ⟨(wc (CU au) [0]),trivial⟩) Ev ?_
       refine Bd fun n av =>Te [0,2] (Ar (l:=[]) (m:=[(140,100,[.ref 0 0,i64 0],[.box [.sl false (L Ag k.p.Zg1.Ze),.sl false (L Am k.p.Zg1.Zf),.sl false (L Ab k.p.Zh1.Zx),.sl false (L Ae k.p.Zh1.Zy),.sl false (L Ai k.p.Zh1.Zz),.sl false (L Ah k.p.Zh1.Za1),.sl false (L Af k.p.Zi1),.sl false (L Ad k.p.Zj1),.sl false (L Ac k.p.Zk1),i64 k.it.Za,i64 k.it.Ref.Zb,i64 k.it.Ref.No,i64 k.it.Zn1,i64 k.it.Zb1,i64 k.it.Zc,i64 k.it.Zo1,i64 k.it.Zw,i64 k.it.To,i64 k.it.Code,i64 k.it.Zp1,i64 k.it.Zq1,i64 k.it.Zr1,i64 k.it.Zs1,.str k.it.Zt1,.sl false (L Aj k.it.Zu1),.bool k.ok] false],_,_)]) trivial ⟨(wc (B1 av) [0]),trivial⟩) Ev ?_
       refine Bd fun b aw =>Te [0,2] (Ar (l:=[]) (m:=[(142,103,[.ref 0 0],[.box [.sl false (L Ag n.2.p.Zg1.Ze),.sl false (L Am n.2.p.Zg1.Zf),.sl false (L Ab n.2.p.Zh1.Zx),.sl false (L Ae n.2.p.Zh1.Zy),.sl false (L Ai n.2.p.Zh1.Zz),.sl false (L Ah n.2.p.Zh1.Za1),.sl false (L Af n.2.p.Zi1),.sl false (L Ad n.2.p.Zj1),.sl false (L Ac n.2.p.Zk1),i64 n.2.it.Za,i64 n.2.it.Ref.Zb,i64 n.2.it.Ref.No,i64 n.2.it.Zn1,i64 n.2.it.Zb1,i64 n.2.it.Zc,i64 n.2.it.Zo1,i64 n.2.it.Zw,i64 n.2.it.To,i64 n.2.it.Code,i64 n.2.it.Zp1,i64 n.2.it.Zq1,i64 n.2.it.Zr1,i64 n.2.it.Zs1,.str n.2.it.Zt1,.sl false (L Aj n.2.it.Zu1),.bool n.2.ok] false],_,_)]) trivial ⟨(wc (Fq aw) [0]),trivial⟩) Ev ?_
       refine Bd fun o ax =>De [[],[],[1],[1,2],[],[4],[4,5],[4,5,6],[4,5,6,7],[4,5,6,7,8],[4,5,6,7,8,9],[4,5,6,7,8,9,10],[0,1,2,3,4,5,6,7,8,9,10,11]] [0,2] (Ar (l:=[]) (m:=[(155,98,[.ref 0 0,.ref 0 15,i64 0,i64 (w64 ((b.p.Zh1.Zx.length:Int)-1))],[.box [.sl false (L Ag b.p.Zg1.Ze),.sl false (L Am b.p.Zg1.Zf),.sl false (L Ab b.p.Zh1.Zx),.sl false (L Ae b.p.Zh1.Zy),.sl false (L Ai b.p.Zh1.Zz),.sl false (L Ah b.p.Zh1.Za1),.sl false (L Af b.p.Zi1),.sl false (L Ad b.p.Zj1),.sl false (L Ac b.p.Zk1),i64 b.it.Za,i64 b.it.Ref.Zb,i64 b.it.Ref.No,i64 b.it.Zn1,i64 b.it.Zb1,i64 b.it.Zc,i64 b.it.Zo1,i64 b.it.Zw,i64 b.it.To,i64 b.it.Code,i64 b.it.Zp1,i64 b.it.Zq1,i64 b.it.Zr1,i64 b.it.Zs1,.str b.it.Zt1,.sl false (L Aj b.it.Zu1),.bool b.ok] false],_,_)]) trivial ⟨(wc (CL ax) [0]),trivial⟩) Ev ?_
       refine Bd fun q ay =>Te [0,2] (Ar (l:=[]) (m:=[(160,98,[.ref 0 0,.ref 0 21,i64 1,i64 1000],[.box [.sl false (L Ag o.p.Zg1.Ze),.sl false (L Am o.p.Zg1.Zf),.sl false (L Ab o.p.Zh1.Zx),.sl false (L Ae o.p.Zh1.Zy),.sl false (L Ai o.p.Zh1.Zz),.sl false (L Ah o.p.Zh1.Za1),.sl false (L Af o.p.Zi1),.sl false (L Ad o.p.Zj1),.sl false (L Ac o.p.Zk1),i64 o.it.Za,i64 o.it.Ref.Zb,i64 o.it.Ref.No,i64 o.it.Zn1,i64 o.it.Zb1,i64 o.it.Zc,i64 o.it.Zo1,i64 o.it.Zw,i64 o.it.To,i64 o.it.Code,i64 o.it.Zp1,i64 o.it.Zq1,i64 o.it.Zr1,i64 o.it.Zs1,.str o.it.Zt1,.sl false (L Aj o.it.Zu1),.bool o.ok] false],_,_)]) trivial ⟨(wc (Eb ay) [0]),trivial⟩) Ev ?_
       refine Bd fun s az =>Te [0,2] (Ar (l:=[]) (m:=[(162,101,[.ref 0 0],[.box [.sl false (L Ag q.p.Zg1.Ze),.sl false (L Am q.p.Zg1.Zf),.sl false (L Ab q.p.Zh1.Zx),.sl false (L Ae q.p.Zh1.Zy),.sl false (L Ai q.p.Zh1.Zz),.sl false (L Ah q.p.Zh1.Za1),.sl false (L Af q.p.Zi1),.sl false (L Ad q.p.Zj1),.sl false (L Ac q.p.Zk1),i64 q.it.Za,i64 q.it.Ref.Zb,i64 q.it.Ref.No,i64 q.it.Zn1,i64 q.it.Zb1,i64 q.it.Zc,i64 q.it.Zo1,i64 q.it.Zw,i64 q.it.To,i64 q.it.Code,i64 q.it.Zp1,i64 q.it.Zq1,i64 q.it.Zr1,i64 q.it.Zs1,.str q.it.Zt1,.sl false (L Aj q.it.Zu1),.bool q.ok] false],_,_)]) trivial ⟨(wc (DW az) [0]),trivial⟩) Ev ?_
       refine Bd fun aF aA =>Fe [] (Ar (l:=[]) (m:=[(167,98,[.ref 0 0,.ref 0 22,i64 0,i64 1000000000],[.box [.sl false (L Ag s.p.Zg1.Ze),.sl false (L Am s.p.Zg1.Zf),.sl false (L Ab s.p.Zh1.Zx),.sl false (L Ae s.p.Zh1.Zy),.sl false (L Ai s.p.Zh1.Zz),.sl false (L Ah s.p.Zh1.Za1),.sl false (L Af s.p.Zi1),.sl false (L Ad s.p.Zj1),.sl false (L Ac s.p.Zk1),i64 s.it.Za,i64 s.it.Ref.Zb,i64 s.it.Ref.No,i64 s.it.Zn1,i64 s.it.Zb1,i64 s.it.Zc,i64 s.it.Zo1,i64 s.it.Zw,i64 s.it.To,i64 s.it.Code,i64 s.it.Zp1,i64 s.it.Zq1,i64 s.it.Zr1,i64 s.it.Zs1,.str s.it.Zt1,.sl false (L Aj s.it.Zu1),.bool s.ok] false],_,_)]) trivial ⟨(wc (DZ aA) [0]),trivial⟩) Ev ?_
       exact Bn <|Ro [0]
      ·refine F0 [] ?_;exact Bn <|Ro [0]
theorem NH{b a r}(h:GU b a=some r):Con B 80 [.agg (Av b),.agg (A3 a)] [] (fun r' σ'=>r'=.bool r∧σ'=[]):=by
 refine Cw 46 [.tmp 4] Tryd.func80 (fun F hE=>?_) h;unfold GU;refine T0 [2,3] ?_;refine T0 [3,5] ?_;refine Ja (fun⟨c,d,e,f,g,i,j,k,n,o,p,q,s,t,u,v,w,x,y,z,aa,ab,ac,ad,ae,ah⟩=>⟨Aq 46 [(5,.ref 0 0)],[.box [.sl false (L Ag c),.sl false (L Am d),.sl false (L Ab e),.sl false (L Ae f),.sl false (L Ai g),.sl false (L Ah i),.sl false (L Af j),.sl false (L Ad k),.sl false (L Ac n),i64 o,i64 p,i64 q,i64 s,i64 t,i64 u,i64 v,i64 w,i64 x,i64 y,i64 z,i64 aa,i64 ab,i64 ac,.str ad,.sl false (L Aj ae),.bool ah] false]⟩) ?_ ?_
 ·intro a6;refine T0 [5,13] ?_;refine Cd ?_ ?_
  ·refine Bd fun a7 aT =>Fe [5] (Ar (l:=[]) (m:=[(14,92,[.ref 2 0],[.box (Av b) false,.box (A3 a) false,.box [.sl false (L Ag b.Zg1.Ze),.sl false (L Am b.Zg1.Zf),.sl false (L Ab b.Zh1.Zx),.sl false (L Ae b.Zh1.Zy),.sl false (L Ai b.Zh1.Zz),.sl false (L Ah b.Zh1.Za1),.sl false (L Af b.Zi1),.sl false (L Ad b.Zj1),.sl false (L Ac b.Zk1),i64 a.Za,i64 a.Ref.Zb,i64 a.Ref.No,i64 a.Zn1,i64 a.Zb1,i64 a.Zc,i64 a.Zo1,i64 a.Zw,i64 a.To,i64 a.Code,i64 a.Zp1,i64 a.Zq1,i64 a.Zr1,i64 a.Zs1,.str a.Zt1,.sl false (L Aj a.Zu1),.bool true] false],_,_)]) trivial ⟨(wc (GO aT) [2]),trivial⟩) Ev ?_
   exact Jm (ws [2])
  ·refine Bd fun a8 aU =>Fe [5] (Ar (l:=[]) (m:=[(15,93,[.ref 2 0],[.box (Av b) false,.box (A3 a) false,.box [.sl false (L Ag b.Zg1.Ze),.sl false (L Am b.Zg1.Zf),.sl false (L Ab b.Zh1.Zx),.sl false (L Ae b.Zh1.Zy),.sl false (L Ai b.Zh1.Zz),.sl false (L Ah b.Zh1.Za1),.sl false (L Af b.Zi1),.sl false (L Ad b.Zj1),.sl false (L Ac b.Zk1),i64 a.Za,i64 a.Ref.Zb,i64 a.Ref.No,i64 a.Zn1,i64 a.Zb1,i64 a.Zc,i64 a.Zo1,i64 a.Zw,i64 a.To,i64 a.Code,i64 a.Zp1,i64 a.Zq1,i64 a.Zr1,i64 a.Zs1,.str a.Zt1,.sl false (L Aj a.Zu1),.bool true] false],_,_)]) trivial ⟨(wc (HL aU) [2]),trivial⟩) Ev ?_
   exact Jm (ws [2])
 rintro⟨c,d,e,f,g,i,j,k,n,o,p,q,s,t,u,v,w,x,y,z,aa,ab,ac,ad,ae,ah⟩;refine Ja (fun av=>⟨Aq 46 [(5,.ref 0 0)],[.box [.sl false (L Ag c),.sl false (L Am d),.sl false (L Ab e),.sl false (L Ae f),.sl false (L Ai g),.sl false (L Ah i),.sl false (L Af j),.sl false (L Ad k),.sl false (L Ac n),i64 o,i64 p,i64 q,i64 s,i64 t,i64 u,i64 v,i64 w,i64 x,i64 y,i64 z,i64 aa,i64 ab,i64 ac,.str ad,.sl false (L Aj ae),.bool av] false]⟩) ?_ ?_
 ·intro a9;refine Te [5,17,18] (Ar (l:=[]) (m:=[(17,86,[.ref 0 9],[.box [.sl false (L Ag c),.sl false (L Am d),.sl false (L Ab e),.sl false (L Ae f),.sl false (L Ai g),.sl false (L Ah i),.sl false (L Af j),.sl false (L Ad k),.sl false (L Ac n),i64 o,i64 p,i64 q,i64 s,i64 t,i64 u,i64 v,i64 w,i64 x,i64 y,i64 z,i64 aa,i64 ab,i64 ac,.str ad,.sl false (L Aj ae),.bool ah] false],.agg [.ref 0 12,.ref 0 13,.ref 0 14,.ref 0 15,.ref 0 16,.ref 0 17,.ref 0 18,.ref 0 19,.ref 0 20,.ref 0 21,.ref 0 22],[.box [.sl false (L Ag c),.sl false (L Am d),.sl false (L Ab e),.sl false (L Ae f),.sl false (L Ai g),.sl false (L Ah i),.sl false (L Af j),.sl false (L Ad k),.sl false (L Ac n),i64 o,i64 p,i64 q,i64 s,i64 t,i64 u,i64 v,i64 w,i64 x,i64 y,i64 z,i64 aa,i64 ab,i64 ac,.str ad,.sl false (L Aj ae),.bool ah] false])]) trivial ⟨Kl,trivial⟩) Ev ?_;refine Sb ?_;refine Ul 17 ?_;refine Ug (m:=16) ?_;refine T0 [5,17,18,19] ?_;refine Sq <|Ct <|Sk <|Tn <|Sq <|Sb <|?_
  have aw:InR 0 11:=by decide
  refine Te [5,7,17,18] Aa (Ev (by simp only[go_sem,aw,aw.2];exact AZ)) ?_;refine Fw [5,17,18] (fun ax=>⟨Aq 46 [(5,.ref 0 0),(17,.agg [.ref 0 12,.ref 0 13,.ref 0 14,.ref 0 15,.ref 0 16,.ref 0 17,.ref 0 18,.ref 0 19,.ref 0 20,.ref 0 21,.ref 0 22]),(18,i64 0)],[.box [.sl false (L Ag c),.sl false (L Am d),.sl false (L Ab e),.sl false (L Ae f),.sl false (L Ai g),.sl false (L Ah i),.sl false (L Af j),.sl false (L Ad k),.sl false (L Ac n),i64 o,i64 p,i64 q,i64 s,i64 t,i64 u,i64 v,i64 w,i64 x,i64 y,i64 z,i64 aa,i64 ab,i64 ac,.str ad,.sl false (L Aj ae),.bool ax] false]⟩) ?_ ?_
  ·intro _;refine Sp (fun ai=>?_) fun ai=>?_
   ·exact Lf Aa (Ew1 ai) (ws [0])
   ·exact Lf Aa (Ew1 ai) (ws [0])
  intro ax;refine Bn <|Tn <|?_
  have aV:w64 1=1:=by decide
  refine Fe [5,17,18] Aa (Ew1 aV) ?_;refine Un ?_;refine Ug (m:=15) ?_;refine T0 [5,17,18,19] ?_;refine Sq <|Ct <|Sk <|Tn <|Sq <|Sb <|?_
  have ay:InR 1 11:=by decide
  refine Te [5,7,17,18] Aa (Ev (by simp only[go_sem,ay,ay.2];exact AZ)) ?_;refine Fw [5,17,18] (fun az=>⟨Aq 46 [(5,.ref 0 0),(17,.agg [.ref 0 12,.ref 0 13,.ref 0 14,.ref 0 15,.ref 0 16,.ref 0 17,.ref 0 18,.ref 0 19,.ref 0 20,.ref 0 21,.ref 0 22]),(18,i64 1)],[.box [.sl false (L Ag c),.sl false (L Am d),.sl false (L Ab e),.sl false (L Ae f),.sl false (L Ai g),.sl false (L Ah i),.sl false (L Af j),.sl false (L Ad k),.sl false (L Ac n),i64 o,i64 p,i64 q,i64 s,i64 t,i64 u,i64 v,i64 w,i64 x,i64 y,i64 z,i64 aa,i64 ab,i64 ac,.str ad,.sl false (L Aj ae),.bool az] false]⟩) ?_ ?_
  ·intro _;refine Sp (fun aj=>?_) fun aj=>?_
   ·exact Lf Aa (Ew1 aj) (ws [0])
   ·exact Lf Aa (Ew1 aj) (ws [0])
  intro az;refine Bn <|Tn <|?_
  have aW:w64 2=2:=by decide
  refine Fe [5,17,18] Aa (Ew1 aW) ?_;refine Un ?_;refine Ug (m:=14) ?_;refine T0 [5,17,18,19] ?_;refine Sq <|Ct <|Sk <|Tn <|Sq <|Sb <|?_
  have aA:InR 2 11:=by decide
  refine Te [5,7,17,18] Aa (Ev (by simp only[go_sem,aA,aA.2];exact AZ)) ?_;refine Fw [5,17,18] (fun aB=>⟨Aq 46 [(5,.ref 0 0),(17,.agg [.ref 0 12,.ref 0 13,.ref 0 14,.ref 0 15,.ref 0 16,.ref 0 17,.ref 0 18,.ref 0 19,.ref 0 20,.ref 0 21,.ref 0 22]),(18,i64 2)],[.box [.sl false (L Ag c),.sl false (L Am d),.sl false (L Ab e),.sl false (L Ae f),.sl false (L Ai g),.sl false (L Ah i),.sl false (L Af j),.sl false (L Ad k),.sl false (L Ac n),i64 o,i64 p,i64 q,i64 s,i64 t,i64 u,i64 v,i64 w,i64 x,i64 y,i64 z,i64 aa,i64 ab,i64 ac,.str ad,.sl false (L Aj ae),.bool aB] false]⟩) ?_ ?_
  ·intro _;refine Sp (fun ak=>?_) fun ak=>?_
   ·exact Lf Aa (Ew1 ak) (ws [0])
   ·exact Lf Aa (Ew1 ak) (ws [0])
  intro aB;refine Bn <|Tn <|?_
  have aX:w64 3=3:=by decide
  refine Fe [5,17,18] Aa (Ew1 aX) ?_;refine Un ?_;refine Ug (m:=13) ?_;refine T0 [5,17,18,19] ?_;refine Sq <|Ct <|Sk <|Tn <|Sq <|Sb <|?_
  have aC:InR 3 11:=by decide
  refine Te [5,7,17,18] Aa (Ev (by simp only[go_sem,aC,aC.2];exact AZ)) ?_;refine Fw [5,17,18] (fun aD=>⟨Aq 46 [(5,.ref 0 0),(17,.agg [.ref 0 12,.ref 0 13,.ref 0 14,.ref 0 15,.ref 0 16,.ref 0 17,.ref 0 18,.ref 0 19,.ref 0 20,.ref 0 21,.ref 0 22]),(18,i64 3)],[.box [.sl false (L Ag c),.sl false (L Am d),.sl false (L Ab e),.sl false (L Ae f),.sl false (L Ai g),.sl false (L Ah i),.sl false (L Af j),.sl false (L Ad k),.sl false (L Ac n),i64 o,i64 p,i64 q,i64 s,i64 t,i64 u,i64 v,i64 w,i64 x,i64 y,i64 z,i64 aa,i64 ab,i64 ac,.str ad,.sl false (L Aj ae),.bool aD] false]⟩) ?_ ?_
  ·intro _;refine Sp (fun al=>?_) fun al=>?_
   ·exact Lf Aa (Ew1 al) (ws [0])
   ·exact Lf Aa (Ew1 al) (ws [0])
  intro aD;refine Bn <|Tn <|?_
  have aY:w64 4=4:=by decide
  refine Fe [5,17,18] Aa (Ew1 aY) ?_;refine Un ?_;refine Ug (m:=12) ?_;refine T0 [5,17,18,19] ?_;refine Sq <|Ct <|Sk <|Tn <|Sq <|Sb <|?_
  have aE:InR 4 11:=by decide
  refine Te [5,7,17,18] Aa (Ev (by simp only[go_sem,aE,aE.2];exact AZ)) ?_;refine Fw [5,17,18] (fun aF=>⟨Aq 46 [(5,.ref 0 0),(17,.agg [.ref 0 12,.ref 0 13,.ref 0 14,.ref 0 15,.ref 0 16,.ref 0 17,.ref 0 18,.ref 0 19,.ref 0 20,.ref 0 21,.ref 0 22]),(18,i64 4)],[.box [.sl false (L Ag c),.sl false (L Am d),.sl false (L Ab e),.sl false (L Ae f),.sl false (L Ai g),.sl false (L Ah i),.sl false (L Af j),.sl false (L Ad k),.sl false (L Ac n),i64 o,i64 p,i64 q,i64 s,i64 t,i64 u,i64 v,i64 w,i64 x,i64 y,i64 z,i64 aa,i64 ab,i64 ac,.str ad,.sl false (L Aj ae),.bool aF] false]⟩) ?_ ?_
  ·intro _;refine Sp (fun am=>?_) fun am=>?_
   ·exact Lf Aa (Ew1 am) (ws [0])
   ·exact Lf Aa (Ew1 am) (ws [0])
  intro aF;refine Bn <|Tn <|?_
  have aZ:w64 5=5:=by decide
  refine Fe [5,17,18] Aa (Ew1 aZ) ?_;refine Un ?_;refine Ug (m:=11) ?_;refine T0 [5,17,18,19] ?_;refine Sq <|Ct <|Sk <|Tn <|Sq <|Sb <|?_
  have aG:InR 5 11:=by decide
  refine Te [5,7,17,18] Aa (Ev (by simp only[go_sem,aG,aG.2];exact AZ)) ?_;refine Fw [5,17,18] (fun aH=>⟨Aq 46 [(5,.ref 0 0),(17,.agg [.ref 0 12,.ref 0 13,.ref 0 14,.ref 0 15,.ref 0 16,.ref 0 17,.ref 0 18,.ref 0 19,.ref 0 20,.ref 0 21,.ref 0 22]),(18,i64 5)],[.box [.sl false (L Ag c),.sl false (L Am d),.sl false (L Ab e),.sl false (L Ae f),.sl false (L Ai g),.sl false (L Ah i),.sl false (L Af j),.sl false (L Ad k),.sl false (L Ac n),i64 o,i64 p,i64 q,i64 s,i64 t,i64 u,i64 v,i64 w,i64 x,i64 y,i64 z,i64 aa,i64 ab,i64 ac,.str ad,.sl false (L Aj ae),.bool aH] false]⟩) ?_ ?_
  ·intro _;refine Sp (fun an=>?_) fun an=>?_
   ·exact Lf Aa (Ew1 an) (ws [0])
   ·exact Lf Aa (Ew1 an) (ws [0])
  intro aH;refine Bn <|Tn <|?_
  have a0:w64 6=6:=by decide
  refine Fe [5,17,18] Aa (Ew1 a0) ?_;refine Un ?_;refine Ug (m:=10) ?_;refine T0 [5,17,18,19] ?_;refine Sq <|Ct <|Sk <|Tn <|Sq <|Sb <|?_
  have aI:InR 6 11:=by decide
  refine Te [5,7,17,18] Aa (Ev (by simp only[go_sem,aI,aI.2];exact AZ)) ?_;refine Fw [5,17,18] (fun aJ=>⟨Aq 46 [(5,.ref 0 0),(17,.agg [.ref 0 12,.ref 0 13,.ref 0 14,.ref 0 15,.ref 0 16,.ref 0 17,.ref 0 18,.ref 0 19,.ref 0 20,.ref 0 21,.ref 0 22]),(18,i64 6)],[.box [.sl false (L Ag c),.sl false (L Am d),.sl false (L Ab e),.sl false (L Ae f),.sl false (L Ai g),.sl false (L Ah i),.sl false (L Af j),.sl false (L Ad k),.sl false (L Ac n),i64 o,i64 p,i64 q,i64 s,i64 t,i64 u,i64 v,i64 w,i64 x,i64 y,i64 z,i64 aa,i64 ab,i64 ac,.str ad,.sl false (L Aj ae),.bool aJ] false]⟩) ?_ ?_
  ·intro _;refine Sp (fun ao=>?_) fun ao=>?_
   ·exact Lf Aa (Ew1 ao) (ws [0])
   ·exact Lf Aa (Ew1 ao) (ws [0])
  intro aJ;refine Bn <|Tn <|?_
  have a1:w64 7=7:=by decide
  refine Fe [5,17,18] Aa (Ew1 a1) ?_;refine Un ?_;refine Ug (m:=9) ?_;refine T0 [5,17,18,19] ?_;refine Sq <|Ct <|Sk <|Tn <|Sq <|Sb <|?_
  have aK:InR 7 11:=by decide
  refine Te [5,7,17,18] Aa (Ev (by simp only[go_sem,aK,aK.2];exact AZ)) ?_;refine Fw [5,17,18] (fun aL=>⟨Aq 46 [(5,.ref 0 0),(17,.agg [.ref 0 12,.ref 0 13,.ref 0 14,.ref 0 15,.ref 0 16,.ref 0 17,.ref 0 18,.ref 0 19,.ref 0 20,.ref 0 21,.ref 0 22]),(18,i64 7)],[.box [.sl false (L Ag c),.sl false (L Am d),.sl false (L Ab e),.sl false (L Ae f),.sl false (L Ai g),.sl false (L Ah i),.sl false (L Af j),.sl false (L Ad k),.sl false (L Ac n),i64 o,i64 p,i64 q,i64 s,i64 t,i64 u,i64 v,i64 w,i64 x,i64 y,i64 z,i64 aa,i64 ab,i64 ac,.str ad,.sl false (L Aj ae),.bool aL] false]⟩) ?_ ?_
  ·intro _;refine Sp (fun ap=>?_) fun ap=>?_
   ·exact Lf Aa (Ew1 ap) (ws [0])
   ·exact Lf Aa (Ew1 ap) (ws [0])
  intro aL;refine Bn <|Tn <|?_
  have a2:w64 8=8:=by decide
  refine Fe [5,17,18] Aa (Ew1 a2) ?_;refine Un ?_;refine Ug (m:=8) ?_;refine T0 [5,17,18,19] ?_;refine Sq <|Ct <|Sk <|Tn <|Sq <|Sb <|?_
  have aM:InR 8 11:=by decide
  refine Te [5,7,17,18] Aa (Ev (by simp only[go_sem,aM,aM.2];exact AZ)) ?_;refine Fw [5,17,18] (fun aN=>⟨Aq 46 [(5,.ref 0 0),(17,.agg [.ref 0 12,.ref 0 13,.ref 0 14,.ref 0 15,.ref 0 16,.ref 0 17,.ref 0 18,.ref 0 19,.ref 0 20,.ref 0 21,.ref 0 22]),(18,i64 8)],[.box [.sl false (L Ag c),.sl false (L Am d),.sl false (L Ab e),.sl false (L Ae f),.sl false (L Ai g),.sl false (L Ah i),.sl false (L Af j),.sl false (L Ad k),.sl false (L Ac n),i64 o,i64 p,i64 q,i64 s,i64 t,i64 u,i64 v,i64 w,i64 x,i64 y,i64 z,i64 aa,i64 ab,i64 ac,.str ad,.sl false (L Aj ae),.bool aN] false]⟩) ?_ ?_
  ·intro _;refine Sp (fun aq=>?_) fun aq=>?_
   ·exact Lf Aa (Ew1 aq) (ws [0])
   ·exact Lf Aa (Ew1 aq) (ws [0])
  intro aN;refine Bn <|Tn <|?_
  have a3:w64 9=9:=by decide
  refine Fe [5,17,18] Aa (Ew1 a3) ?_;refine Un ?_;refine Ug (m:=7) ?_;refine T0 [5,17,18,19] ?_;refine Sq <|Ct <|Sk <|Tn <|Sq <|Sb <|?_
  have aO:InR 9 11:=by decide
  refine Te [5,7,17,18] Aa (Ev (by simp only[go_sem,aO,aO.2];exact AZ)) ?_;refine Fw [5,17,18] (fun aP=>⟨Aq 46 [(5,.ref 0 0),(17,.agg [.ref 0 12,.ref 0 13,.ref 0 14,.ref 0 15,.ref 0 16,.ref 0 17,.ref 0 18,.ref 0 19,.ref 0 20,.ref 0 21,.ref 0 22]),(18,i64 9)],[.box [.sl false (L Ag c),.sl false (L Am d),.sl false (L Ab e),.sl false (L Ae f),.sl false (L Ai g),.sl false (L Ah i),.sl false (L Af j),.sl false (L Ad k),.sl false (L Ac n),i64 o,i64 p,i64 q,i64 s,i64 t,i64 u,i64 v,i64 w,i64 x,i64 y,i64 z,i64 aa,i64 ab,i64 ac,.str ad,.sl false (L Aj ae),.bool aP] false]⟩) ?_ ?_
  ·intro _;refine Sp (fun ar=>?_) fun ar=>?_
   ·exact Lf Aa (Ew1 ar) (ws [0])
   ·exact Lf Aa (Ew1 ar) (ws [0])
  intro aP;refine Bn <|Tn <|?_
  have a4:w64 10=10:=by decide
  refine Fe [5,17,18] Aa (Ew1 a4) ?_;refine Un ?_;refine Ug (m:=6) ?_;refine T0 [5,17,18,19] ?_;refine Sq <|Ct <|Sk <|Tn <|Sq <|Sb <|?_
  have aQ:InR 10 11:=by decide
  refine Te [5,7,17,18] Aa (Ev (by simp only[go_sem,aQ,aQ.2];exact AZ)) ?_;refine Fw [5,17,18] (fun aR=>⟨Aq 46 [(5,.ref 0 0),(17,.agg [.ref 0 12,.ref 0 13,.ref 0 14,.ref 0 15,.ref 0 16,.ref 0 17,.ref 0 18,.ref 0 19,.ref 0 20,.ref 0 21,.ref 0 22]),(18,i64 10)],[.box [.sl false (L Ag c),.sl false (L Am d),.sl false (L Ab e),.sl false (L Ae f),.sl false (L Ai g),.sl false (L Ah i),.sl false (L Af j),.sl false (L Ad k),.sl false (L Ac n),i64 o,i64 p,i64 q,i64 s,i64 t,i64 u,i64 v,i64 w,i64 x,i64 y,i64 z,i64 aa,i64 ab,i64 ac,.str ad,.sl false (L Aj ae),.bool aR] false]⟩) ?_ ?_
  ·intro _;refine Sp (fun au=>?_) fun au=>?_
   ·exact Lf Aa (Ew1 au) (ws [0])
   ·exact Lf Aa (Ew1 au) (ws [0])
  intro aR;refine Bn <|Tn <|?_
  have a5:w64 11=11:=by decide
  refine Fe [5,17,18] Aa (Ew1 a5) ?_;refine Un ?_;refine Ug (m:=5) ?_;refine T0 [5,17,18,19] ?_;exact Sq <|Cf <|Sx <|Tx <|Ux <|Bx <|Jm (ws [0])
 intro av;refine Tw [4] (fun aS=>⟨Aq 46 [(4,.bool aS)],[]⟩) ?_ ?_
 ·intro _;refine Sp (fun af=>?_) fun af=>?_
  ·refine Sp (fun ag=>?_) fun ag=>?_
   ·exact Lf Aa (Ew2 af ag) (ws [] (by simp only[go_sem,af,ag]) (by simp only[go_sem,af,ag]))
   ·exact Lf Aa (Ew2 af ag) (ws [] (by simp only[go_sem,af,ag]) (by simp only[go_sem,af,ag]))
  ·exact Lf Aa (Ew1 af) (ws [] (by simp only[go_sem,af]) (by simp only[go_sem,af]))
 intro aS;exact Sr <|Rr
theorem OM{b c r}(h:FK b c=some r):Con B 62 [.agg (Av b),.agg (A3 c)] [] (fun r' σ'=>r'=i64 r∧σ'=[]):=by
 refine Cw 19 [.tmp 4] Tryd.func62 (fun F hE=>?_) h;unfold FK;refine T0 [2,3] ?_;refine Sq <|Bd fun i f =>Te [2,3,4] (o1 6 (Eg f)) Ev ?_
 refine T0 [2,3,4,8] ?_;refine Cd ?_ ?_
 ·refine T0 [4] ?_;exact Sr <|Tr <|Rr
 ·refine Sk <|Tn <|Sq <|?_
  refine Tw [18] (fun d=>⟨Aq 19 [(18,.bool d)],[]⟩) ?_ ?_
  ·intro _;refine Bd fun j e=>?_
   refine Sp (fun a=>?_) fun a=>?_
   ·exact Lf (o1 11 (Hc e)) (Ew1 a) (ws [])
   ·refine Bd fun k g=>?_
    exact Lf (o2 11 (Hc e) 16 (NH g)) (Ew1 a) (ws [])
  intro d;refine Cd ?_ ?_
  ·refine T0 [4] ?_;exact Sr <|Tr <|Rr
  ·refine Sk <|Tn <|T0 [4] ?_
   exact Sr <|Rr
theorem Ml{c d a r}(h:Ek c d a=some r):Con B 15 [u64 c,.sl false (L cU8 d),.agg [u64 a.C,u64 a.S]] [] (fun r' σ'=>r'=.bool r∧σ'=[]):=by
 refine Cw 43 [.tmp 6] Tryd.func15 (fun F hE=>?_) h;unfold Ek;refine T0 [0,1,5] ?_;refine Sq ?_;refine Tw [0,1,5,25] (fun g=>⟨Aq 43 [(0,u64 c),(1,.sl false (L cU8 d)),(5,.ref 0 0),(25,.bool g)],[.box [u64 a.C,u64 a.S] false]⟩) ?_ ?_
 ·intro _;refine Sp (fun b=>?_) fun b=>?_
  ·exact Lf Aa (Ew1 b) (ws [0])
  ·refine Sp (fun e=>?_) fun e=>?_
   ·exact Lf Aa (Ew2 b e) (ws [0])
   ·refine Sp (fun f=>?_) fun f=>?_
    ·exact Lf Aa (Ew3 b e f) (ws [0])
    ·refine Bd fun v n=>?_
     exact Lf (o1 23 (I3 n)) (Ew3 b e f) (ws [0])
 intro g;refine Cd ?_ ?_
 ·refine T0 [6] ?_;exact Sr <|Tr <|Rr
 ·refine Sk <|Tn <|Bd fun o p =>Bd fun i q =>Bd fun j s =>Bd fun k t =>?_
  intro h;refine QR hE Mi [[],[],[1],[0,1,2],[],[],[5],[5,6],[0,1,2,3,4,5,6,7],[0,1,2,3,4,5,6,7,8],[0,1,2,3,4,5,6,7,8,9]] (by kernel_rfl) [(),(),(),(),(),(),(),()] [(),(),()] (by kernel_rfl) [(5,0),(27,0),(31,0)] [(26,0)] [5,27,31] [0,1,5,7,27,31] (by kernel_rfl) (fr':=[(0,u64 c),(1,.sl false (L cU8 d)),(5,.ref 0 0),(7,u64 k.1),(27,.ref 0 1),(31,.ref 0 0)]) (σ':=[.box [u64 a.C,u64 a.S] false,.box [u64 k.2] false]) ⟨_,_,(Ar (l:=[(29,_,_,u64 i),(34,_,_,u64 j)]) (m:=[(26,47,[u64 (2305843009213690799:UInt64)],[.box [u64 a.C,u64 a.S] false],_,_),(35,70,[u64 i,u64 j,.ref 1 0],[.box [u64 a.C,u64 a.S] false,.box [u64 o] false],_,_)]) ⟨Fy  q,Fy  s,trivial⟩ ⟨(wc (Gg p) []),(wc (DQ t) [1]),trivial⟩),(by repeat' (first|exact trivial|(refine And.intro ?_ ?_)|exact fun _=>rfl|exact fun h=>absurd h (by decide))),_,_,(by simp only[go_sem];exact AZ),(by exact⟨rfl,rfl,rfl,trivial⟩),(by simp only[go_sem];exact AZ)⟩ ?_;revert h;refine Bd fun w u =>De [[],[],[],[0,1,2],[],[4],[0,1,2,3,4,5],[0,1,2,3,4,5,6]] [6] (o1 39 (Gu u)) Ev ?_
  exact Sr <|Rr
theorem MQ{f g r}(h:Eh f g=some r):Con B 36 [.agg (Av f),.agg (Ak g)] [] (fun r' σ'=>r'=i64 r∧σ'=[]):=by
 refine Cw 82 [.tmp 4] Tryd.func36 (fun F hE=>?_) h;unfold Eh;refine T0 [2,3] ?_;refine Sq <|Bd fun p k =>Te [2,3,5] (o1 10 (Eg k)) Ev ?_
 refine T0 [2,3,5,12] ?_;refine Cd ?_ ?_
 ·refine T0 [4] ?_;exact Sr <|Tr <|Rr
 ·refine Sk <|Tn <|Sq <|?_
  refine Tw [2,3,54] (fun j=>⟨Aq 82 [(2,.ref 0 0),(3,.ref 1 0),(54,.bool j)],[.box (Av f) false,.box (Ak g) false]⟩) ?_ ?_
  ·intro _;refine Sp (fun a=>?_) fun a=>?_
   ·exact Lf Aa (Ew1 a) (ws [0,1])
   ·refine Sp (fun b=>?_) fun b=>?_
    ·exact Lf Aa (Ew2 a b) (ws [0,1])
    ·refine Sp (fun c=>?_) fun c=>?_
     ·exact Lf Aa (Ew3 a b c) (ws [0,1])
     ·refine Sp (fun d=>?_) fun d=>?_
      ·exact Lf Aa (Ew4 a b c d) (ws [0,1])
      ·refine Sp (fun e=>?_) fun e=>?_
       ·exact Lf Aa (Ew5 a b c d e) (ws [0,1])
       ·refine Sp (fun i=>?_) fun i=>?_
        ·exact Lf Aa (Ev (by simp only[go_sem,a,b,c,d,e,i];exact AZ)) (ws [0,1])
        ·exact Lf Aa (Ev (by simp only[go_sem,a,b,c,d,e,i];exact AZ)) (ws [0,1])
  intro j;refine Cd ?_ ?_
  ·refine T0 [4] ?_;exact Sr <|Tr <|Rr
  ·refine Sk <|Tn <|Sq <|Bd fun q l =>Te [2,3,6] (o1 58 (OM l)) Ev ?_
   refine T0 [2,3,6,60] ?_;refine Cd ?_ ?_
   ·refine T0 [4] ?_;exact Sr <|Tr <|Rr
   ·refine Sk <|Tn <|Bd fun s m =>Te [2,3,7,8] (o1 64 (Js m)) Ev ?_
    refine Sq <|T0 [2,3,7,8,68] ?_
    refine Cd ?_ ?_
    ·refine T0 [4] ?_;exact Sr <|Tr <|Rr
    ·refine Sk <|Tn <|Sq <|Ck fun n =>Bd fun t o =>De [[],[0],[],[2],[0,1,2,3],[0,1,2,3,4],[0,1,2,3,4,5],[],[],[8],[0,1,2,3,4,5,6,7,8,9],[0,1,2,3,4,5,6,7,8,9,10]] [81] (o1 80 (Ml o)) (Ew1 (qR n)) ?_
     refine Cd ?_ ?_
     ·refine T0 [4] ?_;exact Sr <|Tr <|Rr
     ·refine Sk <|Tn <|T0 [4] ?_
      exact Sr <|Rr
theorem H0{a r}(h:Fh a=some r):Con B 94 [i64 a] [] (fun r' σ'=>r'=.bool r∧σ'=[]):=by
 refine Cw 6 [.tmp 2] Tryd.func94 (fun F hE=>?_) h;unfold Fh;refine T0 [0] ?_;refine T0 [2] ?_;exact Sr <|Rr
theorem Gv{a b r}(h:Dd a b=some r):Con B 81 [i64 a,i64 b] [] (fun r' σ'=>r'=i64 r∧σ'=[]):=by
 refine Cw 20 [.tmp 4] Tryd.func81 (fun F hE=>?_) h;unfold Dd;refine T0 [0,1] ?_;refine Bd fun e c =>Te [0,1,5] (o1 8 (H0 c)) Ev ?_
 refine Bd fun f d =>Te [0,1,5,6] (o1 10 (H0 d)) Ev ?_
 refine Sq <|T0 [0,1,6,11] ?_
 refine Cd ?_ ?_
 ·refine Sq <|T0 [12] ?_
  refine Cd ?_ ?_
  ·refine T0 [4] ?_;exact Sr <|Tr <|Tr <|Rr
  ·refine Sk <|Tn <|T0 [4] ?_
   exact Sr <|Tr <|Rr
 ·refine Sk <|Tn <|Sq <|T0 [0,1,13] ?_
  refine Cd ?_ ?_
  ·refine T0 [4] ?_;exact Sr <|Tr <|Rr
  ·refine Sk <|Tn <|Sq <|T0 [0,1,16] ?_
   refine Cd ?_ ?_
   ·refine T0 [4] ?_;exact Sr <|Tr <|Rr
   ·refine Sk <|Tn <|Sq <|T0 [19] ?_
    refine Cd ?_ ?_
    ·refine T0 [4] ?_;exact Sr <|Tr <|Rr
    ·refine Sk <|Tn <|T0 [4] ?_
     exact Sr <|Rr
theorem IU{a:List UInt8}{b:List UInt8}{r:Int}(h:Gc a b=some r):Con B 95 [.sl false (L cU8 a),.sl false (L cU8 b)] [] (fun r' σ'=>r'=i64 r∧σ'=[]) :=
 Rg Tryd.func95 (by decide +kernel) rfl (by kernel_rfl) (by kernel_rfl) h
theorem JS{a b r}(h:E0 a b=some r):Con B 82 [.sl false (L cU8 a),.sl false (L cU8 b)] [] (fun r' σ'=>r'=i64 r∧σ'=[]):=by
 refine Cw 8 [.tmp 4] Tryd.func82 (fun F hE=>?_) h;unfold E0;refine T0 [0,1] ?_;refine Bd fun d c =>Te [4] (o1 7 (IU c)) Ev ?_
 exact Sr <|Rr
theorem G7{f:AkK→AkK→Option (Int)}{s1_7111:List AkK}{s2_7112:List AkK}{b:AkK→AkK→Option (Int)}(h63:∀{a0:AkK} {a1:AkK} {r:Int},f a0 a1=some r→Con B 63 [.agg [i64 a0.Za,i64 a0.N,.sl false (L cU8 a0.B),.sl false (L cApi_Value a0.L)],.agg [i64 a1.Za,i64 a1.N,.sl false (L cU8 a1.B),.sl false (L cApi_Value a1.L)]] [] (fun r' σ'=>r'=i64 r∧σ'=[])){a:Nat}(i:∀{a0:AkK} {a1:AkK} {r:Int},b a0 a1=some r→Con B a [.agg [i64 a0.Za,i64 a0.N,.sl false (L cU8 a0.B),.sl false (L cApi_Value a0.L)],.agg [i64 a1.Za,i64 a1.N,.sl false (L cU8 a1.B),.sl false (L cApi_Value a1.L)]] [] (fun r' σ'=>r'=i64 r∧σ'=[])){r:Int}(h:BU f s1_7111 s2_7112 b=some r):Con B 83 [.sl false (L cApi_Value s1_7111),.sl false (L cApi_Value s2_7112),.fn a []] [] (fun r' σ'=>r'=i64 r∧σ'=[]):=by
 refine Lu (N:=39) (rs:=[.tmp 6]) ok Tryd.func83 rfl (by decide +kernel) rfl rfl (AlD rfl) (fun F=>?_);have hE:=ok.env F;unfold BU at h;show Run (B.env F) 0 _ ⟨Aq 39 [(0,.sl false (L cApi_Value s1_7111)),(1,.sl false (L cApi_Value s2_7112)),(2,.fn a [])],[]⟩ _;refine G8 ?_;revert h;refine T0 [0,1,2] ?_;refine Jo (fun _=>⟨Aq 39 [(0,.sl false (L cApi_Value s1_7111)),(1,.sl false (L cApi_Value s2_7112))],[]⟩) ?_ ?_
 ·intro ae g;refine T0 [0,1,2,11,12,13] ?_;refine Sb ?_;refine Lo (fun c=>⟨Aq 39 [(0,.sl false (L cApi_Value s1_7111)),(1,.sl false (L cApi_Value s2_7112)),(2,.fn a []),(11,.sl false (L cApi_Value s1_7111)),(12,i64 (s1_7111.length:Int)),(13,i64 c)],[]⟩) (ws []) ?_;rintro c af j d e;show Bh s1_7111 s2_7112 b c=some j→_;unfold Bh;refine T0 [0,1,2,11,12,13,14] ?_;refine Sq <|Cd ?_ ?_
  ·refine Sk <|Tn <|Sq <|Sb <|Ck fun k =>Lt fun l m =>Lt fun n o =>Lt fun p q =>Lt fun s t =>Te (σ':=[.box [i64 l,i64 n,.sl false (L cU8 p),.sl false (L cApi_Value s)] false]) [0,1,2,7,8,11,12,13] Aa (Ew5 (qR k) m o q t) ?_
   refine Sq <|T0 [0,1,2,7,8,11,12,13,21] ?_
   refine Cd ?_ ?_
   ·refine T0 [6] ?_;exact Sr <|Tr <|Br <|Tr <|Lr e d <|Br <|Jr g <|Rr
   ·refine Sk <|Tn <|Ck fun u =>Lt fun v w =>Lt fun x y =>Lt fun z aa =>Lt fun ab ac =>Te (σ':=[_,.box [i64 v,i64 x,.sl false (L cU8 z),.sl false (L cApi_Value ab)] false]) [0,1,2,8,9,11,12,13] Aa (Ew5 (qR u) w y aa ac) ?_
    refine Bd fun ag ad =>Te [0,1,2,10,11,12,13] (o1 29 (i ad)) Ev ?_
    refine T0 [0,1,2,10,11,12,13,31] ?_;refine Cd ?_ ?_
    ·refine T0 [6] ?_;exact Sr <|Br <|Tr <|Lr e d <|Br <|Jr g <|Rr
    ·refine Sk <|Bn <|Tn <|F0 [0,1,2,11,12,13] ?_
     exact Ln (ws [])
  ·refine Sx <|Tx <|Lx e d <|Bx <|?_
   exact Jn ((ws (l':=[(0,.sl false (L cApi_Value s1_7111)),(1,.sl false (L cApi_Value s2_7112))]) (σ':=[]) []).trans (ws []))
 intro _;refine Sq <|T0 [38] ?_
 refine Cd ?_ ?_
 ·refine T0 [6] ?_;exact Sr <|Tr <|Rr
 ·refine Sk <|Tn <|T0 [6] ?_
  exact Sr <|Rr
theorem IC{rec_:AkK→AkK→Option (Int)}(hrec:∀{a:AkK} {b:AkK} {r:Int},rec_ a b=some r→Con B 63 [.agg [i64 a.Za,i64 a.N,.sl false (L cU8 a.B),.sl false (L cApi_Value a.L)],.agg [i64 b.Za,i64 b.N,.sl false (L cU8 b.B),.sl false (L cApi_Value b.L)]] [] (fun r' σ'=>r'=i64 r∧σ'=[])){a:AkK}{b:AkK}{r:Int}(h:DC rec_ a b=some r):Con B 63 [.agg [i64 a.Za,i64 a.N,.sl false (L cU8 a.B),.sl false (L cApi_Value a.L)],.agg [i64 b.Za,i64 b.N,.sl false (L cU8 b.B),.sl false (L cApi_Value b.L)]] [] (fun r' σ'=>r'=i64 r∧σ'=[]):=by
 refine Lu (N:=37) (rs:=[.tmp 4]) ok Tryd.func63 rfl (by decide +kernel) rfl rfl (AlD rfl) (fun F=>?_);have hE:=ok.env F;unfold DC at h;show Run (B.env F) 0 _ ⟨Aq 37 [(0,.agg [i64 a.Za,i64 a.N,.sl false (L cU8 a.B),.sl false (L cApi_Value a.L)]),(1,.agg [i64 b.Za,i64 b.N,.sl false (L cU8 b.B),.sl false (L cApi_Value b.L)])],[]⟩ _;refine G8 ?_;revert h;refine T0 [2,3] ?_;refine Sq <|Bd fun g c =>Te [2,3,5] (o1 10 (Gv c)) Ev ?_
 refine T0 [2,3,5,12] ?_;refine Cd ?_ ?_
 ·refine T0 [4] ?_;exact Sr <|Tr <|Rr
 ·refine Sk <|Tn <|Sq <|T0 [2,3,15] ?_
  refine Sb <|T0 [2,3,15,16] ?_
  refine Cd ?_ ?_
  ·refine Bd fun i d =>Te [4] (o1 22 (Gv d)) Ev ?_
   exact Sr <|Br <|Tr <|Rr
  ·refine T0 [2,3,15,23] ?_;refine Cd ?_ ?_
   ·refine Bd fun j e =>Te [4] (o1 29 (JS e)) Ev ?_
    exact Sr <|Br <|Tr <|Rr
   ·refine T0 [2,3,30] ?_;refine Cd ?_ ?_
    ·refine Bd fun k f =>Te [4] (o1 36 (G7 (fun h=>hrec h) (fun h=>hrec h) f)) Ev ?_
     exact Sr <|Br <|Tr <|Rr
    ·refine Sk <|Bn <|Tn <|T0 [4] ?_
     exact Sr <|Rr
theorem IR(n:Nat):∀{a:AkK} {b:AkK} {r:Int},D4 n a b=some r→Con B 63 [.agg [i64 a.Za,i64 a.N,.sl false (L cU8 a.B),.sl false (L cApi_Value a.L)],.agg [i64 b.Za,i64 b.N,.sl false (L cU8 b.B),.sl false (L cApi_Value b.L)]] [] (fun r' σ'=>r'=i64 r∧σ'=[]):=by
 induction n with
 |zero=>intro a b r h;cases h
 |succ n ih=>intro a b r h;exact IC ih h
theorem Ko{a:AkK}{b:AkK}{r:Int}(h:F8 a b=some r):Con B 63 [.agg [i64 a.Za,i64 a.N,.sl false (L cU8 a.B),.sl false (L cApi_Value a.L)],.agg [i64 b.Za,i64 b.N,.sl false (L cU8 b.B),.sl false (L cApi_Value b.L)]] [] (fun r' σ'=>r'=i64 r∧σ'=[]):=IR _ h
theorem Po{d e r}(h:GS d e=some r):Con B 37 [.agg (Ak d),.agg (Ak e)] [] (fun r' σ'=>r'=.bool r∧σ'=[]):=by
 refine Cw 50 [.tmp 4] Tryd.func37 (fun F hE=>?_) h;unfold GS;refine T0 [2,3] ?_;refine Tw [2,3,5] (fun i=>⟨Aq 50 [(2,.ref 0 0),(3,.ref 1 0),(5,.bool i)],[.box (Ak d) false,.box (Ak e) false]⟩) ?_ ?_
 ·intro _;refine Sp (fun a=>?_) fun a=>?_
  ·refine Sp (fun b=>?_) fun b=>?_
   ·refine Sp (fun c=>?_) fun c=>?_
    ·refine Sp (fun f=>?_) fun f=>?_
     ·exact Lf Aa (Ew4 a b c f) (ws [0,1])
     ·exact Lf Aa (Ew4 a b c f) (ws [0,1])
    ·exact Lf Aa (Ew3 a b c) (ws [0,1])
   ·exact Lf Aa (Ew2 a b) (ws [0,1])
  ·exact Lf Aa (Ew1 a) (ws [0,1])
 intro i;refine Dw [[],[0],[0,1],[0,1,2],[0,1,2,3],[0,1],[0,1,5],[0,1,2,3,4,5,6],[0,1,2,3,4,5,6,7],[0,1,2,3,4,5,6,7,8],[0,1,2,3,4,5,6,7,8,9],[0,1,2,3,4,5,6,7,8,9,10]] [4] (fun j=>⟨Aq 50 [(4,.bool j)],[]⟩) ?_ ?_
 ·intro _;refine Sp (fun g=>?_) fun g=>?_
  ·refine Bd fun o k =>Bd fun p m =>Bd fun q n =>?_
   exact Lf (D7 (l:=[(43,_,_,_),(46,_,_,_),(47,_,_,_)]) ⟨Hz  k,Hz  m,Ko  n,trivial⟩) (Ew1 g) (ws [])
  ·exact Lf Aa (Ew1 g) (ws [])
 intro j;exact Sr <|Rr
theorem Lc{c d r}(h:Fk c d=some r):Con B 38 [.sl false (L Ak c),.agg (Ak d)] [] (fun r' σ'=>r'=i64 r∧σ'=[]):=by
 refine Cw 85 [.tmp 4] Tryd.func38 (fun F hE=>?_) h;unfold Fk;refine T0 [0,3] ?_;refine Sq <|T0 [0,3,15] ?_
 refine Cd ?_ ?_
 ·refine T0 [4] ?_;exact Sr <|Tr <|Rr
 ·refine Sk <|Tn <|T0 [0,3,5] ?_
  refine Jo (fun i=>⟨Aq 85 [(0,.sl false (L Ak c)),(3,.ref 0 0),(5,.ref 1 0)],[.box (Ak d) false,.box (C1 u8 i.l) false]⟩) ?_ ?_
  ·intro t m;refine T0 [0,3,5,18] ?_;refine Cd ?_ ?_
   ·refine Ck fun n =>Bd fun o p =>Te [0,3,5,6,7] (o1 26 (HQ p)) (Ew1 (qR n)) ?_
    refine Sq ?_;refine Dw [[],[0],[0,1],[0,1,2],[0,1,2,3],[0,1,2],[0,1,2],[0,1,2,6],[0,1,2,6,7],[0,1,2,5,6,7,8],[0,1,2,5,6,7,8,9],[0,1,2,5,6,7,8,9,10],[0,1,2,3,4,5,6,7,8,9,10,11],[0,1,2,3,4,5,6,7,8,9,10,11,12]] [0,3,5,6,42] (fun j=>⟨Aq 85 [(0,.sl false (L Ak c)),(3,.ref 0 0),(5,.ref 1 0),(6,.ref 2 0),(42,.bool j)],[.box (Ak d) false,.box (C1 u8 (Arr.rep 32 (0:UInt8)).l) false,.box (C1 u8 o.1.l) false]⟩) ?_ ?_
    ·intro _;refine Sp (fun f=>?_) fun f=>?_
     ·exact Lf Aa (Ew1 f) (ws [0,1,2])
     ·refine Ck fun q=>?_
      exact Lf Aa (Ew2 f (qR q)) (ws [0,1,2])
    intro j;refine Cd ?_ ?_
    ·refine T0 [4] ?_;exact Sr <|Tr <|Jr m <|Rr
    ·refine Sk <|Tn <|F0 [0,3,5] ?_
     exact Jn (ws [0,1])
   ·exact Sk <|Jn (ws [0,1])
  intro i;refine Sq <|T0 [0,3,47] ?_
  refine Cd ?_ ?_
  ·refine T0 [4] ?_;exact Sr <|Tr <|Rr
  ·refine Sk <|Tn <|T0 [0,3,8] ?_
   refine T0 [0,3,8,9] ?_;refine Sq ?_;refine Dw [[],[],[0,1],[0,1,2],[0,1,2,3],[0,1,2,3,4],[0,1,2,3],[0,1,2,3,6],[0,1,2,3,4,5,6,7],[0,1,2,3,4,5,6,7,8],[0,1,2,3,4,5,6,7,8,9],[0,1,2,3,4,5,6,7,8,9,10],[0,1,2,3,4,5,6,7,8,9,10,11],[0,1,2,3,4,5,6,7,8,9,10,11,12],[0,1,2,3,4,5,6,7,8,9,10,11,12,13],[0,1,2,3,4,5,6,7,8,9,10,11,12,13,14],[0,1,2,3,4,5,6,7,8,9,10,11,12,13,14,15],[0,1,2,3,4,5,6,7,8,9,10,11,12,13,14],[0,1,2,3,4,5,6,7,8,9,10,11,12,13,14,17],[0,1,2,3,4,5,6,7,8,9,10,11,12,13,14,15,16,17,18],[0,1,2,3,4,5,6,7,8,9,10,11,12,13,14,15,16,17,18,19],[0,1,2,3,4,5,6,7,8,9,10,11,12,13,14,15,16,17,18,19,20],[0,1,2,3,4,5,6,7,8,9,10,11,12,13,14,15,16,17,18,19,20,21],[0,1,2,3,4,5,6,7,8,9,10,11,12,13,14,15,16,17,18,19,20,21],[0,1,2,3,4,5,6,7,8,9,10,11,12,13,14,15,16,17,18,19,20,21,23],[0,1,2,3,4,5,6,7,8,9,10,11,12,13,14,15,16,17,18,19,20,21,23,24],[0,1,2,3,4,5,6,7,8,9,10,11,12,13,14,15,16,17,18,19,20,21,22,23,24,25],[0,1,2,3,4,5,6,7,8,9,10,11,12,13,14,15,16,17,18,19,20,21,22,23,24,25,26],[0,1,2,3,4,5,6,7,8,9,10,11,12,13,14,15,16,17,18,19,20,21,22,23,24,25,26,27],[0,1,2,3,4,5,6,7,8,9,10,11,12,13,14,15,16,17,18,19,20,21,22,23,24,25,26,27,28],[0,1,2,3,4,5,6,7,8,9,10,11,12,13,14,15,16,17,18,19,20,21],[0,1,2,3,4,5,6,7,8,9,10,11,12,13,14,15,16,17,18,19,20,21,22,23,24,25,26,27,28,29,30],[0,1,2,3,4,5,6,7,8,9,10,11,12,13,14,15,16,17,18,19,20,21,22,23,24,25,26,27,28,29,30,31],[0,1,2,3,4,5,6,7,8,9,10,11,12,13,14,15,16,17,18,19,20,21,22,23,24,25,26,27,28,29,30,31,32]] [84] (fun k=>⟨Aq 85 [(84,.bool k)],[]⟩) ?_ ?_
   ·intro _;refine Sp (fun a=>?_) fun a=>?_
    ·refine Sp (fun b=>?_) fun b=>?_
     ·exact Lf Aa (Ew2 a b) (ws [])
     ·refine Sp (fun e=>?_) fun e=>?_
      ·exact Lf Aa (Ew3 a b e) (ws [])
      ·refine Sp (fun g=>?_) fun g=>?_
       ·exact Lf Aa (Ew4 a b e g) (ws [])
       ·refine Ck fun s=>?_
        exact Lf Aa (Ew5 a b e g (qR s)) (ws [])
    ·exact Lf Aa (Ew1 a) (ws [])
   intro k;refine Cd ?_ ?_
   ·refine T0 [4] ?_;exact Sr <|Tr <|Rr
   ·refine Sk <|Tn <|T0 [4] ?_
    exact Sr <|Rr
theorem I9{a r}(h:D5 a=some r):Con B 39 [.sl false (L Ak a)] [] (fun r' σ'=>r'=.bs false 0 (r.length) 0 (r.length)∧σ'=[.buf 53 (L Ak r) false]):=by
 refine Co 0 8 [.tmp 2] Tryd.func39 (fun F hE=>?_) h;unfold D5;refine T0 [0] ?_;refine Sq ?_;intro h;refine O7 hE 0 3 4 75 56 rfl rfl rfl rfl rfl rfl rfl (by decide) Tryd.underlying75 (fun b_ hb_=>?_);cases b_
 ·revert h;refine Cf <|Sk <|Tn <|Ck fun c =>?_
  have d:=c;simp only[Ale,AlC,Ala,Alb,Aln,AlH,Nat.reduceAdd]at d;refine Lt fun b e =>Te (fr':=[(2,.bs false 0 (b.length) 0 (b.length))]) (σ':=[.buf 53 (L Ak b) false]) [2] Aa (Ew3 c d e) ?_
  exact Sr <|Ro [0]
 ·obtain rfl:a=[]:=List.map_eq_nil_iff.1 (hb_ rfl);replace h:some ([])=some r:=by first|exact h|(split at h<;>first|exact h|cases h)
  revert h;refine Ct <|T0 [2] ?_
  refine Rw (Pl 2 53 rfl) ?_;exact Sr <|Tr <|Ro [0]
theorem JP{a b r}(h:E5 a b=some r):Con B 41 [.agg (i64 a.A.Zb::i64 a.A.No::(C1 u8 a.A.Zv1.l++i64 a.A.Zw1::i64 a.A.Zx1.Za::i64 a.A.Zx1.Ref.Zb::i64 a.A.Zx1.Ref.No::i64 a.A.Zx1.Zn1::i64 a.A.Zx1.Zb1::i64 a.A.Zx1.Zc::i64 a.A.Zx1.Zo1::i64 a.A.Zx1.Zw::i64 a.A.Zx1.To::i64 a.A.Zx1.Code::i64 a.A.Zx1.Zp1::i64 a.A.Zx1.Zq1::i64 a.A.Zx1.Zr1::i64 a.A.Zx1.Zs1::.str a.A.Zx1.Zt1::.sl false (L Aj a.A.Zx1.Zu1)::u64 a.A.Sig.C::u64 a.A.Sig.S::i64 a.B.Zb::i64 a.B.No::(C1 u8 a.B.Zv1.l++[i64 a.B.Zw1,i64 a.B.Zx1.Za,i64 a.B.Zx1.Ref.Zb,i64 a.B.Zx1.Ref.No,i64 a.B.Zx1.Zn1,i64 a.B.Zx1.Zb1,i64 a.B.Zx1.Zc,i64 a.B.Zx1.Zo1,i64 a.B.Zx1.Zw,i64 a.B.Zx1.To,i64 a.B.Zx1.Code,i64 a.B.Zx1.Zp1,i64 a.B.Zx1.Zq1,i64 a.B.Zx1.Zr1,i64 a.B.Zx1.Zs1,.str a.B.Zx1.Zt1,.sl false (L Aj a.B.Zx1.Zu1),u64 a.B.Sig.C,u64 a.B.Sig.S]))),.ref 0 0] [.box (Ak b) false] (fun r' σ'=>r'=.bool r.1∧σ'=[.box (Ak r.2) false]):=by
 refine Co 1 18 [.tmp 3] Tryd.func41 (fun F hE=>?_) h;unfold E5;refine T0 [1,2] ?_;refine Tw [3] (fun d=>⟨Aq 18 [(3,.bool d)],[.box (Ak b) false]⟩) ?_ ?_
 ·intro _;refine Sp (fun c=>?_) fun c=>?_
  ·exact Lf Aa (Ew1 c) (ws [0])
  ·exact Lf Aa (Ew1 c) (ws [0])
 intro d;exact Sr <|Ro [0]
theorem Fx{a ac r}(h:BG a ac=some r):Con B 65 [.sl false (L Aw a),.fn 41 [.ref 0 0]] [.box (Ak ac) false] (fun r' σ'=>r'=i64 r.1∧σ'=[.box (Ak r.2) false]):=by
 refine Co 1 19 [.tmp 4] Tryd.func65 (fun F hE=>?_) h;unfold BG;refine T0 [0,1] ?_;refine Jo (fun⟨ad,ae,af,ag,ah,ai,aj,ak,al,am,an,ao,ap,aq,ar,au,av,aw,ax,ay,az,aA⟩=>⟨Aq 19 [],[.box (i64 ad::i64 ae::(C1 u8 af.l++[i64 ag,i64 ah,i64 ai,i64 aj,i64 ak,i64 al,i64 am,i64 an,i64 ao,i64 ap,i64 aq,i64 ar,i64 au,i64 av,i64 aw,.str ax,.sl false (L Aj ay),u64 az,u64 aA])) false]⟩) ?_ ?_
 ·intro aH aD;refine T0 [0,1,7,8] ?_;refine Sb ?_;refine Lo (fun⟨b,c,d,e,f,g,i,j,k,n,o,p,q,s,t,u,v,w,x,y,z,aa,ab⟩=>⟨Aq 19 [(0,.sl false (L Aw a)),(1,.fn 41 [.ref 0 0]),(7,i64 (a.length:Int)),(8,i64 b)],[.box (i64 c::i64 d::(C1 u8 e.l++[i64 f,i64 g,i64 i,i64 j,i64 k,i64 n,i64 o,i64 p,i64 q,i64 s,i64 t,i64 u,i64 v,i64 w,i64 x,.str y,.sl false (L Aj z),u64 aa,u64 ab])) false]⟩) (ws [0]) ?_;rintro⟨b,c,d,e,f,g,i,j,k,n,o,p,q,s,t,u,v,w,x,y,z,aa,ab⟩ aI aE aB aC;show AH a b c d e f g i j k n o p q s t u v w x y z aa ab=some aE→_;unfold AH;refine T0 [0,1,7,8,9] ?_;refine Sq <|Cd ?_ ?_
  ·refine Sk <|Tn <|Sq <|Sb <|T0 [0,1,5,7,8] ?_
   refine Ck fun aF =>Bd fun aJ aG =>Te [0,1,5,7,8,16] (Ar (l:=[]) (m:=[(16,41,[.agg (i64 (((nth a b.toNat).A).Zb)::i64 (((nth a b.toNat).A).No)::(C1 u8 (((nth a b.toNat).A).Zv1).l++i64 (((nth a b.toNat).A).Zw1)::i64 ((((nth a b.toNat).A).Zx1).Za)::i64 (((((nth a b.toNat).A).Zx1).Ref).Zb)::i64 (((((nth a b.toNat).A).Zx1).Ref).No)::i64 ((((nth a b.toNat).A).Zx1).Zn1)::i64 ((((nth a b.toNat).A).Zx1).Zb1)::i64 ((((nth a b.toNat).A).Zx1).Zc)::i64 ((((nth a b.toNat).A).Zx1).Zo1)::i64 ((((nth a b.toNat).A).Zx1).Zw)::i64 ((((nth a b.toNat).A).Zx1).To)::i64 ((((nth a b.toNat).A).Zx1).Code)::i64 ((((nth a b.toNat).A).Zx1).Zp1)::i64 ((((nth a b.toNat).A).Zx1).Zq1)::i64 ((((nth a b.toNat).A).Zx1).Zr1)::i64 ((((nth a b.toNat).A).Zx1).Zs1)::.str ((((nth a b.toNat).A).Zx1).Zt1)::.sl false (L Aj ((((nth a b.toNat).A).Zx1).Zu1))::u64 ((((nth a b.toNat).A).Sig).C)::u64 ((((nth a b.toNat).A).Sig).S)::i64 (((nth a b.toNat).B).Zb)::i64 (((nth a b.toNat).B).No)::(C1 u8 (((nth a b.toNat).B).Zv1).l++[i64 (((nth a b.toNat).B).Zw1),i64 ((((nth a b.toNat).B).Zx1).Za),i64 (((((nth a b.toNat).B).Zx1).Ref).Zb),i64 (((((nth a b.toNat).B).Zx1).Ref).No),i64 ((((nth a b.toNat).B).Zx1).Zn1),i64 ((((nth a b.toNat).B).Zx1).Zb1),i64 ((((nth a b.toNat).B).Zx1).Zc),i64 ((((nth a b.toNat).B).Zx1).Zo1),i64 ((((nth a b.toNat).B).Zx1).Zw),i64 ((((nth a b.toNat).B).Zx1).To),i64 ((((nth a b.toNat).B).Zx1).Code),i64 ((((nth a b.toNat).B).Zx1).Zp1),i64 ((((nth a b.toNat).B).Zx1).Zq1),i64 ((((nth a b.toNat).B).Zx1).Zr1),i64 ((((nth a b.toNat).B).Zx1).Zs1),.str ((((nth a b.toNat).B).Zx1).Zt1),.sl false (L Aj ((((nth a b.toNat).B).Zx1).Zu1)),u64 ((((nth a b.toNat).B).Sig).C),u64 ((((nth a b.toNat).B).Sig).S)]))),.ref 0 0],[.box (i64 c::i64 d::(C1 u8 e.l++[i64 f,i64 g,i64 i,i64 j,i64 k,i64 n,i64 o,i64 p,i64 q,i64 s,i64 t,i64 u,i64 v,i64 w,i64 x,.str y,.sl false (L Aj z),u64 aa,u64 ab])) false],_,_)]) trivial ⟨(wc (JP aG) [0]),trivial⟩) (Ew1 (qR aF)) ?_
   refine Cd ?_ ?_
   ·refine T0 [4] ?_;exact Sr <|Br <|Tr <|Lr aC aB <|Br <|Jr aD <|Ro [0]
   ·refine Sk <|Bn <|Tn <|F0 [0,1,7,8] ?_
    exact Ln (ws [0])
  ·refine Sx <|Tx <|Lx aC aB <|Bx <|?_
   exact Jn ((ws (l':=[]) (σ':=[.box (i64 c::i64 d::(C1 u8 e.l++[i64 f,i64 g,i64 i,i64 j,i64 k,i64 n,i64 o,i64 p,i64 q,i64 s,i64 t,i64 u,i64 v,i64 w,i64 x,.str y,.sl false (L Aj z),u64 aa,u64 ab])) false]) [0]).trans (ws [0]))
 rintro⟨ad,ae,af,ag,ah,ai,aj,ak,al,am,an,ao,ap,aq,ar,au,av,aw,ax,ay,az,aA⟩;refine T0 [4] ?_;exact Sr <|Ro [0]
theorem E7{a b r}(h:AY a b=some r):Con B 40 [.sl false (L Aw a),.fn 41 [.ref 0 0]] [.box (Ak b) false] (fun r' σ'=>r'=.bool r.1∧σ'=[.box (Ak r.2) false]):=by
 refine Co 1 9 [.tmp 4] Tryd.func40 (fun F hE=>?_) h;unfold AY;refine T0 [0,1] ?_;refine Bd fun d c =>Te [4] (Ar (l:=[]) (m:=[(7,65,[.sl false (L Aw a),.fn 41 [.ref 0 0]],[.box (Ak b) false],_,_)]) trivial ⟨(wc (Fx c) [0]),trivial⟩) Ev ?_
 exact Sr <|Ro [0]
theorem IJ{a r}(h:DI a=some r):Con B 42 [.sl false (L Aw a)] [] (fun r' σ'=>r'=.bs false 0 (r.length) 0 (r.length)∧σ'=[.buf 106 (L Aw r) false]):=by
 refine Co 0 8 [.tmp 2] Tryd.func42 (fun F hE=>?_) h;unfold DI;refine T0 [0] ?_;refine Sq ?_;intro h;refine O7 hE 0 3 4 38 96 rfl rfl rfl rfl rfl rfl rfl (by decide) Tryd.underlying38 (fun b_ hb_=>?_);cases b_
 ·revert h;refine Cf <|Sk <|Tn <|Ck fun c =>?_
  have d:=c;simp only[Ale,AlC,Ala,Alb,Aln,AlH,Nat.reduceAdd]at d;refine Lt fun b e =>Te (fr':=[(2,.bs false 0 (b.length) 0 (b.length))]) (σ':=[.buf 106 (L Aw b) false]) [2] Aa (Ew3 c d e) ?_
  exact Sr <|Ro [0]
 ·obtain rfl:a=[]:=List.map_eq_nil_iff.1 (hb_ rfl);replace h:some ([])=some r:=by first|exact h|(split at h<;>first|exact h|cases h)
  revert h;refine Ct <|T0 [2] ?_
  refine Rw (Pl 2 106 rfl) ?_;exact Sr <|Tr <|Ro [0]
theorem B9{e c d r}(h:AA e c d=some r):Con B 13 [.agg (Av e),.agg (An c),.agg (Ak d)] [] (fun r' σ'=>r'=.tup [.agg (An r.1),i64 r.2]∧σ'=[]):=by
 refine Cw 95 [.cell 6 40,.tmp 7] Tryd.func13 (fun F hE=>?_) h;unfold AA;refine T0 [3,4,5,6] ?_;refine Sq <|Bd fun aj t =>Te [3,4,5,6,7] (o1 11 (MQ t)) Ev ?_
 refine T0 [3,4,5,6,7,13] ?_;refine Cd ?_ ?_
 ·refine T0 [6,7] ?_;exact Sr <|Tr <|Rr
 ·refine Sk <|Tn <|Bd fun a u =>Te [3,4,5,6,8] (o1 19 (I5 u)) Ev ?_
  refine Sq ?_;refine Dw [[],[0],[],[2],[0,1,2,3],[0,1,2,3,4],[0,1,2,3,4,5],[0,1,2,3,4,5],[0,1,2,3,4,5,7],[0,1,2,3,4,5,7,8],[0,1,2,3,4,5,6,7,8,9],[0,1,2,3,4,5,6,7,8,9,10],[0,1,2,3,4,5],[0,1,2,3,4,5,6,7,8,9,10,11,12],[0,1,2,3,4,5,6,7,8,9,10,11,12,13]] [3,4,5,6,8,34] (fun p=>⟨Aq 95 [(3,.ref 0 0),(4,.ref 1 0),(5,.ref 2 0),(6,.ref 3 0),(8,.sl false (L Ak a)),(34,.bool p)],[.box (Av e) false,.box (An c) false,.box (Ak d) false,.box [.sl true (L (cSl Ak) ([])),.sl true (L Aw ([]))] false]⟩) ?_ ?_
  ·intro _;refine Sp (fun k=>?_) fun k=>?_
   ·refine Ck fun v =>Bd fun ak w =>?_
    exact Lf (o1 33 (Po w)) (Ew2 k (qR v)) (ws [0,1,2,3])
   ·exact Lf Aa (Ew1 k) (ws [0,1,2,3])
  intro p;refine Cd ?_ ?_
  ·refine T0 [6,7] ?_;exact Sr <|Tr <|Rr
  ·refine Sk <|Tn <|Sq <|Bd fun al x =>Te [3,4,5,6,7,8] (o1 38 (Lc x)) Ev ?_
   refine T0 [3,4,5,6,7,8,40] ?_;refine Cd ?_ ?_
   ·refine T0 [6,7] ?_;exact Sr <|Tr <|Rr
   ·refine Sk <|Tn <|T0 [3,4,5,6,8] ?_
    refine Sq <|T0 [3,4,5,6,8,49] ?_
    refine Cd ?_ ?_
    ·refine Ck fun y =>Lt fun n z =>Te (σ':=[_,_,_,.box [.bs true 4 (n.length) 0 (n.length),.sl false (L Aw c.Zz1)] false,.buf 1 (L (cSl Ak) n) false]) [4,5,6,8] Aa (Ew2 y z) ?_
     refine Lt fun f aa =>Te (σ':=[_,_,_,.box [.bs true 4 (f.length) 0 (f.length),.sl false (L Aw c.Zz1)] false,.buf 1 (L (cSl Ak) f) false]) [5,6,8] Aa (Ew1 aa) ?_
     refine Bd fun g ab =>Ck fun ac =>Ck fun ad =>Lt fun j q =>?_
     intro h;refine Wq hE Mi [[],[0],[],[2],[],[4],[],[6],[4,5,6,7],[0,1,2,3,4,5,6,7,8],[0,1,2,3,4,5,6,7,8,9]] (by kernel_rfl) [(5,2),(6,3),(64,3),(66,2)] [(69,2),(69,3)] [(69,5)] [] [5,6,64,66,69] (by kernel_rfl) (fr':=[(5,.ref 2 0),(6,.ref 3 0),(64,.ref 3 0),(66,.ref 2 0),(69,.bs false 5 (g.length) 0 (g.length))]) (σ':=[.box (Av e) false,.box (An c) false,.box (Ak d) false,.box [.bs true 4 (j.length) 0 (j.length),.sl false (L Aw c.Zz1)] false,.buf 1 ((L (cSl Ak) f).set (d.Zb.toNat) [.bs false 5 ((g++([d]:List AkH)).length) 0 ((g++([d]:List AkH)).length)]) false,.buf 53 (L Ak (g++([d]:List AkH))) false]) ⟨rfl,rfl,rfl,rfl,trivial⟩ ⟨(by exact And.intro rfl (And.intro rfl rfl)),trivial⟩ trivial ⟨_,_,(Ar (l:=[]) (m:=[(69,39,[.sl false (L Ak a)],[.box (Av e) false,.box (An c) false,.box (Ak d) false,.box [.bs true 4 (f.length) 0 (f.length),.sl false (L Aw c.Zz1)] false,.buf 1 (L (cSl Ak) f) false],_,_)]) trivial ⟨(wc (I9 ab) []),trivial⟩),(by repeat' (first|exact trivial|(refine And.intro ?_ ?_)|exact fun _=>rfl|exact fun h=>absurd h (by decide))),?_⟩ ?_
     ·subst q;simp only[go_sem,ac,qR ad]
     revert h;refine Rw (RE 4 5 (cr:=Ak) (lg:=f) (lg':=j) (i:=d.Zb) (row:=(g++([d]:List AkH))) (full:=false) (σ':=[.box (Av e) false,.box (An c) false,.box (Ak d) false,.box [.bs true 4 (j.length) 0 (j.length),.sl false (L Aw c.Zz1)] false,.buf 1 (L (cSl Ak) j) false,.buf 53 (L Ak (g++([d]:List AkH))) true]) (by assumption) rfl rfl (by decide) gs q rfl) ?_;refine T0 [6,7] ?_;exact Sr <|Tr <|Rr
    ·refine Sk <|Tn <|?_
     refine Ja (fun s=>⟨Aq 95 [(6,.ref 0 0)],[.box [.sl false (L (cSl Ak) c.Zy1),.sl false (L Aw s)] false]⟩) ?_ ?_
     ·intro am;refine Bd fun b ae =>Te [4,5,6,8,79] (Ar (l:=[]) (m:=[(78,40,[.sl false (L Aw c.Zz1),.fn 41 [.ref 2 0]],[.box (Av e) false,.box (An c) false,.box (Ak d) false,.box (An c) false],_,_)]) trivial ⟨(wc (E7 ae) [2]),trivial⟩) Ev ?_
      refine Cd ?_ ?_
      ·refine Bd fun an af =>Ck fun ag =>Ck fun ah =>Lt fun o ai =>?_
       intro h;refine O6 hE Mi [[],[0],[0,1],[],[],[4],[4,5],[3,4,5,6],[3,4,5,6,7],[],[3,4,5,6,7,8,9],[3,4,5,6,7,8,9,10],[0,1,2,3,4,5,6,7,8,9,10,11],[0,1,2,3,4,5,6,7,8,9,10,11,12],[0,1,2,3,4,5,6,7,8,9,10,11,12,13]] (by kernel_rfl) [(5,2),(84,2)] [(82,2)] [] [83,87] [5,6,83,84,87] (by kernel_rfl) LO (fr':=[(5,.ref 2 0),(6,.ref 3 0),(83,.sl false (L Ak a)),(84,.ref 2 1),(87,.rp (i64 ((nth a ((w64 (b.2.No-1)).toNat)).Zb)::i64 ((nth a ((w64 (b.2.No-1)).toNat)).No)::(C1 u8 ((nth a ((w64 (b.2.No-1)).toNat)).Zv1).l++[i64 ((nth a ((w64 (b.2.No-1)).toNat)).Zw1),i64 (((nth a ((w64 (b.2.No-1)).toNat)).Zx1).Za),i64 ((((nth a ((w64 (b.2.No-1)).toNat)).Zx1).Ref).Zb),i64 ((((nth a ((w64 (b.2.No-1)).toNat)).Zx1).Ref).No),i64 (((nth a ((w64 (b.2.No-1)).toNat)).Zx1).Zn1),i64 (((nth a ((w64 (b.2.No-1)).toNat)).Zx1).Zb1),i64 (((nth a ((w64 (b.2.No-1)).toNat)).Zx1).Zc),i64 (((nth a ((w64 (b.2.No-1)).toNat)).Zx1).Zo1),i64 (((nth a ((w64 (b.2.No-1)).toNat)).Zx1).Zw),i64 (((nth a ((w64 (b.2.No-1)).toNat)).Zx1).To),i64 (((nth a ((w64 (b.2.No-1)).toNat)).Zx1).Code),i64 (((nth a ((w64 (b.2.No-1)).toNat)).Zx1).Zp1),i64 (((nth a ((w64 (b.2.No-1)).toNat)).Zx1).Zq1),i64 (((nth a ((w64 (b.2.No-1)).toNat)).Zx1).Zr1),i64 (((nth a ((w64 (b.2.No-1)).toNat)).Zx1).Zs1),.str (((nth a ((w64 (b.2.No-1)).toNat)).Zx1).Zt1),.sl false (L Aj (((nth a ((w64 (b.2.No-1)).toNat)).Zx1).Zu1)),u64 (((nth a ((w64 (b.2.No-1)).toNat)).Sig).C),u64 (((nth a ((w64 (b.2.No-1)).toNat)).Sig).S)])))]) (σ':=[.box (Av e) false,.box (An c) false,.box (Ak b.2) false,.box [.sl false (L (cSl Ak) c.Zy1),.bs false 4 (o.length) 0 (o.length)] false,.buf 106 (L Aw o) false]) ⟨rfl,rfl,trivial⟩ trivial ⟨rfl,rfl,trivial⟩ ⟨_,_,(Ar (l:=[]) (m:=[(82,42,[.sl false (L Aw c.Zz1)],[.box (Av e) false,.box (An c) false,.box (Ak b.2) false,.box (An c) false],_,_)]) trivial ⟨(wc (IJ af) []),trivial⟩),(by repeat' (first|exact trivial|(refine And.intro ?_ ?_)|exact fun _=>rfl|exact fun h=>absurd h (by decide))),?_⟩ ?_
       ·subst ai;simp only[go_sem,qR ag,ah]
       revert h;exact Jm ((HY 3 1 rfl rfl rfl gs gs).trans (ws [3]))
      ·exact Sk <|Jm (ws [3])
     intro s;refine T0 [6,7] ?_;exact Sr <|Rr
theorem CF{d e b f c a r}(h:Bc d e b f c a=some r):Con B 11 [.agg (Av d),.agg (An e),i64 b,u64 f,i64 c,.agg (A3 a)] [] (fun r' σ'=>r'=.tup [.agg (Ak r.1),i64 r.2]∧σ'=[]):=by
 refine Cw 112 [.cell 12 56,.tmp 13] Tryd.func11 (fun F hE=>?_) h;unfold Bc;refine T0 [2,3,4,6,7,11,12] ?_;refine Sq <|Bd fun y m =>Te [2,3,4,6,7,11,12,13] (o1 19 (Eg m)) Ev ?_
 refine T0 [2,3,4,6,7,11,12,13,21] ?_;refine Cd ?_ ?_
 ·refine T0 [12,13] ?_;exact Sr <|Tr <|Rr
 ·refine Sk <|Tn <|Sq <|?_
  refine Tw [2,3,4,6,7,11,12,32] (fun i=>⟨Aq 112 [(2,i64 b),(3,u64 f),(4,i64 c),(6,.ref 0 0),(7,.ref 1 0),(11,.ref 2 0),(12,.ref 3 0),(32,.bool i)],[.box (Av d) false,.box (An e) false,.box (A3 a) false,.box (i64 0::i64 0::(C1 u8 (Arr.rep 32 (0:UInt8)).l++[i64 0,i64 0,i64 0,i64 0,i64 0,i64 0,i64 0,i64 0,i64 0,i64 0,i64 0,i64 0,i64 0,i64 0,i64 0,.str ([]:List UInt8),.sl true (L Aj ([])),u64 (0:UInt64),u64 (0:UInt64)])) false]⟩) ?_ ?_
  ·intro _;refine Sp (fun g=>?_) fun g=>?_
   ·exact Lf Aa (Ew1 g) (ws [0,1,2,3])
   ·exact Lf Aa (Ew1 g) (ws [0,1,2,3])
  intro i;refine Cd ?_ ?_
  ·refine T0 [12,13] ?_;exact Sr <|Tr <|Rr
  ·refine Sk <|Tn <|Bd fun z n =>Te [2,3,4,6,7,11,12,13,14] (o1 36 (HD n)) Ev ?_
   refine Sq <|T0 [2,3,4,6,7,11,12,13,14,40] ?_
   refine Cd ?_ ?_
   ·refine T0 [12,13] ?_;exact Sr <|Tr <|Rr
   ·refine Sk <|Tn <|Sq <|Ck fun o =>Te [2,3,4,6,7,11,12,50] Aa (Ew1 (qR o)) ?_
    refine Cd ?_ ?_
    ·refine T0 [12,13] ?_;exact Sr <|Tr <|Rr
    ·refine Sk <|Tn <|Bd fun aa p =>Te [2,3,4,6,7,11,12,15] (o1 54 (I5 p)) Ev ?_
     refine Lt fun j q =>Te (σ':=[_,_,_,_,.box (i64 b::i64 j::(C1 u8 (Arr.rep 32 (0:UInt8)).l++[i64 c,i64 a.Za,i64 a.Ref.Zb,i64 a.Ref.No,i64 a.Zn1,i64 a.Zb1,i64 a.Zc,i64 a.Zo1,i64 a.Zw,i64 a.To,i64 a.Code,i64 a.Zp1,i64 a.Zq1,i64 a.Zr1,i64 a.Zs1,.str a.Zt1,.sl false (L Aj a.Zu1),u64 (0:UInt64),u64 (0:UInt64)])) false]) [3,6,7,12,15,16] Aa (Ew1 q) ?_
     refine Jo (fun k=>⟨Aq 112 [(3,u64 f),(6,.ref 0 0),(7,.ref 1 0),(12,.ref 2 0),(16,.ref 3 0)],[.box (Av d) false,.box (An e) false,.box (i64 0::i64 0::(C1 u8 (Arr.rep 32 (0:UInt8)).l++[i64 0,i64 0,i64 0,i64 0,i64 0,i64 0,i64 0,i64 0,i64 0,i64 0,i64 0,i64 0,i64 0,i64 0,i64 0,.str ([]:List UInt8),.sl true (L Aj ([])),u64 (0:UInt64),u64 (0:UInt64)])) false,.box (i64 b::i64 j::(C1 u8 k.l++[i64 c,i64 a.Za,i64 a.Ref.Zb,i64 a.Ref.No,i64 a.Zn1,i64 a.Zb1,i64 a.Zc,i64 a.Zo1,i64 a.Zw,i64 a.To,i64 a.Code,i64 a.Zp1,i64 a.Zq1,i64 a.Zr1,i64 a.Zs1,.str a.Zt1,.sl false (L Aj a.Zu1),u64 (0:UInt64),u64 (0:UInt64)])) false]⟩) ?_ ?_
     ·intro ab s;refine T0 [3,6,7,12,15,16,64] ?_;refine Cd ?_ ?_
      ·refine Ck fun t =>Bd fun ac u =>Te [3,6,7,12,13,16] (o1 72 (HQ u)) (Ew1 (qR t)) ?_
       refine T0 [3,6,7,12,13,16,77] ?_;refine Cd ?_ ?_
       ·refine T0 [12,13] ?_;exact Sr <|Jr s <|Rr
       ·exact Sk <|Jn (ws [0,1,3,4])
      ·exact Sk <|Jn (ws [0,1,3,4])
     intro k;refine Bd fun ad v =>Te [3,6,7,12,13,16,17] (o1 82 (Js v)) Ev ?_
     refine Sq <|T0 [3,6,7,12,13,16,17,86] ?_
     refine Cd ?_ ?_
     ·refine T0 [12,13] ?_;exact Sr <|Tr <|Rr
     ·refine Sk <|Tn <|Sq <|Bd fun ae w =>Te [6,7,12,13,16] (o1 92 (OW w)) Ev ?_
      refine T0 [6,7,12,13,16,97] ?_;refine Cd ?_ ?_
      ·refine T0 [12,13] ?_;exact Sr <|Tr <|Rr
      ·refine Sk <|Tn <|Sq <|Bd fun af x =>Te [12,13,16] (o1 104 (B9 x)) Ev ?_
       refine T0 [12,13,16,108] ?_;refine Cd ?_ ?_
       ·refine T0 [12,13] ?_;exact Sr <|Tr <|Rr
       ·refine Sk <|Tn <|T0 [12,13] ?_
        exact Sr <|Rr
theorem J6{a b r}(h:HG a b=some r):Con B 60 [.agg (A3 a),u8 b] [] (fun r' σ'=>r'=i64 r∧σ'=[]):=by
 refine Cw 48 [.tmp 4] Tryd.func60 (fun F hE=>?_) h;unfold HG;refine T0 [1,2] ?_;refine Sq <|T0 [2,5] ?_
 refine Sb <|T0 [2,5,6] ?_
 refine Cd ?_ ?_
 ·refine T0 [4] ?_;exact Sr <|Br <|Tr <|Rr
 ·refine T0 [2,5,10] ?_;refine Cd ?_ ?_
  ·refine T0 [4] ?_;exact Sr <|Br <|Tr <|Rr
  ·refine T0 [2,5,14] ?_;refine Cd ?_ ?_
   ·refine T0 [4] ?_;exact Sr <|Br <|Tr <|Rr
   ·refine T0 [2,5,18] ?_;refine Cd ?_ ?_
    ·refine T0 [4] ?_;exact Sr <|Br <|Tr <|Rr
    ·refine T0 [2,5,22] ?_;refine Cd ?_ ?_
     ·refine T0 [4] ?_;exact Sr <|Br <|Tr <|Rr
     ·refine T0 [2,5,26] ?_;refine Cd ?_ ?_
      ·refine T0 [4] ?_;exact Sr <|Br <|Tr <|Rr
      ·refine T0 [2,5,30] ?_;refine Cd ?_ ?_
       ·refine T0 [4] ?_;exact Sr <|Br <|Tr <|Rr
       ·refine T0 [2,5,34] ?_;refine Cd ?_ ?_
        ·refine T0 [4] ?_;exact Sr <|Br <|Tr <|Rr
        ·refine T0 [2,5,38] ?_;refine Cd ?_ ?_
         ·refine T0 [4] ?_;exact Sr <|Br <|Tr <|Rr
         ·refine T0 [2,42] ?_;refine Cd ?_ ?_
          ·refine T0 [4] ?_;exact Sr <|Br <|Tr <|Rr
          ·refine Sk <|Bn <|Tn <|T0 [4] ?_
           exact Sr <|Rr
theorem Kt{a b r}(h:Ex a b=some r):Con B 61 [.sl false (L Aj a),.sl false (L Aj b)] [] (fun r' σ'=>r'=.bool r∧σ'=[]):=by
 refine Cw 26 [.tmp 4] Tryd.func61 (fun F hE=>?_) h;unfold Ex;refine T0 [0,1] ?_;refine Sq <|T0 [0,1,10] ?_
 refine Cd ?_ ?_
 ·refine T0 [4] ?_;exact Sr <|Tr <|Rr
 ·refine Sk <|Tn <|?_
  refine Jo (fun _=>⟨Aq 26 [],[]⟩) ?_ ?_
  ·intro m f;refine T0 [0,1,5] ?_;refine Sb ?_;refine Lo (fun c=>⟨Aq 26 [(0,.sl false (L Aj a)),(1,.sl false (L Aj b)),(5,i64 c)],[]⟩) (ws []) ?_;rintro c n g d e;show CA a b c=some g→_;unfold CA;refine Sq <|T0 [0,1,5,14] ?_
   refine Cd ?_ ?_
   ·refine Sk <|Tn <|Sq <|Sb <|Ck fun i =>Ck fun j =>Lt fun k l =>De (fr':=[(0,_),(1,_),(5,_),(25,.bool k)]) [[],[],[0,1],[0,1,2],[],[],[4,5],[4,5,6],[0,1,2,3,4,5,6,7]] [0,1,5,25] Aa (Ew3 (qR i) (qR j) l) ?_
    refine Cd ?_ ?_
    ·refine T0 [4] ?_;exact Sr <|Br <|Tr <|Lr e d <|Br <|Jr f <|Rr
    ·refine Sk <|Bn <|Tn <|F0 [0,1,5] ?_
     exact Ln (ws [])
   ·refine Sx <|Tx <|Lx e d <|Bx <|?_
    exact Jn ((ws (l':=[]) (σ':=[]) []).trans (ws []))
  intro _;refine T0 [4] ?_;exact Sr <|Rr
theorem QO{a b r}(h:J1 a b=some r):Con B 35 [.agg (A3 a),.agg (A3 b)] [] (fun r' σ'=>r'=.bool r∧σ'=[]):=by
 refine Cw 45 [.tmp 4] Tryd.func35 (fun F hE=>?_) h;unfold J1;refine T0 [2,3] ?_;refine Jo (fun _=>⟨Aq 45 [(2,.ref 0 0),(3,.ref 1 0)],[.box (A3 a) false,.box (A3 b) false]⟩) ?_ ?_
 ·intro u o;refine T0 [2,3,5] ?_;refine Sb ?_;refine Lo (fun e=>⟨Aq 45 [(2,.ref 0 0),(3,.ref 1 0),(5,i64 e)],[.box (A3 a) false,.box (A3 b) false]⟩) (ws [0,1]) ?_;rintro e v p g i;show EP a b e=some p→_;unfold EP;refine Sq <|T0 [2,3,5,7] ?_
  refine Cd ?_ ?_
  ·refine Sk <|Tn <|Sq <|Sb <|Ck fun j =>?_
   have k:=j;simp only[Ale,AlC,Ala,Alb,Aln,AlH,Nat.reduceAdd]at k;refine Bd fun w q =>Ck fun l =>?_
   have m:=l;simp only[Ale,AlC,Ala,Alb,Aln,AlH,Nat.reduceAdd]at m;refine Bd fun x s =>De [[],[],[1],[0,1,2],[],[],[5],[0,1,2,3,4,5,6],[0,1,2,3,4,5,6,7]] [2,3,5,18] (o2 13 (J6 q) 17 (J6 s)) (Ew4 (qR j) k (qR l) m) ?_
   refine Cd ?_ ?_
   ·refine T0 [4] ?_;exact Sr <|Br <|Tr <|Lr i g <|Br <|Jr o <|Rr
   ·refine Sk <|Bn <|Tn <|F0 [2,3,5] ?_
    exact Ln (ws [0,1])
  ·refine Sx <|Tx <|Lx i g <|Bx <|?_
   exact Jn ((ws (l':=[(2,.ref 0 0),(3,.ref 1 0)]) (σ':=[.box (A3 a) false,.box (A3 b) false]) [0,1]).trans (ws [0,1]))
 intro _;refine Tw [4] (fun n=>⟨Aq 45 [(4,.bool n)],[]⟩) ?_ ?_
 ·intro _;refine Sp (fun c=>?_) fun c=>?_
  ·refine Sp (fun d=>?_) fun d=>?_
   ·refine Sp (fun f=>?_) fun f=>?_
    ·refine Bd fun y t=>?_
     exact Lf (o1 43 (Kt t)) (Ew3 c d f) (ws [])
    ·exact Lf Aa (Ew3 c d f) (ws [])
   ·exact Lf Aa (Ew2 c d) (ws [])
  ·exact Lf Aa (Ew1 c) (ws [])
 intro n;exact Sr <|Rr
theorem Ce{f g r}(h:Cv f g=some r):Con B 12 [.agg (Ak f),.agg (Ak g)] [] (fun r' σ'=>r'=.bool r∧σ'=[]):=by
 refine Cw 45 [.tmp 4] Tryd.func12 (fun F hE=>?_) h;unfold Cv;refine T0 [2,3] ?_;refine Tw [4] (fun i=>⟨Aq 45 [(4,.bool i)],[]⟩) ?_ ?_
 ·intro _;refine Sp (fun a=>?_) fun a=>?_
  ·refine Sp (fun b=>?_) fun b=>?_
   ·refine Sp (fun c=>?_) fun c=>?_
    ·refine Sp (fun d=>?_) fun d=>?_
     ·refine Sp (fun e=>?_) fun e=>?_
      ·refine Bd fun k j=>?_
       exact Lf (o1 43 (QO j)) (Ew5 a b c d e) (ws [])
      ·exact Lf Aa (Ew5 a b c d e) (ws [])
     ·exact Lf Aa (Ew4 a b c d) (ws [])
    ·exact Lf Aa (Ew3 a b c) (ws [])
   ·exact Lf Aa (Ew2 a b) (ws [])
  ·exact Lf Aa (Ew1 a) (ws [])
 intro i;exact Sr <|Rr
theorem HJ{a b r}(h:EN a b=some r):Con B 18 [.sl false (L Ak a),.sl false (L Ak b)] [] (fun r' σ'=>r'=.bool r∧σ'=[]):=by
 refine Cw 27 [.tmp 4] Tryd.func18 (fun F hE=>?_) h;unfold EN;refine T0 [0,1] ?_;refine Sq <|T0 [0,1,10] ?_
 refine Cd ?_ ?_
 ·refine T0 [4] ?_;exact Sr <|Tr <|Rr
 ·refine Sk <|Tn <|?_
  refine Jo (fun _=>⟨Aq 27 [],[]⟩) ?_ ?_
  ·intro l f;refine T0 [0,1,5] ?_;refine Sb ?_;refine Lo (fun c=>⟨Aq 27 [(0,.sl false (L Ak a)),(1,.sl false (L Ak b)),(5,i64 c)],[]⟩) (ws []) ?_;rintro c m g d e;show Dg a b c=some g→_;unfold Dg;refine Sq <|T0 [0,1,5,14] ?_
   refine Cd ?_ ?_
   ·refine Sk <|Tn <|Sq <|Sb <|Ck fun i =>Ck fun j =>Bd fun n k =>De [[],[],[0,1],[0,1,2],[],[],[4,5],[4,5,6],[0,1,2,3,4,5,6,7],[0,1,2,3,4,5,6,7,8]] [0,1,5,26] (o1 25 (Ce k)) (Ew2 (qR i) (qR j)) ?_
    refine Cd ?_ ?_
    ·refine T0 [4] ?_;exact Sr <|Br <|Tr <|Lr e d <|Br <|Jr f <|Rr
    ·refine Sk <|Bn <|Tn <|F0 [0,1,5] ?_
     exact Ln (ws [])
   ·refine Sx <|Tx <|Lx e d <|Bx <|?_
    exact Jn ((ws (l':=[]) (σ':=[]) []).trans (ws []))
  intro _;refine T0 [4] ?_;exact Sr <|Rr
theorem KS{a b r}(h:JH a b=some r):Con B 30 [.agg (An a),.agg (An b)] [] (fun r' σ'=>r'=.bool r∧σ'=[]):=by
 refine Cw 79 [.tmp 4] Tryd.func30 (fun F hE=>?_) h;unfold JH;refine T0 [2,3] ?_;refine Sq ?_;refine Tw [2,3,22] (fun g=>⟨Aq 79 [(2,.ref 0 0),(3,.ref 1 0),(22,.bool g)],[.box (An a) false,.box (An b) false]⟩) ?_ ?_
 ·intro _;refine Sp (fun d=>?_) fun d=>?_
  ·exact Lf Aa (Ew1 d) (ws [0,1])
  ·exact Lf Aa (Ew1 d) (ws [0,1])
 intro g;refine Cd ?_ ?_
 ·refine T0 [4] ?_;exact Sr <|Tr <|Rr
 ·refine Sk <|Tn <|?_
  refine Jo (fun _=>⟨Aq 79 [(2,.ref 0 0),(3,.ref 1 0)],[.box (An a) false,.box (An b) false]⟩) ?_ ?_
  ·intro ab q;refine T0 [2,3,5] ?_;refine Sb ?_;refine Lo (fun e=>⟨Aq 79 [(2,.ref 0 0),(3,.ref 1 0),(5,i64 e)],[.box (An a) false,.box (An b) false]⟩) (ws [0,1]) ?_;rintro e ac s i j;show IF a b e=some s→_;unfold IF;refine Sq <|T0 [2,3,5,27] ?_
   refine Cd ?_ ?_
   ·refine Sk <|Tn <|Sq <|Sb <|Ck fun t =>Ck fun u =>Bd fun ad v =>De [[],[0],[],[0,1,2],[0,1,2,3],[],[5],[],[5,6,7],[5,6,7,8],[0,1,2,3,4,5,6,7,8,9],[0,1,2,3,4,5,6,7,8,9,10]] [2,3,5,41] (o1 40 (HJ v)) (Ew2 (qR t) (qR u)) ?_
    refine Cd ?_ ?_
    ·refine T0 [4] ?_;exact Sr <|Br <|Tr <|Lr j i <|Br <|Jr q <|Rr
    ·refine Sk <|Bn <|Tn <|F0 [2,3,5] ?_
     exact Ln (ws [0,1])
   ·refine Sx <|Tx <|Lx j i <|Bx <|?_
    exact Jn ((ws (l':=[(2,.ref 0 0),(3,.ref 1 0)]) (σ':=[.box (An a) false,.box (An b) false]) [0,1]).trans (ws [0,1]))
  intro _;refine Jo (fun _=>⟨Aq 79 [],[]⟩) ?_ ?_
  ·intro ae w;refine T0 [2,3,6] ?_;refine Sb ?_;refine Lo (fun c=>⟨Aq 79 [(2,.ref 0 0),(3,.ref 1 0),(6,i64 c)],[.box (An a) false,.box (An b) false]⟩) (ws [0,1]) ?_;rintro c af x k l;show IL a b c=some x→_;unfold IL;refine Sq <|T0 [2,3,6,46] ?_
   refine Cd ?_ ?_
   ·refine Sk <|Tn <|Sq <|Sb <|?_
    refine Dw [[],[0],[],[0,1,2],[0,1,2,3],[0,1,2,3,4],[],[6],[],[6,7,8],[6,7,8,9],[6,7,8,9,10],[0,1,2,3,4,5,6,7,8,9,10,11],[0,1,2,3,4,5,6,7,8,9,10,11,12],[0,1,2,3,4,5,6,7,8,9,10,11,12,13],[0,1,2,3,4,5,6,7,8,9,10,11,12,13,14],[0,1,2,3,4,5,6,7,8,9,10,11,12,13,14,15],[0,1,2,3,4,5,6,7,8,9,10,11,12,13,14],[0,1,2,3,4,5,6,7,8,9,10,11,12,13,14,15,16,17],[0,1,2,3,4,5,6,7,8,9,10,11,12,13,14,15,16,17,18],[0,1,2,3,4,5,6,7,8,9,10,11,12,13,14,15,16,17,18,19],[0,1,2,3,4,5,6,7,8,9,10,11,12,13,14],[0,1,2,3,4,5,6,7,8,9,10,11,12,13,14,21],[0,1,2,3,4,5,6,7,8,9,10,11,12,13,14],[0,1,2,3,4,5,6,7,8,9,10,11,12,13,14,21,22,23],[0,1,2,3,4,5,6,7,8,9,10,11,12,13,14,21,22,23,24],[0,1,2,3,4,5,6,7,8,9,10,11,12,13,14,21,22,23,24,25],[0,1,2,3,4,5,6,7,8,9,10,11,12,13,14,15,16,17,18,19,20,21,22,23,24,25,26],[0,1,2,3,4,5,6,7,8,9,10,11,12,13,14,15,16,17,18,19,20,21,22,23,24,25,26,27],[0,1,2,3,4,5,6,7,8,9,10,11,12,13,14,15,16,17,18,19,20,21,22,23,24,25,26,27,28]] [2,3,6,78] (fun m=>⟨Aq 79 [(2,.ref 0 0),(3,.ref 1 0),(6,i64 c),(78,.bool m)],[.box (An a) false,.box (An b) false]⟩) ?_ ?_
    ·intro _;refine Ck fun n =>Ck fun o =>Bd fun ag p =>?_
     refine Sp (fun f=>?_) fun f=>?_
     ·exact Lf (o1 61 (Ce p)) (Ew3 (qR n) (qR o) f) (ws [0,1])
     ·refine Ck fun y =>Ck fun z =>Bd fun ah aa =>?_
      exact Lf (o2 61 (Ce p) 76 (Ce aa)) (Ew5 (qR n) (qR o) f (qR y) (qR z)) (ws [0,1])
    intro m;refine Cd ?_ ?_
    ·refine T0 [4] ?_;exact Sr <|Br <|Tr <|Lr l k <|Br <|Jr w <|Rr
    ·refine Sk <|Bn <|Tn <|F0 [2,3,6] ?_
     exact Ln (ws [0,1])
   ·refine Sx <|Tx <|Lx l k <|Bx <|?_
    exact Jn ((ws (l':=[]) (σ':=[]) []).trans (ws []))
  intro _;refine T0 [4] ?_;exact Sr <|Rr
theorem AF{a b r}(h:BM a b=some r):Con B 20 [.agg (An a),i64 b] [] (fun r' σ'=>r'=i64 r∧σ'=[]):=by
 refine Cw 41 [.tmp 4] Tryd.func20 (fun F hE=>?_) h;unfold BM;refine T0 [1,2,4] ?_;refine Ja (fun i=>⟨Aq 41 [(4,i64 i)],[]⟩) ?_ ?_
 ·intro bu;refine T0 [1,4,8,9,10] ?_;refine Sb ?_;refine Lo (fun(v:Int×Int)=>(⟨Aq 41 [(1,i64 b),(4,i64 v.1),(8,.sl false (L Aw a.Zz1)),(9,i64 (a.Zz1.length:Int)),(10,i64 v.2)],[]⟩:St)) (ws []) ?_;rintro⟨e,f⟩ bv aI aJ aK;show Dh a b e f=some aI→_;unfold Dh;refine T0 [1,4,8,9,10,11] ?_;refine Sq <|Cd ?_ ?_
  ·refine Sk <|Tn <|?_
   refine Ja (fun j=>⟨Aq 41 [(1,i64 b),(4,i64 j),(8,.sl false (L Aw a.Zz1)),(9,i64 (a.Zz1.length:Int)),(10,i64 f)],[]⟩) ?_ ?_
   ·intro bw;refine Sb <|Ck fun aL =>Lt fun k aM =>Lt fun m aN =>Lt fun n aO =>Lt fun o aP =>Lt fun p aQ =>Lt fun q aR =>Lt fun s aS =>Lt fun t aT =>Lt fun u aU =>Lt fun w aV =>Lt fun x aW =>Lt fun y aX =>Lt fun z aY =>Lt fun aa aZ =>Lt fun ab a0 =>Lt fun ac a1 =>Lt fun ad a2 =>Lt fun ae a3 =>Lt fun af a4 =>Lt fun ag a5 =>Lt fun ah a6 =>Lt fun ai a7 =>Lt fun aj a8 =>Lt fun ak a9 =>Lt fun al ba =>Lt fun am bb =>Lt fun an bc =>Lt fun ao bd =>Lt fun ap be =>Lt fun aq bf =>Lt fun ar bg =>Lt fun au bh =>Lt fun av bi =>Lt fun aw bj =>Lt fun ax bk =>Lt fun ay bl =>Lt fun az bm =>Lt fun aA bn =>Lt fun aB bo =>Lt fun aC bp =>Lt fun aD bq =>Lt fun aE br =>Lt fun aF bs =>Lt fun aG bt =>Te (σ':=[.box (i64 k::i64 m::(C1 u8 n.l++i64 o::i64 p::i64 q::i64 s::i64 t::i64 u::i64 w::i64 x::i64 y::i64 z::i64 aa::i64 ab::i64 ac::i64 ad::i64 ae::.str af::.sl false (L Aj ag)::u64 ah::u64 ai::i64 aj::i64 ak::(C1 u8 al.l++[i64 am,i64 an,i64 ao,i64 ap,i64 aq,i64 ar,i64 au,i64 av,i64 aw,i64 ax,i64 ay,i64 az,i64 aA,i64 aB,i64 aC,.str aD,.sl false (L Aj aE),u64 aF,u64 aG]))) false]) [1,4,6,8,9,10] Aa (Ev (by simp only[go_sem,qR aL,aM,aN,aO,aP,aQ,aR,aS,aT,aU,aV,aW,aX,aY,aZ,a0,a1,a2,a3,a4,a5,a6,a7,a8,a9,ba,bb,bc,bd,be,bf,bg,bh,bi,bj,bk,bl,bm,bn,bo,bp,bq,br,bs,bt];exact AZ)) ?_
    refine Tw [1,4,6,8,9,10,35] (fun aH=>⟨Aq 41 [(1,i64 b),(4,i64 e),(6,.ref 0 0),(8,.sl false (L Aw a.Zz1)),(9,i64 (a.Zz1.length:Int)),(10,i64 f),(35,.bool aH)],[.box (i64 k::i64 m::(C1 u8 n.l++i64 o::i64 p::i64 q::i64 s::i64 t::i64 u::i64 w::i64 x::i64 y::i64 z::i64 aa::i64 ab::i64 ac::i64 ad::i64 ae::.str af::.sl false (L Aj ag)::u64 ah::u64 ai::i64 aj::i64 ak::(C1 u8 al.l++[i64 am,i64 an,i64 ao,i64 ap,i64 aq,i64 ar,i64 au,i64 av,i64 aw,i64 ax,i64 ay,i64 az,i64 aA,i64 aB,i64 aC,.str aD,.sl false (L Aj aE),u64 aF,u64 aG]))) false]⟩) ?_ ?_
    ·intro _;refine Sp (fun c=>?_) fun c=>?_
     ·refine Sp (fun d=>?_) fun d=>?_
      ·refine Sp (fun g=>?_) fun g=>?_
       ·exact Lf Aa (Ew3 c d g) (ws [0])
       ·exact Lf Aa (Ew3 c d g) (ws [0])
      ·exact Lf Aa (Ew2 c d) (ws [0])
     ·exact Lf Aa (Ew1 c) (ws [0])
    intro aH;refine Cd ?_ ?_
    ·refine F0 [1,4,8,9,10] ?_;exact Bn <|Jm (ws [])
    ·exact Sk <|Bn <|Jm (ws [])
   intro j;refine F0 [1,4,8,9,10] ?_;exact Ln (ws [])
  ·refine Sx <|Tx <|Ly aK aJ <|Bx <|?_
   exact Jm ((ws (l':=[(4,i64 e)]) (σ':=[]) []).trans (ws []))
 intro i;refine T0 [4] ?_;exact Sr <|Rr
theorem Cj{a r}(h:BE a=some r):Con B 22 [.agg (An a)] [] (fun r' σ'=>r'=.agg (An r)∧σ'=[]):=by
 refine Cw 34 [.cell 2 40] Tryd.func22 (fun F hE=>?_) h;unfold BE;refine T0 [1,2] ?_;refine Ja (fun c=>⟨Aq 34 [(2,.ref 0 0)],[.box [.bs false 1 (c.length) 0 (c.length),.sl true (L Aw ([]))] false,.buf 1 (L (cSl Ak) c) false]⟩) ?_ ?_
 ·intro u;refine T0 [1,2,7,8,9] ?_;refine Sb ?_;refine Lo (fun(v:Int×List (List AkH))=>(⟨Aq 34 [(1,.ref 0 0),(2,.ref 1 0),(7,.sl false (L (cSl Ak) a.Zy1)),(8,i64 (a.Zy1.length:Int)),(9,i64 v.1)],[.box (An a) false,.box [.bs false 2 (v.2.length) 0 (v.2.length),.sl true (L Aw ([]))] false,.buf 1 (L (cSl Ak) v.2) false]⟩:St)) ((Gy 1 0 1 rfl rfl).trans (ws [0,1,2])) ?_;rintro⟨e,b⟩ w g i j;show C2 a e b=some g→_;unfold C2;refine T0 [1,2,7,8,9,10] ?_;refine Sq <|Cd ?_ ?_
  ·refine Sk <|Tn <|Sq <|Sb <|Ck fun k =>Lt fun l m =>Te (fr':=[(1,_),(2,_),(3,_),(4,.sl false (L Ak l)),(7,_),(8,_),(9,_)]) [1,2,3,4,7,8,9] Aa (Ew2 (qR k) m) ?_
   refine Ja (fun f=>⟨Aq 34 [(1,.ref 0 0),(2,.ref 1 0),(4,.sl false (L Ak f)),(7,.sl false (L (cSl Ak) a.Zy1)),(8,i64 (a.Zy1.length:Int)),(9,i64 e)],[.box (An a) false,.box [.bs false 2 (b.length) 0 (b.length),.sl true (L Aw ([]))] false,.buf 1 (L (cSl Ak) b) false]⟩) ?_ ?_
   ·intro x;refine Bd fun y n =>Te [1,2,4,5,7,8,9] (o1 16 (AF n)) Ev ?_
    refine T0 [1,2,4,5,7,8,9,18] ?_;refine Cd ?_ ?_
    ·refine Ck fun o =>Lt fun p q =>Fe (fr':=[(1,_),(2,_),(4,.sl false (L Ak p)),(7,_),(8,_),(9,_)]) [1,2,4,7,8,9] Aa (Ew2 o q) ?_
     exact Jm (ws [0,1,2])
    ·exact Sk <|Jm (ws [0,1,2])
   intro f;refine Ck fun s =>Lt fun d t =>Fe (σ':=[_,.box [.bs false 2 (d.length) 0 (d.length),.sl true (L Aw ([]))] false,.buf 1 (L (cSl Ak) d) false,_]) [1,2,7,8,9] Aa (Ew2 s t) ?_
   refine Bn <|Tn <|F0 [1,2,7,8,9] ?_
   exact Ln (ws [0,1,2])
  ·refine Sx <|Tx <|Ly j i <|Bx <|?_
   exact Jm ((ws (l':=[(2,.ref 0 0)]) (σ':=[.box [.bs false 1 (b.length) 0 (b.length),.sl true (L Aw ([]))] false,.buf 1 (L (cSl Ak) b) false]) [1,2]).trans (ws [0,1]))
 intro c;refine T0 [2] ?_;exact Sr <|Rr
theorem KL{a r}(h:Lw a=some r):Con B 50 [.agg (An a)] [] (fun r' σ'=>r'=.fn 74 [.ref 0 0]∧σ'=[.box (An r) false]):=by
 refine Co 0 4 [.tmp 2] Tryd.func50 (fun F hE=>?_) h;unfold Lw;refine T0 [1] ?_;refine T0 [2] ?_;exact Sr <|Ro [0]
theorem Ab8{F:Out}{σ:Al}{id:Nat}{a b:Int}{x:AV}:QP (B.env F) σ 119 (.mref id) (.agg [i64 a,i64 b]) x=(if Qe a b then(match σ[id]? with
 |some (.mp es)=>if x.closed=true then some (σ.set id (.mp (Lb es (a,b) x)))else none
 |_=>none)else none):=WY rfl rfl
attribute [local go_sem] Ab8
theorem Da{n r}(h:B2 n=some r):Con B 23 [.agg (An n)] [] (fun r' σ'=>r'=.sl false (L A1 r)∧σ'=[]):=by
 refine Cm 78 [.cell 2 85] Tryd.func23 (fun F b_ hE=>?_) h;unfold B2;refine T0 [1,2] ?_;refine Bd fun c aq =>Te [2,3] (o1 14 (Cj aq)) Ev ?_
 refine T0 [2,3,4] ?_;refine T0 [2,3,4,5] ?_;refine Sq <|Bd fun d ar =>Te [2,3,4,5,17] (Ar (l:=[]) (m:=[(17,50,[.agg (An c)],[.box (An n) false,.box [.sl true (L A1 ([]))] false,.box (An c) false,.box [i64 0,i64 0] false,.mp (M2 Ew ([])),.box [.mref 4] false],_,_)]) trivial ⟨(wc (KL ar) []),trivial⟩) Ev ?_
 refine Sb ?_;refine Rw (ws (l':=[(2,.ref 0 0),(3,.ref 1 0),(4,.ref 2 0),(5,.ref 3 0),(17,.fn 74 [.ref 4 0])]) (σ':=[.box [.sl true (L A1 ([]))] false,.box (An c) false,.box [i64 0,i64 0] false,.box [.mref 5] false,.box (An d) false,.mp (M2 Ew ([]))]) [1,2,3,5,6,4]) ?_;refine Bd ?_;rintro b hx_x_9418 hP_x_9418;refine Ra (fun(v:List ((Int×Int)×AkM))=>[.box [.sl true (L A1 ([]))] false,.box (An c) false,.box [i64 0,i64 0] false,.box [.mref 5] false,.box (An d) false,.mp (M2 Ew v)]) [(4,.ref 2 0),(5,.ref 3 0)] 6 [.box [.sl true (L A1 ([]))] false,.box (An c) false,.box [i64 0,i64 0] false,.box [.mref 5] false,.box (An d) false,.mp (M2 Ew ([]))] [.box [.sl true (L A1 ([]))] false,.box (An c) false,.box [i64 0,i64 0] false,.box [.mref 5] false,.box (An d) false,.mp (M2 Ew b),.gone] ?_ ?_ hx_x_9418 (⟨⟨by decide,rfl⟩,⟨by decide,rfl⟩,trivial⟩)
 ·intro lp_ ac_ bd_;rintro b j k f v_;show Gf b j k f=some v_→Run _ _ _ ⟨Aq 78 [(19,.agg (Ak f)),(18,.agg [i64 j,i64 k]),(4,.ref 2 0),(5,.ref 3 0)],[.box [.sl true (L A1 ([]))] false,.box (An c) false,.box [i64 0,i64 0] false,.box [.mref 5] false,.box (An d) false,.mp (M2 Ew b),.lp false 78 [(4,.ref 2 0),(5,.ref 3 0)] #[18,19] ac_ bd_,.box (Ak f) false]⟩ _;have hE:=ok.env { F:=F,rd:=some lp_ };unfold Gf;refine T0 [4,5,6,19] ?_;refine F0 [4,5,6,7] ?_;refine Wp (Weak.refl _ _) ?_;refine Yb (N':=0) [.box [.sl true (L A1 ([]))] false,.box (An c) false,.box [i64 0,i64 0] false,.box [.mref 5] false,.box (An d) false,.mp (M2 Ew b),.lp true 78 [(4,.ref 2 0),(5,.ref 3 0)] #[18,19] ac_ bd_,.box (Ak f) false,.box [i64 j,i64 k] false,.box (Ak f) false] ?_;refine Sb <|T0 [4,5,6,7,8] ?_
  refine Tw [5,6,7,8,32] (fun s=>⟨Aq 78 [(5,.ref 3 0),(6,.ref 7 0),(7,.ref 8 0),(8,.ref 9 0),(32,.bool s)],[.box [.sl true (L A1 ([]))] false,.box (An c) false,.box [i64 0,i64 0] false,.box [.mref 5] false,.box (An d) false,.mp (M2 Ew b),.lp true 78 [(4,.ref 2 0),(5,.ref 3 0)] #[18,19] ac_ bd_,.box [i64 j,i64 k] false,.box (Ak f) false,.box [i64 f.Zx1.Ref.Zb,i64 f.Zx1.Ref.No] false]⟩) ?_ ?_
  ·intro _;refine Sp (fun o=>?_) fun o=>?_
   ·exact Lf Aa (Ew1 o) (ws [0,1,2,3,4,5,6,8,9,10])
   ·exact Lf Aa (Ew1 o) (ws [0,1,2,3,4,5,6,8,9,10])
  intro s;refine Cd ?_ ?_
  ·refine Ck fun au =>Lt fun t av =>Fe (σ':=[_,_,_,_,_,.mp (M2 Ew t),_,_,_,_]) [] Aa (Ew2 au av) ?_
   refine Bn ?_;refine Wp (ws (l':=[]) (σ':=[.box [.sl true (L A1 ([]))] false,.box (An c) false,.box [i64 0,i64 0] false,.box [.mref 5] false,.box (An d) false,.mp (M2 Ew t),.lp true 78 [(4,.ref 2 0),(5,.ref 3 0)] #[18,19] ac_ bd_]) [0,1,2,3,4,5,6]) ?_;exact Yf
  ·refine Sk <|Bn <|?_
   refine Wp (ws (l':=[]) (σ':=[.box [.sl true (L A1 ([]))] false,.box (An c) false,.box [i64 0,i64 0] false,.box [.mref 5] false,.box (An d) false,.mp (M2 Ew b),.lp true 78 [(4,.ref 2 0),(5,.ref 3 0)] #[18,19] ac_ bd_]) [0,1,2,3,4,5,6]) ?_;exact Yf
 ·revert hP_x_9418;refine Bn <|Tn <|?_
  refine Rw (ws (l':=[(2,.ref 0 0),(3,.ref 1 0),(4,.ref 2 0),(5,.ref 3 0)]) (σ':=[.box [.sl true (L A1 ([]))] false,.box (An c) false,.box [i64 0,i64 0] false,.box [.mref 5] false,.box (An d) false,.mp (M2 Ew b)]) [0,1,2,3,4,5]) ?_;refine Sq <|Bd fun e aw =>Te [2,4,5,43] (Ar (l:=[]) (m:=[(43,50,[.agg (An c)],[.box [.sl true (L A1 ([]))] false,.box (An c) false,.box [i64 0,i64 0] false,.box [.mref 5] false,.box (An d) false,.mp (M2 Ew b)],_,_)]) trivial ⟨(wc (KL aw) []),trivial⟩) Ev ?_
  refine Sb ?_;refine Rw ((Gy 0 0 21 rfl rfl).trans (ws (l':=[(2,.ref 0 0),(4,.ref 1 0),(5,.ref 2 0),(43,.fn 74 [.ref 3 0])]) (σ':=[.box [.bs false 4 (([]:List AkM).length) 0 (([]:List AkM).length)] false,.box [i64 0,i64 0] false,.box [.mref 5] false,.box (An e) false,.buf 21 (L A1 ([])) false,.mp (M2 Ew b)]) [0,2,3,6,7,5])) ?_;refine Bd ?_;rintro a hx_x_9587 hP_x_9587;refine Ra (fun(v:List AkM)=>[.box [.bs false 4 (v.length) 0 (v.length)] false,.box [i64 0,i64 0] false,.box [.mref 5] false,.box (An e) false,.buf 21 (L A1 v) false,.mp (M2 Ew b)]) [(2,.ref 0 0),(4,.ref 1 0),(5,.ref 2 0)] 6 [.box [.bs false 4 (([]:List AkM).length) 0 (([]:List AkM).length)] false,.box [i64 0,i64 0] false,.box [.mref 5] false,.box (An e) false,.buf 21 (L A1 ([])) false,.mp (M2 Ew b)] [.box [.bs false 4 (a.length) 0 (a.length)] false,.box [i64 0,i64 0] false,.box [.mref 5] false,.box (An e) false,.buf 21 (L A1 a) false,.mp (M2 Ew b),.gone] ?_ ?_ hx_x_9587 (⟨⟨by decide,rfl⟩,⟨by decide,rfl⟩,⟨by decide,rfl⟩,trivial⟩)
  ·intro lp_ ac_ bd_;rintro a p q i v_;show FW b a p q i=some v_→Run _ _ _ ⟨Aq 78 [(45,.agg (Ak i)),(44,.agg [i64 p,i64 q]),(2,.ref 0 0),(4,.ref 1 0),(5,.ref 2 0)],[.box [.bs false 4 (a.length) 0 (a.length)] false,.box [i64 0,i64 0] false,.box [.mref 5] false,.box (An e) false,.buf 21 (L A1 a) false,.mp (M2 Ew b),.lp false 78 [(2,.ref 0 0),(4,.ref 1 0),(5,.ref 2 0)] #[44,45] ac_ bd_,.box (Ak i) false]⟩ _;have hE:=ok.env { F:=F,rd:=some lp_ };unfold FW;refine T0 [2,4,5,9,45] ?_;refine F0 [2,4,5,9,10] ?_;refine Wp (Weak.refl _ _) ?_;refine Yb (N':=0) [.box [.bs false 4 (a.length) 0 (a.length)] false,.box [i64 0,i64 0] false,.box [.mref 5] false,.box (An e) false,.buf 21 (L A1 a) false,.mp (M2 Ew b),.lp true 78 [(2,.ref 0 0),(4,.ref 1 0),(5,.ref 2 0)] #[44,45] ac_ bd_,.box (Ak i) false,.box [i64 p,i64 q] false,.box (Ak i) false] ?_;refine Sb <|Sq <|Lt fun ax ay =>Te (fr':=[(2,_),(4,_),(5,_),(9,_),(10,_),(50,.bool ax)]) [2,4,5,9,10,50] Aa (Ew1 ay) ?_
   refine Cd ?_ ?_
   ·refine Sx <|Tx <|Bx <|?_
    refine Wp (ws (l':=[]) (σ':=[.box [.bs false 4 (a.length) 0 (a.length)] false,.box [i64 0,i64 0] false,.box [.mref 5] false,.box (An e) false,.buf 21 (L A1 a) false,.mp (M2 Ew b),.lp true 78 [(2,.ref 0 0),(4,.ref 1 0),(5,.ref 2 0)] #[44,45] ac_ bd_]) [0,1,2,3,4,5,6]) ?_;exact Yf
   ·refine Sk <|Tn <|Ck fun az =>Lt fun aA aB =>Lt fun aC aD =>Lt fun aE aF =>Lt fun aG aH =>Lt fun aI aJ =>Lt fun aK aL =>Lt fun aM aN =>Lt fun aO aP =>Lt fun aQ aR =>Lt fun aS aT =>Lt fun aU aV =>Lt fun aW aX =>Lt fun aY aZ =>Lt fun a0 a1 =>Lt fun a2 a3 =>Lt fun a4 a5 =>Lt fun a6 a7 =>Lt fun a8 a9 =>Lt fun ba bb =>Lt fun bc bd =>Lt fun be bf =>Lt fun bg bh =>Te (fr':=[(2,_),(4,_),(9,_),(10,_),(11,_),(12,.bool aA)]) (σ':=[_,_,_,_,_,_,_,_,_,_,.box [i64 aC,i64 aE,i64 aG,i64 aI,i64 aK,i64 aM,i64 aO,i64 aQ,i64 aS,i64 aU,i64 aW,i64 aY,i64 a0,i64 a2,i64 a4,i64 a6,i64 a8,i64 ba,i64 bc,.str be,.sl false (L Aj bg)] false]) [2,4,9,10,11,12] Aa (Ev (by simp only[go_sem,az,aB,aD,aF,aH,aJ,aL,aN,aP,aR,aT,aV,aX,aZ,a1,a3,a5,a7,a9,bb,bd,bf,bh];exact AZ)) ?_
    refine Jo (fun⟨u,w,x,y,z,aa,ab,ac,ad,ae,af,ag,ah,ai,aj,ak,al,am,an,ao,ap⟩=>⟨Aq 78 [(2,.ref 0 0),(4,.ref 1 0),(11,.ref 7 0)],[.box [.bs false 4 (a.length) 0 (a.length)] false,.box [i64 0,i64 0] false,.box [.mref 5] false,.box (An e) false,.buf 21 (L A1 a) false,.mp (M2 Ew b),.lp true 78 [(2,.ref 0 0),(4,.ref 1 0),(5,.ref 2 0)] #[44,45] ac_ bd_,.box [i64 u,i64 w,i64 x,i64 y,i64 z,i64 aa,i64 ab,i64 ac,i64 ad,i64 ae,i64 af,i64 ag,i64 ah,i64 ai,i64 aj,i64 ak,i64 al,i64 am,i64 an,.str ao,.sl false (L Aj ap)] false]⟩) ?_ ?_
    ·intro bl bi;refine T0 [2,4,9,10,11,58] ?_;refine Cd ?_ ?_
     ·refine F0 [2,4,11] ?_;exact Jn (ws [0,1,2,3,4,5,6,10])
     ·refine T0 [2,4,11,69] ?_;refine Cd ?_ ?_
      ·refine Sx <|Jx bi <|Bx <|?_
       refine Wp (ws (l':=[]) (σ':=[.box [.bs false 4 (a.length) 0 (a.length)] false,.box [i64 0,i64 0] false,.box [.mref 5] false,.box (An e) false,.buf 21 (L A1 a) false,.mp (M2 Ew b),.lp true 78 [(2,.ref 0 0),(4,.ref 1 0),(5,.ref 2 0)] #[44,45] ac_ bd_]) [0,1,2,3,4,5,6]) ?_;exact Yf
      ·exact Sk <|Jn (ws [0,1,2,3,4,5,6,10])
    rintro⟨u,w,x,y,z,aa,ab,ac,ad,ae,af,ag,ah,ai,aj,ak,al,am,an,ao,ap⟩;refine T0 [2,11] ?_;refine Ck fun bj =>Lt fun g bk =>Fe (σ':=[.box [.bs false 4 (g.length) 0 (g.length)] false,_,_,_,.buf 21 (L A1 g) false,_,_,_,_]) [] Aa (Ew2 bj bk) ?_
    refine Bn ?_;refine Wp (ws (l':=[]) (σ':=[.box [.bs false 4 (g.length) 0 (g.length)] false,.box [i64 0,i64 0] false,.box [.mref 5] false,.box (An e) false,.buf 21 (L A1 g) false,.mp (M2 Ew b),.lp true 78 [(2,.ref 0 0),(4,.ref 1 0),(5,.ref 2 0)] #[44,45] ac_ bd_]) [0,1,2,3,4,5,6]) ?_;exact Yf
  ·revert hP_x_9587;refine Bn <|Tn <|?_
   refine Rw (ws (l':=[(2,.ref 0 0)]) (σ':=[.box [.bs false 4 (a.length) 0 (a.length)] false,.box [i64 0,i64 0] false,.box [.mref 5] false,.box (An e) false,.buf 21 (L A1 a) false,.mp (M2 Ew b)]) [0,1,2,3,4,5]) ?_;refine T0 [2] ?_;exact Sr <|Rr
theorem NJ{r}(h:law14_sane  = some r):Con B 7 [] [] (fun r' σ'=>r'=.bool r∧σ'=[]):=by
 refine Cw 203 [.tmp 0] Tryd.func7 (fun F hE=>?_) h;unfold law14_sane;refine T0 [] ?_;refine Bd fun aF al =>Te [1] (o1 25 (M4 al)) Ev ?_
 refine T0 [1,2] ?_;refine Bd fun aG am =>Bd fun aH an =>De [[],[],[],[0,1,2],[0,1,2,3],[0,1,2,3,4],[0,1,2,3,4],[],[0,1,2,3,4,5,7],[0,1,2,3,4,5,6,7,8]] [1,2,3,4] (o2 30 (Ed am) 31 (CF an)) Ev ?_
 refine Bd fun ao ap =>Te [1,2,3,4,5,6] (o1 38 (B9 ap)) Ev ?_
 refine Bd fun aI aq =>Te [1,2,3,4,5,6,7,8] (o1 45 (B9 aq)) Ev ?_
 refine Bd fun aJ ar =>Bd fun aK au =>De [[],[],[],[0,1,2],[0,1,2,3],[0,1,2,3,4],[0,1,2,3,4],[],[0,1,2,3,4,5,7],[0,1,2,3,4,5,6,7,8]] [1,2,3,4,5,6,7,8,10] (o2 51 (Ed ar) 52 (CF au)) Ev ?_
 refine Bd fun aL av =>Bd fun aw ax =>De [[],[],[],[0,1,2],[0,1,2,3],[0,1,2,3,4],[0,1,2,3,4],[],[0,1,2,3,4,5,7],[0,1,2,3,4,5,6,7,8]] [1,2,3,4,5,6,7,8,10,11,12] (o2 58 (Ed av) 59 (CF ax)) Ev ?_
 refine Bd fun ac ay =>Te [1,2,3,4,5,6,7,8,10,12,13,14] (o1 66 (B9 ay)) Ev ?_
 refine Bd fun aM az =>Bd fun ad aA =>De [[],[],[],[0,1,2],[0,1,2,3],[0,1,2,3,4],[0,1,2,3,4],[],[0,1,2,3,4,5,7],[0,1,2,3,4,5,6,7,8]] [1,2,3,4,5,6,7,8,10,12,13,14,16] (o2 72 (Ed az) 73 (CF aA)) Ev ?_
 refine Bd fun ae aB =>Te [1,2,3,4,5,6,7,8,10,12,13,14,16,17,18] (o1 81 (CF aB)) Ev ?_
 refine Bd fun q aC =>Te [1,2,3,4,5,6,7,8,10,12,13,14,16,18,19,20] (o1 88 (B9 aC)) Ev ?_
 refine Bd fun af aD =>Te [3,4,5,6,7,8,10,12,13,14,16,18,19,20,22] (o1 96 (CF aD)) Ev ?_
 refine Tw [5,12,13,14,16,18,19,20,22,23] (fun x=>⟨Aq 203 [(5,.ref 0 0),(12,i64 aw.2),(13,.ref 1 0),(14,i64 ac.2),(16,i64 ad.2),(18,i64 ae.2),(19,.ref 2 0),(20,i64 q.2),(22,i64 af.2),(23,.bool x)],[.box (An ao.1) false,.box (An ac.1) false,.box (An q.1) false]⟩) ?_ ?_
 ·intro _;refine Sp (fun a=>?_) fun a=>?_
  ·refine Sp (fun b=>?_) fun b=>?_
   ·refine Sp (fun c=>?_) fun c=>?_
    ·refine Sp (fun f=>?_) fun f=>?_
     ·refine Sp (fun j=>?_) fun j=>?_
      ·refine Ck fun s=>?_
       refine Sp (fun n=>?_) fun n=>?_
       ·refine Sp (fun t=>?_) fun t=>?_
        ·refine Bd fun aN ag=>?_
         refine Sp (fun y=>?_) fun y=>?_
         ·exact Lf (o1 137 (KS ag)) (Ev (by simp only[go_sem,a,b,I1,JB,Hl,c,f,j,qL s,n,t,y];exact AZ)) (ws [3,7,10])
         ·exact Lf (o1 137 (KS ag)) (Ev (by simp only[go_sem,a,b,I1,JB,Hl,c,f,j,qL s,n,t,y];exact AZ)) (ws [3,7,10])
        ·exact Lf Aa (Ev (by simp only[go_sem,a,b,I1,JB,Hl,c,f,j,qL s,n,t];exact AZ)) (ws [3,7,10])
       ·exact Lf Aa (Ev (by simp only[go_sem,a,b,I1,JB,Hl,c,f,j,qL s,n];exact AZ)) (ws [3,7,10])
      ·exact Lf Aa (Ev (by simp only[go_sem,a,b,I1,JB,Hl,c,f,j];exact AZ)) (ws [3,7,10])
     ·exact Lf Aa (Ev (by simp only[go_sem,a,b,I1,JB,Hl,c,f];exact AZ)) (ws [3,7,10])
    ·exact Lf Aa (Ev (by simp only[go_sem,a,b,I1,JB,Hl,c];exact AZ)) (ws [3,7,10])
   ·exact Lf Aa (Ew2 a b) (ws [3,7,10])
  ·exact Lf Aa (Ew1 a) (ws [3,7,10])
 intro x;refine Tw [16,18,19,20,22,23,24] (fun ah=>⟨Aq 203 [(16,i64 ad.2),(18,i64 ae.2),(19,.ref 0 0),(20,i64 q.2),(22,i64 af.2),(23,.bool x),(24,.bool ah)],[.box (An q.1) false]⟩) ?_ ?_
 ·intro _;refine Sp (fun d=>?_) fun d=>?_
  ·refine Sp (fun g=>?_) fun g=>?_
   ·refine Sp (fun k=>?_) fun k=>?_
    ·refine Bd fun aO u=>?_
     refine Sp (fun o=>?_) fun o=>?_
     ·refine Bd fun aP z=>?_
      refine Sp (fun v=>?_) fun v=>?_
      ·refine Bd fun aQ ai=>?_
       refine Sp (fun aa=>?_) fun aa=>?_
       ·refine Bd fun aR aE=>?_
        exact Lf (D7 (l:=[(157,_,_,_),(162,_,_,_),(167,_,_,_),(173,_,_,_)]) ⟨AF  u,AF  z,Da  ai,Da  aE,trivial⟩) (Ev (by simp only[go_sem,d,g,k,o,v,aa];exact AZ)) (ws [2])
       ·exact Lf (D7 (l:=[(157,_,_,_),(162,_,_,_),(167,_,_,_)]) ⟨AF  u,AF  z,Da  ai,trivial⟩) (Ev (by simp only[go_sem,d,g,k,o,v,aa];exact AZ)) (ws [2])
      ·exact Lf (o2 157 (AF u) 162 (AF z)) (Ew5 d g k o v) (ws [2])
     ·exact Lf (o1 157 (AF u)) (Ew4 d g k o) (ws [2])
    ·exact Lf Aa (Ew3 d g k) (ws [2])
   ·exact Lf Aa (Ew2 d g) (ws [2])
  ·exact Lf Aa (Ew1 d) (ws [2])
 intro ah;refine Tw [0] (fun aj=>⟨Aq 203 [(0,.bool aj)],[]⟩) ?_ ?_
 ·intro _;refine Sp (fun e=>?_) fun e=>?_
  ·refine Sp (fun i=>?_) fun i=>?_
   ·refine Sp (fun m=>?_) fun m=>?_
    ·refine Sp (fun p=>?_) fun p=>?_
     ·refine Sp (fun w=>?_) fun w=>?_
      ·refine Bd fun aS ak=>?_
       refine Sp (fun ab=>?_) fun ab=>?_
       ·exact Lf (o1 195 (Da ak)) (Ev (by simp only[go_sem,e,i,m,p,w,ab];exact AZ)) (ws [])
       ·exact Lf (o1 195 (Da ak)) (Ev (by simp only[go_sem,e,i,m,p,w,ab];exact AZ)) (ws [])
      ·exact Lf Aa (Ew5 e i m p w) (ws [])
     ·exact Lf Aa (Ew4 e i m p) (ws [])
    ·exact Lf Aa (Ew3 e i m) (ws [])
   ·exact Lf Aa (Ew2 e i) (ws [])
  ·exact Lf Aa (Ew1 e) (ws [])
 intro aj;exact Sr <|Rr
theorem F9{a r}(h:GX a=some r):Con B 8 [.agg (Av a)] [] (fun r' σ'=>r'=.bool r∧σ'=[]):=by
 refine Cw 86 [.tmp 2] Tryd.func8 (fun F hE=>?_) h;unfold GX;refine T0 [1] ?_;refine Jo (fun _=>⟨Aq 86 [(1,.ref 0 0)],[.box (Av a) false]⟩) ?_ ?_
 ·intro y t;refine T0 [1,3] ?_;refine Sb ?_;refine Lo (fun e=>⟨Aq 86 [(1,.ref 0 0),(3,i64 e)],[.box (Av a) false]⟩) (ws [0]) ?_;rintro e z u n o;show Fp a e=some u→_;unfold Fp;refine Sq ?_;refine Tw [1,3,14] (fun p=>⟨Aq 86 [(1,.ref 0 0),(3,i64 e),(14,.bool p)],[.box (Av a) false]⟩) ?_ ?_
  ·intro _;refine Sp (fun i=>?_) fun i=>?_
   ·exact Lf Aa (Ew1 i) (ws [0])
   ·exact Lf Aa (Ew1 i) (ws [0])
  intro p;refine Cd ?_ ?_
  ·refine Sk <|Tn <|Sq <|Sb <|Ck fun v =>Lt fun w x =>Te (fr':=[(1,_),(3,_),(25,.bool w)]) [1,3,25] Aa (Ew2 (qR v) x) ?_
   refine Cd ?_ ?_
   ·refine T0 [2] ?_;exact Sr <|Br <|Tr <|Lr o n <|Br <|Jr t <|Rr
   ·refine Sk <|Bn <|Tn <|F0 [1,3] ?_
    exact Ln (ws [0])
  ·refine Sx <|Tx <|Lx o n <|Bx <|?_
   exact Jn ((ws (l':=[(1,.ref 0 0)]) (σ':=[.box (Av a) false]) [0]).trans (ws [0]))
 intro _;refine Tw [1,4] (fun j=>⟨Aq 86 [(1,.ref 0 0),(4,.bool j)],[.box (Av a) false]⟩) ?_ ?_
 ·intro _;refine Sp (fun k=>?_) fun k=>?_
  ·exact Lf Aa (Ew1 k) (ws [0])
  ·exact Lf Aa (Ew1 k) (ws [0])
 intro j;refine Tw [1,4,5] (fun q=>⟨Aq 86 [(1,.ref 0 0),(4,.bool j),(5,.bool q)],[.box (Av a) false]⟩) ?_ ?_
 ·intro _;refine Sp (fun c=>?_) fun c=>?_
  ·refine Sp (fun f=>?_) fun f=>?_
   ·refine Sp (fun l=>?_) fun l=>?_
    ·exact Lf Aa (Ew3 c f l) (ws [0])
    ·exact Lf Aa (Ew3 c f l) (ws [0])
   ·exact Lf Aa (Ew2 c f) (ws [0])
  ·exact Lf Aa (Ew1 c) (ws [0])
 intro q;refine Tw [2] (fun s=>⟨Aq 86 [(2,.bool s)],[]⟩) ?_ ?_
 ·intro _;refine Sp (fun b=>?_) fun b=>?_
  ·refine Sp (fun d=>?_) fun d=>?_
   ·refine Sp (fun g=>?_) fun g=>?_
    ·refine Sp (fun m=>?_) fun m=>?_
     ·exact Lf Aa (Ew4 b d g m) (ws [])
     ·exact Lf Aa (Ew4 b d g m) (ws [])
    ·exact Lf Aa (Ew3 b d g) (ws [])
   ·exact Lf Aa (Ew2 b d) (ws [])
  ·exact Lf Aa (Ew1 b) (ws [])
 intro s;exact Sr <|Rr
theorem C4{b r}(h:C3 b=some r):Con B 10 [.agg (A3 b)] [] (fun r' σ'=>r'=.bool r∧σ'=[]):=by
 refine Cw 13 [.tmp 2] Tryd.func10 (fun F hE=>?_) h;unfold C3;refine T0 [1] ?_;refine Tw [2] (fun c=>⟨Aq 13 [(2,.bool c)],[]⟩) ?_ ?_
 ·intro _;refine Sp (fun a=>?_) fun a=>?_
  ·exact Lf Aa (Ew1 a) (ws [])
  ·exact Lf Aa (Ew1 a) (ws [])
 intro c;exact Sr <|Rr
theorem FN{a r}(h:EO a=some r):Con B 9 [.agg (An a)] [] (fun r' σ'=>r'=.bool r∧σ'=[]):=by
 refine Cw 78 [.tmp 2] Tryd.func9 (fun F hE=>?_) h;unfold EO;refine T0 [1] ?_;refine Sq ?_;refine Tw [1,15] (fun j=>⟨Aq 78 [(1,.ref 0 0),(15,.bool j)],[.box (An a) false]⟩) ?_ ?_
 ·intro _;refine Sp (fun d=>?_) fun d=>?_
  ·exact Lf Aa (Ew1 d) (ws [0])
  ·exact Lf Aa (Ew1 d) (ws [0])
 intro j;refine Cd ?_ ?_
 ·refine T0 [2] ?_;exact Sr <|Tr <|Rr
 ·refine Sk <|Tn <|?_
  refine Jo (fun _=>⟨Aq 78 [(1,.ref 0 0)],[.box (An a) false]⟩) ?_ ?_
  ·intro aj k;refine T0 [1,3] ?_;refine Sb ?_;refine Lo (fun b=>⟨Aq 78 [(1,.ref 0 0),(3,i64 b)],[.box (An a) false]⟩) (ws [0]) ?_;rintro b ak u e f;show Dk a b=some u→_;unfold Dk;refine Sq <|T0 [1,3,20] ?_
   refine Cd ?_ ?_
   ·refine Sk <|Tn <|?_
    refine Jo (fun _=>⟨Aq 78 [(1,.ref 0 0),(3,i64 b)],[.box (An a) false]⟩) ?_ ?_
    ·intro al l;refine Sb <|Sq <|Ck fun v =>Lt fun w x =>Te (fr':=[(1,_),(3,_),(29,.bool w)]) [1,3,29] Aa (Ew2 (qR v) x) ?_
     refine Cd ?_ ?_
     ·refine T0 [2] ?_;exact Sr <|Tr <|Br <|Jr l <|Lr f e <|Br <|Jr k <|Rr
     ·refine Sk <|Tn <|T0 [1,3,4] ?_
      refine Sb ?_;refine Lo (fun g=>⟨Aq 78 [(1,.ref 0 0),(3,i64 b),(4,i64 g)],[.box (An a) false]⟩) (ws [0]) ?_;rintro g am y m n;show CK a b g=some y→_;unfold CK;refine Sq <|Ck fun z =>Lt fun aa ab =>Te (fr':=[(1,_),(3,_),(4,_),(37,.bool aa)]) [1,3,4,37] Aa (Ew2 (qR z) ab) ?_
      refine Cd ?_ ?_
      ·refine Sk <|Tn <|Sq <|Sb <|Ck fun ac =>Ck fun ad =>Bd fun an ae =>Te [1,3,4,50] (o1 49 (C4 ae)) (Ew2 (qR ac) (qR ad)) ?_
       refine Cd ?_ ?_
       ·refine T0 [2] ?_;exact Sr <|Br <|Tr <|Lr n m <|Br <|Br <|Jr l <|Lr f e <|Br <|Jr k <|Rr
       ·refine Sk <|Bn <|Tn <|F0 [1,3,4] ?_
        exact Ln (ws [0])
      ·refine Sx <|Tx <|Lx n m <|Bx <|Bn <|?_
       exact Jn ((ws (l':=[(1,.ref 0 0),(3,i64 b)]) (σ':=[.box (An a) false]) [0]).trans (ws [0]))
    intro _;refine F0 [1,3] ?_;exact Ln (ws [0])
   ·refine Sx <|Tx <|Lx f e <|Bx <|?_
    exact Jn ((ws (l':=[(1,.ref 0 0)]) (σ':=[.box (An a) false]) [0]).trans (ws [0]))
  intro _;refine Jo (fun _=>⟨Aq 78 [],[]⟩) ?_ ?_
  ·intro ao af;refine T0 [1,5] ?_;refine Sb ?_;refine Lo (fun c=>⟨Aq 78 [(1,.ref 0 0),(5,i64 c)],[.box (An a) false]⟩) (ws [0]) ?_;rintro c ap ag o p;show Dn a c=some ag→_;unfold Dn;refine Sq <|T0 [1,5,55] ?_
   refine Cd ?_ ?_
   ·refine Sk <|Tn <|Sq <|Sb <|?_
    refine Tw [1,5,77] (fun q=>⟨Aq 78 [(1,.ref 0 0),(5,i64 c),(77,.bool q)],[.box (An a) false]⟩) ?_ ?_
    ·intro _;refine Ck fun s =>Bd fun aq t =>?_
     refine Sp (fun i=>?_) fun i=>?_
     ·exact Lf (o1 65 (C4 t)) (Ew2 (qR s) i) (ws [0])
     ·refine Ck fun ah =>Bd fun ar ai =>?_
      exact Lf (o2 65 (C4 t) 75 (C4 ai)) (Ew3 (qR s) i (qR ah)) (ws [0])
    intro q;refine Cd ?_ ?_
    ·refine T0 [2] ?_;exact Sr <|Br <|Tr <|Lr p o <|Br <|Jr af <|Rr
    ·refine Sk <|Bn <|Tn <|F0 [1,5] ?_
     exact Ln (ws [0])
   ·refine Sx <|Tx <|Lx p o <|Bx <|?_
    exact Jn ((ws (l':=[]) (σ':=[]) []).trans (ws []))
  intro _;refine T0 [2] ?_;exact Sr <|Rr
theorem Mm{a b r}(h:Ky a b=some r):Con B 16 [.agg (An a),i64 b] [] (fun r' σ'=>r'=.sl false (L Ak r)∧σ'=[]):=by
 refine Cw 19 [.tmp 4] Tryd.func16 (fun F hE=>?_) h;unfold Ky;refine T0 [1,2] ?_;refine Sq ?_;refine Tw [1,2,13] (fun d=>⟨Aq 19 [(1,i64 b),(2,.ref 0 0),(13,.bool d)],[.box (An a) false]⟩) ?_ ?_
 ·intro _;refine Sp (fun c=>?_) fun c=>?_
  ·exact Lf Aa (Ew1 c) (ws [0])
  ·exact Lf Aa (Ew1 c) (ws [0])
 intro d;refine Cd ?_ ?_
 ·refine T0 [4] ?_;exact Sr <|Tr <|Rr
 ·refine Sk <|Tn <|Ck fun e =>Te [4] Aa (Ew1 (qR e)) ?_
  exact Sr <|Rr
theorem NR{a b r}(h:GP a b=some r):Con B 19 [.agg (An a),i64 b] [] (fun r' σ'=>r'=i64 r∧σ'=[]):=by
 refine Cw 43 [.tmp 4] Tryd.func19 (fun F hE=>?_) h;unfold GP;refine T0 [1,2] ?_;refine T0 [1,2,5] ?_;refine Ja (fun i=>⟨Aq 43 [(5,i64 i)],[]⟩) ?_ ?_
 ·intro aM;refine T0 [1,2,5,6] ?_;refine Sb ?_;refine Lo (fun(v:Int×Int)=>(⟨Aq 43 [(1,i64 b),(2,.ref 0 0),(5,i64 v.1),(6,i64 v.2)],[.box (An a) false]⟩:St)) (ws [0]) ?_;rintro⟨e,f⟩ aN ak al am;show CT a b e f=some ak→_;unfold CT;refine Sq <|T0 [1,2,5,6,12] ?_
  refine Cd ?_ ?_
  ·refine Sk <|Tn <|?_
   refine Ja (fun j=>⟨Aq 43 [(1,i64 b),(2,.ref 0 0),(5,i64 j),(6,i64 f)],[.box (An a) false]⟩) ?_ ?_
   ·intro aO;refine Sb <|Ck fun an =>Lt fun k ao =>Lt fun m ap =>Lt fun n aq =>Lt fun o ar =>Lt fun p au =>Lt fun q av =>Lt fun s aw =>Lt fun t ax =>Lt fun u ay =>Lt fun w az =>Lt fun x aA =>Lt fun y aB =>Lt fun z aC =>Lt fun aa aD =>Lt fun ab aE =>Lt fun ac aF =>Lt fun ad aG =>Lt fun ae aH =>Lt fun af aI =>Lt fun ag aJ =>Lt fun ah aK =>Lt fun ai aL =>Te (σ':=[_,.box (i64 k::i64 m::(C1 u8 n.l++[i64 o,i64 p,i64 q,i64 s,i64 t,i64 u,i64 w,i64 x,i64 y,i64 z,i64 aa,i64 ab,i64 ac,i64 ad,i64 ae,.str af,.sl false (L Aj ag),u64 ah,u64 ai])) false]) [1,2,5,6,7] Aa (Ev (by simp only[go_sem,qR an,ao,ap,aq,ar,au,av,aw,ax,ay,az,aA,aB,aC,aD,aE,aF,aG,aH,aI,aJ,aK,aL];exact AZ)) ?_
    refine Tw [1,2,5,6,7,39] (fun aj=>⟨Aq 43 [(1,i64 b),(2,.ref 0 0),(5,i64 e),(6,i64 f),(7,.ref 1 0),(39,.bool aj)],[.box (An a) false,.box (i64 k::i64 m::(C1 u8 n.l++[i64 o,i64 p,i64 q,i64 s,i64 t,i64 u,i64 w,i64 x,i64 y,i64 z,i64 aa,i64 ab,i64 ac,i64 ad,i64 ae,.str af,.sl false (L Aj ag),u64 ah,u64 ai])) false]⟩) ?_ ?_
    ·intro _;refine Sp (fun c=>?_) fun c=>?_
     ·refine Sp (fun d=>?_) fun d=>?_
      ·refine Sp (fun g=>?_) fun g=>?_
       ·exact Lf Aa (Ew3 c d g) (ws [0,1])
       ·exact Lf Aa (Ew3 c d g) (ws [0,1])
      ·exact Lf Aa (Ew2 c d) (ws [0,1])
     ·exact Lf Aa (Ew1 c) (ws [0,1])
    intro aj;refine Cd ?_ ?_
    ·refine F0 [1,2,5,6] ?_;exact Bn <|Jm (ws [0])
    ·exact Sk <|Bn <|Jm (ws [0])
   intro j;refine F0 [1,2,5,6] ?_;exact Ln (ws [0])
  ·refine Sx <|Tx <|Ly am al <|Bx <|?_
   exact Jm ((ws (l':=[(5,i64 e)]) (σ':=[]) []).trans (ws []))
 intro i;refine T0 [4] ?_;exact Sr <|Rr
theorem F5{a b r}(h:Et a b=some r):Con B 21 [.agg (An a),.agg (An b)] [] (fun r' σ'=>r'=.bool r∧σ'=[]):=by
 refine Cw 28 [.tmp 4] Tryd.func21 (fun F hE=>?_) h;unfold Et;refine T0 [2,3] ?_;refine Jo (fun _=>⟨Aq 28 [],[]⟩) ?_ ?_
 ·intro o i;refine T0 [2,3,5] ?_;refine Sb ?_;refine Lo (fun c=>⟨Aq 28 [(2,.ref 0 0),(3,.ref 1 0),(5,i64 c)],[.box (An a) false,.box (An b) false]⟩) (ws [0,1]) ?_;rintro c p j e f;show CR a b c=some j→_;unfold CR;refine Sq ?_;refine Tw [2,3,5,17] (fun g=>⟨Aq 28 [(2,.ref 0 0),(3,.ref 1 0),(5,i64 c),(17,.bool g)],[.box (An a) false,.box (An b) false]⟩) ?_ ?_
  ·intro _;refine Sp (fun d=>?_) fun d=>?_
   ·exact Lf Aa (Ew1 d) (ws [0,1])
   ·exact Lf Aa (Ew1 d) (ws [0,1])
  intro g;refine Cd ?_ ?_
  ·refine Sk <|Tn <|Sq <|Sb <|Bd fun q k =>Bd fun s m =>Bd fun t n =>De [[],[],[0,1],[],[],[0,1,2,3,4],[0,1,2,3,4,5],[0,1,2,3,4,5,6]] [2,3,5,27] (D7 (l:=[(22,_,_,_),(25,_,_,_),(26,_,_,_)]) ⟨Mm  k,Mm  m,HJ  n,trivial⟩) Ev ?_
   refine Cd ?_ ?_
   ·refine T0 [4] ?_;exact Sr <|Br <|Tr <|Lr f e <|Br <|Jr i <|Rr
   ·refine Sk <|Bn <|Tn <|F0 [2,3,5] ?_
    exact Ln (ws [0,1])
  ·refine Sx <|Tx <|Lx f e <|Bx <|?_
   exact Jn ((ws (l':=[]) (σ':=[]) []).trans (ws []))
 intro _;refine T0 [4] ?_;exact Sr <|Rr
theorem IE{j c d s t u v r}(h:D6 j c d s t u v=some r):Con B 4 [.agg (Av j),.agg (An c),i64 d,u64 s,i64 t,.agg (A3 u),.agg (A3 v)] [] (fun r' σ'=>r'=.bool r∧σ'=[]):=by
 refine Cw 174 [.tmp 14] Tryd.func4 (fun F hE=>?_) h;unfold D6;refine T0 [2,3,4,7,8,12,13] ?_;refine Sq <|Bd fun aD am =>Te [2,3,4,7,8,12,13,28] (o1 27 (NJ am)) Ev ?_
 refine Cd ?_ ?_
 ·refine T0 [14] ?_;exact Sr <|Tr <|Rr
 ·refine Sk <|Tn <|Sq <|?_
  refine Tw [2,3,4,7,8,12,13,46] (fun ac=>⟨Aq 174 [(2,i64 d),(3,u64 s),(4,i64 t),(7,.ref 0 0),(8,.ref 1 0),(12,.ref 2 0),(13,.ref 3 0),(46,.bool ac)],[.box (Av j) false,.box (An c) false,.box (A3 u) false,.box (A3 v) false]⟩) ?_ ?_
  ·intro _;refine Bd fun aE k=>?_
   refine Sp (fun e=>?_) fun e=>?_
   ·exact Lf (o1 30 (F9 k)) (Ew1 e) (ws [0,1,2,3])
   ·refine Bd fun aF w=>?_
    refine Sp (fun m=>?_) fun m=>?_
    ·exact Lf (o2 30 (F9 k) 34 (FN w)) (Ew2 e m) (ws [0,1,2,3])
    ·refine Bd fun aG ad=>?_
     refine Sp (fun x=>?_) fun x=>?_
     ·exact Lf (D7 (l:=[(30,_,_,_),(34,_,_,_),(39,_,_,_)]) ⟨F9  k,FN  w,C4  ad,trivial⟩) (Ew3 e m x) (ws [0,1,2,3])
     ·refine Bd fun aH an=>?_
      exact Lf (D7 (l:=[(30,_,_,_),(34,_,_,_),(39,_,_,_),(44,_,_,_)]) ⟨F9  k,FN  w,C4  ad,C4  an,trivial⟩) (Ew3 e m x) (ws [0,1,2,3])
  intro ac;refine Cd ?_ ?_
  ·refine T0 [14] ?_;exact Sr <|Tr <|Rr
  ·refine Sk <|Tn <|Bd fun ae ao =>Te [2,3,4,7,8,13,15,16] (o1 54 (CF ao)) Ev ?_
   refine Bd fun ap aq =>Te [2,7,8,15,16,17,18] (o1 64 (CF aq)) Ev ?_
   refine Sq ?_;refine Tw [2,7,8,15,17,83] (fun af=>⟨Aq 174 [(2,i64 d),(7,.ref 0 0),(8,.ref 1 0),(15,.ref 2 0),(17,.ref 3 0),(83,.bool af)],[.box (Av j) false,.box (An c) false,.box (Ak ae.1) false,.box (Ak ap.1) false]⟩) ?_ ?_
   ·intro _;refine Sp (fun f=>?_) fun f=>?_
    ·exact Lf Aa (Ew1 f) (ws [0,1,4,5])
    ·refine Sp (fun n=>?_) fun n=>?_
     ·exact Lf Aa (Ew2 f n) (ws [0,1,4,5])
     ·refine Bd fun aI ag=>?_
      refine Sp (fun y=>?_) fun y=>?_
      ·exact Lf (o1 76 (Ce ag)) (Ew3 f n y) (ws [0,1,4,5])
      ·refine Bd fun aJ ar=>?_
       exact Lf (o2 76 (Ce ag) 81 (NR ar)) (Ew3 f n y) (ws [0,1,4,5])
   intro af;refine Cd ?_ ?_
   ·refine T0 [14] ?_;exact Sr <|Tr <|Rr
   ·refine Sk <|Tn <|Bd fun aK au =>Te [2,7,8,15,17,19,20] (o1 88 (B9 au)) Ev ?_
    refine Bd fun av aw =>Te [2,7,8,15,17,20,21,22] (o1 95 (B9 aw)) Ev ?_
    refine Bd fun aL ax =>Te [2,7,8,15,20,21,22,23,24] (o1 102 (B9 ax)) Ev ?_
    refine Bd fun ay az =>Te [2,8,15,20,21,22,24,25,26] (o1 109 (B9 az)) Ev ?_
    refine Sq ?_;refine Tw [2,8,15,21,25,145] (fun ah=>⟨Aq 174 [(2,i64 d),(8,.ref 0 0),(15,.ref 1 0),(21,.ref 2 0),(25,.ref 3 0),(145,.bool ah)],[.box (An c) false,.box (Ak ae.1) false,.box (An av.1) false,.box (An ay.1) false]⟩) ?_ ?_
    ·intro _;refine Sp (fun a=>?_) fun a=>?_
     ·exact Lf Aa (Ew1 a) (ws [1,2,5,7])
     ·refine Sp (fun b=>?_) fun b=>?_
      ·exact Lf Aa (Ew2 a b) (ws [1,2,5,7])
      ·refine Sp (fun g=>?_) fun g=>?_
       ·exact Lf Aa (Ew3 a b g) (ws [1,2,5,7])
       ·refine Sp (fun o=>?_) fun o=>?_
        ·exact Lf Aa (Ew4 a b g o) (ws [1,2,5,7])
        ·refine Sp (fun z=>?_) fun z=>?_
         ·exact Lf Aa (Ew5 a b g o z) (ws [1,2,5,7])
         ·exact Lf Aa (Ew5 a b g o z) (ws [1,2,5,7])
    intro ah;refine Cd ?_ ?_
    ·refine T0 [14] ?_;exact Sr <|Tr <|Rr
    ·refine Sk <|Tn <|?_
     refine Dw [[],[],[0,1],[],[3],[0,1,2,3,4],[0,1,2,3,4,5],[0,1,2,3,4,5,6],[0,1,2,3,4,5,6],[0,1,2,3,4,5,6,7,8],[0,1,2,3,4,5,6],[0,1,2,3,4,5,6,10],[0,1,2,3,4,5,6,7,8,9,10,11],[0,1,2,3,4,5,6,7,8,9,10,11,12],[0,1,2,3,4,5,6,7,8,9,10,11,12,13],[0,1,2,3,4,5,6,7,8,9,10,11,12,13,14],[0,1,2,3,4,5,6,7,8,9,10,11,12,13,14,15],[0,1,2,3,4,5,6,7,8,9,10,11,12,13,14],[0,1,2,3,4,5,6,7,8,9,10,11,12,13,14,15,16,17],[0,1,2,3,4,5,6,7,8,9,10,11,12,13,14,15,16,17,18],[0,1,2,3,4,5,6,7,8,9,10,11,12,13,14,15,16,17,18,19],[0,1,2,3,4,5,6,7,8,9,10,11,12,13,14,15,16,17,18,19,20],[0,1,2,3,4,5,6,7,8,9,10,11,12,13,14,15,16,17,18,19,20,21],[0,1,2,3,4,5,6,7,8,9,10,11,12,13,14,15,16,17,18,19,20,21,22],[0,1,2,3,4,5,6,7,8,9,10,11,12,13,14,15,16,17,18,19,20,21],[0,1,2,3,4,5,6,7,8,9,10,11,12,13,14,15,16,17,18,19,20,21,22,23,24],[0,1,2,3,4,5,6,7,8,9,10,11,12,13,14,15,16,17,18,19,20,21,22,23,24,25],[0,1,2,3,4,5,6,7,8,9,10,11,12,13,14,15,16,17,18,19,20,21,22,23,24,25,26],[0,1,2,3,4,5,6,7,8,9,10,11,12,13,14,15,16,17,18,19,20,21,22,23,24,25,26,27]] [14] (fun ai=>⟨Aq 174 [(14,.bool ai)],[]⟩) ?_ ?_
     ·intro _;refine Bd fun aM p=>?_
      refine Sp (fun i=>?_) fun i=>?_
      ·refine Bd fun aN aa=>?_
       refine Sp (fun q=>?_) fun q=>?_
       ·refine Bd fun aO aj =>Bd fun aP ak =>Bd fun aQ al =>?_
        refine Sp (fun ab=>?_) fun ab=>?_
        ·refine Bd fun aR aA =>Bd fun aS aB =>Bd fun aT aC =>?_
         exact Lf (D7 (l:=[(148,_,_,_),(155,_,_,_),(162,_,_,_),(164,_,_,_),(165,_,_,_),(169,_,_,_),(171,_,_,_),(172,_,_,_)]) ⟨AF  p,AF  aa,Cj  aj,Cj  ak,F5  al,Cj  aA,Cj  aB,F5  aC,trivial⟩) (Ew3 i q ab) (ws [])
        ·exact Lf (D7 (l:=[(148,_,_,_),(155,_,_,_),(162,_,_,_),(164,_,_,_),(165,_,_,_)]) ⟨AF  p,AF  aa,Cj  aj,Cj  ak,F5  al,trivial⟩) (Ew3 i q ab) (ws [])
       ·exact Lf (o2 148 (AF p) 155 (AF aa)) (Ew2 i q) (ws [])
      ·exact Lf (o1 148 (AF p)) (Ew1 i) (ws [])
     intro ai;exact Sr <|Rr
set_option maxRecDepth 8000
def TP{α:Type}(o:Option α)(P:α→Prop):Prop:=∃a,o=some a∧P a
abbrev G6{α:Type}(o:Option α):Prop:=TP o fun _=>True
section
variable {α β:Type}{P:α→Prop}{Q:β→Prop}
theorem Dx{a:α}(h:P a):TP (some a) P:=⟨a,rfl,h⟩
theorem Bz{a:α}:G6 (some a):=⟨a,rfl,trivial⟩
theorem ET{o:Option β}{f:β→Option α}(h:TP o Q)(k:∀b,Q b→TP (f b) P):TP (o.bind f) P:=by
 obtain⟨b,rfl,hb⟩:=h;exact k b hb
theorem BC{o:Option β}{f:β→Option α}(h:G6 o)(k:∀b,TP (f b) P):TP (o.bind f) P:=ET h fun b _=>k b
theorem Cs{c:Prop}[Decidable c]{x y:Option α}(h:c→TP x P)(k:¬c→TP y P):TP (if c then x else y) P:=by
 by_cases hc:c
 ·rw[AkS hc];exact h hc
 ·rw[AkT hc];exact k hc
theorem FY{c:Prop}[Decidable c]{x:Option α}(h:c)(k:TP x P):TP (if c then x else none) P:=by rw[AkS h];exact k
theorem NA{x:β}{f:β→Option α}(h:TP (f x) P):TP (lt1 x f) P:=by rw[Bv];exact h
theorem Ahd{P':α→Prop}{o:Option α}(h:TP o P)(k:∀a,P a→P' a):TP o P':=by
 obtain⟨a,e,hp⟩:=h;exact⟨a,e,k a hp⟩
end
theorem JJ{V X:Type}(n:Nat)(c:V→Int)(I:V→Prop){f:V→Option (V⊕X)}{v0:V}{R:X→Prop}(hn:n<1152921504606846976)(hs:∀(k:Nat) (v:V),k<n→c v=(k:Int)→I v→TP (f v) fun y=>(∀v',y=.inl v'→c v'=((k+1:Nat):Int)∧I v')∧∀x,y=.inr x→R x)(he:∀v:V,c v=(n:Int)→I v→∃x,f v=some (.inr x)∧R x)(m:Nat)(hm:m≤n)(h0:c v0=(m:Int))(hI:I v0):TP (A2 f v0) R:=by
 refine CC (fun v=>I v∧∃k:Nat,c v=(k:Int)∧k≤n) (fun v=>(n-c v).toNat) _ ?_ ⟨hI,m,h0,hm⟩ (by rw[h0];omega);rintro v ⟨hi,k,hk,hkn⟩;by_cases h:k<n
 ·obtain⟨y,e,hp,hq⟩:=hs k v h hk hi;cases y with
  |inl v'=>exact .inl ⟨v',e,⟨(hp v' rfl).2,k+1,(hp v' rfl).1,by omega⟩,by rw[(hp v' rfl).1,hk];omega⟩
  |inr x=>exact .inr ⟨x,e,hq x rfl⟩
 ·obtain⟨x,e,hr⟩:=he v (by rw[hk];congr 1;omega) hi;exact .inr ⟨x,e,hr⟩
theorem CO{V X:Type}(n:Nat)(c:V→Int){f:V→Option (V⊕X)}{v0:V}(hn:n<1152921504606846976)(hs:∀(k:Nat) (v:V),k<n→c v=(k:Int)→TP (f v) fun y=>∀v',y=.inl v'→c v'=((k+1:Nat):Int))(he:∀v:V,c v=(n:Int)→∃x,f v=some (.inr x))(h0:c v0=0:=by rfl):G6 (A2 f v0) :=
 JJ n c (fun _=>True) hn (fun k v hk hv _=>Ahd (hs k v hk hv) fun y h=>⟨fun v' e=>⟨h v' e,trivial⟩,fun _ _=>trivial⟩) (fun v hv _=>(he v hv).imp fun _ h=>⟨h,trivial⟩) 0 (Ali _) h0 trivial
theorem Ff(x:UInt32)(k:Int):G6 (A7 x k):=by
 unfold A7;simp only[Bv];exact Bz
theorem We(h:Arr UInt32 8)(b:List UInt8)(hb:64≤b.length):G6 (Fu h b):=by
 have l1:∀f0,G6 (A2 (fun(v:Int×Arr UInt32 64)=>DH b v.1 v.2) (0,f0)):=by
  intro f0;refine CO 16 (fun v=>v.1) (by omega) (fun k v hk hv=>?_) (fun v hv=>?_)
  ·obtain⟨t,f⟩:=v;obtain rfl:t=(k:Int):=hv;have w:w64 (4*(k:Int))=4*(k:Int):=B6 (by omega);simp only;unfold DH;rw[w,B6 (x:=4*(k:Int)+1) (by omega),B6 (x:=4*(k:Int)+2) (by omega),B6 (x:=4*(k:Int)+3) (by omega),AkS (Ak3 (by omega))];refine FY ⟨by omega,by omega⟩ (FY ⟨by omega,by omega⟩ (FY ⟨by omega,by omega⟩ (FY ⟨by omega,by omega⟩ (FY ⟨by omega,by omega⟩ (NA (Dx fun v' e=>by cases e;exact Cr (by omega)))))))
  ·obtain⟨t,f⟩:=v;obtain rfl:t=16:=hv;exact⟨_,rfl⟩
 have l2:∀f0,G6 (A2 (fun(v:Int×Arr UInt32 64)=>D9 v.1 v.2) (16,f0)):=by
  intro f0;refine JJ 64 (fun v=>v.1) (fun v=>16≤v.1) (by omega) (fun k v hk hv hi=>?_) (fun v hv _=>?_) 16 (by omega) rfl (by simp)
  ·obtain⟨t,f⟩:=v;obtain rfl:t=(k:Int):=hv;simp only at hi;simp only;unfold D9;rw[B6 (x:=(k:Int)-15) (by omega),B6 (x:=(k:Int)-2) (by omega),B6 (x:=(k:Int)-16) (by omega),B6 (x:=(k:Int)-7) (by omega),AkS (Ak3 (by omega))];refine FY ⟨by omega,by omega⟩ (FY ⟨by omega,by omega⟩ (NA (NA (BC (Ff _ _) fun _=>BC (Ff _ _) fun _=>NA (BC (Ff _ _) fun _=>BC (Ff _ _) fun _=>NA (FY ⟨by omega,by omega⟩ (FY ⟨by omega,by omega⟩ (FY ⟨by omega,by omega⟩ (NA (Dx ⟨fun v' e=>?_,fun _ e=>by cases e⟩))))))))));cases e;exact⟨Cr (by omega),by simp only;rw[Cr (by omega)];omega⟩
  ·obtain⟨t,f⟩:=v;obtain rfl:t=64:=hv;exact⟨_,rfl,trivial⟩
 have l3:∀w f0,G6 (A2 (fun(v:Int×Arr UInt32 8)=>DG w v.1 v.2) (0,f0)):=by
  intro w f0;refine CO 64 (fun v=>v.1) (by omega) (fun k v hk hv=>?_) (fun v hv=>?_)
  ·obtain⟨t,f⟩:=v;obtain rfl:t=(k:Int):=hv;simp only;unfold DG;rw[AkS (Ak3 (by omega))];exact BC (Ff _ _) fun _=>BC (Ff _ _) fun _=>BC (Ff _ _) fun _=>FY ⟨by omega,by omega⟩ (FY ⟨by omega,by omega⟩ (NA (BC (Ff _ _) fun _=>BC (Ff _ _) fun _=>BC (Ff _ _) fun _=>NA (NA (Dx fun v' e=>by cases e;exact Cr (by omega))))))
  ·obtain⟨t,f⟩:=v;obtain rfl:t=64:=hv;exact⟨_,rfl⟩
 have l4:∀w f0,G6 (A2 (fun(v:Int×Arr UInt32 8)=>D8 w v.1 v.2) (0,f0)):=by
  intro w f0;refine CO 8 (fun v=>v.1) (by omega) (fun k v hk hv=>?_) (fun v hv=>?_)
  ·obtain⟨t,f⟩:=v;obtain rfl:t=(k:Int):=hv;simp only;unfold D8;rw[AkS (Ak3 (by omega))];exact FY ⟨by omega,by omega⟩ (FY ⟨by omega,by omega⟩ (FY ⟨by omega,by omega⟩ (NA (Dx fun v' e=>by cases e;exact Cr (by omega)))))
  ·obtain⟨t,f⟩:=v;obtain rfl:t=8:=hv;exact⟨_,rfl⟩
 unfold Fu;exact BC (BC (l1 _) fun _=>Bz) fun _=>BC (BC (l2 _) fun _=>Bz) fun _=>BC (BC (l3 _ _) fun _=>Bz) fun _=>BC (BC (l4 _ _) fun _=>Bz) fun _=>Bz
theorem OC{n:Nat}(h:n≤1000000):Dj n 1:=by unfold Dj maxLen Gj;omega
theorem NP(ps:List (List UInt8))(hl:ps.length≤100)(h:∀p∈ps,p.length≤100000)(hps:ps.length≤4):G6 (GF ps):=by
 have l1:TP (A2 (fun(v:Int×List UInt8)=>DR ps v.1 v.2) (0,[])) fun l=>l.length≤400000:=by
  refine JJ ps.length (fun v=>v.1) (fun v=>(v.2.length:Int)≤100000*v.1) (by omega) (fun k v hk hv hi=>?_) (fun v hv hi=>?_) 0 (Ali _) rfl (by simp)
  ·obtain⟨t,l⟩:=v;obtain rfl:t=(k:Int):=hv;have hp:=h _ (ED hk);simp only at hi;simp only;unfold DR;rw[AkS (Ak3 (by omega))];simp only[Ak5];refine FY (BH hk) (NA (FY (OC (by omega)) (NA (Dx ⟨fun v' e=>?_,fun _ e=>by cases e⟩))));cases e;refine⟨Cr (by omega),?_⟩;simp only[Ala];rw[Cr (by omega)];omega
  ·obtain⟨t,l⟩:=v;obtain rfl:t=(ps.length:Int):=hv;simp only at hi;simp only;unfold DR;rw[AkT (by simp)];exact⟨_,rfl,by omega⟩
 have l2:∀l:List UInt8,l.length≤500000→TP (A2 (fun(v:List UInt8)=>E9 v) l) fun p=>p.length%64=56∧p.length≤500064:=by
  intro l hl;refine CC (fun v=>l.length≤v.length∧v.length≤l.length+(120-l.length%64)%64∧v.length≤500064) (fun v=>600000-v.length) _ ?_ ⟨by omega,by omega,by omega⟩ (by omega);rintro v ⟨h1,h2,h3⟩;unfold E9;have ht:((v.length:Int)).tmod 64=((v.length%64:Nat):Int):=rfl;rw[ht];by_cases h4:v.length%64=56
  ·right;rw[AkT (by simp;omega)];exact⟨_,rfl,h4,h3⟩
  ·left;rw[AkS (by simp;omega),AkS (OC (by omega))];refine⟨_,rfl,?_,?_⟩
   ·simp only[Ala,Alb,Aln];omega
   ·simp only[Ala,Alb,Aln];omega
 have l3:∀(n:UInt64) (p:List UInt8),p.length≤500064→TP (A2 (fun(v:Int×List UInt8)=>DS n v.1 v.2) (56,p)) fun q=>q.length=p.length+8:=by
  intro n p hp;refine JJ 8 (fun v=>(v.2.length:Int)-p.length) (fun v=>v.1=56-8*((v.2.length:Int)-p.length)) (by omega) (fun k v hk hv hi=>?_) (fun v hv hi=>?_) 0 (by omega) (by simp) (by simp)
  ·obtain⟨t,l⟩:=v;simp only at hv hi;simp only;unfold DS;rw[AkS (Ak3 (by omega))];refine FY (show EC t by unfold EC;omega) (FY (OC (by omega)) (NA (Dx ⟨fun v' e=>?_,fun _ e=>by cases e⟩)));cases e;simp only[Ala,Alb,Aln];refine⟨by omega,?_⟩;rw[B6 (by omega)];omega
  ·obtain⟨t,l⟩:=v;simp only at hv hi;simp only;unfold DS;rw[AkT (by simp;omega)];exact⟨_,rfl,by omega⟩
 have l4:∀(q:List UInt8) f0,q.length%64=0→q.length≤600000→G6 (A2 (fun(v:Nat×Nat×Arr UInt32 8)=>EB q v.1 v.2.1 v.2.2) (0,q.length,f0)):=by
  intro q f0 h1 h2;refine CC (fun v=>v.1+v.2.1=q.length∧v.2.1%64=0) (fun v=>v.2.1) _ ?_ ⟨by simp,h1⟩ (by simp only;omega);rintro⟨a,m,f⟩ ⟨h3,h4⟩;simp only at h3 h4 ⊢;unfold EB;by_cases h5:(m:Int)>0
  ·left;rw[AkS (Ak3 h5),AkS (show InB 64 m from⟨by omega,by omega⟩)];obtain⟨d,hd,_⟩:=We f ((q.drop a).take 64) (by rw[AmA,List.length_drop];omega);rw[hd,AkQ,AkS (show InB 64 m from⟨by omega,by omega⟩)];exact⟨_,rfl,⟨by simp only;omega,by simp only;omega⟩,by simp only;omega⟩
  ·right;rw[AkT (by simpa using h5)];exact⟨_,rfl,trivial⟩
 have l5:∀g f0,G6 (A2 (fun(v:Int×Arr UInt8 32)=>E3 g v.1 v.2) (0,f0)):=by
  intro g f0;refine CO 32 (fun v=>v.1) (by omega) (fun k v hk hv=>?_) (fun v hv=>?_)
  ·obtain⟨t,f⟩:=v;obtain rfl:t=(k:Int):=hv;have e1:((k:Int)).tdiv 4=((k/4:Nat):Int):=rfl;have e2:((k:Int)).tmod 4=((k%4:Nat):Int):=rfl;simp only;unfold E3;rw[e1,e2,B6 (x:=((k/4:Nat):Int)) (by omega),B6 (x:=8*((k%4:Nat):Int)) (by omega),B6 (x:=24-8*((k%4:Nat):Int)) (by omega),AkS (Ak3 (by omega))];exact FY ⟨by omega,by omega⟩ (FY (show EC _ by unfold EC;omega) (FY ⟨by omega,by omega⟩ (NA (Dx fun v' e=>by cases e;exact Cr (by omega)))))
  ·obtain⟨t,f⟩:=v;obtain rfl:t=32:=hv;exact⟨_,rfl⟩
 unfold GF;simp only[Bv];refine ET (ET l1 fun _ q=>Dx q) fun l hl=>FY (OC (by omega)) (ET (ET (l2 _ (by simp;omega)) fun _ q=>Dx q) fun p hp=>ET (ET (l3 _ _ hp.2) fun _ q=>Dx q) fun q hq=>BC (BC (l4 q _ (by omega) (by omega)) fun _=>Bz) fun _=>BC (BC (l5 _ _) fun _=>Bz) fun _=>Bz)
theorem Ku(tag b:List UInt8)(h1:tag.length≤200)(h2:b.length≤100000):∃d,CH tag b=some d:=by
 have e1:NM (tag.length:Int) 255=(tag.length:Int):=by unfold NM;omega
 have e2:tag.take (NM (tag.length:Int) 255).toNat=tag:=by rw[e1,Ak5,AlY]
 unfold CH;rw[AkS (show InB (NM (tag.length:Int) 255) tag.length by rw[e1];unfold InB;omega),e2];simp only[Bv];obtain⟨d,hd,_⟩:=NP [[UInt8.ofInt (tag.length:Int)],tag,b] (by simp) (by simp;omega) (by simp);exact⟨d,by rw[hd];rfl⟩
theorem Ow(d:Arr UInt8 32):∃n,DT d=some n:=by
 have hl:(d.l.take 8).length=8:=by rw[AmA,d.h];rfl
 have l1:G6 (A2 (fun(v:UInt64×Int)=>CB d v.1 v.2) ((0:UInt64),0)):=by
  refine CO 8 (fun v=>v.2) (by omega) (fun k v hk hv=>?_) (fun v hv=>?_)
  ·obtain⟨n,t⟩:=v;obtain rfl:t=(k:Int):=hv;simp only;unfold CB;rw[AkS (Ak3 (by rw[hl];omega))];exact FY (BH (by rw[hl];exact hk)) (NA (NA (Dx fun v' e=>by cases e;exact Cr (by omega))))
  ·obtain⟨n,t⟩:=v;obtain rfl:t=8:=hv;simp only;unfold CB;rw[AkT (by rw[hl];simp)];exact⟨_,rfl⟩
 obtain⟨x,hx,_⟩:=l1;unfold DT;rw[hx];exact⟨_,rfl⟩
theorem AcY(x:UInt64)(n:Nat):(Dz x n).toNat=x.toNat/2^n:=by
 show(x.toBitVec >>> n).toNat=_;rw[Anp,AmU];rfl
theorem Afc(x:UInt64):(x &&& 4294967295).toNat=x.toNat%4294967296:=by
 rw[UInt64.toNat_and];exact Nat.and_two_pow_sub_one_eq_mod x.toNat 32
theorem Aeb(x:UInt64):x.toNat<18446744073709551616:=x.toNat_lt
theorem AeJ(x y:UInt64):(x*y).toNat=x.toNat*y.toNat%18446744073709551616:=UInt64.toNat_mul x y
theorem Ahs(x y:UInt64):(x+y).toNat=(x.toNat+y.toNat)%18446744073709551616:=UInt64.toNat_add x y
theorem Ahn{x y:UInt64}(h:x.toNat=y.toNat):x=y:=AmX.1 h
theorem g_32:((32:UInt64)).toNat=32:=rfl
theorem Aax(x y:UInt64):∃r,Hb x y=some r∧r.1.toNat=x.toNat*y.toNat/18446744073709551616∧r.2.toNat=x.toNat*y.toNat%18446744073709551616:=by
 obtain⟨bd,bt,bw,hhi⟩:=Lib.mul64_hi x.toNat y.toNat (Aeb x) (Aeb y);have hx:=Aeb x;have hy:=Aeb y;have ba:=Lib.half_mul_le (a:=x.toNat/4294967296) (b:=y.toNat/4294967296) (by omega) (by omega);have bb:=Lib.half_mul_le (a:=x.toNat/4294967296) (b:=y.toNat%4294967296) (by omega) (by omega);have bc:=Lib.half_mul_le (a:=x.toNat%4294967296) (b:=y.toNat/4294967296) (by omega) (by omega);unfold Hb;simp only[lt1];refine⟨_,rfl,?_,AeJ x y⟩;rw[←hhi];simp only[Ahs,AeJ,AcY,Afc,g_32,Nat.reducePow];generalize x.toNat/4294967296*(y.toNat/4294967296)=a at *;generalize x.toNat/4294967296*(y.toNat%4294967296)=b at *;generalize x.toNat%4294967296*(y.toNat/4294967296)=c at *;generalize x.toNat%4294967296*(y.toNat%4294967296)=d at *;omega
def lenTab:List UInt8:=([0,1,2,2,3,3,3,3,4,4,4,4,4,4,4,4,5,5,5,5,5,5,5,5,5,5,5,5,5,5,5,5,6,6,6,6,6,6,6,6,6,6,6,6,6,6,6,6,6,6,6,6,6,6,6,6,6,6,6,6,6,6,6,6,7,7,7,7,7,7,7,7,7,7,7,7,7,7,7,7,7,7,7,7,7,7,7,7,7,7,7,7,7,7,7,7,7,7,7,7,7,7,7,7,7,7,7,7,7,7,7,7,7,7,7,7,7,7,7,7,7,7,7,7,7,7,7,7,8,8,8,8,8,8,8,8,8,8,8,8,8,8,8,8,8,8,8,8,8,8,8,8,8,8,8,8,8,8,8,8,8,8,8,8,8,8,8,8,8,8,8,8,8,8,8,8,8,8,8,8,8,8,8,8,8,8,8,8,8,8,8,8,8,8,8,8,8,8,8,8,8,8,8,8,8,8,8,8,8,8,8,8,8,8,8,8,8,8,8,8,8,8,8,8,8,8,8,8,8,8,8,8,8,8,8,8,8,8,8,8,8,8,8,8,8,8,8,8,8,8,8,8,8,8,8,8]:List UInt8)
theorem Acg:((List.range 256).all fun i=>decide ((nth lenTab i).toNat≤8))=true:=by decide +kernel
theorem AcO:lenTab.length=256:=by decide +kernel
def Ln(m:Nat)(n:Int):Prop:=0≤n∧n≤(m:Int)
theorem XL{m:Nat}(x:UInt64)(n:Int)(c s:UInt64)(k:Int)(hk:0≤k∧k≤32)(hm:m≤64)(h:Ln m n):TP (if(decide (x≥c))then lt1 (Dz x s.toNat) fun(y:UInt64)=>some (y,w64 (n+k))else some (x,n):Option (UInt64×Int)) fun y=>Ln (m+k.toNat) y.2:=by
 obtain⟨h1,h2⟩:=h;refine Cs (fun _=>NA (Dx ?_)) fun _=>Dx ⟨h1,by simp only;omega⟩
 simp only;rw[B6 (by omega)];exact⟨by omega,by omega⟩
theorem Y3(x:UInt64):TP (EU x) (Ln 64):=by
 unfold EU;refine ET (Q:=fun y=>Ln 32 y.2) (Cs (fun _=>NA (Dx ⟨by simp,by simp⟩)) fun _=>Dx ⟨by simp,by simp⟩) fun⟨x,n⟩ h=>ET (XL x n _ _ 16 (by omega) (by omega) h) fun⟨x,n⟩ h=>ET (XL x n _ _ 8 (by omega) (by omega) h) fun⟨x,n⟩ h=>?_
 have hi:x.toUInt8.toNat<256:=x.toUInt8.toNat_lt;have ht:=Ak4.1 Acg _ (AlF.2 hi);simp only[Ald]at ht;obtain⟨h1,h2⟩:=h;refine FY (show InR _ lenTab.length by rw[AcO];exact BH hi) (NA (Dx ?_));show Ln 64 (w64 (n+((nth lenTab x.toUInt8.toNat).toNat:Int)));simp only at h1 h2;rw[B6 (by omega)];exact⟨by omega,by omega⟩
theorem Ags(a b c:UInt64)(q r:UInt64):∃x,A2 (fun(v:UInt64×UInt64)=>DN a b c v.1 v.2) (q,r)=some x:=by
 obtain⟨x,hx,_⟩:∃x,A2 (fun(v:UInt64×UInt64)=>DN a b c v.1 v.2) (q,r)=some x∧True:=by
  refine CC (fun _=>True) (fun v=>v.1.toNat) _ ?_ trivial (Aeb _);rintro⟨q,r⟩ _;simp only;unfold DN;by_cases h0:q=0
  ·subst h0;right
   rw[AkT (by decide),AkQ,AkT (by
    rw[show(0:UInt64)*b=0 by rw[UInt64.zero_mul]];simp)]
   exact⟨_,rfl,trivial⟩
  ·have hq:(q-1).toNat<q.toNat:=by
    have h1:q.toNat≠0:=fun h=>h0 (Ahn (by rw[h];rfl))
    have h2:(1:UInt64)≤q:=by rw[Amk];show 1≤q.toNat;omega
    rw[UInt64.toNat_sub_of_le _ _ h2];show q.toNat-1<q.toNat;omega
   rw[Aar,AkQ];split
   ·split
    ·right;exact⟨_,rfl,trivial⟩
    ·left;exact⟨_,rfl,trivial,hq⟩
   ·right;exact⟨_,rfl,trivial⟩
 exact⟨x,hx⟩
theorem AfS(a b c:UInt64)(r q:UInt64):∃x,A2 (fun(v:UInt64×UInt64)=>DV a b c v.1 v.2) (r,q)=some x:=by
 obtain⟨x,hx,_⟩:∃x,A2 (fun(v:UInt64×UInt64)=>DV a b c v.1 v.2) (r,q)=some x∧True:=by
  refine CC (fun _=>True) (fun v=>v.2.toNat) _ ?_ trivial (Aeb _);rintro⟨r,q⟩ _;simp only;unfold DV;by_cases h0:q=0
  ·subst h0;right
   rw[AkT (by decide),AkQ,AkT (by
    rw[show(0:UInt64)*b=0 by rw[UInt64.zero_mul]];simp)]
   exact⟨_,rfl,trivial⟩
  ·have hq:(q-1).toNat<q.toNat:=by
    have h1:q.toNat≠0:=fun h=>h0 (Ahn (by rw[h];rfl))
    have h2:(1:UInt64)≤q:=by rw[Amk];show 1≤q.toNat;omega
    rw[UInt64.toNat_sub_of_le _ _ h2];show q.toNat-1<q.toNat;omega
   rw[Aar,AkQ];split
   ·split
    ·right;exact⟨_,rfl,trivial⟩
    ·left;exact⟨_,rfl,trivial,hq⟩
   ·right;exact⟨_,rfl,trivial⟩
 exact⟨x,hx⟩
theorem W4(hi lo y:UInt64)(z:Int)(h:hi.toNat<y.toNat)(hz:C6 y=some z)(hy:¬Dz (Lm y (UInt64.ofInt z).toNat) ((32:UInt64)).toNat=0):∃r,GZ hi lo y=some r:=by
 have hy0:¬y=0:=fun e=>by rw[e]at h;exact absurd h (Alr _)
 unfold GZ
 rw[AkT (by simpa using hy0),AkT (by
  rw[Ald,Amk];omega)]
 by_cases h0:(hi==(0:UInt64))=true
 ·rw[AkS h0,AkS hy0,AkS hy0];exact⟨_,rfl⟩
 ·rw[AkT h0,hz];simp only[AkQ,Bv];rw[AkS hy];generalize Dz (Lm y (UInt64.ofInt z).toNat) ((32:UInt64)).toNat=yn1 at hy ⊢;generalize(Lm hi (UInt64.ofInt z).toNat ||| Dz lo (64-UInt64.ofInt z).toNat)=un32;generalize Lm lo (UInt64.ofInt z).toNat=un10;generalize Lm y (UInt64.ofInt z).toNat=y';obtain⟨q1,hq1⟩:=Ags yn1 (y' &&& 4294967295) (Dz un10 ((32:UInt64)).toNat) (un32/yn1) (un32-un32/yn1*yn1);rw[hq1];simp only[AkQ];rw[AkS hy];generalize(un32*4294967296+Dz un10 ((32:UInt64)).toNat-q1*y')=u;obtain⟨q0,hq0⟩:=AfS yn1 (y' &&& 4294967295) (un10 &&& 4294967295) (u-u/yn1*yn1) (u/yn1);rw[hq0];exact⟨_,rfl⟩
theorem UN(a b m:UInt64)(z:Int)(h0:m≠0)(hm:m.toNat<9223372036854775808)(hz:C6 m=some z)(hy:¬Dz (Lm m (UInt64.ofInt z).toNat) ((32:UInt64)).toNat=0):TP (BP a b m) fun r=>r.2=m:=by
 have hp:0<m.toNat:=Nat.pos_of_ne_zero fun h=>h0 (Ahn (by rw[h];rfl))
 unfold BP;obtain⟨⟨hi,lo⟩,hx,h1,h2⟩:=Aax (a%m) (b%m);rw[AkS h0,AkS h0,hx,AkQ];simp only at h1 ⊢;rw[Ant,Ant]at h1;have hab:a.toNat%m.toNat*(b.toNat%m.toNat)<m.toNat*m.toNat:=Nat.mul_lt_mul'' (Am0 _ hp) (Am0 _ hp)
 have hhi:hi.toNat<m.toNat:=by
  rw[h1];refine Nat.div_lt_of_lt_mul (Amb hab ?_);exact AkY _ (by omega)
 obtain⟨r,hd⟩:=W4 hi lo m z hhi hz hy;rw[hd,AkQ];exact Dx rfl
theorem AdW(a b:UInt64):TP (BP a b 2305843009213690799) fun r=>r.2=2305843009213690799:=UN a b _ 3 (by decide) (by decide) (by decide +kernel) (by decide +kernel)
theorem Ahk(a b:UInt64):TP (BP a b 1152921504606845399) fun r=>r.2=1152921504606845399:=UN a b _ 4 (by decide) (by decide) (by decide +kernel) (by decide +kernel)
theorem J8(b n:UInt64):G6 (F7 b n):=by
 obtain⟨len,hl,h1,h2⟩:=Y3 n;unfold F7 El;rw[AkQ,hl,AkQ];refine BC (BC ?_ fun _=>Bz) fun _=>Bz
 refine JJ len.toNat (fun v=>v.2.1) (fun v=>v.2.2=2305843009213690799) (by omega) (fun k v hk hv hi=>?_) (fun v hv hi=>?_) 0 (Ali _) rfl rfl
 ·obtain⟨o,t,m⟩:=v;obtain rfl:t=(k:Int):=hv;obtain rfl:m=2305843009213690799:=hi;simp only;unfold FS;rw[AkS (Ak3 (by omega))];rw[hl];simp only[AkQ];refine ET (Q:=fun y=>y.2=2305843009213690799) (ET (AdW _ _) fun y hy=>?_) fun⟨_,m⟩ hm=>Dx ⟨fun v' e=>by cases e;exact⟨Cr (by omega),hm⟩,fun _ e=>by cases e⟩
  have w:w64 (w64 (len-1)-(k:Int))=len-1-(k:Int):=by rw[B6 (x:=len-1) (by omega),B6 (by omega)]
  rw[w];refine FY (show EC _ by unfold EC;omega) (NA (Cs (fun _=>?_) fun _=>Dx hy));rw[hy];exact ET (AdW _ _) fun _ h=>Dx h
 ·obtain⟨o,t,m⟩:=v;obtain rfl:t=(len.toNat:Int):=hv;simp only;unfold FS;rw[AkT (by simp;omega)];exact⟨_,rfl,trivial⟩
theorem TB(x:UInt64):G6 (FE x):=by
 unfold FE;exact BC (Cs (fun _=>Cs (fun _=>BC (J8 _ _) fun _=>Bz) fun _=>Bz) fun _=>Bz) fun _=>Bz
theorem WS(n:UInt64)(l:List UInt8)(h:l.length≤200000):∃m,A2 (fun(v:Int×List UInt8)=>Df n v.1 v.2) (0,l)=some m∧m.length=l.length+8:=by
 refine E6 8 (fun k v=>v.1=(k:Int)∧v.2.length=l.length+k) _ (by omega) ?_ ?_ ⟨rfl,rfl⟩
 ·rintro k ⟨_,m⟩ hk ⟨rfl,hm⟩;simp only at hm ⊢;have e1:w64 (56-w64 (8*(k:Int)))=((56-8*k:Nat):Int):=by rw[B6 (x:=8*(k:Int)) (by omega),B6 (by omega)];omega
  unfold Df;rw[AkS (Ak3 (by omega)),e1,AkS (by unfold EC;omega),AkS (NY (by omega))];simp only[Bv];rw[Cr (by omega)];exact⟨_,rfl,rfl,by simp;omega⟩
 ·rintro⟨_,m⟩ ⟨rfl,hm⟩;simp only at hm ⊢;unfold Df;rw[AkT (by decide)];exact⟨_,rfl,hm⟩
theorem LS(msg:List UInt8)(ns:List UInt64)(h1:msg.length≤70000)(h2:ns.length≤100):∃m,Fb msg ns=some m∧m.length=8*ns.length+msg.length:=by
 obtain⟨x,hx,hq⟩:∃x,A2 (fun(v:Int×List UInt8)=>Dr ns v.1 v.2) (0,[])=some x∧x.length=8*ns.length:=by
  refine E6 ns.length (fun k v=>v.1=(k:Int)∧v.2.length=8*k) _ (by omega) ?_ ?_ ⟨rfl,rfl⟩
  ·rintro k ⟨_,m⟩ hk ⟨rfl,hm⟩;simp only at hm ⊢;obtain⟨m',e1,e2⟩:=WS (nth ns k) m (by omega);unfold Dr;rw[AkS (Ak3 (by omega)),AkS (BH hk)];simp only[Bv,Ak5];rw[e1];simp only[AkQ];rw[Cr (by omega)];exact⟨_,rfl,rfl,by simp only;omega⟩
  ·rintro⟨_,m⟩ ⟨rfl,hm⟩;simp only at hm ⊢;unfold Dr;rw[AkT (by simp)];exact⟨_,rfl,hm⟩
 unfold Fb;have e1:w64 (w64 (8*(ns.length:Int))+(msg.length:Int))=((8*ns.length+msg.length:Nat):Int):=by rw[B6 (x:=8*(ns.length:Int)) (by omega),B6 (by omega)];omega
 rw[e1,AkS (by unfold Mk maxLen Gj;omega)];simp only[Bv,List.replicate_zero];rw[hx];simp only[AkQ];rw[AkS (NY (by omega))];exact⟨_,rfl,by simp;omega⟩
theorem Iz(r p:UInt64)(msg:List UInt8)(h:msg.length≤70000):G6 (Do r p msg):=by
 obtain⟨m,h1,h2⟩:=LS msg [r,p] h (by simp);simp only[Alb,Aln]at h2;obtain⟨d,hd⟩:=Ku [99,104,97,108,108,101,110,103,101] m (by simp) (by omega);obtain⟨n,hn⟩:=Ow d;unfold Do;rw[h1,AkQ,hd,AkQ,hn];exact Bz
theorem MP(s:UInt64):∃r,EY s=some r:=by
 obtain⟨p,hp,_⟩:=J8 4 s;unfold EY;rw[Aar,AkQ,hp];split<;>exact⟨_,rfl⟩
theorem Xl(s:UInt64)(msg:List UInt8):∃r,Ga s msg=some r:=by
 have key:G6 (Ga s msg):=by
  obtain⟨p,hp⟩:=MP s;unfold Ga;rw[hp,AkQ];refine Cs (fun _=>Bz) fun _=>Cs (fun _=>Bz) fun hl=>?_
  have hl':msg.length≤70000:=by simp at hl;omega
  obtain⟨m,h1,h2⟩:=LS msg [s] hl' (by simp);simp only[Alb,Aln]at h2;obtain⟨d,hd⟩:=Ku [110,111,110,99,101] m (by simp) (by omega);obtain⟨n,hn⟩:=Ow d;rw[h1,AkQ,hd,AkQ,hn,AkQ];exact NA (BC (J8 _ _) fun _=>BC (Iz _ _ _ hl') fun _=>ET (Q:=fun m=>m=1152921504606845399) (Dx rfl) fun m hm=>BC (by subst hm;exact Ahd (Ahk _ _) fun _ _=>trivial) fun _=>NA Bz)
 obtain⟨r,hr,_⟩:=key;exact⟨r,hr⟩
theorem SS(p:UInt64)(msg:List UInt8)(s:AkG):∃r,Ek p msg s=some r:=by
 obtain⟨b,hb,_⟩:=TB p
 have key:G6 (Ek p msg s):=by
  unfold Ek;rw[hb];simp only[HZ,Aar];refine Cs (fun _=>Bz) fun hl=>?_
  have hl':msg.length≤70000:=by
   simp only[Alz,not_or,Ald]at hl;omega
  unfold El;rw[AkQ];exact BC (J8 _ _) fun _=>BC (J8 _ _) fun _=>BC (AdW _ _ |> fun h=>Ahd h fun _ _=>trivial) fun _=>BC (Iz _ _ _ hl') fun _=>Bz
 obtain⟨r,hr,_⟩:=key;exact⟨r,hr⟩
set_option maxRecDepth 4000
theorem UQ(p:Akp):G6 (Ey p):=by
 unfold Ey
 repeat' first|exact Bz|refine Cs (fun _=>?_) (fun _=>?_)|refine BC ?_ (fun _=>?_)
theorem Iv(n a b:Int):G6 (Ay n a b):=by
 unfold Ay
 repeat' first|exact Bz|refine Cs (fun _=>?_) (fun _=>?_)|refine BC ?_ (fun _=>?_)
theorem Ig(b:Bool)(n:Int):G6 (AB b n):=by
 unfold AB;exact Cs (fun _=>Bz) (fun _=>Bz)
theorem YB(n:Akr)(hp:n.Ze.length≤4096)(he:n.Zf.length≤4096):G6 (E4 n):=by
 have l1:G6 (A2 (fun(v:Int)=>C9 n v) 0):=by
  refine CO n.Ze.length id (by omega) (fun k v hk hv=>?_) (fun v hv=>?_)
  ·obtain rfl:v=(k:Int):=hv;unfold C9;rw[AkS (Ak3 (by omega))];refine FY (BH hk) ?_;simp only[Bv,Ak5];refine BC (UQ _) fun b=>?_
   refine Cs (fun _=>Dx fun v' e=>by cases e) fun _=>Dx fun v' e=>by cases e;exact Cr (by omega)
  ·obtain rfl:v=(n.Ze.length:Int):=hv;unfold C9;rw[AkT (by simp)];exact⟨_,rfl⟩
 have l2:G6 (A2 (fun(v:Int)=>CD n (n.Ze.length:Int) v) 0):=by
  refine CO n.Zf.length id (by omega) (fun k v hk hv=>?_) (fun v hv=>?_)
  ·obtain rfl:v=(k:Int):=hv;unfold CD;rw[AkS (Ak3 (by omega))];refine FY (BH hk) ?_;simp only[Bv,Ak5];refine BC ?_ fun b=>?_
   ·repeat' first|exact Bz|refine Cs (fun _=>?_) (fun _=>?_)
   ·exact Cs (fun _=>Dx fun v' e=>by cases e) fun _=>Dx fun v' e=>by cases e;exact Cr (by omega)
  ·obtain rfl:v=(n.Zf.length:Int):=hv;unfold CD;rw[AkT (by simp)];exact⟨_,rfl⟩
 obtain⟨x1,e1,_⟩:=l1;obtain⟨x2,e2,_⟩:=l2;unfold E4;simp only[Bv];refine BC ?_ fun b=>?_
 ·repeat' first|exact Bz|refine Cs (fun _=>?_) (fun _=>?_)
 ·refine Cs (fun _=>Bz) fun _=>?_
  rw[e1,e2];rcases x1 with u|(u|m)<;>rcases x2 with w|(w|m2)<;>(try cases u)<;>(try cases w)<;>exact⟨_,rfl,trivial⟩
theorem Aaf(c:AkA)(hl:c.Ze1.length≤1000000):G6 (Ec c):=by
 have l1:G6 (A2 (fun(v:Int×Int)=>Cz c v.1 v.2) (-1,0)):=by
  refine CO c.Ze1.length (fun v=>v.2) (by omega) (fun k v hk hv=>?_) (fun v hv=>?_)
  ·obtain⟨a,t⟩:=v;obtain rfl:t=(k:Int):=hv;simp only;unfold Cz;rw[AkS (Ak3 (by omega))];refine FY (BH hk) ?_;simp only[Bv,Ak5];refine BC ?_ fun b=>?_
   ·repeat' first|exact Bz|refine Cs (fun _=>?_) (fun _=>?_)
   ·exact Cs (fun _=>Dx fun v' e=>by cases e) fun _=>Dx fun v' e=>by cases e;exact Cr (by omega)
  ·obtain⟨a,t⟩:=v;obtain rfl:t=(c.Ze1.length:Int):=hv;simp only;unfold Cz;rw[AkT (by simp)];exact⟨_,rfl⟩
 obtain⟨x1,e1,_⟩:=l1;unfold Ec;simp only[Bv];refine BC ?_ fun b=>?_
 ·repeat' first|exact Bz|refine Cs (fun _=>?_) (fun _=>?_)|refine BC ?_ (fun _=>?_)
 ·cases b
  ·rw[e1];rcases x1 with u|(u|m)<;>(try cases u)<;>exact⟨_,rfl,trivial⟩
  ·exact⟨_,rfl,trivial⟩
theorem Wf(f:Akw)(h1:f.Zx.length≤4096)(h2:f.Zy.length≤4096)(h3:f.Zz.length≤4096)(h4:f.Za1.length≤4096):G6 (FT f):=by
 have l1:∀(a b c d:Int) (e0:Int),G6 (A2 (fun(v:Int×Int)=>Ds (([a,b,c,d]:List Int).length:Int) [a,b,c,d] v.1 v.2) (0,e0)):=by
  intro a b c d e0;refine CO 4 (fun v=>v.1) (by omega) (fun k v hk hv=>?_) (fun v hv=>?_)
  ·obtain⟨t,e⟩:=v;obtain rfl:t=(k:Int):=hv;simp only;unfold Ds;rw[AkS (Ak3 (by simp;omega))];refine FY (BH (by simpa using hk)) ?_;exact BC (Iv _ _ _) fun _=>BC (Ig _ _) fun _=>Dx fun v' e=>by cases e;exact Cr (by omega)
  ·obtain⟨t,e⟩:=v;obtain rfl:t=4:=hv;simp only;unfold Ds;rw[AkT (by simp)];exact⟨_,rfl⟩
 have l2:∀e0,G6 (A2 (fun(v:Int×Int)=>Di f v.1 v.2) (0,e0)):=by
  intro e0;refine CO f.Zx.length (fun v=>v.1) (by omega) (fun k v hk hv=>?_) (fun v hv=>?_)
  ·obtain⟨t,e⟩:=v;obtain rfl:t=(k:Int):=hv;simp only;unfold Di;rw[AkS (Ak3 (by omega))];refine BC ?_ fun _=>Dx fun v' e=>by cases e;exact Cr (by omega)
   refine FY (BH hk) ?_;simp only[Bv,Ak5];refine BC (BC (l1 _ _ _ _ _) fun _=>Bz) fun _=>?_
   repeat' first|exact Bz|exact Iv _ _ _|exact Ig _ _|refine Cs (fun _=>?_) (fun _=>?_)|refine BC ?_ (fun _=>?_)
  ·obtain⟨t,e⟩:=v;obtain rfl:t=(f.Zx.length:Int):=hv;simp only;unfold Di;rw[AkT (by simp)];exact⟨_,rfl⟩
 have l3:∀e0,G6 (A2 (fun(v:Int×Int)=>Dm f v.1 v.2) (0,e0)):=by
  intro e0;refine CO f.Zy.length (fun v=>v.1) (by omega) (fun k v hk hv=>?_) (fun v hv=>?_)
  ·obtain⟨t,e⟩:=v;obtain rfl:t=(k:Int):=hv;simp only;unfold Dm;rw[AkS (Ak3 (by omega))];refine FY (BH hk) ?_;simp only[Bv,Ak5];refine BC ?_ fun _=>BC ?_ fun _=>Dx fun v' e=>by cases e;exact Cr (by omega)
   all_goals (repeat' first|exact Bz|exact Iv _ _ _|exact Ig _ _|refine Cs (fun _=>?_) (fun _=>?_)|refine BC ?_ (fun _=>?_))
  ·obtain⟨t,e⟩:=v;obtain rfl:t=(f.Zy.length:Int):=hv;simp only;unfold Dm;rw[AkT (by simp)];exact⟨_,rfl⟩
 have l4:∀e0,G6 (A2 (fun(v:Int×Int)=>Dp f v.1 v.2) (0,e0)):=by
  intro e0;refine CO f.Zz.length (fun v=>v.1) (by omega) (fun k v hk hv=>?_) (fun v hv=>?_)
  ·obtain⟨t,e⟩:=v;obtain rfl:t=(k:Int):=hv;simp only;unfold Dp;rw[AkS (Ak3 (by omega))];refine FY (BH hk) ?_;simp only[Bv,Ak5];refine BC ?_ fun _=>Dx fun v' e=>by cases e;exact Cr (by omega)
   repeat' first|exact Bz|exact Iv _ _ _|exact Ig _ _|refine Cs (fun _=>?_) (fun _=>?_)|refine BC ?_ (fun _=>?_)
  ·obtain⟨t,e⟩:=v;obtain rfl:t=(f.Zz.length:Int):=hv;simp only;unfold Dp;rw[AkT (by simp)];exact⟨_,rfl⟩
 have l5:∀e0 g0,G6 (A2 (fun(v:Int×Int×Arr Bool 4096)=>Dt f v.1 v.2.1 v.2.2) (0,e0,g0)):=by
  intro e0 g0;refine CO f.Za1.length (fun v=>v.1) (by omega) (fun k v hk hv=>?_) (fun v hv=>?_)
  ·obtain⟨t,e,g⟩:=v;obtain rfl:t=(k:Int):=hv;simp only;unfold Dt;rw[AkS (Ak3 (by omega))];refine BC ?_ fun⟨_,_⟩=>Dx fun v' e=>by cases e;exact Cr (by omega)
   refine FY (BH hk) ?_;simp only[Bv,Ak5];generalize nth f.Za1 k=w;refine ET (Q:=fun b=>b=true→(0≤w.Zw∧w.Zw≤63)∧(0≤w.To∧w.To≤63)) ?_ fun b hb=>?_
   ·have hbt:∀n lo hi,TP (Ay n lo hi) fun b=>b=true→lo≤n∧n≤hi:=by
     intro n lo hi;unfold Ay;refine ET (Q:=fun b=>b=true→lo≤n∧n≤hi) (Cs (fun h=>Dx fun q=>?_) fun _=>Dx fun q=>by cases q) fun b hb=>Dx hb
     simp only[Ald]at h q;exact⟨h,q⟩
    refine ET (hbt _ _ _) fun b hb=>Cs (fun h=>?_) fun _=>Dx fun q=>by cases q
    refine ET (hbt _ _ _) fun b2 hb2=>Cs (fun h2=>?_) fun _=>Dx fun q=>by cases q
    refine Cs (fun _=>BC (Iv _ _ _) fun _=>Dx fun _=>⟨hb h,hb2 h2⟩) fun _=>Dx fun q=>by cases q
   ·refine BC (Ig _ _) fun _=>Cs (fun h=>?_) fun _=>Bz
    have hw:=hb h;refine FY ⟨by omega,by omega⟩ (FY ⟨by omega,by omega⟩ (BC (Ig _ _) fun _=>FY ⟨by omega,by omega⟩ (FY ⟨by omega,by omega⟩ Bz)))
  ·obtain⟨t,e,g⟩:=v;obtain rfl:t=(f.Za1.length:Int):=hv;simp only;unfold Dt;rw[AkT (by simp)];exact⟨_,rfl⟩
 unfold FT;refine BC ?_ fun b=>Cs (fun _=>Bz) fun _=>?_
 ·repeat' first|exact Bz|refine Cs (fun _=>?_) (fun _=>?_)
 ·exact BC (BC (l2 _) fun _=>Bz) fun _=>BC (BC (l3 _) fun _=>Bz) fun _=>BC (BC (l4 _) fun _=>Bz) fun _=>BC (BC (l5 _ _) fun _=>Bz) fun _=>Bz
structure Few(p:AkC):Prop where
  places:p.Zg1.Ze.length≤4096
  edges:p.Zg1.Zf.length≤4096
  types:p.Zh1.Zx.length≤4096
  wagons:p.Zh1.Zy.length≤4096
  swaps:p.Zh1.Zz.length≤4096
  washes:p.Zh1.Za1.length≤4096
  readers:p.Zi1.length≤4096
  shippers:p.Zj1.length≤4096
  railways:p.Zk1.length≤4096
  days:∀k,k<p.Zk1.length→(nth p.Zk1 k).Zf1.Ze1.length≤1000000
theorem WI{p:AkC}(h:Few p):G6 (BB p):=by
 have q1:=h.places;have q2:=h.edges;have q3:=h.wagons;have q4:=h.readers;have q5:=h.shippers;have q6:=h.railways
 have l1:∀b0,G6 (A2 (fun(v:Bool×Int)=>Ca p v.1 v.2) (b0,0)):=by
  intro b0;refine CO p.Zi1.length (fun v=>v.2) (by omega) (fun k v hk hv=>?_) (fun v hv=>?_)
  ·obtain⟨b,t⟩:=v;obtain rfl:t=(k:Int):=hv;simp only;unfold Ca;rw[AkS (Ak3 (by omega))];refine FY (BH hk) ?_;simp only[Bv,Ak5];refine BC ?_ fun _=>Dx fun v' e=>by cases e;exact Cr (by omega)
   repeat' first|exact Bz|exact Iv _ _ _|refine Cs (fun _=>?_) (fun _=>?_)|refine BC ?_ (fun _=>?_)
  ·obtain⟨b,t⟩:=v;obtain rfl:t=(p.Zi1.length:Int):=hv;simp only;unfold Ca;rw[AkT (by simp)];exact⟨_,rfl⟩
 have l2:∀b0,G6 (A2 (fun(v:Bool×Int)=>Ch p v.1 v.2) (b0,0)):=by
  intro b0;refine CO p.Zj1.length (fun v=>v.2) (by omega) (fun k v hk hv=>?_) (fun v hv=>?_)
  ·obtain⟨b,t⟩:=v;obtain rfl:t=(k:Int):=hv;simp only;unfold Ch;rw[AkS (Ak3 (by omega))];refine FY (BH hk) ?_;simp only[Bv,Ak5];refine BC ?_ fun _=>Dx fun v' e=>by cases e;exact Cr (by omega)
   refine Cs (fun _=>Bz) fun _=>?_
   have hw:w64 ((p.Zg1.Ze.length:Int)-1)=(p.Zg1.Ze.length:Int)-1:=B6 (by omega);rw[hw];generalize(nth p.Zj1 k).Zb1=n
   have hbt:TP (Ay n 0 ((p.Zg1.Ze.length:Int)-1)) fun b=>b=true→0≤n∧n≤(p.Zg1.Ze.length:Int)-1:=by
    unfold Ay;refine ET (Q:=fun b=>b=true→0≤n∧n≤(p.Zg1.Ze.length:Int)-1) (Cs (fun h=>Dx fun q=>?_) fun _=>Dx fun q=>by cases q) fun b hb=>Dx hb
    simp only[Ald]at h q;exact⟨h,q⟩
   refine ET hbt fun c hc=>Cs (fun _=>Bz) fun hn=>?_
   have hn':=hc (by simpa using hn);exact FY ⟨by omega,by omega⟩ Bz
  ·obtain⟨b,t⟩:=v;obtain rfl:t=(p.Zj1.length:Int):=hv;simp only;unfold Ch;rw[AkT (by simp)];exact⟨_,rfl⟩
 have l3:∀b0,G6 (A2 (fun(v:Bool×Int)=>Cb p v.1 v.2) (b0,0)):=by
  intro b0;refine CO p.Zh1.Zy.length (fun v=>v.2) (by omega) (fun k v hk hv=>?_) (fun v hv=>?_)
  ·obtain⟨b,t⟩:=v;obtain rfl:t=(k:Int):=hv;simp only;unfold Cb;rw[AkS (Ak3 (by omega))];refine FY (BH hk) ?_;simp only[Bv,Ak5];refine BC ?_ fun _=>Dx fun v' e=>by cases e;exact Cr (by omega)
   exact Cs (fun _=>Bz) (fun _=>Bz)
  ·obtain⟨b,t⟩:=v;obtain rfl:t=(p.Zh1.Zy.length:Int):=hv;simp only;unfold Cb;rw[AkT (by simp)];exact⟨_,rfl⟩
 have l4:∀n b0,G6 (A2 (fun(v:Bool×Int)=>Cg p n v.1 v.2) (b0,0)):=by
  intro n b0;refine CO p.Zg1.Ze.length (fun v=>v.2) (by omega) (fun k v hk hv=>?_) (fun v hv=>?_)
  ·obtain⟨b,t⟩:=v;obtain rfl:t=(k:Int):=hv;simp only;unfold Cg;rw[AkS (Ak3 (by omega))];refine FY (BH hk) ?_;simp only[Bv,Ak5];refine BC ?_ fun _=>Dx fun v' e=>by cases e;exact Cr (by omega)
   exact Cs (fun _=>Bz) (fun _=>Cs (fun _=>Bz) (fun _=>Bz))
  ·obtain⟨b,t⟩:=v;obtain rfl:t=(p.Zg1.Ze.length:Int):=hv;simp only;unfold Cg;rw[AkT (by simp)];exact⟨_,rfl⟩
 have l5:∀n b0,G6 (A2 (fun(v:Bool×Int)=>Ci p n v.1 v.2) (b0,0)):=by
  intro n b0;refine CO p.Zg1.Zf.length (fun v=>v.2) (by omega) (fun k v hk hv=>?_) (fun v hv=>?_)
  ·obtain⟨b,t⟩:=v;obtain rfl:t=(k:Int):=hv;simp only;unfold Ci;rw[AkS (Ak3 (by omega))];refine FY (BH hk) ?_;simp only[Bv,Ak5];refine BC ?_ fun _=>Dx fun v' e=>by cases e;exact Cr (by omega)
   exact Cs (fun _=>Bz) (fun _=>Bz)
  ·obtain⟨b,t⟩:=v;obtain rfl:t=(p.Zg1.Zf.length:Int):=hv;simp only;unfold Ci;rw[AkT (by simp)];exact⟨_,rfl⟩
 have l6:∀b0,G6 (A2 (fun(v:Bool×Int)=>Cc p v.1 v.2) (b0,0)):=by
  intro b0;refine CO p.Zk1.length (fun v=>v.2) (by omega) (fun k v hk hv=>?_) (fun v hv=>?_)
  ·obtain⟨b,t⟩:=v;obtain rfl:t=(k:Int):=hv;simp only;unfold Cc;rw[AkS (Ak3 (by omega))];refine FY (BH hk) ?_;simp only[Bv,Ak5];refine BC ?_ fun _=>Dx fun v' e=>by cases e;exact Cr (by omega)
   refine Cs (fun _=>Bz) fun _=>BC (Aaf _ (h.days k hk)) fun _=>Cs (fun _=>Bz) fun _=>?_
   exact BC (TB _) fun _=>Bz
  ·obtain⟨b,t⟩:=v;obtain rfl:t=(p.Zk1.length:Int):=hv;simp only;unfold Cc;rw[AkT (by simp)];exact⟨_,rfl⟩
 unfold BB;simp only[Bv];refine BC (YB _ h.places h.edges) fun _=>Cs (fun _=>Bz) fun _=>BC (Wf _ h.types h.wagons h.swaps h.washes) fun _=>Cs (fun _=>Bz) fun _=>?_
 refine BC ?_ fun b=>Cs (fun _=>Bz) fun _=>?_
 ·repeat' first|exact Bz|refine Cs (fun _=>?_) (fun _=>?_)
 ·exact BC (BC (l1 _) fun _=>Bz) fun _=>BC (BC (l2 _) fun _=>Bz) fun _=>BC (BC (l3 _) fun _=>Bz) fun _=>BC (BC (l4 _ _) fun _=>Bz) fun _=>BC (BC (l5 _ _) fun _=>Bz) fun _=>BC (BC (l6 _) fun _=>Bz) fun _=>Cs (fun _=>Bz) fun _=>Bz
set_option maxHeartbeats 1000000
def Ck0(c:AkL):Prop:=c.it.Zu1.length≤1000000
abbrev CkO(o:Option AkL):Prop:=TP o Ck0
section
variable {c:AkL}(h:Ck0 c)(a b:Int)
include h
theorem k12:CkO (BT c a b):=by
 unfold BT;exact BC (Cs (fun _=>Cs (fun _=>Bz) fun _=>Bz) fun _=>Bz) fun _=>Dx h
theorem k14:CkO (Bi c a b):=by
 unfold Bi;exact BC (Cs (fun _=>Cs (fun _=>Bz) fun _=>Bz) fun _=>Bz) fun _=>Dx h
theorem k15:CkO (Bj c a b):=by
 unfold Bj;exact BC (Cs (fun _=>Cs (fun _=>Bz) fun _=>Bz) fun _=>Bz) fun _=>Dx h
theorem k16:CkO (BX c a b):=by
 unfold BX;exact BC (Cs (fun _=>Cs (fun _=>Bz) fun _=>Bz) fun _=>Bz) fun _=>Dx h
theorem k17:CkO (BZ c a b):=by
 unfold BZ;exact BC (Cs (fun _=>Cs (fun _=>Bz) fun _=>Bz) fun _=>Bz) fun _=>Dx h
theorem k18:CkO (AU c a b):=by
 unfold AU;exact BC (Cs (fun _=>Cs (fun _=>Bz) fun _=>Bz) fun _=>Bz) fun _=>Dx h
theorem k19:CkO (BR c a b):=by
 unfold BR;exact BC (Cs (fun _=>Cs (fun _=>Bz) fun _=>Bz) fun _=>Bz) fun _=>Dx h
theorem k20:CkO (BS c a b):=by
 unfold BS;exact BC (Cs (fun _=>Cs (fun _=>Bz) fun _=>Bz) fun _=>Bz) fun _=>Dx h
theorem k21:CkO (B3 c a b):=by
 unfold B3;exact BC (Cs (fun _=>Cs (fun _=>Bz) fun _=>Bz) fun _=>Bz) fun _=>Dx h
theorem k22:CkO (B0 c a b):=by
 unfold B0;exact BC (Cs (fun _=>Cs (fun _=>Bz) fun _=>Bz) fun _=>Bz) fun _=>Dx h
omit h in
theorem La{o:Option AkL}(h:CkO o):CkO (o.bind fun y=>some y):=ET h fun _ q=>Dx q
theorem Rs:CkO (BL c):=by unfold BL;exact La (k12 h _ _)
theorem Nv:CkO (AX c):=by unfold AX;exact La (k16 h _ _)
theorem Xo:CkO (Cl c):=by unfold Cl;exact ET (k17 h _ _) fun _ q=>La (Nv q)
theorem Nc:CkO (Bw c):=by unfold Bw;exact La (k14 h _ _)
theorem Wr:CkO (C0 c):=by unfold C0;exact La (k20 h _ _)
theorem K4(k:Int):TP (Ba c k) fun y=>Ck0 y.2:=by
 unfold Ba;refine BC ?_ fun⟨_,_,_⟩=>BC ?_ fun _=>Dx h
 ·refine ET (Q:=fun t=>t=true→0≤c.it.Zb1∧c.it.Zb1<(c.p.Zg1.Ze.length:Int)) (Cs (fun h1=>Dx fun h2=>?_) fun _=>Dx fun q=>by cases q) fun t ht=>Cs (fun q=>?_) fun _=>Bz
  ·simp only[Ald]at h1 h2;exact⟨h1,h2⟩
  ·have:=ht q;refine FY ⟨by omega,by omega⟩ ?_;simp only[Bv];exact Bz
 ·repeat' first|exact Bz|refine Cs (fun _=>?_) (fun _=>?_)
end
theorem XB(l:List AkE)(b:Bool)(hl:l.length≤1000000):G6 (Hd l b):=by
 have l1:G6 (A2 (fun(v:Int)=>Eo l b v) 0):=by
  refine CO l.length id (by omega) (fun k v hk hv=>?_) (fun v hv=>?_)
  ·obtain rfl:v=(k:Int):=hv;unfold Eo;rw[AkS (Ak3 (by omega))];refine FY (BH hk) ?_;simp only[Bv];refine BC ?_ fun b=>?_
   ·repeat' first|exact Bz|refine Cs (fun _=>?_) (fun _=>?_)
   ·exact Cs (fun _=>Dx fun v' e=>by cases e) fun _=>Dx fun v' e=>by cases e;exact Cr (by omega)
  ·obtain rfl:v=(l.length:Int):=hv;unfold Eo;rw[AkT (by simp)];exact⟨_,rfl⟩
 obtain⟨x1,e1,_⟩:=l1;unfold Hd;rw[e1];rcases x1 with u|(u|m)<;>(try cases u)<;>exact⟨_,rfl,trivial⟩
theorem VJ{c:AkL}(h:Ck0 c):CkO (Cp c):=by
 unfold Cp;refine Cs (fun _=>Dx h) fun _=>ET (Rs h) fun c h=>Cs (fun _=>?_) fun _=>Cs (fun _=>?_) fun _=>?_
 ·exact ET (k14 h _ _) fun c h=>La (Nv h)
 ·exact ET (K4 h _) fun c h=>La (Xo h)
 refine BC (Cs (fun _=>Bz) fun _=>Bz) fun _=>Cs (fun _=>?_) fun _=>Cs (fun _=>?_) fun _=>?_
 ·refine ET (K4 h _) fun c h=>BC ?_ fun _=>ET (Nv (show Ck0 _ from h)) fun c h=>La (k18 h _ _)
  repeat' first|exact Bz|refine Cs (fun _=>?_) (fun _=>?_)
 ·exact ET (k15 h _ _) fun c h=>ET (Nc h) fun c h=>ET (K4 h _) fun c h=>ET (k19 h _ _) fun c h=>ET (Wr h) fun c h=>ET (k21 h _ _) fun c h=>La (Nv h)
 refine BC (Cs (fun _=>Bz) fun _=>Bz) fun _=>Cs (fun _=>?_) fun _=>Dx h
 exact ET (K4 h _) fun c h=>ET (Nc h) fun c h=>ET (Nv h) fun c h=>Cs (fun _=>La (k18 h _ _)) fun _=>Dx h
theorem Acx{c:AkL}(h:Ck0 c):CkO (CQ c):=by
 unfold CQ;refine Cs (fun _=>?_) fun _=>Cs (fun _=>?_) fun _=>Cs (fun _=>?_) fun _=>?_
 ·exact ET (Rs h) fun c h=>ET (Nv h) fun c h=>La (k18 h _ _)
 ·refine ET (Rs h) fun c h=>ET (K4 h _) fun c h=>ET (Xo h) fun c h=>ET (k18 h _ _) fun c h=>ET (k22 h _ _) fun c h=>BC ?_ fun _=>Dx (show Ck0 _ by unfold Ck0;simp)
  exact Cs (fun _=>BC (XB _ _ h) fun _=>Bz) fun _=>Bz
 ·refine ET (k14 h _ _) fun c h=>BC ?_ fun _=>Dx (show Ck0 _ by unfold Ck0;simp)
  exact Cs (fun _=>Cs (fun _=>BC (XB _ _ h) fun _=>Bz) fun _=>Bz) fun _=>Bz
 refine BC ?_ fun _=>Cs (fun _=>?_) fun _=>Cs (fun _=>Dx h) fun _=>Cs (fun _=>?_) fun _=>Dx h
 ·exact Cs (fun _=>Bz) fun _=>Cs (fun _=>Bz) fun _=>Bz
 ·refine ET (k15 h _ _) fun c h=>ET (Nv h) fun c h=>Cs (fun _=>BC ?_ fun _=>Dx h) fun _=>Dx h
  repeat' first|exact Bz|refine Cs (fun _=>?_) (fun _=>?_)
 ·exact ET (Nc h) fun c h=>ET (K4 h _) fun c h=>ET (Wr h) fun c h=>ET (k15 h _ _) fun c h=>ET (k21 h _ _) fun c h=>ET (Xo h) fun c h=>La (k22 h _ _)
theorem RI(p:AkC)(it:AkF)(h:it.Zu1.length≤1000000):G6 (GU p it):=by
 unfold GU;refine BC (Cs (fun _=>ET (VJ (show Ck0 { p:=p,it:=it,ok:=true }from h)) fun _ _=>Bz) fun _=>ET (Acx (show Ck0 { p:=p,it:=it,ok:=true }from h)) fun _ _=>Bz) ?_;rintro⟨_,_,_,_,_,_,_,_,_,_,_,_,_,_,_,_,_,_,_,_,_,_,_,_,_,_⟩
 repeat' first|exact Bz|refine Cs (fun _=>?_) (fun _=>?_)|refine BC ?_ (fun _=>?_)
theorem Ol{p:AkC}(h:Few p):∃f,BB p=some f∧∀it:AkF,it.Zu1.length≤1000000→∃e,FK p it=some e:=by
 obtain⟨f,hf,_⟩:=WI h;refine⟨f,hf,fun it hp=>?_⟩
 have:G6 (FK p it):=by
  unfold FK;rw[hf,AkQ];refine Cs (fun _=>Bz) fun _=>BC ?_ fun _=>Cs (fun _=>Bz) fun _=>Bz
  refine BC ?_ fun _=>Cs (fun _=>Bz) fun _=>BC (RI p it hp) fun _=>Bz
  unfold FC
  repeat' first|exact Bz|refine Cs (fun _=>?_) (fun _=>?_)|refine BC ?_ (fun _=>?_)
 obtain⟨e,he,_⟩:=this;exact⟨e,he⟩
end Go.Proofs.YtioapcamanmoiaaDoor
namespace Go.Proofs.YtioapcamanmoiaaDoor.Kc
open Go.Rv
set_option linter.unusedVariables false
set_option linter.unusedSimpArgs false
theorem Bu{α β:Type}{o:Option α}{a:α}{f:α→Option β}(h:o=some a):o.bind f=f a:=by rw[h];rfl
theorem Z6{α β:Type}(x y:α)(f:α→Option β)(h:x=y):lt1 x f=f y:=by rw[h];rfl
theorem Ac6(x:UInt64)(n:Nat):(Dz x n).toNat=x.toNat/2^n:=by
 show(x.toBitVec >>> n).toNat=_;rw[Anp,AmU];rfl
theorem O8{k:Nat}(h:k<9223372036854775807):w64 ((k:Int)+1)=((k+1:Nat):Int):=by
 rw[B6 (by omega)];rfl
theorem J2(x:AkK):AkK.mk x.Za x.N x.B x.L=x:=by cases x;rfl
mutual
def szV:AkK→Nat
 |.mk _ _ b l=>b.length+1+szVs l
def szVs:List AkK→Nat
 |[]=>0
 |x::l=>szV x+szVs l
end
theorem Ab5(x:AkK):0<szV x:=by
 cases x with
 |mk k n b l=>simp only[szV];omega
theorem Iq{l:List AkK}{x:AkK}(h:x∈l):szV x≤szVs l:=by
  induction l with
  |nil=>cases h
  | cons y l ih=>
    simp only[szVs];rcases Alk.1 h with rfl|h
    · omega
    · have:=ih h;omega
theorem P5(l:List AkK):l.length≤szVs l:=by
  induction l with
  |nil=>simp[szVs]
  | cons y l ih=>
    have:=Ab5 y;simp only[szVs,Alb];omega
theorem szV_eq(x:AkK):szV x=x.B.length+1+szVs x.L:=by
 cases x with
 |mk k n b l=>rfl
def nbF:Nat→Nat→Nat
 |0,_=>0
 |f+1,u=>if u=0 then 0 else nbF f (u/256)+1
def nb(u:Nat):Nat:=nbF 8 u
theorem AfB(f u:Nat):nbF f u≤f:=by
  induction f generalizing u with
  |zero=>exact Ak2 _
  | succ f ih=>
    unfold nbF;split
    · omega
    · have:=ih (u/256);omega
theorem Afq(f u:Nat)(h:u<256^f)(m:Nat):nbF (f+m) u=nbF f u:=by
  induction f generalizing u with
  | zero=>
    have:u=0:=by simpa using h
    subst this;cases m with
    |zero=>rfl
    |succ m=>rw[AlH];unfold nbF;simp
  | succ f ih=>
    rw[show f+1+m=(f+m)+1 by omega];unfold nbF;split
    · rfl
    · rw[ih (u/256) (by rw[Nat.pow_succ]at h;omega)]
theorem Ae5(u:Nat):nb u≤8:=AfB 8 u
theorem AbB:nb 0=0:=rfl
theorem Adk(u:Nat)(h:u≠0)(hu:u<256^8):nb u=nb (u/256)+1:=by
 unfold nb;rw[show(8:Nat)=7+1 from rfl];rw[Afq 7 (u/256) (by have:(256:Nat)^8=256^7*256:=rfl;omega) 1]
 conv=>lhs;unfold nbF
 rw[AkT h]
theorem WM(u:UInt64):BK u=some ((nb u.toNat:Nat):Int):=by
 obtain⟨x,hx,hq⟩:=CC (f:=fun(v:UInt64×Int)=>Bb v.1 v.2)
  (fun v=>∃k:Nat,v.2=(k:Int)∧k+nb v.1.toNat=nb u.toNat) (fun v=>v.1.toNat) (fun x=>x=((nb u.toNat:Nat):Int))
  (by
   rintro⟨u',k'⟩ ⟨k,hk,hkn⟩;simp only at hk hkn;subst hk;have hlt:u'.toNat<256^8:=by have:=u'.toNat_lt;exact this
   by_cases h0:u'.toNat=0
   ·right;refine⟨(k:Int),?_,?_⟩
    ·show Bb u' (k:Int)=_;unfold Bb;rw[AkT];simp only[Ald,AnP,Al4];show ¬0<u'.toNat;omega
    ·rw[h0,AbB]at hkn;rw[←hkn];rfl
   ·left;have hs:(Dz u' ((8:UInt64)).toNat).toNat=u'.toNat/256:=by rw[Ac6];rfl
    refine⟨(Dz u' ((8:UInt64)).toNat,((k+1:Nat):Int)),?_,⟨k+1,rfl,?_⟩,?_⟩
    ·show Bb u' (k:Int)=_;unfold Bb;have:=Ae5 u.toNat;rw[AkS,O8 (by omega)]
     ·rfl
     ·simp only[Ald,AnP,Al4];show 0<u'.toNat;omega
    ·simp only[hs];have:=Adk _ h0 hlt;omega
    ·simp only[hs];omega) (v0:=(u,0)) ⟨0,rfl,by simp⟩ (by have:=u.toNat_lt;omega)
 subst hq;unfold BK;exact(Bu (Bu hx)).trans rfl
def nbI(n:Int):Nat:=if n<0 then nb (~~~(UInt64.ofInt n)).toNat else nb (UInt64.ofInt n).toNat
def AcC(n:Int):UInt8:=if n<0 then UInt8.ofInt (31-(nbI n:Int))else UInt8.ofInt (32+(nbI n:Int))
def AeG(n:Int)(k i:Nat):UInt8:=(Dz (UInt64.ofInt n) (8*(k-1-i))).toUInt8
def Acm(n:Int):List UInt8:=AcC n::(List.range (nbI n)).map (AeG n (nbI n))
theorem Abj(n:Int):nbI n≤8:=by unfold nbI;split<;>exact Ae5 _
theorem AaF(n:Int):(Acm n).length=nbI n+1:=by simp[Acm]
theorem QJ(b:List UInt8)(n:Int)(hb:b.length≤1099511627776):Dy b n=some (b++Acm n):=by
 have h8:=Abj n
 have key:∃x,A2 (fun(v:Int×List UInt8)=>Bf n ((nbI n:Nat):Int) v.1 v.2) (0,b++[AcC n])=some x∧x=b++Acm n :=
  E6 (f:=fun(v:Int×List UInt8)=>Bf n ((nbI n:Nat):Int) v.1 v.2) (nbI n)
   (fun k v=>v=((k:Int),b++AcC n::(List.range k).map (AeG n (nbI n)))) (fun x=>x=b++Acm n) (by omega)
   (fun k v hk hv=>by
    subst hv;refine⟨_,?_,rfl⟩;show Bf n ((nbI n:Nat):Int) (k:Int) _=_;unfold Bf;have e1:w64 (((nbI n:Nat):Int)-1)=((nbI n-1:Nat):Int):=by rw[B6 (by omega)];omega
    have e2:w64 (((nbI n-1:Nat):Int)-(k:Int))=((nbI n-1-k:Nat):Int):=by rw[B6 (by omega)];omega
    have e3:w64 (8*((nbI n-1-k:Nat):Int))=((8*(nbI n-1-k):Nat):Int):=by rw[B6 (by omega)];omega
    rw[AkS (by simp;omega),e1,e2,e3,AkS (by unfold EC;omega),AkS (NY (by simp;omega)),O8 (by omega)];simp only[lt1,AmO,AmM,Al6,Anh,AlT,Ale];rfl)
   (fun v hv=>by
    subst hv;refine⟨_,?_,rfl⟩;show Bf n ((nbI n:Nat):Int) ((nbI n:Nat):Int) _=_;unfold Bf;rw[AkT (by simp)];rfl) (v0:=(0,b++[AcC n])) rfl
 obtain⟨x,hx,rfl⟩:=key
 have hp:(if decide (n<0)=true then
   (BK (~~~UInt64.ofInt n)).bind fun y=>lt1 (UInt8.ofInt (w64 (31-y))) fun(tag:UInt8)=>some (y,tag)
  else some (((nb (UInt64.ofInt n).toNat:Nat):Int),UInt8.ofInt (w64 (32+((nb (UInt64.ofInt n).toNat:Nat):Int)))):Option (Int×UInt8))=some (((nbI n:Nat):Int),AcC n):=by
  by_cases h:n<0
  ·rw[AkS (by simpa using h),WM];have e:nbI n=nb (~~~(UInt64.ofInt n)).toNat:=AkS h;rw[←e];show some (((nbI n:Nat):Int),UInt8.ofInt (w64 (31-((nbI n:Nat):Int))))=_;rw[B6 (by omega)];unfold AcC;rw[AkS h]
  ·rw[AkT (by simpa using h)];have e:nbI n=nb (UInt64.ofInt n).toNat:=AkT h;rw[←e,B6 (by omega)];unfold AcC;rw[AkT h]
 unfold Dy;refine(Bu (WM _)).trans ?_;refine(Z6 _ _ _ rfl).trans ?_;refine(Bu hp).trans ?_;refine(AkS (NY (by omega))).trans ?_;refine(Z6 _ _ _ rfl).trans ?_;exact(Bu (Bu hx)).trans rfl
mutual
def NB:AkK→Int×Bool
 |.mk k n b l=>
  if k=1 then(0,b.length==0&&l.length==0)
  else if k=2 then(0,n==0&&l.length==0)
  else if k=3 then(if n=0∧b.length=0 then Qp 0 l else(0,false))
  else(0,false)
def Qp(d:Int):List AkK→Int×Bool
 |[]=>(d+1,true)
 |x::l=>if(NB x).2=true then Qp (Lv d (NB x).1) l else(0,false)
end
mutual
theorem WZ:∀v:AkK,0≤(NB v).1∧(NB v).1≤szV v
  | .mk k n b l=>by
    have h:=W2 0 l;unfold NB szV;split
    · simp;omega
    · split
      · simp;omega
      · split
        · split
          · omega
          · simp;omega
        · simp;omega
theorem W2:∀(d:Int) (l:List AkK),0≤d→0≤(Qp d l).1∧(Qp d l).1≤max d (szVs l)+1
  |d,[]=>by intro h;simp[Qp,szVs];omega
  | d,x::l=>by
    intro h;have h1:=WZ x;have hm:0≤Lv d (NB x).1∧Lv d (NB x).1≤max d (szV x):=by unfold Lv;split<;>omega
    have h2:=W2 (Lv d (NB x).1) l hm.1;unfold Qp szVs;split
    · omega
    · simp;omega
end
theorem ED{l:List AkK}{k:Nat}(h:k<l.length):nth l k=l[k]:=by simp[nth,Ak1,h]
theorem AiH{α:Type}(l:List α):((l.length:Int)==0)=(l.length==0):=by
 cases l with
 |nil=>rfl
 |cons a l=>simp;omega
theorem ZR(d:Int):Qp d []=(d+1,true):=by unfold Qp;rfl
theorem Xv(d:Int)(x:AkK)(l:List AkK):Qp d (x::l)=if(NB x).2=true then Qp (Lv d (NB x).1) l else(0,false):=by
 conv=>lhs;unfold Qp
theorem Wa(v:AkK)(rec_:AkK→Option (Int×Bool))(hr:∀x∈v.L,rec_ x=some (NB x))(hs:szV v≤1099511627776) :∃x,A2 (fun(s:Int×Int)=>BO v rec_ s.1 s.2) (0,0)=some x ∧((∃d:Int,Qp 0 v.L=(d+1,true)∧0≤d∧d≤1099511627776∧x=.inl d)∨(Qp 0 v.L=(0,false)∧x=.inr (.inr (.inr (0,false))))):=by
 have hsz:=szV_eq v;have hlen:=P5 v.L
 refine CC (f:=fun(s:Int×Int)=>BO v rec_ s.1 s.2)
  (fun s=>∃k:Nat,s.2=(k:Int)∧k≤v.L.length∧0≤s.1∧s.1≤1099511627776∧Qp 0 v.L=Qp s.1 (v.L.drop k)) (fun s=>v.L.length-s.2.toNat) _ ?_ ⟨0,rfl,Ali _,by simp,by simp,rfl⟩ (by omega)
 rintro⟨d,t⟩ ⟨k,ht,hk,hd0,hd1,hsp⟩;simp only at ht hd0 hd1 hsp;subst ht;by_cases hkl:k<v.L.length
 ·have hx:v.L.drop k=v.L[k]::v.L.drop (k+1):=Alv hkl;have hm:v.L[k]∈v.L:=AlI hkl;have hsx:=Iq hm;have hle:=WZ v.L[k];rw[hx,Xv]at hsp
  have hb:BO v rec_ d (k:Int)=if(!(NB v.L[k]).2)then some (.inr (.inr (.inr (.inr (0,false)))))else some (.inl (Lv d (NB v.L[k]).1,((k+1:Nat):Int))):=by
   unfold BO;rw[AkS (by simp;omega),AkS (BH hkl)];simp only[Ak5,ED hkl,lt1,J2];refine(Bu (hr _ hm)).trans ?_;rw[O8 (by omega)];rfl
  by_cases hg:(NB v.L[k]).2=true
  ·left;rw[AkS hg]at hsp;rw[AkT (by simp[hg])]at hb;refine⟨_,hb,⟨k+1,rfl,hkl,?_,?_,hsp⟩,?_⟩
   ·simp only[Lv];split<;>omega
   ·simp only[Lv];split<;>omega
   ·simp only[Ak5];omega
  ·right;rw[AkT hg]at hsp;rw[AkS (by simp[hg])]at hb;exact⟨_,hb,.inr ⟨hsp,rfl⟩⟩
 ·right;have hkk:k=v.L.length:=by omega
  subst hkk;rw[Al3,ZR]at hsp;refine⟨.inl d,?_,.inl ⟨d,hsp,hd0,hd1,rfl⟩⟩;show BO v rec_ d ((v.L.length:Nat):Int)=_;unfold BO;rw[AkT (by simp)]
theorem WB : ∀ (n:Nat) (v:AkK),szV v<n→szV v≤1099511627776→DU n v=some (NB v)
  |0,v,h,_=>absurd h (Alr _)
  | n + 1,v,h,hs=>by
    show EE (DU n) v=_;have hsz:=szV_eq v;obtain⟨x,hx,hq⟩:=Wa v (DU n) (fun y hy=>WB n y (by have:=Iq hy;omega) (by have:=Iq hy;omega)) hs
    have hv:NB v=if v.Za=1 then(0,v.B.length==0&&v.L.length==0)else if v.Za=2 then(0,v.N==0&&v.L.length==0)else if v.Za=3 then(if v.N=0∧v.B.length=0 then Qp 0 v.L else(0,false))else(0,false):=by
      cases v with
      |mk k n b l=>unfold NB;rfl
    rw[hv];unfold EE;by_cases h1:v.Za=1
    · rw[AkS (by simp[h1]),AkS h1]
      rw[AiH,AiH];by_cases hb:v.B.length=0
      · simp[hb]
      · have:(v.B.length==0)=false:=by simpa using hb
        simp[this]
    · rw[AkT (by simp[h1]),AkT h1]
      by_cases h2:v.Za=2
      · rw[AkS (by simp[h2]),AkS h2,AiH]
        by_cases hn:v.N=0
        · simp[hn]
        · simp[hn]
      · rw[AkT (by simp[h2]),AkT h2]
        by_cases h3:v.Za=3
        · rw[AkS (by simp[h3]),AkS h3]
          by_cases hn:v.N=0
          · by_cases hb:v.B.length=0
            · rw[AkS (show v.N=0∧v.B.length=0 from⟨hn,hb⟩)]
              have e1:(if(v.N != 0)then some true else some ((v.B.length:Int) != 0):Option Bool)=some false:=by simp[hn,hb]
              refine(Bu (a:=(.inr (Qp 0 v.L):Unit⊕(Int×Bool))) ?_).trans rfl;refine(Bu e1).trans ?_;rw[AkT (by simp)];rcases hq with⟨d,e,h0,hd,rfl⟩|⟨e,rfl⟩
              · rw[hx,e]
                show some (Sum.inr (w64 (d+1),true))=_;rw[B6 (by omega)]
              · rw[hx,e]
                rfl
            · rw[AkT (show ¬(v.N=0∧v.B.length=0)from fun h=>hb h.2)]
              have e1:(if(v.N != 0)then some true else some ((v.B.length:Int) != 0):Option Bool)=some true:=by
                rw[AkT (by simp[hn])];simp;intro e;apply hb;simp[e]
              refine(Bu (a:=(.inr (0,false):Unit⊕(Int×Bool))) ?_).trans rfl;exact(Bu e1).trans rfl
          · rw[AkT (show ¬(v.N=0∧v.B.length=0)from fun h=>hn h.1)]
            have e1:(if(v.N != 0)then some true else some ((v.B.length:Int) != 0):Option Bool)=some true:=by simp[hn]
            refine(Bu (a:=(.inr (0,false):Unit⊕(Int×Bool))) ?_).trans rfl;exact(Bu e1).trans rfl
        · rw[AkT (by simp[h3]),AkT h3]
          rfl
def Qc:List UInt8→List UInt8
 |[]=>[]
 |c::l=>if c=0 then 0::255::Qc l else c::Qc l
theorem Aaq(a b:List UInt8):Qc (a++b)=Qc a++Qc b:=by
 induction a with
 |nil=>rfl
 |cons c a ih=>simp only[Ale,Qc];split<;>simp[ih]
theorem Pk(a:List UInt8):(Qc a).length≤2*a.length:=by
 induction a with
 |nil=>simp[Qc]
 |cons c a ih=>simp only[Qc];split<;>simp only[Alb]<;>omega
mutual
def Yt:AkK→List UInt8
 |.mk k n b l=>if k=1 then Acm n else if k=2 then 48::(Qc b++[0,0])else 64::(Um l++[0])
def Um:List AkK→List UInt8
 |[]=>[]
 |x::l=>Yt x++Um l
end
theorem AdV(v:AkK):Yt v=if v.Za=1 then Acm v.N else if v.Za=2 then 48::(Qc v.B++[0,0])else 64::(Um v.L++[0]):=by
 cases v with
 |mk k n b l=>unfold Yt;rfl
theorem Aas(a b:List AkK):Um (a++b)=Um a++Um b:=by
 induction a with
 |nil=>rfl
 |cons c a ih=>simp only[Ale,Um,ih,AlT]
mutual
theorem encV_len:∀v:AkK,(Yt v).length≤9*szV v
  | .mk k n b l=>by
    have h:=LI l;have h1:=AaF n;have h2:=Abj n;have h3:=Pk b;unfold Yt szV;split
    · omega
    · split
      · simp only[Alb,Ala,Aln];omega
      · simp only[Alb,Ala,Aln];omega
theorem LI:∀l:List AkK,(Um l).length≤9*szVs l
  |[]=>by simp[Um]
  | x::l=>by
    have h1:=encV_len x;have h2:=LI l;unfold Um szVs;simp only[Ala];omega
end
theorem VE(v:AkK)(a:List UInt8)(ha:a.length+2*v.B.length≤100000000000000) :∃x,A2 (fun(s:Int×List UInt8)=>AP v s.1 s.2) (0,a)=some x∧x=a++Qc v.B:=by
 refine E6 (f:=fun(s:Int×List UInt8)=>AP v s.1 s.2) v.B.length (fun k s=>s=((k:Int),a++Qc (v.B.take k))) _ (by omega) ?_ ?_ (by simp[Qc])
 ·intro k s hk hs;subst hs;have hx:v.B.take (k+1)=v.B.take k++[v.B[k]]:=by rw[AmR,AkR hk];rfl
  have hn:nth v.B k=v.B[k]:=by simp[nth,Ak1,hk]
  have hl:=Pk (v.B.take k);rw[AmA]at hl;refine⟨_,?_,rfl⟩;show AP v (k:Int) _=_;unfold AP;rw[AkS (by simp;omega),AkS (BH hk),AkS (NY (by simp only[Ala];omega)),O8 (by omega)];simp only[Ak5,hn,lt1,hx,Aaq];by_cases h0:v.B[k]=0
  ·rw[AkS (by simp[h0]),AkS (NY (by simp only[Ala,Alb,Aln];omega))];simp[Qc,h0]
  ·rw[AkT (by simp[h0])];simp[Qc,h0]
 ·intro s hs;subst hs;refine⟨_,?_,rfl⟩;show AP v ((v.B.length:Nat):Int) _=_;unfold AP;rw[AkT (by simp),AlY]
theorem WW(v:AkK)(a:List UInt8)(rec_:List UInt8→AkK→Option (List UInt8))(hr:∀x∈v.L,∀b,b.length+9*szV x≤a.length+9*szVs v.L→rec_ b x=some (b++Yt x))(hs:szV v≤1099511627776) :∃x,A2 (fun(s:Int×List UInt8)=>AO v rec_ s.1 s.2) (0,a)=some x∧x=a++Um v.L:=by
  have hsz:=szV_eq v;have hlen:=P5 v.L;refine E6 (f:=fun(s:Int×List UInt8)=>AO v rec_ s.1 s.2) v.L.length (fun k s=>s=((k:Int),a++Um (v.L.take k))) _ (by omega) ?_ ?_ (by simp[Um])
  · intro k s hk hs'
    subst hs';have hx:v.L.take (k+1)=v.L.take k++[v.L[k]]:=by rw[AmR,AkR hk];rfl
    have hm:v.L[k]∈v.L:=AlI hk
    have hsp:szVs v.L=szVs (v.L.take k)+szVs (v.L.drop k):=by
      have key:∀a b:List AkK,szVs (a++b)=szVs a+szVs b:=by
        intro a b
        induction a with
        |nil=>simp[szVs]
        |cons y a ih=>simp only[Ale,szVs,ih];omega
      rw[←key,AmF]
    rw[Alv hk]at hsp;simp only[szVs]at hsp;have hl:=LI (v.L.take k);refine⟨_,?_,rfl⟩;show AO v rec_ (k:Int) _=_;unfold AO;rw[AkS (by simp;omega),AkS (BH hk),O8 (by omega)];simp only[Ak5,ED hk,lt1,J2];refine(Bu (hr _ hm _ (by simp only[Ala];omega))).trans ?_;rw[hx,Aas];simp[Um]
  · intro s hs'
    subst hs';refine⟨_,?_,rfl⟩;show AO v rec_ ((v.L.length:Nat):Int) _=_;unfold AO;rw[AkT (by simp),AlY]
theorem Uk:∀(n:Nat) (b:List UInt8) (v:AkK),szV v<n→b.length+9*szV v≤1099511627776→BJ n b v=some (b++Yt v)
  |0,b,v,h,_=>absurd h (Alr _)
  | n + 1,b,v,h,hs=>by
    show C7 (BJ n) b v=_;have hsz:=szV_eq v;rw[AdV];unfold C7;by_cases h1:v.Za=1
    · rw[AkS (by simp[h1]),AkS h1]
      rw[QJ b v.N (by omega)];rfl
    · rw[AkT (by simp[h1]),AkT h1]
      by_cases h2:v.Za=2
      · rw[AkS (by simp[h2]),AkS h2]
        obtain⟨x,hx,rfl⟩:=VE v (b++[48]) (by simp only[Ala,Alb,Aln];omega);have hl:=Pk v.B;refine(Bu (a:=(.inr (b++48::(Qc v.B++[0,0])):Unit⊕List UInt8)) ?_).trans rfl;refine(AkS (NY (by omega))).trans ?_;refine(Z6 _ _ _ rfl).trans ?_;refine(Bu (Bu hx)).trans ?_;refine(AkS (NY (by simp only[Ala,Alb,Aln];omega))).trans ?_;simp[lt1]
      · rw[AkT (by simp[h2]),AkT h2]
        obtain⟨x,hx,rfl⟩:=WW v (b++[64]) (BJ n) (fun y hy c hc=>Uk n c y (by have:=Iq hy;omega) (by simp only[Ala,Alb,Aln]at hc;omega)) (by omega);have hl:=LI v.L;refine(Bu (a:=(.inl ():Unit⊕List UInt8)) rfl).trans ?_;refine(AkS (NY (by omega))).trans ?_;refine(Z6 _ _ _ rfl).trans ?_;refine(Bu (Bu hx)).trans ?_;refine(AkS (NY (by simp only[Ala,Alb,Aln];omega))).trans ?_;simp[lt1]
def Enc(v:AkK):List UInt8×Int :=
 if(NB v).2=true then(if(NB v).1>16 then([],2)else if(Yt v).length>65536 then([],2)else(Yt v,0))else([],10)
theorem encode_eq(v:AkK)(h:szV v≤100000000000):Ep v=some (Enc v):=by
 unfold Ep IX ES Enc;refine(Bu (WB 18446744073709551616 v (by omega) (by omega))).trans ?_;by_cases h1:(NB v).2=true
 ·rw[AkT (by simp[h1]),AkS h1];by_cases h2:(NB v).1>16
  ·rw[AkS (by simpa using h2),AkS h2]
  ·rw[AkT (by simpa using h2),AkT h2];refine(Bu (Uk 18446744073709551616 [] v (by omega) (by simp;omega))).trans ?_;by_cases h3:(Yt v).length>65536
   ·rw[AkS (by simp;omega),AkS h3]
   ·rw[AkT (by simp;omega),AkT h3];rfl
 ·rw[AkS (by simp[h1]),AkT h1]
variable{k:Nat}
def cmpI(a b:Int):Int:=if a<b then -1 else if b<a then 1 else 0
def cmpB:List UInt8→List UInt8→Int
 |[],[]=>0
 |[],_::_=>-1
 |_::_,[]=>1
 |x::l,y::m=>if x=y then cmpB l m else if x<y then -1 else 1
mutual
def cmpV:AkK→AkK→Int
 |.mk k n b l,w=>if k≠w.Za then cmpI k w.Za else if k=1 then cmpI n w.N else if k=2 then cmpB b w.B else if k=3 then cmpL l w.L else 0
def cmpL:List AkK→List AkK→Int
 |[],[]=>0
 |[],_::_=>-1
 |_::_,[]=>1
 |x::l,y::m=>if cmpV x y≠0 then cmpV x y else cmpL l m
end
theorem cmpV_eq(v w:AkK):cmpV v w=if v.Za≠w.Za then cmpI v.Za w.Za else if v.Za=1 then cmpI v.N w.N else if v.Za=2 then cmpB v.B w.B else if v.Za=3 then cmpL v.L w.L else 0:=by
 cases v with
 |mk k n b l=>rw[cmpV];rfl
theorem Ox{α:Type}[Inhabited α]{l:List α}(h:k<l.length):nth l k=l[k]:=by simp[nth,Ak1,h]
theorem Yi{a b:List UInt8}(ha:k<a.length)(hb:k<b.length):cmpB (a.drop k) (b.drop k)=if nth a k=nth b k then cmpB (a.drop (k+1)) (b.drop (k+1))else if nth a k<nth b k then -1 else 1:=by
 rw[Alv ha,Alv hb,Ox ha,Ox hb,cmpB]
theorem Aai{a b:List UInt8}(hk:k≤a.length)(hk':k≤b.length)(h:¬(k<a.length∧k<b.length)):cmpB (a.drop k) (b.drop k)=cmpI (a.length:Int) (b.length:Int):=by
 unfold cmpI;rcases Nat.lt_trichotomy a.length b.length with hl|hl|hl
 ·have hka:k=a.length:=by omega
  rw[AkS (by omega),hka,Al3,Alv (by omega)];rfl
 ·have hka:k=a.length:=by omega
  rw[AkT (by omega),AkT (by omega),hka,Al3,hl,Al3];rfl
 ·have hkb:k=b.length:=by omega
  rw[AkT (by omega),AkS (by omega),hkb,Al3,Alv (by omega)];rfl
theorem UA{l:List UInt8}{i:Nat}(h:i<l.length):(⟨l.toArray⟩:ByteArray)[i]! = nth l i:=by
 rw[Ox h];have h2:i<(⟨l.toArray⟩:ByteArray).size:=by simpa [ByteArray.size]using h
 rw[getElem!_pos (⟨l.toArray⟩:ByteArray) i h2];show l.toArray[i]=_;simp
theorem Ue(a b:List UInt8):∀(m k:Nat),k+m=min a.length b.length →(match(List.range' k m).find? fun i=>(⟨a.toArray⟩:ByteArray)[i]! != (⟨b.toArray⟩:ByteArray)[i]! with
      |some i=>if(⟨a.toArray⟩:ByteArray)[i]!<(⟨b.toArray⟩:ByteArray)[i]! then -1 else 1
      |none=>if(⟨a.toArray⟩:ByteArray).size<(⟨b.toArray⟩:ByteArray).size then(-1:Int)else if(⟨a.toArray⟩:ByteArray).size>(⟨b.toArray⟩:ByteArray).size then 1 else 0)=cmpB (a.drop k) (b.drop k)
  | 0,k,h=>by
    rw[List.range'_zero,List.find?_nil,Aai (by omega) (by omega) (by omega)];have e:∀l:List UInt8,(⟨l.toArray⟩:ByteArray).size=l.length:=fun l=>by simp[ByteArray.size]
    simp only[e,cmpI,Int.ofNat_lt,AnP]
  | m + 1,k,h=>by
    have ha:k<a.length:=by omega
    have hb:k<b.length:=by omega
    rw[List.range'_succ,AnA,Yi ha hb,UA ha,UA hb];by_cases he:nth a k=nth b k
    · have:(nth a k != nth b k)=false:=by simp[he]
      rw[this,AkS he];exact Ue a b m (k+1) (by omega)
    · have:(nth a k != nth b k)=true:=by simp[he]
      rw[this,AkT he];show(if(⟨a.toArray⟩:ByteArray)[k]!<(⟨b.toArray⟩:ByteArray)[k]! then(-1:Int)else 1)=_;rw[UA ha,UA hb]
theorem Th(a b:List UInt8):L2 a b=cmpB a b:=by
 have h:=Ue a b (min a.length b.length) 0 (by omega);rw[←AlM]at h;unfold L2 Extern.BytealgCompare.cmp;have e:∀l:List UInt8,(⟨l.toArray⟩:ByteArray).size=l.length:=fun l=>by simp[ByteArray.size]
 rw[e,e];rw[e,e]at h;exact h
theorem M1(a b:List UInt8):E0 a b=some (cmpB a b):=by
 unfold E0 Gc LR;rw[Th];rfl
theorem Qy(a b:Int):Dd a b=some (cmpI a b):=by
 unfold Dd Fh cmpI;by_cases h:a<b
 ·simp[h]
 ·by_cases h2:b<a<;>simp[h,h2]
theorem XX{a b:List AkK}(ha:k<a.length)(hb:k<b.length):cmpL (a.drop k) (b.drop k)=if cmpV (nth a k) (nth b k)≠0 then cmpV (nth a k) (nth b k)else cmpL (a.drop (k+1)) (b.drop (k+1)):=by
 rw[Alv ha,Alv hb,Ox ha,Ox hb,cmpL]
theorem TU{a b:List AkK}(hk:k≤a.length)(hk':k≤b.length)(h:¬(k<a.length∧k<b.length)):cmpL (a.drop k) (b.drop k)=cmpI (a.length:Int) (b.length:Int):=by
 unfold cmpI;rcases Nat.lt_trichotomy a.length b.length with hl|hl|hl
 ·have hka:k=a.length:=by omega
  rw[AkS (by omega),hka,Al3,Alv (by omega),cmpL]
 ·have hka:k=a.length:=by omega
  rw[AkT (by omega),AkT (by omega),hka,Al3,hl,Al3,cmpL]
 ·have hkb:k=b.length:=by omega
  rw[AkT (by omega),AkS (by omega),hkb,Al3,Alv (by omega),cmpL]
theorem NV(a b:List AkK)(f:AkK→AkK→Option Int)(hf:∀x∈a,∀y,f x y=some (cmpV x y))(ha:a.length≤9223372036854775807):BU f a b f=some (cmpL a b):=by
 have key:∃x,A2 (fun(v:Int)=>Bh a b f v) 0=some x∧((x=.inl ()∧a.length≤b.length∧cmpL a b=cmpI (a.length:Int) (b.length:Int))∨(x=.inr (.inr (cmpL a b)))):=by
  refine CC (f:=fun(v:Int)=>Bh a b f v) (fun i=>∃k:Nat,i=(k:Int)∧k≤a.length∧k≤b.length∧cmpL a b=cmpL (a.drop k) (b.drop k)) (fun i=>a.length-i.toNat) _ ?_ ⟨0,rfl,by simp,by simp,rfl⟩ (by omega);rintro _ ⟨k,rfl,hka,hkb,he⟩;show _∨_;unfold Bh;by_cases h1:k<a.length
  ·have r1:InR (k:Int) a.length:=⟨by omega,by omega⟩;rw[AkS (by simp;omega),AkS r1];simp only[lt1,Ak5];by_cases h2:k<b.length
   ·have r2:InR (k:Int) b.length:=⟨by omega,by omega⟩;rw[AkT (by simp;omega),AkS r2];rw[J2,J2,hf _ (by rw[Ox h1];exact AlI h1)];rw[XX h1 h2]at he;by_cases hz:cmpV (nth a k) (nth b k)=0
    ·left;rw[AkT (by simpa using hz)]at he;refine⟨_,(Bu rfl).trans ?_,⟨k+1,rfl,by omega,by omega,he⟩,?_⟩
     ·rw[AkT (by simp[hz]),O8 (by omega)]
     ·simp only[Ak5];omega
    ·right;rw[AkS hz]at he;refine⟨_,(Bu rfl).trans ?_,.inr rfl⟩;rw[AkS (by simpa using hz),he];rfl
   ·right;rw[AkS (by simp;omega)];refine⟨_,rfl,.inr ?_⟩;rw[he,TU hka hkb (by omega)];unfold cmpI;rw[AkT (by omega),AkS (by omega)]
  ·right;rw[AkT (by simp;omega)];exact⟨_,rfl,.inl ⟨rfl,by omega,by rw[he];exact TU hka hkb (by omega)⟩⟩
 obtain⟨x,hx,hq⟩:=key;unfold BU;rcases hq with⟨rfl,hl,he⟩|rfl
 ·refine(Bu (a:=.inl ()) ((Bu hx).trans rfl)).trans ?_;rw[he];unfold cmpI;by_cases h:(a.length:Int)<(b.length:Int)
  ·simp[h]
  ·have:¬(b.length:Int)<(a.length:Int):=by omega
   simp[h,this]
 ·exact(Bu (a:=.inr (cmpL a b)) ((Bu hx).trans rfl)).trans rfl
theorem QS:∀(n:Nat) (a b:AkK),szV a<n→szV a≤1099511627776→D4 n a b=some (cmpV a b)
  |0,a,b,h,_=>absurd h (Alr _)
  | n + 1,a,b,h,hs=>by
    show DC (D4 n) a b=_;have hsz:=szV_eq a;have hlen:=P5 a.L;unfold DC;rw[cmpV_eq];refine(Bu (Qy _ _)).trans ?_;by_cases hk:a.Za=b.Za
    · have hz:cmpI a.Za b.Za=0:=by unfold cmpI;simp[hk]
      rw[AkT (show ¬(cmpI a.Za b.Za != 0)=true by simp[hz]),AkT (show ¬(a.Za≠b.Za) by simpa using hk)];by_cases h1:a.Za=1
      · rw[AkS (show(a.Za==1)=true by simp[h1]),AkS h1];exact Bu (Qy _ _)
      · rw[AkT (show ¬(a.Za==1)=true by simp[h1]),AkT h1]
        by_cases h2:a.Za=2
        · rw[AkS (show(a.Za==2)=true by simp[h2]),AkS h2];exact Bu (M1 _ _)
        · rw[AkT (show ¬(a.Za==2)=true by simp[h2]),AkT h2]
          by_cases h3:a.Za=3
          · rw[AkS (show(a.Za==3)=true by simp[h3]),AkS h3]
            exact Bu (NV _ _ _ (fun x hx y=>QS n x y (by have:=Iq hx;omega) (by have:=Iq hx;omega)) (by omega))
          · rw[AkT (show ¬(a.Za==3)=true by simp[h3]),AkT h3]
    · have hz:cmpI a.Za b.Za≠0:=by
        unfold cmpI;rcases Int.lt_trichotomy a.Za b.Za with h|h|h
        · rw[AkS h];decide
        · exact(hk h).elim
        · rw[AkT (by omega),AkS h];decide
      rw[AkS (show(cmpI a.Za b.Za != 0)=true by simpa using hz),AkS (show a.Za≠b.Za from hk)]
theorem compare_eq(a b:AkK)(h:szV a≤100000000000):F8 a b=some (cmpV a b):=QS _ a b (by omega) (by omega)
theorem cmpI_zero{a b:Int}:cmpI a b=0↔a=b:=by
 unfold cmpI;by_cases h:a<b
 ·rw[AkS h];constructor
  ·intro h;cases h
  ·intro h;omega
 ·rw[AkT h];by_cases h2:b<a
  ·rw[AkS h2];constructor
   ·intro h;cases h
   ·intro h;omega
  ·rw[AkT h2];constructor<;>intros<;>omega
end Go.Proofs.YtioapcamanmoiaaDoor.Kc
