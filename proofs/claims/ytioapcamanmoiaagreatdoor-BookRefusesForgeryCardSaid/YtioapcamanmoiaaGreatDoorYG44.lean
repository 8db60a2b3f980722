/-
  Part 44.
-/
import Derived.Test.YtioapcamanmoiaaGreatDoorYG41
import Derived.Test.YtioapcamanmoiaaGreatDoorYG42
import Derived.Test.YtioapcamanmoiaaGreatDoorYG43
import Derived.KernelRfl
namespace Go.Proofs.YtioapcamanmoiaaGreatDoor
open Go.Rv
set_option linter.unusedVariables false
set_option linter.unusedSimpArgs false
set_option maxRecDepth 20000
set_option maxHeartbeats 4000000
theorem Ey{a d e r}(h:B9 a d e=some r):Con B 150 [.ref 0 0,.ref 0 22,i64 d,i64 e] [.box [.sl false (L Ag a.p.Zg1.Ze),.sl false (L Al a.p.Zg1.Zf),.sl false (L Aa a.p.Zh1.Zx),.sl false (L Ae a.p.Zh1.Zy),.sl false (L Ai a.p.Zh1.Zz),.sl false (L Ah a.p.Zh1.Za1),.sl false (L Af a.p.Zi1),.sl false (L Ad a.p.Zj1),.sl false (L Ab a.p.Zk1),i64 a.it.Za,i64 a.it.Ref.Zb,i64 a.it.Ref.No,i64 a.it.Zn1,i64 a.it.Zb1,i64 a.it.Zc,i64 a.it.Zo1,i64 a.it.Zw,i64 a.it.To,i64 a.it.Code,i64 a.it.Zp1,i64 a.it.Zq1,i64 a.it.Zr1,i64 a.it.Zs1,.str a.it.Zt1,.sl false (L Aj a.it.Zu1),.bool a.ok] false] (fun r' σ'=>r'=.tup []∧σ'=[.box [.sl false (L Ag r.p.Zg1.Ze),.sl false (L Al r.p.Zg1.Zf),.sl false (L Aa r.p.Zh1.Zx),.sl false (L Ae r.p.Zh1.Zy),.sl false (L Ai r.p.Zh1.Zz),.sl false (L Ah r.p.Zh1.Za1),.sl false (L Af r.p.Zi1),.sl false (L Ad r.p.Zj1),.sl false (L Ab r.p.Zk1),i64 r.it.Za,i64 r.it.Ref.Zb,i64 r.it.Ref.No,i64 r.it.Zn1,i64 r.it.Zb1,i64 r.it.Zc,i64 r.it.Zo1,i64 r.it.Zw,i64 r.it.To,i64 r.it.Code,i64 r.it.Zp1,i64 r.it.Zq1,i64 r.it.Zr1,i64 r.it.Zs1,.str r.it.Zt1,.sl false (L Aj r.it.Zu1),.bool r.ok] false]):=by
 refine Co 1 31 [] Tryz.func150 (fun F hE=>?_) h;unfold B9;refine Tw [1] (fun f=>⟨Ar 31 [(1,.ref 0 22)],[.box [.sl false (L Ag a.p.Zg1.Ze),.sl false (L Al a.p.Zg1.Zf),.sl false (L Aa a.p.Zh1.Zx),.sl false (L Ae a.p.Zh1.Zy),.sl false (L Ai a.p.Zh1.Zz),.sl false (L Ah a.p.Zh1.Za1),.sl false (L Af a.p.Zi1),.sl false (L Ad a.p.Zj1),.sl false (L Ab a.p.Zk1),i64 a.it.Za,i64 a.it.Ref.Zb,i64 a.it.Ref.No,i64 a.it.Zn1,i64 a.it.Zb1,i64 a.it.Zc,i64 a.it.Zo1,i64 a.it.Zw,i64 a.it.To,i64 a.it.Code,i64 a.it.Zp1,i64 a.it.Zq1,i64 a.it.Zr1,i64 a.it.Zs1,.str a.it.Zt1,.sl false (L Aj a.it.Zu1),.bool f] false]⟩) ?_ ?_
 ·intro _;refine Sp (fun b=>?_) fun b=>?_
  ·refine Sp (fun c=>?_) fun c=>?_
   ·exact Lf Ac (Ew2 b c) (ws [0])
   ·exact Lf Ac (Ew2 b c) (ws [0])
  ·exact Lf Ac (Ew1 b) (ws [0])
 intro f;refine F0 [] ?_;exact Ro [0]
theorem DY{a r}(h:CB a=some r):Con B 149 [.ref 0 0] [.box [.sl false (L Ag a.p.Zg1.Ze),.sl false (L Al a.p.Zg1.Zf),.sl false (L Aa a.p.Zh1.Zx),.sl false (L Ae a.p.Zh1.Zy),.sl false (L Ai a.p.Zh1.Zz),.sl false (L Ah a.p.Zh1.Za1),.sl false (L Af a.p.Zi1),.sl false (L Ad a.p.Zj1),.sl false (L Ab a.p.Zk1),i64 a.it.Za,i64 a.it.Ref.Zb,i64 a.it.Ref.No,i64 a.it.Zn1,i64 a.it.Zb1,i64 a.it.Zc,i64 a.it.Zo1,i64 a.it.Zw,i64 a.it.To,i64 a.it.Code,i64 a.it.Zp1,i64 a.it.Zq1,i64 a.it.Zr1,i64 a.it.Zs1,.str a.it.Zt1,.sl false (L Aj a.it.Zu1),.bool a.ok] false] (fun r' σ'=>r'=.tup []∧σ'=[.box [.sl false (L Ag r.p.Zg1.Ze),.sl false (L Al r.p.Zg1.Zf),.sl false (L Aa r.p.Zh1.Zx),.sl false (L Ae r.p.Zh1.Zy),.sl false (L Ai r.p.Zh1.Zz),.sl false (L Ah r.p.Zh1.Za1),.sl false (L Af r.p.Zi1),.sl false (L Ad r.p.Zj1),.sl false (L Ab r.p.Zk1),i64 r.it.Za,i64 r.it.Ref.Zb,i64 r.it.Ref.No,i64 r.it.Zn1,i64 r.it.Zb1,i64 r.it.Zc,i64 r.it.Zo1,i64 r.it.Zw,i64 r.it.To,i64 r.it.Code,i64 r.it.Zp1,i64 r.it.Zq1,i64 r.it.Zr1,i64 r.it.Zs1,.str r.it.Zt1,.sl false (L Aj r.it.Zu1),.bool r.ok] false]):=by
 refine Co 1 16 [] Tryz.func149 (fun F hE=>?_) h;unfold CB;refine Bd fun c b =>Ge [[],[],[1],[1,2],[1,2,3],[],[5],[5,6],[5,6,7],[5,6,7,8],[5,6,7,8,9],[5,6,7,8,9,10],[5,6,7,8,9,10,11],[0,1,2,3,4,5,6,7,8,9,10,11,12]] [] (As (l:=[]) (m:=[(15,150,[.ref 0 0,.ref 0 12,i64 0,i64 (w64 ((a.p.Zh1.Zy.length:Int)-1))],[.box [.sl false (L Ag a.p.Zg1.Ze),.sl false (L Al a.p.Zg1.Zf),.sl false (L Aa a.p.Zh1.Zx),.sl false (L Ae a.p.Zh1.Zy),.sl false (L Ai a.p.Zh1.Zz),.sl false (L Ah a.p.Zh1.Za1),.sl false (L Af a.p.Zi1),.sl false (L Ad a.p.Zj1),.sl false (L Ab a.p.Zk1),i64 a.it.Za,i64 a.it.Ref.Zb,i64 a.it.Ref.No,i64 a.it.Zn1,i64 a.it.Zb1,i64 a.it.Zc,i64 a.it.Zo1,i64 a.it.Zw,i64 a.it.To,i64 a.it.Code,i64 a.it.Zp1,i64 a.it.Zq1,i64 a.it.Zr1,i64 a.it.Zs1,.str a.it.Zt1,.sl false (L Aj a.it.Zu1),.bool a.ok] false],_,_)]) trivial ⟨(wc (GZ b) [0]),trivial⟩) Ev ?_
 exact Ro [0]
theorem B3{a r}(h:Bw a=some r):Con B 151 [.ref 0 0] [.box [.sl false (L Ag a.p.Zg1.Ze),.sl false (L Al a.p.Zg1.Zf),.sl false (L Aa a.p.Zh1.Zx),.sl false (L Ae a.p.Zh1.Zy),.sl false (L Ai a.p.Zh1.Zz),.sl false (L Ah a.p.Zh1.Za1),.sl false (L Af a.p.Zi1),.sl false (L Ad a.p.Zj1),.sl false (L Ab a.p.Zk1),i64 a.it.Za,i64 a.it.Ref.Zb,i64 a.it.Ref.No,i64 a.it.Zn1,i64 a.it.Zb1,i64 a.it.Zc,i64 a.it.Zo1,i64 a.it.Zw,i64 a.it.To,i64 a.it.Code,i64 a.it.Zp1,i64 a.it.Zq1,i64 a.it.Zr1,i64 a.it.Zs1,.str a.it.Zt1,.sl false (L Aj a.it.Zu1),.bool a.ok] false] (fun r' σ'=>r'=.tup []∧σ'=[.box [.sl false (L Ag r.p.Zg1.Ze),.sl false (L Al r.p.Zg1.Zf),.sl false (L Aa r.p.Zh1.Zx),.sl false (L Ae r.p.Zh1.Zy),.sl false (L Ai r.p.Zh1.Zz),.sl false (L Ah r.p.Zh1.Za1),.sl false (L Af r.p.Zi1),.sl false (L Ad r.p.Zj1),.sl false (L Ab r.p.Zk1),i64 r.it.Za,i64 r.it.Ref.Zb,i64 r.it.Ref.No,i64 r.it.Zn1,i64 r.it.Zb1,i64 r.it.Zc,i64 r.it.Zo1,i64 r.it.Zw,i64 r.it.To,i64 r.it.Code,i64 r.it.Zp1,i64 r.it.Zq1,i64 r.it.Zr1,i64 r.it.Zs1,.str r.it.Zt1,.sl false (L Aj r.it.Zu1),.bool r.ok] false]):=by
 refine Co 1 8 [] Tryz.func151 (fun F hE=>?_) h;unfold Bw;refine Bd fun c b =>Fe [] (As (l:=[]) (m:=[(7,150,[.ref 0 0,.ref 0 16,i64 0,i64 1073741824],[.box [.sl false (L Ag a.p.Zg1.Ze),.sl false (L Al a.p.Zg1.Zf),.sl false (L Aa a.p.Zh1.Zx),.sl false (L Ae a.p.Zh1.Zy),.sl false (L Ai a.p.Zh1.Zz),.sl false (L Ah a.p.Zh1.Za1),.sl false (L Af a.p.Zi1),.sl false (L Ad a.p.Zj1),.sl false (L Ab a.p.Zk1),i64 a.it.Za,i64 a.it.Ref.Zb,i64 a.it.Ref.No,i64 a.it.Zn1,i64 a.it.Zb1,i64 a.it.Zc,i64 a.it.Zo1,i64 a.it.Zw,i64 a.it.To,i64 a.it.Code,i64 a.it.Zp1,i64 a.it.Zq1,i64 a.it.Zr1,i64 a.it.Zs1,.str a.it.Zt1,.sl false (L Aj a.it.Zu1),.bool a.ok] false],_,_)]) trivial ⟨(wc (Hb b) [0]),trivial⟩) Ev ?_
 exact Ro [0]
theorem BD{a c r}(h:Bj a c=some r):Con B 152 [.ref 0 0,i64 c] [.box [.sl false (L Ag a.p.Zg1.Ze),.sl false (L Al a.p.Zg1.Zf),.sl false (L Aa a.p.Zh1.Zx),.sl false (L Ae a.p.Zh1.Zy),.sl false (L Ai a.p.Zh1.Zz),.sl false (L Ah a.p.Zh1.Za1),.sl false (L Af a.p.Zi1),.sl false (L Ad a.p.Zj1),.sl false (L Ab a.p.Zk1),i64 a.it.Za,i64 a.it.Ref.Zb,i64 a.it.Ref.No,i64 a.it.Zn1,i64 a.it.Zb1,i64 a.it.Zc,i64 a.it.Zo1,i64 a.it.Zw,i64 a.it.To,i64 a.it.Code,i64 a.it.Zp1,i64 a.it.Zq1,i64 a.it.Zr1,i64 a.it.Zs1,.str a.it.Zt1,.sl false (L Aj a.it.Zu1),.bool a.ok] false] (fun r' σ'=>r'=.agg [i64 r.1.Za,i64 r.1.Zb,i64 r.1.Zc]∧σ'=[.box [.sl false (L Ag r.2.p.Zg1.Ze),.sl false (L Al r.2.p.Zg1.Zf),.sl false (L Aa r.2.p.Zh1.Zx),.sl false (L Ae r.2.p.Zh1.Zy),.sl false (L Ai r.2.p.Zh1.Zz),.sl false (L Ah r.2.p.Zh1.Za1),.sl false (L Af r.2.p.Zi1),.sl false (L Ad r.2.p.Zj1),.sl false (L Ab r.2.p.Zk1),i64 r.2.it.Za,i64 r.2.it.Ref.Zb,i64 r.2.it.Ref.No,i64 r.2.it.Zn1,i64 r.2.it.Zb1,i64 r.2.it.Zc,i64 r.2.it.Zo1,i64 r.2.it.Zw,i64 r.2.it.To,i64 r.2.it.Code,i64 r.2.it.Zp1,i64 r.2.it.Zq1,i64 r.2.it.Zr1,i64 r.2.it.Zs1,.str r.2.it.Zt1,.sl false (L Aj r.2.it.Zu1),.bool r.2.ok] false]):=by
 refine Co 1 66 [.cell 4 120] Tryz.func152 (fun F hE=>?_) h;unfold Bj;refine T0 [0,1,4] ?_;refine Ja (fun⟨e,f,g⟩=>⟨Ar 66 [(0,.ref 0 0),(1,i64 c),(4,.ref 1 0)],[.box [.sl false (L Ag a.p.Zg1.Ze),.sl false (L Al a.p.Zg1.Zf),.sl false (L Aa a.p.Zh1.Zx),.sl false (L Ae a.p.Zh1.Zy),.sl false (L Ai a.p.Zh1.Zz),.sl false (L Ah a.p.Zh1.Za1),.sl false (L Af a.p.Zi1),.sl false (L Ad a.p.Zj1),.sl false (L Ab a.p.Zk1),i64 a.it.Za,i64 a.it.Ref.Zb,i64 a.it.Ref.No,i64 a.it.Zn1,i64 a.it.Zb1,i64 a.it.Zc,i64 a.it.Zo1,i64 a.it.Zw,i64 a.it.To,i64 a.it.Code,i64 a.it.Zp1,i64 a.it.Zq1,i64 a.it.Zr1,i64 a.it.Zs1,.str a.it.Zt1,.sl false (L Aj a.it.Zu1),.bool a.ok] false,.box [i64 e,i64 f,i64 g] false]⟩) ?_ ?_
 ·intro v;refine Dw [[],[0],[0,1],[0,1,2],[0,1,2,3],[0,1,2,3,4],[0,1,2,3,4,5],[0,1,2,3,4,5,6],[0,1,2,3,4,5,6,7],[0,1,2,3,4,5,6,7,8],[0,1,2,3,4,5,6,7,8,9],[0,1,2,3,4,5,6,7,8,9,10],[0,1,2,3,4,5,6],[0,1,2,3,4,5,6,12],[0,1,2,3,4,5,6,12,13],[0,1,2,3,4,5,6,12,13,14],[0,1,2,3,4,5,6,12,13,14,15],[0,1,2,3,4,5,6,12,13,14,15,16],[0,1,2,3,4,5,6,12,13,14,15,16,17],[0,1,2,3,4,5,6,7,8,9,10,11,12,13,14,15,16,17,18],[0,1,2,3,4,5,6,7,8,9,10,11,12,13,14,15,16,17,18,19]] [0,1,4,25] (fun k=>⟨Ar 66 [(0,.ref 0 0),(1,i64 c),(4,.ref 1 0),(25,.bool k)],[.box [.sl false (L Ag a.p.Zg1.Ze),.sl false (L Al a.p.Zg1.Zf),.sl false (L Aa a.p.Zh1.Zx),.sl false (L Ae a.p.Zh1.Zy),.sl false (L Ai a.p.Zh1.Zz),.sl false (L Ah a.p.Zh1.Za1),.sl false (L Af a.p.Zi1),.sl false (L Ad a.p.Zj1),.sl false (L Ab a.p.Zk1),i64 a.it.Za,i64 a.it.Ref.Zb,i64 a.it.Ref.No,i64 a.it.Zn1,i64 a.it.Zb1,i64 a.it.Zc,i64 a.it.Zo1,i64 a.it.Zw,i64 a.it.To,i64 a.it.Code,i64 a.it.Zp1,i64 a.it.Zq1,i64 a.it.Zr1,i64 a.it.Zs1,.str a.it.Zt1,.sl false (L Aj a.it.Zu1),.bool a.ok] false,.box [i64 0,i64 0,i64 0] false]⟩) ?_ ?_
  ·intro _;refine Sp (fun i=>?_) fun i=>?_
   ·exact Lf Ac (Ew1 i) (ws [0,1])
   ·exact Lf Ac (Ew1 i) (ws [0,1])
  intro k;refine Cd ?_ ?_
  ·refine Ck fun m =>Lt fun n o =>Lt fun q s =>Lt fun t u =>Ge (σ':=[_,.box [i64 n,i64 q,i64 t] false]) [[],[0],[0,1],[0,1,2],[0,1,2,3],[0,1,2,3,4],[],[6],[6,7],[6,7,8],[6,7,8,9],[0,1,2,3,4,5,6,7,8,9,10],[0,1,2,3,4,5,6,7,8,9,10,11],[0,1,2,3,4,5,6,7,8,9,10,11,12]] [0,1,4] Ac (Ew4 (qR m) o s u) ?_
   exact Jm (ws [0,1])
  ·exact Sk <|Jm (ws [0,1])
 rintro⟨e,f,g⟩;refine Tw [0,4] (fun l=>⟨Ar 66 [(0,.ref 0 0),(4,.ref 1 0)],[.box [.sl false (L Ag a.p.Zg1.Ze),.sl false (L Al a.p.Zg1.Zf),.sl false (L Aa a.p.Zh1.Zx),.sl false (L Ae a.p.Zh1.Zy),.sl false (L Ai a.p.Zh1.Zz),.sl false (L Ah a.p.Zh1.Za1),.sl false (L Af a.p.Zi1),.sl false (L Ad a.p.Zj1),.sl false (L Ab a.p.Zk1),i64 a.it.Za,i64 a.it.Ref.Zb,i64 a.it.Ref.No,i64 a.it.Zn1,i64 a.it.Zb1,i64 a.it.Zc,i64 a.it.Zo1,i64 a.it.Zw,i64 a.it.To,i64 a.it.Code,i64 a.it.Zp1,i64 a.it.Zq1,i64 a.it.Zr1,i64 a.it.Zs1,.str a.it.Zt1,.sl false (L Aj a.it.Zu1),.bool l] false,.box [i64 e,i64 f,i64 g] false]⟩) ?_ ?_
 ·intro _;refine Sp (fun b=>?_) fun b=>?_
  ·refine Sp (fun d=>?_) fun d=>?_
   ·refine Sp (fun j=>?_) fun j=>?_
    ·exact Lf Ac (Ew3 b d j) (ws [0,1])
    ·exact Lf Ac (Ew3 b d j) (ws [0,1])
   ·exact Lf Ac (Ew2 b d) (ws [0,1])
  ·exact Lf Ac (Ew1 b) (ws [0,1])
 intro l;refine T0 [4] ?_;refine T0 [4] ?_;exact Sr <|Ro [0]
theorem Eu{a r}(h:CH a=some r):Con B 153 [.ref 0 0] [.box [.sl false (L Ag a.p.Zg1.Ze),.sl false (L Al a.p.Zg1.Zf),.sl false (L Aa a.p.Zh1.Zx),.sl false (L Ae a.p.Zh1.Zy),.sl false (L Ai a.p.Zh1.Zz),.sl false (L Ah a.p.Zh1.Za1),.sl false (L Af a.p.Zi1),.sl false (L Ad a.p.Zj1),.sl false (L Ab a.p.Zk1),i64 a.it.Za,i64 a.it.Ref.Zb,i64 a.it.Ref.No,i64 a.it.Zn1,i64 a.it.Zb1,i64 a.it.Zc,i64 a.it.Zo1,i64 a.it.Zw,i64 a.it.To,i64 a.it.Code,i64 a.it.Zp1,i64 a.it.Zq1,i64 a.it.Zr1,i64 a.it.Zs1,.str a.it.Zt1,.sl false (L Aj a.it.Zu1),.bool a.ok] false] (fun r' σ'=>r'=.tup []∧σ'=[.box [.sl false (L Ag r.p.Zg1.Ze),.sl false (L Al r.p.Zg1.Zf),.sl false (L Aa r.p.Zh1.Zx),.sl false (L Ae r.p.Zh1.Zy),.sl false (L Ai r.p.Zh1.Zz),.sl false (L Ah r.p.Zh1.Za1),.sl false (L Af r.p.Zi1),.sl false (L Ad r.p.Zj1),.sl false (L Ab r.p.Zk1),i64 r.it.Za,i64 r.it.Ref.Zb,i64 r.it.Ref.No,i64 r.it.Zn1,i64 r.it.Zb1,i64 r.it.Zc,i64 r.it.Zo1,i64 r.it.Zw,i64 r.it.To,i64 r.it.Code,i64 r.it.Zp1,i64 r.it.Zq1,i64 r.it.Zr1,i64 r.it.Zs1,.str r.it.Zt1,.sl false (L Aj r.it.Zu1),.bool r.ok] false]):=by
 refine Co 1 16 [] Tryz.func153 (fun F hE=>?_) h;unfold CH;refine Bd fun b c =>De [[],[],[1],[1,2],[1,2,3],[],[5],[5,6],[5,6,7],[5,6,7,8],[5,6,7,8,9],[0,1,2,3,4,5,6,7,8,9,10]] [0] (As (l:=[]) (m:=[(13,150,[.ref 0 0,.ref 0 17,i64 (JT a.it.Zw 0),i64 1073741824],[.box [.sl false (L Ag a.p.Zg1.Ze),.sl false (L Al a.p.Zg1.Zf),.sl false (L Aa a.p.Zh1.Zx),.sl false (L Ae a.p.Zh1.Zy),.sl false (L Ai a.p.Zh1.Zz),.sl false (L Ah a.p.Zh1.Za1),.sl false (L Af a.p.Zi1),.sl false (L Ad a.p.Zj1),.sl false (L Ab a.p.Zk1),i64 a.it.Za,i64 a.it.Ref.Zb,i64 a.it.Ref.No,i64 a.it.Zn1,i64 a.it.Zb1,i64 a.it.Zc,i64 a.it.Zo1,i64 a.it.Zw,i64 a.it.To,i64 a.it.Code,i64 a.it.Zp1,i64 a.it.Zq1,i64 a.it.Zr1,i64 a.it.Zs1,.str a.it.Zt1,.sl false (L Aj a.it.Zu1),.bool a.ok] false],_,_)]) trivial ⟨(wc (Hh c) [0]),trivial⟩) Ev ?_
 refine Bd fun e d =>Fe [] (As (l:=[]) (m:=[(15,151,[.ref 0 0],[.box [.sl false (L Ag b.p.Zg1.Ze),.sl false (L Al b.p.Zg1.Zf),.sl false (L Aa b.p.Zh1.Zx),.sl false (L Ae b.p.Zh1.Zy),.sl false (L Ai b.p.Zh1.Zz),.sl false (L Ah b.p.Zh1.Za1),.sl false (L Af b.p.Zi1),.sl false (L Ad b.p.Zj1),.sl false (L Ab b.p.Zk1),i64 b.it.Za,i64 b.it.Ref.Zb,i64 b.it.Ref.No,i64 b.it.Zn1,i64 b.it.Zb1,i64 b.it.Zc,i64 b.it.Zo1,i64 b.it.Zw,i64 b.it.To,i64 b.it.Code,i64 b.it.Zp1,i64 b.it.Zq1,i64 b.it.Zr1,i64 b.it.Zs1,.str b.it.Zt1,.sl false (L Aj b.it.Zu1),.bool b.ok] false],_,_)]) trivial ⟨(wc (B3 d) [0]),trivial⟩) Ev ?_
 exact Ro [0]
theorem Dk{a r}(h:Cc a=some r):Con B 154 [.ref 0 0] [.box [.sl false (L Ag a.p.Zg1.Ze),.sl false (L Al a.p.Zg1.Zf),.sl false (L Aa a.p.Zh1.Zx),.sl false (L Ae a.p.Zh1.Zy),.sl false (L Ai a.p.Zh1.Zz),.sl false (L Ah a.p.Zh1.Za1),.sl false (L Af a.p.Zi1),.sl false (L Ad a.p.Zj1),.sl false (L Ab a.p.Zk1),i64 a.it.Za,i64 a.it.Ref.Zb,i64 a.it.Ref.No,i64 a.it.Zn1,i64 a.it.Zb1,i64 a.it.Zc,i64 a.it.Zo1,i64 a.it.Zw,i64 a.it.To,i64 a.it.Code,i64 a.it.Zp1,i64 a.it.Zq1,i64 a.it.Zr1,i64 a.it.Zs1,.str a.it.Zt1,.sl false (L Aj a.it.Zu1),.bool a.ok] false] (fun r' σ'=>r'=.tup []∧σ'=[.box [.sl false (L Ag r.p.Zg1.Ze),.sl false (L Al r.p.Zg1.Zf),.sl false (L Aa r.p.Zh1.Zx),.sl false (L Ae r.p.Zh1.Zy),.sl false (L Ai r.p.Zh1.Zz),.sl false (L Ah r.p.Zh1.Za1),.sl false (L Af r.p.Zi1),.sl false (L Ad r.p.Zj1),.sl false (L Ab r.p.Zk1),i64 r.it.Za,i64 r.it.Ref.Zb,i64 r.it.Ref.No,i64 r.it.Zn1,i64 r.it.Zb1,i64 r.it.Zc,i64 r.it.Zo1,i64 r.it.Zw,i64 r.it.To,i64 r.it.Code,i64 r.it.Zp1,i64 r.it.Zq1,i64 r.it.Zr1,i64 r.it.Zs1,.str r.it.Zt1,.sl false (L Aj r.it.Zu1),.bool r.ok] false]):=by
 refine Co 1 15 [] Tryz.func154 (fun F hE=>?_) h;unfold Cc;refine Bd fun c b =>Ge [[],[],[1],[1,2],[1,2,3],[],[5],[5,6],[5,6,7],[5,6,7,8],[5,6,7,8,9],[5,6,7,8,9,10],[0,1,2,3,4,5,6,7,8,9,10,11]] [] (As (l:=[]) (m:=[(14,150,[.ref 0 0,.ref 0 14,i64 0,i64 (w64 ((a.p.Zj1.length:Int)-1))],[.box [.sl false (L Ag a.p.Zg1.Ze),.sl false (L Al a.p.Zg1.Zf),.sl false (L Aa a.p.Zh1.Zx),.sl false (L Ae a.p.Zh1.Zy),.sl false (L Ai a.p.Zh1.Zz),.sl false (L Ah a.p.Zh1.Za1),.sl false (L Af a.p.Zi1),.sl false (L Ad a.p.Zj1),.sl false (L Ab a.p.Zk1),i64 a.it.Za,i64 a.it.Ref.Zb,i64 a.it.Ref.No,i64 a.it.Zn1,i64 a.it.Zb1,i64 a.it.Zc,i64 a.it.Zo1,i64 a.it.Zw,i64 a.it.To,i64 a.it.Code,i64 a.it.Zp1,i64 a.it.Zq1,i64 a.it.Zr1,i64 a.it.Zs1,.str a.it.Zt1,.sl false (L Aj a.it.Zu1),.bool a.ok] false],_,_)]) trivial ⟨(wc (CQ b) [0]),trivial⟩) Ev ?_
 exact Ro [0]
theorem FJ{a r}(h:Dc a=some r):Con B 155 [.ref 0 0] [.box [.sl false (L Ag a.p.Zg1.Ze),.sl false (L Al a.p.Zg1.Zf),.sl false (L Aa a.p.Zh1.Zx),.sl false (L Ae a.p.Zh1.Zy),.sl false (L Ai a.p.Zh1.Zz),.sl false (L Ah a.p.Zh1.Za1),.sl false (L Af a.p.Zi1),.sl false (L Ad a.p.Zj1),.sl false (L Ab a.p.Zk1),i64 a.it.Za,i64 a.it.Ref.Zb,i64 a.it.Ref.No,i64 a.it.Zn1,i64 a.it.Zb1,i64 a.it.Zc,i64 a.it.Zo1,i64 a.it.Zw,i64 a.it.To,i64 a.it.Code,i64 a.it.Zp1,i64 a.it.Zq1,i64 a.it.Zr1,i64 a.it.Zs1,.str a.it.Zt1,.sl false (L Aj a.it.Zu1),.bool a.ok] false] (fun r' σ'=>r'=.tup []∧σ'=[.box [.sl false (L Ag r.p.Zg1.Ze),.sl false (L Al r.p.Zg1.Zf),.sl false (L Aa r.p.Zh1.Zx),.sl false (L Ae r.p.Zh1.Zy),.sl false (L Ai r.p.Zh1.Zz),.sl false (L Ah r.p.Zh1.Za1),.sl false (L Af r.p.Zi1),.sl false (L Ad r.p.Zj1),.sl false (L Ab r.p.Zk1),i64 r.it.Za,i64 r.it.Ref.Zb,i64 r.it.Ref.No,i64 r.it.Zn1,i64 r.it.Zb1,i64 r.it.Zc,i64 r.it.Zo1,i64 r.it.Zw,i64 r.it.To,i64 r.it.Code,i64 r.it.Zp1,i64 r.it.Zq1,i64 r.it.Zr1,i64 r.it.Zs1,.str r.it.Zt1,.sl false (L Aj r.it.Zu1),.bool r.ok] false]):=by
 refine Co 1 8 [] Tryz.func155 (fun F hE=>?_) h;unfold Dc;refine Bd fun c b =>Fe [] (As (l:=[]) (m:=[(7,150,[.ref 0 0,.ref 0 20,i64 0,i64 63],[.box [.sl false (L Ag a.p.Zg1.Ze),.sl false (L Al a.p.Zg1.Zf),.sl false (L Aa a.p.Zh1.Zx),.sl false (L Ae a.p.Zh1.Zy),.sl false (L Ai a.p.Zh1.Zz),.sl false (L Ah a.p.Zh1.Za1),.sl false (L Af a.p.Zi1),.sl false (L Ad a.p.Zj1),.sl false (L Ab a.p.Zk1),i64 a.it.Za,i64 a.it.Ref.Zb,i64 a.it.Ref.No,i64 a.it.Zn1,i64 a.it.Zb1,i64 a.it.Zc,i64 a.it.Zo1,i64 a.it.Zw,i64 a.it.To,i64 a.it.Code,i64 a.it.Zp1,i64 a.it.Zq1,i64 a.it.Zr1,i64 a.it.Zs1,.str a.it.Zt1,.sl false (L Aj a.it.Zu1),.bool a.ok] false],_,_)]) trivial ⟨(wc (GV b) [0]),trivial⟩) Ev ?_
 exact Ro [0]
theorem Hu{b r}(h:C3 b=some r):Con B 130 [.ref 0 0] [.box [.sl false (L Ag b.p.Zg1.Ze),.sl false (L Al b.p.Zg1.Zf),.sl false (L Aa b.p.Zh1.Zx),.sl false (L Ae b.p.Zh1.Zy),.sl false (L Ai b.p.Zh1.Zz),.sl false (L Ah b.p.Zh1.Za1),.sl false (L Af b.p.Zi1),.sl false (L Ad b.p.Zj1),.sl false (L Ab b.p.Zk1),i64 b.it.Za,i64 b.it.Ref.Zb,i64 b.it.Ref.No,i64 b.it.Zn1,i64 b.it.Zb1,i64 b.it.Zc,i64 b.it.Zo1,i64 b.it.Zw,i64 b.it.To,i64 b.it.Code,i64 b.it.Zp1,i64 b.it.Zq1,i64 b.it.Zr1,i64 b.it.Zs1,.str b.it.Zt1,.sl false (L Aj b.it.Zu1),.bool b.ok] false] (fun r' σ'=>r'=.tup []∧σ'=[.box [.sl false (L Ag r.p.Zg1.Ze),.sl false (L Al r.p.Zg1.Zf),.sl false (L Aa r.p.Zh1.Zx),.sl false (L Ae r.p.Zh1.Zy),.sl false (L Ai r.p.Zh1.Zz),.sl false (L Ah r.p.Zh1.Za1),.sl false (L Af r.p.Zi1),.sl false (L Ad r.p.Zj1),.sl false (L Ab r.p.Zk1),i64 r.it.Za,i64 r.it.Ref.Zb,i64 r.it.Ref.No,i64 r.it.Zn1,i64 r.it.Zb1,i64 r.it.Zc,i64 r.it.Zo1,i64 r.it.Zw,i64 r.it.To,i64 r.it.Code,i64 r.it.Zp1,i64 r.it.Zq1,i64 r.it.Zr1,i64 r.it.Zs1,.str r.it.Zt1,.sl false (L Aj r.it.Zu1),.bool r.ok] false]):=by
 refine Co 1 135 [] Tryz.func130 (fun F hE=>?_) h;unfold C3;refine T0 [0,2] ?_;refine Sq <|T0 [0,2,11] ?_
 refine Cd ?_ ?_
 ·refine T0 [] ?_;exact Sr <|Tr <|Ro [0]
 ·refine Sk <|Tn <|Bd fun a z =>Te [0,2] (As (l:=[]) (m:=[(16,149,[.ref 0 0],[.box [.sl false (L Ag b.p.Zg1.Ze),.sl false (L Al b.p.Zg1.Zf),.sl false (L Aa b.p.Zh1.Zx),.sl false (L Ae b.p.Zh1.Zy),.sl false (L Ai b.p.Zh1.Zz),.sl false (L Ah b.p.Zh1.Za1),.sl false (L Af b.p.Zi1),.sl false (L Ad b.p.Zj1),.sl false (L Ab b.p.Zk1),i64 b.it.Za,i64 b.it.Ref.Zb,i64 b.it.Ref.No,i64 b.it.Zn1,i64 b.it.Zb1,i64 b.it.Zc,i64 b.it.Zo1,i64 b.it.Zw,i64 b.it.To,i64 b.it.Code,i64 b.it.Zp1,i64 b.it.Zq1,i64 b.it.Zr1,i64 b.it.Zs1,.str b.it.Zt1,.sl false (L Aj b.it.Zu1),.bool b.ok] false],_,_)]) trivial ⟨(wc (DY z) [0]),trivial⟩) Ev ?_
  refine T0 [0,2,20] ?_;refine Sb <|T0 [0,2,20,21] ?_
  refine Cd ?_ ?_
  ·refine Bd fun e aa =>De [[],[],[1],[1,2],[],[4],[4,5],[4,5,6],[4,5,6,7],[4,5,6,7,8],[4,5,6,7,8,9],[0,1,2,3,4,5,6,7,8,9,10]] [0] (As (l:=[]) (m:=[(34,150,[.ref 0 0,.ref 0 14,i64 0,i64 (w64 ((a.p.Zi1.length:Int)-1))],[.box [.sl false (L Ag a.p.Zg1.Ze),.sl false (L Al a.p.Zg1.Zf),.sl false (L Aa a.p.Zh1.Zx),.sl false (L Ae a.p.Zh1.Zy),.sl false (L Ai a.p.Zh1.Zz),.sl false (L Ah a.p.Zh1.Za1),.sl false (L Af a.p.Zi1),.sl false (L Ad a.p.Zj1),.sl false (L Ab a.p.Zk1),i64 a.it.Za,i64 a.it.Ref.Zb,i64 a.it.Ref.No,i64 a.it.Zn1,i64 a.it.Zb1,i64 a.it.Zc,i64 a.it.Zo1,i64 a.it.Zw,i64 a.it.To,i64 a.it.Code,i64 a.it.Zp1,i64 a.it.Zq1,i64 a.it.Zr1,i64 a.it.Zs1,.str a.it.Zt1,.sl false (L Aj a.it.Zu1),.bool a.ok] false],_,_)]) trivial ⟨(wc (CQ aa) [0]),trivial⟩) Ev ?_
   refine Bd fun au ab =>Fe [] (As (l:=[]) (m:=[(36,151,[.ref 0 0],[.box [.sl false (L Ag e.p.Zg1.Ze),.sl false (L Al e.p.Zg1.Zf),.sl false (L Aa e.p.Zh1.Zx),.sl false (L Ae e.p.Zh1.Zy),.sl false (L Ai e.p.Zh1.Zz),.sl false (L Ah e.p.Zh1.Za1),.sl false (L Af e.p.Zi1),.sl false (L Ad e.p.Zj1),.sl false (L Ab e.p.Zk1),i64 e.it.Za,i64 e.it.Ref.Zb,i64 e.it.Ref.No,i64 e.it.Zn1,i64 e.it.Zb1,i64 e.it.Zc,i64 e.it.Zo1,i64 e.it.Zw,i64 e.it.To,i64 e.it.Code,i64 e.it.Zp1,i64 e.it.Zq1,i64 e.it.Zr1,i64 e.it.Zs1,.str e.it.Zt1,.sl false (L Aj e.it.Zu1),.bool e.ok] false],_,_)]) trivial ⟨(wc (B3 ab) [0]),trivial⟩) Ev ?_
   exact Bn <|Ro [0]
  ·refine T0 [0,2,20,37] ?_;refine Cd ?_ ?_
   ·refine Bd fun f ac =>Te [0] (As (l:=[]) (m:=[(40,152,[.ref 0 0,i64 0],[.box [.sl false (L Ag a.p.Zg1.Ze),.sl false (L Al a.p.Zg1.Zf),.sl false (L Aa a.p.Zh1.Zx),.sl false (L Ae a.p.Zh1.Zy),.sl false (L Ai a.p.Zh1.Zz),.sl false (L Ah a.p.Zh1.Za1),.sl false (L Af a.p.Zi1),.sl false (L Ad a.p.Zj1),.sl false (L Ab a.p.Zk1),i64 a.it.Za,i64 a.it.Ref.Zb,i64 a.it.Ref.No,i64 a.it.Zn1,i64 a.it.Zb1,i64 a.it.Zc,i64 a.it.Zo1,i64 a.it.Zw,i64 a.it.To,i64 a.it.Code,i64 a.it.Zp1,i64 a.it.Zq1,i64 a.it.Zr1,i64 a.it.Zs1,.str a.it.Zt1,.sl false (L Aj a.it.Zu1),.bool a.ok] false],_,_)]) trivial ⟨(wc (BD ac) [0]),trivial⟩) Ev ?_
    refine Bd fun av ad =>Fe [] (As (l:=[]) (m:=[(42,153,[.ref 0 0],[.box [.sl false (L Ag f.2.p.Zg1.Ze),.sl false (L Al f.2.p.Zg1.Zf),.sl false (L Aa f.2.p.Zh1.Zx),.sl false (L Ae f.2.p.Zh1.Zy),.sl false (L Ai f.2.p.Zh1.Zz),.sl false (L Ah f.2.p.Zh1.Za1),.sl false (L Af f.2.p.Zi1),.sl false (L Ad f.2.p.Zj1),.sl false (L Ab f.2.p.Zk1),i64 f.2.it.Za,i64 f.2.it.Ref.Zb,i64 f.2.it.Ref.No,i64 f.2.it.Zn1,i64 f.2.it.Zb1,i64 f.2.it.Zc,i64 f.2.it.Zo1,i64 f.2.it.Zw,i64 f.2.it.To,i64 f.2.it.Code,i64 f.2.it.Zp1,i64 f.2.it.Zq1,i64 f.2.it.Zr1,i64 f.2.it.Zs1,.str f.2.it.Zt1,.sl false (L Aj f.2.it.Zu1),.bool f.2.ok] false],_,_)]) trivial ⟨(wc (Eu ad) [0]),trivial⟩) Ev ?_
    exact Bn <|Ro [0]
   ·refine Ja (fun x=>⟨Ar 135 [(0,.ref 0 0),(2,.ref 0 9),(20,i64 a.it.Za),(43,.bool x)],[.box [.sl false (L Ag a.p.Zg1.Ze),.sl false (L Al a.p.Zg1.Zf),.sl false (L Aa a.p.Zh1.Zx),.sl false (L Ae a.p.Zh1.Zy),.sl false (L Ai a.p.Zh1.Zz),.sl false (L Ah a.p.Zh1.Za1),.sl false (L Af a.p.Zi1),.sl false (L Ad a.p.Zj1),.sl false (L Ab a.p.Zk1),i64 a.it.Za,i64 a.it.Ref.Zb,i64 a.it.Ref.No,i64 a.it.Zn1,i64 a.it.Zb1,i64 a.it.Zc,i64 a.it.Zo1,i64 a.it.Zw,i64 a.it.To,i64 a.it.Code,i64 a.it.Zp1,i64 a.it.Zq1,i64 a.it.Zr1,i64 a.it.Zs1,.str a.it.Zt1,.sl false (L Aj a.it.Zu1),.bool a.ok] false]⟩) ?_ ?_
    ·intro aw;refine T0 [0,2,20,43] ?_;refine Cd ?_ ?_
     ·exact Sk <|Jm (ws [0])
     ·refine F0 [0,2,20,43] ?_;exact Jm (ws [0])
    intro x;refine Cd ?_ ?_
    ·refine Bd fun c ae =>Te [0,2,3] (As (l:=[]) (m:=[(47,152,[.ref 0 0,i64 3],[.box [.sl false (L Ag a.p.Zg1.Ze),.sl false (L Al a.p.Zg1.Zf),.sl false (L Aa a.p.Zh1.Zx),.sl false (L Ae a.p.Zh1.Zy),.sl false (L Ai a.p.Zh1.Zz),.sl false (L Ah a.p.Zh1.Za1),.sl false (L Af a.p.Zi1),.sl false (L Ad a.p.Zj1),.sl false (L Ab a.p.Zk1),i64 a.it.Za,i64 a.it.Ref.Zb,i64 a.it.Ref.No,i64 a.it.Zn1,i64 a.it.Zb1,i64 a.it.Zc,i64 a.it.Zo1,i64 a.it.Zw,i64 a.it.To,i64 a.it.Code,i64 a.it.Zp1,i64 a.it.Zq1,i64 a.it.Zr1,i64 a.it.Zs1,.str a.it.Zt1,.sl false (L Aj a.it.Zu1),.bool a.ok] false],_,_)]) trivial ⟨(wc (BD ae) [0]),trivial⟩) Ev ?_
     refine Dw [[],[],[1],[1,2],[1,2,3],[1,2,3,4],[1,2,3,4,5],[1,2,3,4,5,6],[1,2,3,4,5,6,7],[1,2,3,4,5,6,7,8],[1,2,3,4,5],[1,2,3,4,5,10],[1,2,3,4,5,6,7,8,9,10,11],[1,2,3,4,5,6,7,8,9,10,11,12],[1,2,3,4,5,6,7,8,9,10,11,12,13],[1,2,3,4,5,6,7,8,9,10,11,12,13,14],[1,2,3,4,5,6,7,8,9,10,11,12,13,14,15],[1,2,3,4,5,6,7,8,9,10,11,12,13,14,15,16],[1,2,3,4,5,6,7,8,9,10,11,12,13],[1,2,3,4,5,6,7,8,9,10,11,12,13,18],[1,2,3,4,5,6,7,8,9,10,11,12,13,14,15,16,17,18,19],[1,2,3,4,5,6,7,8,9,10,11,12,13,14,15,16,17,18,19,20],[1,2,3,4,5,6,7,8,9,10,11,12,13,14,15,16,17,18,19,20,21],[0,1,2,3,4,5,6,7,8,9,10,11,12,13,14,15,16,17,18,19,20,21,22],[0,1,2,3,4,5,6,7,8,9,10,11,12,13,14,15,16,17,18,19,20,21,22,23],[0,1,2,3,4,5,6,7,8,9,10,11,12,13,14,15,16,17,18,19,20,21,22,23,24]] [0,2] (fun v=>⟨Ar 135 [(0,.ref 0 0),(2,.ref 0 9)],[.box [.sl false (L Ag c.2.p.Zg1.Ze),.sl false (L Al c.2.p.Zg1.Zf),.sl false (L Aa c.2.p.Zh1.Zx),.sl false (L Ae c.2.p.Zh1.Zy),.sl false (L Ai c.2.p.Zh1.Zz),.sl false (L Ah c.2.p.Zh1.Za1),.sl false (L Af c.2.p.Zi1),.sl false (L Ad c.2.p.Zj1),.sl false (L Ab c.2.p.Zk1),i64 c.2.it.Za,i64 c.2.it.Ref.Zb,i64 c.2.it.Ref.No,i64 c.2.it.Zn1,i64 c.2.it.Zb1,i64 c.2.it.Zc,i64 c.2.it.Zo1,i64 c.2.it.Zw,i64 c.2.it.To,i64 c.2.it.Code,i64 c.2.it.Zp1,i64 c.2.it.Zq1,i64 c.2.it.Zr1,i64 c.2.it.Zs1,.str c.2.it.Zt1,.sl false (L Aj c.2.it.Zu1),.bool v] false]⟩) ?_ ?_
     ·intro _;refine Sp (fun u=>?_) fun u=>?_
      ·refine Sp (fun w=>?_) fun w=>?_
       ·exact Lf Ac (Ew2 u w) (ws [0])
       ·exact Lf Ac (Ew2 u w) (ws [0])
      ·exact Lf Ac (Ew1 u) (ws [0])
     intro v;refine T0 [0,2] ?_;refine Bd fun g af =>Te [0,2] (As (l:=[]) (m:=[(77,151,[.ref 0 0],[.box [.sl false (L Ag c.2.p.Zg1.Ze),.sl false (L Al c.2.p.Zg1.Zf),.sl false (L Aa c.2.p.Zh1.Zx),.sl false (L Ae c.2.p.Zh1.Zy),.sl false (L Ai c.2.p.Zh1.Zz),.sl false (L Ah c.2.p.Zh1.Za1),.sl false (L Af c.2.p.Zi1),.sl false (L Ad c.2.p.Zj1),.sl false (L Ab c.2.p.Zk1),i64 c.2.it.Za,i64 c.2.it.Ref.Zb,i64 c.2.it.Ref.No,i64 c.2.it.Zn1,i64 c.2.it.Zb1,i64 0,i64 c.2.it.Zo1,i64 c.2.it.Zw,i64 c.2.it.To,i64 c.2.it.Code,i64 c.2.it.Zp1,i64 c.2.it.Zq1,i64 c.2.it.Zr1,i64 c.2.it.Zs1,.str c.2.it.Zt1,.sl false (L Aj c.2.it.Zu1),.bool v] false],_,_)]) trivial ⟨(wc (B3 af) [0]),trivial⟩) Ev ?_
     refine Bd fun ax ag =>Fe [] (As (l:=[]) (m:=[(82,150,[.ref 0 0,.ref 0 18,i64 0,i64 8],[.box [.sl false (L Ag g.p.Zg1.Ze),.sl false (L Al g.p.Zg1.Zf),.sl false (L Aa g.p.Zh1.Zx),.sl false (L Ae g.p.Zh1.Zy),.sl false (L Ai g.p.Zh1.Zz),.sl false (L Ah g.p.Zh1.Za1),.sl false (L Af g.p.Zi1),.sl false (L Ad g.p.Zj1),.sl false (L Ab g.p.Zk1),i64 g.it.Za,i64 g.it.Ref.Zb,i64 g.it.Ref.No,i64 g.it.Zn1,i64 g.it.Zb1,i64 g.it.Zc,i64 g.it.Zo1,i64 g.it.Zw,i64 g.it.To,i64 g.it.Code,i64 g.it.Zp1,i64 g.it.Zq1,i64 g.it.Zr1,i64 g.it.Zs1,.str g.it.Zt1,.sl false (L Aj g.it.Zu1),.bool g.ok] false],_,_)]) trivial ⟨(wc (Ce ag) [0]),trivial⟩) Ev ?_
     exact Bn <|Ro [0]
    ·refine T0 [0,2,20,83] ?_;refine Cd ?_ ?_
     ·refine Bd fun i ah =>Te [0,2] (As (l:=[]) (m:=[(89,150,[.ref 0 0,.ref 0 15,i64 1,i64 1000000000],[.box [.sl false (L Ag a.p.Zg1.Ze),.sl false (L Al a.p.Zg1.Zf),.sl false (L Aa a.p.Zh1.Zx),.sl false (L Ae a.p.Zh1.Zy),.sl false (L Ai a.p.Zh1.Zz),.sl false (L Ah a.p.Zh1.Za1),.sl false (L Af a.p.Zi1),.sl false (L Ad a.p.Zj1),.sl false (L Ab a.p.Zk1),i64 a.it.Za,i64 a.it.Ref.Zb,i64 a.it.Ref.No,i64 a.it.Zn1,i64 a.it.Zb1,i64 a.it.Zc,i64 a.it.Zo1,i64 a.it.Zw,i64 a.it.To,i64 a.it.Code,i64 a.it.Zp1,i64 a.it.Zq1,i64 a.it.Zr1,i64 a.it.Zs1,.str a.it.Zt1,.sl false (L Aj a.it.Zu1),.bool a.ok] false],_,_)]) trivial ⟨(wc (CU ah) [0]),trivial⟩) Ev ?_
      refine Bd fun j ai =>Te [0,2] (As (l:=[]) (m:=[(91,154,[.ref 0 0],[.box [.sl false (L Ag i.p.Zg1.Ze),.sl false (L Al i.p.Zg1.Zf),.sl false (L Aa i.p.Zh1.Zx),.sl false (L Ae i.p.Zh1.Zy),.sl false (L Ai i.p.Zh1.Zz),.sl false (L Ah i.p.Zh1.Za1),.sl false (L Af i.p.Zi1),.sl false (L Ad i.p.Zj1),.sl false (L Ab i.p.Zk1),i64 i.it.Za,i64 i.it.Ref.Zb,i64 i.it.Ref.No,i64 i.it.Zn1,i64 i.it.Zb1,i64 i.it.Zc,i64 i.it.Zo1,i64 i.it.Zw,i64 i.it.To,i64 i.it.Code,i64 i.it.Zp1,i64 i.it.Zq1,i64 i.it.Zr1,i64 i.it.Zs1,.str i.it.Zt1,.sl false (L Aj i.it.Zu1),.bool i.ok] false],_,_)]) trivial ⟨(wc (Dk ai) [0]),trivial⟩) Ev ?_
      refine Bd fun d aj =>Te [0,2] (As (l:=[]) (m:=[(93,152,[.ref 0 0,i64 0],[.box [.sl false (L Ag j.p.Zg1.Ze),.sl false (L Al j.p.Zg1.Zf),.sl false (L Aa j.p.Zh1.Zx),.sl false (L Ae j.p.Zh1.Zy),.sl false (L Ai j.p.Zh1.Zz),.sl false (L Ah j.p.Zh1.Za1),.sl false (L Af j.p.Zi1),.sl false (L Ad j.p.Zj1),.sl false (L Ab j.p.Zk1),i64 j.it.Za,i64 j.it.Ref.Zb,i64 j.it.Ref.No,i64 j.it.Zn1,i64 j.it.Zb1,i64 j.it.Zc,i64 j.it.Zo1,i64 j.it.Zw,i64 j.it.To,i64 j.it.Code,i64 j.it.Zp1,i64 j.it.Zq1,i64 j.it.Zr1,i64 j.it.Zs1,.str j.it.Zt1,.sl false (L Aj j.it.Zu1),.bool j.ok] false],_,_)]) trivial ⟨(wc (BD aj) [0]),trivial⟩) Ev ?_
      refine Bd fun k ak =>De [[],[],[1],[1,2],[],[4],[4,5],[4,5,6],[4,5,6,7],[4,5,6,7,8],[4,5,6,7,8,9],[4,5,6,7,8,9,10],[0,1,2,3,4,5,6,7,8,9,10,11]] [0,2] (As (l:=[]) (m:=[(106,150,[.ref 0 0,.ref 0 19,i64 0,i64 (w64 ((d.2.p.Zg1.Ze.length:Int)-1))],[.box [.sl false (L Ag d.2.p.Zg1.Ze),.sl false (L Al d.2.p.Zg1.Zf),.sl false (L Aa d.2.p.Zh1.Zx),.sl false (L Ae d.2.p.Zh1.Zy),.sl false (L Ai d.2.p.Zh1.Zz),.sl false (L Ah d.2.p.Zh1.Za1),.sl false (L Af d.2.p.Zi1),.sl false (L Ad d.2.p.Zj1),.sl false (L Ab d.2.p.Zk1),i64 d.2.it.Za,i64 d.2.it.Ref.Zb,i64 d.2.it.Ref.No,i64 d.2.it.Zn1,i64 d.2.it.Zb1,i64 d.2.it.Zc,i64 d.2.it.Zo1,i64 d.2.it.Zw,i64 d.2.it.To,i64 d.2.it.Code,i64 d.2.it.Zp1,i64 d.2.it.Zq1,i64 d.2.it.Zr1,i64 d.2.it.Zs1,.str d.2.it.Zt1,.sl false (L Aj d.2.it.Zu1),.bool d.2.ok] false],_,_)]) trivial ⟨(wc (GX ak) [0]),trivial⟩) Ev ?_
      refine Bd fun n al =>Te [0,2] (As (l:=[]) (m:=[(108,155,[.ref 0 0],[.box [.sl false (L Ag k.p.Zg1.Ze),.sl false (L Al k.p.Zg1.Zf),.sl false (L Aa k.p.Zh1.Zx),.sl false (L Ae k.p.Zh1.Zy),.sl false (L Ai k.p.Zh1.Zz),.sl false (L Ah k.p.Zh1.Za1),.sl false (L Af k.p.Zi1),.sl false (L Ad k.p.Zj1),.sl false (L Ab k.p.Zk1),i64 k.it.Za,i64 k.it.Ref.Zb,i64 k.it.Ref.No,i64 k.it.Zn1,i64 k.it.Zb1,i64 k.it.Zc,i64 k.it.Zo1,i64 k.it.Zw,i64 k.it.To,i64 k.it.Code,i64 k.it.Zp1,i64 k.it.Zq1,i64 k.it.Zr1,i64 k.it.Zs1,.str k.it.Zt1,.sl false (L Aj k.it.Zu1),.bool k.ok] false],_,_)]) trivial ⟨(wc (FJ al) [0]),trivial⟩) Ev ?_
      refine Bd fun o am =>Te [0] (As (l:=[]) (m:=[(113,150,[.ref 0 0,.ref 0 21,i64 0,i64 1000000],[.box [.sl false (L Ag n.p.Zg1.Ze),.sl false (L Al n.p.Zg1.Zf),.sl false (L Aa n.p.Zh1.Zx),.sl false (L Ae n.p.Zh1.Zy),.sl false (L Ai n.p.Zh1.Zz),.sl false (L Ah n.p.Zh1.Za1),.sl false (L Af n.p.Zi1),.sl false (L Ad n.p.Zj1),.sl false (L Ab n.p.Zk1),i64 n.it.Za,i64 n.it.Ref.Zb,i64 n.it.Ref.No,i64 n.it.Zn1,i64 n.it.Zb1,i64 n.it.Zc,i64 n.it.Zo1,i64 n.it.Zw,i64 n.it.To,i64 n.it.Code,i64 n.it.Zp1,i64 n.it.Zq1,i64 n.it.Zr1,i64 n.it.Zs1,.str n.it.Zt1,.sl false (L Aj n.it.Zu1),.bool n.ok] false],_,_)]) trivial ⟨(wc (Ex am) [0]),trivial⟩) Ev ?_
      refine Bd fun ay an =>Fe [] (As (l:=[]) (m:=[(115,151,[.ref 0 0],[.box [.sl false (L Ag o.p.Zg1.Ze),.sl false (L Al o.p.Zg1.Zf),.sl false (L Aa o.p.Zh1.Zx),.sl false (L Ae o.p.Zh1.Zy),.sl false (L Ai o.p.Zh1.Zz),.sl false (L Ah o.p.Zh1.Za1),.sl false (L Af o.p.Zi1),.sl false (L Ad o.p.Zj1),.sl false (L Ab o.p.Zk1),i64 o.it.Za,i64 o.it.Ref.Zb,i64 o.it.Ref.No,i64 o.it.Zn1,i64 o.it.Zb1,i64 o.it.Zc,i64 o.it.Zo1,i64 o.it.Zw,i64 o.it.To,i64 o.it.Code,i64 o.it.Zp1,i64 o.it.Zq1,i64 o.it.Zr1,i64 o.it.Zs1,.str o.it.Zt1,.sl false (L Aj o.it.Zu1),.bool o.ok] false],_,_)]) trivial ⟨(wc (B3 an) [0]),trivial⟩) Ev ?_
      exact Bn <|Ro [0]
     ·refine Ja (fun y=>⟨Ar 135 [(0,.ref 0 0),(2,.ref 0 9),(116,.bool y)],[.box [.sl false (L Ag a.p.Zg1.Ze),.sl false (L Al a.p.Zg1.Zf),.sl false (L Aa a.p.Zh1.Zx),.sl false (L Ae a.p.Zh1.Zy),.sl false (L Ai a.p.Zh1.Zz),.sl false (L Ah a.p.Zh1.Za1),.sl false (L Af a.p.Zi1),.sl false (L Ad a.p.Zj1),.sl false (L Ab a.p.Zk1),i64 a.it.Za,i64 a.it.Ref.Zb,i64 a.it.Ref.No,i64 a.it.Zn1,i64 a.it.Zb1,i64 a.it.Zc,i64 a.it.Zo1,i64 a.it.Zw,i64 a.it.To,i64 a.it.Code,i64 a.it.Zp1,i64 a.it.Zq1,i64 a.it.Zr1,i64 a.it.Zs1,.str a.it.Zt1,.sl false (L Aj a.it.Zu1),.bool a.ok] false]⟩) ?_ ?_
      ·intro az;refine T0 [0,2,20,116] ?_;refine Cd ?_ ?_
       ·exact Sk <|Jm (ws [0])
       ·refine F0 [0,2,116] ?_;exact Jm (ws [0])
      intro y;refine Cd ?_ ?_
      ·refine Bd fun q ao =>Te [0,2] (As (l:=[]) (m:=[(120,152,[.ref 0 0,i64 0],[.box [.sl false (L Ag a.p.Zg1.Ze),.sl false (L Al a.p.Zg1.Zf),.sl false (L Aa a.p.Zh1.Zx),.sl false (L Ae a.p.Zh1.Zy),.sl false (L Ai a.p.Zh1.Zz),.sl false (L Ah a.p.Zh1.Za1),.sl false (L Af a.p.Zi1),.sl false (L Ad a.p.Zj1),.sl false (L Ab a.p.Zk1),i64 a.it.Za,i64 a.it.Ref.Zb,i64 a.it.Ref.No,i64 a.it.Zn1,i64 a.it.Zb1,i64 a.it.Zc,i64 a.it.Zo1,i64 a.it.Zw,i64 a.it.To,i64 a.it.Code,i64 a.it.Zp1,i64 a.it.Zq1,i64 a.it.Zr1,i64 a.it.Zs1,.str a.it.Zt1,.sl false (L Aj a.it.Zu1),.bool a.ok] false],_,_)]) trivial ⟨(wc (BD ao) [0]),trivial⟩) Ev ?_
       refine Bd fun s ap =>Te [0,2] (As (l:=[]) (m:=[(122,154,[.ref 0 0],[.box [.sl false (L Ag q.2.p.Zg1.Ze),.sl false (L Al q.2.p.Zg1.Zf),.sl false (L Aa q.2.p.Zh1.Zx),.sl false (L Ae q.2.p.Zh1.Zy),.sl false (L Ai q.2.p.Zh1.Zz),.sl false (L Ah q.2.p.Zh1.Za1),.sl false (L Af q.2.p.Zi1),.sl false (L Ad q.2.p.Zj1),.sl false (L Ab q.2.p.Zk1),i64 q.2.it.Za,i64 q.2.it.Ref.Zb,i64 q.2.it.Ref.No,i64 q.2.it.Zn1,i64 q.2.it.Zb1,i64 q.2.it.Zc,i64 q.2.it.Zo1,i64 q.2.it.Zw,i64 q.2.it.To,i64 q.2.it.Code,i64 q.2.it.Zp1,i64 q.2.it.Zq1,i64 q.2.it.Zr1,i64 q.2.it.Zs1,.str q.2.it.Zt1,.sl false (L Aj q.2.it.Zu1),.bool q.2.ok] false],_,_)]) trivial ⟨(wc (Dk ap) [0]),trivial⟩) Ev ?_
       refine Bd fun t aq =>Te [0,2] (As (l:=[]) (m:=[(124,151,[.ref 0 0],[.box [.sl false (L Ag s.p.Zg1.Ze),.sl false (L Al s.p.Zg1.Zf),.sl false (L Aa s.p.Zh1.Zx),.sl false (L Ae s.p.Zh1.Zy),.sl false (L Ai s.p.Zh1.Zz),.sl false (L Ah s.p.Zh1.Za1),.sl false (L Af s.p.Zi1),.sl false (L Ad s.p.Zj1),.sl false (L Ab s.p.Zk1),i64 s.it.Za,i64 s.it.Ref.Zb,i64 s.it.Ref.No,i64 s.it.Zn1,i64 s.it.Zb1,i64 s.it.Zc,i64 s.it.Zo1,i64 s.it.Zw,i64 s.it.To,i64 s.it.Code,i64 s.it.Zp1,i64 s.it.Zq1,i64 s.it.Zr1,i64 s.it.Zs1,.str s.it.Zt1,.sl false (L Aj s.it.Zu1),.bool s.ok] false],_,_)]) trivial ⟨(wc (B3 aq) [0]),trivial⟩) Ev ?_
       refine T0 [0,2,129] ?_;refine Cd ?_ ?_
       ·refine Bd fun aA ar =>Fe [] (As (l:=[]) (m:=[(134,150,[.ref 0 0,.ref 0 18,i64 0,i64 1],[.box [.sl false (L Ag t.p.Zg1.Ze),.sl false (L Al t.p.Zg1.Zf),.sl false (L Aa t.p.Zh1.Zx),.sl false (L Ae t.p.Zh1.Zy),.sl false (L Ai t.p.Zh1.Zz),.sl false (L Ah t.p.Zh1.Za1),.sl false (L Af t.p.Zi1),.sl false (L Ad t.p.Zj1),.sl false (L Ab t.p.Zk1),i64 t.it.Za,i64 t.it.Ref.Zb,i64 t.it.Ref.No,i64 t.it.Zn1,i64 t.it.Zb1,i64 t.it.Zc,i64 t.it.Zo1,i64 t.it.Zw,i64 t.it.To,i64 t.it.Code,i64 t.it.Zp1,i64 t.it.Zq1,i64 t.it.Zr1,i64 t.it.Zs1,.str t.it.Zt1,.sl false (L Aj t.it.Zu1),.bool t.ok] false],_,_)]) trivial ⟨(wc (Ce ar) [0]),trivial⟩) Ev ?_
        exact Bn <|Ro [0]
       ·exact Sk <|Bn <|Ro [0]
      ·exact Sk <|Bn <|Ro [0]
theorem Kj{a g r}(h:H0 a g=some r):Con B 156 [.sl false (L Aj a),.bool g] [] (fun r' σ'=>r'=.bool r∧σ'=[]):=by
 refine Cw 43 [.tmp 4] Tryz.func156 (fun F hE=>?_) h;unfold H0;refine T0 [0,1] ?_;refine Jo (fun _=>⟨Ar 43 [(0,.sl false (L Aj a))],[]⟩) ?_ ?_
 ·intro w m;refine T0 [0,1,7,8,9] ?_;refine Sb ?_;refine Lo (fun i=>⟨Ar 43 [(0,.sl false (L Aj a)),(1,.bool g),(7,.sl false (L Aj a)),(8,i64 (a.length:Int)),(9,i64 i)],[]⟩) (ws []) ?_;rintro i x n j k;show Eb a g i=some n→_;unfold Eb;refine T0 [0,1,7,8,9,10] ?_;refine Sq <|Cd ?_ ?_
  ·refine Sk <|Tn <|Sq <|Sb <|Ck fun o =>Lt fun p q =>Lt fun s t =>Lt fun u v =>Te (σ':=[.box [i64 p,i64 s,.bool u] false]) [0,1,6,7,8,9] Ac (Ew4 (qR o) q t v) ?_
   refine Tw [0,1,7,8,9,38] (fun l=>⟨Ar 43 [(0,.sl false (L Aj a)),(1,.bool g),(7,.sl false (L Aj a)),(8,i64 (a.length:Int)),(9,i64 i),(38,.bool l)],[]⟩) ?_ ?_
   ·intro _;refine Sp (fun b=>?_) fun b=>?_
    ·exact Lf Ac (Ew1 b) (ws [])
    ·refine Sp (fun c=>?_) fun c=>?_
     ·exact Lf Ac (Ew2 b c) (ws [])
     ·refine Sp (fun d=>?_) fun d=>?_
      ·exact Lf Ac (Ew3 b c d) (ws [])
      ·refine Sp (fun e=>?_) fun e=>?_
       ·exact Lf Ac (Ew4 b c d e) (ws [])
       ·refine Sp (fun f=>?_) fun f=>?_
        ·exact Lf Ac (Ew5 b c d e f) (ws [] (by simp only[go_sem,b,c,d,e,f]) (by simp only[go_sem,b,c,d,e,f]))
        ·exact Lf Ac (Ew5 b c d e f) (ws [] (by simp only[go_sem,b,c,d,e,f]) (by simp only[go_sem,b,c,d,e,f]))
   intro l;refine Cd ?_ ?_
   ·refine T0 [4] ?_;exact Sr <|Br <|Tr <|Lr k j <|Br <|Jr m <|Rr
   ·refine Sk <|Bn <|Tn <|F0 [0,1,7,8,9] ?_
    exact Ln (ws [])
  ·refine Sx <|Tx <|Lx k j <|Bx <|?_
   exact Jn ((ws (l':=[(0,.sl false (L Aj a))]) (σ':=[]) []).trans (ws []))
 intro _;refine T0 [4] ?_;exact Sr <|Rr
theorem Iq{a r}(h:Db a=some r):Con B 131 [.ref 0 0] [.box [.sl false (L Ag a.p.Zg1.Ze),.sl false (L Al a.p.Zg1.Zf),.sl false (L Aa a.p.Zh1.Zx),.sl false (L Ae a.p.Zh1.Zy),.sl false (L Ai a.p.Zh1.Zz),.sl false (L Ah a.p.Zh1.Za1),.sl false (L Af a.p.Zi1),.sl false (L Ad a.p.Zj1),.sl false (L Ab a.p.Zk1),i64 a.it.Za,i64 a.it.Ref.Zb,i64 a.it.Ref.No,i64 a.it.Zn1,i64 a.it.Zb1,i64 a.it.Zc,i64 a.it.Zo1,i64 a.it.Zw,i64 a.it.To,i64 a.it.Code,i64 a.it.Zp1,i64 a.it.Zq1,i64 a.it.Zr1,i64 a.it.Zs1,.str a.it.Zt1,.sl false (L Aj a.it.Zu1),.bool a.ok] false] (fun r' σ'=>r'=.tup []∧σ'=[.box [.sl false (L Ag r.p.Zg1.Ze),.sl false (L Al r.p.Zg1.Zf),.sl false (L Aa r.p.Zh1.Zx),.sl false (L Ae r.p.Zh1.Zy),.sl false (L Ai r.p.Zh1.Zz),.sl false (L Ah r.p.Zh1.Za1),.sl false (L Af r.p.Zi1),.sl false (L Ad r.p.Zj1),.sl false (L Ab r.p.Zk1),i64 r.it.Za,i64 r.it.Ref.Zb,i64 r.it.Ref.No,i64 r.it.Zn1,i64 r.it.Zb1,i64 r.it.Zc,i64 r.it.Zo1,i64 r.it.Zw,i64 r.it.To,i64 r.it.Code,i64 r.it.Zp1,i64 r.it.Zq1,i64 r.it.Zr1,i64 r.it.Zs1,.str r.it.Zt1,.sl false (L Aj r.it.Zu1),.bool r.ok] false]):=by
 refine Co 1 168 [] Tryz.func131 (fun F hE=>?_) h;unfold Db;refine T0 [0,2] ?_;refine T0 [0,2,9] ?_;refine Sb <|T0 [0,2,9,13] ?_
 refine Cd ?_ ?_
 ·refine Bd fun c af =>Te [0,2] (As (l:=[]) (m:=[(16,149,[.ref 0 0],[.box [.sl false (L Ag a.p.Zg1.Ze),.sl false (L Al a.p.Zg1.Zf),.sl false (L Aa a.p.Zh1.Zx),.sl false (L Ae a.p.Zh1.Zy),.sl false (L Ai a.p.Zh1.Zz),.sl false (L Ah a.p.Zh1.Za1),.sl false (L Af a.p.Zi1),.sl false (L Ad a.p.Zj1),.sl false (L Ab a.p.Zk1),i64 a.it.Za,i64 a.it.Ref.Zb,i64 a.it.Ref.No,i64 a.it.Zn1,i64 a.it.Zb1,i64 a.it.Zc,i64 a.it.Zo1,i64 a.it.Zw,i64 a.it.To,i64 a.it.Code,i64 a.it.Zp1,i64 a.it.Zq1,i64 a.it.Zr1,i64 a.it.Zs1,.str a.it.Zt1,.sl false (L Aj a.it.Zu1),.bool a.ok] false],_,_)]) trivial ⟨(wc (DY af) [0]),trivial⟩) Ev ?_
  refine Bd fun d ag =>Te [0,2] (As (l:=[]) (m:=[(18,151,[.ref 0 0],[.box [.sl false (L Ag c.p.Zg1.Ze),.sl false (L Al c.p.Zg1.Zf),.sl false (L Aa c.p.Zh1.Zx),.sl false (L Ae c.p.Zh1.Zy),.sl false (L Ai c.p.Zh1.Zz),.sl false (L Ah c.p.Zh1.Za1),.sl false (L Af c.p.Zi1),.sl false (L Ad c.p.Zj1),.sl false (L Ab c.p.Zk1),i64 c.it.Za,i64 c.it.Ref.Zb,i64 c.it.Ref.No,i64 c.it.Zn1,i64 c.it.Zb1,i64 c.it.Zc,i64 c.it.Zo1,i64 c.it.Zw,i64 c.it.To,i64 c.it.Code,i64 c.it.Zp1,i64 c.it.Zq1,i64 c.it.Zr1,i64 c.it.Zs1,.str c.it.Zt1,.sl false (L Aj c.it.Zu1),.bool c.ok] false],_,_)]) trivial ⟨(wc (B3 ag) [0]),trivial⟩) Ev ?_
  refine Bd fun aB ah =>Fe [] (As (l:=[]) (m:=[(23,150,[.ref 0 0,.ref 0 18,i64 1,i64 9],[.box [.sl false (L Ag d.p.Zg1.Ze),.sl false (L Al d.p.Zg1.Zf),.sl false (L Aa d.p.Zh1.Zx),.sl false (L Ae d.p.Zh1.Zy),.sl false (L Ai d.p.Zh1.Zz),.sl false (L Ah d.p.Zh1.Za1),.sl false (L Af d.p.Zi1),.sl false (L Ad d.p.Zj1),.sl false (L Ab d.p.Zk1),i64 d.it.Za,i64 d.it.Ref.Zb,i64 d.it.Ref.No,i64 d.it.Zn1,i64 d.it.Zb1,i64 d.it.Zc,i64 d.it.Zo1,i64 d.it.Zw,i64 d.it.To,i64 d.it.Code,i64 d.it.Zp1,i64 d.it.Zq1,i64 d.it.Zr1,i64 d.it.Zs1,.str d.it.Zt1,.sl false (L Aj d.it.Zu1),.bool d.ok] false],_,_)]) trivial ⟨(wc (Ce ah) [0]),trivial⟩) Ev ?_
  exact Bn <|Ro [0]
 ·refine T0 [0,2,9,24] ?_;refine Cd ?_ ?_
  ·refine Bd fun e ai =>Te [0,2] (As (l:=[]) (m:=[(27,149,[.ref 0 0],[.box [.sl false (L Ag a.p.Zg1.Ze),.sl false (L Al a.p.Zg1.Zf),.sl false (L Aa a.p.Zh1.Zx),.sl false (L Ae a.p.Zh1.Zy),.sl false (L Ai a.p.Zh1.Zz),.sl false (L Ah a.p.Zh1.Za1),.sl false (L Af a.p.Zi1),.sl false (L Ad a.p.Zj1),.sl false (L Ab a.p.Zk1),i64 a.it.Za,i64 a.it.Ref.Zb,i64 a.it.Ref.No,i64 a.it.Zn1,i64 a.it.Zb1,i64 a.it.Zc,i64 a.it.Zo1,i64 a.it.Zw,i64 a.it.To,i64 a.it.Code,i64 a.it.Zp1,i64 a.it.Zq1,i64 a.it.Zr1,i64 a.it.Zs1,.str a.it.Zt1,.sl false (L Aj a.it.Zu1),.bool a.ok] false],_,_)]) trivial ⟨(wc (DY ai) [0]),trivial⟩) Ev ?_
   refine Bd fun f aj =>Te [0,2] (As (l:=[]) (m:=[(29,152,[.ref 0 0,i64 5],[.box [.sl false (L Ag e.p.Zg1.Ze),.sl false (L Al e.p.Zg1.Zf),.sl false (L Aa e.p.Zh1.Zx),.sl false (L Ae e.p.Zh1.Zy),.sl false (L Ai e.p.Zh1.Zz),.sl false (L Ah e.p.Zh1.Za1),.sl false (L Af e.p.Zi1),.sl false (L Ad e.p.Zj1),.sl false (L Ab e.p.Zk1),i64 e.it.Za,i64 e.it.Ref.Zb,i64 e.it.Ref.No,i64 e.it.Zn1,i64 e.it.Zb1,i64 e.it.Zc,i64 e.it.Zo1,i64 e.it.Zw,i64 e.it.To,i64 e.it.Code,i64 e.it.Zp1,i64 e.it.Zq1,i64 e.it.Zr1,i64 e.it.Zs1,.str e.it.Zt1,.sl false (L Aj e.it.Zu1),.bool e.ok] false],_,_)]) trivial ⟨(wc (BD aj) [0]),trivial⟩) Ev ?_
   refine Bd fun g ak =>Te [0,2] (As (l:=[]) (m:=[(31,153,[.ref 0 0],[.box [.sl false (L Ag f.2.p.Zg1.Ze),.sl false (L Al f.2.p.Zg1.Zf),.sl false (L Aa f.2.p.Zh1.Zx),.sl false (L Ae f.2.p.Zh1.Zy),.sl false (L Ai f.2.p.Zh1.Zz),.sl false (L Ah f.2.p.Zh1.Za1),.sl false (L Af f.2.p.Zi1),.sl false (L Ad f.2.p.Zj1),.sl false (L Ab f.2.p.Zk1),i64 f.2.it.Za,i64 f.2.it.Ref.Zb,i64 f.2.it.Ref.No,i64 f.2.it.Zn1,i64 f.2.it.Zb1,i64 f.2.it.Zc,i64 f.2.it.Zo1,i64 f.2.it.Zw,i64 f.2.it.To,i64 f.2.it.Code,i64 f.2.it.Zp1,i64 f.2.it.Zq1,i64 f.2.it.Zr1,i64 f.2.it.Zs1,.str f.2.it.Zt1,.sl false (L Aj f.2.it.Zu1),.bool f.2.ok] false],_,_)]) trivial ⟨(wc (Eu ak) [0]),trivial⟩) Ev ?_
   refine Bd fun i al =>Te [0,2] (As (l:=[]) (m:=[(36,150,[.ref 0 0,.ref 0 18,i64 1,i64 2],[.box [.sl false (L Ag g.p.Zg1.Ze),.sl false (L Al g.p.Zg1.Zf),.sl false (L Aa g.p.Zh1.Zx),.sl false (L Ae g.p.Zh1.Zy),.sl false (L Ai g.p.Zh1.Zz),.sl false (L Ah g.p.Zh1.Za1),.sl false (L Af g.p.Zi1),.sl false (L Ad g.p.Zj1),.sl false (L Ab g.p.Zk1),i64 g.it.Za,i64 g.it.Ref.Zb,i64 g.it.Ref.No,i64 g.it.Zn1,i64 g.it.Zb1,i64 g.it.Zc,i64 g.it.Zo1,i64 g.it.Zw,i64 g.it.To,i64 g.it.Code,i64 g.it.Zp1,i64 g.it.Zq1,i64 g.it.Zr1,i64 g.it.Zs1,.str g.it.Zt1,.sl false (L Aj g.it.Zu1),.bool g.ok] false],_,_)]) trivial ⟨(wc (Ce al) [0]),trivial⟩) Ev ?_
   refine Bd fun t am =>Te [0,2] (As (l:=[]) (m:=[(41,150,[.ref 0 0,.ref 0 22,i64 0,i64 1000000000],[.box [.sl false (L Ag i.p.Zg1.Ze),.sl false (L Al i.p.Zg1.Zf),.sl false (L Aa i.p.Zh1.Zx),.sl false (L Ae i.p.Zh1.Zy),.sl false (L Ai i.p.Zh1.Zz),.sl false (L Ah i.p.Zh1.Za1),.sl false (L Af i.p.Zi1),.sl false (L Ad i.p.Zj1),.sl false (L Ab i.p.Zk1),i64 i.it.Za,i64 i.it.Ref.Zb,i64 i.it.Ref.No,i64 i.it.Zn1,i64 i.it.Zb1,i64 i.it.Zc,i64 i.it.Zo1,i64 i.it.Zw,i64 i.it.To,i64 i.it.Code,i64 i.it.Zp1,i64 i.it.Zq1,i64 i.it.Zr1,i64 i.it.Zs1,.str i.it.Zt1,.sl false (L Aj i.it.Zu1),.bool i.ok] false],_,_)]) trivial ⟨(wc (Ey am) [0]),trivial⟩) Ev ?_
   refine Tw [2] (fun ab=>⟨Ar 168 [(2,.ref 0 9)],[.box [.sl false (L Ag t.p.Zg1.Ze),.sl false (L Al t.p.Zg1.Zf),.sl false (L Aa t.p.Zh1.Zx),.sl false (L Ae t.p.Zh1.Zy),.sl false (L Ai t.p.Zh1.Zz),.sl false (L Ah t.p.Zh1.Za1),.sl false (L Af t.p.Zi1),.sl false (L Ad t.p.Zj1),.sl false (L Ab t.p.Zk1),i64 t.it.Za,i64 t.it.Ref.Zb,i64 t.it.Ref.No,i64 t.it.Zn1,i64 t.it.Zb1,i64 t.it.Zc,i64 t.it.Zo1,i64 t.it.Zw,i64 t.it.To,i64 t.it.Code,i64 t.it.Zp1,i64 t.it.Zq1,i64 t.it.Zr1,i64 t.it.Zs1,.str t.it.Zt1,.sl false (L Aj t.it.Zu1),.bool ab] false]⟩) ?_ ?_
   ·intro _;refine Sp (fun y=>?_) fun y=>?_
    ·refine Bd fun aC an=>?_
     exact Lf (o1 52 (Kj an)) (Ew1 y) (ws [0])
    ·exact Lf Ac (Ew1 y) (ws [0])
   intro ab;refine F0 [] ?_;exact Bn <|Ro [0]
  ·refine T0 [0,2,9,59] ?_;refine Cd ?_ ?_
   ·refine Bd fun u ao =>Te [0,2] (As (l:=[]) (m:=[(65,150,[.ref 0 0,.ref 0 14,i64 0,i64 63],[.box [.sl false (L Ag a.p.Zg1.Ze),.sl false (L Al a.p.Zg1.Zf),.sl false (L Aa a.p.Zh1.Zx),.sl false (L Ae a.p.Zh1.Zy),.sl false (L Ai a.p.Zh1.Zz),.sl false (L Ah a.p.Zh1.Za1),.sl false (L Af a.p.Zi1),.sl false (L Ad a.p.Zj1),.sl false (L Ab a.p.Zk1),i64 a.it.Za,i64 a.it.Ref.Zb,i64 a.it.Ref.No,i64 a.it.Zn1,i64 a.it.Zb1,i64 a.it.Zc,i64 a.it.Zo1,i64 a.it.Zw,i64 a.it.To,i64 a.it.Code,i64 a.it.Zp1,i64 a.it.Zq1,i64 a.it.Zr1,i64 a.it.Zs1,.str a.it.Zt1,.sl false (L Aj a.it.Zu1),.bool a.ok] false],_,_)]) trivial ⟨(wc (CQ ao) [0]),trivial⟩) Ev ?_
    refine Tw [2] (fun ac=>⟨Ar 168 [(2,.ref 0 9)],[.box [.sl false (L Ag u.p.Zg1.Ze),.sl false (L Al u.p.Zg1.Zf),.sl false (L Aa u.p.Zh1.Zx),.sl false (L Ae u.p.Zh1.Zy),.sl false (L Ai u.p.Zh1.Zz),.sl false (L Ah u.p.Zh1.Za1),.sl false (L Af u.p.Zi1),.sl false (L Ad u.p.Zj1),.sl false (L Ab u.p.Zk1),i64 u.it.Za,i64 u.it.Ref.Zb,i64 u.it.Ref.No,i64 u.it.Zn1,i64 u.it.Zb1,i64 u.it.Zc,i64 u.it.Zo1,i64 u.it.Zw,i64 u.it.To,i64 u.it.Code,i64 u.it.Zp1,i64 u.it.Zq1,i64 u.it.Zr1,i64 u.it.Zs1,.str u.it.Zt1,.sl false (L Aj u.it.Zu1),.bool ac] false]⟩) ?_ ?_
    ·intro _;refine Sp (fun w=>?_) fun w=>?_
     ·refine Sp (fun z=>?_) fun z=>?_
      ·refine Bd fun aD ap=>?_
       exact Lf (o1 84 (Kj ap)) (Ew2 w z) (ws [0])
      ·exact Lf Ac (Ew2 w z) (ws [0])
     ·exact Lf Ac (Ew1 w) (ws [0])
    intro ac;refine F0 [] ?_;exact Bn <|Ro [0]
   ·refine Ja (fun ad=>⟨Ar 168 [(0,.ref 0 0),(2,.ref 0 9),(9,i64 a.it.Za),(91,.bool ad)],[.box [.sl false (L Ag a.p.Zg1.Ze),.sl false (L Al a.p.Zg1.Zf),.sl false (L Aa a.p.Zh1.Zx),.sl false (L Ae a.p.Zh1.Zy),.sl false (L Ai a.p.Zh1.Zz),.sl false (L Ah a.p.Zh1.Za1),.sl false (L Af a.p.Zi1),.sl false (L Ad a.p.Zj1),.sl false (L Ab a.p.Zk1),i64 a.it.Za,i64 a.it.Ref.Zb,i64 a.it.Ref.No,i64 a.it.Zn1,i64 a.it.Zb1,i64 a.it.Zc,i64 a.it.Zo1,i64 a.it.Zw,i64 a.it.To,i64 a.it.Code,i64 a.it.Zp1,i64 a.it.Zq1,i64 a.it.Zr1,i64 a.it.Zs1,.str a.it.Zt1,.sl false (L Aj a.it.Zu1),.bool a.ok] false]⟩) ?_ ?_
    ·intro aE;refine T0 [0,2,9,91] ?_;refine Cd ?_ ?_
     ·exact Sk <|Jm (ws [0])
     ·refine T0 [0,2,9,91] ?_;refine Cd ?_ ?_
      ·exact Sk <|Jm (ws [0])
      ·refine F0 [0,2,9,91] ?_;exact Jm (ws [0])
    intro ad;refine Cd ?_ ?_
    ·refine Bd fun j aq =>Te [0,2] (As (l:=[]) (m:=[(99,150,[.ref 0 0,.ref 0 15,i64 1,i64 6],[.box [.sl false (L Ag a.p.Zg1.Ze),.sl false (L Al a.p.Zg1.Zf),.sl false (L Aa a.p.Zh1.Zx),.sl false (L Ae a.p.Zh1.Zy),.sl false (L Ai a.p.Zh1.Zz),.sl false (L Ah a.p.Zh1.Za1),.sl false (L Af a.p.Zi1),.sl false (L Ad a.p.Zj1),.sl false (L Ab a.p.Zk1),i64 a.it.Za,i64 a.it.Ref.Zb,i64 a.it.Ref.No,i64 a.it.Zn1,i64 a.it.Zb1,i64 a.it.Zc,i64 a.it.Zo1,i64 a.it.Zw,i64 a.it.To,i64 a.it.Code,i64 a.it.Zp1,i64 a.it.Zq1,i64 a.it.Zr1,i64 a.it.Zs1,.str a.it.Zt1,.sl false (L Aj a.it.Zu1),.bool a.ok] false],_,_)]) trivial ⟨(wc (CU aq) [0]),trivial⟩) Ev ?_
     refine Bd fun v ar =>Te [0,2] (As (l:=[]) (m:=[(101,151,[.ref 0 0],[.box [.sl false (L Ag j.p.Zg1.Ze),.sl false (L Al j.p.Zg1.Zf),.sl false (L Aa j.p.Zh1.Zx),.sl false (L Ae j.p.Zh1.Zy),.sl false (L Ai j.p.Zh1.Zz),.sl false (L Ah j.p.Zh1.Za1),.sl false (L Af j.p.Zi1),.sl false (L Ad j.p.Zj1),.sl false (L Ab j.p.Zk1),i64 j.it.Za,i64 j.it.Ref.Zb,i64 j.it.Ref.No,i64 j.it.Zn1,i64 j.it.Zb1,i64 j.it.Zc,i64 j.it.Zo1,i64 j.it.Zw,i64 j.it.To,i64 j.it.Code,i64 j.it.Zp1,i64 j.it.Zq1,i64 j.it.Zr1,i64 j.it.Zs1,.str j.it.Zt1,.sl false (L Aj j.it.Zu1),.bool j.ok] false],_,_)]) trivial ⟨(wc (B3 ar) [0]),trivial⟩) Ev ?_
     refine T0 [0,2,106] ?_;refine Cd ?_ ?_
     ·refine Tw [2] (fun ae=>⟨Ar 168 [(2,.ref 0 9)],[.box [.sl false (L Ag v.p.Zg1.Ze),.sl false (L Al v.p.Zg1.Zf),.sl false (L Aa v.p.Zh1.Zx),.sl false (L Ae v.p.Zh1.Zy),.sl false (L Ai v.p.Zh1.Zz),.sl false (L Ah v.p.Zh1.Za1),.sl false (L Af v.p.Zi1),.sl false (L Ad v.p.Zj1),.sl false (L Ab v.p.Zk1),i64 v.it.Za,i64 v.it.Ref.Zb,i64 v.it.Ref.No,i64 v.it.Zn1,i64 v.it.Zb1,i64 v.it.Zc,i64 v.it.Zo1,i64 v.it.Zw,i64 v.it.To,i64 v.it.Code,i64 v.it.Zp1,i64 v.it.Zq1,i64 v.it.Zr1,i64 v.it.Zs1,.str v.it.Zt1,.sl false (L Aj v.it.Zu1),.bool ae] false]⟩) ?_ ?_
      ·intro _;refine Sp (fun x=>?_) fun x=>?_
       ·refine Sp (fun aa=>?_) fun aa=>?_
        ·exact Lf Ac (Ew2 x aa) (ws [0])
        ·exact Lf Ac (Ew2 x aa) (ws [0])
       ·exact Lf Ac (Ew1 x) (ws [0])
      intro ae;refine F0 [] ?_;exact Bn <|Ro [0]
     ·exact Sk <|Bn <|Ro [0]
    ·refine T0 [0,2,9,133] ?_;refine Cd ?_ ?_
     ·exact Sk <|Bn <|Ro [0]
     ·refine T0 [0,2,135] ?_;refine Cd ?_ ?_
      ·refine Bd fun k au =>Te [0,2] (As (l:=[]) (m:=[(138,154,[.ref 0 0],[.box [.sl false (L Ag a.p.Zg1.Ze),.sl false (L Al a.p.Zg1.Zf),.sl false (L Aa a.p.Zh1.Zx),.sl false (L Ae a.p.Zh1.Zy),.sl false (L Ai a.p.Zh1.Zz),.sl false (L Ah a.p.Zh1.Za1),.sl false (L Af a.p.Zi1),.sl false (L Ad a.p.Zj1),.sl false (L Ab a.p.Zk1),i64 a.it.Za,i64 a.it.Ref.Zb,i64 a.it.Ref.No,i64 a.it.Zn1,i64 a.it.Zb1,i64 a.it.Zc,i64 a.it.Zo1,i64 a.it.Zw,i64 a.it.To,i64 a.it.Code,i64 a.it.Zp1,i64 a.it.Zq1,i64 a.it.Zr1,i64 a.it.Zs1,.str a.it.Zt1,.sl false (L Aj a.it.Zu1),.bool a.ok] false],_,_)]) trivial ⟨(wc (Dk au) [0]),trivial⟩) Ev ?_
       refine Bd fun n av =>Te [0,2] (As (l:=[]) (m:=[(140,152,[.ref 0 0,i64 0],[.box [.sl false (L Ag k.p.Zg1.Ze),.sl false (L Al k.p.Zg1.Zf),.sl false (L Aa k.p.Zh1.Zx),.sl false (L Ae k.p.Zh1.Zy),.sl false (L Ai k.p.Zh1.Zz),.sl false (L Ah k.p.Zh1.Za1),.sl false (L Af k.p.Zi1),.sl false (L Ad k.p.Zj1),.sl false (L Ab k.p.Zk1),i64 k.it.Za,i64 k.it.Ref.Zb,i64 k.it.Ref.No,i64 k.it.Zn1,i64 k.it.Zb1,i64 k.it.Zc,i64 k.it.Zo1,i64 k.it.Zw,i64 k.it.To,i64 k.it.Code,i64 k.it.Zp1,i64 k.it.Zq1,i64 k.it.Zr1,i64 k.it.Zs1,.str k.it.Zt1,.sl false (L Aj k.it.Zu1),.bool k.ok] false],_,_)]) trivial ⟨(wc (BD av) [0]),trivial⟩) Ev ?_
       refine Bd fun b aw =>Te [0,2] (As (l:=[]) (m:=[(142,155,[.ref 0 0],[.box [.sl false (L Ag n.2.p.Zg1.Ze),.sl false (L Al n.2.p.Zg1.Zf),.sl false (L Aa n.2.p.Zh1.Zx),.sl false (L Ae n.2.p.Zh1.Zy),.sl false (L Ai n.2.p.Zh1.Zz),.sl false (L Ah n.2.p.Zh1.Za1),.sl false (L Af n.2.p.Zi1),.sl false (L Ad n.2.p.Zj1),.sl false (L Ab n.2.p.Zk1),i64 n.2.it.Za,i64 n.2.it.Ref.Zb,i64 n.2.it.Ref.No,i64 n.2.it.Zn1,i64 n.2.it.Zb1,i64 n.2.it.Zc,i64 n.2.it.Zo1,i64 n.2.it.Zw,i64 n.2.it.To,i64 n.2.it.Code,i64 n.2.it.Zp1,i64 n.2.it.Zq1,i64 n.2.it.Zr1,i64 n.2.it.Zs1,.str n.2.it.Zt1,.sl false (L Aj n.2.it.Zu1),.bool n.2.ok] false],_,_)]) trivial ⟨(wc (FJ aw) [0]),trivial⟩) Ev ?_
       refine Bd fun o ax =>De [[],[],[1],[1,2],[],[4],[4,5],[4,5,6],[4,5,6,7],[4,5,6,7,8],[4,5,6,7,8,9],[4,5,6,7,8,9,10],[0,1,2,3,4,5,6,7,8,9,10,11]] [0,2] (As (l:=[]) (m:=[(155,150,[.ref 0 0,.ref 0 15,i64 0,i64 (w64 ((b.p.Zh1.Zx.length:Int)-1))],[.box [.sl false (L Ag b.p.Zg1.Ze),.sl false (L Al b.p.Zg1.Zf),.sl false (L Aa b.p.Zh1.Zx),.sl false (L Ae b.p.Zh1.Zy),.sl false (L Ai b.p.Zh1.Zz),.sl false (L Ah b.p.Zh1.Za1),.sl false (L Af b.p.Zi1),.sl false (L Ad b.p.Zj1),.sl false (L Ab b.p.Zk1),i64 b.it.Za,i64 b.it.Ref.Zb,i64 b.it.Ref.No,i64 b.it.Zn1,i64 b.it.Zb1,i64 b.it.Zc,i64 b.it.Zo1,i64 b.it.Zw,i64 b.it.To,i64 b.it.Code,i64 b.it.Zp1,i64 b.it.Zq1,i64 b.it.Zr1,i64 b.it.Zs1,.str b.it.Zt1,.sl false (L Aj b.it.Zu1),.bool b.ok] false],_,_)]) trivial ⟨(wc (CU ax) [0]),trivial⟩) Ev ?_
       refine Bd fun q ay =>Te [0,2] (As (l:=[]) (m:=[(160,150,[.ref 0 0,.ref 0 21,i64 1,i64 1000],[.box [.sl false (L Ag o.p.Zg1.Ze),.sl false (L Al o.p.Zg1.Zf),.sl false (L Aa o.p.Zh1.Zx),.sl false (L Ae o.p.Zh1.Zy),.sl false (L Ai o.p.Zh1.Zz),.sl false (L Ah o.p.Zh1.Za1),.sl false (L Af o.p.Zi1),.sl false (L Ad o.p.Zj1),.sl false (L Ab o.p.Zk1),i64 o.it.Za,i64 o.it.Ref.Zb,i64 o.it.Ref.No,i64 o.it.Zn1,i64 o.it.Zb1,i64 o.it.Zc,i64 o.it.Zo1,i64 o.it.Zw,i64 o.it.To,i64 o.it.Code,i64 o.it.Zp1,i64 o.it.Zq1,i64 o.it.Zr1,i64 o.it.Zs1,.str o.it.Zt1,.sl false (L Aj o.it.Zu1),.bool o.ok] false],_,_)]) trivial ⟨(wc (Ex ay) [0]),trivial⟩) Ev ?_
       refine Bd fun s az =>Te [0,2] (As (l:=[]) (m:=[(162,153,[.ref 0 0],[.box [.sl false (L Ag q.p.Zg1.Ze),.sl false (L Al q.p.Zg1.Zf),.sl false (L Aa q.p.Zh1.Zx),.sl false (L Ae q.p.Zh1.Zy),.sl false (L Ai q.p.Zh1.Zz),.sl false (L Ah q.p.Zh1.Za1),.sl false (L Af q.p.Zi1),.sl false (L Ad q.p.Zj1),.sl false (L Ab q.p.Zk1),i64 q.it.Za,i64 q.it.Ref.Zb,i64 q.it.Ref.No,i64 q.it.Zn1,i64 q.it.Zb1,i64 q.it.Zc,i64 q.it.Zo1,i64 q.it.Zw,i64 q.it.To,i64 q.it.Code,i64 q.it.Zp1,i64 q.it.Zq1,i64 q.it.Zr1,i64 q.it.Zs1,.str q.it.Zt1,.sl false (L Aj q.it.Zu1),.bool q.ok] false],_,_)]) trivial ⟨(wc (Eu az) [0]),trivial⟩) Ev ?_
       refine Bd fun aF aA =>Fe [] (As (l:=[]) (m:=[(167,150,[.ref 0 0,.ref 0 22,i64 0,i64 1000000000],[.box [.sl false (L Ag s.p.Zg1.Ze),.sl false (L Al s.p.Zg1.Zf),.sl false (L Aa s.p.Zh1.Zx),.sl false (L Ae s.p.Zh1.Zy),.sl false (L Ai s.p.Zh1.Zz),.sl false (L Ah s.p.Zh1.Za1),.sl false (L Af s.p.Zi1),.sl false (L Ad s.p.Zj1),.sl false (L Ab s.p.Zk1),i64 s.it.Za,i64 s.it.Ref.Zb,i64 s.it.Ref.No,i64 s.it.Zn1,i64 s.it.Zb1,i64 s.it.Zc,i64 s.it.Zo1,i64 s.it.Zw,i64 s.it.To,i64 s.it.Code,i64 s.it.Zp1,i64 s.it.Zq1,i64 s.it.Zr1,i64 s.it.Zs1,.str s.it.Zt1,.sl false (L Aj s.it.Zu1),.bool s.ok] false],_,_)]) trivial ⟨(wc (Ey aA) [0]),trivial⟩) Ev ?_
       exact Bn <|Ro [0]
      ·refine F0 [] ?_;exact Bn <|Ro [0]
theorem PH{b a r}(h:Ep b a=some r):Con B 102 [.agg [.sl false (L Ag b.Zg1.Ze),.sl false (L Al b.Zg1.Zf),.sl false (L Aa b.Zh1.Zx),.sl false (L Ae b.Zh1.Zy),.sl false (L Ai b.Zh1.Zz),.sl false (L Ah b.Zh1.Za1),.sl false (L Af b.Zi1),.sl false (L Ad b.Zj1),.sl false (L Ab b.Zk1)],.agg [i64 a.Za,i64 a.Ref.Zb,i64 a.Ref.No,i64 a.Zn1,i64 a.Zb1,i64 a.Zc,i64 a.Zo1,i64 a.Zw,i64 a.To,i64 a.Code,i64 a.Zp1,i64 a.Zq1,i64 a.Zr1,i64 a.Zs1,.str a.Zt1,.sl false (L Aj a.Zu1)]] [] (fun r' σ'=>r'=.bool r∧σ'=[]):=by
 refine Cw 46 [.tmp 4] Tryz.func102 (fun F hE=>?_) h;unfold Ep;refine T0 [2,3] ?_;refine T0 [3,5] ?_;refine Ja (fun⟨c,d,e,f,g,i,j,k,n,o,p,q,s,t,u,v,w,x,y,z,aa,ab,ac,ad,ae,ah⟩=>⟨Ar 46 [(5,.ref 0 0)],[.box [.sl false (L Ag c),.sl false (L Al d),.sl false (L Aa e),.sl false (L Ae f),.sl false (L Ai g),.sl false (L Ah i),.sl false (L Af j),.sl false (L Ad k),.sl false (L Ab n),i64 o,i64 p,i64 q,i64 s,i64 t,i64 u,i64 v,i64 w,i64 x,i64 y,i64 z,i64 aa,i64 ab,i64 ac,.str ad,.sl false (L Aj ae),.bool ah] false]⟩) ?_ ?_
 ·intro a6;refine T0 [5,13] ?_;refine Cd ?_ ?_
  ·refine Bd fun a7 aT =>Fe [5] (As (l:=[]) (m:=[(14,130,[.ref 2 0],[.box [.sl false (L Ag b.Zg1.Ze),.sl false (L Al b.Zg1.Zf),.sl false (L Aa b.Zh1.Zx),.sl false (L Ae b.Zh1.Zy),.sl false (L Ai b.Zh1.Zz),.sl false (L Ah b.Zh1.Za1),.sl false (L Af b.Zi1),.sl false (L Ad b.Zj1),.sl false (L Ab b.Zk1)] false,.box [i64 a.Za,i64 a.Ref.Zb,i64 a.Ref.No,i64 a.Zn1,i64 a.Zb1,i64 a.Zc,i64 a.Zo1,i64 a.Zw,i64 a.To,i64 a.Code,i64 a.Zp1,i64 a.Zq1,i64 a.Zr1,i64 a.Zs1,.str a.Zt1,.sl false (L Aj a.Zu1)] false,.box [.sl false (L Ag b.Zg1.Ze),.sl false (L Al b.Zg1.Zf),.sl false (L Aa b.Zh1.Zx),.sl false (L Ae b.Zh1.Zy),.sl false (L Ai b.Zh1.Zz),.sl false (L Ah b.Zh1.Za1),.sl false (L Af b.Zi1),.sl false (L Ad b.Zj1),.sl false (L Ab b.Zk1),i64 a.Za,i64 a.Ref.Zb,i64 a.Ref.No,i64 a.Zn1,i64 a.Zb1,i64 a.Zc,i64 a.Zo1,i64 a.Zw,i64 a.To,i64 a.Code,i64 a.Zp1,i64 a.Zq1,i64 a.Zr1,i64 a.Zs1,.str a.Zt1,.sl false (L Aj a.Zu1),.bool true] false],_,_)]) trivial ⟨(wc (Hu aT) [2]),trivial⟩) Ev ?_
   exact Jm (ws [2])
  ·refine Bd fun a8 aU =>Fe [5] (As (l:=[]) (m:=[(15,131,[.ref 2 0],[.box [.sl false (L Ag b.Zg1.Ze),.sl false (L Al b.Zg1.Zf),.sl false (L Aa b.Zh1.Zx),.sl false (L Ae b.Zh1.Zy),.sl false (L Ai b.Zh1.Zz),.sl false (L Ah b.Zh1.Za1),.sl false (L Af b.Zi1),.sl false (L Ad b.Zj1),.sl false (L Ab b.Zk1)] false,.box [i64 a.Za,i64 a.Ref.Zb,i64 a.Ref.No,i64 a.Zn1,i64 a.Zb1,i64 a.Zc,i64 a.Zo1,i64 a.Zw,i64 a.To,i64 a.Code,i64 a.Zp1,i64 a.Zq1,i64 a.Zr1,i64 a.Zs1,.str a.Zt1,.sl false (L Aj a.Zu1)] false,.box [.sl false (L Ag b.Zg1.Ze),.sl false (L Al b.Zg1.Zf),.sl false (L Aa b.Zh1.Zx),.sl false (L Ae b.Zh1.Zy),.sl false (L Ai b.Zh1.Zz),.sl false (L Ah b.Zh1.Za1),.sl false (L Af b.Zi1),.sl false (L Ad b.Zj1),.sl false (L Ab b.Zk1),i64 a.Za,i64 a.Ref.Zb,i64 a.Ref.No,i64 a.Zn1,i64 a.Zb1,i64 a.Zc,i64 a.Zo1,i64 a.Zw,i64 a.To,i64 a.Code,i64 a.Zp1,i64 a.Zq1,i64 a.Zr1,i64 a.Zs1,.str a.Zt1,.sl false (L Aj a.Zu1),.bool true] false],_,_)]) trivial ⟨(wc (Iq aU) [2]),trivial⟩) Ev ?_
   exact Jm (ws [2])
 rintro⟨c,d,e,f,g,i,j,k,n,o,p,q,s,t,u,v,w,x,y,z,aa,ab,ac,ad,ae,ah⟩;refine Ja (fun av=>⟨Ar 46 [(5,.ref 0 0)],[.box [.sl false (L Ag c),.sl false (L Al d),.sl false (L Aa e),.sl false (L Ae f),.sl false (L Ai g),.sl false (L Ah i),.sl false (L Af j),.sl false (L Ad k),.sl false (L Ab n),i64 o,i64 p,i64 q,i64 s,i64 t,i64 u,i64 v,i64 w,i64 x,i64 y,i64 z,i64 aa,i64 ab,i64 ac,.str ad,.sl false (L Aj ae),.bool av] false]⟩) ?_ ?_
 ·intro a9;refine Te [5,17,18] (As (l:=[]) (m:=[(17,92,[.ref 0 9],[.box [.sl false (L Ag c),.sl false (L Al d),.sl false (L Aa e),.sl false (L Ae f),.sl false (L Ai g),.sl false (L Ah i),.sl false (L Af j),.sl false (L Ad k),.sl false (L Ab n),i64 o,i64 p,i64 q,i64 s,i64 t,i64 u,i64 v,i64 w,i64 x,i64 y,i64 z,i64 aa,i64 ab,i64 ac,.str ad,.sl false (L Aj ae),.bool ah] false],.agg [.ref 0 12,.ref 0 13,.ref 0 14,.ref 0 15,.ref 0 16,.ref 0 17,.ref 0 18,.ref 0 19,.ref 0 20,.ref 0 21,.ref 0 22],[.box [.sl false (L Ag c),.sl false (L Al d),.sl false (L Aa e),.sl false (L Ae f),.sl false (L Ai g),.sl false (L Ah i),.sl false (L Af j),.sl false (L Ad k),.sl false (L Ab n),i64 o,i64 p,i64 q,i64 s,i64 t,i64 u,i64 v,i64 w,i64 x,i64 y,i64 z,i64 aa,i64 ab,i64 ac,.str ad,.sl false (L Aj ae),.bool ah] false])]) trivial ⟨Lj,trivial⟩) Ev ?_;refine Sb ?_;refine Ul 17 ?_;refine Ug (m:=16) ?_;refine T0 [5,17,18,19] ?_;refine Sq <|Ct <|Sk <|Tn <|Sq <|Sb <|?_
  have aw:InR 0 11:=by decide
  refine Te [5,7,17,18] Ac (Ev (by simp only[go_sem,aw,aw.2];exact AY)) ?_;refine Fw [5,17,18] (fun ax=>⟨Ar 46 [(5,.ref 0 0),(17,.agg [.ref 0 12,.ref 0 13,.ref 0 14,.ref 0 15,.ref 0 16,.ref 0 17,.ref 0 18,.ref 0 19,.ref 0 20,.ref 0 21,.ref 0 22]),(18,i64 0)],[.box [.sl false (L Ag c),.sl false (L Al d),.sl false (L Aa e),.sl false (L Ae f),.sl false (L Ai g),.sl false (L Ah i),.sl false (L Af j),.sl false (L Ad k),.sl false (L Ab n),i64 o,i64 p,i64 q,i64 s,i64 t,i64 u,i64 v,i64 w,i64 x,i64 y,i64 z,i64 aa,i64 ab,i64 ac,.str ad,.sl false (L Aj ae),.bool ax] false]⟩) ?_ ?_
  ·intro _;refine Sp (fun ai=>?_) fun ai=>?_
   ·exact Lf Ac (Ew1 ai) (ws [0])
   ·exact Lf Ac (Ew1 ai) (ws [0])
  intro ax;refine Bn <|Tn <|?_
  have aV:w64 1=1:=by decide
  refine Fe [5,17,18] Ac (Ew1 aV) ?_;refine Un ?_;refine Ug (m:=15) ?_;refine T0 [5,17,18,19] ?_;refine Sq <|Ct <|Sk <|Tn <|Sq <|Sb <|?_
  have ay:InR 1 11:=by decide
  refine Te [5,7,17,18] Ac (Ev (by simp only[go_sem,ay,ay.2];exact AY)) ?_;refine Fw [5,17,18] (fun az=>⟨Ar 46 [(5,.ref 0 0),(17,.agg [.ref 0 12,.ref 0 13,.ref 0 14,.ref 0 15,.ref 0 16,.ref 0 17,.ref 0 18,.ref 0 19,.ref 0 20,.ref 0 21,.ref 0 22]),(18,i64 1)],[.box [.sl false (L Ag c),.sl false (L Al d),.sl false (L Aa e),.sl false (L Ae f),.sl false (L Ai g),.sl false (L Ah i),.sl false (L Af j),.sl false (L Ad k),.sl false (L Ab n),i64 o,i64 p,i64 q,i64 s,i64 t,i64 u,i64 v,i64 w,i64 x,i64 y,i64 z,i64 aa,i64 ab,i64 ac,.str ad,.sl false (L Aj ae),.bool az] false]⟩) ?_ ?_
  ·intro _;refine Sp (fun aj=>?_) fun aj=>?_
   ·exact Lf Ac (Ew1 aj) (ws [0])
   ·exact Lf Ac (Ew1 aj) (ws [0])
  intro az;refine Bn <|Tn <|?_
  have aW:w64 2=2:=by decide
  refine Fe [5,17,18] Ac (Ew1 aW) ?_;refine Un ?_;refine Ug (m:=14) ?_;refine T0 [5,17,18,19] ?_;refine Sq <|Ct <|Sk <|Tn <|Sq <|Sb <|?_
  have aA:InR 2 11:=by decide
  refine Te [5,7,17,18] Ac (Ev (by simp only[go_sem,aA,aA.2];exact AY)) ?_;refine Fw [5,17,18] (fun aB=>⟨Ar 46 [(5,.ref 0 0),(17,.agg [.ref 0 12,.ref 0 13,.ref 0 14,.ref 0 15,.ref 0 16,.ref 0 17,.ref 0 18,.ref 0 19,.ref 0 20,.ref 0 21,.ref 0 22]),(18,i64 2)],[.box [.sl false (L Ag c),.sl false (L Al d),.sl false (L Aa e),.sl false (L Ae f),.sl false (L Ai g),.sl false (L Ah i),.sl false (L Af j),.sl false (L Ad k),.sl false (L Ab n),i64 o,i64 p,i64 q,i64 s,i64 t,i64 u,i64 v,i64 w,i64 x,i64 y,i64 z,i64 aa,i64 ab,i64 ac,.str ad,.sl false (L Aj ae),.bool aB] false]⟩) ?_ ?_
  ·intro _;refine Sp (fun ak=>?_) fun ak=>?_
   ·exact Lf Ac (Ew1 ak) (ws [0])
   ·exact Lf Ac (Ew1 ak) (ws [0])
  intro aB;refine Bn <|Tn <|?_
  have aX:w64 3=3:=by decide
  refine Fe [5,17,18] Ac (Ew1 aX) ?_;refine Un ?_;refine Ug (m:=13) ?_;refine T0 [5,17,18,19] ?_;refine Sq <|Ct <|Sk <|Tn <|Sq <|Sb <|?_
  have aC:InR 3 11:=by decide
  refine Te [5,7,17,18] Ac (Ev (by simp only[go_sem,aC,aC.2];exact AY)) ?_;refine Fw [5,17,18] (fun aD=>⟨Ar 46 [(5,.ref 0 0),(17,.agg [.ref 0 12,.ref 0 13,.ref 0 14,.ref 0 15,.ref 0 16,.ref 0 17,.ref 0 18,.ref 0 19,.ref 0 20,.ref 0 21,.ref 0 22]),(18,i64 3)],[.box [.sl false (L Ag c),.sl false (L Al d),.sl false (L Aa e),.sl false (L Ae f),.sl false (L Ai g),.sl false (L Ah i),.sl false (L Af j),.sl false (L Ad k),.sl false (L Ab n),i64 o,i64 p,i64 q,i64 s,i64 t,i64 u,i64 v,i64 w,i64 x,i64 y,i64 z,i64 aa,i64 ab,i64 ac,.str ad,.sl false (L Aj ae),.bool aD] false]⟩) ?_ ?_
  ·intro _;refine Sp (fun al=>?_) fun al=>?_
   ·exact Lf Ac (Ew1 al) (ws [0])
   ·exact Lf Ac (Ew1 al) (ws [0])
  intro aD;refine Bn <|Tn <|?_
  have aY:w64 4=4:=by decide
  refine Fe [5,17,18] Ac (Ew1 aY) ?_;refine Un ?_;refine Ug (m:=12) ?_;refine T0 [5,17,18,19] ?_;refine Sq <|Ct <|Sk <|Tn <|Sq <|Sb <|?_
  have aE:InR 4 11:=by decide
  refine Te [5,7,17,18] Ac (Ev (by simp only[go_sem,aE,aE.2];exact AY)) ?_;refine Fw [5,17,18] (fun aF=>⟨Ar 46 [(5,.ref 0 0),(17,.agg [.ref 0 12,.ref 0 13,.ref 0 14,.ref 0 15,.ref 0 16,.ref 0 17,.ref 0 18,.ref 0 19,.ref 0 20,.ref 0 21,.ref 0 22]),(18,i64 4)],[.box [.sl false (L Ag c),.sl false (L Al d),.sl false (L Aa e),.sl false (L Ae f),.sl false (L Ai g),.sl false (L Ah i),.sl false (L Af j),.sl false (L Ad k),.sl false (L Ab n),i64 o,i64 p,i64 q,i64 s,i64 t,i64 u,i64 v,i64 w,i64 x,i64 y,i64 z,i64 aa,i64 ab,i64 ac,.str ad,.sl false (L Aj ae),.bool aF] false]⟩) ?_ ?_
  ·intro _;refine Sp (fun am=>?_) fun am=>?_
   ·exact Lf Ac (Ew1 am) (ws [0])
   ·exact Lf Ac (Ew1 am) (ws [0])
  intro aF;refine Bn <|Tn <|?_
  have aZ:w64 5=5:=by decide
  refine Fe [5,17,18] Ac (Ew1 aZ) ?_;refine Un ?_;refine Ug (m:=11) ?_;refine T0 [5,17,18,19] ?_;refine Sq <|Ct <|Sk <|Tn <|Sq <|Sb <|?_
  have aG:InR 5 11:=by decide
  refine Te [5,7,17,18] Ac (Ev (by simp only[go_sem,aG,aG.2];exact AY)) ?_;refine Fw [5,17,18] (fun aH=>⟨Ar 46 [(5,.ref 0 0),(17,.agg [.ref 0 12,.ref 0 13,.ref 0 14,.ref 0 15,.ref 0 16,.ref 0 17,.ref 0 18,.ref 0 19,.ref 0 20,.ref 0 21,.ref 0 22]),(18,i64 5)],[.box [.sl false (L Ag c),.sl false (L Al d),.sl false (L Aa e),.sl false (L Ae f),.sl false (L Ai g),.sl false (L Ah i),.sl false (L Af j),.sl false (L Ad k),.sl false (L Ab n),i64 o,i64 p,i64 q,i64 s,i64 t,i64 u,i64 v,i64 w,i64 x,i64 y,i64 z,i64 aa,i64 ab,i64 ac,.str ad,.sl false (L Aj ae),.bool aH] false]⟩) ?_ ?_
  ·intro _;refine Sp (fun an=>?_) fun an=>?_
   ·exact Lf Ac (Ew1 an) (ws [0])
   ·exact Lf Ac (Ew1 an) (ws [0])
  intro aH;refine Bn <|Tn <|?_
  have a0:w64 6=6:=by decide
  refine Fe [5,17,18] Ac (Ew1 a0) ?_;refine Un ?_;refine Ug (m:=10) ?_;refine T0 [5,17,18,19] ?_;refine Sq <|Ct <|Sk <|Tn <|Sq <|Sb <|?_
  have aI:InR 6 11:=by decide
  refine Te [5,7,17,18] Ac (Ev (by simp only[go_sem,aI,aI.2];exact AY)) ?_;refine Fw [5,17,18] (fun aJ=>⟨Ar 46 [(5,.ref 0 0),(17,.agg [.ref 0 12,.ref 0 13,.ref 0 14,.ref 0 15,.ref 0 16,.ref 0 17,.ref 0 18,.ref 0 19,.ref 0 20,.ref 0 21,.ref 0 22]),(18,i64 6)],[.box [.sl false (L Ag c),.sl false (L Al d),.sl false (L Aa e),.sl false (L Ae f),.sl false (L Ai g),.sl false (L Ah i),.sl false (L Af j),.sl false (L Ad k),.sl false (L Ab n),i64 o,i64 p,i64 q,i64 s,i64 t,i64 u,i64 v,i64 w,i64 x,i64 y,i64 z,i64 aa,i64 ab,i64 ac,.str ad,.sl false (L Aj ae),.bool aJ] false]⟩) ?_ ?_
  ·intro _;refine Sp (fun ao=>?_) fun ao=>?_
   ·exact Lf Ac (Ew1 ao) (ws [0])
   ·exact Lf Ac (Ew1 ao) (ws [0])
  intro aJ;refine Bn <|Tn <|?_
  have a1:w64 7=7:=by decide
  refine Fe [5,17,18] Ac (Ew1 a1) ?_;refine Un ?_;refine Ug (m:=9) ?_;refine T0 [5,17,18,19] ?_;refine Sq <|Ct <|Sk <|Tn <|Sq <|Sb <|?_
  have aK:InR 7 11:=by decide
  refine Te [5,7,17,18] Ac (Ev (by simp only[go_sem,aK,aK.2];exact AY)) ?_;refine Fw [5,17,18] (fun aL=>⟨Ar 46 [(5,.ref 0 0),(17,.agg [.ref 0 12,.ref 0 13,.ref 0 14,.ref 0 15,.ref 0 16,.ref 0 17,.ref 0 18,.ref 0 19,.ref 0 20,.ref 0 21,.ref 0 22]),(18,i64 7)],[.box [.sl false (L Ag c),.sl false (L Al d),.sl false (L Aa e),.sl false (L Ae f),.sl false (L Ai g),.sl false (L Ah i),.sl false (L Af j),.sl false (L Ad k),.sl false (L Ab n),i64 o,i64 p,i64 q,i64 s,i64 t,i64 u,i64 v,i64 w,i64 x,i64 y,i64 z,i64 aa,i64 ab,i64 ac,.str ad,.sl false (L Aj ae),.bool aL] false]⟩) ?_ ?_
  ·intro _;refine Sp (fun ap=>?_) fun ap=>?_
   ·exact Lf Ac (Ew1 ap) (ws [0])
   ·exact Lf Ac (Ew1 ap) (ws [0])
  intro aL;refine Bn <|Tn <|?_
  have a2:w64 8=8:=by decide
  refine Fe [5,17,18] Ac (Ew1 a2) ?_;refine Un ?_;refine Ug (m:=8) ?_;refine T0 [5,17,18,19] ?_;refine Sq <|Ct <|Sk <|Tn <|Sq <|Sb <|?_
  have aM:InR 8 11:=by decide
  refine Te [5,7,17,18] Ac (Ev (by simp only[go_sem,aM,aM.2];exact AY)) ?_;refine Fw [5,17,18] (fun aN=>⟨Ar 46 [(5,.ref 0 0),(17,.agg [.ref 0 12,.ref 0 13,.ref 0 14,.ref 0 15,.ref 0 16,.ref 0 17,.ref 0 18,.ref 0 19,.ref 0 20,.ref 0 21,.ref 0 22]),(18,i64 8)],[.box [.sl false (L Ag c),.sl false (L Al d),.sl false (L Aa e),.sl false (L Ae f),.sl false (L Ai g),.sl false (L Ah i),.sl false (L Af j),.sl false (L Ad k),.sl false (L Ab n),i64 o,i64 p,i64 q,i64 s,i64 t,i64 u,i64 v,i64 w,i64 x,i64 y,i64 z,i64 aa,i64 ab,i64 ac,.str ad,.sl false (L Aj ae),.bool aN] false]⟩) ?_ ?_
  ·intro _;refine Sp (fun aq=>?_) fun aq=>?_
   ·exact Lf Ac (Ew1 aq) (ws [0])
   ·exact Lf Ac (Ew1 aq) (ws [0])
  intro aN;refine Bn <|Tn <|?_
  have a3:w64 9=9:=by decide
  refine Fe [5,17,18] Ac (Ew1 a3) ?_;refine Un ?_;refine Ug (m:=7) ?_;refine T0 [5,17,18,19] ?_;refine Sq <|Ct <|Sk <|Tn <|Sq <|Sb <|?_
  have aO:InR 9 11:=by decide
  refine Te [5,7,17,18] Ac (Ev (by simp only[go_sem,aO,aO.2];exact AY)) ?_;refine Fw [5,17,18] (fun aP=>⟨Ar 46 [(5,.ref 0 0),(17,.agg [.ref 0 12,.ref 0 13,.ref 0 14,.ref 0 15,.ref 0 16,.ref 0 17,.ref 0 18,.ref 0 19,.ref 0 20,.ref 0 21,.ref 0 22]),(18,i64 9)],[.box [.sl false (L Ag c),.sl false (L Al d),.sl false (L Aa e),.sl false (L Ae f),.sl false (L Ai g),.sl false (L Ah i),.sl false (L Af j),.sl false (L Ad k),.sl false (L Ab n),i64 o,i64 p,i64 q,i64 s,i64 t,i64 u,i64 v,i64 w,i64 x,i64 y,i64 z,i64 aa,i64 ab,i64 ac,.str ad,.sl false (L Aj ae),.bool aP] false]⟩) ?_ ?_
  ·intro _;refine Sp (fun ar=>?_) fun ar=>?_
   ·exact Lf Ac (Ew1 ar) (ws [0])
   ·exact Lf Ac (Ew1 ar) (ws [0])
  intro aP;refine Bn <|Tn <|?_
  have a4:w64 10=10:=by decide
  refine Fe [5,17,18] Ac (Ew1 a4) ?_;refine Un ?_;refine Ug (m:=6) ?_;refine T0 [5,17,18,19] ?_;refine Sq <|Ct <|Sk <|Tn <|Sq <|Sb <|?_
  have aQ:InR 10 11:=by decide
  refine Te [5,7,17,18] Ac (Ev (by simp only[go_sem,aQ,aQ.2];exact AY)) ?_;refine Fw [5,17,18] (fun aR=>⟨Ar 46 [(5,.ref 0 0),(17,.agg [.ref 0 12,.ref 0 13,.ref 0 14,.ref 0 15,.ref 0 16,.ref 0 17,.ref 0 18,.ref 0 19,.ref 0 20,.ref 0 21,.ref 0 22]),(18,i64 10)],[.box [.sl false (L Ag c),.sl false (L Al d),.sl false (L Aa e),.sl false (L Ae f),.sl false (L Ai g),.sl false (L Ah i),.sl false (L Af j),.sl false (L Ad k),.sl false (L Ab n),i64 o,i64 p,i64 q,i64 s,i64 t,i64 u,i64 v,i64 w,i64 x,i64 y,i64 z,i64 aa,i64 ab,i64 ac,.str ad,.sl false (L Aj ae),.bool aR] false]⟩) ?_ ?_
  ·intro _;refine Sp (fun au=>?_) fun au=>?_
   ·exact Lf Ac (Ew1 au) (ws [0])
   ·exact Lf Ac (Ew1 au) (ws [0])
  intro aR;refine Bn <|Tn <|?_
  have a5:w64 11=11:=by decide
  refine Fe [5,17,18] Ac (Ew1 a5) ?_;refine Un ?_;refine Ug (m:=5) ?_;refine T0 [5,17,18,19] ?_;exact Sq <|Cf <|Sx <|Tx <|Ux <|Bx <|Jm (ws [0])
 intro av;refine Tw [4] (fun aS=>⟨Ar 46 [(4,.bool aS)],[]⟩) ?_ ?_
 ·intro _;refine Sp (fun af=>?_) fun af=>?_
  ·refine Sp (fun ag=>?_) fun ag=>?_
   ·exact Lf Ac (Ew2 af ag) (ws [] (by simp only[go_sem,af,ag]) (by simp only[go_sem,af,ag]))
   ·exact Lf Ac (Ew2 af ag) (ws [] (by simp only[go_sem,af,ag]) (by simp only[go_sem,af,ag]))
  ·exact Lf Ac (Ew1 af) (ws [] (by simp only[go_sem,af]) (by simp only[go_sem,af]))
 intro aS;exact Sr <|Rr
theorem QU{b a r}(h:Gt b a=some r):Con B 63 [.agg [.sl false (L Ag b.Zg1.Ze),.sl false (L Al b.Zg1.Zf),.sl false (L Aa b.Zh1.Zx),.sl false (L Ae b.Zh1.Zy),.sl false (L Ai b.Zh1.Zz),.sl false (L Ah b.Zh1.Za1),.sl false (L Af b.Zi1),.sl false (L Ad b.Zj1),.sl false (L Ab b.Zk1)],.agg [i64 a.Za,i64 a.Ref.Zb,i64 a.Ref.No,i64 a.Zn1,i64 a.Zb1,i64 a.Zc,i64 a.Zo1,i64 a.Zw,i64 a.To,i64 a.Code,i64 a.Zp1,i64 a.Zq1,i64 a.Zr1,i64 a.Zs1,.str a.Zt1,.sl false (L Aj a.Zu1)]] [] (fun r' σ'=>r'=i64 r∧σ'=[]):=by
 refine Cw 19 [.tmp 4] Tryz.func63 (fun F hE=>?_) h;unfold Gt;refine T0 [2,3] ?_;refine Sq <|Bd fun i f =>Te [2,3,4] (o1 6 (EE f)) Ev ?_
 refine T0 [2,3,4,8] ?_;refine Cd ?_ ?_
 ·refine T0 [4] ?_;exact Sr <|Tr <|Rr
 ·refine Sk <|Tn <|Sq <|?_
  refine Tw [18] (fun d=>⟨Ar 19 [(18,.bool d)],[]⟩) ?_ ?_
  ·intro _;refine Bd fun j e=>?_
   refine Sp (fun c=>?_) fun c=>?_
   ·exact Lf (o1 11 (Hv e)) (Ew1 c) (ws [])
   ·refine Bd fun k g=>?_
    exact Lf (o2 11 (Hv e) 16 (PH g)) (Ew1 c) (ws [])
  intro d;refine Cd ?_ ?_
  ·refine T0 [4] ?_;exact Sr <|Tr <|Rr
  ·refine Sk <|Tn <|T0 [4] ?_
   exact Sr <|Rr
theorem Fl{c d a r}(h:E5 c d a=some r):Con B 15 [u64 c,.sl false (L cU8 d),.agg [u64 a.C,u64 a.S]] [] (fun r' σ'=>r'=.bool r∧σ'=[]):=by
 refine Cw 43 [.tmp 6] Tryz.func15 (fun F hE=>?_) h;unfold E5;refine T0 [0,1,5] ?_;refine Sq ?_;refine Tw [0,1,5,25] (fun g=>⟨Ar 43 [(0,u64 c),(1,.sl false (L cU8 d)),(5,.ref 0 0),(25,.bool g)],[.box [u64 a.C,u64 a.S] false]⟩) ?_ ?_
 ·intro _;refine Sp (fun b=>?_) fun b=>?_
  ·exact Lf Ac (Ew1 b) (ws [0])
  ·refine Sp (fun e=>?_) fun e=>?_
   ·exact Lf Ac (Ew2 b e) (ws [0])
   ·refine Sp (fun f=>?_) fun f=>?_
    ·exact Lf Ac (Ew3 b e f) (ws [0])
    ·refine Bd fun v n=>?_
     exact Lf (o1 23 (Jp n)) (Ew3 b e f) (ws [0])
 intro g;refine Cd ?_ ?_
 ·refine T0 [6] ?_;exact Sr <|Tr <|Rr
 ·refine Sk <|Tn <|Bd fun o p =>Bd fun i q =>Bd fun j s =>Bd fun k t =>?_
  intro h;refine RQ hE O2 [[],[],[1],[0,1,2],[],[],[5],[5,6],[0,1,2,3,4,5,6,7],[0,1,2,3,4,5,6,7,8],[0,1,2,3,4,5,6,7,8,9]] (by kernel_rfl) [(),(),(),(),(),(),(),()] [(),(),()] (by kernel_rfl) [(5,0),(27,0),(31,0)] [(26,0)] [5,27,31] [0,1,5,7,27,31] (by kernel_rfl) (fr':=[(0,u64 c),(1,.sl false (L cU8 d)),(5,.ref 0 0),(7,u64 k.1),(27,.ref 0 1),(31,.ref 0 0)]) (σ':=[.box [u64 a.C,u64 a.S] false,.box [u64 k.2] false]) ⟨_,_,(As (l:=[(29,_,_,u64 i),(34,_,_,u64 j)]) (m:=[(26,48,[u64 (2305843009213690799:UInt64)],[.box [u64 a.C,u64 a.S] false],_,_),(35,82,[u64 i,u64 j,.ref 1 0],[.box [u64 a.C,u64 a.S] false,.box [u64 o] false],_,_)]) ⟨FO  q,FO  s,trivial⟩ ⟨(wc (G4 p) []),(wc (En t) [1]),trivial⟩),(by repeat' (first|exact trivial|(refine And.intro ?_ ?_)|exact fun _=>rfl|exact fun h=>absurd h (by decide))),_,_,(by simp only[go_sem];exact AY),(by exact⟨rfl,rfl,rfl,trivial⟩),(by simp only[go_sem];exact AY)⟩ ?_;revert h;refine Bd fun w u =>De [[],[],[],[0,1,2],[],[4],[0,1,2,3,4,5],[0,1,2,3,4,5,6]] [6] (o1 39 (GS u)) Ev ?_
  exact Sr <|Rr
theorem Ny{b a r}(h:E8 b a=some r):Con B 25 [.agg [.sl false (L Ag b.Zg1.Ze),.sl false (L Al b.Zg1.Zf),.sl false (L Aa b.Zh1.Zx),.sl false (L Ae b.Zh1.Zy),.sl false (L Ai b.Zh1.Zz),.sl false (L Ah b.Zh1.Za1),.sl false (L Af b.Zi1),.sl false (L Ad b.Zj1),.sl false (L Ab b.Zk1)],.agg (i64 a.Zb::i64 a.No::(C1 u8 a.Zv1.l++[i64 a.Zw1,i64 a.Zx1.Za,i64 a.Zx1.Ref.Zb,i64 a.Zx1.Ref.No,i64 a.Zx1.Zn1,i64 a.Zx1.Zb1,i64 a.Zx1.Zc,i64 a.Zx1.Zo1,i64 a.Zx1.Zw,i64 a.Zx1.To,i64 a.Zx1.Code,i64 a.Zx1.Zp1,i64 a.Zx1.Zq1,i64 a.Zx1.Zr1,i64 a.Zx1.Zs1,.str a.Zx1.Zt1,.sl false (L Aj a.Zx1.Zu1),u64 a.Sig.C,u64 a.Sig.S]))] [] (fun r' σ'=>r'=i64 r∧σ'=[]):=by
 refine Cw 82 [.tmp 4] Tryz.func25 (fun F hE=>?_) h;unfold E8;refine T0 [2,3] ?_;refine Sq <|Bd fun q k =>Te [2,3,5] (o1 10 (EE k)) Ev ?_
 refine T0 [2,3,5,12] ?_;refine Cd ?_ ?_
 ·refine T0 [4] ?_;exact Sr <|Tr <|Rr
 ·refine Sk <|Tn <|Sq <|?_
  refine Tw [2,3,54] (fun j=>⟨Ar 82 [(2,.ref 0 0),(3,.ref 1 0),(54,.bool j)],[.box [.sl false (L Ag b.Zg1.Ze),.sl false (L Al b.Zg1.Zf),.sl false (L Aa b.Zh1.Zx),.sl false (L Ae b.Zh1.Zy),.sl false (L Ai b.Zh1.Zz),.sl false (L Ah b.Zh1.Za1),.sl false (L Af b.Zi1),.sl false (L Ad b.Zj1),.sl false (L Ab b.Zk1)] false,.box (i64 a.Zb::i64 a.No::(C1 u8 a.Zv1.l++[i64 a.Zw1,i64 a.Zx1.Za,i64 a.Zx1.Ref.Zb,i64 a.Zx1.Ref.No,i64 a.Zx1.Zn1,i64 a.Zx1.Zb1,i64 a.Zx1.Zc,i64 a.Zx1.Zo1,i64 a.Zx1.Zw,i64 a.Zx1.To,i64 a.Zx1.Code,i64 a.Zx1.Zp1,i64 a.Zx1.Zq1,i64 a.Zx1.Zr1,i64 a.Zx1.Zs1,.str a.Zx1.Zt1,.sl false (L Aj a.Zx1.Zu1),u64 a.Sig.C,u64 a.Sig.S])) false]⟩) ?_ ?_
  ·intro _;refine Sp (fun c=>?_) fun c=>?_
   ·exact Lf Ac (Ew1 c) (ws [0,1])
   ·refine Sp (fun d=>?_) fun d=>?_
    ·exact Lf Ac (Ew2 c d) (ws [0,1])
    ·refine Sp (fun e=>?_) fun e=>?_
     ·exact Lf Ac (Ew3 c d e) (ws [0,1])
     ·refine Sp (fun f=>?_) fun f=>?_
      ·exact Lf Ac (Ew4 c d e f) (ws [0,1])
      ·refine Sp (fun g=>?_) fun g=>?_
       ·exact Lf Ac (Ew5 c d e f g) (ws [0,1])
       ·refine Sp (fun i=>?_) fun i=>?_
        ·exact Lf Ac (Ev (by simp only[go_sem,c,d,e,f,g,i];exact AY)) (ws [0,1])
        ·exact Lf Ac (Ev (by simp only[go_sem,c,d,e,f,g,i];exact AY)) (ws [0,1])
  intro j;refine Cd ?_ ?_
  ·refine T0 [4] ?_;exact Sr <|Tr <|Rr
  ·refine Sk <|Tn <|Sq <|Bd fun s m =>Te [2,3,6] (o1 58 (QU m)) Ev ?_
   refine T0 [2,3,6,60] ?_;refine Cd ?_ ?_
   ·refine T0 [4] ?_;exact Sr <|Tr <|Rr
   ·refine Sk <|Tn <|Bd fun t n =>Te [2,3,7,8] (o1 64 (HA n)) Ev ?_
    refine Sq <|T0 [2,3,7,8,68] ?_
    refine Cd ?_ ?_
    ·refine T0 [4] ?_;exact Sr <|Tr <|Rr
    ·refine Sk <|Tn <|Sq <|Ck fun o =>Bd fun u p =>De [[],[0],[],[2],[0,1,2,3],[0,1,2,3,4],[0,1,2,3,4,5],[],[],[8],[0,1,2,3,4,5,6,7,8,9],[0,1,2,3,4,5,6,7,8,9,10]] [81] (o1 80 (Fl p)) (Ew1 (qR o)) ?_
     refine Cd ?_ ?_
     ·refine T0 [4] ?_;exact Sr <|Tr <|Rr
     ·refine Sk <|Tn <|T0 [4] ?_
      exact Sr <|Rr
theorem Hx{a r}(h:EN a=some r):Con B 132 [i64 a] [] (fun r' σ'=>r'=.bool r∧σ'=[]):=by
 refine Cw 6 [.tmp 2] Tryz.func132 (fun F hE=>?_) h;unfold EN;refine T0 [0] ?_;refine T0 [2] ?_;exact Sr <|Rr
theorem Gy{a b r}(h:Df a b=some r):Con B 103 [i64 a,i64 b] [] (fun r' σ'=>r'=i64 r∧σ'=[]):=by
 refine Cw 20 [.tmp 4] Tryz.func103 (fun F hE=>?_) h;unfold Df;refine T0 [0,1] ?_;refine Bd fun e c =>Te [0,1,5] (o1 8 (Hx c)) Ev ?_
 refine Bd fun f d =>Te [0,1,5,6] (o1 10 (Hx d)) Ev ?_
 refine Sq <|T0 [0,1,6,11] ?_
 refine Cd ?_ ?_
 ·refine Sq <|T0 [12] ?_
  refine Cd ?_ ?_
  ·refine T0 [4] ?_;exact Sr <|Tr <|Tr <|Rr
  ·refine Sk <|Tn <|T0 [4] ?_
   exact Sr <|Tr <|Rr
 ·refine Sk <|Tn <|Sq <|T0 [0,1,13] ?_
  refine Cd ?_ ?_
  ·refine T0 [4] ?_;exact Sr <|Tr <|Rr
  ·refine Sk <|Tn <|Sq <|T0 [0,1,16] ?_
   refine Cd ?_ ?_
   ·refine T0 [4] ?_;exact Sr <|Tr <|Rr
   ·refine Sk <|Tn <|Sq <|T0 [19] ?_
    refine Cd ?_ ?_
    ·refine T0 [4] ?_;exact Sr <|Tr <|Rr
    ·refine Sk <|Tn <|T0 [4] ?_
     exact Sr <|Rr
theorem J7{a:List UInt8}{b:List UInt8}{r:Int}(h:Gq a b=some r):Con B 133 [.sl false (L cU8 a),.sl false (L cU8 b)] [] (fun r' σ'=>r'=i64 r∧σ'=[]) :=
 Vw Tryz.func133 (by decide +kernel) rfl (by kernel_rfl) (by kernel_rfl) h
theorem KT{a b r}(h:Ff a b=some r):Con B 104 [.sl false (L cU8 a),.sl false (L cU8 b)] [] (fun r' σ'=>r'=i64 r∧σ'=[]):=by
 refine Cw 8 [.tmp 4] Tryz.func104 (fun F hE=>?_) h;unfold Ff;refine T0 [0,1] ?_;refine Bd fun d c =>Te [4] (o1 7 (J7 c)) Ev ?_
 exact Sr <|Rr
theorem GD{f:ApN→ApN→Option (Int)}{s1_7111:List ApN}{s2_7112:List ApN}{b:ApN→ApN→Option (Int)}(h64:∀{a0:ApN} {a1:ApN} {r:Int},f a0 a1=some r→Con B 64 [.agg [i64 a0.Za,i64 a0.N,.sl false (L cU8 a0.B),.sl false (L cApi_Value a0.L)],.agg [i64 a1.Za,i64 a1.N,.sl false (L cU8 a1.B),.sl false (L cApi_Value a1.L)]] [] (fun r' σ'=>r'=i64 r∧σ'=[])){a:Nat}(i:∀{a0:ApN} {a1:ApN} {r:Int},b a0 a1=some r→Con B a [.agg [i64 a0.Za,i64 a0.N,.sl false (L cU8 a0.B),.sl false (L cApi_Value a0.L)],.agg [i64 a1.Za,i64 a1.N,.sl false (L cU8 a1.B),.sl false (L cApi_Value a1.L)]] [] (fun r' σ'=>r'=i64 r∧σ'=[])){r:Int}(h:BX f s1_7111 s2_7112 b=some r):Con B 105 [.sl false (L cApi_Value s1_7111),.sl false (L cApi_Value s2_7112),.fn a []] [] (fun r' σ'=>r'=i64 r∧σ'=[]):=by
 refine Mv (N:=39) (rs:=[.tmp 6]) ok Tryz.func105 rfl (by decide +kernel) rfl rfl (AqQ rfl) (fun F=>?_);have hE:=ok.env F;unfold BX at h;show Run (B.env F) 0 _ ⟨Ar 39 [(0,.sl false (L cApi_Value s1_7111)),(1,.sl false (L cApi_Value s2_7112)),(2,.fn a [])],[]⟩ _;refine GU ?_;revert h;refine T0 [0,1,2] ?_;refine Jo (fun _=>⟨Ar 39 [(0,.sl false (L cApi_Value s1_7111)),(1,.sl false (L cApi_Value s2_7112))],[]⟩) ?_ ?_
 ·intro ae g;refine T0 [0,1,2,11,12,13] ?_;refine Sb ?_;refine Lo (fun c=>⟨Ar 39 [(0,.sl false (L cApi_Value s1_7111)),(1,.sl false (L cApi_Value s2_7112)),(2,.fn a []),(11,.sl false (L cApi_Value s1_7111)),(12,i64 (s1_7111.length:Int)),(13,i64 c)],[]⟩) (ws []) ?_;rintro c af j d e;show Bl s1_7111 s2_7112 b c=some j→_;unfold Bl;refine T0 [0,1,2,11,12,13,14] ?_;refine Sq <|Cd ?_ ?_
  ·refine Sk <|Tn <|Sq <|Sb <|Ck fun k =>Lt fun l m =>Lt fun n o =>Lt fun p q =>Lt fun s t =>Te (σ':=[.box [i64 l,i64 n,.sl false (L cU8 p),.sl false (L cApi_Value s)] false]) [0,1,2,7,8,11,12,13] Ac (Ew5 (qR k) m o q t) ?_
   refine Sq <|T0 [0,1,2,7,8,11,12,13,21] ?_
   refine Cd ?_ ?_
   ·refine T0 [6] ?_;exact Sr <|Tr <|Br <|Tr <|Lr e d <|Br <|Jr g <|Rr
   ·refine Sk <|Tn <|Ck fun u =>Lt fun v w =>Lt fun x y =>Lt fun z aa =>Lt fun ab ac =>Te (σ':=[_,.box [i64 v,i64 x,.sl false (L cU8 z),.sl false (L cApi_Value ab)] false]) [0,1,2,8,9,11,12,13] Ac (Ew5 (qR u) w y aa ac) ?_
    refine Bd fun ag ad =>Te [0,1,2,10,11,12,13] (o1 29 (i ad)) Ev ?_
    refine T0 [0,1,2,10,11,12,13,31] ?_;refine Cd ?_ ?_
    ·refine T0 [6] ?_;exact Sr <|Br <|Tr <|Lr e d <|Br <|Jr g <|Rr
    ·refine Sk <|Bn <|Tn <|F0 [0,1,2,11,12,13] ?_
     exact Ln (ws [])
  ·refine Sx <|Tx <|Lx e d <|Bx <|?_
   exact Jn ((ws (l':=[(0,.sl false (L cApi_Value s1_7111)),(1,.sl false (L cApi_Value s2_7112))]) (σ':=[]) []).trans (ws []))
 intro _;refine Sq <|T0 [38] ?_
 refine Cd ?_ ?_
 ·refine T0 [6] ?_;exact Sr <|Tr <|Rr
 ·refine Sk <|Tn <|T0 [6] ?_
  exact Sr <|Rr
theorem J1{rec_:ApN→ApN→Option (Int)}(hrec:∀{a:ApN} {b:ApN} {r:Int},rec_ a b=some r→Con B 64 [.agg [i64 a.Za,i64 a.N,.sl false (L cU8 a.B),.sl false (L cApi_Value a.L)],.agg [i64 b.Za,i64 b.N,.sl false (L cU8 b.B),.sl false (L cApi_Value b.L)]] [] (fun r' σ'=>r'=i64 r∧σ'=[])){a:ApN}{b:ApN}{r:Int}(h:DD rec_ a b=some r):Con B 64 [.agg [i64 a.Za,i64 a.N,.sl false (L cU8 a.B),.sl false (L cApi_Value a.L)],.agg [i64 b.Za,i64 b.N,.sl false (L cU8 b.B),.sl false (L cApi_Value b.L)]] [] (fun r' σ'=>r'=i64 r∧σ'=[]):=by
 refine Mv (N:=37) (rs:=[.tmp 4]) ok Tryz.func64 rfl (by decide +kernel) rfl rfl (AqQ rfl) (fun F=>?_);have hE:=ok.env F;unfold DD at h;show Run (B.env F) 0 _ ⟨Ar 37 [(0,.agg [i64 a.Za,i64 a.N,.sl false (L cU8 a.B),.sl false (L cApi_Value a.L)]),(1,.agg [i64 b.Za,i64 b.N,.sl false (L cU8 b.B),.sl false (L cApi_Value b.L)])],[]⟩ _;refine GU ?_;revert h;refine T0 [2,3] ?_;refine Sq <|Bd fun g c =>Te [2,3,5] (o1 10 (Gy c)) Ev ?_
 refine T0 [2,3,5,12] ?_;refine Cd ?_ ?_
 ·refine T0 [4] ?_;exact Sr <|Tr <|Rr
 ·refine Sk <|Tn <|Sq <|T0 [2,3,15] ?_
  refine Sb <|T0 [2,3,15,16] ?_
  refine Cd ?_ ?_
  ·refine Bd fun i d =>Te [4] (o1 22 (Gy d)) Ev ?_
   exact Sr <|Br <|Tr <|Rr
  ·refine T0 [2,3,15,23] ?_;refine Cd ?_ ?_
   ·refine Bd fun j e =>Te [4] (o1 29 (KT e)) Ev ?_
    exact Sr <|Br <|Tr <|Rr
   ·refine T0 [2,3,30] ?_;refine Cd ?_ ?_
    ·refine Bd fun k f =>Te [4] (o1 36 (GD (fun h=>hrec h) (fun h=>hrec h) f)) Ev ?_
     exact Sr <|Br <|Tr <|Rr
    ·refine Sk <|Bn <|Tn <|T0 [4] ?_
     exact Sr <|Rr
theorem JA(n:Nat):∀{a:ApN} {b:ApN} {r:Int},DJ n a b=some r→Con B 64 [.agg [i64 a.Za,i64 a.N,.sl false (L cU8 a.B),.sl false (L cApi_Value a.L)],.agg [i64 b.Za,i64 b.N,.sl false (L cU8 b.B),.sl false (L cApi_Value b.L)]] [] (fun r' σ'=>r'=i64 r∧σ'=[]):=by
 induction n with
 |zero=>intro a b r h;cases h
 |succ n ih=>intro a b r h;exact J1 ih h
theorem KG{a:ApN}{b:ApN}{r:Int}(h:FZ a b=some r):Con B 64 [.agg [i64 a.Za,i64 a.N,.sl false (L cU8 a.B),.sl false (L cApi_Value a.L)],.agg [i64 b.Za,i64 b.N,.sl false (L cU8 b.B),.sl false (L cApi_Value b.L)]] [] (fun r' σ'=>r'=i64 r∧σ'=[]):=JA _ h
theorem Rb{a b r}(h:H5 a b=some r):Con B 27 [.agg (i64 a.Zb::i64 a.No::(C1 u8 a.Zv1.l++[i64 a.Zw1,i64 a.Zx1.Za,i64 a.Zx1.Ref.Zb,i64 a.Zx1.Ref.No,i64 a.Zx1.Zn1,i64 a.Zx1.Zb1,i64 a.Zx1.Zc,i64 a.Zx1.Zo1,i64 a.Zx1.Zw,i64 a.Zx1.To,i64 a.Zx1.Code,i64 a.Zx1.Zp1,i64 a.Zx1.Zq1,i64 a.Zx1.Zr1,i64 a.Zx1.Zs1,.str a.Zx1.Zt1,.sl false (L Aj a.Zx1.Zu1),u64 a.Sig.C,u64 a.Sig.S])),.agg (i64 b.Zb::i64 b.No::(C1 u8 b.Zv1.l++[i64 b.Zw1,i64 b.Zx1.Za,i64 b.Zx1.Ref.Zb,i64 b.Zx1.Ref.No,i64 b.Zx1.Zn1,i64 b.Zx1.Zb1,i64 b.Zx1.Zc,i64 b.Zx1.Zo1,i64 b.Zx1.Zw,i64 b.Zx1.To,i64 b.Zx1.Code,i64 b.Zx1.Zp1,i64 b.Zx1.Zq1,i64 b.Zx1.Zr1,i64 b.Zx1.Zs1,.str b.Zx1.Zt1,.sl false (L Aj b.Zx1.Zu1),u64 b.Sig.C,u64 b.Sig.S]))] [] (fun r' σ'=>r'=.bool r∧σ'=[]):=by
 refine Cw 50 [.tmp 4] Tryz.func27 (fun F hE=>?_) h;unfold H5;refine T0 [2,3] ?_;refine Tw [2,3,5] (fun i=>⟨Ar 50 [(2,.ref 0 0),(3,.ref 1 0),(5,.bool i)],[.box (i64 a.Zb::i64 a.No::(C1 u8 a.Zv1.l++[i64 a.Zw1,i64 a.Zx1.Za,i64 a.Zx1.Ref.Zb,i64 a.Zx1.Ref.No,i64 a.Zx1.Zn1,i64 a.Zx1.Zb1,i64 a.Zx1.Zc,i64 a.Zx1.Zo1,i64 a.Zx1.Zw,i64 a.Zx1.To,i64 a.Zx1.Code,i64 a.Zx1.Zp1,i64 a.Zx1.Zq1,i64 a.Zx1.Zr1,i64 a.Zx1.Zs1,.str a.Zx1.Zt1,.sl false (L Aj a.Zx1.Zu1),u64 a.Sig.C,u64 a.Sig.S])) false,.box (i64 b.Zb::i64 b.No::(C1 u8 b.Zv1.l++[i64 b.Zw1,i64 b.Zx1.Za,i64 b.Zx1.Ref.Zb,i64 b.Zx1.Ref.No,i64 b.Zx1.Zn1,i64 b.Zx1.Zb1,i64 b.Zx1.Zc,i64 b.Zx1.Zo1,i64 b.Zx1.Zw,i64 b.Zx1.To,i64 b.Zx1.Code,i64 b.Zx1.Zp1,i64 b.Zx1.Zq1,i64 b.Zx1.Zr1,i64 b.Zx1.Zs1,.str b.Zx1.Zt1,.sl false (L Aj b.Zx1.Zu1),u64 b.Sig.C,u64 b.Sig.S])) false]⟩) ?_ ?_
 ·intro _;refine Sp (fun c=>?_) fun c=>?_
  ·refine Sp (fun d=>?_) fun d=>?_
   ·refine Sp (fun e=>?_) fun e=>?_
    ·refine Sp (fun f=>?_) fun f=>?_
     ·exact Lf Ac (Ew4 c d e f) (ws [0,1])
     ·exact Lf Ac (Ew4 c d e f) (ws [0,1])
    ·exact Lf Ac (Ew3 c d e) (ws [0,1])
   ·exact Lf Ac (Ew2 c d) (ws [0,1])
  ·exact Lf Ac (Ew1 c) (ws [0,1])
 intro i;refine Dw [[],[0],[0,1],[0,1,2],[0,1,2,3],[0,1],[0,1,5],[0,1,2,3,4,5,6],[0,1,2,3,4,5,6,7],[0,1,2,3,4,5,6,7,8],[0,1,2,3,4,5,6,7,8,9],[0,1,2,3,4,5,6,7,8,9,10]] [4] (fun j=>⟨Ar 50 [(4,.bool j)],[]⟩) ?_ ?_
 ·intro _;refine Sp (fun g=>?_) fun g=>?_
  ·refine Bd fun o k =>Bd fun p m =>Bd fun q n =>?_
   exact Lf (Cp (l:=[(43,_,_,_),(46,_,_,_),(47,_,_,_)]) ⟨HT  k,HT  m,KG  n,trivial⟩) (Ew1 g) (ws [])
  ·exact Lf Ac (Ew1 g) (ws [])
 intro j;exact Sr <|Rr
theorem LZ{d a r}(h:EJ d a=some r):Con B 28 [.sl false (L Ak d),.agg (i64 a.Zb::i64 a.No::(C1 u8 a.Zv1.l++[i64 a.Zw1,i64 a.Zx1.Za,i64 a.Zx1.Ref.Zb,i64 a.Zx1.Ref.No,i64 a.Zx1.Zn1,i64 a.Zx1.Zb1,i64 a.Zx1.Zc,i64 a.Zx1.Zo1,i64 a.Zx1.Zw,i64 a.Zx1.To,i64 a.Zx1.Code,i64 a.Zx1.Zp1,i64 a.Zx1.Zq1,i64 a.Zx1.Zr1,i64 a.Zx1.Zs1,.str a.Zx1.Zt1,.sl false (L Aj a.Zx1.Zu1),u64 a.Sig.C,u64 a.Sig.S]))] [] (fun r' σ'=>r'=i64 r∧σ'=[]):=by
 refine Cw 85 [.tmp 4] Tryz.func28 (fun F hE=>?_) h;unfold EJ;refine T0 [0,3] ?_;refine Sq <|T0 [0,3,15] ?_
 refine Cd ?_ ?_
 ·refine T0 [4] ?_;exact Sr <|Tr <|Rr
 ·refine Sk <|Tn <|T0 [0,3,5] ?_
  refine Jo (fun i=>⟨Ar 85 [(0,.sl false (L Ak d)),(3,.ref 0 0),(5,.ref 1 0)],[.box (i64 a.Zb::i64 a.No::(C1 u8 a.Zv1.l++[i64 a.Zw1,i64 a.Zx1.Za,i64 a.Zx1.Ref.Zb,i64 a.Zx1.Ref.No,i64 a.Zx1.Zn1,i64 a.Zx1.Zb1,i64 a.Zx1.Zc,i64 a.Zx1.Zo1,i64 a.Zx1.Zw,i64 a.Zx1.To,i64 a.Zx1.Code,i64 a.Zx1.Zp1,i64 a.Zx1.Zq1,i64 a.Zx1.Zr1,i64 a.Zx1.Zs1,.str a.Zx1.Zt1,.sl false (L Aj a.Zx1.Zu1),u64 a.Sig.C,u64 a.Sig.S])) false,.box (C1 u8 i.l) false]⟩) ?_ ?_
  ·intro t m;refine T0 [0,3,5,18] ?_;refine Cd ?_ ?_
   ·refine Ck fun n =>Bd fun o p =>Te [0,3,5,6,7] (o1 26 (Iu p)) (Ew1 (qR n)) ?_
    refine Sq ?_;refine Dw [[],[0],[0,1],[0,1,2],[0,1,2,3],[0,1,2],[0,1,2],[0,1,2,6],[0,1,2,6,7],[0,1,2,5,6,7,8],[0,1,2,5,6,7,8,9],[0,1,2,5,6,7,8,9,10],[0,1,2,3,4,5,6,7,8,9,10,11],[0,1,2,3,4,5,6,7,8,9,10,11,12]] [0,3,5,6,42] (fun j=>⟨Ar 85 [(0,.sl false (L Ak d)),(3,.ref 0 0),(5,.ref 1 0),(6,.ref 2 0),(42,.bool j)],[.box (i64 a.Zb::i64 a.No::(C1 u8 a.Zv1.l++[i64 a.Zw1,i64 a.Zx1.Za,i64 a.Zx1.Ref.Zb,i64 a.Zx1.Ref.No,i64 a.Zx1.Zn1,i64 a.Zx1.Zb1,i64 a.Zx1.Zc,i64 a.Zx1.Zo1,i64 a.Zx1.Zw,i64 a.Zx1.To,i64 a.Zx1.Code,i64 a.Zx1.Zp1,i64 a.Zx1.Zq1,i64 a.Zx1.Zr1,i64 a.Zx1.Zs1,.str a.Zx1.Zt1,.sl false (L Aj a.Zx1.Zu1),u64 a.Sig.C,u64 a.Sig.S])) false,.box (C1 u8 (Arr.rep 32 (0:UInt8)).l) false,.box (C1 u8 o.1.l) false]⟩) ?_ ?_
    ·intro _;refine Sp (fun f=>?_) fun f=>?_
     ·exact Lf Ac (Ew1 f) (ws [0,1,2])
     ·refine Ck fun q=>?_
      exact Lf Ac (Ew2 f (qR q)) (ws [0,1,2])
    intro j;refine Cd ?_ ?_
    ·refine T0 [4] ?_;exact Sr <|Tr <|Jr m <|Rr
    ·refine Sk <|Tn <|F0 [0,3,5] ?_
     exact Jn (ws [0,1])
   ·exact Sk <|Jn (ws [0,1])
  intro i;refine Sq <|T0 [0,3,47] ?_
  refine Cd ?_ ?_
  ·refine T0 [4] ?_;exact Sr <|Tr <|Rr
  ·refine Sk <|Tn <|T0 [0,3,8] ?_
   refine T0 [0,3,8,9] ?_;refine Sq ?_;refine Dw [[],[],[0,1],[0,1,2],[0,1,2,3],[0,1,2,3,4],[0,1,2,3],[0,1,2,3,6],[0,1,2,3,4,5,6,7],[0,1,2,3,4,5,6,7,8],[0,1,2,3,4,5,6,7,8,9],[0,1,2,3,4,5,6,7,8,9,10],[0,1,2,3,4,5,6,7,8,9,10,11],[0,1,2,3,4,5,6,7,8,9,10,11,12],[0,1,2,3,4,5,6,7,8,9,10,11,12,13],[0,1,2,3,4,5,6,7,8,9,10,11,12,13,14],[0,1,2,3,4,5,6,7,8,9,10,11,12,13,14,15],[0,1,2,3,4,5,6,7,8,9,10,11,12,13,14],[0,1,2,3,4,5,6,7,8,9,10,11,12,13,14,17],[0,1,2,3,4,5,6,7,8,9,10,11,12,13,14,15,16,17,18],[0,1,2,3,4,5,6,7,8,9,10,11,12,13,14,15,16,17,18,19],[0,1,2,3,4,5,6,7,8,9,10,11,12,13,14,15,16,17,18,19,20],[0,1,2,3,4,5,6,7,8,9,10,11,12,13,14,15,16,17,18,19,20,21],[0,1,2,3,4,5,6,7,8,9,10,11,12,13,14,15,16,17,18,19,20,21],[0,1,2,3,4,5,6,7,8,9,10,11,12,13,14,15,16,17,18,19,20,21,23],[0,1,2,3,4,5,6,7,8,9,10,11,12,13,14,15,16,17,18,19,20,21,23,24],[0,1,2,3,4,5,6,7,8,9,10,11,12,13,14,15,16,17,18,19,20,21,22,23,24,25],[0,1,2,3,4,5,6,7,8,9,10,11,12,13,14,15,16,17,18,19,20,21,22,23,24,25,26],[0,1,2,3,4,5,6,7,8,9,10,11,12,13,14,15,16,17,18,19,20,21,22,23,24,25,26,27],[0,1,2,3,4,5,6,7,8,9,10,11,12,13,14,15,16,17,18,19,20,21,22,23,24,25,26,27,28],[0,1,2,3,4,5,6,7,8,9,10,11,12,13,14,15,16,17,18,19,20,21],[0,1,2,3,4,5,6,7,8,9,10,11,12,13,14,15,16,17,18,19,20,21,22,23,24,25,26,27,28,29,30],[0,1,2,3,4,5,6,7,8,9,10,11,12,13,14,15,16,17,18,19,20,21,22,23,24,25,26,27,28,29,30,31],[0,1,2,3,4,5,6,7,8,9,10,11,12,13,14,15,16,17,18,19,20,21,22,23,24,25,26,27,28,29,30,31,32]] [84] (fun k=>⟨Ar 85 [(84,.bool k)],[]⟩) ?_ ?_
   ·intro _;refine Sp (fun b=>?_) fun b=>?_
    ·refine Sp (fun c=>?_) fun c=>?_
     ·exact Lf Ac (Ew2 b c) (ws [])
     ·refine Sp (fun e=>?_) fun e=>?_
      ·exact Lf Ac (Ew3 b c e) (ws [])
      ·refine Sp (fun g=>?_) fun g=>?_
       ·exact Lf Ac (Ew4 b c e g) (ws [])
       ·refine Ck fun s=>?_
        exact Lf Ac (Ew5 b c e g (qR s)) (ws [])
    ·exact Lf Ac (Ew1 b) (ws [])
   intro k;refine Cd ?_ ?_
   ·refine T0 [4] ?_;exact Sr <|Tr <|Rr
   ·refine Sk <|Tn <|T0 [4] ?_
    exact Sr <|Rr
theorem J2{a r}(h:DK a=some r):Con B 29 [.sl false (L Ak a)] [] (fun r' σ'=>r'=.bs false 0 (r.length) 0 (r.length)∧σ'=[.buf 53 (L Ak r) false]):=by
 refine Co 0 8 [.tmp 2] Tryz.func29 (fun F hE=>?_) h;unfold DK;refine T0 [0] ?_;refine Sq ?_;intro h;refine Qb hE 0 3 4 75 52 rfl rfl rfl rfl rfl rfl rfl (by decide) Tryz.underlying75 (fun b_ hb_=>?_);cases b_
 ·revert h;refine Cf <|Sk <|Tn <|Ck fun c =>?_
  have d:=c;simp only[Aqh,AqP,Aqe,Aqg,Aqr,AqO,Nat.reduceAdd]at d;refine Lt fun b e =>Te (fr':=[(2,.bs false 0 (b.length) 0 (b.length))]) (σ':=[.buf 53 (L Ak b) false]) [2] Ac (Ew3 c d e) ?_
  exact Sr <|Ro [0]
 ·obtain rfl:a=[]:=List.map_eq_nil_iff.1 (hb_ rfl);replace h:some ([])=some r:=by first|exact h|(split at h<;>first|exact h|cases h)
  revert h;refine Ct <|T0 [2] ?_
  refine Rw (RF 2 53 rfl) ?_;exact Sr <|Tr <|Ro [0]
theorem KE{a b r}(h:Fk a b=some r):Con B 31 [.agg (i64 a.A.Zb::i64 a.A.No::(C1 u8 a.A.Zv1.l++i64 a.A.Zw1::i64 a.A.Zx1.Za::i64 a.A.Zx1.Ref.Zb::i64 a.A.Zx1.Ref.No::i64 a.A.Zx1.Zn1::i64 a.A.Zx1.Zb1::i64 a.A.Zx1.Zc::i64 a.A.Zx1.Zo1::i64 a.A.Zx1.Zw::i64 a.A.Zx1.To::i64 a.A.Zx1.Code::i64 a.A.Zx1.Zp1::i64 a.A.Zx1.Zq1::i64 a.A.Zx1.Zr1::i64 a.A.Zx1.Zs1::.str a.A.Zx1.Zt1::.sl false (L Aj a.A.Zx1.Zu1)::u64 a.A.Sig.C::u64 a.A.Sig.S::i64 a.B.Zb::i64 a.B.No::(C1 u8 a.B.Zv1.l++[i64 a.B.Zw1,i64 a.B.Zx1.Za,i64 a.B.Zx1.Ref.Zb,i64 a.B.Zx1.Ref.No,i64 a.B.Zx1.Zn1,i64 a.B.Zx1.Zb1,i64 a.B.Zx1.Zc,i64 a.B.Zx1.Zo1,i64 a.B.Zx1.Zw,i64 a.B.Zx1.To,i64 a.B.Zx1.Code,i64 a.B.Zx1.Zp1,i64 a.B.Zx1.Zq1,i64 a.B.Zx1.Zr1,i64 a.B.Zx1.Zs1,.str a.B.Zx1.Zt1,.sl false (L Aj a.B.Zx1.Zu1),u64 a.B.Sig.C,u64 a.B.Sig.S]))),.ref 0 0] [.box (i64 b.Zb::i64 b.No::(C1 u8 b.Zv1.l++[i64 b.Zw1,i64 b.Zx1.Za,i64 b.Zx1.Ref.Zb,i64 b.Zx1.Ref.No,i64 b.Zx1.Zn1,i64 b.Zx1.Zb1,i64 b.Zx1.Zc,i64 b.Zx1.Zo1,i64 b.Zx1.Zw,i64 b.Zx1.To,i64 b.Zx1.Code,i64 b.Zx1.Zp1,i64 b.Zx1.Zq1,i64 b.Zx1.Zr1,i64 b.Zx1.Zs1,.str b.Zx1.Zt1,.sl false (L Aj b.Zx1.Zu1),u64 b.Sig.C,u64 b.Sig.S])) false] (fun r' σ'=>r'=.bool r.1∧σ'=[.box (i64 r.2.Zb::i64 r.2.No::(C1 u8 r.2.Zv1.l++[i64 r.2.Zw1,i64 r.2.Zx1.Za,i64 r.2.Zx1.Ref.Zb,i64 r.2.Zx1.Ref.No,i64 r.2.Zx1.Zn1,i64 r.2.Zx1.Zb1,i64 r.2.Zx1.Zc,i64 r.2.Zx1.Zo1,i64 r.2.Zx1.Zw,i64 r.2.Zx1.To,i64 r.2.Zx1.Code,i64 r.2.Zx1.Zp1,i64 r.2.Zx1.Zq1,i64 r.2.Zx1.Zr1,i64 r.2.Zx1.Zs1,.str r.2.Zx1.Zt1,.sl false (L Aj r.2.Zx1.Zu1),u64 r.2.Sig.C,u64 r.2.Sig.S])) false]):=by
 refine Co 1 18 [.tmp 3] Tryz.func31 (fun F hE=>?_) h;unfold Fk;refine T0 [1,2] ?_;refine Tw [3] (fun d=>⟨Ar 18 [(3,.bool d)],[.box (i64 b.Zb::i64 b.No::(C1 u8 b.Zv1.l++[i64 b.Zw1,i64 b.Zx1.Za,i64 b.Zx1.Ref.Zb,i64 b.Zx1.Ref.No,i64 b.Zx1.Zn1,i64 b.Zx1.Zb1,i64 b.Zx1.Zc,i64 b.Zx1.Zo1,i64 b.Zx1.Zw,i64 b.Zx1.To,i64 b.Zx1.Code,i64 b.Zx1.Zp1,i64 b.Zx1.Zq1,i64 b.Zx1.Zr1,i64 b.Zx1.Zs1,.str b.Zx1.Zt1,.sl false (L Aj b.Zx1.Zu1),u64 b.Sig.C,u64 b.Sig.S])) false]⟩) ?_ ?_
 ·intro _;refine Sp (fun c=>?_) fun c=>?_
  ·exact Lf Ac (Ew1 c) (ws [0])
  ·exact Lf Ac (Ew1 c) (ws [0])
 intro d;exact Sr <|Ro [0]
theorem FG{a c r}(h:BV a c=some r):Con B 66 [.sl false (L An a),.fn 31 [.ref 0 0]] [.box (i64 c.Zb::i64 c.No::(C1 u8 c.Zv1.l++[i64 c.Zw1,i64 c.Zx1.Za,i64 c.Zx1.Ref.Zb,i64 c.Zx1.Ref.No,i64 c.Zx1.Zn1,i64 c.Zx1.Zb1,i64 c.Zx1.Zc,i64 c.Zx1.Zo1,i64 c.Zx1.Zw,i64 c.Zx1.To,i64 c.Zx1.Code,i64 c.Zx1.Zp1,i64 c.Zx1.Zq1,i64 c.Zx1.Zr1,i64 c.Zx1.Zs1,.str c.Zx1.Zt1,.sl false (L Aj c.Zx1.Zu1),u64 c.Sig.C,u64 c.Sig.S])) false] (fun r' σ'=>r'=i64 r.1∧σ'=[.box (i64 r.2.Zb::i64 r.2.No::(C1 u8 r.2.Zv1.l++[i64 r.2.Zw1,i64 r.2.Zx1.Za,i64 r.2.Zx1.Ref.Zb,i64 r.2.Zx1.Ref.No,i64 r.2.Zx1.Zn1,i64 r.2.Zx1.Zb1,i64 r.2.Zx1.Zc,i64 r.2.Zx1.Zo1,i64 r.2.Zx1.Zw,i64 r.2.Zx1.To,i64 r.2.Zx1.Code,i64 r.2.Zx1.Zp1,i64 r.2.Zx1.Zq1,i64 r.2.Zx1.Zr1,i64 r.2.Zx1.Zs1,.str r.2.Zx1.Zt1,.sl false (L Aj r.2.Zx1.Zu1),u64 r.2.Sig.C,u64 r.2.Sig.S])) false]):=by
 refine Co 1 19 [.tmp 4] Tryz.func66 (fun F hE=>?_) h;unfold BV;refine T0 [0,1] ?_;refine Jo (fun⟨ad,ae,af,ag,ah,ai,aj,ak,al,am,an,ao,ap,aq,ar,au,av,aw,ax,ay,az,aA⟩=>⟨Ar 19 [],[.box (i64 ad::i64 ae::(C1 u8 af.l++[i64 ag,i64 ah,i64 ai,i64 aj,i64 ak,i64 al,i64 am,i64 an,i64 ao,i64 ap,i64 aq,i64 ar,i64 au,i64 av,i64 aw,.str ax,.sl false (L Aj ay),u64 az,u64 aA])) false]⟩) ?_ ?_
 ·intro aH aD;refine T0 [0,1,7,8] ?_;refine Sb ?_;refine Lo (fun⟨b,d,e,f,g,i,j,k,n,o,p,q,s,t,u,v,w,x,y,z,aa,ab,ac⟩=>⟨Ar 19 [(0,.sl false (L An a)),(1,.fn 31 [.ref 0 0]),(7,i64 (a.length:Int)),(8,i64 b)],[.box (i64 d::i64 e::(C1 u8 f.l++[i64 g,i64 i,i64 j,i64 k,i64 n,i64 o,i64 p,i64 q,i64 s,i64 t,i64 u,i64 v,i64 w,i64 x,i64 y,.str z,.sl false (L Aj aa),u64 ab,u64 ac])) false]⟩) (ws [0]) ?_;rintro⟨b,d,e,f,g,i,j,k,n,o,p,q,s,t,u,v,w,x,y,z,aa,ab,ac⟩ aI aE aB aC;show AL a b d e f g i j k n o p q s t u v w x y z aa ab ac=some aE→_;unfold AL;refine T0 [0,1,7,8,9] ?_;refine Sq <|Cd ?_ ?_
  ·refine Sk <|Tn <|Sq <|Sb <|T0 [0,1,5,7,8] ?_
   refine Ck fun aF =>Bd fun aJ aG =>Te [0,1,5,7,8,16] (As (l:=[]) (m:=[(16,31,[.agg (i64 (((nth a b.toNat).A).Zb)::i64 (((nth a b.toNat).A).No)::(C1 u8 (((nth a b.toNat).A).Zv1).l++i64 (((nth a b.toNat).A).Zw1)::i64 ((((nth a b.toNat).A).Zx1).Za)::i64 (((((nth a b.toNat).A).Zx1).Ref).Zb)::i64 (((((nth a b.toNat).A).Zx1).Ref).No)::i64 ((((nth a b.toNat).A).Zx1).Zn1)::i64 ((((nth a b.toNat).A).Zx1).Zb1)::i64 ((((nth a b.toNat).A).Zx1).Zc)::i64 ((((nth a b.toNat).A).Zx1).Zo1)::i64 ((((nth a b.toNat).A).Zx1).Zw)::i64 ((((nth a b.toNat).A).Zx1).To)::i64 ((((nth a b.toNat).A).Zx1).Code)::i64 ((((nth a b.toNat).A).Zx1).Zp1)::i64 ((((nth a b.toNat).A).Zx1).Zq1)::i64 ((((nth a b.toNat).A).Zx1).Zr1)::i64 ((((nth a b.toNat).A).Zx1).Zs1)::.str ((((nth a b.toNat).A).Zx1).Zt1)::.sl false (L Aj ((((nth a b.toNat).A).Zx1).Zu1))::u64 ((((nth a b.toNat).A).Sig).C)::u64 ((((nth a b.toNat).A).Sig).S)::i64 (((nth a b.toNat).B).Zb)::i64 (((nth a b.toNat).B).No)::(C1 u8 (((nth a b.toNat).B).Zv1).l++[i64 (((nth a b.toNat).B).Zw1),i64 ((((nth a b.toNat).B).Zx1).Za),i64 (((((nth a b.toNat).B).Zx1).Ref).Zb),i64 (((((nth a b.toNat).B).Zx1).Ref).No),i64 ((((nth a b.toNat).B).Zx1).Zn1),i64 ((((nth a b.toNat).B).Zx1).Zb1),i64 ((((nth a b.toNat).B).Zx1).Zc),i64 ((((nth a b.toNat).B).Zx1).Zo1),i64 ((((nth a b.toNat).B).Zx1).Zw),i64 ((((nth a b.toNat).B).Zx1).To),i64 ((((nth a b.toNat).B).Zx1).Code),i64 ((((nth a b.toNat).B).Zx1).Zp1),i64 ((((nth a b.toNat).B).Zx1).Zq1),i64 ((((nth a b.toNat).B).Zx1).Zr1),i64 ((((nth a b.toNat).B).Zx1).Zs1),.str ((((nth a b.toNat).B).Zx1).Zt1),.sl false (L Aj ((((nth a b.toNat).B).Zx1).Zu1)),u64 ((((nth a b.toNat).B).Sig).C),u64 ((((nth a b.toNat).B).Sig).S)]))),.ref 0 0],[.box (i64 d::i64 e::(C1 u8 f.l++[i64 g,i64 i,i64 j,i64 k,i64 n,i64 o,i64 p,i64 q,i64 s,i64 t,i64 u,i64 v,i64 w,i64 x,i64 y,.str z,.sl false (L Aj aa),u64 ab,u64 ac])) false],_,_)]) trivial ⟨(wc (KE aG) [0]),trivial⟩) (Ew1 (qR aF)) ?_
   refine Cd ?_ ?_
   ·refine T0 [4] ?_;exact Sr <|Br <|Tr <|Lr aC aB <|Br <|Jr aD <|Ro [0]
   ·refine Sk <|Bn <|Tn <|F0 [0,1,7,8] ?_
    exact Ln (ws [0])
  ·refine Sx <|Tx <|Lx aC aB <|Bx <|?_
   exact Jn ((ws (l':=[]) (σ':=[.box (i64 d::i64 e::(C1 u8 f.l++[i64 g,i64 i,i64 j,i64 k,i64 n,i64 o,i64 p,i64 q,i64 s,i64 t,i64 u,i64 v,i64 w,i64 x,i64 y,.str z,.sl false (L Aj aa),u64 ab,u64 ac])) false]) [0]).trans (ws [0]))
 rintro⟨ad,ae,af,ag,ah,ai,aj,ak,al,am,an,ao,ap,aq,ar,au,av,aw,ax,ay,az,aA⟩;refine T0 [4] ?_;exact Sr <|Ro [0]
theorem EW{b a r}(h:Bh b a=some r):Con B 30 [.sl false (L An b),.fn 31 [.ref 0 0]] [.box (i64 a.Zb::i64 a.No::(C1 u8 a.Zv1.l++[i64 a.Zw1,i64 a.Zx1.Za,i64 a.Zx1.Ref.Zb,i64 a.Zx1.Ref.No,i64 a.Zx1.Zn1,i64 a.Zx1.Zb1,i64 a.Zx1.Zc,i64 a.Zx1.Zo1,i64 a.Zx1.Zw,i64 a.Zx1.To,i64 a.Zx1.Code,i64 a.Zx1.Zp1,i64 a.Zx1.Zq1,i64 a.Zx1.Zr1,i64 a.Zx1.Zs1,.str a.Zx1.Zt1,.sl false (L Aj a.Zx1.Zu1),u64 a.Sig.C,u64 a.Sig.S])) false] (fun r' σ'=>r'=.bool r.1∧σ'=[.box (i64 r.2.Zb::i64 r.2.No::(C1 u8 r.2.Zv1.l++[i64 r.2.Zw1,i64 r.2.Zx1.Za,i64 r.2.Zx1.Ref.Zb,i64 r.2.Zx1.Ref.No,i64 r.2.Zx1.Zn1,i64 r.2.Zx1.Zb1,i64 r.2.Zx1.Zc,i64 r.2.Zx1.Zo1,i64 r.2.Zx1.Zw,i64 r.2.Zx1.To,i64 r.2.Zx1.Code,i64 r.2.Zx1.Zp1,i64 r.2.Zx1.Zq1,i64 r.2.Zx1.Zr1,i64 r.2.Zx1.Zs1,.str r.2.Zx1.Zt1,.sl false (L Aj r.2.Zx1.Zu1),u64 r.2.Sig.C,u64 r.2.Sig.S])) false]):=by
 refine Co 1 9 [.tmp 4] Tryz.func30 (fun F hE=>?_) h;unfold Bh;refine T0 [0,1] ?_;refine Bd fun d c =>Te [4] (As (l:=[]) (m:=[(7,66,[.sl false (L An b),.fn 31 [.ref 0 0]],[.box (i64 a.Zb::i64 a.No::(C1 u8 a.Zv1.l++[i64 a.Zw1,i64 a.Zx1.Za,i64 a.Zx1.Ref.Zb,i64 a.Zx1.Ref.No,i64 a.Zx1.Zn1,i64 a.Zx1.Zb1,i64 a.Zx1.Zc,i64 a.Zx1.Zo1,i64 a.Zx1.Zw,i64 a.Zx1.To,i64 a.Zx1.Code,i64 a.Zx1.Zp1,i64 a.Zx1.Zq1,i64 a.Zx1.Zr1,i64 a.Zx1.Zs1,.str a.Zx1.Zt1,.sl false (L Aj a.Zx1.Zu1),u64 a.Sig.C,u64 a.Sig.S])) false],_,_)]) trivial ⟨(wc (FG c) [0]),trivial⟩) Ev ?_
 exact Sr <|Ro [0]
theorem JB{a r}(h:DH a=some r):Con B 32 [.sl false (L An a)] [] (fun r' σ'=>r'=.bs false 0 (r.length) 0 (r.length)∧σ'=[.buf 106 (L An r) false]):=by
 refine Co 0 8 [.tmp 2] Tryz.func32 (fun F hE=>?_) h;unfold DH;refine T0 [0] ?_;refine Sq ?_;intro h;refine Qb hE 0 3 4 38 88 rfl rfl rfl rfl rfl rfl rfl (by decide) Tryz.underlying38 (fun b_ hb_=>?_);cases b_
 ·revert h;refine Cf <|Sk <|Tn <|Ck fun c =>?_
  have d:=c;simp only[Aqh,AqP,Aqe,Aqg,Aqr,AqO,Nat.reduceAdd]at d;refine Lt fun b e =>Te (fr':=[(2,.bs false 0 (b.length) 0 (b.length))]) (σ':=[.buf 106 (L An b) false]) [2] Ac (Ew3 c d e) ?_
  exact Sr <|Ro [0]
 ·obtain rfl:a=[]:=List.map_eq_nil_iff.1 (hb_ rfl);replace h:some ([])=some r:=by first|exact h|(split at h<;>first|exact h|cases h)
  revert h;refine Ct <|T0 [2] ?_
  refine Rw (RF 2 106 rfl) ?_;exact Sr <|Tr <|Ro [0]
theorem Dd{b d a r}(h:Bb b d a=some r):Con B 10 [.agg [.sl false (L Ag b.Zg1.Ze),.sl false (L Al b.Zg1.Zf),.sl false (L Aa b.Zh1.Zx),.sl false (L Ae b.Zh1.Zy),.sl false (L Ai b.Zh1.Zz),.sl false (L Ah b.Zh1.Za1),.sl false (L Af b.Zi1),.sl false (L Ad b.Zj1),.sl false (L Ab b.Zk1)],.agg [.sl false (L (cSl Ak) d.Zy1),.sl false (L An d.Zz1)],.agg (i64 a.Zb::i64 a.No::(C1 u8 a.Zv1.l++[i64 a.Zw1,i64 a.Zx1.Za,i64 a.Zx1.Ref.Zb,i64 a.Zx1.Ref.No,i64 a.Zx1.Zn1,i64 a.Zx1.Zb1,i64 a.Zx1.Zc,i64 a.Zx1.Zo1,i64 a.Zx1.Zw,i64 a.Zx1.To,i64 a.Zx1.Code,i64 a.Zx1.Zp1,i64 a.Zx1.Zq1,i64 a.Zx1.Zr1,i64 a.Zx1.Zs1,.str a.Zx1.Zt1,.sl false (L Aj a.Zx1.Zu1),u64 a.Sig.C,u64 a.Sig.S]))] [] (fun r' σ'=>r'=.tup [.agg [.sl false (L (cSl Ak) r.1.Zy1),.sl false (L An r.1.Zz1)],i64 r.2]∧σ'=[]):=by
 refine Cw 95 [.cell 6 40,.tmp 7] Tryz.func10 (fun F hE=>?_) h;unfold Bb;refine T0 [3,4,5,6] ?_;refine Sq <|Bd fun aj t =>Te [3,4,5,6,7] (o1 11 (Ny t)) Ev ?_
 refine T0 [3,4,5,6,7,13] ?_;refine Cd ?_ ?_
 ·refine T0 [6,7] ?_;exact Sr <|Tr <|Rr
 ·refine Sk <|Tn <|Bd fun e u =>Te [3,4,5,6,8] (o1 19 (Jk u)) Ev ?_
  refine Sq ?_;refine Dw [[],[0],[],[2],[0,1,2,3],[0,1,2,3,4],[0,1,2,3,4,5],[0,1,2,3,4,5],[0,1,2,3,4,5,7],[0,1,2,3,4,5,7,8],[0,1,2,3,4,5,6,7,8,9],[0,1,2,3,4,5,6,7,8,9,10],[0,1,2,3,4,5],[0,1,2,3,4,5,6,7,8,9,10,11,12],[0,1,2,3,4,5,6,7,8,9,10,11,12,13]] [3,4,5,6,8,34] (fun p=>⟨Ar 95 [(3,.ref 0 0),(4,.ref 1 0),(5,.ref 2 0),(6,.ref 3 0),(8,.sl false (L Ak e)),(34,.bool p)],[.box [.sl false (L Ag b.Zg1.Ze),.sl false (L Al b.Zg1.Zf),.sl false (L Aa b.Zh1.Zx),.sl false (L Ae b.Zh1.Zy),.sl false (L Ai b.Zh1.Zz),.sl false (L Ah b.Zh1.Za1),.sl false (L Af b.Zi1),.sl false (L Ad b.Zj1),.sl false (L Ab b.Zk1)] false,.box [.sl false (L (cSl Ak) d.Zy1),.sl false (L An d.Zz1)] false,.box (i64 a.Zb::i64 a.No::(C1 u8 a.Zv1.l++[i64 a.Zw1,i64 a.Zx1.Za,i64 a.Zx1.Ref.Zb,i64 a.Zx1.Ref.No,i64 a.Zx1.Zn1,i64 a.Zx1.Zb1,i64 a.Zx1.Zc,i64 a.Zx1.Zo1,i64 a.Zx1.Zw,i64 a.Zx1.To,i64 a.Zx1.Code,i64 a.Zx1.Zp1,i64 a.Zx1.Zq1,i64 a.Zx1.Zr1,i64 a.Zx1.Zs1,.str a.Zx1.Zt1,.sl false (L Aj a.Zx1.Zu1),u64 a.Sig.C,u64 a.Sig.S])) false,.box [.sl true (L (cSl Ak) ([])),.sl true (L An ([]))] false]⟩) ?_ ?_
  ·intro _;refine Sp (fun k=>?_) fun k=>?_
   ·refine Ck fun v =>Bd fun ak w =>?_
    exact Lf (o1 33 (Rb w)) (Ew2 k (qR v)) (ws [0,1,2,3])
   ·exact Lf Ac (Ew1 k) (ws [0,1,2,3])
  intro p;refine Cd ?_ ?_
  ·refine T0 [6,7] ?_;exact Sr <|Tr <|Rr
  ·refine Sk <|Tn <|Sq <|Bd fun al x =>Te [3,4,5,6,7,8] (o1 38 (LZ x)) Ev ?_
   refine T0 [3,4,5,6,7,8,40] ?_;refine Cd ?_ ?_
   ·refine T0 [6,7] ?_;exact Sr <|Tr <|Rr
   ·refine Sk <|Tn <|T0 [3,4,5,6,8] ?_
    refine Sq <|T0 [3,4,5,6,8,49] ?_
    refine Cd ?_ ?_
    ·refine Ck fun y =>Lt fun n z =>Te (σ':=[_,_,_,.box [.bs true 4 (n.length) 0 (n.length),.sl false (L An d.Zz1)] false,.buf 1 (L (cSl Ak) n) false]) [4,5,6,8] Ac (Ew2 y z) ?_
     refine Lt fun f aa =>Te (σ':=[_,_,_,.box [.bs true 4 (f.length) 0 (f.length),.sl false (L An d.Zz1)] false,.buf 1 (L (cSl Ak) f) false]) [5,6,8] Ac (Ew1 aa) ?_
     refine Bd fun g ab =>Ck fun ac =>Ck fun ad =>Lt fun j q =>?_
     intro h;refine Aag hE O2 [[],[0],[],[2],[],[4],[],[6],[4,5,6,7],[0,1,2,3,4,5,6,7,8],[0,1,2,3,4,5,6,7,8,9]] (by kernel_rfl) [(5,2),(6,3),(64,3),(66,2)] [(69,2),(69,3)] [(69,5)] [] [5,6,64,66,69] (by kernel_rfl) (fr':=[(5,.ref 2 0),(6,.ref 3 0),(64,.ref 3 0),(66,.ref 2 0),(69,.bs false 5 (g.length) 0 (g.length))]) (σ':=[.box [.sl false (L Ag b.Zg1.Ze),.sl false (L Al b.Zg1.Zf),.sl false (L Aa b.Zh1.Zx),.sl false (L Ae b.Zh1.Zy),.sl false (L Ai b.Zh1.Zz),.sl false (L Ah b.Zh1.Za1),.sl false (L Af b.Zi1),.sl false (L Ad b.Zj1),.sl false (L Ab b.Zk1)] false,.box [.sl false (L (cSl Ak) d.Zy1),.sl false (L An d.Zz1)] false,.box (i64 a.Zb::i64 a.No::(C1 u8 a.Zv1.l++[i64 a.Zw1,i64 a.Zx1.Za,i64 a.Zx1.Ref.Zb,i64 a.Zx1.Ref.No,i64 a.Zx1.Zn1,i64 a.Zx1.Zb1,i64 a.Zx1.Zc,i64 a.Zx1.Zo1,i64 a.Zx1.Zw,i64 a.Zx1.To,i64 a.Zx1.Code,i64 a.Zx1.Zp1,i64 a.Zx1.Zq1,i64 a.Zx1.Zr1,i64 a.Zx1.Zs1,.str a.Zx1.Zt1,.sl false (L Aj a.Zx1.Zu1),u64 a.Sig.C,u64 a.Sig.S])) false,.box [.bs true 4 (j.length) 0 (j.length),.sl false (L An d.Zz1)] false,.buf 1 ((L (cSl Ak) f).set (a.Zb.toNat) [.bs false 5 ((g++([a]:List ApK)).length) 0 ((g++([a]:List ApK)).length)]) false,.buf 53 (L Ak (g++([a]:List ApK))) false]) ⟨rfl,rfl,rfl,rfl,trivial⟩ ⟨(by exact And.intro rfl (And.intro rfl rfl)),trivial⟩ trivial ⟨_,_,(As (l:=[]) (m:=[(69,29,[.sl false (L Ak e)],[.box [.sl false (L Ag b.Zg1.Ze),.sl false (L Al b.Zg1.Zf),.sl false (L Aa b.Zh1.Zx),.sl false (L Ae b.Zh1.Zy),.sl false (L Ai b.Zh1.Zz),.sl false (L Ah b.Zh1.Za1),.sl false (L Af b.Zi1),.sl false (L Ad b.Zj1),.sl false (L Ab b.Zk1)] false,.box [.sl false (L (cSl Ak) d.Zy1),.sl false (L An d.Zz1)] false,.box (i64 a.Zb::i64 a.No::(C1 u8 a.Zv1.l++[i64 a.Zw1,i64 a.Zx1.Za,i64 a.Zx1.Ref.Zb,i64 a.Zx1.Ref.No,i64 a.Zx1.Zn1,i64 a.Zx1.Zb1,i64 a.Zx1.Zc,i64 a.Zx1.Zo1,i64 a.Zx1.Zw,i64 a.Zx1.To,i64 a.Zx1.Code,i64 a.Zx1.Zp1,i64 a.Zx1.Zq1,i64 a.Zx1.Zr1,i64 a.Zx1.Zs1,.str a.Zx1.Zt1,.sl false (L Aj a.Zx1.Zu1),u64 a.Sig.C,u64 a.Sig.S])) false,.box [.bs true 4 (f.length) 0 (f.length),.sl false (L An d.Zz1)] false,.buf 1 (L (cSl Ak) f) false],_,_)]) trivial ⟨(wc (J2 ab) []),trivial⟩),(by repeat' (first|exact trivial|(refine And.intro ?_ ?_)|exact fun _=>rfl|exact fun h=>absurd h (by decide))),?_⟩ ?_
     ·subst q;simp only[go_sem,ac,qR ad]
     revert h;refine Rw (U8 4 5 (cr:=Ak) (lg:=f) (lg':=j) (i:=a.Zb) (row:=(g++([a]:List ApK))) (full:=false) (σ':=[.box [.sl false (L Ag b.Zg1.Ze),.sl false (L Al b.Zg1.Zf),.sl false (L Aa b.Zh1.Zx),.sl false (L Ae b.Zh1.Zy),.sl false (L Ai b.Zh1.Zz),.sl false (L Ah b.Zh1.Za1),.sl false (L Af b.Zi1),.sl false (L Ad b.Zj1),.sl false (L Ab b.Zk1)] false,.box [.sl false (L (cSl Ak) d.Zy1),.sl false (L An d.Zz1)] false,.box (i64 a.Zb::i64 a.No::(C1 u8 a.Zv1.l++[i64 a.Zw1,i64 a.Zx1.Za,i64 a.Zx1.Ref.Zb,i64 a.Zx1.Ref.No,i64 a.Zx1.Zn1,i64 a.Zx1.Zb1,i64 a.Zx1.Zc,i64 a.Zx1.Zo1,i64 a.Zx1.Zw,i64 a.Zx1.To,i64 a.Zx1.Code,i64 a.Zx1.Zp1,i64 a.Zx1.Zq1,i64 a.Zx1.Zr1,i64 a.Zx1.Zs1,.str a.Zx1.Zt1,.sl false (L Aj a.Zx1.Zu1),u64 a.Sig.C,u64 a.Sig.S])) false,.box [.bs true 4 (j.length) 0 (j.length),.sl false (L An d.Zz1)] false,.buf 1 (L (cSl Ak) j) false,.buf 53 (L Ak (g++([a]:List ApK))) true]) (by assumption) rfl rfl (by decide) gs q rfl) ?_;refine T0 [6,7] ?_;exact Sr <|Tr <|Rr
    ·refine Sk <|Tn <|?_
     refine Ja (fun s=>⟨Ar 95 [(6,.ref 0 0)],[.box [.sl false (L (cSl Ak) d.Zy1),.sl false (L An s)] false]⟩) ?_ ?_
     ·intro am;refine Bd fun c ae =>Te [4,5,6,8,79] (As (l:=[]) (m:=[(78,30,[.sl false (L An d.Zz1),.fn 31 [.ref 2 0]],[.box [.sl false (L Ag b.Zg1.Ze),.sl false (L Al b.Zg1.Zf),.sl false (L Aa b.Zh1.Zx),.sl false (L Ae b.Zh1.Zy),.sl false (L Ai b.Zh1.Zz),.sl false (L Ah b.Zh1.Za1),.sl false (L Af b.Zi1),.sl false (L Ad b.Zj1),.sl false (L Ab b.Zk1)] false,.box [.sl false (L (cSl Ak) d.Zy1),.sl false (L An d.Zz1)] false,.box (i64 a.Zb::i64 a.No::(C1 u8 a.Zv1.l++[i64 a.Zw1,i64 a.Zx1.Za,i64 a.Zx1.Ref.Zb,i64 a.Zx1.Ref.No,i64 a.Zx1.Zn1,i64 a.Zx1.Zb1,i64 a.Zx1.Zc,i64 a.Zx1.Zo1,i64 a.Zx1.Zw,i64 a.Zx1.To,i64 a.Zx1.Code,i64 a.Zx1.Zp1,i64 a.Zx1.Zq1,i64 a.Zx1.Zr1,i64 a.Zx1.Zs1,.str a.Zx1.Zt1,.sl false (L Aj a.Zx1.Zu1),u64 a.Sig.C,u64 a.Sig.S])) false,.box [.sl false (L (cSl Ak) d.Zy1),.sl false (L An d.Zz1)] false],_,_)]) trivial ⟨(wc (EW ae) [2]),trivial⟩) Ev ?_
      refine Cd ?_ ?_
      ·refine Bd fun an af =>Ck fun ag =>Ck fun ah =>Lt fun o ai =>?_
       intro h;refine Q0 hE O2 [[],[0],[0,1],[],[],[4],[4,5],[3,4,5,6],[3,4,5,6,7],[],[3,4,5,6,7,8,9],[3,4,5,6,7,8,9,10],[0,1,2,3,4,5,6,7,8,9,10,11],[0,1,2,3,4,5,6,7,8,9,10,11,12],[0,1,2,3,4,5,6,7,8,9,10,11,12,13]] (by kernel_rfl) [(5,2),(84,2)] [(82,2)] [] [83,87] [5,6,83,84,87] (by kernel_rfl) NF (fr':=[(5,.ref 2 0),(6,.ref 3 0),(83,.sl false (L Ak e)),(84,.ref 2 1),(87,.rp (i64 ((nth e ((w64 (c.2.No-1)).toNat)).Zb)::i64 ((nth e ((w64 (c.2.No-1)).toNat)).No)::(C1 u8 ((nth e ((w64 (c.2.No-1)).toNat)).Zv1).l++[i64 ((nth e ((w64 (c.2.No-1)).toNat)).Zw1),i64 (((nth e ((w64 (c.2.No-1)).toNat)).Zx1).Za),i64 ((((nth e ((w64 (c.2.No-1)).toNat)).Zx1).Ref).Zb),i64 ((((nth e ((w64 (c.2.No-1)).toNat)).Zx1).Ref).No),i64 (((nth e ((w64 (c.2.No-1)).toNat)).Zx1).Zn1),i64 (((nth e ((w64 (c.2.No-1)).toNat)).Zx1).Zb1),i64 (((nth e ((w64 (c.2.No-1)).toNat)).Zx1).Zc),i64 (((nth e ((w64 (c.2.No-1)).toNat)).Zx1).Zo1),i64 (((nth e ((w64 (c.2.No-1)).toNat)).Zx1).Zw),i64 (((nth e ((w64 (c.2.No-1)).toNat)).Zx1).To),i64 (((nth e ((w64 (c.2.No-1)).toNat)).Zx1).Code),i64 (((nth e ((w64 (c.2.No-1)).toNat)).Zx1).Zp1),i64 (((nth e ((w64 (c.2.No-1)).toNat)).Zx1).Zq1),i64 (((nth e ((w64 (c.2.No-1)).toNat)).Zx1).Zr1),i64 (((nth e ((w64 (c.2.No-1)).toNat)).Zx1).Zs1),.str (((nth e ((w64 (c.2.No-1)).toNat)).Zx1).Zt1),.sl false (L Aj (((nth e ((w64 (c.2.No-1)).toNat)).Zx1).Zu1)),u64 (((nth e ((w64 (c.2.No-1)).toNat)).Sig).C),u64 (((nth e ((w64 (c.2.No-1)).toNat)).Sig).S)])))]) (σ':=[.box [.sl false (L Ag b.Zg1.Ze),.sl false (L Al b.Zg1.Zf),.sl false (L Aa b.Zh1.Zx),.sl false (L Ae b.Zh1.Zy),.sl false (L Ai b.Zh1.Zz),.sl false (L Ah b.Zh1.Za1),.sl false (L Af b.Zi1),.sl false (L Ad b.Zj1),.sl false (L Ab b.Zk1)] false,.box [.sl false (L (cSl Ak) d.Zy1),.sl false (L An d.Zz1)] false,.box (i64 c.2.Zb::i64 c.2.No::(C1 u8 c.2.Zv1.l++[i64 c.2.Zw1,i64 c.2.Zx1.Za,i64 c.2.Zx1.Ref.Zb,i64 c.2.Zx1.Ref.No,i64 c.2.Zx1.Zn1,i64 c.2.Zx1.Zb1,i64 c.2.Zx1.Zc,i64 c.2.Zx1.Zo1,i64 c.2.Zx1.Zw,i64 c.2.Zx1.To,i64 c.2.Zx1.Code,i64 c.2.Zx1.Zp1,i64 c.2.Zx1.Zq1,i64 c.2.Zx1.Zr1,i64 c.2.Zx1.Zs1,.str c.2.Zx1.Zt1,.sl false (L Aj c.2.Zx1.Zu1),u64 c.2.Sig.C,u64 c.2.Sig.S])) false,.box [.sl false (L (cSl Ak) d.Zy1),.bs false 4 (o.length) 0 (o.length)] false,.buf 106 (L An o) false]) ⟨rfl,rfl,trivial⟩ trivial ⟨rfl,rfl,trivial⟩ ⟨_,_,(As (l:=[]) (m:=[(82,32,[.sl false (L An d.Zz1)],[.box [.sl false (L Ag b.Zg1.Ze),.sl false (L Al b.Zg1.Zf),.sl false (L Aa b.Zh1.Zx),.sl false (L Ae b.Zh1.Zy),.sl false (L Ai b.Zh1.Zz),.sl false (L Ah b.Zh1.Za1),.sl false (L Af b.Zi1),.sl false (L Ad b.Zj1),.sl false (L Ab b.Zk1)] false,.box [.sl false (L (cSl Ak) d.Zy1),.sl false (L An d.Zz1)] false,.box (i64 c.2.Zb::i64 c.2.No::(C1 u8 c.2.Zv1.l++[i64 c.2.Zw1,i64 c.2.Zx1.Za,i64 c.2.Zx1.Ref.Zb,i64 c.2.Zx1.Ref.No,i64 c.2.Zx1.Zn1,i64 c.2.Zx1.Zb1,i64 c.2.Zx1.Zc,i64 c.2.Zx1.Zo1,i64 c.2.Zx1.Zw,i64 c.2.Zx1.To,i64 c.2.Zx1.Code,i64 c.2.Zx1.Zp1,i64 c.2.Zx1.Zq1,i64 c.2.Zx1.Zr1,i64 c.2.Zx1.Zs1,.str c.2.Zx1.Zt1,.sl false (L Aj c.2.Zx1.Zu1),u64 c.2.Sig.C,u64 c.2.Sig.S])) false,.box [.sl false (L (cSl Ak) d.Zy1),.sl false (L An d.Zz1)] false],_,_)]) trivial ⟨(wc (JB af) []),trivial⟩),(by repeat' (first|exact trivial|(refine And.intro ?_ ?_)|exact fun _=>rfl|exact fun h=>absurd h (by decide))),?_⟩ ?_
       ·subst ai;simp only[go_sem,qR ag,ah]
       revert h;exact Jm ((I9 3 1 rfl rfl rfl gs gs).trans (ws [3]))
      ·exact Sk <|Jm (ws [3])
     intro s;refine T0 [6,7] ?_;exact Sr <|Rr
theorem Eh{b c d f e a r}(h:BE b c d f e a=some r):Con B 21 [.agg [.sl false (L Ag b.Zg1.Ze),.sl false (L Al b.Zg1.Zf),.sl false (L Aa b.Zh1.Zx),.sl false (L Ae b.Zh1.Zy),.sl false (L Ai b.Zh1.Zz),.sl false (L Ah b.Zh1.Za1),.sl false (L Af b.Zi1),.sl false (L Ad b.Zj1),.sl false (L Ab b.Zk1)],.agg [.sl false (L (cSl Ak) c.Zy1),.sl false (L An c.Zz1)],i64 d,u64 f,i64 e,.agg [i64 a.Za,i64 a.Ref.Zb,i64 a.Ref.No,i64 a.Zn1,i64 a.Zb1,i64 a.Zc,i64 a.Zo1,i64 a.Zw,i64 a.To,i64 a.Code,i64 a.Zp1,i64 a.Zq1,i64 a.Zr1,i64 a.Zs1,.str a.Zt1,.sl false (L Aj a.Zu1)]] [] (fun r' σ'=>r'=.tup [.agg (i64 r.1.Zb::i64 r.1.No::(C1 u8 r.1.Zv1.l++[i64 r.1.Zw1,i64 r.1.Zx1.Za,i64 r.1.Zx1.Ref.Zb,i64 r.1.Zx1.Ref.No,i64 r.1.Zx1.Zn1,i64 r.1.Zx1.Zb1,i64 r.1.Zx1.Zc,i64 r.1.Zx1.Zo1,i64 r.1.Zx1.Zw,i64 r.1.Zx1.To,i64 r.1.Zx1.Code,i64 r.1.Zx1.Zp1,i64 r.1.Zx1.Zq1,i64 r.1.Zx1.Zr1,i64 r.1.Zx1.Zs1,.str r.1.Zx1.Zt1,.sl false (L Aj r.1.Zx1.Zu1),u64 r.1.Sig.C,u64 r.1.Sig.S])),i64 r.2]∧σ'=[]):=by
 refine Cw 112 [.cell 12 52,.tmp 13] Tryz.func21 (fun F hE=>?_) h;unfold BE;refine T0 [2,3,4,6,7,11,12] ?_;refine Sq <|Bd fun y m =>Te [2,3,4,6,7,11,12,13] (o1 19 (EE m)) Ev ?_
 refine T0 [2,3,4,6,7,11,12,13,21] ?_;refine Cd ?_ ?_
 ·refine T0 [12,13] ?_;exact Sr <|Tr <|Rr
 ·refine Sk <|Tn <|Sq <|?_
  refine Tw [2,3,4,6,7,11,12,32] (fun i=>⟨Ar 112 [(2,i64 d),(3,u64 f),(4,i64 e),(6,.ref 0 0),(7,.ref 1 0),(11,.ref 2 0),(12,.ref 3 0),(32,.bool i)],[.box [.sl false (L Ag b.Zg1.Ze),.sl false (L Al b.Zg1.Zf),.sl false (L Aa b.Zh1.Zx),.sl false (L Ae b.Zh1.Zy),.sl false (L Ai b.Zh1.Zz),.sl false (L Ah b.Zh1.Za1),.sl false (L Af b.Zi1),.sl false (L Ad b.Zj1),.sl false (L Ab b.Zk1)] false,.box [.sl false (L (cSl Ak) c.Zy1),.sl false (L An c.Zz1)] false,.box [i64 a.Za,i64 a.Ref.Zb,i64 a.Ref.No,i64 a.Zn1,i64 a.Zb1,i64 a.Zc,i64 a.Zo1,i64 a.Zw,i64 a.To,i64 a.Code,i64 a.Zp1,i64 a.Zq1,i64 a.Zr1,i64 a.Zs1,.str a.Zt1,.sl false (L Aj a.Zu1)] false,.box (i64 0::i64 0::(C1 u8 (Arr.rep 32 (0:UInt8)).l++[i64 0,i64 0,i64 0,i64 0,i64 0,i64 0,i64 0,i64 0,i64 0,i64 0,i64 0,i64 0,i64 0,i64 0,i64 0,.str ([]:List UInt8),.sl true (L Aj ([])),u64 (0:UInt64),u64 (0:UInt64)])) false]⟩) ?_ ?_
  ·intro _;refine Sp (fun g=>?_) fun g=>?_
   ·exact Lf Ac (Ew1 g) (ws [0,1,2,3])
   ·exact Lf Ac (Ew1 g) (ws [0,1,2,3])
  intro i;refine Cd ?_ ?_
  ·refine T0 [12,13] ?_;exact Sr <|Tr <|Rr
  ·refine Sk <|Tn <|Bd fun z n =>Te [2,3,4,6,7,11,12,13,14] (o1 36 (Iw n)) Ev ?_
   refine Sq <|T0 [2,3,4,6,7,11,12,13,14,40] ?_
   refine Cd ?_ ?_
   ·refine T0 [12,13] ?_;exact Sr <|Tr <|Rr
   ·refine Sk <|Tn <|Sq <|Ck fun o =>Te [2,3,4,6,7,11,12,50] Ac (Ew1 (qR o)) ?_
    refine Cd ?_ ?_
    ·refine T0 [12,13] ?_;exact Sr <|Tr <|Rr
    ·refine Sk <|Tn <|Bd fun aa p =>Te [2,3,4,6,7,11,12,15] (o1 54 (Jk p)) Ev ?_
     refine Lt fun j q =>Te (σ':=[_,_,_,_,.box (i64 d::i64 j::(C1 u8 (Arr.rep 32 (0:UInt8)).l++[i64 e,i64 a.Za,i64 a.Ref.Zb,i64 a.Ref.No,i64 a.Zn1,i64 a.Zb1,i64 a.Zc,i64 a.Zo1,i64 a.Zw,i64 a.To,i64 a.Code,i64 a.Zp1,i64 a.Zq1,i64 a.Zr1,i64 a.Zs1,.str a.Zt1,.sl false (L Aj a.Zu1),u64 (0:UInt64),u64 (0:UInt64)])) false]) [3,6,7,12,15,16] Ac (Ew1 q) ?_
     refine Jo (fun k=>⟨Ar 112 [(3,u64 f),(6,.ref 0 0),(7,.ref 1 0),(12,.ref 2 0),(16,.ref 3 0)],[.box [.sl false (L Ag b.Zg1.Ze),.sl false (L Al b.Zg1.Zf),.sl false (L Aa b.Zh1.Zx),.sl false (L Ae b.Zh1.Zy),.sl false (L Ai b.Zh1.Zz),.sl false (L Ah b.Zh1.Za1),.sl false (L Af b.Zi1),.sl false (L Ad b.Zj1),.sl false (L Ab b.Zk1)] false,.box [.sl false (L (cSl Ak) c.Zy1),.sl false (L An c.Zz1)] false,.box (i64 0::i64 0::(C1 u8 (Arr.rep 32 (0:UInt8)).l++[i64 0,i64 0,i64 0,i64 0,i64 0,i64 0,i64 0,i64 0,i64 0,i64 0,i64 0,i64 0,i64 0,i64 0,i64 0,.str ([]:List UInt8),.sl true (L Aj ([])),u64 (0:UInt64),u64 (0:UInt64)])) false,.box (i64 d::i64 j::(C1 u8 k.l++[i64 e,i64 a.Za,i64 a.Ref.Zb,i64 a.Ref.No,i64 a.Zn1,i64 a.Zb1,i64 a.Zc,i64 a.Zo1,i64 a.Zw,i64 a.To,i64 a.Code,i64 a.Zp1,i64 a.Zq1,i64 a.Zr1,i64 a.Zs1,.str a.Zt1,.sl false (L Aj a.Zu1),u64 (0:UInt64),u64 (0:UInt64)])) false]⟩) ?_ ?_
     ·intro ab s;refine T0 [3,6,7,12,15,16,64] ?_;refine Cd ?_ ?_
      ·refine Ck fun t =>Bd fun ac u =>Te [3,6,7,12,13,16] (o1 72 (Iu u)) (Ew1 (qR t)) ?_
       refine T0 [3,6,7,12,13,16,77] ?_;refine Cd ?_ ?_
       ·refine T0 [12,13] ?_;exact Sr <|Jr s <|Rr
       ·exact Sk <|Jn (ws [0,1,3,4])
      ·exact Sk <|Jn (ws [0,1,3,4])
     intro k;refine Bd fun ad v =>Te [3,6,7,12,13,16,17] (o1 82 (HA v)) Ev ?_
     refine Sq <|T0 [3,6,7,12,13,16,17,86] ?_
     refine Cd ?_ ?_
     ·refine T0 [12,13] ?_;exact Sr <|Tr <|Rr
     ·refine Sk <|Tn <|Sq <|Bd fun ae w =>Te [6,7,12,13,16] (o1 92 (QL w)) Ev ?_
      refine T0 [6,7,12,13,16,97] ?_;refine Cd ?_ ?_
      ·refine T0 [12,13] ?_;exact Sr <|Tr <|Rr
      ·refine Sk <|Tn <|Sq <|Bd fun af x =>Te [12,13,16] (o1 104 (Dd x)) Ev ?_
       refine T0 [12,13,16,108] ?_;refine Cd ?_ ?_
       ·refine T0 [12,13] ?_;exact Sr <|Tr <|Rr
       ·refine Sk <|Tn <|T0 [12,13] ?_
        exact Sr <|Rr
theorem Kq{a b r}(h:B6 a b=some r):Con B 94 [.agg [i64 a.Za,i64 a.Ref.Zb,i64 a.Ref.No,i64 a.Zn1,i64 a.Zb1,i64 a.Zc,i64 a.Zo1,i64 a.Zw,i64 a.To,i64 a.Code,i64 a.Zp1,i64 a.Zq1,i64 a.Zr1,i64 a.Zs1,.str a.Zt1,.sl false (L Aj a.Zu1)],u8 b] [] (fun r' σ'=>r'=i64 r∧σ'=[]):=by
 refine Cw 48 [.tmp 4] Tryz.func94 (fun F hE=>?_) h;unfold B6;refine T0 [1,2] ?_;refine Sq <|T0 [2,5] ?_
 refine Sb <|T0 [2,5,6] ?_
 refine Cd ?_ ?_
 ·refine T0 [4] ?_;exact Sr <|Br <|Tr <|Rr
 ·refine T0 [2,5,10] ?_;refine Cd ?_ ?_
  ·refine T0 [4] ?_;exact Sr <|Br <|Tr <|Rr
  ·refine T0 [2,5,14] ?_;refine Cd ?_ ?_
   ·refine T0 [4] ?_;exact Sr <|Br <|Tr <|Rr
   ·refine T0 [2,5,18] ?_;refine Cd ?_ ?_
    ·refine T0 [4] ?_;exact Sr <|Br <|Tr <|Rr
    ·refine T0 [2,5,22] ?_;refine Cd ?_ ?_
     ·refine T0 [4] ?_;exact Sr <|Br <|Tr <|Rr
     ·refine T0 [2,5,26] ?_;refine Cd ?_ ?_
      ·refine T0 [4] ?_;exact Sr <|Br <|Tr <|Rr
      ·refine T0 [2,5,30] ?_;refine Cd ?_ ?_
       ·refine T0 [4] ?_;exact Sr <|Br <|Tr <|Rr
       ·refine T0 [2,5,34] ?_;refine Cd ?_ ?_
        ·refine T0 [4] ?_;exact Sr <|Br <|Tr <|Rr
        ·refine T0 [2,5,38] ?_;refine Cd ?_ ?_
         ·refine T0 [4] ?_;exact Sr <|Br <|Tr <|Rr
         ·refine T0 [2,42] ?_;refine Cd ?_ ?_
          ·refine T0 [4] ?_;exact Sr <|Br <|Tr <|Rr
          ·refine Sk <|Bn <|Tn <|T0 [4] ?_
           exact Sr <|Rr
theorem Ld{a b r}(h:EY a b=some r):Con B 95 [.sl false (L Aj a),.sl false (L Aj b)] [] (fun r' σ'=>r'=.bool r∧σ'=[]):=by
 refine Cw 26 [.tmp 4] Tryz.func95 (fun F hE=>?_) h;unfold EY;refine T0 [0,1] ?_;refine Sq <|T0 [0,1,10] ?_
 refine Cd ?_ ?_
 ·refine T0 [4] ?_;exact Sr <|Tr <|Rr
 ·refine Sk <|Tn <|?_
  refine Jo (fun _=>⟨Ar 26 [],[]⟩) ?_ ?_
  ·intro m f;refine T0 [0,1,5] ?_;refine Sb ?_;refine Lo (fun c=>⟨Ar 26 [(0,.sl false (L Aj a)),(1,.sl false (L Aj b)),(5,i64 c)],[]⟩) (ws []) ?_;rintro c n g d e;show CG a b c=some g→_;unfold CG;refine Sq <|T0 [0,1,5,14] ?_
   refine Cd ?_ ?_
   ·refine Sk <|Tn <|Sq <|Sb <|Ck fun i =>Ck fun j =>Lt fun k l =>De (fr':=[(0,_),(1,_),(5,_),(25,.bool k)]) [[],[],[0,1],[0,1,2],[],[],[4,5],[4,5,6],[0,1,2,3,4,5,6,7]] [0,1,5,25] Ac (Ew3 (qR i) (qR j) l) ?_
    refine Cd ?_ ?_
    ·refine T0 [4] ?_;exact Sr <|Br <|Tr <|Lr e d <|Br <|Jr f <|Rr
    ·refine Sk <|Bn <|Tn <|F0 [0,1,5] ?_
     exact Ln (ws [])
   ·refine Sx <|Tx <|Lx e d <|Bx <|?_
    exact Jn ((ws (l':=[]) (σ':=[]) []).trans (ws []))
  intro _;refine T0 [4] ?_;exact Sr <|Rr
theorem SH{a b r}(h:JV a b=some r):Con B 55 [.agg [i64 a.Za,i64 a.Ref.Zb,i64 a.Ref.No,i64 a.Zn1,i64 a.Zb1,i64 a.Zc,i64 a.Zo1,i64 a.Zw,i64 a.To,i64 a.Code,i64 a.Zp1,i64 a.Zq1,i64 a.Zr1,i64 a.Zs1,.str a.Zt1,.sl false (L Aj a.Zu1)],.agg [i64 b.Za,i64 b.Ref.Zb,i64 b.Ref.No,i64 b.Zn1,i64 b.Zb1,i64 b.Zc,i64 b.Zo1,i64 b.Zw,i64 b.To,i64 b.Code,i64 b.Zp1,i64 b.Zq1,i64 b.Zr1,i64 b.Zs1,.str b.Zt1,.sl false (L Aj b.Zu1)]] [] (fun r' σ'=>r'=.bool r∧σ'=[]):=by
 refine Cw 45 [.tmp 4] Tryz.func55 (fun F hE=>?_) h;unfold JV;refine T0 [2,3] ?_;refine Jo (fun _=>⟨Ar 45 [(2,.ref 0 0),(3,.ref 1 0)],[.box [i64 a.Za,i64 a.Ref.Zb,i64 a.Ref.No,i64 a.Zn1,i64 a.Zb1,i64 a.Zc,i64 a.Zo1,i64 a.Zw,i64 a.To,i64 a.Code,i64 a.Zp1,i64 a.Zq1,i64 a.Zr1,i64 a.Zs1,.str a.Zt1,.sl false (L Aj a.Zu1)] false,.box [i64 b.Za,i64 b.Ref.Zb,i64 b.Ref.No,i64 b.Zn1,i64 b.Zb1,i64 b.Zc,i64 b.Zo1,i64 b.Zw,i64 b.To,i64 b.Code,i64 b.Zp1,i64 b.Zq1,i64 b.Zr1,i64 b.Zs1,.str b.Zt1,.sl false (L Aj b.Zu1)] false]⟩) ?_ ?_
 ·intro u o;refine T0 [2,3,5] ?_;refine Sb ?_;refine Lo (fun e=>⟨Ar 45 [(2,.ref 0 0),(3,.ref 1 0),(5,i64 e)],[.box [i64 a.Za,i64 a.Ref.Zb,i64 a.Ref.No,i64 a.Zn1,i64 a.Zb1,i64 a.Zc,i64 a.Zo1,i64 a.Zw,i64 a.To,i64 a.Code,i64 a.Zp1,i64 a.Zq1,i64 a.Zr1,i64 a.Zs1,.str a.Zt1,.sl false (L Aj a.Zu1)] false,.box [i64 b.Za,i64 b.Ref.Zb,i64 b.Ref.No,i64 b.Zn1,i64 b.Zb1,i64 b.Zc,i64 b.Zo1,i64 b.Zw,i64 b.To,i64 b.Code,i64 b.Zp1,i64 b.Zq1,i64 b.Zr1,i64 b.Zs1,.str b.Zt1,.sl false (L Aj b.Zu1)] false]⟩) (ws [0,1]) ?_;rintro e v p g i;show Fz a b e=some p→_;unfold Fz;refine Sq <|T0 [2,3,5,7] ?_
  refine Cd ?_ ?_
  ·refine Sk <|Tn <|Sq <|Sb <|Ck fun j =>?_
   have k:=j;simp only[Aqh,AqP,Aqe,Aqg,Aqr,AqO,Nat.reduceAdd]at k;refine Bd fun w q =>Ck fun l =>?_
   have m:=l;simp only[Aqh,AqP,Aqe,Aqg,Aqr,AqO,Nat.reduceAdd]at m;refine Bd fun x s =>De [[],[],[1],[0,1,2],[],[],[5],[0,1,2,3,4,5,6],[0,1,2,3,4,5,6,7]] [2,3,5,18] (o2 13 (Kq q) 17 (Kq s)) (Ew4 (qR j) k (qR l) m) ?_
   refine Cd ?_ ?_
   ·refine T0 [4] ?_;exact Sr <|Br <|Tr <|Lr i g <|Br <|Jr o <|Rr
   ·refine Sk <|Bn <|Tn <|F0 [2,3,5] ?_
    exact Ln (ws [0,1])
  ·refine Sx <|Tx <|Lx i g <|Bx <|?_
   exact Jn ((ws (l':=[(2,.ref 0 0),(3,.ref 1 0)]) (σ':=[.box [i64 a.Za,i64 a.Ref.Zb,i64 a.Ref.No,i64 a.Zn1,i64 a.Zb1,i64 a.Zc,i64 a.Zo1,i64 a.Zw,i64 a.To,i64 a.Code,i64 a.Zp1,i64 a.Zq1,i64 a.Zr1,i64 a.Zs1,.str a.Zt1,.sl false (L Aj a.Zu1)] false,.box [i64 b.Za,i64 b.Ref.Zb,i64 b.Ref.No,i64 b.Zn1,i64 b.Zb1,i64 b.Zc,i64 b.Zo1,i64 b.Zw,i64 b.To,i64 b.Code,i64 b.Zp1,i64 b.Zq1,i64 b.Zr1,i64 b.Zs1,.str b.Zt1,.sl false (L Aj b.Zu1)] false]) [0,1]).trans (ws [0,1]))
 intro _;refine Tw [4] (fun n=>⟨Ar 45 [(4,.bool n)],[]⟩) ?_ ?_
 ·intro _;refine Sp (fun c=>?_) fun c=>?_
  ·refine Sp (fun d=>?_) fun d=>?_
   ·refine Sp (fun f=>?_) fun f=>?_
    ·refine Bd fun y t=>?_
     exact Lf (o1 43 (Ld t)) (Ew3 c d f) (ws [])
    ·exact Lf Ac (Ew3 c d f) (ws [])
   ·exact Lf Ac (Ew2 c d) (ws [])
  ·exact Lf Ac (Ew1 c) (ws [])
 intro n;exact Sr <|Rr
theorem DC{a b r}(h:CS a b=some r):Con B 19 [.agg (i64 a.Zb::i64 a.No::(C1 u8 a.Zv1.l++[i64 a.Zw1,i64 a.Zx1.Za,i64 a.Zx1.Ref.Zb,i64 a.Zx1.Ref.No,i64 a.Zx1.Zn1,i64 a.Zx1.Zb1,i64 a.Zx1.Zc,i64 a.Zx1.Zo1,i64 a.Zx1.Zw,i64 a.Zx1.To,i64 a.Zx1.Code,i64 a.Zx1.Zp1,i64 a.Zx1.Zq1,i64 a.Zx1.Zr1,i64 a.Zx1.Zs1,.str a.Zx1.Zt1,.sl false (L Aj a.Zx1.Zu1),u64 a.Sig.C,u64 a.Sig.S])),.agg (i64 b.Zb::i64 b.No::(C1 u8 b.Zv1.l++[i64 b.Zw1,i64 b.Zx1.Za,i64 b.Zx1.Ref.Zb,i64 b.Zx1.Ref.No,i64 b.Zx1.Zn1,i64 b.Zx1.Zb1,i64 b.Zx1.Zc,i64 b.Zx1.Zo1,i64 b.Zx1.Zw,i64 b.Zx1.To,i64 b.Zx1.Code,i64 b.Zx1.Zp1,i64 b.Zx1.Zq1,i64 b.Zx1.Zr1,i64 b.Zx1.Zs1,.str b.Zx1.Zt1,.sl false (L Aj b.Zx1.Zu1),u64 b.Sig.C,u64 b.Sig.S]))] [] (fun r' σ'=>r'=.bool r∧σ'=[]):=by
 refine Cw 45 [.tmp 4] Tryz.func19 (fun F hE=>?_) h;unfold CS;refine T0 [2,3] ?_;refine Tw [4] (fun i=>⟨Ar 45 [(4,.bool i)],[]⟩) ?_ ?_
 ·intro _;refine Sp (fun c=>?_) fun c=>?_
  ·refine Sp (fun d=>?_) fun d=>?_
   ·refine Sp (fun e=>?_) fun e=>?_
    ·refine Sp (fun f=>?_) fun f=>?_
     ·refine Sp (fun g=>?_) fun g=>?_
      ·refine Bd fun k j=>?_
       exact Lf (o1 43 (SH j)) (Ew5 c d e f g) (ws [])
      ·exact Lf Ac (Ew5 c d e f g) (ws [])
     ·exact Lf Ac (Ew4 c d e f) (ws [])
    ·exact Lf Ac (Ew3 c d e) (ws [])
   ·exact Lf Ac (Ew2 c d) (ws [])
  ·exact Lf Ac (Ew1 c) (ws [])
 intro i;exact Sr <|Rr
theorem IH{a b r}(h:Fq a b=some r):Con B 16 [.sl false (L Ak a),.sl false (L Ak b)] [] (fun r' σ'=>r'=.bool r∧σ'=[]):=by
 refine Cw 27 [.tmp 4] Tryz.func16 (fun F hE=>?_) h;unfold Fq;refine T0 [0,1] ?_;refine Sq <|T0 [0,1,10] ?_
 refine Cd ?_ ?_
 ·refine T0 [4] ?_;exact Sr <|Tr <|Rr
 ·refine Sk <|Tn <|?_
  refine Jo (fun _=>⟨Ar 27 [],[]⟩) ?_ ?_
  ·intro l f;refine T0 [0,1,5] ?_;refine Sb ?_;refine Lo (fun c=>⟨Ar 27 [(0,.sl false (L Ak a)),(1,.sl false (L Ak b)),(5,i64 c)],[]⟩) (ws []) ?_;rintro c m g d e;show D7 a b c=some g→_;unfold D7;refine Sq <|T0 [0,1,5,14] ?_
   refine Cd ?_ ?_
   ·refine Sk <|Tn <|Sq <|Sb <|Ck fun i =>Ck fun j =>Bd fun n k =>De [[],[],[0,1],[0,1,2],[],[],[4,5],[4,5,6],[0,1,2,3,4,5,6,7],[0,1,2,3,4,5,6,7,8]] [0,1,5,26] (o1 25 (DC k)) (Ew2 (qR i) (qR j)) ?_
    refine Cd ?_ ?_
    ·refine T0 [4] ?_;exact Sr <|Br <|Tr <|Lr e d <|Br <|Jr f <|Rr
    ·refine Sk <|Bn <|Tn <|F0 [0,1,5] ?_
     exact Ln (ws [])
   ·refine Sx <|Tx <|Lx e d <|Bx <|?_
    exact Jn ((ws (l':=[]) (σ':=[]) []).trans (ws []))
  intro _;refine T0 [4] ?_;exact Sr <|Rr
theorem LM{a b r}(h:JR a b=some r):Con B 12 [.agg [.sl false (L (cSl Ak) a.Zy1),.sl false (L An a.Zz1)],.agg [.sl false (L (cSl Ak) b.Zy1),.sl false (L An b.Zz1)]] [] (fun r' σ'=>r'=.bool r∧σ'=[]):=by
 refine Cw 79 [.tmp 4] Tryz.func12 (fun F hE=>?_) h;unfold JR;refine T0 [2,3] ?_;refine Sq ?_;refine Tw [2,3,22] (fun g=>⟨Ar 79 [(2,.ref 0 0),(3,.ref 1 0),(22,.bool g)],[.box [.sl false (L (cSl Ak) a.Zy1),.sl false (L An a.Zz1)] false,.box [.sl false (L (cSl Ak) b.Zy1),.sl false (L An b.Zz1)] false]⟩) ?_ ?_
 ·intro _;refine Sp (fun d=>?_) fun d=>?_
  ·exact Lf Ac (Ew1 d) (ws [0,1])
  ·exact Lf Ac (Ew1 d) (ws [0,1])
 intro g;refine Cd ?_ ?_
 ·refine T0 [4] ?_;exact Sr <|Tr <|Rr
 ·refine Sk <|Tn <|?_
  refine Jo (fun _=>⟨Ar 79 [(2,.ref 0 0),(3,.ref 1 0)],[.box [.sl false (L (cSl Ak) a.Zy1),.sl false (L An a.Zz1)] false,.box [.sl false (L (cSl Ak) b.Zy1),.sl false (L An b.Zz1)] false]⟩) ?_ ?_
  ·intro ab q;refine T0 [2,3,5] ?_;refine Sb ?_;refine Lo (fun e=>⟨Ar 79 [(2,.ref 0 0),(3,.ref 1 0),(5,i64 e)],[.box [.sl false (L (cSl Ak) a.Zy1),.sl false (L An a.Zz1)] false,.box [.sl false (L (cSl Ak) b.Zy1),.sl false (L An b.Zz1)] false]⟩) (ws [0,1]) ?_;rintro e ac s i j;show J9 a b e=some s→_;unfold J9;refine Sq <|T0 [2,3,5,27] ?_
   refine Cd ?_ ?_
   ·refine Sk <|Tn <|Sq <|Sb <|Ck fun t =>Ck fun u =>Bd fun ad v =>De [[],[0],[],[0,1,2],[0,1,2,3],[],[5],[],[5,6,7],[5,6,7,8],[0,1,2,3,4,5,6,7,8,9],[0,1,2,3,4,5,6,7,8,9,10]] [2,3,5,41] (o1 40 (IH v)) (Ew2 (qR t) (qR u)) ?_
    refine Cd ?_ ?_
    ·refine T0 [4] ?_;exact Sr <|Br <|Tr <|Lr j i <|Br <|Jr q <|Rr
    ·refine Sk <|Bn <|Tn <|F0 [2,3,5] ?_
     exact Ln (ws [0,1])
   ·refine Sx <|Tx <|Lx j i <|Bx <|?_
    exact Jn ((ws (l':=[(2,.ref 0 0),(3,.ref 1 0)]) (σ':=[.box [.sl false (L (cSl Ak) a.Zy1),.sl false (L An a.Zz1)] false,.box [.sl false (L (cSl Ak) b.Zy1),.sl false (L An b.Zz1)] false]) [0,1]).trans (ws [0,1]))
  intro _;refine Jo (fun _=>⟨Ar 79 [],[]⟩) ?_ ?_
  ·intro ae w;refine T0 [2,3,6] ?_;refine Sb ?_;refine Lo (fun c=>⟨Ar 79 [(2,.ref 0 0),(3,.ref 1 0),(6,i64 c)],[.box [.sl false (L (cSl Ak) a.Zy1),.sl false (L An a.Zz1)] false,.box [.sl false (L (cSl Ak) b.Zy1),.sl false (L An b.Zz1)] false]⟩) (ws [0,1]) ?_;rintro c af x k l;show JK a b c=some x→_;unfold JK;refine Sq <|T0 [2,3,6,46] ?_
   refine Cd ?_ ?_
   ·refine Sk <|Tn <|Sq <|Sb <|?_
    refine Dw [[],[0],[],[0,1,2],[0,1,2,3],[0,1,2,3,4],[],[6],[],[6,7,8],[6,7,8,9],[6,7,8,9,10],[0,1,2,3,4,5,6,7,8,9,10,11],[0,1,2,3,4,5,6,7,8,9,10,11,12],[0,1,2,3,4,5,6,7,8,9,10,11,12,13],[0,1,2,3,4,5,6,7,8,9,10,11,12,13,14],[0,1,2,3,4,5,6,7,8,9,10,11,12,13,14,15],[0,1,2,3,4,5,6,7,8,9,10,11,12,13,14],[0,1,2,3,4,5,6,7,8,9,10,11,12,13,14,15,16,17],[0,1,2,3,4,5,6,7,8,9,10,11,12,13,14,15,16,17,18],[0,1,2,3,4,5,6,7,8,9,10,11,12,13,14,15,16,17,18,19],[0,1,2,3,4,5,6,7,8,9,10,11,12,13,14],[0,1,2,3,4,5,6,7,8,9,10,11,12,13,14,21],[0,1,2,3,4,5,6,7,8,9,10,11,12,13,14],[0,1,2,3,4,5,6,7,8,9,10,11,12,13,14,21,22,23],[0,1,2,3,4,5,6,7,8,9,10,11,12,13,14,21,22,23,24],[0,1,2,3,4,5,6,7,8,9,10,11,12,13,14,21,22,23,24,25],[0,1,2,3,4,5,6,7,8,9,10,11,12,13,14,15,16,17,18,19,20,21,22,23,24,25,26],[0,1,2,3,4,5,6,7,8,9,10,11,12,13,14,15,16,17,18,19,20,21,22,23,24,25,26,27],[0,1,2,3,4,5,6,7,8,9,10,11,12,13,14,15,16,17,18,19,20,21,22,23,24,25,26,27,28]] [2,3,6,78] (fun m=>⟨Ar 79 [(2,.ref 0 0),(3,.ref 1 0),(6,i64 c),(78,.bool m)],[.box [.sl false (L (cSl Ak) a.Zy1),.sl false (L An a.Zz1)] false,.box [.sl false (L (cSl Ak) b.Zy1),.sl false (L An b.Zz1)] false]⟩) ?_ ?_
    ·intro _;refine Ck fun n =>Ck fun o =>Bd fun ag p =>?_
     refine Sp (fun f=>?_) fun f=>?_
     ·exact Lf (o1 61 (DC p)) (Ew3 (qR n) (qR o) f) (ws [0,1])
     ·refine Ck fun y =>Ck fun z =>Bd fun ah aa =>?_
      exact Lf (o2 61 (DC p) 76 (DC aa)) (Ew5 (qR n) (qR o) f (qR y) (qR z)) (ws [0,1])
    intro m;refine Cd ?_ ?_
    ·refine T0 [4] ?_;exact Sr <|Br <|Tr <|Lr l k <|Br <|Jr w <|Rr
    ·refine Sk <|Bn <|Tn <|F0 [2,3,6] ?_
     exact Ln (ws [0,1])
   ·refine Sx <|Tx <|Lx l k <|Bx <|?_
    exact Jn ((ws (l':=[]) (σ':=[]) []).trans (ws []))
  intro _;refine T0 [4] ?_;exact Sr <|Rr
theorem Cv{a b r}(h:Dn a b=some r):Con B 23 [.agg [.sl false (L (cSl Ak) a.Zy1),.sl false (L An a.Zz1)],i64 b] [] (fun r' σ'=>r'=i64 r∧σ'=[]):=by
 refine Cw 41 [.tmp 4] Tryz.func23 (fun F hE=>?_) h;unfold Dn;refine T0 [1,2,4] ?_;refine Ja (fun i=>⟨Ar 41 [(4,i64 i)],[]⟩) ?_ ?_
 ·intro bu;refine T0 [1,4,8,9,10] ?_;refine Sb ?_;refine Lo (fun(v:Int×Int)=>(⟨Ar 41 [(1,i64 b),(4,i64 v.1),(8,.sl false (L An a.Zz1)),(9,i64 (a.Zz1.length:Int)),(10,i64 v.2)],[]⟩:St)) (ws []) ?_;rintro⟨e,f⟩ bv aI aJ aK;show Ha a b e f=some aI→_;unfold Ha;refine T0 [1,4,8,9,10,11] ?_;refine Sq <|Cd ?_ ?_
  ·refine Sk <|Tn <|?_
   refine Ja (fun j=>⟨Ar 41 [(1,i64 b),(4,i64 j),(8,.sl false (L An a.Zz1)),(9,i64 (a.Zz1.length:Int)),(10,i64 f)],[]⟩) ?_ ?_
   ·intro bw;refine Sb <|Ck fun aL =>Lt fun k aM =>Lt fun m aN =>Lt fun n aO =>Lt fun o aP =>Lt fun p aQ =>Lt fun q aR =>Lt fun s aS =>Lt fun t aT =>Lt fun u aU =>Lt fun w aV =>Lt fun x aW =>Lt fun y aX =>Lt fun z aY =>Lt fun aa aZ =>Lt fun ab a0 =>Lt fun ac a1 =>Lt fun ad a2 =>Lt fun ae a3 =>Lt fun af a4 =>Lt fun ag a5 =>Lt fun ah a6 =>Lt fun ai a7 =>Lt fun aj a8 =>Lt fun ak a9 =>Lt fun al ba =>Lt fun am bb =>Lt fun an bc =>Lt fun ao bd =>Lt fun ap be =>Lt fun aq bf =>Lt fun ar bg =>Lt fun au bh =>Lt fun av bi =>Lt fun aw bj =>Lt fun ax bk =>Lt fun ay bl =>Lt fun az bm =>Lt fun aA bn =>Lt fun aB bo =>Lt fun aC bp =>Lt fun aD bq =>Lt fun aE br =>Lt fun aF bs =>Lt fun aG bt =>Te (σ':=[.box (i64 k::i64 m::(C1 u8 n.l++i64 o::i64 p::i64 q::i64 s::i64 t::i64 u::i64 w::i64 x::i64 y::i64 z::i64 aa::i64 ab::i64 ac::i64 ad::i64 ae::.str af::.sl false (L Aj ag)::u64 ah::u64 ai::i64 aj::i64 ak::(C1 u8 al.l++[i64 am,i64 an,i64 ao,i64 ap,i64 aq,i64 ar,i64 au,i64 av,i64 aw,i64 ax,i64 ay,i64 az,i64 aA,i64 aB,i64 aC,.str aD,.sl false (L Aj aE),u64 aF,u64 aG]))) false]) [1,4,6,8,9,10] Ac (Ev (by simp only[go_sem,qR aL,aM,aN,aO,aP,aQ,aR,aS,aT,aU,aV,aW,aX,aY,aZ,a0,a1,a2,a3,a4,a5,a6,a7,a8,a9,ba,bb,bc,bd,be,bf,bg,bh,bi,bj,bk,bl,bm,bn,bo,bp,bq,br,bs,bt];exact AY)) ?_
    refine Tw [1,4,6,8,9,10,35] (fun aH=>⟨Ar 41 [(1,i64 b),(4,i64 e),(6,.ref 0 0),(8,.sl false (L An a.Zz1)),(9,i64 (a.Zz1.length:Int)),(10,i64 f),(35,.bool aH)],[.box (i64 k::i64 m::(C1 u8 n.l++i64 o::i64 p::i64 q::i64 s::i64 t::i64 u::i64 w::i64 x::i64 y::i64 z::i64 aa::i64 ab::i64 ac::i64 ad::i64 ae::.str af::.sl false (L Aj ag)::u64 ah::u64 ai::i64 aj::i64 ak::(C1 u8 al.l++[i64 am,i64 an,i64 ao,i64 ap,i64 aq,i64 ar,i64 au,i64 av,i64 aw,i64 ax,i64 ay,i64 az,i64 aA,i64 aB,i64 aC,.str aD,.sl false (L Aj aE),u64 aF,u64 aG]))) false]⟩) ?_ ?_
    ·intro _;refine Sp (fun c=>?_) fun c=>?_
     ·refine Sp (fun d=>?_) fun d=>?_
      ·refine Sp (fun g=>?_) fun g=>?_
       ·exact Lf Ac (Ew3 c d g) (ws [0])
       ·exact Lf Ac (Ew3 c d g) (ws [0])
      ·exact Lf Ac (Ew2 c d) (ws [0])
     ·exact Lf Ac (Ew1 c) (ws [0])
    intro aH;refine Cd ?_ ?_
    ·refine F0 [1,4,8,9,10] ?_;exact Bn <|Jm (ws [])
    ·exact Sk <|Bn <|Jm (ws [])
   intro j;refine F0 [1,4,8,9,10] ?_;exact Ln (ws [])
  ·refine Sx <|Tx <|Ly aK aJ <|Bx <|?_
   exact Jm ((ws (l':=[(4,i64 e)]) (σ':=[]) []).trans (ws []))
 intro i;refine T0 [4] ?_;exact Sr <|Rr
theorem LP{a r}(h:Il a=some r):Con B 61 [.agg [.sl false (L (cSl Ak) a.Zy1),.sl false (L An a.Zz1)]] [] (fun r' σ'=>r'=.agg [.sl false (L (cSl Ak) r.Zy1),.sl false (L An r.Zz1)]∧σ'=[]):=by
 refine Cw 34 [.cell 2 40] Tryz.func61 (fun F hE=>?_) h;unfold Il;refine T0 [1,2] ?_;refine Ja (fun c=>⟨Ar 34 [(2,.ref 0 0)],[.box [.bs false 1 (c.length) 0 (c.length),.sl true (L An ([]))] false,.buf 1 (L (cSl Ak) c) false]⟩) ?_ ?_
 ·intro u;refine T0 [1,2,7,8,9] ?_;refine Sb ?_;refine Lo (fun(v:Int×List (List ApK))=>(⟨Ar 34 [(1,.ref 0 0),(2,.ref 1 0),(7,.sl false (L (cSl Ak) a.Zy1)),(8,i64 (a.Zy1.length:Int)),(9,i64 v.1)],[.box [.sl false (L (cSl Ak) a.Zy1),.sl false (L An a.Zz1)] false,.box [.bs false 2 (v.2.length) 0 (v.2.length),.sl true (L An ([]))] false,.buf 1 (L (cSl Ak) v.2) false]⟩:St)) ((GR 1 0 1 rfl rfl).trans (ws [0,1,2])) ?_;rintro⟨e,b⟩ w g i j;show G6 a e b=some g→_;unfold G6;refine T0 [1,2,7,8,9,10] ?_;refine Sq <|Cd ?_ ?_
  ·refine Sk <|Tn <|Sq <|Sb <|Ck fun k =>Lt fun l m =>Te (fr':=[(1,_),(2,_),(3,_),(4,.sl false (L Ak l)),(7,_),(8,_),(9,_)]) [1,2,3,4,7,8,9] Ac (Ew2 (qR k) m) ?_
   refine Ja (fun f=>⟨Ar 34 [(1,.ref 0 0),(2,.ref 1 0),(4,.sl false (L Ak f)),(7,.sl false (L (cSl Ak) a.Zy1)),(8,i64 (a.Zy1.length:Int)),(9,i64 e)],[.box [.sl false (L (cSl Ak) a.Zy1),.sl false (L An a.Zz1)] false,.box [.bs false 2 (b.length) 0 (b.length),.sl true (L An ([]))] false,.buf 1 (L (cSl Ak) b) false]⟩) ?_ ?_
   ·intro x;refine Bd fun y n =>Te [1,2,4,5,7,8,9] (o1 16 (Cv n)) Ev ?_
    refine T0 [1,2,4,5,7,8,9,18] ?_;refine Cd ?_ ?_
    ·refine Ck fun o =>Lt fun p q =>Fe (fr':=[(1,_),(2,_),(4,.sl false (L Ak p)),(7,_),(8,_),(9,_)]) [1,2,4,7,8,9] Ac (Ew2 o q) ?_
     exact Jm (ws [0,1,2])
    ·exact Sk <|Jm (ws [0,1,2])
   intro f;refine Ck fun s =>Lt fun d t =>Fe (σ':=[_,.box [.bs false 2 (d.length) 0 (d.length),.sl true (L An ([]))] false,.buf 1 (L (cSl Ak) d) false,_]) [1,2,7,8,9] Ac (Ew2 s t) ?_
   refine Bn <|Tn <|F0 [1,2,7,8,9] ?_
   exact Ln (ws [0,1,2])
  ·refine Sx <|Tx <|Ly j i <|Bx <|?_
   exact Jm ((ws (l':=[(2,.ref 0 0)]) (σ':=[.box [.bs false 1 (b.length) 0 (b.length),.sl true (L An ([]))] false,.buf 1 (L (cSl Ak) b) false]) [1,2]).trans (ws [0,1]))
 intro c;refine T0 [2] ?_;exact Sr <|Rr
theorem LI{a r}(h:Mb a=some r):Con B 62 [.agg [.sl false (L (cSl Ak) a.Zy1),.sl false (L An a.Zz1)]] [] (fun r' σ'=>r'=.fn 100 [.ref 0 0]∧σ'=[.box [.sl false (L (cSl Ak) r.Zy1),.sl false (L An r.Zz1)] false]):=by
 refine Co 0 4 [.tmp 2] Tryz.func62 (fun F hE=>?_) h;unfold Mb;refine T0 [1] ?_;refine T0 [2] ?_;exact Sr <|Ro [0]
theorem Agk{F:Out}{σ:Am}{id:Nat}{a b:Int}{x:AV}:S4 (B.env F) σ 138 (.mref id) (.agg [i64 a,i64 b]) x=(if Tg a b then(match σ[id]? with
 |some (.mp es)=>if x.closed=true then some (σ.set id (.mp (LV es (a,b) x)))else none
 |_=>none)else none):=Aaj rfl rfl
attribute [local go_sem] Agk
theorem Dv{j r}(h:BF j=some r):Con B 24 [.agg [.sl false (L (cSl Ak) j.Zy1),.sl false (L An j.Zz1)]] [] (fun r' σ'=>r'=.sl false (L A3 r)∧σ'=[]):=by
 refine Cm 78 [.cell 2 85] Tryz.func24 (fun F b_ hE=>?_) h;unfold BF;refine T0 [1,2] ?_;refine Bd fun c aq =>Te [2,3] (o1 14 (LP aq)) Ev ?_
 refine T0 [2,3,4] ?_;refine T0 [2,3,4,5] ?_;refine Sq <|Bd fun e ar =>Te [2,3,4,5,17] (As (l:=[]) (m:=[(17,62,[.agg [.sl false (L (cSl Ak) c.Zy1),.sl false (L An c.Zz1)]],[.box [.sl false (L (cSl Ak) j.Zy1),.sl false (L An j.Zz1)] false,.box [.sl true (L A3 ([]))] false,.box [.sl false (L (cSl Ak) c.Zy1),.sl false (L An c.Zz1)] false,.box [i64 0,i64 0] false,.mp (M2 EM ([])),.box [.mref 4] false],_,_)]) trivial ⟨(wc (LI ar) []),trivial⟩) Ev ?_
 refine Sb ?_;refine Rw (ws (l':=[(2,.ref 0 0),(3,.ref 1 0),(4,.ref 2 0),(5,.ref 3 0),(17,.fn 100 [.ref 4 0])]) (σ':=[.box [.sl true (L A3 ([]))] false,.box [.sl false (L (cSl Ak) c.Zy1),.sl false (L An c.Zz1)] false,.box [i64 0,i64 0] false,.box [.mref 5] false,.box [.sl false (L (cSl Ak) e.Zy1),.sl false (L An e.Zz1)] false,.mp (M2 EM ([]))]) [1,2,3,5,6,4]) ?_;refine Bd ?_;rintro g hx_x_9418 hP_x_9418;refine Ra (fun(v:List ((Int×Int)×ApP))=>[.box [.sl true (L A3 ([]))] false,.box [.sl false (L (cSl Ak) c.Zy1),.sl false (L An c.Zz1)] false,.box [i64 0,i64 0] false,.box [.mref 5] false,.box [.sl false (L (cSl Ak) e.Zy1),.sl false (L An e.Zz1)] false,.mp (M2 EM v)]) [(4,.ref 2 0),(5,.ref 3 0)] 6 [.box [.sl true (L A3 ([]))] false,.box [.sl false (L (cSl Ak) c.Zy1),.sl false (L An c.Zz1)] false,.box [i64 0,i64 0] false,.box [.mref 5] false,.box [.sl false (L (cSl Ak) e.Zy1),.sl false (L An e.Zz1)] false,.mp (M2 EM ([]))] [.box [.sl true (L A3 ([]))] false,.box [.sl false (L (cSl Ak) c.Zy1),.sl false (L An c.Zz1)] false,.box [i64 0,i64 0] false,.box [.mref 5] false,.box [.sl false (L (cSl Ak) e.Zy1),.sl false (L An e.Zz1)] false,.mp (M2 EM g),.gone] ?_ ?_ hx_x_9418 (⟨⟨by decide,rfl⟩,⟨by decide,rfl⟩,trivial⟩)
 ·intro lp_ ac_ bd_;rintro g k n a v_;show Gz g k n a=some v_→Run _ _ _ ⟨Ar 78 [(19,.agg (i64 a.Zb::i64 a.No::(C1 u8 a.Zv1.l++[i64 a.Zw1,i64 a.Zx1.Za,i64 a.Zx1.Ref.Zb,i64 a.Zx1.Ref.No,i64 a.Zx1.Zn1,i64 a.Zx1.Zb1,i64 a.Zx1.Zc,i64 a.Zx1.Zo1,i64 a.Zx1.Zw,i64 a.Zx1.To,i64 a.Zx1.Code,i64 a.Zx1.Zp1,i64 a.Zx1.Zq1,i64 a.Zx1.Zr1,i64 a.Zx1.Zs1,.str a.Zx1.Zt1,.sl false (L Aj a.Zx1.Zu1),u64 a.Sig.C,u64 a.Sig.S]))),(18,.agg [i64 k,i64 n]),(4,.ref 2 0),(5,.ref 3 0)],[.box [.sl true (L A3 ([]))] false,.box [.sl false (L (cSl Ak) c.Zy1),.sl false (L An c.Zz1)] false,.box [i64 0,i64 0] false,.box [.mref 5] false,.box [.sl false (L (cSl Ak) e.Zy1),.sl false (L An e.Zz1)] false,.mp (M2 EM g),.lp false 78 [(4,.ref 2 0),(5,.ref 3 0)] #[18,19] ac_ bd_,.box (i64 a.Zb::i64 a.No::(C1 u8 a.Zv1.l++[i64 a.Zw1,i64 a.Zx1.Za,i64 a.Zx1.Ref.Zb,i64 a.Zx1.Ref.No,i64 a.Zx1.Zn1,i64 a.Zx1.Zb1,i64 a.Zx1.Zc,i64 a.Zx1.Zo1,i64 a.Zx1.Zw,i64 a.Zx1.To,i64 a.Zx1.Code,i64 a.Zx1.Zp1,i64 a.Zx1.Zq1,i64 a.Zx1.Zr1,i64 a.Zx1.Zs1,.str a.Zx1.Zt1,.sl false (L Aj a.Zx1.Zu1),u64 a.Sig.C,u64 a.Sig.S])) false]⟩ _;have hE:=ok.env { F:=F,rd:=some lp_ };unfold Gz;refine T0 [4,5,6,19] ?_;refine F0 [4,5,6,7] ?_;refine Wp (Weak.refl _ _) ?_;refine Yb (N':=0) [.box [.sl true (L A3 ([]))] false,.box [.sl false (L (cSl Ak) c.Zy1),.sl false (L An c.Zz1)] false,.box [i64 0,i64 0] false,.box [.mref 5] false,.box [.sl false (L (cSl Ak) e.Zy1),.sl false (L An e.Zz1)] false,.mp (M2 EM g),.lp true 78 [(4,.ref 2 0),(5,.ref 3 0)] #[18,19] ac_ bd_,.box (i64 a.Zb::i64 a.No::(C1 u8 a.Zv1.l++[i64 a.Zw1,i64 a.Zx1.Za,i64 a.Zx1.Ref.Zb,i64 a.Zx1.Ref.No,i64 a.Zx1.Zn1,i64 a.Zx1.Zb1,i64 a.Zx1.Zc,i64 a.Zx1.Zo1,i64 a.Zx1.Zw,i64 a.Zx1.To,i64 a.Zx1.Code,i64 a.Zx1.Zp1,i64 a.Zx1.Zq1,i64 a.Zx1.Zr1,i64 a.Zx1.Zs1,.str a.Zx1.Zt1,.sl false (L Aj a.Zx1.Zu1),u64 a.Sig.C,u64 a.Sig.S])) false,.box [i64 k,i64 n] false,.box (i64 a.Zb::i64 a.No::(C1 u8 a.Zv1.l++[i64 a.Zw1,i64 a.Zx1.Za,i64 a.Zx1.Ref.Zb,i64 a.Zx1.Ref.No,i64 a.Zx1.Zn1,i64 a.Zx1.Zb1,i64 a.Zx1.Zc,i64 a.Zx1.Zo1,i64 a.Zx1.Zw,i64 a.Zx1.To,i64 a.Zx1.Code,i64 a.Zx1.Zp1,i64 a.Zx1.Zq1,i64 a.Zx1.Zr1,i64 a.Zx1.Zs1,.str a.Zx1.Zt1,.sl false (L Aj a.Zx1.Zu1),u64 a.Sig.C,u64 a.Sig.S])) false] ?_;refine Sb <|T0 [4,5,6,7,8] ?_
  refine Tw [5,6,7,8,32] (fun s=>⟨Ar 78 [(5,.ref 3 0),(6,.ref 7 0),(7,.ref 8 0),(8,.ref 9 0),(32,.bool s)],[.box [.sl true (L A3 ([]))] false,.box [.sl false (L (cSl Ak) c.Zy1),.sl false (L An c.Zz1)] false,.box [i64 0,i64 0] false,.box [.mref 5] false,.box [.sl false (L (cSl Ak) e.Zy1),.sl false (L An e.Zz1)] false,.mp (M2 EM g),.lp true 78 [(4,.ref 2 0),(5,.ref 3 0)] #[18,19] ac_ bd_,.box [i64 k,i64 n] false,.box (i64 a.Zb::i64 a.No::(C1 u8 a.Zv1.l++[i64 a.Zw1,i64 a.Zx1.Za,i64 a.Zx1.Ref.Zb,i64 a.Zx1.Ref.No,i64 a.Zx1.Zn1,i64 a.Zx1.Zb1,i64 a.Zx1.Zc,i64 a.Zx1.Zo1,i64 a.Zx1.Zw,i64 a.Zx1.To,i64 a.Zx1.Code,i64 a.Zx1.Zp1,i64 a.Zx1.Zq1,i64 a.Zx1.Zr1,i64 a.Zx1.Zs1,.str a.Zx1.Zt1,.sl false (L Aj a.Zx1.Zu1),u64 a.Sig.C,u64 a.Sig.S])) false,.box [i64 a.Zx1.Ref.Zb,i64 a.Zx1.Ref.No] false]⟩) ?_ ?_
  ·intro _;refine Sp (fun o=>?_) fun o=>?_
   ·exact Lf Ac (Ew1 o) (ws [0,1,2,3,4,5,6,8,9,10])
   ·exact Lf Ac (Ew1 o) (ws [0,1,2,3,4,5,6,8,9,10])
  intro s;refine Cd ?_ ?_
  ·refine Ck fun au =>Lt fun t av =>Fe (σ':=[_,_,_,_,_,.mp (M2 EM t),_,_,_,_]) [] Ac (Ew2 au av) ?_
   refine Bn ?_;refine Wp (ws (l':=[]) (σ':=[.box [.sl true (L A3 ([]))] false,.box [.sl false (L (cSl Ak) c.Zy1),.sl false (L An c.Zz1)] false,.box [i64 0,i64 0] false,.box [.mref 5] false,.box [.sl false (L (cSl Ak) e.Zy1),.sl false (L An e.Zz1)] false,.mp (M2 EM t),.lp true 78 [(4,.ref 2 0),(5,.ref 3 0)] #[18,19] ac_ bd_]) [0,1,2,3,4,5,6]) ?_;exact Yf
  ·refine Sk <|Bn <|?_
   refine Wp (ws (l':=[]) (σ':=[.box [.sl true (L A3 ([]))] false,.box [.sl false (L (cSl Ak) c.Zy1),.sl false (L An c.Zz1)] false,.box [i64 0,i64 0] false,.box [.mref 5] false,.box [.sl false (L (cSl Ak) e.Zy1),.sl false (L An e.Zz1)] false,.mp (M2 EM g),.lp true 78 [(4,.ref 2 0),(5,.ref 3 0)] #[18,19] ac_ bd_]) [0,1,2,3,4,5,6]) ?_;exact Yf
 ·revert hP_x_9418;refine Bn <|Tn <|?_
  refine Rw (ws (l':=[(2,.ref 0 0),(3,.ref 1 0),(4,.ref 2 0),(5,.ref 3 0)]) (σ':=[.box [.sl true (L A3 ([]))] false,.box [.sl false (L (cSl Ak) c.Zy1),.sl false (L An c.Zz1)] false,.box [i64 0,i64 0] false,.box [.mref 5] false,.box [.sl false (L (cSl Ak) e.Zy1),.sl false (L An e.Zz1)] false,.mp (M2 EM g)]) [0,1,2,3,4,5]) ?_;refine Sq <|Bd fun f aw =>Te [2,4,5,43] (As (l:=[]) (m:=[(43,62,[.agg [.sl false (L (cSl Ak) c.Zy1),.sl false (L An c.Zz1)]],[.box [.sl true (L A3 ([]))] false,.box [.sl false (L (cSl Ak) c.Zy1),.sl false (L An c.Zz1)] false,.box [i64 0,i64 0] false,.box [.mref 5] false,.box [.sl false (L (cSl Ak) e.Zy1),.sl false (L An e.Zz1)] false,.mp (M2 EM g)],_,_)]) trivial ⟨(wc (LI aw) []),trivial⟩) Ev ?_
  refine Sb ?_;refine Rw ((GR 0 0 21 rfl rfl).trans (ws (l':=[(2,.ref 0 0),(4,.ref 1 0),(5,.ref 2 0),(43,.fn 100 [.ref 3 0])]) (σ':=[.box [.bs false 4 (([]:List ApP).length) 0 (([]:List ApP).length)] false,.box [i64 0,i64 0] false,.box [.mref 5] false,.box [.sl false (L (cSl Ak) f.Zy1),.sl false (L An f.Zz1)] false,.buf 21 (L A3 ([])) false,.mp (M2 EM g)]) [0,2,3,6,7,5])) ?_;refine Bd ?_;rintro d hx_x_9587 hP_x_9587;refine Ra (fun(v:List ApP)=>[.box [.bs false 4 (v.length) 0 (v.length)] false,.box [i64 0,i64 0] false,.box [.mref 5] false,.box [.sl false (L (cSl Ak) f.Zy1),.sl false (L An f.Zz1)] false,.buf 21 (L A3 v) false,.mp (M2 EM g)]) [(2,.ref 0 0),(4,.ref 1 0),(5,.ref 2 0)] 6 [.box [.bs false 4 (([]:List ApP).length) 0 (([]:List ApP).length)] false,.box [i64 0,i64 0] false,.box [.mref 5] false,.box [.sl false (L (cSl Ak) f.Zy1),.sl false (L An f.Zz1)] false,.buf 21 (L A3 ([])) false,.mp (M2 EM g)] [.box [.bs false 4 (d.length) 0 (d.length)] false,.box [i64 0,i64 0] false,.box [.mref 5] false,.box [.sl false (L (cSl Ak) f.Zy1),.sl false (L An f.Zz1)] false,.buf 21 (L A3 d) false,.mp (M2 EM g),.gone] ?_ ?_ hx_x_9587 (⟨⟨by decide,rfl⟩,⟨by decide,rfl⟩,⟨by decide,rfl⟩,trivial⟩)
  ·intro lp_ ac_ bd_;rintro d p q b v_;show G9 g d p q b=some v_→Run _ _ _ ⟨Ar 78 [(45,.agg (i64 b.Zb::i64 b.No::(C1 u8 b.Zv1.l++[i64 b.Zw1,i64 b.Zx1.Za,i64 b.Zx1.Ref.Zb,i64 b.Zx1.Ref.No,i64 b.Zx1.Zn1,i64 b.Zx1.Zb1,i64 b.Zx1.Zc,i64 b.Zx1.Zo1,i64 b.Zx1.Zw,i64 b.Zx1.To,i64 b.Zx1.Code,i64 b.Zx1.Zp1,i64 b.Zx1.Zq1,i64 b.Zx1.Zr1,i64 b.Zx1.Zs1,.str b.Zx1.Zt1,.sl false (L Aj b.Zx1.Zu1),u64 b.Sig.C,u64 b.Sig.S]))),(44,.agg [i64 p,i64 q]),(2,.ref 0 0),(4,.ref 1 0),(5,.ref 2 0)],[.box [.bs false 4 (d.length) 0 (d.length)] false,.box [i64 0,i64 0] false,.box [.mref 5] false,.box [.sl false (L (cSl Ak) f.Zy1),.sl false (L An f.Zz1)] false,.buf 21 (L A3 d) false,.mp (M2 EM g),.lp false 78 [(2,.ref 0 0),(4,.ref 1 0),(5,.ref 2 0)] #[44,45] ac_ bd_,.box (i64 b.Zb::i64 b.No::(C1 u8 b.Zv1.l++[i64 b.Zw1,i64 b.Zx1.Za,i64 b.Zx1.Ref.Zb,i64 b.Zx1.Ref.No,i64 b.Zx1.Zn1,i64 b.Zx1.Zb1,i64 b.Zx1.Zc,i64 b.Zx1.Zo1,i64 b.Zx1.Zw,i64 b.Zx1.To,i64 b.Zx1.Code,i64 b.Zx1.Zp1,i64 b.Zx1.Zq1,i64 b.Zx1.Zr1,i64 b.Zx1.Zs1,.str b.Zx1.Zt1,.sl false (L Aj b.Zx1.Zu1),u64 b.Sig.C,u64 b.Sig.S])) false]⟩ _;have hE:=ok.env { F:=F,rd:=some lp_ };unfold G9;refine T0 [2,4,5,9,45] ?_;refine F0 [2,4,5,9,10] ?_;refine Wp (Weak.refl _ _) ?_;refine Yb (N':=0) [.box [.bs false 4 (d.length) 0 (d.length)] false,.box [i64 0,i64 0] false,.box [.mref 5] false,.box [.sl false (L (cSl Ak) f.Zy1),.sl false (L An f.Zz1)] false,.buf 21 (L A3 d) false,.mp (M2 EM g),.lp true 78 [(2,.ref 0 0),(4,.ref 1 0),(5,.ref 2 0)] #[44,45] ac_ bd_,.box (i64 b.Zb::i64 b.No::(C1 u8 b.Zv1.l++[i64 b.Zw1,i64 b.Zx1.Za,i64 b.Zx1.Ref.Zb,i64 b.Zx1.Ref.No,i64 b.Zx1.Zn1,i64 b.Zx1.Zb1,i64 b.Zx1.Zc,i64 b.Zx1.Zo1,i64 b.Zx1.Zw,i64 b.Zx1.To,i64 b.Zx1.Code,i64 b.Zx1.Zp1,i64 b.Zx1.Zq1,i64 b.Zx1.Zr1,i64 b.Zx1.Zs1,.str b.Zx1.Zt1,.sl false (L Aj b.Zx1.Zu1),u64 b.Sig.C,u64 b.Sig.S])) false,.box [i64 p,i64 q] false,.box (i64 b.Zb::i64 b.No::(C1 u8 b.Zv1.l++[i64 b.Zw1,i64 b.Zx1.Za,i64 b.Zx1.Ref.Zb,i64 b.Zx1.Ref.No,i64 b.Zx1.Zn1,i64 b.Zx1.Zb1,i64 b.Zx1.Zc,i64 b.Zx1.Zo1,i64 b.Zx1.Zw,i64 b.Zx1.To,i64 b.Zx1.Code,i64 b.Zx1.Zp1,i64 b.Zx1.Zq1,i64 b.Zx1.Zr1,i64 b.Zx1.Zs1,.str b.Zx1.Zt1,.sl false (L Aj b.Zx1.Zu1),u64 b.Sig.C,u64 b.Sig.S])) false] ?_;refine Sb <|Sq <|Lt fun ax ay =>Te (fr':=[(2,_),(4,_),(5,_),(9,_),(10,_),(50,.bool ax)]) [2,4,5,9,10,50] Ac (Ew1 ay) ?_
   refine Cd ?_ ?_
   ·refine Sx <|Tx <|Bx <|?_
    refine Wp (ws (l':=[]) (σ':=[.box [.bs false 4 (d.length) 0 (d.length)] false,.box [i64 0,i64 0] false,.box [.mref 5] false,.box [.sl false (L (cSl Ak) f.Zy1),.sl false (L An f.Zz1)] false,.buf 21 (L A3 d) false,.mp (M2 EM g),.lp true 78 [(2,.ref 0 0),(4,.ref 1 0),(5,.ref 2 0)] #[44,45] ac_ bd_]) [0,1,2,3,4,5,6]) ?_;exact Yf
   ·refine Sk <|Tn <|Ck fun az =>Lt fun aA aB =>Lt fun aC aD =>Lt fun aE aF =>Lt fun aG aH =>Lt fun aI aJ =>Lt fun aK aL =>Lt fun aM aN =>Lt fun aO aP =>Lt fun aQ aR =>Lt fun aS aT =>Lt fun aU aV =>Lt fun aW aX =>Lt fun aY aZ =>Lt fun a0 a1 =>Lt fun a2 a3 =>Lt fun a4 a5 =>Lt fun a6 a7 =>Lt fun a8 a9 =>Lt fun ba bb =>Lt fun bc bd =>Lt fun be bf =>Lt fun bg bh =>Te (fr':=[(2,_),(4,_),(9,_),(10,_),(11,_),(12,.bool aA)]) (σ':=[_,_,_,_,_,_,_,_,_,_,.box [i64 aC,i64 aE,i64 aG,i64 aI,i64 aK,i64 aM,i64 aO,i64 aQ,i64 aS,i64 aU,i64 aW,i64 aY,i64 a0,i64 a2,i64 a4,i64 a6,i64 a8,i64 ba,i64 bc,.str be,.sl false (L Aj bg)] false]) [2,4,9,10,11,12] Ac (Ev (by simp only[go_sem,az,aB,aD,aF,aH,aJ,aL,aN,aP,aR,aT,aV,aX,aZ,a1,a3,a5,a7,a9,bb,bd,bf,bh];exact AY)) ?_
    refine Jo (fun⟨u,w,x,y,z,aa,ab,ac,ad,ae,af,ag,ah,ai,aj,ak,al,am,an,ao,ap⟩=>⟨Ar 78 [(2,.ref 0 0),(4,.ref 1 0),(11,.ref 7 0)],[.box [.bs false 4 (d.length) 0 (d.length)] false,.box [i64 0,i64 0] false,.box [.mref 5] false,.box [.sl false (L (cSl Ak) f.Zy1),.sl false (L An f.Zz1)] false,.buf 21 (L A3 d) false,.mp (M2 EM g),.lp true 78 [(2,.ref 0 0),(4,.ref 1 0),(5,.ref 2 0)] #[44,45] ac_ bd_,.box [i64 u,i64 w,i64 x,i64 y,i64 z,i64 aa,i64 ab,i64 ac,i64 ad,i64 ae,i64 af,i64 ag,i64 ah,i64 ai,i64 aj,i64 ak,i64 al,i64 am,i64 an,.str ao,.sl false (L Aj ap)] false]⟩) ?_ ?_
    ·intro bl bi;refine T0 [2,4,9,10,11,58] ?_;refine Cd ?_ ?_
     ·refine F0 [2,4,11] ?_;exact Jn (ws [0,1,2,3,4,5,6,10])
     ·refine T0 [2,4,11,69] ?_;refine Cd ?_ ?_
      ·refine Sx <|Jx bi <|Bx <|?_
       refine Wp (ws (l':=[]) (σ':=[.box [.bs false 4 (d.length) 0 (d.length)] false,.box [i64 0,i64 0] false,.box [.mref 5] false,.box [.sl false (L (cSl Ak) f.Zy1),.sl false (L An f.Zz1)] false,.buf 21 (L A3 d) false,.mp (M2 EM g),.lp true 78 [(2,.ref 0 0),(4,.ref 1 0),(5,.ref 2 0)] #[44,45] ac_ bd_]) [0,1,2,3,4,5,6]) ?_;exact Yf
      ·exact Sk <|Jn (ws [0,1,2,3,4,5,6,10])
    rintro⟨u,w,x,y,z,aa,ab,ac,ad,ae,af,ag,ah,ai,aj,ak,al,am,an,ao,ap⟩;refine T0 [2,11] ?_;refine Ck fun bj =>Lt fun i bk =>Fe (σ':=[.box [.bs false 4 (i.length) 0 (i.length)] false,_,_,_,.buf 21 (L A3 i) false,_,_,_,_]) [] Ac (Ew2 bj bk) ?_
    refine Bn ?_;refine Wp (ws (l':=[]) (σ':=[.box [.bs false 4 (i.length) 0 (i.length)] false,.box [i64 0,i64 0] false,.box [.mref 5] false,.box [.sl false (L (cSl Ak) f.Zy1),.sl false (L An f.Zz1)] false,.buf 21 (L A3 i) false,.mp (M2 EM g),.lp true 78 [(2,.ref 0 0),(4,.ref 1 0),(5,.ref 2 0)] #[44,45] ac_ bd_]) [0,1,2,3,4,5,6]) ?_;exact Yf
  ·revert hP_x_9587;refine Bn <|Tn <|?_
   refine Rw (ws (l':=[(2,.ref 0 0)]) (σ':=[.box [.bs false 4 (d.length) 0 (d.length)] false,.box [i64 0,i64 0] false,.box [.mref 5] false,.box [.sl false (L (cSl Ak) f.Zy1),.sl false (L An f.Zz1)] false,.buf 21 (L A3 d) false,.mp (M2 EM g)]) [0,1,2,3,4,5]) ?_;refine T0 [2] ?_;exact Sr <|Rr
theorem PY{r}(h:law14_sane  = some r):Con B 6 [] [] (fun r' σ'=>r'=.bool r∧σ'=[]):=by
 refine Cw 203 [.tmp 0] Tryz.func6 (fun F hE=>?_) h;unfold law14_sane;refine T0 [] ?_;refine Bd fun aF am =>Te [1] (o1 25 (NB am)) Ev ?_
 refine T0 [1,2] ?_;refine Bd fun aG an =>Bd fun aH ao =>De [[],[],[],[0,1,2],[0,1,2,3],[0,1,2,3,4],[0,1,2,3,4],[],[0,1,2,3,4,5,7],[0,1,2,3,4,5,6,7,8]] [1,2,3,4] (o2 30 (E3 an) 31 (Eh ao)) Ev ?_
 refine Bd fun ad ap =>Te [1,2,3,4,5,6] (o1 38 (Dd ap)) Ev ?_
 refine Bd fun aI aq =>Te [1,2,3,4,5,6,7,8] (o1 45 (Dd aq)) Ev ?_
 refine Bd fun aJ ar =>Bd fun aK au =>De [[],[],[],[0,1,2],[0,1,2,3],[0,1,2,3,4],[0,1,2,3,4],[],[0,1,2,3,4,5,7],[0,1,2,3,4,5,6,7,8]] [1,2,3,4,5,6,7,8,10] (o2 51 (E3 ar) 52 (Eh au)) Ev ?_
 refine Bd fun aL av =>Bd fun aw ax =>De [[],[],[],[0,1,2],[0,1,2,3],[0,1,2,3,4],[0,1,2,3,4],[],[0,1,2,3,4,5,7],[0,1,2,3,4,5,6,7,8]] [1,2,3,4,5,6,7,8,10,11,12] (o2 58 (E3 av) 59 (Eh ax)) Ev ?_
 refine Bd fun x ay =>Te [1,2,3,4,5,6,7,8,10,12,13,14] (o1 66 (Dd ay)) Ev ?_
 refine Bd fun aM az =>Bd fun ae aA =>De [[],[],[],[0,1,2],[0,1,2,3],[0,1,2,3,4],[0,1,2,3,4],[],[0,1,2,3,4,5,7],[0,1,2,3,4,5,6,7,8]] [1,2,3,4,5,6,7,8,10,12,13,14,16] (o2 72 (E3 az) 73 (Eh aA)) Ev ?_
 refine Bd fun af aB =>Te [1,2,3,4,5,6,7,8,10,12,13,14,16,17,18] (o1 81 (Eh aB)) Ev ?_
 refine Bd fun j aC =>Te [1,2,3,4,5,6,7,8,10,12,13,14,16,18,19,20] (o1 88 (Dd aC)) Ev ?_
 refine Bd fun ag aD =>Te [3,4,5,6,7,8,10,12,13,14,16,18,19,20,22] (o1 96 (Eh aD)) Ev ?_
 refine Tw [5,12,13,14,16,18,19,20,22,23] (fun y=>⟨Ar 203 [(5,.ref 0 0),(12,i64 aw.2),(13,.ref 1 0),(14,i64 x.2),(16,i64 ae.2),(18,i64 af.2),(19,.ref 2 0),(20,i64 j.2),(22,i64 ag.2),(23,.bool y)],[.box [.sl false (L (cSl Ak) ad.1.Zy1),.sl false (L An ad.1.Zz1)] false,.box [.sl false (L (cSl Ak) x.1.Zy1),.sl false (L An x.1.Zz1)] false,.box [.sl false (L (cSl Ak) j.1.Zy1),.sl false (L An j.1.Zz1)] false]⟩) ?_ ?_
 ·intro _;refine Sp (fun a=>?_) fun a=>?_
  ·refine Sp (fun b=>?_) fun b=>?_
   ·refine Sp (fun c=>?_) fun c=>?_
    ·refine Sp (fun f=>?_) fun f=>?_
     ·refine Sp (fun k=>?_) fun k=>?_
      ·refine Ck fun s=>?_
       refine Sp (fun o=>?_) fun o=>?_
       ·refine Sp (fun t=>?_) fun t=>?_
        ·refine Bd fun aN ah=>?_
         refine Sp (fun z=>?_) fun z=>?_
         ·exact Lf (o1 137 (LM ah)) (Ev (by simp only[go_sem,a,b,Js,Kr,HB,c,f,k,qL s,o,t,z];exact AY)) (ws [3,7,10])
         ·exact Lf (o1 137 (LM ah)) (Ev (by simp only[go_sem,a,b,Js,Kr,HB,c,f,k,qL s,o,t,z];exact AY)) (ws [3,7,10])
        ·exact Lf Ac (Ev (by simp only[go_sem,a,b,Js,Kr,HB,c,f,k,qL s,o,t];exact AY)) (ws [3,7,10])
       ·exact Lf Ac (Ev (by simp only[go_sem,a,b,Js,Kr,HB,c,f,k,qL s,o];exact AY)) (ws [3,7,10])
      ·exact Lf Ac (Ev (by simp only[go_sem,a,b,Js,Kr,HB,c,f,k];exact AY)) (ws [3,7,10])
     ·exact Lf Ac (Ev (by simp only[go_sem,a,b,Js,Kr,HB,c,f];exact AY)) (ws [3,7,10])
    ·exact Lf Ac (Ev (by simp only[go_sem,a,b,Js,Kr,HB,c];exact AY)) (ws [3,7,10])
   ·exact Lf Ac (Ew2 a b) (ws [3,7,10])
  ·exact Lf Ac (Ew1 a) (ws [3,7,10])
 intro y;refine Tw [16,18,19,20,22,23,24] (fun ai=>⟨Ar 203 [(16,i64 ae.2),(18,i64 af.2),(19,.ref 0 0),(20,i64 j.2),(22,i64 ag.2),(23,.bool y),(24,.bool ai)],[.box [.sl false (L (cSl Ak) j.1.Zy1),.sl false (L An j.1.Zz1)] false]⟩) ?_ ?_
 ·intro _;refine Sp (fun d=>?_) fun d=>?_
  ·refine Sp (fun g=>?_) fun g=>?_
   ·refine Sp (fun m=>?_) fun m=>?_
    ·refine Bd fun aO u=>?_
     refine Sp (fun p=>?_) fun p=>?_
     ·refine Bd fun aP aa=>?_
      refine Sp (fun v=>?_) fun v=>?_
      ·refine Bd fun aQ aj=>?_
       refine Sp (fun ab=>?_) fun ab=>?_
       ·refine Bd fun aR aE=>?_
        exact Lf (Cp (l:=[(157,_,_,_),(162,_,_,_),(167,_,_,_),(173,_,_,_)]) ⟨Cv  u,Cv  aa,Dv  aj,Dv  aE,trivial⟩) (Ev (by simp only[go_sem,d,g,m,p,v,ab];exact AY)) (ws [2])
       ·exact Lf (Cp (l:=[(157,_,_,_),(162,_,_,_),(167,_,_,_)]) ⟨Cv  u,Cv  aa,Dv  aj,trivial⟩) (Ev (by simp only[go_sem,d,g,m,p,v,ab];exact AY)) (ws [2])
      ·exact Lf (o2 157 (Cv u) 162 (Cv aa)) (Ew5 d g m p v) (ws [2])
     ·exact Lf (o1 157 (Cv u)) (Ew4 d g m p) (ws [2])
    ·exact Lf Ac (Ew3 d g m) (ws [2])
   ·exact Lf Ac (Ew2 d g) (ws [2])
  ·exact Lf Ac (Ew1 d) (ws [2])
 intro ai;refine Tw [0] (fun ak=>⟨Ar 203 [(0,.bool ak)],[]⟩) ?_ ?_
 ·intro _;refine Sp (fun e=>?_) fun e=>?_
  ·refine Sp (fun i=>?_) fun i=>?_
   ·refine Sp (fun n=>?_) fun n=>?_
    ·refine Sp (fun q=>?_) fun q=>?_
     ·refine Sp (fun w=>?_) fun w=>?_
      ·refine Bd fun aS al=>?_
       refine Sp (fun ac=>?_) fun ac=>?_
       ·exact Lf (o1 195 (Dv al)) (Ev (by simp only[go_sem,e,i,n,q,w,ac];exact AY)) (ws [])
       ·exact Lf (o1 195 (Dv al)) (Ev (by simp only[go_sem,e,i,n,q,w,ac];exact AY)) (ws [])
      ·exact Lf Ac (Ew5 e i n q w) (ws [])
     ·exact Lf Ac (Ew4 e i n q) (ws [])
    ·exact Lf Ac (Ew3 e i n) (ws [])
   ·exact Lf Ac (Ew2 e i) (ws [])
  ·exact Lf Ac (Ew1 e) (ws [])
 intro ak;exact Sr <|Rr
theorem HJ{a r}(h:H7 a=some r):Con B 7 [.agg [.sl false (L Ag a.Zg1.Ze),.sl false (L Al a.Zg1.Zf),.sl false (L Aa a.Zh1.Zx),.sl false (L Ae a.Zh1.Zy),.sl false (L Ai a.Zh1.Zz),.sl false (L Ah a.Zh1.Za1),.sl false (L Af a.Zi1),.sl false (L Ad a.Zj1),.sl false (L Ab a.Zk1)]] [] (fun r' σ'=>r'=.bool r∧σ'=[]):=by
 refine Cw 86 [.tmp 2] Tryz.func7 (fun F hE=>?_) h;unfold H7;refine T0 [1] ?_;refine Jo (fun _=>⟨Ar 86 [(1,.ref 0 0)],[.box [.sl false (L Ag a.Zg1.Ze),.sl false (L Al a.Zg1.Zf),.sl false (L Aa a.Zh1.Zx),.sl false (L Ae a.Zh1.Zy),.sl false (L Ai a.Zh1.Zz),.sl false (L Ah a.Zh1.Za1),.sl false (L Af a.Zi1),.sl false (L Ad a.Zj1),.sl false (L Ab a.Zk1)] false]⟩) ?_ ?_
 ·intro y t;refine T0 [1,3] ?_;refine Sb ?_;refine Lo (fun e=>⟨Ar 86 [(1,.ref 0 0),(3,i64 e)],[.box [.sl false (L Ag a.Zg1.Ze),.sl false (L Al a.Zg1.Zf),.sl false (L Aa a.Zh1.Zx),.sl false (L Ae a.Zh1.Zy),.sl false (L Ai a.Zh1.Zz),.sl false (L Ah a.Zh1.Za1),.sl false (L Af a.Zi1),.sl false (L Ad a.Zj1),.sl false (L Ab a.Zk1)] false]⟩) (ws [0]) ?_;rintro e z u n o;show FN a e=some u→_;unfold FN;refine Sq ?_;refine Tw [1,3,14] (fun p=>⟨Ar 86 [(1,.ref 0 0),(3,i64 e),(14,.bool p)],[.box [.sl false (L Ag a.Zg1.Ze),.sl false (L Al a.Zg1.Zf),.sl false (L Aa a.Zh1.Zx),.sl false (L Ae a.Zh1.Zy),.sl false (L Ai a.Zh1.Zz),.sl false (L Ah a.Zh1.Za1),.sl false (L Af a.Zi1),.sl false (L Ad a.Zj1),.sl false (L Ab a.Zk1)] false]⟩) ?_ ?_
  ·intro _;refine Sp (fun i=>?_) fun i=>?_
   ·exact Lf Ac (Ew1 i) (ws [0])
   ·exact Lf Ac (Ew1 i) (ws [0])
  intro p;refine Cd ?_ ?_
  ·refine Sk <|Tn <|Sq <|Sb <|Ck fun v =>Lt fun w x =>Te (fr':=[(1,_),(3,_),(25,.bool w)]) [1,3,25] Ac (Ew2 (qR v) x) ?_
   refine Cd ?_ ?_
   ·refine T0 [2] ?_;exact Sr <|Br <|Tr <|Lr o n <|Br <|Jr t <|Rr
   ·refine Sk <|Bn <|Tn <|F0 [1,3] ?_
    exact Ln (ws [0])
  ·refine Sx <|Tx <|Lx o n <|Bx <|?_
   exact Jn ((ws (l':=[(1,.ref 0 0)]) (σ':=[.box [.sl false (L Ag a.Zg1.Ze),.sl false (L Al a.Zg1.Zf),.sl false (L Aa a.Zh1.Zx),.sl false (L Ae a.Zh1.Zy),.sl false (L Ai a.Zh1.Zz),.sl false (L Ah a.Zh1.Za1),.sl false (L Af a.Zi1),.sl false (L Ad a.Zj1),.sl false (L Ab a.Zk1)] false]) [0]).trans (ws [0]))
 intro _;refine Tw [1,4] (fun j=>⟨Ar 86 [(1,.ref 0 0),(4,.bool j)],[.box [.sl false (L Ag a.Zg1.Ze),.sl false (L Al a.Zg1.Zf),.sl false (L Aa a.Zh1.Zx),.sl false (L Ae a.Zh1.Zy),.sl false (L Ai a.Zh1.Zz),.sl false (L Ah a.Zh1.Za1),.sl false (L Af a.Zi1),.sl false (L Ad a.Zj1),.sl false (L Ab a.Zk1)] false]⟩) ?_ ?_
 ·intro _;refine Sp (fun k=>?_) fun k=>?_
  ·exact Lf Ac (Ew1 k) (ws [0])
  ·exact Lf Ac (Ew1 k) (ws [0])
 intro j;refine Tw [1,4,5] (fun q=>⟨Ar 86 [(1,.ref 0 0),(4,.bool j),(5,.bool q)],[.box [.sl false (L Ag a.Zg1.Ze),.sl false (L Al a.Zg1.Zf),.sl false (L Aa a.Zh1.Zx),.sl false (L Ae a.Zh1.Zy),.sl false (L Ai a.Zh1.Zz),.sl false (L Ah a.Zh1.Za1),.sl false (L Af a.Zi1),.sl false (L Ad a.Zj1),.sl false (L Ab a.Zk1)] false]⟩) ?_ ?_
 ·intro _;refine Sp (fun c=>?_) fun c=>?_
  ·refine Sp (fun f=>?_) fun f=>?_
   ·refine Sp (fun l=>?_) fun l=>?_
    ·exact Lf Ac (Ew3 c f l) (ws [0])
    ·exact Lf Ac (Ew3 c f l) (ws [0])
   ·exact Lf Ac (Ew2 c f) (ws [0])
  ·exact Lf Ac (Ew1 c) (ws [0])
 intro q;refine Tw [2] (fun s=>⟨Ar 86 [(2,.bool s)],[]⟩) ?_ ?_
 ·intro _;refine Sp (fun b=>?_) fun b=>?_
  ·refine Sp (fun d=>?_) fun d=>?_
   ·refine Sp (fun g=>?_) fun g=>?_
    ·refine Sp (fun m=>?_) fun m=>?_
     ·exact Lf Ac (Ew4 b d g m) (ws [])
     ·exact Lf Ac (Ew4 b d g m) (ws [])
    ·exact Lf Ac (Ew3 b d g) (ws [])
   ·exact Lf Ac (Ew2 b d) (ws [])
  ·exact Lf Ac (Ew1 b) (ws [])
 intro s;exact Sr <|Rr
theorem DR{a r}(h:Dm a=some r):Con B 9 [.agg [i64 a.Za,i64 a.Ref.Zb,i64 a.Ref.No,i64 a.Zn1,i64 a.Zb1,i64 a.Zc,i64 a.Zo1,i64 a.Zw,i64 a.To,i64 a.Code,i64 a.Zp1,i64 a.Zq1,i64 a.Zr1,i64 a.Zs1,.str a.Zt1,.sl false (L Aj a.Zu1)]] [] (fun r' σ'=>r'=.bool r∧σ'=[]):=by
 refine Cw 13 [.tmp 2] Tryz.func9 (fun F hE=>?_) h;unfold Dm;refine T0 [1] ?_;refine Tw [2] (fun c=>⟨Ar 13 [(2,.bool c)],[]⟩) ?_ ?_
 ·intro _;refine Sp (fun b=>?_) fun b=>?_
  ·exact Lf Ac (Ew1 b) (ws [])
  ·exact Lf Ac (Ew1 b) (ws [])
 intro c;exact Sr <|Rr
theorem Ip{a r}(h:F2 a=some r):Con B 8 [.agg [.sl false (L (cSl Ak) a.Zy1),.sl false (L An a.Zz1)]] [] (fun r' σ'=>r'=.bool r∧σ'=[]):=by
 refine Cw 78 [.tmp 2] Tryz.func8 (fun F hE=>?_) h;unfold F2;refine T0 [1] ?_;refine Sq ?_;refine Tw [1,15] (fun j=>⟨Ar 78 [(1,.ref 0 0),(15,.bool j)],[.box [.sl false (L (cSl Ak) a.Zy1),.sl false (L An a.Zz1)] false]⟩) ?_ ?_
 ·intro _;refine Sp (fun d=>?_) fun d=>?_
  ·exact Lf Ac (Ew1 d) (ws [0])
  ·exact Lf Ac (Ew1 d) (ws [0])
 intro j;refine Cd ?_ ?_
 ·refine T0 [2] ?_;exact Sr <|Tr <|Rr
 ·refine Sk <|Tn <|?_
  refine Jo (fun _=>⟨Ar 78 [(1,.ref 0 0)],[.box [.sl false (L (cSl Ak) a.Zy1),.sl false (L An a.Zz1)] false]⟩) ?_ ?_
  ·intro aj k;refine T0 [1,3] ?_;refine Sb ?_;refine Lo (fun b=>⟨Ar 78 [(1,.ref 0 0),(3,i64 b)],[.box [.sl false (L (cSl Ak) a.Zy1),.sl false (L An a.Zz1)] false]⟩) (ws [0]) ?_;rintro b ak u e f;show D4 a b=some u→_;unfold D4;refine Sq <|T0 [1,3,20] ?_
   refine Cd ?_ ?_
   ·refine Sk <|Tn <|?_
    refine Jo (fun _=>⟨Ar 78 [(1,.ref 0 0),(3,i64 b)],[.box [.sl false (L (cSl Ak) a.Zy1),.sl false (L An a.Zz1)] false]⟩) ?_ ?_
    ·intro al l;refine Sb <|Sq <|Ck fun v =>Lt fun w x =>Te (fr':=[(1,_),(3,_),(29,.bool w)]) [1,3,29] Ac (Ew2 (qR v) x) ?_
     refine Cd ?_ ?_
     ·refine T0 [2] ?_;exact Sr <|Tr <|Br <|Jr l <|Lr f e <|Br <|Jr k <|Rr
     ·refine Sk <|Tn <|T0 [1,3,4] ?_
      refine Sb ?_;refine Lo (fun g=>⟨Ar 78 [(1,.ref 0 0),(3,i64 b),(4,i64 g)],[.box [.sl false (L (cSl Ak) a.Zy1),.sl false (L An a.Zz1)] false]⟩) (ws [0]) ?_;rintro g am y m n;show CT a b g=some y→_;unfold CT;refine Sq <|Ck fun z =>Lt fun aa ab =>Te (fr':=[(1,_),(3,_),(4,_),(37,.bool aa)]) [1,3,4,37] Ac (Ew2 (qR z) ab) ?_
      refine Cd ?_ ?_
      ·refine Sk <|Tn <|Sq <|Sb <|Ck fun ac =>Ck fun ad =>Bd fun an ae =>Te [1,3,4,50] (o1 49 (DR ae)) (Ew2 (qR ac) (qR ad)) ?_
       refine Cd ?_ ?_
       ·refine T0 [2] ?_;exact Sr <|Br <|Tr <|Lr n m <|Br <|Br <|Jr l <|Lr f e <|Br <|Jr k <|Rr
       ·refine Sk <|Bn <|Tn <|F0 [1,3,4] ?_
        exact Ln (ws [0])
      ·refine Sx <|Tx <|Lx n m <|Bx <|Bn <|?_
       exact Jn ((ws (l':=[(1,.ref 0 0),(3,i64 b)]) (σ':=[.box [.sl false (L (cSl Ak) a.Zy1),.sl false (L An a.Zz1)] false]) [0]).trans (ws [0]))
    intro _;refine F0 [1,3] ?_;exact Ln (ws [0])
   ·refine Sx <|Tx <|Lx f e <|Bx <|?_
    exact Jn ((ws (l':=[(1,.ref 0 0)]) (σ':=[.box [.sl false (L (cSl Ak) a.Zy1),.sl false (L An a.Zz1)] false]) [0]).trans (ws [0]))
  intro _;refine Jo (fun _=>⟨Ar 78 [],[]⟩) ?_ ?_
  ·intro ao af;refine T0 [1,5] ?_;refine Sb ?_;refine Lo (fun c=>⟨Ar 78 [(1,.ref 0 0),(5,i64 c)],[.box [.sl false (L (cSl Ak) a.Zy1),.sl false (L An a.Zz1)] false]⟩) (ws [0]) ?_;rintro c ap ag o p;show D5 a c=some ag→_;unfold D5;refine Sq <|T0 [1,5,55] ?_
   refine Cd ?_ ?_
   ·refine Sk <|Tn <|Sq <|Sb <|?_
    refine Tw [1,5,77] (fun q=>⟨Ar 78 [(1,.ref 0 0),(5,i64 c),(77,.bool q)],[.box [.sl false (L (cSl Ak) a.Zy1),.sl false (L An a.Zz1)] false]⟩) ?_ ?_
    ·intro _;refine Ck fun s =>Bd fun aq t =>?_
     refine Sp (fun i=>?_) fun i=>?_
     ·exact Lf (o1 65 (DR t)) (Ew2 (qR s) i) (ws [0])
     ·refine Ck fun ah =>Bd fun ar ai =>?_
      exact Lf (o2 65 (DR t) 75 (DR ai)) (Ew3 (qR s) i (qR ah)) (ws [0])
    intro q;refine Cd ?_ ?_
    ·refine T0 [2] ?_;exact Sr <|Br <|Tr <|Lr p o <|Br <|Jr af <|Rr
    ·refine Sk <|Bn <|Tn <|F0 [1,5] ?_
     exact Ln (ws [0])
   ·refine Sx <|Tx <|Lx p o <|Bx <|?_
    exact Jn ((ws (l':=[]) (σ':=[]) []).trans (ws []))
  intro _;refine T0 [2] ?_;exact Sr <|Rr
theorem Az{b c d r}(h:C2 b c d=some r):Con B 122 [i64 b,i64 c,i64 d] [] (fun r' σ'=>r'=.bool r∧σ'=[]):=by
 refine Cw 15 [.tmp 6] Tryz.func122 (fun F hE=>?_) h;unfold C2;refine T0 [0,1,2] ?_;refine Tw [6] (fun e=>⟨Ar 15 [(6,.bool e)],[]⟩) ?_ ?_
 ·intro _;refine Sp (fun a=>?_) fun a=>?_
  ·exact Lf Ac (Ew1 a) (ws [])
  ·exact Lf Ac (Ew1 a) (ws [])
 intro e;exact Sr <|Rr
theorem Rj{a r}(h:FD a=some r):Con B 71 [.agg [i64 a.Za,i64 a.Zb,i64 a.Zc]] [] (fun r' σ'=>r'=.bool r∧σ'=[]):=by
 refine Cw 29 [.tmp 2] Tryz.func71 (fun F hE=>?_) h;unfold FD;refine T0 [1] ?_;refine Sq ?_;refine Tw [1,12] (fun d=>⟨Ar 29 [(1,.ref 0 0),(12,.bool d)],[.box [i64 a.Za,i64 a.Zb,i64 a.Zc] false]⟩) ?_ ?_
 ·intro _;refine Bd fun j e=>?_
  refine Sp (fun b=>?_) fun b=>?_
  ·exact Lf (o1 5 (Az e)) (Ew1 b) (ws [0])
  ·refine Bd fun k i=>?_
   exact Lf (o2 5 (Az e) 10 (Az i)) (Ew1 b) (ws [0])
 intro d;refine Cd ?_ ?_
 ·refine T0 [2] ?_;exact Sr <|Tr <|Rr
 ·refine Sk <|Tn <|Sq <|T0 [1,15] ?_
  refine Cd ?_ ?_
  ·refine Tw [2] (fun f=>⟨Ar 29 [(2,.bool f)],[]⟩) ?_ ?_
   ·intro _;refine Bd fun l g=>?_
    refine Sp (fun c=>?_) fun c=>?_
    ·exact Lf (o1 18 (Az g)) (Ew1 c) (ws [])
    ·exact Lf (o1 18 (Az g)) (Ew1 c) (ws [])
   intro f;exact Sr <|Tr <|Rr
  ·refine Sk <|Tn <|T0 [2] ?_
   exact Sr <|Rr
theorem Sj{b k r}(h:HD b k=some r):Con B 72 [.agg [i64 b.A,i64 b.B,i64 b.Zb,i64 b.Zd,i64 b.Km],i64 k] [] (fun r' σ'=>r'=.bool r∧σ'=[]):=by
 refine Cw 39 [.tmp 4] Tryz.func72 (fun F hE=>?_) h;unfold HD;refine T0 [1,2] ?_;refine Tw [4] (fun m=>⟨Ar 39 [(4,.bool m)],[]⟩) ?_ ?_
 ·intro _;refine Bd fun p c=>?_
  refine Sp (fun a=>?_) fun a=>?_
  ·refine Bd fun q e=>?_
   refine Sp (fun d=>?_) fun d=>?_
   ·refine Sp (fun f=>?_) fun f=>?_
    ·refine Bd fun s i=>?_
     refine Sp (fun g=>?_) fun g=>?_
     ·refine Bd fun t n=>?_
      refine Sp (fun j=>?_) fun j=>?_
      ·refine Bd fun u o=>?_
       exact Lf (Cp (l:=[(9,_,_,_),(15,_,_,_),(27,_,_,_),(32,_,_,_),(37,_,_,_)]) ⟨Az  c,Az  e,Az  i,Az  n,Az  o,trivial⟩) (Ew5 a d f g j) (ws [])
      ·exact Lf (Cp (l:=[(9,_,_,_),(15,_,_,_),(27,_,_,_),(32,_,_,_)]) ⟨Az  c,Az  e,Az  i,Az  n,trivial⟩) (Ew5 a d f g j) (ws [])
     ·exact Lf (Cp (l:=[(9,_,_,_),(15,_,_,_),(27,_,_,_)]) ⟨Az  c,Az  e,Az  i,trivial⟩) (Ew4 a d f g) (ws [])
    ·exact Lf (o2 9 (Az c) 15 (Az e)) (Ew3 a d f) (ws [])
   ·exact Lf (o2 9 (Az c) 15 (Az e)) (Ew2 a d) (ws [])
  ·exact Lf (o1 9 (Az c)) (Ew1 a) (ws [])
 intro m;exact Sr <|Rr
theorem QN{a r}(h:ID a=some r):Con B 38 [.agg [.sl false (L Ag a.Ze),.sl false (L Al a.Zf)]] [] (fun r' σ'=>r'=i64 r∧σ'=[]):=by
 refine Cw 46 [.tmp 2] Tryz.func38 (fun F hE=>?_) h;unfold ID;refine T0 [1] ?_;refine Sq ?_;refine Tw [1,14] (fun e=>⟨Ar 46 [(1,.ref 0 0),(14,.bool e)],[.box [.sl false (L Ag a.Ze),.sl false (L Al a.Zf)] false]⟩) ?_ ?_
 ·intro _;refine Sp (fun b=>?_) fun b=>?_
  ·exact Lf Ac (Ew1 b) (ws [0])
  ·exact Lf Ac (Ew1 b) (ws [0])
 intro e;refine Cd ?_ ?_
 ·refine T0 [2] ?_;exact Sr <|Tr <|Rr
 ·refine Sk <|Tn <|?_
  refine Jo (fun _=>⟨Ar 46 [(1,.ref 0 0)],[.box [.sl false (L Ag a.Ze),.sl false (L Al a.Zf)] false]⟩) ?_ ?_
  ·intro t k;refine T0 [1,3] ?_;refine Sb ?_;refine Lo (fun c=>⟨Ar 46 [(1,.ref 0 0),(3,i64 c)],[.box [.sl false (L Ag a.Ze),.sl false (L Al a.Zf)] false]⟩) (ws [0]) ?_;rintro c u l f g;show DU a c=some l→_;unfold DU;refine Sq <|T0 [1,3,19] ?_
   refine Cd ?_ ?_
   ·refine Sk <|Tn <|Sq <|Sb <|Ck fun m =>Bd fun v n =>Te [1,3,28] (o1 27 (Rj n)) (Ew1 (qR m)) ?_
    refine Cd ?_ ?_
    ·refine T0 [2] ?_;exact Sr <|Br <|Tr <|Lr g f <|Br <|Jr k <|Rr
    ·refine Sk <|Bn <|Tn <|F0 [1,3] ?_
     exact Ln (ws [0])
   ·refine Sx <|Tx <|Lx g f <|Bx <|?_
    exact Jn ((ws (l':=[(1,.ref 0 0)]) (σ':=[.box [.sl false (L Ag a.Ze),.sl false (L Al a.Zf)] false]) [0]).trans (ws [0]))
  intro _;refine Jo (fun _=>⟨Ar 46 [],[]⟩) ?_ ?_
  ·intro w o;refine T0 [1,4] ?_;refine Sb ?_;refine Lo (fun d=>⟨Ar 46 [(1,.ref 0 0),(4,i64 d)],[.box [.sl false (L Ag a.Ze),.sl false (L Al a.Zf)] false]⟩) (ws [0]) ?_;rintro d x p i j;show DL a d=some p→_;unfold DL;refine Sq <|T0 [1,4,33] ?_
   refine Cd ?_ ?_
   ·refine Sk <|Tn <|Sq <|Sb <|Ck fun q =>Bd fun y s =>De [[],[0],[],[0,1,2],[0,1,2,3],[],[5],[5,6],[0,1,2,3,4,5,6,7],[0,1,2,3,4,5,6,7,8]] [1,4,45] (o1 44 (Sj s)) (Ew1 (qR q)) ?_
    refine Cd ?_ ?_
    ·refine T0 [2] ?_;exact Sr <|Br <|Tr <|Lr j i <|Br <|Jr o <|Rr
    ·refine Sk <|Bn <|Tn <|F0 [1,4] ?_
     exact Ln (ws [0])
   ·refine Sx <|Tx <|Lx j i <|Bx <|?_
    exact Jn ((ws (l':=[]) (σ':=[]) []).trans (ws []))
  intro _;refine T0 [2] ?_;exact Sr <|Rr
theorem Ap{b c d r}(h:AU b c d=some r):Con B 75 [i64 b,i64 c,i64 d] [] (fun r' σ'=>r'=.bool r∧σ'=[]):=by
 refine Cw 15 [.tmp 6] Tryz.func75 (fun F hE=>?_) h;unfold AU;refine T0 [0,1,2] ?_;refine Tw [6] (fun e=>⟨Ar 15 [(6,.bool e)],[]⟩) ?_ ?_
 ·intro _;refine Sp (fun a=>?_) fun a=>?_
  ·exact Lf Ac (Ew1 a) (ws [])
  ·exact Lf Ac (Ew1 a) (ws [])
 intro e;exact Sr <|Rr
theorem KZ{a r}(h:Dl a=some r):Con B 73 [.agg [i64 a.Zg,i64 a.Zh,i64 a.Zi,i64 a.Zj,i64 a.Zk,u64 a.Zl,i64 a.Zm,i64 a.Zn]] [] (fun r' σ'=>r'=.bool r∧σ'=[]):=by
 refine Cw 36 [.tmp 2] Tryz.func73 (fun F hE=>?_) h;unfold Dl;refine T0 [1] ?_;refine Tw [2] (fun o=>⟨Ar 36 [(2,.bool o)],[]⟩) ?_ ?_
 ·intro _;refine Bd fun s c=>?_
  refine Sp (fun b=>?_) fun b=>?_
  ·refine Bd fun t e=>?_
   refine Sp (fun d=>?_) fun d=>?_
   ·refine Bd fun u g=>?_
    refine Sp (fun f=>?_) fun f=>?_
    ·refine Bd fun v j=>?_
     refine Sp (fun i=>?_) fun i=>?_
     ·refine Bd fun w m=>?_
      refine Sp (fun k=>?_) fun k=>?_
      ·refine Bd fun x p=>?_
       refine Sp (fun n=>?_) fun n=>?_
       ·refine Bd fun y q=>?_
        exact Lf (Cp (l:=[(5,_,_,_),(9,_,_,_),(14,_,_,_),(19,_,_,_),(24,_,_,_),(29,_,_,_),(34,_,_,_)]) ⟨Ap  c,Ap  e,Ap  g,Ap  j,Ap  m,Ap  p,Ap  q,trivial⟩) (Ev (by simp only[go_sem,b,d,f,i,k,n];exact AY)) (ws [])
       ·exact Lf (Cp (l:=[(5,_,_,_),(9,_,_,_),(14,_,_,_),(19,_,_,_),(24,_,_,_),(29,_,_,_)]) ⟨Ap  c,Ap  e,Ap  g,Ap  j,Ap  m,Ap  p,trivial⟩) (Ev (by simp only[go_sem,b,d,f,i,k,n];exact AY)) (ws [])
      ·exact Lf (Cp (l:=[(5,_,_,_),(9,_,_,_),(14,_,_,_),(19,_,_,_),(24,_,_,_)]) ⟨Ap  c,Ap  e,Ap  g,Ap  j,Ap  m,trivial⟩) (Ew5 b d f i k) (ws [])
     ·exact Lf (Cp (l:=[(5,_,_,_),(9,_,_,_),(14,_,_,_),(19,_,_,_)]) ⟨Ap  c,Ap  e,Ap  g,Ap  j,trivial⟩) (Ew4 b d f i) (ws [])
    ·exact Lf (Cp (l:=[(5,_,_,_),(9,_,_,_),(14,_,_,_)]) ⟨Ap  c,Ap  e,Ap  g,trivial⟩) (Ew3 b d f) (ws [])
   ·exact Lf (o2 5 (Ap c) 9 (Ap e)) (Ew2 b d) (ws [])
  ·exact Lf (o1 5 (Ap c)) (Ew1 b) (ws [])
 intro o;exact Sr <|Rr
theorem Kl{a j r}(h:CP a j=some r):Con B 74 [.agg [i64 a.Zo,i64 a.Zp,i64 a.Zq,i64 a.Zr,i64 a.Zs],i64 j] [] (fun r' σ'=>r'=.bool r∧σ'=[]):=by
 refine Cw 30 [.tmp 4] Tryz.func74 (fun F hE=>?_) h;unfold CP;refine T0 [1,2] ?_;refine Tw [4] (fun k=>⟨Ar 30 [(4,.bool k)],[]⟩) ?_ ?_
 ·intro _;refine Bd fun o c=>?_
  refine Sp (fun b=>?_) fun b=>?_
  ·refine Bd fun p e=>?_
   refine Sp (fun d=>?_) fun d=>?_
   ·refine Bd fun q g=>?_
    refine Sp (fun f=>?_) fun f=>?_
    ·refine Bd fun s m=>?_
     refine Sp (fun i=>?_) fun i=>?_
     ·refine Bd fun t n=>?_
      exact Lf (Cp (l:=[(9,_,_,_),(13,_,_,_),(18,_,_,_),(23,_,_,_),(28,_,_,_)]) ⟨Ap  c,Ap  e,Ap  g,Ap  m,Ap  n,trivial⟩) (Ew4 b d f i) (ws [])
     ·exact Lf (Cp (l:=[(9,_,_,_),(13,_,_,_),(18,_,_,_),(23,_,_,_)]) ⟨Ap  c,Ap  e,Ap  g,Ap  m,trivial⟩) (Ew4 b d f i) (ws [])
    ·exact Lf (Cp (l:=[(9,_,_,_),(13,_,_,_),(18,_,_,_)]) ⟨Ap  c,Ap  e,Ap  g,trivial⟩) (Ew3 b d f) (ws [])
   ·exact Lf (o2 9 (Ap c) 13 (Ap e)) (Ew2 b d) (ws [])
  ·exact Lf (o1 9 (Ap c)) (Ew1 b) (ws [])
 intro k;exact Sr <|Rr
theorem PD{a r}(h:Hq a=some r):Con B 76 [.sl false (L Ah a)] [] (fun r' σ'=>r'=i64 r∧σ'=[]):=by
 refine Cw 57 [.tmp 2] Tryz.func76 (fun F hE=>?_) h;unfold Hq;refine T0 [0] ?_;refine Ck fun u =>Lt fun f w =>Te (fr':=[(0,_),(3,.bs true 0 (f.length) 0 (f.length))]) (σ':=[.buf 1 (L O7 f) false]) [0,3] Ac (Ew2 u w) ?_
 refine Jo (fun _=>⟨Ar 57 [],[]⟩) ?_ ?_
 ·intro ag n;refine T0 [0,3,4] ?_;refine Sb ?_;refine Lo (fun(v:Int×List Bool)=>(⟨Ar 57 [(0,.sl false (L Ah a)),(3,.bs true 0 (v.2.length) 0 (v.2.length)),(4,i64 v.1)],[.buf 1 (L O7 v.2) false]⟩:St)) (ws [0]) ?_;rintro⟨o,c⟩ ah x g i;show Fh a o c=some x→_;unfold Fh;refine Sq <|T0 [0,3,4,10] ?_
  refine Cd ?_ ?_
  ·refine Sk <|Tn <|Sq <|Sb <|Ck fun y =>Lt fun p z =>Lt fun q aa =>Lt fun s ab =>Te (σ':=[_,.box [i64 p,i64 q,i64 s] false]) [0,3,4,5] Ac (Ew4 (qR y) z aa ab) ?_
   refine Sq ?_;refine Tw [0,3,4,5,39] (fun t=>⟨Ar 57 [(0,.sl false (L Ah a)),(3,.bs true 0 (c.length) 0 (c.length)),(4,i64 o),(5,.ref 1 0),(39,.bool t)],[.buf 1 (L O7 c) false,.box [i64 p,i64 q,i64 s] false]⟩) ?_ ?_
   ·intro _;refine Bd fun ai d=>?_
    refine Sp (fun b=>?_) fun b=>?_
    ·exact Lf (o1 19 (Ap d)) (Ew1 b) (ws [0,1])
    ·refine Bd fun aj j=>?_
     refine Sp (fun e=>?_) fun e=>?_
     ·exact Lf (o2 19 (Ap d) 24 (Ap j)) (Ew2 b e) (ws [0,1])
     ·refine Sp (fun k=>?_) fun k=>?_
      ·exact Lf (o2 19 (Ap d) 24 (Ap j)) (Ew3 b e k) (ws [0,1])
      ·refine Bd fun ak ac=>?_
       exact Lf (Cp (l:=[(19,_,_,_),(24,_,_,_),(37,_,_,_)]) ⟨Ap  d,Ap  j,Ap  ac,trivial⟩) (Ew3 b e k) (ws [0,1])
   intro t;refine Cd ?_ ?_
   ·refine T0 [2] ?_;exact Sr <|Tr <|Br <|Tr <|Lr i g <|Br <|Jr n <|Rr
   ·refine Sk <|Tn <|Sq <|Ck fun ad =>Te [0,3,4,5,48] Ac (Ew1 (qR ad)) ?_
    refine Cd ?_ ?_
    ·refine T0 [2] ?_;exact Sr <|Tr <|Br <|Tr <|Lr i g <|Br <|Jr n <|Rr
    ·refine Sk <|Tn <|Ck fun ae =>Lt fun m af =>Fe (fr':=[(0,_),(3,.bs true 0 (m.length) 0 (m.length)),(4,_)]) (σ':=[.buf 1 (L O7 m) false,_]) [0,3,4] Ac (Ew2 (qR ae) af) ?_
     refine Bn <|Tn <|F0 [0,3,4] ?_
     exact Ln (ws [0])
  ·refine Sx <|Tx <|Lx i g <|Bx <|?_
   exact Jn ((ws (l':=[]) (σ':=[]) []).trans (ws []))
 intro _;refine T0 [2] ?_;exact Sr <|Rr
theorem RB{a r}(h:IE a=some r):Con B 39 [.agg [.sl false (L Aa a.Zx),.sl false (L Ae a.Zy),.sl false (L Ai a.Zz),.sl false (L Ah a.Za1)]] [] (fun r' σ'=>r'=i64 r∧σ'=[]):=by
 refine Cw 106 [.tmp 2] Tryz.func39 (fun F hE=>?_) h;unfold IE;refine T0 [1] ?_;refine Sq ?_;refine Tw [1,28] (fun o=>⟨Ar 106 [(1,.ref 0 0),(28,.bool o)],[.box [.sl false (L Aa a.Zx),.sl false (L Ae a.Zy),.sl false (L Ai a.Zz),.sl false (L Ah a.Za1)] false]⟩) ?_ ?_
 ·intro _;refine Sp (fun b=>?_) fun b=>?_
  ·exact Lf Ac (Ew1 b) (ws [0])
  ·refine Sp (fun d=>?_) fun d=>?_
   ·exact Lf Ac (Ew2 b d) (ws [0])
   ·refine Sp (fun i=>?_) fun i=>?_
    ·exact Lf Ac (Ew3 b d i) (ws [0])
    ·exact Lf Ac (Ew3 b d i) (ws [0])
 intro o;refine Cd ?_ ?_
 ·refine T0 [2] ?_;exact Sr <|Tr <|Rr
 ·refine Sk <|Tn <|?_
  refine Jo (fun _=>⟨Ar 106 [(1,.ref 0 0)],[.box [.sl false (L Aa a.Zx),.sl false (L Ae a.Zy),.sl false (L Ai a.Zz),.sl false (L Ah a.Za1)] false]⟩) ?_ ?_
  ·intro aq x;refine T0 [1,3] ?_;refine Sb ?_;refine Lo (fun j=>⟨Ar 106 [(1,.ref 0 0),(3,i64 j)],[.box [.sl false (L Aa a.Zx),.sl false (L Ae a.Zy),.sl false (L Ai a.Zz),.sl false (L Ah a.Za1)] false]⟩) (ws [0]) ?_;rintro j ar y p q;show DM a j=some y→_;unfold DM;refine Sq <|T0 [1,3,33] ?_
   refine Cd ?_ ?_
   ·refine Sk <|Tn <|Sq <|Sb <|Ck fun z =>Bd fun au aa =>Te [1,3,42] (o1 41 (KZ aa)) (Ew1 (qR z)) ?_
    refine Cd ?_ ?_
    ·refine T0 [2] ?_;exact Sr <|Br <|Tr <|Lr q p <|Br <|Jr x <|Rr
    ·refine Sk <|Bn <|Tn <|F0 [1,3] ?_
     exact Ln (ws [0])
   ·refine Sx <|Tx <|Lx q p <|Bx <|?_
    exact Jn ((ws (l':=[(1,.ref 0 0)]) (σ':=[.box [.sl false (L Aa a.Zx),.sl false (L Ae a.Zy),.sl false (L Ai a.Zz),.sl false (L Ah a.Za1)] false]) [0]).trans (ws [0]))
  intro _;refine Jo (fun _=>⟨Ar 106 [(1,.ref 0 0)],[.box [.sl false (L Aa a.Zx),.sl false (L Ae a.Zy),.sl false (L Ai a.Zz),.sl false (L Ah a.Za1)] false]⟩) ?_ ?_
  ·intro av ab;refine T0 [1,4] ?_;refine Sb ?_;refine Lo (fun k=>⟨Ar 106 [(1,.ref 0 0),(4,i64 k)],[.box [.sl false (L Aa a.Zx),.sl false (L Ae a.Zy),.sl false (L Ai a.Zz),.sl false (L Ah a.Za1)] false]⟩) (ws [0]) ?_;rintro k aw ac s t;show DG a k=some ac→_;unfold DG;refine Sq <|T0 [1,4,47] ?_
   refine Cd ?_ ?_
   ·refine Sk <|Tn <|Sq <|Sb <|Ck fun ad =>Bd fun ax ae =>De [[],[0],[],[0,1,2],[0,1,2,3],[],[5],[5,6],[0,1,2,3,4,5,6,7],[0,1,2,3,4,5,6,7,8]] [1,4,59] (o1 58 (Kl ae)) (Ew1 (qR ad)) ?_
    refine Cd ?_ ?_
    ·refine T0 [2] ?_;exact Sr <|Br <|Tr <|Lr t s <|Br <|Jr ab <|Rr
    ·refine Sk <|Bn <|Tn <|F0 [1,4] ?_
     exact Ln (ws [0])
   ·refine Sx <|Tx <|Lx t s <|Bx <|?_
    exact Jn ((ws (l':=[(1,.ref 0 0)]) (σ':=[.box [.sl false (L Aa a.Zx),.sl false (L Ae a.Zy),.sl false (L Ai a.Zz),.sl false (L Ah a.Za1)] false]) [0]).trans (ws [0]))
  intro _;refine Jo (fun _=>⟨Ar 106 [(1,.ref 0 0)],[.box [.sl false (L Aa a.Zx),.sl false (L Ae a.Zy),.sl false (L Ai a.Zz),.sl false (L Ah a.Za1)] false]⟩) ?_ ?_
  ·intro ay af;refine T0 [1,5] ?_;refine Sb ?_;refine Lo (fun e=>⟨Ar 106 [(1,.ref 0 0),(5,i64 e)],[.box [.sl false (L Aa a.Zx),.sl false (L Ae a.Zy),.sl false (L Ai a.Zz),.sl false (L Ah a.Za1)] false]⟩) (ws [0]) ?_;rintro e az ag u v;show DF a e=some ag→_;unfold DF;refine Sq <|T0 [1,5,64] ?_
   refine Cd ?_ ?_
   ·refine Sk <|Tn <|Sq <|Sb <|Ck fun ah =>Lt fun ai aj =>Lt fun ak al =>Lt fun am an =>Te (σ':=[_,.box [i64 ai,i64 ak,i64 am] false]) [1,5,6] Ac (Ew4 (qR ah) aj al an) ?_
    refine Tw [1,5,102] (fun w=>⟨Ar 106 [(1,.ref 0 0),(5,i64 e),(102,.bool w)],[.box [.sl false (L Aa a.Zx),.sl false (L Ae a.Zy),.sl false (L Ai a.Zz),.sl false (L Ah a.Za1)] false]⟩) ?_ ?_
    ·intro _;refine Bd fun aA f=>?_
     refine Sp (fun c=>?_) fun c=>?_
     ·exact Lf (o1 78 (Ap f)) (Ew1 c) (ws [0])
     ·refine Bd fun aB m=>?_
      refine Sp (fun g=>?_) fun g=>?_
      ·exact Lf (o2 78 (Ap f) 87 (Ap m)) (Ew2 c g) (ws [0])
      ·refine Sp (fun n=>?_) fun n=>?_
       ·exact Lf (o2 78 (Ap f) 87 (Ap m)) (Ew3 c g n) (ws [0])
       ·refine Bd fun aC ao=>?_
        exact Lf (Cp (l:=[(78,_,_,_),(87,_,_,_),(100,_,_,_)]) ⟨Ap  f,Ap  m,Ap  ao,trivial⟩) (Ew3 c g n) (ws [0])
    intro w;refine Cd ?_ ?_
    ·refine T0 [2] ?_;exact Sr <|Br <|Tr <|Lr v u <|Br <|Jr af <|Rr
    ·refine Sk <|Bn <|Tn <|F0 [1,5] ?_
     exact Ln (ws [0])
   ·refine Sx <|Tx <|Lx v u <|Bx <|?_
    exact Jn ((ws (l':=[(1,.ref 0 0)]) (σ':=[.box [.sl false (L Aa a.Zx),.sl false (L Ae a.Zy),.sl false (L Ai a.Zz),.sl false (L Ah a.Za1)] false]) [0]).trans (ws [0]))
  intro _;refine Bd fun aD ap =>Te [2] (o1 105 (PD ap)) Ev ?_
  exact Sr <|Rr
theorem LF{a r}(h:Ka a=some r):Con B 40 [.agg [.sl false (L Ag a.Zg1.Ze),.sl false (L Al a.Zg1.Zf),.sl false (L Aa a.Zh1.Zx),.sl false (L Ae a.Zh1.Zy),.sl false (L Ai a.Zh1.Zz),.sl false (L Ah a.Zh1.Za1),.sl false (L Af a.Zi1),.sl false (L Ad a.Zj1),.sl false (L Ab a.Zk1)]] [] (fun r' σ'=>r'=.bool r∧σ'=[]):=by
 refine Cw 96 [.tmp 2] Tryz.func40 (fun F hE=>?_) h;unfold Ka;refine T0 [1] ?_;refine Lt fun b w =>Te (fr':=[(1,_),(3,i64 b)]) [1,3] Ac (Ew1 w) ?_
 refine Jo (fun _=>⟨Ar 96 [(1,.ref 0 0),(3,i64 b)],[.box [.sl false (L Ag a.Zg1.Ze),.sl false (L Al a.Zg1.Zf),.sl false (L Aa a.Zh1.Zx),.sl false (L Ae a.Zh1.Zy),.sl false (L Ai a.Zh1.Zz),.sl false (L Ah a.Zh1.Za1),.sl false (L Af a.Zi1),.sl false (L Ad a.Zj1),.sl false (L Ab a.Zk1)] false]⟩) ?_ ?_
 ·intro ap x;refine T0 [1,3,4] ?_;refine Sb ?_;refine Lo (fun d=>⟨Ar 96 [(1,.ref 0 0),(3,i64 b),(4,i64 d)],[.box [.sl false (L Ag a.Zg1.Ze),.sl false (L Al a.Zg1.Zf),.sl false (L Aa a.Zh1.Zx),.sl false (L Ae a.Zh1.Zy),.sl false (L Ai a.Zh1.Zz),.sl false (L Ah a.Zh1.Za1),.sl false (L Af a.Zi1),.sl false (L Ad a.Zj1),.sl false (L Ab a.Zk1)] false]⟩) (ws [0]) ?_;rintro d aq y l m;show ED a b d=some y→_;unfold ED;refine Sq <|T0 [1,3,4,16] ?_
  refine Cd ?_ ?_
  ·refine Sk <|Tn <|Sq <|Sb <|Ck fun z =>Lt fun aa ab =>Lt fun ac ad =>Lt fun ae af =>Te (σ':=[_,.box [i64 aa,i64 ac,i64 ae] false]) [1,3,4,5] Ac (Ew4 (qR z) ab ad af) ?_
   refine Tw [1,3,4,46] (fun n=>⟨Ar 96 [(1,.ref 0 0),(3,i64 b),(4,i64 d),(46,.bool n)],[.box [.sl false (L Ag a.Zg1.Ze),.sl false (L Al a.Zg1.Zf),.sl false (L Aa a.Zh1.Zx),.sl false (L Ae a.Zh1.Zy),.sl false (L Ai a.Zh1.Zz),.sl false (L Ah a.Zh1.Za1),.sl false (L Af a.Zi1),.sl false (L Ad a.Zj1),.sl false (L Ab a.Zk1)] false]⟩) ?_ ?_
   ·intro _;refine Bd fun ar e=>?_
    refine Sp (fun c=>?_) fun c=>?_
    ·exact Lf (o1 28 (Ap e)) (Ew1 c) (ws [0])
    ·refine Sp (fun f=>?_) fun f=>?_
     ·exact Lf (o1 28 (Ap e)) (Ew2 c f) (ws [0])
     ·refine Sp (fun i=>?_) fun i=>?_
      ·exact Lf (o1 28 (Ap e)) (Ew3 c f i) (ws [0])
      ·exact Lf (o1 28 (Ap e)) (Ew3 c f i) (ws [0])
   intro n;refine Cd ?_ ?_
   ·refine T0 [2] ?_;exact Sr <|Br <|Tr <|Lr m l <|Br <|Jr x <|Rr
   ·refine Sk <|Bn <|Tn <|F0 [1,3,4] ?_
    exact Ln (ws [0])
  ·refine Sx <|Tx <|Lx m l <|Bx <|?_
   exact Jn ((ws (l':=[(1,.ref 0 0),(3,i64 b)]) (σ':=[.box [.sl false (L Ag a.Zg1.Ze),.sl false (L Al a.Zg1.Zf),.sl false (L Aa a.Zh1.Zx),.sl false (L Ae a.Zh1.Zy),.sl false (L Ai a.Zh1.Zz),.sl false (L Ah a.Zh1.Za1),.sl false (L Af a.Zi1),.sl false (L Ad a.Zj1),.sl false (L Ab a.Zk1)] false]) [0]).trans (ws [0]))
 intro _;refine Jo (fun _=>⟨Ar 96 [(1,.ref 0 0),(3,i64 b)],[.box [.sl false (L Ag a.Zg1.Ze),.sl false (L Al a.Zg1.Zf),.sl false (L Aa a.Zh1.Zx),.sl false (L Ae a.Zh1.Zy),.sl false (L Ai a.Zh1.Zz),.sl false (L Ah a.Zh1.Za1),.sl false (L Af a.Zi1),.sl false (L Ad a.Zj1),.sl false (L Ab a.Zk1)] false]⟩) ?_ ?_
 ·intro au ag;refine T0 [1,3,6] ?_;refine Sb ?_;refine Lo (fun g=>⟨Ar 96 [(1,.ref 0 0),(3,i64 b),(6,i64 g)],[.box [.sl false (L Ag a.Zg1.Ze),.sl false (L Al a.Zg1.Zf),.sl false (L Aa a.Zh1.Zx),.sl false (L Ae a.Zh1.Zy),.sl false (L Ai a.Zh1.Zz),.sl false (L Ah a.Zh1.Za1),.sl false (L Af a.Zi1),.sl false (L Ad a.Zj1),.sl false (L Ab a.Zk1)] false]⟩) (ws [0]) ?_;rintro g av ah o p;show E7 a b g=some ah→_;unfold E7;refine Sq <|T0 [1,3,6,51] ?_
  refine Cd ?_ ?_
  ·refine Sk <|Tn <|Sq <|Sb <|?_
   refine Dw [[],[0],[],[0,1,2],[0,1,2,3],[0,1,2,3,4],[],[6],[0,1,2,3,4,5,6,7],[0,1,2,3,4,5,6,7,8],[0,1,2,3,4,5,6,7,8,9],[0,1,2,3,4,5,6,7,8,9,10],[0,1,2,3,4,5,6,7,8,9,10,11],[0,1,2,3,4,5,6,7,8,9,10,11,12],[0,1,2,3,4,5,6,7,8,9,10],[0,1,2,3,4,5,6,7,8,9,10,14],[0,1,2,3,4,5,6,7,8,9,10],[0,1,2,3,4,5,6,7,8,9,10,14,15,16],[0,1,2,3,4,5,6,7,8,9,10,14,15,16,17],[0,1,2,3,4,5,6,7,8,9,10,14,15,16,17,18],[0,1,2,3,4,5,6,7,8,9,10,11,12,13,14,15,16,17,18,19],[0,1,2,3,4,5,6,7,8,9,10,11,12,13,14,15,16,17,18,19,20],[0,1,2,3,4,5,6,7,8,9,10,11,12,13,14,15,16,17,18,19,20,21],[0,1,2,3,4,5,6,7,8,9,10,11,12,13,14,15,16,17,18,19,20,21,22],[0,1,2,3,4,5,6,7,8,9,10,11,12,13,14,15,16,17,18,19,20,21,22,23]] [1,3,6,78] (fun q=>⟨Ar 96 [(1,.ref 0 0),(3,i64 b),(6,i64 g),(78,.bool q)],[.box [.sl false (L Ag a.Zg1.Ze),.sl false (L Al a.Zg1.Zf),.sl false (L Aa a.Zh1.Zx),.sl false (L Ae a.Zh1.Zy),.sl false (L Ai a.Zh1.Zz),.sl false (L Ah a.Zh1.Za1),.sl false (L Af a.Zi1),.sl false (L Ad a.Zj1),.sl false (L Ab a.Zk1)] false]⟩) ?_ ?_
   ·intro _;refine Ck fun s =>Bd fun aw t =>?_
    refine Sp (fun j=>?_) fun j=>?_
    ·exact Lf (o1 62 (Ap t)) (Ew2 (qR s) j) (ws [0])
    ·refine Ck fun ai =>Ck fun aj =>?_
     exact Lf (o1 62 (Ap t)) (Ew4 (qR s) j (qR ai) (qR aj)) (ws [0])
   intro q;refine Cd ?_ ?_
   ·refine T0 [2] ?_;exact Sr <|Br <|Tr <|Lr p o <|Br <|Jr ag <|Rr
   ·refine Sk <|Bn <|Tn <|F0 [1,3,6] ?_
    exact Ln (ws [0])
  ·refine Sx <|Tx <|Lx p o <|Bx <|?_
   exact Jn ((ws (l':=[(1,.ref 0 0),(3,i64 b)]) (σ':=[.box [.sl false (L Ag a.Zg1.Ze),.sl false (L Al a.Zg1.Zf),.sl false (L Aa a.Zh1.Zx),.sl false (L Ae a.Zh1.Zy),.sl false (L Ai a.Zh1.Zz),.sl false (L Ah a.Zh1.Za1),.sl false (L Af a.Zi1),.sl false (L Ad a.Zj1),.sl false (L Ab a.Zk1)] false]) [0]).trans (ws [0]))
 intro _;refine Jo (fun _=>⟨Ar 96 [],[]⟩) ?_ ?_
 ·intro ax ak;refine T0 [1,3,7] ?_;refine Sb ?_;refine Lo (fun k=>⟨Ar 96 [(1,.ref 0 0),(3,i64 b),(7,i64 k)],[.box [.sl false (L Ag a.Zg1.Ze),.sl false (L Al a.Zg1.Zf),.sl false (L Aa a.Zh1.Zx),.sl false (L Ae a.Zh1.Zy),.sl false (L Ai a.Zh1.Zz),.sl false (L Ah a.Zh1.Za1),.sl false (L Af a.Zi1),.sl false (L Ad a.Zj1),.sl false (L Ab a.Zk1)] false]⟩) (ws [0]) ?_;rintro k ay al u v;show EB a b k=some al→_;unfold EB;refine Sq <|T0 [1,3,7,84] ?_
  refine Cd ?_ ?_
  ·refine Sk <|Tn <|Sq <|Sb <|Ck fun am =>Lt fun an ao =>Te (fr':=[(1,_),(3,_),(7,_),(95,.bool an)]) [1,3,7,95] Ac (Ew2 (qR am) ao) ?_
   refine Cd ?_ ?_
   ·refine T0 [2] ?_;exact Sr <|Br <|Tr <|Lr v u <|Br <|Jr ak <|Rr
   ·refine Sk <|Bn <|Tn <|F0 [1,3,7] ?_
    exact Ln (ws [0])
  ·refine Sx <|Tx <|Lx v u <|Bx <|?_
   exact Jn ((ws (l':=[]) (σ':=[]) []).trans (ws []))
 intro _;refine T0 [2] ?_;exact Sr <|Rr
theorem Rx{a r}(h:I8 a=some r):Con B 41 [.agg [.sl false (L Ag a.Zg1.Ze),.sl false (L Al a.Zg1.Zf),.sl false (L Aa a.Zh1.Zx),.sl false (L Ae a.Zh1.Zy),.sl false (L Ai a.Zh1.Zz),.sl false (L Ah a.Zh1.Za1),.sl false (L Af a.Zi1),.sl false (L Ad a.Zj1),.sl false (L Ab a.Zk1)]] [] (fun r' σ'=>r'=.bool r∧σ'=[]):=by
 refine Cw 51 [.tmp 2] Tryz.func41 (fun F hE=>?_) h;unfold I8;refine T0 [1] ?_;refine Lt fun b l =>Te (fr':=[(1,_),(3,i64 b)]) [1,3] Ac (Ew1 l) ?_
 refine Jo (fun _=>⟨Ar 51 [(1,.ref 0 0),(3,i64 b)],[.box [.sl false (L Ag a.Zg1.Ze),.sl false (L Al a.Zg1.Zf),.sl false (L Aa a.Zh1.Zx),.sl false (L Ae a.Zh1.Zy),.sl false (L Ai a.Zh1.Zz),.sl false (L Ah a.Zh1.Za1),.sl false (L Af a.Zi1),.sl false (L Ad a.Zj1),.sl false (L Ab a.Zk1)] false]⟩) ?_ ?_
 ·intro ab m;refine T0 [1,3,4] ?_;refine Sb ?_;refine Lo (fun c=>⟨Ar 51 [(1,.ref 0 0),(3,i64 b),(4,i64 c)],[.box [.sl false (L Ag a.Zg1.Ze),.sl false (L Al a.Zg1.Zf),.sl false (L Aa a.Zh1.Zx),.sl false (L Ae a.Zh1.Zy),.sl false (L Ai a.Zh1.Zz),.sl false (L Ah a.Zh1.Za1),.sl false (L Af a.Zi1),.sl false (L Ad a.Zj1),.sl false (L Ab a.Zk1)] false]⟩) (ws [0]) ?_;rintro c ac n f g;show Ed a b c=some n→_;unfold Ed;refine Sq <|T0 [1,3,4,15] ?_
  refine Cd ?_ ?_
  ·refine Sk <|Tn <|Sq <|Sb <|Ck fun o =>Lt fun p q =>Lt fun s t =>Lt fun u v =>Te (σ':=[_,.box [i64 p,i64 s,i64 u] false]) [1,3,4,5] Ac (Ew4 (qR o) q t v) ?_
   refine Tw [1,3,4,33] (fun i=>⟨Ar 51 [(1,.ref 0 0),(3,i64 b),(4,i64 c),(33,.bool i)],[.box [.sl false (L Ag a.Zg1.Ze),.sl false (L Al a.Zg1.Zf),.sl false (L Aa a.Zh1.Zx),.sl false (L Ae a.Zh1.Zy),.sl false (L Ai a.Zh1.Zz),.sl false (L Ah a.Zh1.Za1),.sl false (L Af a.Zi1),.sl false (L Ad a.Zj1),.sl false (L Ab a.Zk1)] false]⟩) ?_ ?_
   ·intro _;refine Sp (fun d=>?_) fun d=>?_
    ·exact Lf Ac (Ew1 d) (ws [0])
    ·exact Lf Ac (Ew1 d) (ws [0])
   intro i;refine Cd ?_ ?_
   ·refine T0 [2] ?_;exact Sr <|Br <|Tr <|Lr g f <|Br <|Jr m <|Rr
   ·refine Sk <|Bn <|Tn <|F0 [1,3,4] ?_
    exact Ln (ws [0])
  ·refine Sx <|Tx <|Lx g f <|Bx <|?_
   exact Jn ((ws (l':=[(1,.ref 0 0),(3,i64 b)]) (σ':=[.box [.sl false (L Ag a.Zg1.Ze),.sl false (L Al a.Zg1.Zf),.sl false (L Aa a.Zh1.Zx),.sl false (L Ae a.Zh1.Zy),.sl false (L Ai a.Zh1.Zz),.sl false (L Ah a.Zh1.Za1),.sl false (L Af a.Zi1),.sl false (L Ad a.Zj1),.sl false (L Ab a.Zk1)] false]) [0]).trans (ws [0]))
 intro _;refine Jo (fun _=>⟨Ar 51 [],[]⟩) ?_ ?_
 ·intro ad w;refine T0 [1,3,6] ?_;refine Sb ?_;refine Lo (fun e=>⟨Ar 51 [(1,.ref 0 0),(3,i64 b),(6,i64 e)],[.box [.sl false (L Ag a.Zg1.Ze),.sl false (L Al a.Zg1.Zf),.sl false (L Aa a.Zh1.Zx),.sl false (L Ae a.Zh1.Zy),.sl false (L Ai a.Zh1.Zz),.sl false (L Ah a.Zh1.Za1),.sl false (L Af a.Zi1),.sl false (L Ad a.Zj1),.sl false (L Ab a.Zk1)] false]⟩) (ws [0]) ?_;rintro e ae x j k;show DX a b e=some x→_;unfold DX;refine Sq <|T0 [1,3,6,39] ?_
  refine Cd ?_ ?_
  ·refine Sk <|Tn <|Sq <|Sb <|Ck fun y =>Lt fun z aa =>Te (fr':=[(1,_),(3,_),(6,_),(50,.bool z)]) [1,3,6,50] Ac (Ew2 (qR y) aa) ?_
   refine Cd ?_ ?_
   ·refine T0 [2] ?_;exact Sr <|Br <|Tr <|Lr k j <|Br <|Jr w <|Rr
   ·refine Sk <|Bn <|Tn <|F0 [1,3,6] ?_
    exact Ln (ws [0])
  ·refine Sx <|Tx <|Lx k j <|Bx <|?_
   exact Jn ((ws (l':=[]) (σ':=[]) []).trans (ws []))
 intro _;refine T0 [2] ?_;exact Sr <|Rr
theorem Kk{a r}(h:FE a=some r):Con B 42 [.agg [i64 a.Zd1.1.Zw,i64 a.Zd1.1.To,i64 a.Zd1.2.1.Zw,i64 a.Zd1.2.1.To,i64 a.Zd1.2.2.1.Zw,i64 a.Zd1.2.2.1.To,i64 a.Zd1.2.2.2.1.Zw,i64 a.Zd1.2.2.2.1.To,i64 a.Zd1.2.2.2.2.1.Zw,i64 a.Zd1.2.2.2.2.1.To,i64 a.Zd1.2.2.2.2.2.1.Zw,i64 a.Zd1.2.2.2.2.2.1.To,i64 a.Zd1.2.2.2.2.2.2.Zw,i64 a.Zd1.2.2.2.2.2.2.To,.sl false (L GC a.Ze1)]] [] (fun r' σ'=>r'=i64 r∧σ'=[]):=by
 refine Cw 62 [.tmp 2] Tryz.func42 (fun F hE=>?_) h;unfold FE;refine Lt fun b av =>Lt fun c aw =>Lt fun d ax =>Lt fun e ay =>Lt fun f az =>Te (σ':=[.box [i64 a.Zd1.1.Zw,i64 a.Zd1.1.To,i64 a.Zd1.2.1.Zw,i64 a.Zd1.2.1.To,i64 a.Zd1.2.2.1.Zw,i64 a.Zd1.2.2.1.To,i64 a.Zd1.2.2.2.1.Zw,i64 a.Zd1.2.2.2.1.To,i64 b,i64 a.Zd1.2.2.2.2.1.To,i64 c,i64 d,i64 e,i64 f,.sl false (L GC a.Ze1)] false]) [1] Ac (Ew5 av aw ax ay az) ?_
 refine Jo (fun _=>⟨Ar 62 [(1,.ref 0 0)],[.box [i64 a.Zd1.1.Zw,i64 a.Zd1.1.To,i64 a.Zd1.2.1.Zw,i64 a.Zd1.2.1.To,i64 a.Zd1.2.2.1.Zw,i64 a.Zd1.2.2.1.To,i64 a.Zd1.2.2.2.1.Zw,i64 a.Zd1.2.2.2.1.To,i64 b,i64 a.Zd1.2.2.2.2.1.To,i64 c,i64 d,i64 e,i64 f,.sl false (L GC a.Ze1)] false]⟩) ?_ ?_
 ·intro aN g;refine T0 [1,3] ?_;refine Sb ?_;refine Ul 17 ?_;refine Ug (m:=16) ?_;refine Sq <|T0 [1,3,8] ?_
  refine Ct <|Sk <|Tn <|Sq <|Sb <|?_
  have ac:InR 0 7:=by decide
  refine Te [1,3,4] Ac (Ev (by simp only[go_sem,ac,ac.2];exact AY)) ?_;refine Tw [1,3,29] (fun ad=>⟨Ar 62 [(1,.ref 0 0),(3,i64 0),(29,.bool ad)],[.box [i64 a.Zd1.1.Zw,i64 a.Zd1.1.To,i64 a.Zd1.2.1.Zw,i64 a.Zd1.2.1.To,i64 a.Zd1.2.2.1.Zw,i64 a.Zd1.2.2.1.To,i64 a.Zd1.2.2.2.1.Zw,i64 a.Zd1.2.2.2.1.To,i64 b,i64 a.Zd1.2.2.2.2.1.To,i64 c,i64 d,i64 e,i64 f,.sl false (L GC a.Ze1)] false]⟩) ?_ ?_
  ·intro _;refine Sp (fun j=>?_) fun j=>?_
   ·exact Lf Ac (Ew1 j) (ws [0])
   ·refine Sp (fun u=>?_) fun u=>?_
    ·exact Lf Ac (Ew2 j u) (ws [0])
    ·exact Lf Ac (Ew2 j u) (ws [0])
  intro ad;refine Cd ?_ ?_
  ·refine T0 [2] ?_;exact Sr <|Br <|Tr <|Ur <|Br <|Jr g <|Rr
  ·refine Sk <|Bn <|Tn <|?_
   have aA:w64 1=1:=by decide
   refine Fe [1,3] Ac (Ew1 aA) ?_;refine Un ?_;refine Ug (m:=15) ?_;refine Sq <|T0 [1,3,8] ?_
   refine Ct <|Sk <|Tn <|Sq <|Sb <|?_
   have ae:InR 1 7:=by decide
   refine Te [1,3,4] Ac (Ev (by simp only[go_sem,ae,ae.2];exact AY)) ?_;refine Tw [1,3,29] (fun af=>⟨Ar 62 [(1,.ref 0 0),(3,i64 1),(29,.bool af)],[.box [i64 a.Zd1.1.Zw,i64 a.Zd1.1.To,i64 a.Zd1.2.1.Zw,i64 a.Zd1.2.1.To,i64 a.Zd1.2.2.1.Zw,i64 a.Zd1.2.2.1.To,i64 a.Zd1.2.2.2.1.Zw,i64 a.Zd1.2.2.2.1.To,i64 b,i64 a.Zd1.2.2.2.2.1.To,i64 c,i64 d,i64 e,i64 f,.sl false (L GC a.Ze1)] false]⟩) ?_ ?_
   ·intro _;refine Sp (fun k=>?_) fun k=>?_
    ·exact Lf Ac (Ew1 k) (ws [0])
    ·refine Sp (fun v=>?_) fun v=>?_
     ·exact Lf Ac (Ew2 k v) (ws [0])
     ·exact Lf Ac (Ew2 k v) (ws [0])
   intro af;refine Cd ?_ ?_
   ·refine T0 [2] ?_;exact Sr <|Br <|Tr <|Ur <|Br <|Jr g <|Rr
   ·refine Sk <|Bn <|Tn <|?_
    have aB:w64 2=2:=by decide
    refine Fe [1,3] Ac (Ew1 aB) ?_;refine Un ?_;refine Ug (m:=14) ?_;refine Sq <|T0 [1,3,8] ?_
    refine Ct <|Sk <|Tn <|Sq <|Sb <|?_
    have ag:InR 2 7:=by decide
    refine Te [1,3,4] Ac (Ev (by simp only[go_sem,ag,ag.2];exact AY)) ?_;refine Tw [1,3,29] (fun ah=>⟨Ar 62 [(1,.ref 0 0),(3,i64 2),(29,.bool ah)],[.box [i64 a.Zd1.1.Zw,i64 a.Zd1.1.To,i64 a.Zd1.2.1.Zw,i64 a.Zd1.2.1.To,i64 a.Zd1.2.2.1.Zw,i64 a.Zd1.2.2.1.To,i64 a.Zd1.2.2.2.1.Zw,i64 a.Zd1.2.2.2.1.To,i64 b,i64 a.Zd1.2.2.2.2.1.To,i64 c,i64 d,i64 e,i64 f,.sl false (L GC a.Ze1)] false]⟩) ?_ ?_
    ·intro _;refine Sp (fun l=>?_) fun l=>?_
     ·exact Lf Ac (Ew1 l) (ws [0])
     ·refine Sp (fun w=>?_) fun w=>?_
      ·exact Lf Ac (Ew2 l w) (ws [0])
      ·exact Lf Ac (Ew2 l w) (ws [0])
    intro ah;refine Cd ?_ ?_
    ·refine T0 [2] ?_;exact Sr <|Br <|Tr <|Ur <|Br <|Jr g <|Rr
    ·refine Sk <|Bn <|Tn <|?_
     have aC:w64 3=3:=by decide
     refine Fe [1,3] Ac (Ew1 aC) ?_;refine Un ?_;refine Ug (m:=13) ?_;refine Sq <|T0 [1,3,8] ?_
     refine Ct <|Sk <|Tn <|Sq <|Sb <|?_
     have ai:InR 3 7:=by decide
     refine Te [1,3,4] Ac (Ev (by simp only[go_sem,ai,ai.2];exact AY)) ?_;refine Tw [1,3,29] (fun aj=>⟨Ar 62 [(1,.ref 0 0),(3,i64 3),(29,.bool aj)],[.box [i64 a.Zd1.1.Zw,i64 a.Zd1.1.To,i64 a.Zd1.2.1.Zw,i64 a.Zd1.2.1.To,i64 a.Zd1.2.2.1.Zw,i64 a.Zd1.2.2.1.To,i64 a.Zd1.2.2.2.1.Zw,i64 a.Zd1.2.2.2.1.To,i64 b,i64 a.Zd1.2.2.2.2.1.To,i64 c,i64 d,i64 e,i64 f,.sl false (L GC a.Ze1)] false]⟩) ?_ ?_
     ·intro _;refine Sp (fun n=>?_) fun n=>?_
      ·exact Lf Ac (Ew1 n) (ws [0])
      ·refine Sp (fun x=>?_) fun x=>?_
       ·exact Lf Ac (Ew2 n x) (ws [0])
       ·exact Lf Ac (Ew2 n x) (ws [0])
     intro aj;refine Cd ?_ ?_
     ·refine T0 [2] ?_;exact Sr <|Br <|Tr <|Ur <|Br <|Jr g <|Rr
     ·refine Sk <|Bn <|Tn <|?_
      have aD:w64 4=4:=by decide
      refine Fe [1,3] Ac (Ew1 aD) ?_;refine Un ?_;refine Ug (m:=12) ?_;refine Sq <|T0 [1,3,8] ?_
      refine Ct <|Sk <|Tn <|Sq <|Sb <|?_
      have ak:InR 4 7:=by decide
      refine Te [1,3,4] Ac (Ev (by simp only[go_sem,ak,ak.2];exact AY)) ?_;refine Tw [1,3,29] (fun al=>⟨Ar 62 [(1,.ref 0 0),(3,i64 4),(29,.bool al)],[.box [i64 a.Zd1.1.Zw,i64 a.Zd1.1.To,i64 a.Zd1.2.1.Zw,i64 a.Zd1.2.1.To,i64 a.Zd1.2.2.1.Zw,i64 a.Zd1.2.2.1.To,i64 a.Zd1.2.2.2.1.Zw,i64 a.Zd1.2.2.2.1.To,i64 b,i64 a.Zd1.2.2.2.2.1.To,i64 c,i64 d,i64 e,i64 f,.sl false (L GC a.Ze1)] false]⟩) ?_ ?_
      ·intro _;refine Sp (fun o=>?_) fun o=>?_
       ·exact Lf Ac (Ew1 o) (ws [0])
       ·refine Sp (fun y=>?_) fun y=>?_
        ·exact Lf Ac (Ew2 o y) (ws [0])
        ·exact Lf Ac (Ew2 o y) (ws [0])
      intro al;refine Cd ?_ ?_
      ·refine T0 [2] ?_;exact Sr <|Br <|Tr <|Ur <|Br <|Jr g <|Rr
      ·refine Sk <|Bn <|Tn <|?_
       have aE:w64 5=5:=by decide
       refine Fe [1,3] Ac (Ew1 aE) ?_;refine Un ?_;refine Ug (m:=11) ?_;refine Sq <|T0 [1,3,8] ?_
       refine Ct <|Sk <|Tn <|Sq <|Sb <|?_
       have am:InR 5 7:=by decide
       refine Te [1,3,4] Ac (Ev (by simp only[go_sem,am,am.2];exact AY)) ?_;refine Tw [1,3,29] (fun an=>⟨Ar 62 [(1,.ref 0 0),(3,i64 5),(29,.bool an)],[.box [i64 a.Zd1.1.Zw,i64 a.Zd1.1.To,i64 a.Zd1.2.1.Zw,i64 a.Zd1.2.1.To,i64 a.Zd1.2.2.1.Zw,i64 a.Zd1.2.2.1.To,i64 a.Zd1.2.2.2.1.Zw,i64 a.Zd1.2.2.2.1.To,i64 b,i64 a.Zd1.2.2.2.2.1.To,i64 c,i64 d,i64 e,i64 f,.sl false (L GC a.Ze1)] false]⟩) ?_ ?_
       ·intro _;refine Sp (fun p=>?_) fun p=>?_
        ·exact Lf Ac (Ew1 p) (ws [0])
        ·refine Sp (fun z=>?_) fun z=>?_
         ·exact Lf Ac (Ew2 p z) (ws [0])
         ·exact Lf Ac (Ew2 p z) (ws [0])
       intro an;refine Cd ?_ ?_
       ·refine T0 [2] ?_;exact Sr <|Br <|Tr <|Ur <|Br <|Jr g <|Rr
       ·refine Sk <|Bn <|Tn <|?_
        have aF:w64 6=6:=by decide
        refine Fe [1,3] Ac (Ew1 aF) ?_;refine Un ?_;refine Ug (m:=10) ?_;refine Sq <|T0 [1,3,8] ?_
        refine Ct <|Sk <|Tn <|Sq <|Sb <|?_
        have ao:InR 6 7:=by decide
        refine Te [1,3,4] Ac (Ev (by simp only[go_sem,ao,ao.2];exact AY)) ?_;refine Tw [1,3,29] (fun ap=>⟨Ar 62 [(1,.ref 0 0),(3,i64 6),(29,.bool ap)],[.box [i64 a.Zd1.1.Zw,i64 a.Zd1.1.To,i64 a.Zd1.2.1.Zw,i64 a.Zd1.2.1.To,i64 a.Zd1.2.2.1.Zw,i64 a.Zd1.2.2.1.To,i64 a.Zd1.2.2.2.1.Zw,i64 a.Zd1.2.2.2.1.To,i64 b,i64 a.Zd1.2.2.2.2.1.To,i64 c,i64 d,i64 e,i64 f,.sl false (L GC a.Ze1)] false]⟩) ?_ ?_
        ·intro _;refine Sp (fun q=>?_) fun q=>?_
         ·exact Lf Ac (Ew1 q) (ws [0])
         ·refine Sp (fun aa=>?_) fun aa=>?_
          ·exact Lf Ac (Ew2 q aa) (ws [0])
          ·exact Lf Ac (Ew2 q aa) (ws [0])
        intro ap;refine Cd ?_ ?_
        ·refine T0 [2] ?_;exact Sr <|Br <|Tr <|Ur <|Br <|Jr g <|Rr
        ·refine Sk <|Bn <|Tn <|?_
         have aG:w64 7=7:=by decide
         refine Fe [1,3] Ac (Ew1 aG) ?_;refine Un ?_;refine Ug (m:=9) ?_;refine Sq <|T0 [1,3,8] ?_
         exact Cf <|Sx <|Tx <|Ux <|Bx <|Jn (ws [0])
 intro _;refine Jo (fun _=>⟨Ar 62 [],[]⟩) ?_ ?_
 ·intro aO aH;refine T0 [1,5] ?_;refine Sb ?_;refine Lo (fun s=>⟨Ar 62 [(1,.ref 0 0),(5,i64 s)],[.box [i64 a.Zd1.1.Zw,i64 a.Zd1.1.To,i64 a.Zd1.2.1.Zw,i64 a.Zd1.2.1.To,i64 a.Zd1.2.2.1.Zw,i64 a.Zd1.2.2.1.To,i64 a.Zd1.2.2.2.1.Zw,i64 a.Zd1.2.2.2.1.To,i64 b,i64 a.Zd1.2.2.2.2.1.To,i64 c,i64 d,i64 e,i64 f,.sl false (L GC a.Ze1)] false]⟩) (ws [0]) ?_;rintro s aP aI aq ar;show DE a s=some aI→_;unfold DE;refine Sq <|T0 [1,5,34] ?_
  refine Cd ?_ ?_
  ·refine Sk <|Tn <|Sq <|Sb <|Ck fun aJ =>Lt fun aK aL =>Te (fr':=[(1,_),(5,_),(6,i64 aK)]) [1,5,6] Ac (Ew2 (qR aJ) aL) ?_
   refine Tw [1,5,61] (fun au=>⟨Ar 62 [(1,.ref 0 0),(5,i64 s),(61,.bool au)],[.box [i64 a.Zd1.1.Zw,i64 a.Zd1.1.To,i64 a.Zd1.2.1.Zw,i64 a.Zd1.2.1.To,i64 a.Zd1.2.2.1.Zw,i64 a.Zd1.2.2.1.To,i64 a.Zd1.2.2.2.1.Zw,i64 a.Zd1.2.2.2.1.To,i64 b,i64 a.Zd1.2.2.2.2.1.To,i64 c,i64 d,i64 e,i64 f,.sl false (L GC a.Ze1)] false]⟩) ?_ ?_
   ·intro _;refine Sp (fun i=>?_) fun i=>?_
    ·exact Lf Ac (Ew1 i) (ws [0])
    ·refine Sp (fun t=>?_) fun t=>?_
     ·exact Lf Ac (Ew2 i t) (ws [0])
     ·refine Sp (fun ab=>?_) fun ab=>?_
      ·refine Ck fun aM=>?_
       exact Lf Ac (Ew4 i t ab (qR aM)) (ws [0])
      ·exact Lf Ac (Ew3 i t ab) (ws [0])
   intro au;refine Cd ?_ ?_
   ·refine T0 [2] ?_;exact Sr <|Br <|Tr <|Lr ar aq <|Br <|Jr aH <|Rr
   ·refine Sk <|Bn <|Tn <|F0 [1,5] ?_
    exact Ln (ws [0])
  ·refine Sx <|Tx <|Lx ar aq <|Bx <|?_
   exact Jn ((ws (l':=[]) (σ':=[]) []).trans (ws []))
 intro _;refine T0 [2] ?_;exact Sr <|Rr
theorem Rf{c r}(h:Gu c=some r):Con B 43 [u64 c] [] (fun r' σ'=>r'=.bool r∧σ'=[]):=by
 refine Cw 14 [.tmp 2] Tryz.func43 (fun F hE=>?_) h;unfold Gu;refine T0 [0] ?_;refine Tw [2] (fun d=>⟨Ar 14 [(2,.bool d)],[]⟩) ?_ ?_
 ·intro _;refine Sp (fun a=>?_) fun a=>?_
  ·refine Sp (fun b=>?_) fun b=>?_
   ·refine Bd fun f e=>?_
    exact Lf (o1 11 (NO e)) (Ew2 a b) (ws [])
   ·exact Lf Ac (Ew2 a b) (ws [])
  ·exact Lf Ac (Ew1 a) (ws [])
 intro d;exact Sr <|Rr
end Go.Proofs.YtioapcamanmoiaaGreatDoor
