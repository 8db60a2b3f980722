/-
  Part 45.
-/
import Derived.Test.YtioapcamanmoiaaDoorYX341
import Derived.Test.YtioapcamanmoiaaDoorYX342
import Derived.Test.YtioapcamanmoiaaDoorYX343
import Derived.Test.YtioapcamanmoiaaDoorYX344
import Derived.KernelRfl
import Derived.Lib.Mul64
namespace Go.Proofs.YtioapcamanmoiaaDoor
open Go.Rv
set_option linter.unusedVariables false
set_option linter.unusedSimpArgs false
set_option maxRecDepth 20000
set_option maxHeartbeats 4000000
theorem Er {a d e r} (h : B7 a d e = some r) : Con B 98 [.ref 0 0,.ref 0 15,i64 d,i64 e] [.box [.sl false (L Ag a.p.Zg1.Ze),.sl false (L An a.p.Zg1.Zf),.sl false (L Ab a.p.Zh1.Zx),.sl false (L Ae a.p.Zh1.Zy),.sl false (L Ai a.p.Zh1.Zz),.sl false (L Ah a.p.Zh1.Za1),.sl false (L Af a.p.Zi1),.sl false (L Ad a.p.Zj1),.sl false (L Ac a.p.Zk1),i64 a.it.Za,i64 a.it.Ref.Zb,i64 a.it.Ref.No,i64 a.it.Zn1,i64 a.it.Zb1,i64 a.it.Zc,i64 a.it.Zo1,i64 a.it.Zw,i64 a.it.To,i64 a.it.Code,i64 a.it.Zp1,i64 a.it.Zq1,i64 a.it.Zr1,i64 a.it.Zs1,.str a.it.Zt1,.sl false (L Aj a.it.Zu1),.bool a.ok] false] (fun r' σ' => r' = .tup []∧σ' = [.box [.sl false (L Ag r.p.Zg1.Ze),.sl false (L An r.p.Zg1.Zf),.sl false (L Ab r.p.Zh1.Zx),.sl false (L Ae r.p.Zh1.Zy),.sl false (L Ai r.p.Zh1.Zz),.sl false (L Ah r.p.Zh1.Za1),.sl false (L Af r.p.Zi1),.sl false (L Ad r.p.Zj1),.sl false (L Ac r.p.Zk1),i64 r.it.Za,i64 r.it.Ref.Zb,i64 r.it.Ref.No,i64 r.it.Zn1,i64 r.it.Zb1,i64 r.it.Zc,i64 r.it.Zo1,i64 r.it.Zw,i64 r.it.To,i64 r.it.Code,i64 r.it.Zp1,i64 r.it.Zq1,i64 r.it.Zr1,i64 r.it.Zs1,.str r.it.Zt1,.sl false (L Aj r.it.Zu1),.bool r.ok] false]):=by
 refine Co 1 31 [] Tryd.func98 (fun F hE => ?_) h
 unfold B7
 refine Tw [1] (fun f => ⟨Ar 31 [(1,.ref 0 15)],[.box [.sl false (L Ag a.p.Zg1.Ze),.sl false (L An a.p.Zg1.Zf),.sl false (L Ab a.p.Zh1.Zx),.sl false (L Ae a.p.Zh1.Zy),.sl false (L Ai a.p.Zh1.Zz),.sl false (L Ah a.p.Zh1.Za1),.sl false (L Af a.p.Zi1),.sl false (L Ad a.p.Zj1),.sl false (L Ac a.p.Zk1),i64 a.it.Za,i64 a.it.Ref.Zb,i64 a.it.Ref.No,i64 a.it.Zn1,i64 a.it.Zb1,i64 a.it.Zc,i64 a.it.Zo1,i64 a.it.Zw,i64 a.it.To,i64 a.it.Code,i64 a.it.Zp1,i64 a.it.Zq1,i64 a.it.Zr1,i64 a.it.Zs1,.str a.it.Zt1,.sl false (L Aj a.it.Zu1),.bool f] false]⟩) ?_ ?_
 ·intro _
  refine Sp (fun b => ?_) fun b => ?_
  ·refine Sp (fun c => ?_) fun c => ?_
   ·exact Lf Aa (Ev (by simp only [go_sem,b,c];exact Al)) (ws [0])
   ·exact Lf Aa (Ev (by simp only [go_sem,b,c];exact Al)) (ws [0])
  ·exact Lf Aa (Ev (by simp only [go_sem,b];exact Al)) (ws [0])
 intro f
 refine F0 [] ?_
 exact Ro [0]
theorem K9 {a d e r} (h : Dm a d e = some r) : Con B 98 [.ref 0 0,.ref 0 16,i64 d,i64 e] [.box [.sl false (L Ag a.p.Zg1.Ze),.sl false (L An a.p.Zg1.Zf),.sl false (L Ab a.p.Zh1.Zx),.sl false (L Ae a.p.Zh1.Zy),.sl false (L Ai a.p.Zh1.Zz),.sl false (L Ah a.p.Zh1.Za1),.sl false (L Af a.p.Zi1),.sl false (L Ad a.p.Zj1),.sl false (L Ac a.p.Zk1),i64 a.it.Za,i64 a.it.Ref.Zb,i64 a.it.Ref.No,i64 a.it.Zn1,i64 a.it.Zb1,i64 a.it.Zc,i64 a.it.Zo1,i64 a.it.Zw,i64 a.it.To,i64 a.it.Code,i64 a.it.Zp1,i64 a.it.Zq1,i64 a.it.Zr1,i64 a.it.Zs1,.str a.it.Zt1,.sl false (L Aj a.it.Zu1),.bool a.ok] false] (fun r' σ' => r' = .tup []∧σ' = [.box [.sl false (L Ag r.p.Zg1.Ze),.sl false (L An r.p.Zg1.Zf),.sl false (L Ab r.p.Zh1.Zx),.sl false (L Ae r.p.Zh1.Zy),.sl false (L Ai r.p.Zh1.Zz),.sl false (L Ah r.p.Zh1.Za1),.sl false (L Af r.p.Zi1),.sl false (L Ad r.p.Zj1),.sl false (L Ac r.p.Zk1),i64 r.it.Za,i64 r.it.Ref.Zb,i64 r.it.Ref.No,i64 r.it.Zn1,i64 r.it.Zb1,i64 r.it.Zc,i64 r.it.Zo1,i64 r.it.Zw,i64 r.it.To,i64 r.it.Code,i64 r.it.Zp1,i64 r.it.Zq1,i64 r.it.Zr1,i64 r.it.Zs1,.str r.it.Zt1,.sl false (L Aj r.it.Zu1),.bool r.ok] false]):=by
 refine Co 1 31 [] Tryd.func98 (fun F hE => ?_) h
 unfold Dm
 refine Tw [1] (fun f => ⟨Ar 31 [(1,.ref 0 16)],[.box [.sl false (L Ag a.p.Zg1.Ze),.sl false (L An a.p.Zg1.Zf),.sl false (L Ab a.p.Zh1.Zx),.sl false (L Ae a.p.Zh1.Zy),.sl false (L Ai a.p.Zh1.Zz),.sl false (L Ah a.p.Zh1.Za1),.sl false (L Af a.p.Zi1),.sl false (L Ad a.p.Zj1),.sl false (L Ac a.p.Zk1),i64 a.it.Za,i64 a.it.Ref.Zb,i64 a.it.Ref.No,i64 a.it.Zn1,i64 a.it.Zb1,i64 a.it.Zc,i64 a.it.Zo1,i64 a.it.Zw,i64 a.it.To,i64 a.it.Code,i64 a.it.Zp1,i64 a.it.Zq1,i64 a.it.Zr1,i64 a.it.Zs1,.str a.it.Zt1,.sl false (L Aj a.it.Zu1),.bool f] false]⟩) ?_ ?_
 ·intro _
  refine Sp (fun b => ?_) fun b => ?_
  ·refine Sp (fun c => ?_) fun c => ?_
   ·exact Lf Aa (Ev (by simp only [go_sem,b,c];exact Al)) (ws [0])
   ·exact Lf Aa (Ev (by simp only [go_sem,b,c];exact Al)) (ws [0])
  ·exact Lf Aa (Ev (by simp only [go_sem,b];exact Al)) (ws [0])
 intro f
 refine F0 [] ?_
 exact Ro [0]
theorem K8 {a d e r} (h : Do a d e = some r) : Con B 98 [.ref 0 0,.ref 0 17,i64 d,i64 e] [.box [.sl false (L Ag a.p.Zg1.Ze),.sl false (L An a.p.Zg1.Zf),.sl false (L Ab a.p.Zh1.Zx),.sl false (L Ae a.p.Zh1.Zy),.sl false (L Ai a.p.Zh1.Zz),.sl false (L Ah a.p.Zh1.Za1),.sl false (L Af a.p.Zi1),.sl false (L Ad a.p.Zj1),.sl false (L Ac a.p.Zk1),i64 a.it.Za,i64 a.it.Ref.Zb,i64 a.it.Ref.No,i64 a.it.Zn1,i64 a.it.Zb1,i64 a.it.Zc,i64 a.it.Zo1,i64 a.it.Zw,i64 a.it.To,i64 a.it.Code,i64 a.it.Zp1,i64 a.it.Zq1,i64 a.it.Zr1,i64 a.it.Zs1,.str a.it.Zt1,.sl false (L Aj a.it.Zu1),.bool a.ok] false] (fun r' σ' => r' = .tup []∧σ' = [.box [.sl false (L Ag r.p.Zg1.Ze),.sl false (L An r.p.Zg1.Zf),.sl false (L Ab r.p.Zh1.Zx),.sl false (L Ae r.p.Zh1.Zy),.sl false (L Ai r.p.Zh1.Zz),.sl false (L Ah r.p.Zh1.Za1),.sl false (L Af r.p.Zi1),.sl false (L Ad r.p.Zj1),.sl false (L Ac r.p.Zk1),i64 r.it.Za,i64 r.it.Ref.Zb,i64 r.it.Ref.No,i64 r.it.Zn1,i64 r.it.Zb1,i64 r.it.Zc,i64 r.it.Zo1,i64 r.it.Zw,i64 r.it.To,i64 r.it.Code,i64 r.it.Zp1,i64 r.it.Zq1,i64 r.it.Zr1,i64 r.it.Zs1,.str r.it.Zt1,.sl false (L Aj r.it.Zu1),.bool r.ok] false]):=by
 refine Co 1 31 [] Tryd.func98 (fun F hE => ?_) h
 unfold Do
 refine Tw [1] (fun f => ⟨Ar 31 [(1,.ref 0 17)],[.box [.sl false (L Ag a.p.Zg1.Ze),.sl false (L An a.p.Zg1.Zf),.sl false (L Ab a.p.Zh1.Zx),.sl false (L Ae a.p.Zh1.Zy),.sl false (L Ai a.p.Zh1.Zz),.sl false (L Ah a.p.Zh1.Za1),.sl false (L Af a.p.Zi1),.sl false (L Ad a.p.Zj1),.sl false (L Ac a.p.Zk1),i64 a.it.Za,i64 a.it.Ref.Zb,i64 a.it.Ref.No,i64 a.it.Zn1,i64 a.it.Zb1,i64 a.it.Zc,i64 a.it.Zo1,i64 a.it.Zw,i64 a.it.To,i64 a.it.Code,i64 a.it.Zp1,i64 a.it.Zq1,i64 a.it.Zr1,i64 a.it.Zs1,.str a.it.Zt1,.sl false (L Aj a.it.Zu1),.bool f] false]⟩) ?_ ?_
 ·intro _
  refine Sp (fun b => ?_) fun b => ?_
  ·refine Sp (fun c => ?_) fun c => ?_
   ·exact Lf Aa (Ev (by simp only [go_sem,b,c];exact Al)) (ws [0])
   ·exact Lf Aa (Ev (by simp only [go_sem,b,c];exact Al)) (ws [0])
  ·exact Lf Aa (Ev (by simp only [go_sem,b];exact Al)) (ws [0])
 intro f
 refine F0 [] ?_
 exact Ro [0]
theorem Dd {a d e r} (h : Bu a d e = some r) : Con B 98 [.ref 0 0,.ref 0 18,i64 d,i64 e] [.box [.sl false (L Ag a.p.Zg1.Ze),.sl false (L An a.p.Zg1.Zf),.sl false (L Ab a.p.Zh1.Zx),.sl false (L Ae a.p.Zh1.Zy),.sl false (L Ai a.p.Zh1.Zz),.sl false (L Ah a.p.Zh1.Za1),.sl false (L Af a.p.Zi1),.sl false (L Ad a.p.Zj1),.sl false (L Ac a.p.Zk1),i64 a.it.Za,i64 a.it.Ref.Zb,i64 a.it.Ref.No,i64 a.it.Zn1,i64 a.it.Zb1,i64 a.it.Zc,i64 a.it.Zo1,i64 a.it.Zw,i64 a.it.To,i64 a.it.Code,i64 a.it.Zp1,i64 a.it.Zq1,i64 a.it.Zr1,i64 a.it.Zs1,.str a.it.Zt1,.sl false (L Aj a.it.Zu1),.bool a.ok] false] (fun r' σ' => r' = .tup []∧σ' = [.box [.sl false (L Ag r.p.Zg1.Ze),.sl false (L An r.p.Zg1.Zf),.sl false (L Ab r.p.Zh1.Zx),.sl false (L Ae r.p.Zh1.Zy),.sl false (L Ai r.p.Zh1.Zz),.sl false (L Ah r.p.Zh1.Za1),.sl false (L Af r.p.Zi1),.sl false (L Ad r.p.Zj1),.sl false (L Ac r.p.Zk1),i64 r.it.Za,i64 r.it.Ref.Zb,i64 r.it.Ref.No,i64 r.it.Zn1,i64 r.it.Zb1,i64 r.it.Zc,i64 r.it.Zo1,i64 r.it.Zw,i64 r.it.To,i64 r.it.Code,i64 r.it.Zp1,i64 r.it.Zq1,i64 r.it.Zr1,i64 r.it.Zs1,.str r.it.Zt1,.sl false (L Aj r.it.Zu1),.bool r.ok] false]):=by
 refine Co 1 31 [] Tryd.func98 (fun F hE => ?_) h
 unfold Bu
 refine Tw [1] (fun f => ⟨Ar 31 [(1,.ref 0 18)],[.box [.sl false (L Ag a.p.Zg1.Ze),.sl false (L An a.p.Zg1.Zf),.sl false (L Ab a.p.Zh1.Zx),.sl false (L Ae a.p.Zh1.Zy),.sl false (L Ai a.p.Zh1.Zz),.sl false (L Ah a.p.Zh1.Za1),.sl false (L Af a.p.Zi1),.sl false (L Ad a.p.Zj1),.sl false (L Ac a.p.Zk1),i64 a.it.Za,i64 a.it.Ref.Zb,i64 a.it.Ref.No,i64 a.it.Zn1,i64 a.it.Zb1,i64 a.it.Zc,i64 a.it.Zo1,i64 a.it.Zw,i64 a.it.To,i64 a.it.Code,i64 a.it.Zp1,i64 a.it.Zq1,i64 a.it.Zr1,i64 a.it.Zs1,.str a.it.Zt1,.sl false (L Aj a.it.Zu1),.bool f] false]⟩) ?_ ?_
 ·intro _
  refine Sp (fun b => ?_) fun b => ?_
  ·refine Sp (fun c => ?_) fun c => ?_
   ·exact Lf Aa (Ev (by simp only [go_sem,b,c];exact Al)) (ws [0])
   ·exact Lf Aa (Ev (by simp only [go_sem,b,c];exact Al)) (ws [0])
  ·exact Lf Aa (Ev (by simp only [go_sem,b];exact Al)) (ws [0])
 intro f
 refine F0 [] ?_
 exact Ro [0]
theorem Lm {a d e r} (h : Di a d e = some r) : Con B 98 [.ref 0 0,.ref 0 19,i64 d,i64 e] [.box [.sl false (L Ag a.p.Zg1.Ze),.sl false (L An a.p.Zg1.Zf),.sl false (L Ab a.p.Zh1.Zx),.sl false (L Ae a.p.Zh1.Zy),.sl false (L Ai a.p.Zh1.Zz),.sl false (L Ah a.p.Zh1.Za1),.sl false (L Af a.p.Zi1),.sl false (L Ad a.p.Zj1),.sl false (L Ac a.p.Zk1),i64 a.it.Za,i64 a.it.Ref.Zb,i64 a.it.Ref.No,i64 a.it.Zn1,i64 a.it.Zb1,i64 a.it.Zc,i64 a.it.Zo1,i64 a.it.Zw,i64 a.it.To,i64 a.it.Code,i64 a.it.Zp1,i64 a.it.Zq1,i64 a.it.Zr1,i64 a.it.Zs1,.str a.it.Zt1,.sl false (L Aj a.it.Zu1),.bool a.ok] false] (fun r' σ' => r' = .tup []∧σ' = [.box [.sl false (L Ag r.p.Zg1.Ze),.sl false (L An r.p.Zg1.Zf),.sl false (L Ab r.p.Zh1.Zx),.sl false (L Ae r.p.Zh1.Zy),.sl false (L Ai r.p.Zh1.Zz),.sl false (L Ah r.p.Zh1.Za1),.sl false (L Af r.p.Zi1),.sl false (L Ad r.p.Zj1),.sl false (L Ac r.p.Zk1),i64 r.it.Za,i64 r.it.Ref.Zb,i64 r.it.Ref.No,i64 r.it.Zn1,i64 r.it.Zb1,i64 r.it.Zc,i64 r.it.Zo1,i64 r.it.Zw,i64 r.it.To,i64 r.it.Code,i64 r.it.Zp1,i64 r.it.Zq1,i64 r.it.Zr1,i64 r.it.Zs1,.str r.it.Zt1,.sl false (L Aj r.it.Zu1),.bool r.ok] false]):=by
 refine Co 1 31 [] Tryd.func98 (fun F hE => ?_) h
 unfold Di
 refine Tw [1] (fun f => ⟨Ar 31 [(1,.ref 0 19)],[.box [.sl false (L Ag a.p.Zg1.Ze),.sl false (L An a.p.Zg1.Zf),.sl false (L Ab a.p.Zh1.Zx),.sl false (L Ae a.p.Zh1.Zy),.sl false (L Ai a.p.Zh1.Zz),.sl false (L Ah a.p.Zh1.Za1),.sl false (L Af a.p.Zi1),.sl false (L Ad a.p.Zj1),.sl false (L Ac a.p.Zk1),i64 a.it.Za,i64 a.it.Ref.Zb,i64 a.it.Ref.No,i64 a.it.Zn1,i64 a.it.Zb1,i64 a.it.Zc,i64 a.it.Zo1,i64 a.it.Zw,i64 a.it.To,i64 a.it.Code,i64 a.it.Zp1,i64 a.it.Zq1,i64 a.it.Zr1,i64 a.it.Zs1,.str a.it.Zt1,.sl false (L Aj a.it.Zu1),.bool f] false]⟩) ?_ ?_
 ·intro _
  refine Sp (fun b => ?_) fun b => ?_
  ·refine Sp (fun c => ?_) fun c => ?_
   ·exact Lf Aa (Ev (by simp only [go_sem,b,c];exact Al)) (ws [0])
   ·exact Lf Aa (Ev (by simp only [go_sem,b,c];exact Al)) (ws [0])
  ·exact Lf Aa (Ev (by simp only [go_sem,b];exact Al)) (ws [0])
 intro f
 refine F0 [] ?_
 exact Ro [0]
theorem Lc {a d e r} (h : Dk a d e = some r) : Con B 98 [.ref 0 0,.ref 0 20,i64 d,i64 e] [.box [.sl false (L Ag a.p.Zg1.Ze),.sl false (L An a.p.Zg1.Zf),.sl false (L Ab a.p.Zh1.Zx),.sl false (L Ae a.p.Zh1.Zy),.sl false (L Ai a.p.Zh1.Zz),.sl false (L Ah a.p.Zh1.Za1),.sl false (L Af a.p.Zi1),.sl false (L Ad a.p.Zj1),.sl false (L Ac a.p.Zk1),i64 a.it.Za,i64 a.it.Ref.Zb,i64 a.it.Ref.No,i64 a.it.Zn1,i64 a.it.Zb1,i64 a.it.Zc,i64 a.it.Zo1,i64 a.it.Zw,i64 a.it.To,i64 a.it.Code,i64 a.it.Zp1,i64 a.it.Zq1,i64 a.it.Zr1,i64 a.it.Zs1,.str a.it.Zt1,.sl false (L Aj a.it.Zu1),.bool a.ok] false] (fun r' σ' => r' = .tup []∧σ' = [.box [.sl false (L Ag r.p.Zg1.Ze),.sl false (L An r.p.Zg1.Zf),.sl false (L Ab r.p.Zh1.Zx),.sl false (L Ae r.p.Zh1.Zy),.sl false (L Ai r.p.Zh1.Zz),.sl false (L Ah r.p.Zh1.Za1),.sl false (L Af r.p.Zi1),.sl false (L Ad r.p.Zj1),.sl false (L Ac r.p.Zk1),i64 r.it.Za,i64 r.it.Ref.Zb,i64 r.it.Ref.No,i64 r.it.Zn1,i64 r.it.Zb1,i64 r.it.Zc,i64 r.it.Zo1,i64 r.it.Zw,i64 r.it.To,i64 r.it.Code,i64 r.it.Zp1,i64 r.it.Zq1,i64 r.it.Zr1,i64 r.it.Zs1,.str r.it.Zt1,.sl false (L Aj r.it.Zu1),.bool r.ok] false]):=by
 refine Co 1 31 [] Tryd.func98 (fun F hE => ?_) h
 unfold Dk
 refine Tw [1] (fun f => ⟨Ar 31 [(1,.ref 0 20)],[.box [.sl false (L Ag a.p.Zg1.Ze),.sl false (L An a.p.Zg1.Zf),.sl false (L Ab a.p.Zh1.Zx),.sl false (L Ae a.p.Zh1.Zy),.sl false (L Ai a.p.Zh1.Zz),.sl false (L Ah a.p.Zh1.Za1),.sl false (L Af a.p.Zi1),.sl false (L Ad a.p.Zj1),.sl false (L Ac a.p.Zk1),i64 a.it.Za,i64 a.it.Ref.Zb,i64 a.it.Ref.No,i64 a.it.Zn1,i64 a.it.Zb1,i64 a.it.Zc,i64 a.it.Zo1,i64 a.it.Zw,i64 a.it.To,i64 a.it.Code,i64 a.it.Zp1,i64 a.it.Zq1,i64 a.it.Zr1,i64 a.it.Zs1,.str a.it.Zt1,.sl false (L Aj a.it.Zu1),.bool f] false]⟩) ?_ ?_
 ·intro _
  refine Sp (fun b => ?_) fun b => ?_
  ·refine Sp (fun c => ?_) fun c => ?_
   ·exact Lf Aa (Ev (by simp only [go_sem,b,c];exact Al)) (ws [0])
   ·exact Lf Aa (Ev (by simp only [go_sem,b,c];exact Al)) (ws [0])
  ·exact Lf Aa (Ev (by simp only [go_sem,b];exact Al)) (ws [0])
 intro f
 refine F0 [] ?_
 exact Ro [0]
theorem G6 {a d e r} (h : Cu a d e = some r) : Con B 98 [.ref 0 0,.ref 0 21,i64 d,i64 e] [.box [.sl false (L Ag a.p.Zg1.Ze),.sl false (L An a.p.Zg1.Zf),.sl false (L Ab a.p.Zh1.Zx),.sl false (L Ae a.p.Zh1.Zy),.sl false (L Ai a.p.Zh1.Zz),.sl false (L Ah a.p.Zh1.Za1),.sl false (L Af a.p.Zi1),.sl false (L Ad a.p.Zj1),.sl false (L Ac a.p.Zk1),i64 a.it.Za,i64 a.it.Ref.Zb,i64 a.it.Ref.No,i64 a.it.Zn1,i64 a.it.Zb1,i64 a.it.Zc,i64 a.it.Zo1,i64 a.it.Zw,i64 a.it.To,i64 a.it.Code,i64 a.it.Zp1,i64 a.it.Zq1,i64 a.it.Zr1,i64 a.it.Zs1,.str a.it.Zt1,.sl false (L Aj a.it.Zu1),.bool a.ok] false] (fun r' σ' => r' = .tup []∧σ' = [.box [.sl false (L Ag r.p.Zg1.Ze),.sl false (L An r.p.Zg1.Zf),.sl false (L Ab r.p.Zh1.Zx),.sl false (L Ae r.p.Zh1.Zy),.sl false (L Ai r.p.Zh1.Zz),.sl false (L Ah r.p.Zh1.Za1),.sl false (L Af r.p.Zi1),.sl false (L Ad r.p.Zj1),.sl false (L Ac r.p.Zk1),i64 r.it.Za,i64 r.it.Ref.Zb,i64 r.it.Ref.No,i64 r.it.Zn1,i64 r.it.Zb1,i64 r.it.Zc,i64 r.it.Zo1,i64 r.it.Zw,i64 r.it.To,i64 r.it.Code,i64 r.it.Zp1,i64 r.it.Zq1,i64 r.it.Zr1,i64 r.it.Zs1,.str r.it.Zt1,.sl false (L Aj r.it.Zu1),.bool r.ok] false]):=by
 refine Co 1 31 [] Tryd.func98 (fun F hE => ?_) h
 unfold Cu
 refine Tw [1] (fun f => ⟨Ar 31 [(1,.ref 0 21)],[.box [.sl false (L Ag a.p.Zg1.Ze),.sl false (L An a.p.Zg1.Zf),.sl false (L Ab a.p.Zh1.Zx),.sl false (L Ae a.p.Zh1.Zy),.sl false (L Ai a.p.Zh1.Zz),.sl false (L Ah a.p.Zh1.Za1),.sl false (L Af a.p.Zi1),.sl false (L Ad a.p.Zj1),.sl false (L Ac a.p.Zk1),i64 a.it.Za,i64 a.it.Ref.Zb,i64 a.it.Ref.No,i64 a.it.Zn1,i64 a.it.Zb1,i64 a.it.Zc,i64 a.it.Zo1,i64 a.it.Zw,i64 a.it.To,i64 a.it.Code,i64 a.it.Zp1,i64 a.it.Zq1,i64 a.it.Zr1,i64 a.it.Zs1,.str a.it.Zt1,.sl false (L Aj a.it.Zu1),.bool f] false]⟩) ?_ ?_
 ·intro _
  refine Sp (fun b => ?_) fun b => ?_
  ·refine Sp (fun c => ?_) fun c => ?_
   ·exact Lf Aa (Ev (by simp only [go_sem,b,c];exact Al)) (ws [0])
   ·exact Lf Aa (Ev (by simp only [go_sem,b,c];exact Al)) (ws [0])
  ·exact Lf Aa (Ev (by simp only [go_sem,b];exact Al)) (ws [0])
 intro f
 refine F0 [] ?_
 exact Ro [0]
theorem G4 {a d e r} (h : Cp a d e = some r) : Con B 98 [.ref 0 0,.ref 0 22,i64 d,i64 e] [.box [.sl false (L Ag a.p.Zg1.Ze),.sl false (L An a.p.Zg1.Zf),.sl false (L Ab a.p.Zh1.Zx),.sl false (L Ae a.p.Zh1.Zy),.sl false (L Ai a.p.Zh1.Zz),.sl false (L Ah a.p.Zh1.Za1),.sl false (L Af a.p.Zi1),.sl false (L Ad a.p.Zj1),.sl false (L Ac a.p.Zk1),i64 a.it.Za,i64 a.it.Ref.Zb,i64 a.it.Ref.No,i64 a.it.Zn1,i64 a.it.Zb1,i64 a.it.Zc,i64 a.it.Zo1,i64 a.it.Zw,i64 a.it.To,i64 a.it.Code,i64 a.it.Zp1,i64 a.it.Zq1,i64 a.it.Zr1,i64 a.it.Zs1,.str a.it.Zt1,.sl false (L Aj a.it.Zu1),.bool a.ok] false] (fun r' σ' => r' = .tup []∧σ' = [.box [.sl false (L Ag r.p.Zg1.Ze),.sl false (L An r.p.Zg1.Zf),.sl false (L Ab r.p.Zh1.Zx),.sl false (L Ae r.p.Zh1.Zy),.sl false (L Ai r.p.Zh1.Zz),.sl false (L Ah r.p.Zh1.Za1),.sl false (L Af r.p.Zi1),.sl false (L Ad r.p.Zj1),.sl false (L Ac r.p.Zk1),i64 r.it.Za,i64 r.it.Ref.Zb,i64 r.it.Ref.No,i64 r.it.Zn1,i64 r.it.Zb1,i64 r.it.Zc,i64 r.it.Zo1,i64 r.it.Zw,i64 r.it.To,i64 r.it.Code,i64 r.it.Zp1,i64 r.it.Zq1,i64 r.it.Zr1,i64 r.it.Zs1,.str r.it.Zt1,.sl false (L Aj r.it.Zu1),.bool r.ok] false]):=by
 refine Co 1 31 [] Tryd.func98 (fun F hE => ?_) h
 unfold Cp
 refine Tw [1] (fun f => ⟨Ar 31 [(1,.ref 0 22)],[.box [.sl false (L Ag a.p.Zg1.Ze),.sl false (L An a.p.Zg1.Zf),.sl false (L Ab a.p.Zh1.Zx),.sl false (L Ae a.p.Zh1.Zy),.sl false (L Ai a.p.Zh1.Zz),.sl false (L Ah a.p.Zh1.Za1),.sl false (L Af a.p.Zi1),.sl false (L Ad a.p.Zj1),.sl false (L Ac a.p.Zk1),i64 a.it.Za,i64 a.it.Ref.Zb,i64 a.it.Ref.No,i64 a.it.Zn1,i64 a.it.Zb1,i64 a.it.Zc,i64 a.it.Zo1,i64 a.it.Zw,i64 a.it.To,i64 a.it.Code,i64 a.it.Zp1,i64 a.it.Zq1,i64 a.it.Zr1,i64 a.it.Zs1,.str a.it.Zt1,.sl false (L Aj a.it.Zu1),.bool f] false]⟩) ?_ ?_
 ·intro _
  refine Sp (fun b => ?_) fun b => ?_
  ·refine Sp (fun c => ?_) fun c => ?_
   ·exact Lf Aa (Ev (by simp only [go_sem,b,c];exact Al)) (ws [0])
   ·exact Lf Aa (Ev (by simp only [go_sem,b,c];exact Al)) (ws [0])
  ·exact Lf Aa (Ev (by simp only [go_sem,b];exact Al)) (ws [0])
 intro f
 refine F0 [] ?_
 exact Ro [0]
theorem Gm {a r} (h : Db a = some r) : Con B 97 [.ref 0 0] [.box [.sl false (L Ag a.p.Zg1.Ze),.sl false (L An a.p.Zg1.Zf),.sl false (L Ab a.p.Zh1.Zx),.sl false (L Ae a.p.Zh1.Zy),.sl false (L Ai a.p.Zh1.Zz),.sl false (L Ah a.p.Zh1.Za1),.sl false (L Af a.p.Zi1),.sl false (L Ad a.p.Zj1),.sl false (L Ac a.p.Zk1),i64 a.it.Za,i64 a.it.Ref.Zb,i64 a.it.Ref.No,i64 a.it.Zn1,i64 a.it.Zb1,i64 a.it.Zc,i64 a.it.Zo1,i64 a.it.Zw,i64 a.it.To,i64 a.it.Code,i64 a.it.Zp1,i64 a.it.Zq1,i64 a.it.Zr1,i64 a.it.Zs1,.str a.it.Zt1,.sl false (L Aj a.it.Zu1),.bool a.ok] false] (fun r' σ' => r' = .tup []∧σ' = [.box [.sl false (L Ag r.p.Zg1.Ze),.sl false (L An r.p.Zg1.Zf),.sl false (L Ab r.p.Zh1.Zx),.sl false (L Ae r.p.Zh1.Zy),.sl false (L Ai r.p.Zh1.Zz),.sl false (L Ah r.p.Zh1.Za1),.sl false (L Af r.p.Zi1),.sl false (L Ad r.p.Zj1),.sl false (L Ac r.p.Zk1),i64 r.it.Za,i64 r.it.Ref.Zb,i64 r.it.Ref.No,i64 r.it.Zn1,i64 r.it.Zb1,i64 r.it.Zc,i64 r.it.Zo1,i64 r.it.Zw,i64 r.it.To,i64 r.it.Code,i64 r.it.Zp1,i64 r.it.Zq1,i64 r.it.Zr1,i64 r.it.Zs1,.str r.it.Zt1,.sl false (L Aj r.it.Zu1),.bool r.ok] false]):=by
 refine Co 1 16 [] Tryd.func97 (fun F hE => ?_) h
 unfold Db
 refine Bd fun c b =>Ge [[],[],[1],[1,2],[1,2,3],[],[5],[5,6],[5,6,7],[5,6,7,8],[5,6,7,8,9],[5,6,7,8,9,10],[5,6,7,8,9,10,11],[0,1,2,3,4,5,6,7,8,9,10,11,12]] [] (As (l:=[]) (m:=[(15,98,[.ref 0 0,.ref 0 12,i64 0,i64 (w64 ((a.p.Zh1.Zy.length : Int) - 1))],[.box [.sl false (L Ag a.p.Zg1.Ze),.sl false (L An a.p.Zg1.Zf),.sl false (L Ab a.p.Zh1.Zx),.sl false (L Ae a.p.Zh1.Zy),.sl false (L Ai a.p.Zh1.Zz),.sl false (L Ah a.p.Zh1.Za1),.sl false (L Af a.p.Zi1),.sl false (L Ad a.p.Zj1),.sl false (L Ac a.p.Zk1),i64 a.it.Za,i64 a.it.Ref.Zb,i64 a.it.Ref.No,i64 a.it.Zn1,i64 a.it.Zb1,i64 a.it.Zc,i64 a.it.Zo1,i64 a.it.Zw,i64 a.it.To,i64 a.it.Code,i64 a.it.Zp1,i64 a.it.Zq1,i64 a.it.Zr1,i64 a.it.Zs1,.str a.it.Zt1,.sl false (L Aj a.it.Zu1),.bool a.ok] false],_,_)]) trivial ⟨(wc (Li b) [0]),trivial⟩) Ev ?_
 exact Ro [0]
theorem Ch {a r} (h : Bw a = some r) : Con B 99 [.ref 0 0] [.box [.sl false (L Ag a.p.Zg1.Ze),.sl false (L An a.p.Zg1.Zf),.sl false (L Ab a.p.Zh1.Zx),.sl false (L Ae a.p.Zh1.Zy),.sl false (L Ai a.p.Zh1.Zz),.sl false (L Ah a.p.Zh1.Za1),.sl false (L Af a.p.Zi1),.sl false (L Ad a.p.Zj1),.sl false (L Ac a.p.Zk1),i64 a.it.Za,i64 a.it.Ref.Zb,i64 a.it.Ref.No,i64 a.it.Zn1,i64 a.it.Zb1,i64 a.it.Zc,i64 a.it.Zo1,i64 a.it.Zw,i64 a.it.To,i64 a.it.Code,i64 a.it.Zp1,i64 a.it.Zq1,i64 a.it.Zr1,i64 a.it.Zs1,.str a.it.Zt1,.sl false (L Aj a.it.Zu1),.bool a.ok] false] (fun r' σ' => r' = .tup []∧σ' = [.box [.sl false (L Ag r.p.Zg1.Ze),.sl false (L An r.p.Zg1.Zf),.sl false (L Ab r.p.Zh1.Zx),.sl false (L Ae r.p.Zh1.Zy),.sl false (L Ai r.p.Zh1.Zz),.sl false (L Ah r.p.Zh1.Za1),.sl false (L Af r.p.Zi1),.sl false (L Ad r.p.Zj1),.sl false (L Ac r.p.Zk1),i64 r.it.Za,i64 r.it.Ref.Zb,i64 r.it.Ref.No,i64 r.it.Zn1,i64 r.it.Zb1,i64 r.it.Zc,i64 r.it.Zo1,i64 r.it.Zw,i64 r.it.To,i64 r.it.Code,i64 r.it.Zp1,i64 r.it.Zq1,i64 r.it.Zr1,i64 r.it.Zs1,.str r.it.Zt1,.sl false (L Aj r.it.Zu1),.bool r.ok] false]):=by
 refine Co 1 8 [] Tryd.func99 (fun F hE => ?_) h
 unfold Bw
 refine Bd fun c b =>Fe [] (As (l:=[]) (m:=[(7,98,[.ref 0 0,.ref 0 16,i64 0,i64 1073741824],[.box [.sl false (L Ag a.p.Zg1.Ze),.sl false (L An a.p.Zg1.Zf),.sl false (L Ab a.p.Zh1.Zx),.sl false (L Ae a.p.Zh1.Zy),.sl false (L Ai a.p.Zh1.Zz),.sl false (L Ah a.p.Zh1.Za1),.sl false (L Af a.p.Zi1),.sl false (L Ad a.p.Zj1),.sl false (L Ac a.p.Zk1),i64 a.it.Za,i64 a.it.Ref.Zb,i64 a.it.Ref.No,i64 a.it.Zn1,i64 a.it.Zb1,i64 a.it.Zc,i64 a.it.Zo1,i64 a.it.Zw,i64 a.it.To,i64 a.it.Code,i64 a.it.Zp1,i64 a.it.Zq1,i64 a.it.Zr1,i64 a.it.Zs1,.str a.it.Zt1,.sl false (L Aj a.it.Zu1),.bool a.ok] false],_,_)]) trivial ⟨(wc (K9 b) [0]),trivial⟩) Ev ?_
 exact Ro [0]
theorem Cs {a c r} (h : B1 a c = some r) : Con B 100 [.ref 0 0,i64 c] [.box [.sl false (L Ag a.p.Zg1.Ze),.sl false (L An a.p.Zg1.Zf),.sl false (L Ab a.p.Zh1.Zx),.sl false (L Ae a.p.Zh1.Zy),.sl false (L Ai a.p.Zh1.Zz),.sl false (L Ah a.p.Zh1.Za1),.sl false (L Af a.p.Zi1),.sl false (L Ad a.p.Zj1),.sl false (L Ac a.p.Zk1),i64 a.it.Za,i64 a.it.Ref.Zb,i64 a.it.Ref.No,i64 a.it.Zn1,i64 a.it.Zb1,i64 a.it.Zc,i64 a.it.Zo1,i64 a.it.Zw,i64 a.it.To,i64 a.it.Code,i64 a.it.Zp1,i64 a.it.Zq1,i64 a.it.Zr1,i64 a.it.Zs1,.str a.it.Zt1,.sl false (L Aj a.it.Zu1),.bool a.ok] false] (fun r' σ' => r' = .agg [i64 r.1.Za,i64 r.1.Zb,i64 r.1.Zc]∧σ' = [.box [.sl false (L Ag r.2.p.Zg1.Ze),.sl false (L An r.2.p.Zg1.Zf),.sl false (L Ab r.2.p.Zh1.Zx),.sl false (L Ae r.2.p.Zh1.Zy),.sl false (L Ai r.2.p.Zh1.Zz),.sl false (L Ah r.2.p.Zh1.Za1),.sl false (L Af r.2.p.Zi1),.sl false (L Ad r.2.p.Zj1),.sl false (L Ac r.2.p.Zk1),i64 r.2.it.Za,i64 r.2.it.Ref.Zb,i64 r.2.it.Ref.No,i64 r.2.it.Zn1,i64 r.2.it.Zb1,i64 r.2.it.Zc,i64 r.2.it.Zo1,i64 r.2.it.Zw,i64 r.2.it.To,i64 r.2.it.Code,i64 r.2.it.Zp1,i64 r.2.it.Zq1,i64 r.2.it.Zr1,i64 r.2.it.Zs1,.str r.2.it.Zt1,.sl false (L Aj r.2.it.Zu1),.bool r.2.ok] false]):=by
 refine Co 1 66 [.cell 4 127] Tryd.func100 (fun F hE => ?_) h
 unfold B1
 refine T0 [0,1,4] ?_
 refine Ja (fun ⟨e,f,g⟩ => ⟨Ar 66 [(0,.ref 0 0),(1,i64 c),(4,.ref 1 0)],[.box [.sl false (L Ag a.p.Zg1.Ze),.sl false (L An a.p.Zg1.Zf),.sl false (L Ab a.p.Zh1.Zx),.sl false (L Ae a.p.Zh1.Zy),.sl false (L Ai a.p.Zh1.Zz),.sl false (L Ah a.p.Zh1.Za1),.sl false (L Af a.p.Zi1),.sl false (L Ad a.p.Zj1),.sl false (L Ac a.p.Zk1),i64 a.it.Za,i64 a.it.Ref.Zb,i64 a.it.Ref.No,i64 a.it.Zn1,i64 a.it.Zb1,i64 a.it.Zc,i64 a.it.Zo1,i64 a.it.Zw,i64 a.it.To,i64 a.it.Code,i64 a.it.Zp1,i64 a.it.Zq1,i64 a.it.Zr1,i64 a.it.Zs1,.str a.it.Zt1,.sl false (L Aj a.it.Zu1),.bool a.ok] false,.box [i64 e,i64 f,i64 g] false]⟩) ?_ ?_
 ·intro v
  refine Dw [[],[0],[0,1],[0,1,2],[0,1,2,3],[0,1,2,3,4],[0,1,2,3,4,5],[0,1,2,3,4,5,6],[0,1,2,3,4,5,6,7],[0,1,2,3,4,5,6,7,8],[0,1,2,3,4,5,6,7,8,9],[0,1,2,3,4,5,6,7,8,9,10],[0,1,2,3,4,5,6],[0,1,2,3,4,5,6,12],[0,1,2,3,4,5,6,12,13],[0,1,2,3,4,5,6,12,13,14],[0,1,2,3,4,5,6,12,13,14,15],[0,1,2,3,4,5,6,12,13,14,15,16],[0,1,2,3,4,5,6,12,13,14,15,16,17],[0,1,2,3,4,5,6,7,8,9,10,11,12,13,14,15,16,17,18],[0,1,2,3,4,5,6,7,8,9,10,11,12,13,14,15,16,17,18,19]] [0,1,4,25] (fun k => ⟨Ar 66 [(0,.ref 0 0),(1,i64 c),(4,.ref 1 0),(25,.bool k)],[.box [.sl false (L Ag a.p.Zg1.Ze),.sl false (L An a.p.Zg1.Zf),.sl false (L Ab a.p.Zh1.Zx),.sl false (L Ae a.p.Zh1.Zy),.sl false (L Ai a.p.Zh1.Zz),.sl false (L Ah a.p.Zh1.Za1),.sl false (L Af a.p.Zi1),.sl false (L Ad a.p.Zj1),.sl false (L Ac a.p.Zk1),i64 a.it.Za,i64 a.it.Ref.Zb,i64 a.it.Ref.No,i64 a.it.Zn1,i64 a.it.Zb1,i64 a.it.Zc,i64 a.it.Zo1,i64 a.it.Zw,i64 a.it.To,i64 a.it.Code,i64 a.it.Zp1,i64 a.it.Zq1,i64 a.it.Zr1,i64 a.it.Zs1,.str a.it.Zt1,.sl false (L Aj a.it.Zu1),.bool a.ok] false,.box [i64 0,i64 0,i64 0] false]⟩) ?_ ?_
  ·intro _
   refine Sp (fun i => ?_) fun i => ?_
   ·exact Lf Aa (Ev (by simp only [go_sem,i];exact Al)) (ws [0,1])
   ·exact Lf Aa (Ev (by simp only [go_sem,i];exact Al)) (ws [0,1])
  intro k
  refine Cd ?_ ?_
  ·refine Ck fun m =>Lt fun n o =>Lt fun q s =>Lt fun t u =>Ge (σ':=[_,.box [i64 n,i64 q,i64 t] false]) [[],[0],[0,1],[0,1,2],[0,1,2,3],[0,1,2,3,4],[],[6],[6,7],[6,7,8],[6,7,8,9],[0,1,2,3,4,5,6,7,8,9,10],[0,1,2,3,4,5,6,7,8,9,10,11],[0,1,2,3,4,5,6,7,8,9,10,11,12]] [0,1,4] Aa (Ev (by simp only [go_sem,qR m,o,s,u];exact Al)) ?_
   exact Jm (ws [0,1])
  ·exact Sk <|Jm (ws [0,1])
 rintro ⟨e,f,g⟩
 refine Tw [0,4] (fun l => ⟨Ar 66 [(0,.ref 0 0),(4,.ref 1 0)],[.box [.sl false (L Ag a.p.Zg1.Ze),.sl false (L An a.p.Zg1.Zf),.sl false (L Ab a.p.Zh1.Zx),.sl false (L Ae a.p.Zh1.Zy),.sl false (L Ai a.p.Zh1.Zz),.sl false (L Ah a.p.Zh1.Za1),.sl false (L Af a.p.Zi1),.sl false (L Ad a.p.Zj1),.sl false (L Ac a.p.Zk1),i64 a.it.Za,i64 a.it.Ref.Zb,i64 a.it.Ref.No,i64 a.it.Zn1,i64 a.it.Zb1,i64 a.it.Zc,i64 a.it.Zo1,i64 a.it.Zw,i64 a.it.To,i64 a.it.Code,i64 a.it.Zp1,i64 a.it.Zq1,i64 a.it.Zr1,i64 a.it.Zs1,.str a.it.Zt1,.sl false (L Aj a.it.Zu1),.bool l] false,.box [i64 e,i64 f,i64 g] false]⟩) ?_ ?_
 ·intro _
  refine Sp (fun b => ?_) fun b => ?_
  ·refine Sp (fun d => ?_) fun d => ?_
   ·refine Sp (fun j => ?_) fun j => ?_
    ·exact Lf Aa (Ev (by simp only [go_sem,b,d,j];exact Al)) (ws [0,1])
    ·exact Lf Aa (Ev (by simp only [go_sem,b,d,j];exact Al)) (ws [0,1])
   ·exact Lf Aa (Ev (by simp only [go_sem,b,d];exact Al)) (ws [0,1])
  ·exact Lf Aa (Ev (by simp only [go_sem,b];exact Al)) (ws [0,1])
 intro l
 refine T0 [4] ?_
 refine T0 [4] ?_
 exact Sr <|Ro [0]
theorem G1 {a r} (h : D0 a = some r) : Con B 101 [.ref 0 0] [.box [.sl false (L Ag a.p.Zg1.Ze),.sl false (L An a.p.Zg1.Zf),.sl false (L Ab a.p.Zh1.Zx),.sl false (L Ae a.p.Zh1.Zy),.sl false (L Ai a.p.Zh1.Zz),.sl false (L Ah a.p.Zh1.Za1),.sl false (L Af a.p.Zi1),.sl false (L Ad a.p.Zj1),.sl false (L Ac a.p.Zk1),i64 a.it.Za,i64 a.it.Ref.Zb,i64 a.it.Ref.No,i64 a.it.Zn1,i64 a.it.Zb1,i64 a.it.Zc,i64 a.it.Zo1,i64 a.it.Zw,i64 a.it.To,i64 a.it.Code,i64 a.it.Zp1,i64 a.it.Zq1,i64 a.it.Zr1,i64 a.it.Zs1,.str a.it.Zt1,.sl false (L Aj a.it.Zu1),.bool a.ok] false] (fun r' σ' => r' = .tup []∧σ' = [.box [.sl false (L Ag r.p.Zg1.Ze),.sl false (L An r.p.Zg1.Zf),.sl false (L Ab r.p.Zh1.Zx),.sl false (L Ae r.p.Zh1.Zy),.sl false (L Ai r.p.Zh1.Zz),.sl false (L Ah r.p.Zh1.Za1),.sl false (L Af r.p.Zi1),.sl false (L Ad r.p.Zj1),.sl false (L Ac r.p.Zk1),i64 r.it.Za,i64 r.it.Ref.Zb,i64 r.it.Ref.No,i64 r.it.Zn1,i64 r.it.Zb1,i64 r.it.Zc,i64 r.it.Zo1,i64 r.it.Zw,i64 r.it.To,i64 r.it.Code,i64 r.it.Zp1,i64 r.it.Zq1,i64 r.it.Zr1,i64 r.it.Zs1,.str r.it.Zt1,.sl false (L Aj r.it.Zu1),.bool r.ok] false]):=by
 refine Co 1 16 [] Tryd.func101 (fun F hE => ?_) h
 unfold D0
 refine Bd fun b c =>De [[],[],[1],[1,2],[1,2,3],[],[5],[5,6],[5,6,7],[5,6,7,8],[5,6,7,8,9],[0,1,2,3,4,5,6,7,8,9,10]] [0] (As (l:=[]) (m:=[(13,98,[.ref 0 0,.ref 0 17,i64 (Ty a.it.Zw 0),i64 1073741824],[.box [.sl false (L Ag a.p.Zg1.Ze),.sl false (L An a.p.Zg1.Zf),.sl false (L Ab a.p.Zh1.Zx),.sl false (L Ae a.p.Zh1.Zy),.sl false (L Ai a.p.Zh1.Zz),.sl false (L Ah a.p.Zh1.Za1),.sl false (L Af a.p.Zi1),.sl false (L Ad a.p.Zj1),.sl false (L Ac a.p.Zk1),i64 a.it.Za,i64 a.it.Ref.Zb,i64 a.it.Ref.No,i64 a.it.Zn1,i64 a.it.Zb1,i64 a.it.Zc,i64 a.it.Zo1,i64 a.it.Zw,i64 a.it.To,i64 a.it.Code,i64 a.it.Zp1,i64 a.it.Zq1,i64 a.it.Zr1,i64 a.it.Zs1,.str a.it.Zt1,.sl false (L Aj a.it.Zu1),.bool a.ok] false],_,_)]) trivial ⟨(wc (K8 c) [0]),trivial⟩) Ev ?_
 refine Bd fun e d =>Fe [] (As (l:=[]) (m:=[(15,99,[.ref 0 0],[.box [.sl false (L Ag b.p.Zg1.Ze),.sl false (L An b.p.Zg1.Zf),.sl false (L Ab b.p.Zh1.Zx),.sl false (L Ae b.p.Zh1.Zy),.sl false (L Ai b.p.Zh1.Zz),.sl false (L Ah b.p.Zh1.Za1),.sl false (L Af b.p.Zi1),.sl false (L Ad b.p.Zj1),.sl false (L Ac b.p.Zk1),i64 b.it.Za,i64 b.it.Ref.Zb,i64 b.it.Ref.No,i64 b.it.Zn1,i64 b.it.Zb1,i64 b.it.Zc,i64 b.it.Zo1,i64 b.it.Zw,i64 b.it.To,i64 b.it.Code,i64 b.it.Zp1,i64 b.it.Zq1,i64 b.it.Zr1,i64 b.it.Zs1,.str b.it.Zt1,.sl false (L Aj b.it.Zu1),.bool b.ok] false],_,_)]) trivial ⟨(wc (Ch d) [0]),trivial⟩) Ev ?_
 exact Ro [0]
theorem E7 {a r} (h : Cl a = some r) : Con B 102 [.ref 0 0] [.box [.sl false (L Ag a.p.Zg1.Ze),.sl false (L An a.p.Zg1.Zf),.sl false (L Ab a.p.Zh1.Zx),.sl false (L Ae a.p.Zh1.Zy),.sl false (L Ai a.p.Zh1.Zz),.sl false (L Ah a.p.Zh1.Za1),.sl false (L Af a.p.Zi1),.sl false (L Ad a.p.Zj1),.sl false (L Ac a.p.Zk1),i64 a.it.Za,i64 a.it.Ref.Zb,i64 a.it.Ref.No,i64 a.it.Zn1,i64 a.it.Zb1,i64 a.it.Zc,i64 a.it.Zo1,i64 a.it.Zw,i64 a.it.To,i64 a.it.Code,i64 a.it.Zp1,i64 a.it.Zq1,i64 a.it.Zr1,i64 a.it.Zs1,.str a.it.Zt1,.sl false (L Aj a.it.Zu1),.bool a.ok] false] (fun r' σ' => r' = .tup []∧σ' = [.box [.sl false (L Ag r.p.Zg1.Ze),.sl false (L An r.p.Zg1.Zf),.sl false (L Ab r.p.Zh1.Zx),.sl false (L Ae r.p.Zh1.Zy),.sl false (L Ai r.p.Zh1.Zz),.sl false (L Ah r.p.Zh1.Za1),.sl false (L Af r.p.Zi1),.sl false (L Ad r.p.Zj1),.sl false (L Ac r.p.Zk1),i64 r.it.Za,i64 r.it.Ref.Zb,i64 r.it.Ref.No,i64 r.it.Zn1,i64 r.it.Zb1,i64 r.it.Zc,i64 r.it.Zo1,i64 r.it.Zw,i64 r.it.To,i64 r.it.Code,i64 r.it.Zp1,i64 r.it.Zq1,i64 r.it.Zr1,i64 r.it.Zs1,.str r.it.Zt1,.sl false (L Aj r.it.Zu1),.bool r.ok] false]):=by
 refine Co 1 15 [] Tryd.func102 (fun F hE => ?_) h
 unfold Cl
 refine Bd fun c b =>Ge [[],[],[1],[1,2],[1,2,3],[],[5],[5,6],[5,6,7],[5,6,7,8],[5,6,7,8,9],[5,6,7,8,9,10],[0,1,2,3,4,5,6,7,8,9,10,11]] [] (As (l:=[]) (m:=[(14,98,[.ref 0 0,.ref 0 14,i64 0,i64 (w64 ((a.p.Zj1.length : Int) - 1))],[.box [.sl false (L Ag a.p.Zg1.Ze),.sl false (L An a.p.Zg1.Zf),.sl false (L Ab a.p.Zh1.Zx),.sl false (L Ae a.p.Zh1.Zy),.sl false (L Ai a.p.Zh1.Zz),.sl false (L Ah a.p.Zh1.Za1),.sl false (L Af a.p.Zi1),.sl false (L Ad a.p.Zj1),.sl false (L Ac a.p.Zk1),i64 a.it.Za,i64 a.it.Ref.Zb,i64 a.it.Ref.No,i64 a.it.Zn1,i64 a.it.Zb1,i64 a.it.Zc,i64 a.it.Zo1,i64 a.it.Zw,i64 a.it.To,i64 a.it.Code,i64 a.it.Zp1,i64 a.it.Zq1,i64 a.it.Zr1,i64 a.it.Zs1,.str a.it.Zt1,.sl false (L Aj a.it.Zu1),.bool a.ok] false],_,_)]) trivial ⟨(wc (En b) [0]),trivial⟩) Ev ?_
 exact Ro [0]
theorem I4 {a r} (h : Ec a = some r) : Con B 103 [.ref 0 0] [.box [.sl false (L Ag a.p.Zg1.Ze),.sl false (L An a.p.Zg1.Zf),.sl false (L Ab a.p.Zh1.Zx),.sl false (L Ae a.p.Zh1.Zy),.sl false (L Ai a.p.Zh1.Zz),.sl false (L Ah a.p.Zh1.Za1),.sl false (L Af a.p.Zi1),.sl false (L Ad a.p.Zj1),.sl false (L Ac a.p.Zk1),i64 a.it.Za,i64 a.it.Ref.Zb,i64 a.it.Ref.No,i64 a.it.Zn1,i64 a.it.Zb1,i64 a.it.Zc,i64 a.it.Zo1,i64 a.it.Zw,i64 a.it.To,i64 a.it.Code,i64 a.it.Zp1,i64 a.it.Zq1,i64 a.it.Zr1,i64 a.it.Zs1,.str a.it.Zt1,.sl false (L Aj a.it.Zu1),.bool a.ok] false] (fun r' σ' => r' = .tup []∧σ' = [.box [.sl false (L Ag r.p.Zg1.Ze),.sl false (L An r.p.Zg1.Zf),.sl false (L Ab r.p.Zh1.Zx),.sl false (L Ae r.p.Zh1.Zy),.sl false (L Ai r.p.Zh1.Zz),.sl false (L Ah r.p.Zh1.Za1),.sl false (L Af r.p.Zi1),.sl false (L Ad r.p.Zj1),.sl false (L Ac r.p.Zk1),i64 r.it.Za,i64 r.it.Ref.Zb,i64 r.it.Ref.No,i64 r.it.Zn1,i64 r.it.Zb1,i64 r.it.Zc,i64 r.it.Zo1,i64 r.it.Zw,i64 r.it.To,i64 r.it.Code,i64 r.it.Zp1,i64 r.it.Zq1,i64 r.it.Zr1,i64 r.it.Zs1,.str r.it.Zt1,.sl false (L Aj r.it.Zu1),.bool r.ok] false]):=by
 refine Co 1 8 [] Tryd.func103 (fun F hE => ?_) h
 unfold Ec
 refine Bd fun c b =>Fe [] (As (l:=[]) (m:=[(7,98,[.ref 0 0,.ref 0 20,i64 0,i64 63],[.box [.sl false (L Ag a.p.Zg1.Ze),.sl false (L An a.p.Zg1.Zf),.sl false (L Ab a.p.Zh1.Zx),.sl false (L Ae a.p.Zh1.Zy),.sl false (L Ai a.p.Zh1.Zz),.sl false (L Ah a.p.Zh1.Za1),.sl false (L Af a.p.Zi1),.sl false (L Ad a.p.Zj1),.sl false (L Ac a.p.Zk1),i64 a.it.Za,i64 a.it.Ref.Zb,i64 a.it.Ref.No,i64 a.it.Zn1,i64 a.it.Zb1,i64 a.it.Zc,i64 a.it.Zo1,i64 a.it.Zw,i64 a.it.To,i64 a.it.Code,i64 a.it.Zp1,i64 a.it.Zq1,i64 a.it.Zr1,i64 a.it.Zs1,.str a.it.Zt1,.sl false (L Aj a.it.Zu1),.bool a.ok] false],_,_)]) trivial ⟨(wc (Lc b) [0]),trivial⟩) Ev ?_
 exact Ro [0]
theorem Lz {b r} (h : D4 b = some r) : Con B 92 [.ref 0 0] [.box [.sl false (L Ag b.p.Zg1.Ze),.sl false (L An b.p.Zg1.Zf),.sl false (L Ab b.p.Zh1.Zx),.sl false (L Ae b.p.Zh1.Zy),.sl false (L Ai b.p.Zh1.Zz),.sl false (L Ah b.p.Zh1.Za1),.sl false (L Af b.p.Zi1),.sl false (L Ad b.p.Zj1),.sl false (L Ac b.p.Zk1),i64 b.it.Za,i64 b.it.Ref.Zb,i64 b.it.Ref.No,i64 b.it.Zn1,i64 b.it.Zb1,i64 b.it.Zc,i64 b.it.Zo1,i64 b.it.Zw,i64 b.it.To,i64 b.it.Code,i64 b.it.Zp1,i64 b.it.Zq1,i64 b.it.Zr1,i64 b.it.Zs1,.str b.it.Zt1,.sl false (L Aj b.it.Zu1),.bool b.ok] false] (fun r' σ' => r' = .tup []∧σ' = [.box [.sl false (L Ag r.p.Zg1.Ze),.sl false (L An r.p.Zg1.Zf),.sl false (L Ab r.p.Zh1.Zx),.sl false (L Ae r.p.Zh1.Zy),.sl false (L Ai r.p.Zh1.Zz),.sl false (L Ah r.p.Zh1.Za1),.sl false (L Af r.p.Zi1),.sl false (L Ad r.p.Zj1),.sl false (L Ac r.p.Zk1),i64 r.it.Za,i64 r.it.Ref.Zb,i64 r.it.Ref.No,i64 r.it.Zn1,i64 r.it.Zb1,i64 r.it.Zc,i64 r.it.Zo1,i64 r.it.Zw,i64 r.it.To,i64 r.it.Code,i64 r.it.Zp1,i64 r.it.Zq1,i64 r.it.Zr1,i64 r.it.Zs1,.str r.it.Zt1,.sl false (L Aj r.it.Zu1),.bool r.ok] false]):=by
 refine Co 1 135 [] Tryd.func92 (fun F hE => ?_) h
 unfold D4
 refine T0 [0,2] ?_
 refine Sq <|T0 [0,2,11] ?_
 refine Cd ?_ ?_
 ·refine T0 [] ?_
  exact Sr <|Tr <|Ro [0]
 ·refine Sk <|Tn <|Bd fun a z =>Te [0,2] (As (l:=[]) (m:=[(16,97,[.ref 0 0],[.box [.sl false (L Ag b.p.Zg1.Ze),.sl false (L An b.p.Zg1.Zf),.sl false (L Ab b.p.Zh1.Zx),.sl false (L Ae b.p.Zh1.Zy),.sl false (L Ai b.p.Zh1.Zz),.sl false (L Ah b.p.Zh1.Za1),.sl false (L Af b.p.Zi1),.sl false (L Ad b.p.Zj1),.sl false (L Ac b.p.Zk1),i64 b.it.Za,i64 b.it.Ref.Zb,i64 b.it.Ref.No,i64 b.it.Zn1,i64 b.it.Zb1,i64 b.it.Zc,i64 b.it.Zo1,i64 b.it.Zw,i64 b.it.To,i64 b.it.Code,i64 b.it.Zp1,i64 b.it.Zq1,i64 b.it.Zr1,i64 b.it.Zs1,.str b.it.Zt1,.sl false (L Aj b.it.Zu1),.bool b.ok] false],_,_)]) trivial ⟨(wc (Gm z) [0]),trivial⟩) Ev ?_
  refine T0 [0,2,20] ?_
  refine Sb <|T0 [0,2,20,21] ?_
  refine Cd ?_ ?_
  ·refine Bd fun e aa =>De [[],[],[1],[1,2],[],[4],[4,5],[4,5,6],[4,5,6,7],[4,5,6,7,8],[4,5,6,7,8,9],[0,1,2,3,4,5,6,7,8,9,10]] [0] (As (l:=[]) (m:=[(34,98,[.ref 0 0,.ref 0 14,i64 0,i64 (w64 ((a.p.Zi1.length : Int) - 1))],[.box [.sl false (L Ag a.p.Zg1.Ze),.sl false (L An a.p.Zg1.Zf),.sl false (L Ab a.p.Zh1.Zx),.sl false (L Ae a.p.Zh1.Zy),.sl false (L Ai a.p.Zh1.Zz),.sl false (L Ah a.p.Zh1.Za1),.sl false (L Af a.p.Zi1),.sl false (L Ad a.p.Zj1),.sl false (L Ac a.p.Zk1),i64 a.it.Za,i64 a.it.Ref.Zb,i64 a.it.Ref.No,i64 a.it.Zn1,i64 a.it.Zb1,i64 a.it.Zc,i64 a.it.Zo1,i64 a.it.Zw,i64 a.it.To,i64 a.it.Code,i64 a.it.Zp1,i64 a.it.Zq1,i64 a.it.Zr1,i64 a.it.Zs1,.str a.it.Zt1,.sl false (L Aj a.it.Zu1),.bool a.ok] false],_,_)]) trivial ⟨(wc (En aa) [0]),trivial⟩) Ev ?_
   refine Bd fun au ab =>Fe [] (As (l:=[]) (m:=[(36,99,[.ref 0 0],[.box [.sl false (L Ag e.p.Zg1.Ze),.sl false (L An e.p.Zg1.Zf),.sl false (L Ab e.p.Zh1.Zx),.sl false (L Ae e.p.Zh1.Zy),.sl false (L Ai e.p.Zh1.Zz),.sl false (L Ah e.p.Zh1.Za1),.sl false (L Af e.p.Zi1),.sl false (L Ad e.p.Zj1),.sl false (L Ac e.p.Zk1),i64 e.it.Za,i64 e.it.Ref.Zb,i64 e.it.Ref.No,i64 e.it.Zn1,i64 e.it.Zb1,i64 e.it.Zc,i64 e.it.Zo1,i64 e.it.Zw,i64 e.it.To,i64 e.it.Code,i64 e.it.Zp1,i64 e.it.Zq1,i64 e.it.Zr1,i64 e.it.Zs1,.str e.it.Zt1,.sl false (L Aj e.it.Zu1),.bool e.ok] false],_,_)]) trivial ⟨(wc (Ch ab) [0]),trivial⟩) Ev ?_
   exact Bn <|Ro [0]
  ·refine T0 [0,2,20,37] ?_
   refine Cd ?_ ?_
   ·refine Bd fun f ac =>Te [0] (As (l:=[]) (m:=[(40,100,[.ref 0 0,i64 0],[.box [.sl false (L Ag a.p.Zg1.Ze),.sl false (L An a.p.Zg1.Zf),.sl false (L Ab a.p.Zh1.Zx),.sl false (L Ae a.p.Zh1.Zy),.sl false (L Ai a.p.Zh1.Zz),.sl false (L Ah a.p.Zh1.Za1),.sl false (L Af a.p.Zi1),.sl false (L Ad a.p.Zj1),.sl false (L Ac a.p.Zk1),i64 a.it.Za,i64 a.it.Ref.Zb,i64 a.it.Ref.No,i64 a.it.Zn1,i64 a.it.Zb1,i64 a.it.Zc,i64 a.it.Zo1,i64 a.it.Zw,i64 a.it.To,i64 a.it.Code,i64 a.it.Zp1,i64 a.it.Zq1,i64 a.it.Zr1,i64 a.it.Zs1,.str a.it.Zt1,.sl false (L Aj a.it.Zu1),.bool a.ok] false],_,_)]) trivial ⟨(wc (Cs ac) [0]),trivial⟩) Ev ?_
    refine Bd fun av ad =>Fe [] (As (l:=[]) (m:=[(42,101,[.ref 0 0],[.box [.sl false (L Ag f.2.p.Zg1.Ze),.sl false (L An f.2.p.Zg1.Zf),.sl false (L Ab f.2.p.Zh1.Zx),.sl false (L Ae f.2.p.Zh1.Zy),.sl false (L Ai f.2.p.Zh1.Zz),.sl false (L Ah f.2.p.Zh1.Za1),.sl false (L Af f.2.p.Zi1),.sl false (L Ad f.2.p.Zj1),.sl false (L Ac f.2.p.Zk1),i64 f.2.it.Za,i64 f.2.it.Ref.Zb,i64 f.2.it.Ref.No,i64 f.2.it.Zn1,i64 f.2.it.Zb1,i64 f.2.it.Zc,i64 f.2.it.Zo1,i64 f.2.it.Zw,i64 f.2.it.To,i64 f.2.it.Code,i64 f.2.it.Zp1,i64 f.2.it.Zq1,i64 f.2.it.Zr1,i64 f.2.it.Zs1,.str f.2.it.Zt1,.sl false (L Aj f.2.it.Zu1),.bool f.2.ok] false],_,_)]) trivial ⟨(wc (G1 ad) [0]),trivial⟩) Ev ?_
    exact Bn <|Ro [0]
   ·refine Ja (fun x => ⟨Ar 135 [(0,.ref 0 0),(2,.ref 0 9),(20,i64 a.it.Za),(43,.bool x)],[.box [.sl false (L Ag a.p.Zg1.Ze),.sl false (L An a.p.Zg1.Zf),.sl false (L Ab a.p.Zh1.Zx),.sl false (L Ae a.p.Zh1.Zy),.sl false (L Ai a.p.Zh1.Zz),.sl false (L Ah a.p.Zh1.Za1),.sl false (L Af a.p.Zi1),.sl false (L Ad a.p.Zj1),.sl false (L Ac a.p.Zk1),i64 a.it.Za,i64 a.it.Ref.Zb,i64 a.it.Ref.No,i64 a.it.Zn1,i64 a.it.Zb1,i64 a.it.Zc,i64 a.it.Zo1,i64 a.it.Zw,i64 a.it.To,i64 a.it.Code,i64 a.it.Zp1,i64 a.it.Zq1,i64 a.it.Zr1,i64 a.it.Zs1,.str a.it.Zt1,.sl false (L Aj a.it.Zu1),.bool a.ok] false]⟩) ?_ ?_
    ·intro aw
     refine T0 [0,2,20,43] ?_
     refine Cd ?_ ?_
     ·exact Sk <|Jm (ws [0])
     ·refine F0 [0,2,20,43] ?_
      exact Jm (ws [0])
    intro x
    refine Cd ?_ ?_
    ·refine Bd fun c ae =>Te [0,2,3] (As (l:=[]) (m:=[(47,100,[.ref 0 0,i64 3],[.box [.sl false (L Ag a.p.Zg1.Ze),.sl false (L An a.p.Zg1.Zf),.sl false (L Ab a.p.Zh1.Zx),.sl false (L Ae a.p.Zh1.Zy),.sl false (L Ai a.p.Zh1.Zz),.sl false (L Ah a.p.Zh1.Za1),.sl false (L Af a.p.Zi1),.sl false (L Ad a.p.Zj1),.sl false (L Ac a.p.Zk1),i64 a.it.Za,i64 a.it.Ref.Zb,i64 a.it.Ref.No,i64 a.it.Zn1,i64 a.it.Zb1,i64 a.it.Zc,i64 a.it.Zo1,i64 a.it.Zw,i64 a.it.To,i64 a.it.Code,i64 a.it.Zp1,i64 a.it.Zq1,i64 a.it.Zr1,i64 a.it.Zs1,.str a.it.Zt1,.sl false (L Aj a.it.Zu1),.bool a.ok] false],_,_)]) trivial ⟨(wc (Cs ae) [0]),trivial⟩) Ev ?_
     refine Dw [[],[],[1],[1,2],[1,2,3],[1,2,3,4],[1,2,3,4,5],[1,2,3,4,5,6],[1,2,3,4,5,6,7],[1,2,3,4,5,6,7,8],[1,2,3,4,5],[1,2,3,4,5,10],[1,2,3,4,5,6,7,8,9,10,11],[1,2,3,4,5,6,7,8,9,10,11,12],[1,2,3,4,5,6,7,8,9,10,11,12,13],[1,2,3,4,5,6,7,8,9,10,11,12,13,14],[1,2,3,4,5,6,7,8,9,10,11,12,13,14,15],[1,2,3,4,5,6,7,8,9,10,11,12,13,14,15,16],[1,2,3,4,5,6,7,8,9,10,11,12,13],[1,2,3,4,5,6,7,8,9,10,11,12,13,18],[1,2,3,4,5,6,7,8,9,10,11,12,13,14,15,16,17,18,19],[1,2,3,4,5,6,7,8,9,10,11,12,13,14,15,16,17,18,19,20],[1,2,3,4,5,6,7,8,9,10,11,12,13,14,15,16,17,18,19,20,21],[0,1,2,3,4,5,6,7,8,9,10,11,12,13,14,15,16,17,18,19,20,21,22],[0,1,2,3,4,5,6,7,8,9,10,11,12,13,14,15,16,17,18,19,20,21,22,23],[0,1,2,3,4,5,6,7,8,9,10,11,12,13,14,15,16,17,18,19,20,21,22,23,24]] [0,2] (fun v => ⟨Ar 135 [(0,.ref 0 0),(2,.ref 0 9)],[.box [.sl false (L Ag c.2.p.Zg1.Ze),.sl false (L An c.2.p.Zg1.Zf),.sl false (L Ab c.2.p.Zh1.Zx),.sl false (L Ae c.2.p.Zh1.Zy),.sl false (L Ai c.2.p.Zh1.Zz),.sl false (L Ah c.2.p.Zh1.Za1),.sl false (L Af c.2.p.Zi1),.sl false (L Ad c.2.p.Zj1),.sl false (L Ac c.2.p.Zk1),i64 c.2.it.Za,i64 c.2.it.Ref.Zb,i64 c.2.it.Ref.No,i64 c.2.it.Zn1,i64 c.2.it.Zb1,i64 c.2.it.Zc,i64 c.2.it.Zo1,i64 c.2.it.Zw,i64 c.2.it.To,i64 c.2.it.Code,i64 c.2.it.Zp1,i64 c.2.it.Zq1,i64 c.2.it.Zr1,i64 c.2.it.Zs1,.str c.2.it.Zt1,.sl false (L Aj c.2.it.Zu1),.bool v] false]⟩) ?_ ?_
     ·intro _
      refine Sp (fun u => ?_) fun u => ?_
      ·refine Sp (fun w => ?_) fun w => ?_
       ·exact Lf Aa (Ev (by simp only [go_sem,u,w];exact Al)) (ws [0])
       ·exact Lf Aa (Ev (by simp only [go_sem,u,w];exact Al)) (ws [0])
      ·exact Lf Aa (Ev (by simp only [go_sem,u];exact Al)) (ws [0])
     intro v
     refine T0 [0,2] ?_
     refine Bd fun g af =>Te [0,2] (As (l:=[]) (m:=[(77,99,[.ref 0 0],[.box [.sl false (L Ag c.2.p.Zg1.Ze),.sl false (L An c.2.p.Zg1.Zf),.sl false (L Ab c.2.p.Zh1.Zx),.sl false (L Ae c.2.p.Zh1.Zy),.sl false (L Ai c.2.p.Zh1.Zz),.sl false (L Ah c.2.p.Zh1.Za1),.sl false (L Af c.2.p.Zi1),.sl false (L Ad c.2.p.Zj1),.sl false (L Ac c.2.p.Zk1),i64 c.2.it.Za,i64 c.2.it.Ref.Zb,i64 c.2.it.Ref.No,i64 c.2.it.Zn1,i64 c.2.it.Zb1,i64 0,i64 c.2.it.Zo1,i64 c.2.it.Zw,i64 c.2.it.To,i64 c.2.it.Code,i64 c.2.it.Zp1,i64 c.2.it.Zq1,i64 c.2.it.Zr1,i64 c.2.it.Zs1,.str c.2.it.Zt1,.sl false (L Aj c.2.it.Zu1),.bool v] false],_,_)]) trivial ⟨(wc (Ch af) [0]),trivial⟩) Ev ?_
     refine Bd fun ax ag =>Fe [] (As (l:=[]) (m:=[(82,98,[.ref 0 0,.ref 0 18,i64 0,i64 8],[.box [.sl false (L Ag g.p.Zg1.Ze),.sl false (L An g.p.Zg1.Zf),.sl false (L Ab g.p.Zh1.Zx),.sl false (L Ae g.p.Zh1.Zy),.sl false (L Ai g.p.Zh1.Zz),.sl false (L Ah g.p.Zh1.Za1),.sl false (L Af g.p.Zi1),.sl false (L Ad g.p.Zj1),.sl false (L Ac g.p.Zk1),i64 g.it.Za,i64 g.it.Ref.Zb,i64 g.it.Ref.No,i64 g.it.Zn1,i64 g.it.Zb1,i64 g.it.Zc,i64 g.it.Zo1,i64 g.it.Zw,i64 g.it.To,i64 g.it.Code,i64 g.it.Zp1,i64 g.it.Zq1,i64 g.it.Zr1,i64 g.it.Zs1,.str g.it.Zt1,.sl false (L Aj g.it.Zu1),.bool g.ok] false],_,_)]) trivial ⟨(wc (Dd ag) [0]),trivial⟩) Ev ?_
     exact Bn <|Ro [0]
    ·refine T0 [0,2,20,83] ?_
     refine Cd ?_ ?_
     ·refine Bd fun i ah =>Te [0,2] (As (l:=[]) (m:=[(89,98,[.ref 0 0,.ref 0 15,i64 1,i64 1000000000],[.box [.sl false (L Ag a.p.Zg1.Ze),.sl false (L An a.p.Zg1.Zf),.sl false (L Ab a.p.Zh1.Zx),.sl false (L Ae a.p.Zh1.Zy),.sl false (L Ai a.p.Zh1.Zz),.sl false (L Ah a.p.Zh1.Za1),.sl false (L Af a.p.Zi1),.sl false (L Ad a.p.Zj1),.sl false (L Ac a.p.Zk1),i64 a.it.Za,i64 a.it.Ref.Zb,i64 a.it.Ref.No,i64 a.it.Zn1,i64 a.it.Zb1,i64 a.it.Zc,i64 a.it.Zo1,i64 a.it.Zw,i64 a.it.To,i64 a.it.Code,i64 a.it.Zp1,i64 a.it.Zq1,i64 a.it.Zr1,i64 a.it.Zs1,.str a.it.Zt1,.sl false (L Aj a.it.Zu1),.bool a.ok] false],_,_)]) trivial ⟨(wc (Er ah) [0]),trivial⟩) Ev ?_
      refine Bd fun j ai =>Te [0,2] (As (l:=[]) (m:=[(91,102,[.ref 0 0],[.box [.sl false (L Ag i.p.Zg1.Ze),.sl false (L An i.p.Zg1.Zf),.sl false (L Ab i.p.Zh1.Zx),.sl false (L Ae i.p.Zh1.Zy),.sl false (L Ai i.p.Zh1.Zz),.sl false (L Ah i.p.Zh1.Za1),.sl false (L Af i.p.Zi1),.sl false (L Ad i.p.Zj1),.sl false (L Ac i.p.Zk1),i64 i.it.Za,i64 i.it.Ref.Zb,i64 i.it.Ref.No,i64 i.it.Zn1,i64 i.it.Zb1,i64 i.it.Zc,i64 i.it.Zo1,i64 i.it.Zw,i64 i.it.To,i64 i.it.Code,i64 i.it.Zp1,i64 i.it.Zq1,i64 i.it.Zr1,i64 i.it.Zs1,.str i.it.Zt1,.sl false (L Aj i.it.Zu1),.bool i.ok] false],_,_)]) trivial ⟨(wc (E7 ai) [0]),trivial⟩) Ev ?_
      refine Bd fun d aj =>Te [0,2] (As (l:=[]) (m:=[(93,100,[.ref 0 0,i64 0],[.box [.sl false (L Ag j.p.Zg1.Ze),.sl false (L An j.p.Zg1.Zf),.sl false (L Ab j.p.Zh1.Zx),.sl false (L Ae j.p.Zh1.Zy),.sl false (L Ai j.p.Zh1.Zz),.sl false (L Ah j.p.Zh1.Za1),.sl false (L Af j.p.Zi1),.sl false (L Ad j.p.Zj1),.sl false (L Ac j.p.Zk1),i64 j.it.Za,i64 j.it.Ref.Zb,i64 j.it.Ref.No,i64 j.it.Zn1,i64 j.it.Zb1,i64 j.it.Zc,i64 j.it.Zo1,i64 j.it.Zw,i64 j.it.To,i64 j.it.Code,i64 j.it.Zp1,i64 j.it.Zq1,i64 j.it.Zr1,i64 j.it.Zs1,.str j.it.Zt1,.sl false (L Aj j.it.Zu1),.bool j.ok] false],_,_)]) trivial ⟨(wc (Cs aj) [0]),trivial⟩) Ev ?_
      refine Bd fun k ak =>De [[],[],[1],[1,2],[],[4],[4,5],[4,5,6],[4,5,6,7],[4,5,6,7,8],[4,5,6,7,8,9],[4,5,6,7,8,9,10],[0,1,2,3,4,5,6,7,8,9,10,11]] [0,2] (As (l:=[]) (m:=[(106,98,[.ref 0 0,.ref 0 19,i64 0,i64 (w64 ((d.2.p.Zg1.Ze.length : Int) - 1))],[.box [.sl false (L Ag d.2.p.Zg1.Ze),.sl false (L An d.2.p.Zg1.Zf),.sl false (L Ab d.2.p.Zh1.Zx),.sl false (L Ae d.2.p.Zh1.Zy),.sl false (L Ai d.2.p.Zh1.Zz),.sl false (L Ah d.2.p.Zh1.Za1),.sl false (L Af d.2.p.Zi1),.sl false (L Ad d.2.p.Zj1),.sl false (L Ac d.2.p.Zk1),i64 d.2.it.Za,i64 d.2.it.Ref.Zb,i64 d.2.it.Ref.No,i64 d.2.it.Zn1,i64 d.2.it.Zb1,i64 d.2.it.Zc,i64 d.2.it.Zo1,i64 d.2.it.Zw,i64 d.2.it.To,i64 d.2.it.Code,i64 d.2.it.Zp1,i64 d.2.it.Zq1,i64 d.2.it.Zr1,i64 d.2.it.Zs1,.str d.2.it.Zt1,.sl false (L Aj d.2.it.Zu1),.bool d.2.ok] false],_,_)]) trivial ⟨(wc (Lm ak) [0]),trivial⟩) Ev ?_
      refine Bd fun n al =>Te [0,2] (As (l:=[]) (m:=[(108,103,[.ref 0 0],[.box [.sl false (L Ag k.p.Zg1.Ze),.sl false (L An k.p.Zg1.Zf),.sl false (L Ab k.p.Zh1.Zx),.sl false (L Ae k.p.Zh1.Zy),.sl false (L Ai k.p.Zh1.Zz),.sl false (L Ah k.p.Zh1.Za1),.sl false (L Af k.p.Zi1),.sl false (L Ad k.p.Zj1),.sl false (L Ac k.p.Zk1),i64 k.it.Za,i64 k.it.Ref.Zb,i64 k.it.Ref.No,i64 k.it.Zn1,i64 k.it.Zb1,i64 k.it.Zc,i64 k.it.Zo1,i64 k.it.Zw,i64 k.it.To,i64 k.it.Code,i64 k.it.Zp1,i64 k.it.Zq1,i64 k.it.Zr1,i64 k.it.Zs1,.str k.it.Zt1,.sl false (L Aj k.it.Zu1),.bool k.ok] false],_,_)]) trivial ⟨(wc (I4 al) [0]),trivial⟩) Ev ?_
      refine Bd fun o am =>Te [0] (As (l:=[]) (m:=[(113,98,[.ref 0 0,.ref 0 21,i64 0,i64 1000000],[.box [.sl false (L Ag n.p.Zg1.Ze),.sl false (L An n.p.Zg1.Zf),.sl false (L Ab n.p.Zh1.Zx),.sl false (L Ae n.p.Zh1.Zy),.sl false (L Ai n.p.Zh1.Zz),.sl false (L Ah n.p.Zh1.Za1),.sl false (L Af n.p.Zi1),.sl false (L Ad n.p.Zj1),.sl false (L Ac n.p.Zk1),i64 n.it.Za,i64 n.it.Ref.Zb,i64 n.it.Ref.No,i64 n.it.Zn1,i64 n.it.Zb1,i64 n.it.Zc,i64 n.it.Zo1,i64 n.it.Zw,i64 n.it.To,i64 n.it.Code,i64 n.it.Zp1,i64 n.it.Zq1,i64 n.it.Zr1,i64 n.it.Zs1,.str n.it.Zt1,.sl false (L Aj n.it.Zu1),.bool n.ok] false],_,_)]) trivial ⟨(wc (G6 am) [0]),trivial⟩) Ev ?_
      refine Bd fun ay an =>Fe [] (As (l:=[]) (m:=[(115,99,[.ref 0 0],[.box [.sl false (L Ag o.p.Zg1.Ze),.sl false (L An o.p.Zg1.Zf),.sl false (L Ab o.p.Zh1.Zx),.sl false (L Ae o.p.Zh1.Zy),.sl false (L Ai o.p.Zh1.Zz),.sl false (L Ah o.p.Zh1.Za1),.sl false (L Af o.p.Zi1),.sl false (L Ad o.p.Zj1),.sl false (L Ac o.p.Zk1),i64 o.it.Za,i64 o.it.Ref.Zb,i64 o.it.Ref.No,i64 o.it.Zn1,i64 o.it.Zb1,i64 o.it.Zc,i64 o.it.Zo1,i64 o.it.Zw,i64 o.it.To,i64 o.it.Code,i64 o.it.Zp1,i64 o.it.Zq1,i64 o.it.Zr1,i64 o.it.Zs1,.str o.it.Zt1,.sl false (L Aj o.it.Zu1),.bool o.ok] false],_,_)]) trivial ⟨(wc (Ch an) [0]),trivial⟩) Ev ?_
      exact Bn <|Ro [0]
     ·refine Ja (fun y => ⟨Ar 135 [(0,.ref 0 0),(2,.ref 0 9),(116,.bool y)],[.box [.sl false (L Ag a.p.Zg1.Ze),.sl false (L An a.p.Zg1.Zf),.sl false (L Ab a.p.Zh1.Zx),.sl false (L Ae a.p.Zh1.Zy),.sl false (L Ai a.p.Zh1.Zz),.sl false (L Ah a.p.Zh1.Za1),.sl false (L Af a.p.Zi1),.sl false (L Ad a.p.Zj1),.sl false (L Ac a.p.Zk1),i64 a.it.Za,i64 a.it.Ref.Zb,i64 a.it.Ref.No,i64 a.it.Zn1,i64 a.it.Zb1,i64 a.it.Zc,i64 a.it.Zo1,i64 a.it.Zw,i64 a.it.To,i64 a.it.Code,i64 a.it.Zp1,i64 a.it.Zq1,i64 a.it.Zr1,i64 a.it.Zs1,.str a.it.Zt1,.sl false (L Aj a.it.Zu1),.bool a.ok] false]⟩) ?_ ?_
      ·intro az
       refine T0 [0,2,20,116] ?_
       refine Cd ?_ ?_
       ·exact Sk <|Jm (ws [0])
       ·refine F0 [0,2,116] ?_
        exact Jm (ws [0])
      intro y
      refine Cd ?_ ?_
      ·refine Bd fun q ao =>Te [0,2] (As (l:=[]) (m:=[(120,100,[.ref 0 0,i64 0],[.box [.sl false (L Ag a.p.Zg1.Ze),.sl false (L An a.p.Zg1.Zf),.sl false (L Ab a.p.Zh1.Zx),.sl false (L Ae a.p.Zh1.Zy),.sl false (L Ai a.p.Zh1.Zz),.sl false (L Ah a.p.Zh1.Za1),.sl false (L Af a.p.Zi1),.sl false (L Ad a.p.Zj1),.sl false (L Ac a.p.Zk1),i64 a.it.Za,i64 a.it.Ref.Zb,i64 a.it.Ref.No,i64 a.it.Zn1,i64 a.it.Zb1,i64 a.it.Zc,i64 a.it.Zo1,i64 a.it.Zw,i64 a.it.To,i64 a.it.Code,i64 a.it.Zp1,i64 a.it.Zq1,i64 a.it.Zr1,i64 a.it.Zs1,.str a.it.Zt1,.sl false (L Aj a.it.Zu1),.bool a.ok] false],_,_)]) trivial ⟨(wc (Cs ao) [0]),trivial⟩) Ev ?_
       refine Bd fun s ap =>Te [0,2] (As (l:=[]) (m:=[(122,102,[.ref 0 0],[.box [.sl false (L Ag q.2.p.Zg1.Ze),.sl false (L An q.2.p.Zg1.Zf),.sl false (L Ab q.2.p.Zh1.Zx),.sl false (L Ae q.2.p.Zh1.Zy),.sl false (L Ai q.2.p.Zh1.Zz),.sl false (L Ah q.2.p.Zh1.Za1),.sl false (L Af q.2.p.Zi1),.sl false (L Ad q.2.p.Zj1),.sl false (L Ac q.2.p.Zk1),i64 q.2.it.Za,i64 q.2.it.Ref.Zb,i64 q.2.it.Ref.No,i64 q.2.it.Zn1,i64 q.2.it.Zb1,i64 q.2.it.Zc,i64 q.2.it.Zo1,i64 q.2.it.Zw,i64 q.2.it.To,i64 q.2.it.Code,i64 q.2.it.Zp1,i64 q.2.it.Zq1,i64 q.2.it.Zr1,i64 q.2.it.Zs1,.str q.2.it.Zt1,.sl false (L Aj q.2.it.Zu1),.bool q.2.ok] false],_,_)]) trivial ⟨(wc (E7 ap) [0]),trivial⟩) Ev ?_
       refine Bd fun t aq =>Te [0,2] (As (l:=[]) (m:=[(124,99,[.ref 0 0],[.box [.sl false (L Ag s.p.Zg1.Ze),.sl false (L An s.p.Zg1.Zf),.sl false (L Ab s.p.Zh1.Zx),.sl false (L Ae s.p.Zh1.Zy),.sl false (L Ai s.p.Zh1.Zz),.sl false (L Ah s.p.Zh1.Za1),.sl false (L Af s.p.Zi1),.sl false (L Ad s.p.Zj1),.sl false (L Ac s.p.Zk1),i64 s.it.Za,i64 s.it.Ref.Zb,i64 s.it.Ref.No,i64 s.it.Zn1,i64 s.it.Zb1,i64 s.it.Zc,i64 s.it.Zo1,i64 s.it.Zw,i64 s.it.To,i64 s.it.Code,i64 s.it.Zp1,i64 s.it.Zq1,i64 s.it.Zr1,i64 s.it.Zs1,.str s.it.Zt1,.sl false (L Aj s.it.Zu1),.bool s.ok] false],_,_)]) trivial ⟨(wc (Ch aq) [0]),trivial⟩) Ev ?_
       refine T0 [0,2,129] ?_
       refine Cd ?_ ?_
       ·refine Bd fun aA ar =>Fe [] (As (l:=[]) (m:=[(134,98,[.ref 0 0,.ref 0 18,i64 0,i64 1],[.box [.sl false (L Ag t.p.Zg1.Ze),.sl false (L An t.p.Zg1.Zf),.sl false (L Ab t.p.Zh1.Zx),.sl false (L Ae t.p.Zh1.Zy),.sl false (L Ai t.p.Zh1.Zz),.sl false (L Ah t.p.Zh1.Za1),.sl false (L Af t.p.Zi1),.sl false (L Ad t.p.Zj1),.sl false (L Ac t.p.Zk1),i64 t.it.Za,i64 t.it.Ref.Zb,i64 t.it.Ref.No,i64 t.it.Zn1,i64 t.it.Zb1,i64 t.it.Zc,i64 t.it.Zo1,i64 t.it.Zw,i64 t.it.To,i64 t.it.Code,i64 t.it.Zp1,i64 t.it.Zq1,i64 t.it.Zr1,i64 t.it.Zs1,.str t.it.Zt1,.sl false (L Aj t.it.Zu1),.bool t.ok] false],_,_)]) trivial ⟨(wc (Dd ar) [0]),trivial⟩) Ev ?_
        exact Bn <|Ro [0]
       ·exact Sk <|Bn <|Ro [0]
      ·exact Sk <|Bn <|Ro [0]
theorem Ql {a g r} (h : L7 a g = some r) : Con B 104 [.sl false (L Aj a),.bool g] [] (fun r' σ' => r' = .bool r∧σ' = []):=by
 refine Cw 43 [.tmp 4] Tryd.func104 (fun F hE => ?_) h
 unfold L7
 refine T0 [0,1] ?_
 refine Jo (fun _ => ⟨Ar 43 [(0,.sl false (L Aj a))],[]⟩) ?_ ?_
 ·intro w m
  refine T0 [0,1,7,8,9] ?_
  refine Sb ?_
  refine Lo (fun i => ⟨Ar 43 [(0,.sl false (L Aj a)),(1,.bool g),(7,.sl false (L Aj a)),(8,i64 (a.length : Int)),(9,i64 i)],[]⟩) (ws []) ?_
  rintro i x n j k
  show Hm a g i = some n→_
  unfold Hm
  refine T0 [0,1,7,8,9,10] ?_
  refine Sq <|Cd ?_ ?_
  ·refine Sk <|Tn <|Sq <|Sb <|Ck fun o =>Lt fun p q =>Lt fun s t =>Lt fun u v =>Te (σ':=[.box [i64 p,i64 s,.bool u] false]) [0,1,6,7,8,9] Aa (Ev (by simp only [go_sem,qR o,q,t,v];exact Al)) ?_
   refine Tw [0,1,7,8,9,38] (fun l => ⟨Ar 43 [(0,.sl false (L Aj a)),(1,.bool g),(7,.sl false (L Aj a)),(8,i64 (a.length : Int)),(9,i64 i),(38,.bool l)],[]⟩) ?_ ?_
   ·intro _
    refine Sp (fun b => ?_) fun b => ?_
    ·exact Lf Aa (Ev (by simp only [go_sem,b];exact Al)) (ws [])
    ·refine Sp (fun c => ?_) fun c => ?_
     ·exact Lf Aa (Ev (by simp only [go_sem,b,c];exact Al)) (ws [])
     ·refine Sp (fun d => ?_) fun d => ?_
      ·exact Lf Aa (Ev (by simp only [go_sem,b,c,d];exact Al)) (ws [])
      ·refine Sp (fun e => ?_) fun e => ?_
       ·exact Lf Aa (Ev (by simp only [go_sem,b,c,d,e];exact Al)) (ws [])
       ·refine Sp (fun f => ?_) fun f => ?_
        ·exact Lf Aa (Ev (by simp only [go_sem,b,c,d,e,f];exact Al)) (ws [] (by simp only [go_sem,b,c,d,e,f]) (by simp only [go_sem,b,c,d,e,f]))
        ·exact Lf Aa (Ev (by simp only [go_sem,b,c,d,e,f];exact Al)) (ws [] (by simp only [go_sem,b,c,d,e,f]) (by simp only [go_sem,b,c,d,e,f]))
   intro l
   refine Cd ?_ ?_
   ·refine T0 [4] ?_
    exact Sr <|Br <|Tr <|Lr k j <|Br <|Jr m <|Rr
   ·refine Sk <|Bn <|Tn <|F0 [0,1,7,8,9] ?_
    exact Ln (ws [])
  ·refine Sx <|Tx <|Lx k j <|Bx <|?_
   exact Jn ((ws (l':=[(0,.sl false (L Aj a))]) (σ':=[]) []).trans (ws []))
 intro _
 refine T0 [4] ?_
 exact Sr <|Rr
theorem N0 {a r} (h : Ez a = some r) : Con B 93 [.ref 0 0] [.box [.sl false (L Ag a.p.Zg1.Ze),.sl false (L An a.p.Zg1.Zf),.sl false (L Ab a.p.Zh1.Zx),.sl false (L Ae a.p.Zh1.Zy),.sl false (L Ai a.p.Zh1.Zz),.sl false (L Ah a.p.Zh1.Za1),.sl false (L Af a.p.Zi1),.sl false (L Ad a.p.Zj1),.sl false (L Ac a.p.Zk1),i64 a.it.Za,i64 a.it.Ref.Zb,i64 a.it.Ref.No,i64 a.it.Zn1,i64 a.it.Zb1,i64 a.it.Zc,i64 a.it.Zo1,i64 a.it.Zw,i64 a.it.To,i64 a.it.Code,i64 a.it.Zp1,i64 a.it.Zq1,i64 a.it.Zr1,i64 a.it.Zs1,.str a.it.Zt1,.sl false (L Aj a.it.Zu1),.bool a.ok] false] (fun r' σ' => r' = .tup []∧σ' = [.box [.sl false (L Ag r.p.Zg1.Ze),.sl false (L An r.p.Zg1.Zf),.sl false (L Ab r.p.Zh1.Zx),.sl false (L Ae r.p.Zh1.Zy),.sl false (L Ai r.p.Zh1.Zz),.sl false (L Ah r.p.Zh1.Za1),.sl false (L Af r.p.Zi1),.sl false (L Ad r.p.Zj1),.sl false (L Ac r.p.Zk1),i64 r.it.Za,i64 r.it.Ref.Zb,i64 r.it.Ref.No,i64 r.it.Zn1,i64 r.it.Zb1,i64 r.it.Zc,i64 r.it.Zo1,i64 r.it.Zw,i64 r.it.To,i64 r.it.Code,i64 r.it.Zp1,i64 r.it.Zq1,i64 r.it.Zr1,i64 r.it.Zs1,.str r.it.Zt1,.sl false (L Aj r.it.Zu1),.bool r.ok] false]):=by
 refine Co 1 168 [] Tryd.func93 (fun F hE => ?_) h
 unfold Ez
 refine T0 [0,2] ?_
 refine T0 [0,2,9] ?_
 refine Sb <|T0 [0,2,9,13] ?_
 refine Cd ?_ ?_
 ·refine Bd fun c af =>Te [0,2] (As (l:=[]) (m:=[(16,97,[.ref 0 0],[.box [.sl false (L Ag a.p.Zg1.Ze),.sl false (L An a.p.Zg1.Zf),.sl false (L Ab a.p.Zh1.Zx),.sl false (L Ae a.p.Zh1.Zy),.sl false (L Ai a.p.Zh1.Zz),.sl false (L Ah a.p.Zh1.Za1),.sl false (L Af a.p.Zi1),.sl false (L Ad a.p.Zj1),.sl false (L Ac a.p.Zk1),i64 a.it.Za,i64 a.it.Ref.Zb,i64 a.it.Ref.No,i64 a.it.Zn1,i64 a.it.Zb1,i64 a.it.Zc,i64 a.it.Zo1,i64 a.it.Zw,i64 a.it.To,i64 a.it.Code,i64 a.it.Zp1,i64 a.it.Zq1,i64 a.it.Zr1,i64 a.it.Zs1,.str a.it.Zt1,.sl false (L Aj a.it.Zu1),.bool a.ok] false],_,_)]) trivial ⟨(wc (Gm af) [0]),trivial⟩) Ev ?_
  refine Bd fun d ag =>Te [0,2] (As (l:=[]) (m:=[(18,99,[.ref 0 0],[.box [.sl false (L Ag c.p.Zg1.Ze),.sl false (L An c.p.Zg1.Zf),.sl false (L Ab c.p.Zh1.Zx),.sl false (L Ae c.p.Zh1.Zy),.sl false (L Ai c.p.Zh1.Zz),.sl false (L Ah c.p.Zh1.Za1),.sl false (L Af c.p.Zi1),.sl false (L Ad c.p.Zj1),.sl false (L Ac c.p.Zk1),i64 c.it.Za,i64 c.it.Ref.Zb,i64 c.it.Ref.No,i64 c.it.Zn1,i64 c.it.Zb1,i64 c.it.Zc,i64 c.it.Zo1,i64 c.it.Zw,i64 c.it.To,i64 c.it.Code,i64 c.it.Zp1,i64 c.it.Zq1,i64 c.it.Zr1,i64 c.it.Zs1,.str c.it.Zt1,.sl false (L Aj c.it.Zu1),.bool c.ok] false],_,_)]) trivial ⟨(wc (Ch ag) [0]),trivial⟩) Ev ?_
  refine Bd fun aB ah =>Fe [] (As (l:=[]) (m:=[(23,98,[.ref 0 0,.ref 0 18,i64 1,i64 9],[.box [.sl false (L Ag d.p.Zg1.Ze),.sl false (L An d.p.Zg1.Zf),.sl false (L Ab d.p.Zh1.Zx),.sl false (L Ae d.p.Zh1.Zy),.sl false (L Ai d.p.Zh1.Zz),.sl false (L Ah d.p.Zh1.Za1),.sl false (L Af d.p.Zi1),.sl false (L Ad d.p.Zj1),.sl false (L Ac d.p.Zk1),i64 d.it.Za,i64 d.it.Ref.Zb,i64 d.it.Ref.No,i64 d.it.Zn1,i64 d.it.Zb1,i64 d.it.Zc,i64 d.it.Zo1,i64 d.it.Zw,i64 d.it.To,i64 d.it.Code,i64 d.it.Zp1,i64 d.it.Zq1,i64 d.it.Zr1,i64 d.it.Zs1,.str d.it.Zt1,.sl false (L Aj d.it.Zu1),.bool d.ok] false],_,_)]) trivial ⟨(wc (Dd ah) [0]),trivial⟩) Ev ?_
  exact Bn <|Ro [0]
 ·refine T0 [0,2,9,24] ?_
  refine Cd ?_ ?_
  ·refine Bd fun e ai =>Te [0,2] (As (l:=[]) (m:=[(27,97,[.ref 0 0],[.box [.sl false (L Ag a.p.Zg1.Ze),.sl false (L An a.p.Zg1.Zf),.sl false (L Ab a.p.Zh1.Zx),.sl false (L Ae a.p.Zh1.Zy),.sl false (L Ai a.p.Zh1.Zz),.sl false (L Ah a.p.Zh1.Za1),.sl false (L Af a.p.Zi1),.sl false (L Ad a.p.Zj1),.sl false (L Ac a.p.Zk1),i64 a.it.Za,i64 a.it.Ref.Zb,i64 a.it.Ref.No,i64 a.it.Zn1,i64 a.it.Zb1,i64 a.it.Zc,i64 a.it.Zo1,i64 a.it.Zw,i64 a.it.To,i64 a.it.Code,i64 a.it.Zp1,i64 a.it.Zq1,i64 a.it.Zr1,i64 a.it.Zs1,.str a.it.Zt1,.sl false (L Aj a.it.Zu1),.bool a.ok] false],_,_)]) trivial ⟨(wc (Gm ai) [0]),trivial⟩) Ev ?_
   refine Bd fun f aj =>Te [0,2] (As (l:=[]) (m:=[(29,100,[.ref 0 0,i64 5],[.box [.sl false (L Ag e.p.Zg1.Ze),.sl false (L An e.p.Zg1.Zf),.sl false (L Ab e.p.Zh1.Zx),.sl false (L Ae e.p.Zh1.Zy),.sl false (L Ai e.p.Zh1.Zz),.sl false (L Ah e.p.Zh1.Za1),.sl false (L Af e.p.Zi1),.sl false (L Ad e.p.Zj1),.sl false (L Ac e.p.Zk1),i64 e.it.Za,i64 e.it.Ref.Zb,i64 e.it.Ref.No,i64 e.it.Zn1,i64 e.it.Zb1,i64 e.it.Zc,i64 e.it.Zo1,i64 e.it.Zw,i64 e.it.To,i64 e.it.Code,i64 e.it.Zp1,i64 e.it.Zq1,i64 e.it.Zr1,i64 e.it.Zs1,.str e.it.Zt1,.sl false (L Aj e.it.Zu1),.bool e.ok] false],_,_)]) trivial ⟨(wc (Cs aj) [0]),trivial⟩) Ev ?_
   refine Bd fun g ak =>Te [0,2] (As (l:=[]) (m:=[(31,101,[.ref 0 0],[.box [.sl false (L Ag f.2.p.Zg1.Ze),.sl false (L An f.2.p.Zg1.Zf),.sl false (L Ab f.2.p.Zh1.Zx),.sl false (L Ae f.2.p.Zh1.Zy),.sl false (L Ai f.2.p.Zh1.Zz),.sl false (L Ah f.2.p.Zh1.Za1),.sl false (L Af f.2.p.Zi1),.sl false (L Ad f.2.p.Zj1),.sl false (L Ac f.2.p.Zk1),i64 f.2.it.Za,i64 f.2.it.Ref.Zb,i64 f.2.it.Ref.No,i64 f.2.it.Zn1,i64 f.2.it.Zb1,i64 f.2.it.Zc,i64 f.2.it.Zo1,i64 f.2.it.Zw,i64 f.2.it.To,i64 f.2.it.Code,i64 f.2.it.Zp1,i64 f.2.it.Zq1,i64 f.2.it.Zr1,i64 f.2.it.Zs1,.str f.2.it.Zt1,.sl false (L Aj f.2.it.Zu1),.bool f.2.ok] false],_,_)]) trivial ⟨(wc (G1 ak) [0]),trivial⟩) Ev ?_
   refine Bd fun i al =>Te [0,2] (As (l:=[]) (m:=[(36,98,[.ref 0 0,.ref 0 18,i64 1,i64 2],[.box [.sl false (L Ag g.p.Zg1.Ze),.sl false (L An g.p.Zg1.Zf),.sl false (L Ab g.p.Zh1.Zx),.sl false (L Ae g.p.Zh1.Zy),.sl false (L Ai g.p.Zh1.Zz),.sl false (L Ah g.p.Zh1.Za1),.sl false (L Af g.p.Zi1),.sl false (L Ad g.p.Zj1),.sl false (L Ac g.p.Zk1),i64 g.it.Za,i64 g.it.Ref.Zb,i64 g.it.Ref.No,i64 g.it.Zn1,i64 g.it.Zb1,i64 g.it.Zc,i64 g.it.Zo1,i64 g.it.Zw,i64 g.it.To,i64 g.it.Code,i64 g.it.Zp1,i64 g.it.Zq1,i64 g.it.Zr1,i64 g.it.Zs1,.str g.it.Zt1,.sl false (L Aj g.it.Zu1),.bool g.ok] false],_,_)]) trivial ⟨(wc (Dd al) [0]),trivial⟩) Ev ?_
   refine Bd fun t am =>Te [0,2] (As (l:=[]) (m:=[(41,98,[.ref 0 0,.ref 0 22,i64 0,i64 1000000000],[.box [.sl false (L Ag i.p.Zg1.Ze),.sl false (L An i.p.Zg1.Zf),.sl false (L Ab i.p.Zh1.Zx),.sl false (L Ae i.p.Zh1.Zy),.sl false (L Ai i.p.Zh1.Zz),.sl false (L Ah i.p.Zh1.Za1),.sl false (L Af i.p.Zi1),.sl false (L Ad i.p.Zj1),.sl false (L Ac i.p.Zk1),i64 i.it.Za,i64 i.it.Ref.Zb,i64 i.it.Ref.No,i64 i.it.Zn1,i64 i.it.Zb1,i64 i.it.Zc,i64 i.it.Zo1,i64 i.it.Zw,i64 i.it.To,i64 i.it.Code,i64 i.it.Zp1,i64 i.it.Zq1,i64 i.it.Zr1,i64 i.it.Zs1,.str i.it.Zt1,.sl false (L Aj i.it.Zu1),.bool i.ok] false],_,_)]) trivial ⟨(wc (G4 am) [0]),trivial⟩) Ev ?_
   refine Tw [2] (fun ab => ⟨Ar 168 [(2,.ref 0 9)],[.box [.sl false (L Ag t.p.Zg1.Ze),.sl false (L An t.p.Zg1.Zf),.sl false (L Ab t.p.Zh1.Zx),.sl false (L Ae t.p.Zh1.Zy),.sl false (L Ai t.p.Zh1.Zz),.sl false (L Ah t.p.Zh1.Za1),.sl false (L Af t.p.Zi1),.sl false (L Ad t.p.Zj1),.sl false (L Ac t.p.Zk1),i64 t.it.Za,i64 t.it.Ref.Zb,i64 t.it.Ref.No,i64 t.it.Zn1,i64 t.it.Zb1,i64 t.it.Zc,i64 t.it.Zo1,i64 t.it.Zw,i64 t.it.To,i64 t.it.Code,i64 t.it.Zp1,i64 t.it.Zq1,i64 t.it.Zr1,i64 t.it.Zs1,.str t.it.Zt1,.sl false (L Aj t.it.Zu1),.bool ab] false]⟩) ?_ ?_
   ·intro _
    refine Sp (fun y => ?_) fun y => ?_
    ·refine Bd fun aC an => ?_
     exact Lf (o1 52 (Ql an)) (Ev (by simp only [go_sem,y];exact Al)) (ws [0])
    ·exact Lf Aa (Ev (by simp only [go_sem,y];exact Al)) (ws [0])
   intro ab
   refine F0 [] ?_
   exact Bn <|Ro [0]
  ·refine T0 [0,2,9,59] ?_
   refine Cd ?_ ?_
   ·refine Bd fun u ao =>Te [0,2] (As (l:=[]) (m:=[(65,98,[.ref 0 0,.ref 0 14,i64 0,i64 63],[.box [.sl false (L Ag a.p.Zg1.Ze),.sl false (L An a.p.Zg1.Zf),.sl false (L Ab a.p.Zh1.Zx),.sl false (L Ae a.p.Zh1.Zy),.sl false (L Ai a.p.Zh1.Zz),.sl false (L Ah a.p.Zh1.Za1),.sl false (L Af a.p.Zi1),.sl false (L Ad a.p.Zj1),.sl false (L Ac a.p.Zk1),i64 a.it.Za,i64 a.it.Ref.Zb,i64 a.it.Ref.No,i64 a.it.Zn1,i64 a.it.Zb1,i64 a.it.Zc,i64 a.it.Zo1,i64 a.it.Zw,i64 a.it.To,i64 a.it.Code,i64 a.it.Zp1,i64 a.it.Zq1,i64 a.it.Zr1,i64 a.it.Zs1,.str a.it.Zt1,.sl false (L Aj a.it.Zu1),.bool a.ok] false],_,_)]) trivial ⟨(wc (En ao) [0]),trivial⟩) Ev ?_
    refine Tw [2] (fun ac => ⟨Ar 168 [(2,.ref 0 9)],[.box [.sl false (L Ag u.p.Zg1.Ze),.sl false (L An u.p.Zg1.Zf),.sl false (L Ab u.p.Zh1.Zx),.sl false (L Ae u.p.Zh1.Zy),.sl false (L Ai u.p.Zh1.Zz),.sl false (L Ah u.p.Zh1.Za1),.sl false (L Af u.p.Zi1),.sl false (L Ad u.p.Zj1),.sl false (L Ac u.p.Zk1),i64 u.it.Za,i64 u.it.Ref.Zb,i64 u.it.Ref.No,i64 u.it.Zn1,i64 u.it.Zb1,i64 u.it.Zc,i64 u.it.Zo1,i64 u.it.Zw,i64 u.it.To,i64 u.it.Code,i64 u.it.Zp1,i64 u.it.Zq1,i64 u.it.Zr1,i64 u.it.Zs1,.str u.it.Zt1,.sl false (L Aj u.it.Zu1),.bool ac] false]⟩) ?_ ?_
    ·intro _
     refine Sp (fun w => ?_) fun w => ?_
     ·refine Sp (fun z => ?_) fun z => ?_
      ·refine Bd fun aD ap => ?_
       exact Lf (o1 84 (Ql ap)) (Ev (by simp only [go_sem,w,z];exact Al)) (ws [0])
      ·exact Lf Aa (Ev (by simp only [go_sem,w,z];exact Al)) (ws [0])
     ·exact Lf Aa (Ev (by simp only [go_sem,w];exact Al)) (ws [0])
    intro ac
    refine F0 [] ?_
    exact Bn <|Ro [0]
   ·refine Ja (fun ad => ⟨Ar 168 [(0,.ref 0 0),(2,.ref 0 9),(9,i64 a.it.Za),(91,.bool ad)],[.box [.sl false (L Ag a.p.Zg1.Ze),.sl false (L An a.p.Zg1.Zf),.sl false (L Ab a.p.Zh1.Zx),.sl false (L Ae a.p.Zh1.Zy),.sl false (L Ai a.p.Zh1.Zz),.sl false (L Ah a.p.Zh1.Za1),.sl false (L Af a.p.Zi1),.sl false (L Ad a.p.Zj1),.sl false (L Ac a.p.Zk1),i64 a.it.Za,i64 a.it.Ref.Zb,i64 a.it.Ref.No,i64 a.it.Zn1,i64 a.it.Zb1,i64 a.it.Zc,i64 a.it.Zo1,i64 a.it.Zw,i64 a.it.To,i64 a.it.Code,i64 a.it.Zp1,i64 a.it.Zq1,i64 a.it.Zr1,i64 a.it.Zs1,.str a.it.Zt1,.sl false (L Aj a.it.Zu1),.bool a.ok] false]⟩) ?_ ?_
    ·intro aE
     refine T0 [0,2,9,91] ?_
     refine Cd ?_ ?_
     ·exact Sk <|Jm (ws [0])
     ·refine T0 [0,2,9,91] ?_
      refine Cd ?_ ?_
      ·exact Sk <|Jm (ws [0])
      ·refine F0 [0,2,9,91] ?_
       exact Jm (ws [0])
    intro ad
    refine Cd ?_ ?_
    ·refine Bd fun j aq =>Te [0,2] (As (l:=[]) (m:=[(99,98,[.ref 0 0,.ref 0 15,i64 1,i64 6],[.box [.sl false (L Ag a.p.Zg1.Ze),.sl false (L An a.p.Zg1.Zf),.sl false (L Ab a.p.Zh1.Zx),.sl false (L Ae a.p.Zh1.Zy),.sl false (L Ai a.p.Zh1.Zz),.sl false (L Ah a.p.Zh1.Za1),.sl false (L Af a.p.Zi1),.sl false (L Ad a.p.Zj1),.sl false (L Ac a.p.Zk1),i64 a.it.Za,i64 a.it.Ref.Zb,i64 a.it.Ref.No,i64 a.it.Zn1,i64 a.it.Zb1,i64 a.it.Zc,i64 a.it.Zo1,i64 a.it.Zw,i64 a.it.To,i64 a.it.Code,i64 a.it.Zp1,i64 a.it.Zq1,i64 a.it.Zr1,i64 a.it.Zs1,.str a.it.Zt1,.sl false (L Aj a.it.Zu1),.bool a.ok] false],_,_)]) trivial ⟨(wc (Er aq) [0]),trivial⟩) Ev ?_
     refine Bd fun v ar =>Te [0,2] (As (l:=[]) (m:=[(101,99,[.ref 0 0],[.box [.sl false (L Ag j.p.Zg1.Ze),.sl false (L An j.p.Zg1.Zf),.sl false (L Ab j.p.Zh1.Zx),.sl false (L Ae j.p.Zh1.Zy),.sl false (L Ai j.p.Zh1.Zz),.sl false (L Ah j.p.Zh1.Za1),.sl false (L Af j.p.Zi1),.sl false (L Ad j.p.Zj1),.sl false (L Ac j.p.Zk1),i64 j.it.Za,i64 j.it.Ref.Zb,i64 j.it.Ref.No,i64 j.it.Zn1,i64 j.it.Zb1,i64 j.it.Zc,i64 j.it.Zo1,i64 j.it.Zw,i64 j.it.To,i64 j.it.Code,i64 j.it.Zp1,i64 j.it.Zq1,i64 j.it.Zr1,i64 j.it.Zs1,.str j.it.Zt1,.sl false (L Aj j.it.Zu1),.bool j.ok] false],_,_)]) trivial ⟨(wc (Ch ar) [0]),trivial⟩) Ev ?_
     refine T0 [0,2,106] ?_
     refine Cd ?_ ?_
     ·refine Tw [2] (fun ae => ⟨Ar 168 [(2,.ref 0 9)],[.box [.sl false (L Ag v.p.Zg1.Ze),.sl false (L An v.p.Zg1.Zf),.sl false (L Ab v.p.Zh1.Zx),.sl false (L Ae v.p.Zh1.Zy),.sl false (L Ai v.p.Zh1.Zz),.sl false (L Ah v.p.Zh1.Za1),.sl false (L Af v.p.Zi1),.sl false (L Ad v.p.Zj1),.sl false (L Ac v.p.Zk1),i64 v.it.Za,i64 v.it.Ref.Zb,i64 v.it.Ref.No,i64 v.it.Zn1,i64 v.it.Zb1,i64 v.it.Zc,i64 v.it.Zo1,i64 v.it.Zw,i64 v.it.To,i64 v.it.Code,i64 v.it.Zp1,i64 v.it.Zq1,i64 v.it.Zr1,i64 v.it.Zs1,.str v.it.Zt1,.sl false (L Aj v.it.Zu1),.bool ae] false]⟩) ?_ ?_
      ·intro _
       refine Sp (fun x => ?_) fun x => ?_
       ·refine Sp (fun aa => ?_) fun aa => ?_
        ·exact Lf Aa (Ev (by simp only [go_sem,x,aa];exact Al)) (ws [0])
        ·exact Lf Aa (Ev (by simp only [go_sem,x,aa];exact Al)) (ws [0])
       ·exact Lf Aa (Ev (by simp only [go_sem,x];exact Al)) (ws [0])
      intro ae
      refine F0 [] ?_
      exact Bn <|Ro [0]
     ·exact Sk <|Bn <|Ro [0]
    ·refine T0 [0,2,9,133] ?_
     refine Cd ?_ ?_
     ·exact Sk <|Bn <|Ro [0]
     ·refine T0 [0,2,135] ?_
      refine Cd ?_ ?_
      ·refine Bd fun k au =>Te [0,2] (As (l:=[]) (m:=[(138,102,[.ref 0 0],[.box [.sl false (L Ag a.p.Zg1.Ze),.sl false (L An a.p.Zg1.Zf),.sl false (L Ab a.p.Zh1.Zx),.sl false (L Ae a.p.Zh1.Zy),.sl false (L Ai a.p.Zh1.Zz),.sl false (L Ah a.p.Zh1.Za1),.sl false (L Af a.p.Zi1),.sl false (L Ad a.p.Zj1),.sl false (L Ac a.p.Zk1),i64 a.it.Za,i64 a.it.Ref.Zb,i64 a.it.Ref.No,i64 a.it.Zn1,i64 a.it.Zb1,i64 a.it.Zc,i64 a.it.Zo1,i64 a.it.Zw,i64 a.it.To,i64 a.it.Code,i64 a.it.Zp1,i64 a.it.Zq1,i64 a.it.Zr1,i64 a.it.Zs1,.str a.it.Zt1,.sl false (L Aj a.it.Zu1),.bool a.ok] false],_,_)]) trivial ⟨(wc (E7 au) [0]),trivial⟩) Ev ?_
       refine Bd fun n av =>Te [0,2] (As (l:=[]) (m:=[(140,100,[.ref 0 0,i64 0],[.box [.sl false (L Ag k.p.Zg1.Ze),.sl false (L An k.p.Zg1.Zf),.sl false (L Ab k.p.Zh1.Zx),.sl false (L Ae k.p.Zh1.Zy),.sl false (L Ai k.p.Zh1.Zz),.sl false (L Ah k.p.Zh1.Za1),.sl false (L Af k.p.Zi1),.sl false (L Ad k.p.Zj1),.sl false (L Ac k.p.Zk1),i64 k.it.Za,i64 k.it.Ref.Zb,i64 k.it.Ref.No,i64 k.it.Zn1,i64 k.it.Zb1,i64 k.it.Zc,i64 k.it.Zo1,i64 k.it.Zw,i64 k.it.To,i64 k.it.Code,i64 k.it.Zp1,i64 k.it.Zq1,i64 k.it.Zr1,i64 k.it.Zs1,.str k.it.Zt1,.sl false (L Aj k.it.Zu1),.bool k.ok] false],_,_)]) trivial ⟨(wc (Cs av) [0]),trivial⟩) Ev ?_
       refine Bd fun b aw =>Te [0,2] (As (l:=[]) (m:=[(142,103,[.ref 0 0],[.box [.sl false (L Ag n.2.p.Zg1.Ze),.sl false (L An n.2.p.Zg1.Zf),.sl false (L Ab n.2.p.Zh1.Zx),.sl false (L Ae n.2.p.Zh1.Zy),.sl false (L Ai n.2.p.Zh1.Zz),.sl false (L Ah n.2.p.Zh1.Za1),.sl false (L Af n.2.p.Zi1),.sl false (L Ad n.2.p.Zj1),.sl false (L Ac n.2.p.Zk1),i64 n.2.it.Za,i64 n.2.it.Ref.Zb,i64 n.2.it.Ref.No,i64 n.2.it.Zn1,i64 n.2.it.Zb1,i64 n.2.it.Zc,i64 n.2.it.Zo1,i64 n.2.it.Zw,i64 n.2.it.To,i64 n.2.it.Code,i64 n.2.it.Zp1,i64 n.2.it.Zq1,i64 n.2.it.Zr1,i64 n.2.it.Zs1,.str n.2.it.Zt1,.sl false (L Aj n.2.it.Zu1),.bool n.2.ok] false],_,_)]) trivial ⟨(wc (I4 aw) [0]),trivial⟩) Ev ?_
       refine Bd fun o ax =>De [[],[],[1],[1,2],[],[4],[4,5],[4,5,6],[4,5,6,7],[4,5,6,7,8],[4,5,6,7,8,9],[4,5,6,7,8,9,10],[0,1,2,3,4,5,6,7,8,9,10,11]] [0,2] (As (l:=[]) (m:=[(155,98,[.ref 0 0,.ref 0 15,i64 0,i64 (w64 ((b.p.Zh1.Zx.length : Int) - 1))],[.box [.sl false (L Ag b.p.Zg1.Ze),.sl false (L An b.p.Zg1.Zf),.sl false (L Ab b.p.Zh1.Zx),.sl false (L Ae b.p.Zh1.Zy),.sl false (L Ai b.p.Zh1.Zz),.sl false (L Ah b.p.Zh1.Za1),.sl false (L Af b.p.Zi1),.sl false (L Ad b.p.Zj1),.sl false (L Ac b.p.Zk1),i64 b.it.Za,i64 b.it.Ref.Zb,i64 b.it.Ref.No,i64 b.it.Zn1,i64 b.it.Zb1,i64 b.it.Zc,i64 b.it.Zo1,i64 b.it.Zw,i64 b.it.To,i64 b.it.Code,i64 b.it.Zp1,i64 b.it.Zq1,i64 b.it.Zr1,i64 b.it.Zs1,.str b.it.Zt1,.sl false (L Aj b.it.Zu1),.bool b.ok] false],_,_)]) trivial ⟨(wc (Er ax) [0]),trivial⟩) Ev ?_
       refine Bd fun q ay =>Te [0,2] (As (l:=[]) (m:=[(160,98,[.ref 0 0,.ref 0 21,i64 1,i64 1000],[.box [.sl false (L Ag o.p.Zg1.Ze),.sl false (L An o.p.Zg1.Zf),.sl false (L Ab o.p.Zh1.Zx),.sl false (L Ae o.p.Zh1.Zy),.sl false (L Ai o.p.Zh1.Zz),.sl false (L Ah o.p.Zh1.Za1),.sl false (L Af o.p.Zi1),.sl false (L Ad o.p.Zj1),.sl false (L Ac o.p.Zk1),i64 o.it.Za,i64 o.it.Ref.Zb,i64 o.it.Ref.No,i64 o.it.Zn1,i64 o.it.Zb1,i64 o.it.Zc,i64 o.it.Zo1,i64 o.it.Zw,i64 o.it.To,i64 o.it.Code,i64 o.it.Zp1,i64 o.it.Zq1,i64 o.it.Zr1,i64 o.it.Zs1,.str o.it.Zt1,.sl false (L Aj o.it.Zu1),.bool o.ok] false],_,_)]) trivial ⟨(wc (G6 ay) [0]),trivial⟩) Ev ?_
       refine Bd fun s az =>Te [0,2] (As (l:=[]) (m:=[(162,101,[.ref 0 0],[.box [.sl false (L Ag q.p.Zg1.Ze),.sl false (L An q.p.Zg1.Zf),.sl false (L Ab q.p.Zh1.Zx),.sl false (L Ae q.p.Zh1.Zy),.sl false (L Ai q.p.Zh1.Zz),.sl false (L Ah q.p.Zh1.Za1),.sl false (L Af q.p.Zi1),.sl false (L Ad q.p.Zj1),.sl false (L Ac q.p.Zk1),i64 q.it.Za,i64 q.it.Ref.Zb,i64 q.it.Ref.No,i64 q.it.Zn1,i64 q.it.Zb1,i64 q.it.Zc,i64 q.it.Zo1,i64 q.it.Zw,i64 q.it.To,i64 q.it.Code,i64 q.it.Zp1,i64 q.it.Zq1,i64 q.it.Zr1,i64 q.it.Zs1,.str q.it.Zt1,.sl false (L Aj q.it.Zu1),.bool q.ok] false],_,_)]) trivial ⟨(wc (G1 az) [0]),trivial⟩) Ev ?_
       refine Bd fun aF aA =>Fe [] (As (l:=[]) (m:=[(167,98,[.ref 0 0,.ref 0 22,i64 0,i64 1000000000],[.box [.sl false (L Ag s.p.Zg1.Ze),.sl false (L An s.p.Zg1.Zf),.sl false (L Ab s.p.Zh1.Zx),.sl false (L Ae s.p.Zh1.Zy),.sl false (L Ai s.p.Zh1.Zz),.sl false (L Ah s.p.Zh1.Za1),.sl false (L Af s.p.Zi1),.sl false (L Ad s.p.Zj1),.sl false (L Ac s.p.Zk1),i64 s.it.Za,i64 s.it.Ref.Zb,i64 s.it.Ref.No,i64 s.it.Zn1,i64 s.it.Zb1,i64 s.it.Zc,i64 s.it.Zo1,i64 s.it.Zw,i64 s.it.To,i64 s.it.Code,i64 s.it.Zp1,i64 s.it.Zq1,i64 s.it.Zr1,i64 s.it.Zs1,.str s.it.Zt1,.sl false (L Aj s.it.Zu1),.bool s.ok] false],_,_)]) trivial ⟨(wc (G4 aA) [0]),trivial⟩) Ev ?_
       exact Bn <|Ro [0]
      ·refine F0 [] ?_
       exact Bn <|Ro [0]
theorem X7 {b a r} (h : Md b a = some r) : Con B 80 [.agg (Aw b),.agg (A5 a)] [] (fun r' σ' => r' = .bool r∧σ' = []):=by
 refine Cw 46 [.tmp 4] Tryd.func80 (fun F hE => ?_) h
 unfold Md
 refine T0 [2,3] ?_
 refine T0 [3,5] ?_
 refine Ja (fun ⟨c,d,e,f,g,i,j,k,n,o,p,q,s,t,u,v,w,x,y,z,aa,ab,ac,ad,ae,ah⟩ => ⟨Ar 46 [(5,.ref 0 0)],[.box [.sl false (L Ag c),.sl false (L An d),.sl false (L Ab e),.sl false (L Ae f),.sl false (L Ai g),.sl false (L Ah i),.sl false (L Af j),.sl false (L Ad k),.sl false (L Ac n),i64 o,i64 p,i64 q,i64 s,i64 t,i64 u,i64 v,i64 w,i64 x,i64 y,i64 z,i64 aa,i64 ab,i64 ac,.str ad,.sl false (L Aj ae),.bool ah] false]⟩) ?_ ?_
 ·intro a6
  refine T0 [5,13] ?_
  refine Cd ?_ ?_
  ·refine Bd fun a7 aT =>Fe [5] (As (l:=[]) (m:=[(14,92,[.ref 2 0],[.box (Aw b) false,.box (A5 a) false,.box [.sl false (L Ag b.Zg1.Ze),.sl false (L An b.Zg1.Zf),.sl false (L Ab b.Zh1.Zx),.sl false (L Ae b.Zh1.Zy),.sl false (L Ai b.Zh1.Zz),.sl false (L Ah b.Zh1.Za1),.sl false (L Af b.Zi1),.sl false (L Ad b.Zj1),.sl false (L Ac b.Zk1),i64 a.Za,i64 a.Ref.Zb,i64 a.Ref.No,i64 a.Zn1,i64 a.Zb1,i64 a.Zc,i64 a.Zo1,i64 a.Zw,i64 a.To,i64 a.Code,i64 a.Zp1,i64 a.Zq1,i64 a.Zr1,i64 a.Zs1,.str a.Zt1,.sl false (L Aj a.Zu1),.bool true] false],_,_)]) trivial ⟨(wc (Lz aT) [2]),trivial⟩) Ev ?_
   exact Jm (ws [2])
  ·refine Bd fun a8 aU =>Fe [5] (As (l:=[]) (m:=[(15,93,[.ref 2 0],[.box (Aw b) false,.box (A5 a) false,.box [.sl false (L Ag b.Zg1.Ze),.sl false (L An b.Zg1.Zf),.sl false (L Ab b.Zh1.Zx),.sl false (L Ae b.Zh1.Zy),.sl false (L Ai b.Zh1.Zz),.sl false (L Ah b.Zh1.Za1),.sl false (L Af b.Zi1),.sl false (L Ad b.Zj1),.sl false (L Ac b.Zk1),i64 a.Za,i64 a.Ref.Zb,i64 a.Ref.No,i64 a.Zn1,i64 a.Zb1,i64 a.Zc,i64 a.Zo1,i64 a.Zw,i64 a.To,i64 a.Code,i64 a.Zp1,i64 a.Zq1,i64 a.Zr1,i64 a.Zs1,.str a.Zt1,.sl false (L Aj a.Zu1),.bool true] false],_,_)]) trivial ⟨(wc (N0 aU) [2]),trivial⟩) Ev ?_
   exact Jm (ws [2])
 rintro ⟨c,d,e,f,g,i,j,k,n,o,p,q,s,t,u,v,w,x,y,z,aa,ab,ac,ad,ae,ah⟩
 refine Ja (fun av => ⟨Ar 46 [(5,.ref 0 0)],[.box [.sl false (L Ag c),.sl false (L An d),.sl false (L Ab e),.sl false (L Ae f),.sl false (L Ai g),.sl false (L Ah i),.sl false (L Af j),.sl false (L Ad k),.sl false (L Ac n),i64 o,i64 p,i64 q,i64 s,i64 t,i64 u,i64 v,i64 w,i64 x,i64 y,i64 z,i64 aa,i64 ab,i64 ac,.str ad,.sl false (L Aj ae),.bool av] false]⟩) ?_ ?_
 ·intro a9
  refine Te [5,17,18] (As (l:=[]) (m:=[(17,86,[.ref 0 9],[.box [.sl false (L Ag c),.sl false (L An d),.sl false (L Ab e),.sl false (L Ae f),.sl false (L Ai g),.sl false (L Ah i),.sl false (L Af j),.sl false (L Ad k),.sl false (L Ac n),i64 o,i64 p,i64 q,i64 s,i64 t,i64 u,i64 v,i64 w,i64 x,i64 y,i64 z,i64 aa,i64 ab,i64 ac,.str ad,.sl false (L Aj ae),.bool ah] false],.agg [.ref 0 12,.ref 0 13,.ref 0 14,.ref 0 15,.ref 0 16,.ref 0 17,.ref 0 18,.ref 0 19,.ref 0 20,.ref 0 21,.ref 0 22],[.box [.sl false (L Ag c),.sl false (L An d),.sl false (L Ab e),.sl false (L Ae f),.sl false (L Ai g),.sl false (L Ah i),.sl false (L Af j),.sl false (L Ad k),.sl false (L Ac n),i64 o,i64 p,i64 q,i64 s,i64 t,i64 u,i64 v,i64 w,i64 x,i64 y,i64 z,i64 aa,i64 ab,i64 ac,.str ad,.sl false (L Aj ae),.bool ah] false])]) trivial ⟨Rx,trivial⟩) Ev ?_
  refine Sb ?_
  refine Ul 17 ?_
  refine Ug (m:=16) ?_
  refine T0 [5,17,18,19] ?_
  refine Sq <|Ct <|Sk <|Tn <|Sq <|Sb <|?_
  have aw : InR 0 11:=by decide
  refine Te [5,7,17,18] Aa (Ev (by simp only [go_sem,aw,aw.2];exact Al)) ?_
  refine Fw [5,17,18] (fun ax => ⟨Ar 46 [(5,.ref 0 0),(17,.agg [.ref 0 12,.ref 0 13,.ref 0 14,.ref 0 15,.ref 0 16,.ref 0 17,.ref 0 18,.ref 0 19,.ref 0 20,.ref 0 21,.ref 0 22]),(18,i64 0)],[.box [.sl false (L Ag c),.sl false (L An d),.sl false (L Ab e),.sl false (L Ae f),.sl false (L Ai g),.sl false (L Ah i),.sl false (L Af j),.sl false (L Ad k),.sl false (L Ac n),i64 o,i64 p,i64 q,i64 s,i64 t,i64 u,i64 v,i64 w,i64 x,i64 y,i64 z,i64 aa,i64 ab,i64 ac,.str ad,.sl false (L Aj ae),.bool ax] false]⟩) ?_ ?_
  ·intro _
   refine Sp (fun ai => ?_) fun ai => ?_
   ·exact Lf Aa (Ev (by simp only [go_sem,ai];exact Al)) (ws [0])
   ·exact Lf Aa (Ev (by simp only [go_sem,ai];exact Al)) (ws [0])
  intro ax
  refine Bn <|Tn <|?_
  have aV : w64 1 = 1:=by decide
  refine Fe [5,17,18] Aa (Ev (by simp only [go_sem,aV];exact Al)) ?_
  refine Un ?_
  refine Ug (m:=15) ?_
  refine T0 [5,17,18,19] ?_
  refine Sq <|Ct <|Sk <|Tn <|Sq <|Sb <|?_
  have ay : InR 1 11:=by decide
  refine Te [5,7,17,18] Aa (Ev (by simp only [go_sem,ay,ay.2];exact Al)) ?_
  refine Fw [5,17,18] (fun az => ⟨Ar 46 [(5,.ref 0 0),(17,.agg [.ref 0 12,.ref 0 13,.ref 0 14,.ref 0 15,.ref 0 16,.ref 0 17,.ref 0 18,.ref 0 19,.ref 0 20,.ref 0 21,.ref 0 22]),(18,i64 1)],[.box [.sl false (L Ag c),.sl false (L An d),.sl false (L Ab e),.sl false (L Ae f),.sl false (L Ai g),.sl false (L Ah i),.sl false (L Af j),.sl false (L Ad k),.sl false (L Ac n),i64 o,i64 p,i64 q,i64 s,i64 t,i64 u,i64 v,i64 w,i64 x,i64 y,i64 z,i64 aa,i64 ab,i64 ac,.str ad,.sl false (L Aj ae),.bool az] false]⟩) ?_ ?_
  ·intro _
   refine Sp (fun aj => ?_) fun aj => ?_
   ·exact Lf Aa (Ev (by simp only [go_sem,aj];exact Al)) (ws [0])
   ·exact Lf Aa (Ev (by simp only [go_sem,aj];exact Al)) (ws [0])
  intro az
  refine Bn <|Tn <|?_
  have aW : w64 2 = 2:=by decide
  refine Fe [5,17,18] Aa (Ev (by simp only [go_sem,aW];exact Al)) ?_
  refine Un ?_
  refine Ug (m:=14) ?_
  refine T0 [5,17,18,19] ?_
  refine Sq <|Ct <|Sk <|Tn <|Sq <|Sb <|?_
  have aA : InR 2 11:=by decide
  refine Te [5,7,17,18] Aa (Ev (by simp only [go_sem,aA,aA.2];exact Al)) ?_
  refine Fw [5,17,18] (fun aB => ⟨Ar 46 [(5,.ref 0 0),(17,.agg [.ref 0 12,.ref 0 13,.ref 0 14,.ref 0 15,.ref 0 16,.ref 0 17,.ref 0 18,.ref 0 19,.ref 0 20,.ref 0 21,.ref 0 22]),(18,i64 2)],[.box [.sl false (L Ag c),.sl false (L An d),.sl false (L Ab e),.sl false (L Ae f),.sl false (L Ai g),.sl false (L Ah i),.sl false (L Af j),.sl false (L Ad k),.sl false (L Ac n),i64 o,i64 p,i64 q,i64 s,i64 t,i64 u,i64 v,i64 w,i64 x,i64 y,i64 z,i64 aa,i64 ab,i64 ac,.str ad,.sl false (L Aj ae),.bool aB] false]⟩) ?_ ?_
  ·intro _
   refine Sp (fun ak => ?_) fun ak => ?_
   ·exact Lf Aa (Ev (by simp only [go_sem,ak];exact Al)) (ws [0])
   ·exact Lf Aa (Ev (by simp only [go_sem,ak];exact Al)) (ws [0])
  intro aB
  refine Bn <|Tn <|?_
  have aX : w64 3 = 3:=by decide
  refine Fe [5,17,18] Aa (Ev (by simp only [go_sem,aX];exact Al)) ?_
  refine Un ?_
  refine Ug (m:=13) ?_
  refine T0 [5,17,18,19] ?_
  refine Sq <|Ct <|Sk <|Tn <|Sq <|Sb <|?_
  have aC : InR 3 11:=by decide
  refine Te [5,7,17,18] Aa (Ev (by simp only [go_sem,aC,aC.2];exact Al)) ?_
  refine Fw [5,17,18] (fun aD => ⟨Ar 46 [(5,.ref 0 0),(17,.agg [.ref 0 12,.ref 0 13,.ref 0 14,.ref 0 15,.ref 0 16,.ref 0 17,.ref 0 18,.ref 0 19,.ref 0 20,.ref 0 21,.ref 0 22]),(18,i64 3)],[.box [.sl false (L Ag c),.sl false (L An d),.sl false (L Ab e),.sl false (L Ae f),.sl false (L Ai g),.sl false (L Ah i),.sl false (L Af j),.sl false (L Ad k),.sl false (L Ac n),i64 o,i64 p,i64 q,i64 s,i64 t,i64 u,i64 v,i64 w,i64 x,i64 y,i64 z,i64 aa,i64 ab,i64 ac,.str ad,.sl false (L Aj ae),.bool aD] false]⟩) ?_ ?_
  ·intro _
   refine Sp (fun al => ?_) fun al => ?_
   ·exact Lf Aa (Ev (by simp only [go_sem,al];exact Al)) (ws [0])
   ·exact Lf Aa (Ev (by simp only [go_sem,al];exact Al)) (ws [0])
  intro aD
  refine Bn <|Tn <|?_
  have aY : w64 4 = 4:=by decide
  refine Fe [5,17,18] Aa (Ev (by simp only [go_sem,aY];exact Al)) ?_
  refine Un ?_
  refine Ug (m:=12) ?_
  refine T0 [5,17,18,19] ?_
  refine Sq <|Ct <|Sk <|Tn <|Sq <|Sb <|?_
  have aE : InR 4 11:=by decide
  refine Te [5,7,17,18] Aa (Ev (by simp only [go_sem,aE,aE.2];exact Al)) ?_
  refine Fw [5,17,18] (fun aF => ⟨Ar 46 [(5,.ref 0 0),(17,.agg [.ref 0 12,.ref 0 13,.ref 0 14,.ref 0 15,.ref 0 16,.ref 0 17,.ref 0 18,.ref 0 19,.ref 0 20,.ref 0 21,.ref 0 22]),(18,i64 4)],[.box [.sl false (L Ag c),.sl false (L An d),.sl false (L Ab e),.sl false (L Ae f),.sl false (L Ai g),.sl false (L Ah i),.sl false (L Af j),.sl false (L Ad k),.sl false (L Ac n),i64 o,i64 p,i64 q,i64 s,i64 t,i64 u,i64 v,i64 w,i64 x,i64 y,i64 z,i64 aa,i64 ab,i64 ac,.str ad,.sl false (L Aj ae),.bool aF] false]⟩) ?_ ?_
  ·intro _
   refine Sp (fun am => ?_) fun am => ?_
   ·exact Lf Aa (Ev (by simp only [go_sem,am];exact Al)) (ws [0])
   ·exact Lf Aa (Ev (by simp only [go_sem,am];exact Al)) (ws [0])
  intro aF
  refine Bn <|Tn <|?_
  have aZ : w64 5 = 5:=by decide
  refine Fe [5,17,18] Aa (Ev (by simp only [go_sem,aZ];exact Al)) ?_
  refine Un ?_
  refine Ug (m:=11) ?_
  refine T0 [5,17,18,19] ?_
  refine Sq <|Ct <|Sk <|Tn <|Sq <|Sb <|?_
  have aG : InR 5 11:=by decide
  refine Te [5,7,17,18] Aa (Ev (by simp only [go_sem,aG,aG.2];exact Al)) ?_
  refine Fw [5,17,18] (fun aH => ⟨Ar 46 [(5,.ref 0 0),(17,.agg [.ref 0 12,.ref 0 13,.ref 0 14,.ref 0 15,.ref 0 16,.ref 0 17,.ref 0 18,.ref 0 19,.ref 0 20,.ref 0 21,.ref 0 22]),(18,i64 5)],[.box [.sl false (L Ag c),.sl false (L An d),.sl false (L Ab e),.sl false (L Ae f),.sl false (L Ai g),.sl false (L Ah i),.sl false (L Af j),.sl false (L Ad k),.sl false (L Ac n),i64 o,i64 p,i64 q,i64 s,i64 t,i64 u,i64 v,i64 w,i64 x,i64 y,i64 z,i64 aa,i64 ab,i64 ac,.str ad,.sl false (L Aj ae),.bool aH] false]⟩) ?_ ?_
  ·intro _
   refine Sp (fun an => ?_) fun an => ?_
   ·exact Lf Aa (Ev (by simp only [go_sem,an];exact Al)) (ws [0])
   ·exact Lf Aa (Ev (by simp only [go_sem,an];exact Al)) (ws [0])
  intro aH
  refine Bn <|Tn <|?_
  have a0 : w64 6 = 6:=by decide
  refine Fe [5,17,18] Aa (Ev (by simp only [go_sem,a0];exact Al)) ?_
  refine Un ?_
  refine Ug (m:=10) ?_
  refine T0 [5,17,18,19] ?_
  refine Sq <|Ct <|Sk <|Tn <|Sq <|Sb <|?_
  have aI : InR 6 11:=by decide
  refine Te [5,7,17,18] Aa (Ev (by simp only [go_sem,aI,aI.2];exact Al)) ?_
  refine Fw [5,17,18] (fun aJ => ⟨Ar 46 [(5,.ref 0 0),(17,.agg [.ref 0 12,.ref 0 13,.ref 0 14,.ref 0 15,.ref 0 16,.ref 0 17,.ref 0 18,.ref 0 19,.ref 0 20,.ref 0 21,.ref 0 22]),(18,i64 6)],[.box [.sl false (L Ag c),.sl false (L An d),.sl false (L Ab e),.sl false (L Ae f),.sl false (L Ai g),.sl false (L Ah i),.sl false (L Af j),.sl false (L Ad k),.sl false (L Ac n),i64 o,i64 p,i64 q,i64 s,i64 t,i64 u,i64 v,i64 w,i64 x,i64 y,i64 z,i64 aa,i64 ab,i64 ac,.str ad,.sl false (L Aj ae),.bool aJ] false]⟩) ?_ ?_
  ·intro _
   refine Sp (fun ao => ?_) fun ao => ?_
   ·exact Lf Aa (Ev (by simp only [go_sem,ao];exact Al)) (ws [0])
   ·exact Lf Aa (Ev (by simp only [go_sem,ao];exact Al)) (ws [0])
  intro aJ
  refine Bn <|Tn <|?_
  have a1 : w64 7 = 7:=by decide
  refine Fe [5,17,18] Aa (Ev (by simp only [go_sem,a1];exact Al)) ?_
  refine Un ?_
  refine Ug (m:=9) ?_
  refine T0 [5,17,18,19] ?_
  refine Sq <|Ct <|Sk <|Tn <|Sq <|Sb <|?_
  have aK : InR 7 11:=by decide
  refine Te [5,7,17,18] Aa (Ev (by simp only [go_sem,aK,aK.2];exact Al)) ?_
  refine Fw [5,17,18] (fun aL => ⟨Ar 46 [(5,.ref 0 0),(17,.agg [.ref 0 12,.ref 0 13,.ref 0 14,.ref 0 15,.ref 0 16,.ref 0 17,.ref 0 18,.ref 0 19,.ref 0 20,.ref 0 21,.ref 0 22]),(18,i64 7)],[.box [.sl false (L Ag c),.sl false (L An d),.sl false (L Ab e),.sl false (L Ae f),.sl false (L Ai g),.sl false (L Ah i),.sl false (L Af j),.sl false (L Ad k),.sl false (L Ac n),i64 o,i64 p,i64 q,i64 s,i64 t,i64 u,i64 v,i64 w,i64 x,i64 y,i64 z,i64 aa,i64 ab,i64 ac,.str ad,.sl false (L Aj ae),.bool aL] false]⟩) ?_ ?_
  ·intro _
   refine Sp (fun ap => ?_) fun ap => ?_
   ·exact Lf Aa (Ev (by simp only [go_sem,ap];exact Al)) (ws [0])
   ·exact Lf Aa (Ev (by simp only [go_sem,ap];exact Al)) (ws [0])
  intro aL
  refine Bn <|Tn <|?_
  have a2 : w64 8 = 8:=by decide
  refine Fe [5,17,18] Aa (Ev (by simp only [go_sem,a2];exact Al)) ?_
  refine Un ?_
  refine Ug (m:=8) ?_
  refine T0 [5,17,18,19] ?_
  refine Sq <|Ct <|Sk <|Tn <|Sq <|Sb <|?_
  have aM : InR 8 11:=by decide
  refine Te [5,7,17,18] Aa (Ev (by simp only [go_sem,aM,aM.2];exact Al)) ?_
  refine Fw [5,17,18] (fun aN => ⟨Ar 46 [(5,.ref 0 0),(17,.agg [.ref 0 12,.ref 0 13,.ref 0 14,.ref 0 15,.ref 0 16,.ref 0 17,.ref 0 18,.ref 0 19,.ref 0 20,.ref 0 21,.ref 0 22]),(18,i64 8)],[.box [.sl false (L Ag c),.sl false (L An d),.sl false (L Ab e),.sl false (L Ae f),.sl false (L Ai g),.sl false (L Ah i),.sl false (L Af j),.sl false (L Ad k),.sl false (L Ac n),i64 o,i64 p,i64 q,i64 s,i64 t,i64 u,i64 v,i64 w,i64 x,i64 y,i64 z,i64 aa,i64 ab,i64 ac,.str ad,.sl false (L Aj ae),.bool aN] false]⟩) ?_ ?_
  ·intro _
   refine Sp (fun aq => ?_) fun aq => ?_
   ·exact Lf Aa (Ev (by simp only [go_sem,aq];exact Al)) (ws [0])
   ·exact Lf Aa (Ev (by simp only [go_sem,aq];exact Al)) (ws [0])
  intro aN
  refine Bn <|Tn <|?_
  have a3 : w64 9 = 9:=by decide
  refine Fe [5,17,18] Aa (Ev (by simp only [go_sem,a3];exact Al)) ?_
  refine Un ?_
  refine Ug (m:=7) ?_
  refine T0 [5,17,18,19] ?_
  refine Sq <|Ct <|Sk <|Tn <|Sq <|Sb <|?_
  have aO : InR 9 11:=by decide
  refine Te [5,7,17,18] Aa (Ev (by simp only [go_sem,aO,aO.2];exact Al)) ?_
  refine Fw [5,17,18] (fun aP => ⟨Ar 46 [(5,.ref 0 0),(17,.agg [.ref 0 12,.ref 0 13,.ref 0 14,.ref 0 15,.ref 0 16,.ref 0 17,.ref 0 18,.ref 0 19,.ref 0 20,.ref 0 21,.ref 0 22]),(18,i64 9)],[.box [.sl false (L Ag c),.sl false (L An d),.sl false (L Ab e),.sl false (L Ae f),.sl false (L Ai g),.sl false (L Ah i),.sl false (L Af j),.sl false (L Ad k),.sl false (L Ac n),i64 o,i64 p,i64 q,i64 s,i64 t,i64 u,i64 v,i64 w,i64 x,i64 y,i64 z,i64 aa,i64 ab,i64 ac,.str ad,.sl false (L Aj ae),.bool aP] false]⟩) ?_ ?_
  ·intro _
   refine Sp (fun ar => ?_) fun ar => ?_
   ·exact Lf Aa (Ev (by simp only [go_sem,ar];exact Al)) (ws [0])
   ·exact Lf Aa (Ev (by simp only [go_sem,ar];exact Al)) (ws [0])
  intro aP
  refine Bn <|Tn <|?_
  have a4 : w64 10 = 10:=by decide
  refine Fe [5,17,18] Aa (Ev (by simp only [go_sem,a4];exact Al)) ?_
  refine Un ?_
  refine Ug (m:=6) ?_
  refine T0 [5,17,18,19] ?_
  refine Sq <|Ct <|Sk <|Tn <|Sq <|Sb <|?_
  have aQ : InR 10 11:=by decide
  refine Te [5,7,17,18] Aa (Ev (by simp only [go_sem,aQ,aQ.2];exact Al)) ?_
  refine Fw [5,17,18] (fun aR => ⟨Ar 46 [(5,.ref 0 0),(17,.agg [.ref 0 12,.ref 0 13,.ref 0 14,.ref 0 15,.ref 0 16,.ref 0 17,.ref 0 18,.ref 0 19,.ref 0 20,.ref 0 21,.ref 0 22]),(18,i64 10)],[.box [.sl false (L Ag c),.sl false (L An d),.sl false (L Ab e),.sl false (L Ae f),.sl false (L Ai g),.sl false (L Ah i),.sl false (L Af j),.sl false (L Ad k),.sl false (L Ac n),i64 o,i64 p,i64 q,i64 s,i64 t,i64 u,i64 v,i64 w,i64 x,i64 y,i64 z,i64 aa,i64 ab,i64 ac,.str ad,.sl false (L Aj ae),.bool aR] false]⟩) ?_ ?_
  ·intro _
   refine Sp (fun au => ?_) fun au => ?_
   ·exact Lf Aa (Ev (by simp only [go_sem,au];exact Al)) (ws [0])
   ·exact Lf Aa (Ev (by simp only [go_sem,au];exact Al)) (ws [0])
  intro aR
  refine Bn <|Tn <|?_
  have a5 : w64 11 = 11:=by decide
  refine Fe [5,17,18] Aa (Ev (by simp only [go_sem,a5];exact Al)) ?_
  refine Un ?_
  refine Ug (m:=5) ?_
  refine T0 [5,17,18,19] ?_
  exact Sq <|Cf <|Sx <|Tx <|Ux <|Bx <|Jm (ws [0])
 intro av
 refine Tw [4] (fun aS => ⟨Ar 46 [(4,.bool aS)],[]⟩) ?_ ?_
 ·intro _
  refine Sp (fun af => ?_) fun af => ?_
  ·refine Sp (fun ag => ?_) fun ag => ?_
   ·exact Lf Aa (Ev (by simp only [go_sem,af,ag];exact Al)) (ws [] (by simp only [go_sem,af,ag]) (by simp only [go_sem,af,ag]))
   ·exact Lf Aa (Ev (by simp only [go_sem,af,ag];exact Al)) (ws [] (by simp only [go_sem,af,ag]) (by simp only [go_sem,af,ag]))
  ·exact Lf Aa (Ev (by simp only [go_sem,af];exact Al)) (ws [] (by simp only [go_sem,af]) (by simp only [go_sem,af]))
 intro aS
 exact Sr <|Rr
theorem Aak {b c r} (h : J9 b c = some r) : Con B 62 [.agg (Aw b),.agg (A5 c)] [] (fun r' σ' => r' = i64 r∧σ' = []):=by
 refine Cw 19 [.tmp 4] Tryd.func62 (fun F hE => ?_) h
 unfold J9
 refine T0 [2,3] ?_
 refine Sq <|Bd fun i f =>Te [2,3,4] (o1 6 (He f)) Ev ?_
 refine T0 [2,3,4,8] ?_
 refine Cd ?_ ?_
 ·refine T0 [4] ?_
  exact Sr <|Tr <|Rr
 ·refine Sk <|Tn <|Sq <|?_
  refine Tw [18] (fun d => ⟨Ar 19 [(18,.bool d)],[]⟩) ?_ ?_
  ·intro _
   refine Bd fun j e => ?_
   refine Sp (fun a => ?_) fun a => ?_
   ·exact Lf (o1 11 (Mn e)) (Ev (by simp only [go_sem,a];exact Al)) (ws [])
   ·refine Bd fun k g => ?_
    exact Lf (o2 11 (Mn e) 16 (X7 g)) (Ev (by simp only [go_sem,a];exact Al)) (ws [])
  intro d
  refine Cd ?_ ?_
  ·refine T0 [4] ?_
   exact Sr <|Tr <|Rr
  ·refine Sk <|Tn <|T0 [4] ?_
   exact Sr <|Rr
theorem Nr {c d a r} (h : F9 c d a = some r) : Con B 15 [u64 c,.sl false (L cU8 d),.agg [u64 a.C,u64 a.S]] [] (fun r' σ' => r' = .bool r∧σ' = []):=by
 refine Cw 43 [.tmp 6] Tryd.func15 (fun F hE => ?_) h
 unfold F9
 refine T0 [0,1,5] ?_
 refine Sq ?_
 refine Tw [0,1,5,25] (fun g => ⟨Ar 43 [(0,u64 c),(1,.sl false (L cU8 d)),(5,.ref 0 0),(25,.bool g)],[.box [u64 a.C,u64 a.S] false]⟩) ?_ ?_
 ·intro _
  refine Sp (fun b => ?_) fun b => ?_
  ·exact Lf Aa (Ev (by simp only [go_sem,b];exact Al)) (ws [0])
  ·refine Sp (fun e => ?_) fun e => ?_
   ·exact Lf Aa (Ev (by simp only [go_sem,b,e];exact Al)) (ws [0])
   ·refine Sp (fun f => ?_) fun f => ?_
    ·exact Lf Aa (Ev (by simp only [go_sem,b,e,f];exact Al)) (ws [0])
    ·refine Bd fun v n => ?_
     exact Lf (o1 23 (Pp n)) (Ev (by simp only [go_sem,b,e,f];exact Al)) (ws [0])
 intro g
 refine Cd ?_ ?_
 ·refine T0 [6] ?_
  exact Sr <|Tr <|Rr
 ·refine Sk <|Tn <|Bd fun o p =>Bd fun i q =>Bd fun j s =>Bd fun k t =>?_
  intro h
  refine Abd hE Tt [[],[],[1],[0,1,2],[],[],[5],[5,6],[0,1,2,3,4,5,6,7],[0,1,2,3,4,5,6,7,8],[0,1,2,3,4,5,6,7,8,9]] (by kernel_rfl) [(),(),(),(),(),(),(),()] [(),(),()] (by kernel_rfl) [(5,0),(27,0),(31,0)] [(26,0)] [5,27,31] [0,1,5,7,27,31] (by kernel_rfl) (fr':=[(0,u64 c),(1,.sl false (L cU8 d)),(5,.ref 0 0),(7,u64 k.1),(27,.ref 0 1),(31,.ref 0 0)]) (σ':=[.box [u64 a.C,u64 a.S] false,.box [u64 k.2] false]) ⟨_,_,(As (l:=[(29,_,_,u64 i),(34,_,_,u64 j)]) (m:=[(26,47,[u64 (2305843009213690799 : UInt64)],[.box [u64 a.C,u64 a.S] false],_,_),(35,70,[u64 i,u64 j,.ref 1 0],[.box [u64 a.C,u64 a.S] false,.box [u64 o] false],_,_)]) ⟨Jf  q,Jf  s,trivial⟩ ⟨(wc (Ka p) []),(wc (Gu t) [1]),trivial⟩),(by repeat' (first | exact trivial | (refine And.intro ?_ ?_) | exact fun _ => rfl | exact fun h => absurd h (by decide))),_,_,(by simp only [go_sem];exact Al),(by exact ⟨rfl,rfl,rfl,trivial⟩),(by simp only [go_sem];exact Al)⟩ ?_
  revert h
  refine Bd fun w u =>De [[],[],[],[0,1,2],[],[4],[0,1,2,3,4,5],[0,1,2,3,4,5,6]] [6] (o1 39 (Kx u)) Ev ?_
  exact Sr <|Rr
theorem W4 {f g r} (h : Hc f g = some r) : Con B 36 [.agg (Aw f),.agg (Ak g)] [] (fun r' σ' => r' = i64 r∧σ' = []):=by
 refine Cw 82 [.tmp 4] Tryd.func36 (fun F hE => ?_) h
 unfold Hc
 refine T0 [2,3] ?_
 refine Sq <|Bd fun p k =>Te [2,3,5] (o1 10 (He k)) Ev ?_
 refine T0 [2,3,5,12] ?_
 refine Cd ?_ ?_
 ·refine T0 [4] ?_
  exact Sr <|Tr <|Rr
 ·refine Sk <|Tn <|Sq <|?_
  refine Tw [2,3,54] (fun j => ⟨Ar 82 [(2,.ref 0 0),(3,.ref 1 0),(54,.bool j)],[.box (Aw f) false,.box (Ak g) false]⟩) ?_ ?_
  ·intro _
   refine Sp (fun a => ?_) fun a => ?_
   ·exact Lf Aa (Ev (by simp only [go_sem,a];exact Al)) (ws [0,1])
   ·refine Sp (fun b => ?_) fun b => ?_
    ·exact Lf Aa (Ev (by simp only [go_sem,a,b];exact Al)) (ws [0,1])
    ·refine Sp (fun c => ?_) fun c => ?_
     ·exact Lf Aa (Ev (by simp only [go_sem,a,b,c];exact Al)) (ws [0,1])
     ·refine Sp (fun d => ?_) fun d => ?_
      ·exact Lf Aa (Ev (by simp only [go_sem,a,b,c,d];exact Al)) (ws [0,1])
      ·refine Sp (fun e => ?_) fun e => ?_
       ·exact Lf Aa (Ev (by simp only [go_sem,a,b,c,d,e];exact Al)) (ws [0,1])
       ·refine Sp (fun i => ?_) fun i => ?_
        ·exact Lf Aa (Ev (by simp only [go_sem,a,b,c,d,e,i];exact Al)) (ws [0,1])
        ·exact Lf Aa (Ev (by simp only [go_sem,a,b,c,d,e,i];exact Al)) (ws [0,1])
  intro j
  refine Cd ?_ ?_
  ·refine T0 [4] ?_
   exact Sr <|Tr <|Rr
  ·refine Sk <|Tn <|Sq <|Bd fun q l =>Te [2,3,6] (o1 58 (Aak l)) Ev ?_
   refine T0 [2,3,6,60] ?_
   refine Cd ?_ ?_
   ·refine T0 [4] ?_
    exact Sr <|Tr <|Rr
   ·refine Sk <|Tn <|Bd fun s m =>Te [2,3,7,8] (o1 64 (My m)) Ev ?_
    refine Sq <|T0 [2,3,7,8,68] ?_
    refine Cd ?_ ?_
    ·refine T0 [4] ?_
     exact Sr <|Tr <|Rr
    ·refine Sk <|Tn <|Sq <|Ck fun n =>Bd fun t o =>De [[],[0],[],[2],[0,1,2,3],[0,1,2,3,4],[0,1,2,3,4,5],[],[],[8],[0,1,2,3,4,5,6,7,8,9],[0,1,2,3,4,5,6,7,8,9,10]] [81] (o1 80 (Nr o)) (Ev (by simp only [go_sem,qR n];exact Al)) ?_
     refine Cd ?_ ?_
     ·refine T0 [4] ?_
      exact Sr <|Tr <|Rr
     ·refine Sk <|Tn <|T0 [4] ?_
      exact Sr <|Rr
theorem Nf {a r} (h : I8 a = some r) : Con B 94 [i64 a] [] (fun r' σ' => r' = .bool r∧σ' = []):=by
 refine Cw 6 [.tmp 2] Tryd.func94 (fun F hE => ?_) h
 unfold I8
 refine T0 [0] ?_
 refine T0 [2] ?_
 exact Sr <|Rr
theorem K0 {a b r} (h : Fk a b = some r) : Con B 81 [i64 a,i64 b] [] (fun r' σ' => r' = i64 r∧σ' = []):=by
 refine Cw 20 [.tmp 4] Tryd.func81 (fun F hE => ?_) h
 unfold Fk
 refine T0 [0,1] ?_
 refine Bd fun e c =>Te [0,1,5] (o1 8 (Nf c)) Ev ?_
 refine Bd fun f d =>Te [0,1,5,6] (o1 10 (Nf d)) Ev ?_
 refine Sq <|T0 [0,1,6,11] ?_
 refine Cd ?_ ?_
 ·refine Sq <|T0 [12] ?_
  refine Cd ?_ ?_
  ·refine T0 [4] ?_
   exact Sr <|Tr <|Tr <|Rr
  ·refine Sk <|Tn <|T0 [4] ?_
   exact Sr <|Tr <|Rr
 ·refine Sk <|Tn <|Sq <|T0 [0,1,13] ?_
  refine Cd ?_ ?_
  ·refine T0 [4] ?_
   exact Sr <|Tr <|Rr
  ·refine Sk <|Tn <|Sq <|T0 [0,1,16] ?_
   refine Cd ?_ ?_
   ·refine T0 [4] ?_
    exact Sr <|Tr <|Rr
   ·refine Sk <|Tn <|Sq <|T0 [19] ?_
    refine Cd ?_ ?_
    ·refine T0 [4] ?_
     exact Sr <|Tr <|Rr
    ·refine Sk <|Tn <|T0 [4] ?_
     exact Sr <|Rr
theorem Px {a : List UInt8} {b : List UInt8} {r : Int} (h : Kk a b = some r) : Con B 95 [.sl false (L cU8 a),.sl false (L cU8 b)] [] (fun r' σ' => r' = i64 r∧σ' = []) :=
 AdU Tryd.func95 (by decide +kernel) rfl (by kernel_rfl) (by kernel_rfl) h
theorem Sc {a b r} (h : H8 a b = some r) : Con B 82 [.sl false (L cU8 a),.sl false (L cU8 b)] [] (fun r' σ' => r' = i64 r∧σ' = []):=by
 refine Cw 8 [.tmp 4] Tryd.func82 (fun F hE => ?_) h
 unfold H8
 refine T0 [0,1] ?_
 refine Bd fun d c =>Te [4] (o1 7 (Px c)) Ev ?_
 exact Sr <|Rr
theorem Lq {f : Api_Value→Api_Value→Option (Int)} {s1_7111 : List Api_Value} {s2_7112 : List Api_Value} {b : Api_Value→Api_Value→Option (Int)} (h63 : ∀ {a0 : Api_Value} {a1 : Api_Value} {r : Int},f a0 a1 = some r→Con B 63 [.agg [i64 a0.Za,i64 a0.N,.sl false (L cU8 a0.B),.sl false (L cApi_Value a0.L)],.agg [i64 a1.Za,i64 a1.N,.sl false (L cU8 a1.B),.sl false (L cApi_Value a1.L)]] [] (fun r' σ' => r' = i64 r∧σ' = [])) {a : Nat} (i : ∀ {a0 : Api_Value} {a1 : Api_Value} {r : Int},b a0 a1 = some r→Con B a [.agg [i64 a0.Za,i64 a0.N,.sl false (L cU8 a0.B),.sl false (L cApi_Value a0.L)],.agg [i64 a1.Za,i64 a1.N,.sl false (L cU8 a1.B),.sl false (L cApi_Value a1.L)]] [] (fun r' σ' => r' = i64 r∧σ' = [])) {r : Int} (h : Dh f s1_7111 s2_7112 b = some r) : Con B 83 [.sl false (L cApi_Value s1_7111),.sl false (L cApi_Value s2_7112),.fn a []] [] (fun r' σ' => r' = i64 r∧σ' = []):=by
 refine T7 (N:=39) (rs:=[.tmp 6]) ok Tryd.func83 rfl (by decide +kernel) rfl rfl (Nat.le_of_ble_eq_true rfl) (fun F => ?_)
 have hE:=ok.env F
 unfold Dh at h
 show Run (B.env F) 0 _ ⟨Ar 39 [(0,.sl false (L cApi_Value s1_7111)),(1,.sl false (L cApi_Value s2_7112)),(2,.fn a [])],[]⟩ _
 refine Ll ?_
 revert h
 refine T0 [0,1,2] ?_
 refine Jo (fun _ => ⟨Ar 39 [(0,.sl false (L cApi_Value s1_7111)),(1,.sl false (L cApi_Value s2_7112))],[]⟩) ?_ ?_
 ·intro ae g
  refine T0 [0,1,2,11,12,13] ?_
  refine Sb ?_
  refine Lo (fun c => ⟨Ar 39 [(0,.sl false (L cApi_Value s1_7111)),(1,.sl false (L cApi_Value s2_7112)),(2,.fn a []),(11,.sl false (L cApi_Value s1_7111)),(12,i64 (s1_7111.length : Int)),(13,i64 c)],[]⟩) (ws []) ?_
  rintro c af j d e
  show B6 s1_7111 s2_7112 b c = some j→_
  unfold B6
  refine T0 [0,1,2,11,12,13,14] ?_
  refine Sq <|Cd ?_ ?_
  ·refine Sk <|Tn <|Sq <|Sb <|Ck fun k =>Lt fun l m =>Lt fun n o =>Lt fun p q =>Lt fun s t =>Te (σ':=[.box [i64 l,i64 n,.sl false (L cU8 p),.sl false (L cApi_Value s)] false]) [0,1,2,7,8,11,12,13] Aa (Ev (by simp only [go_sem,qR k,m,o,q,t];exact Al)) ?_
   refine Sq <|T0 [0,1,2,7,8,11,12,13,21] ?_
   refine Cd ?_ ?_
   ·refine T0 [6] ?_
    exact Sr <|Tr <|Br <|Tr <|Lr e d <|Br <|Jr g <|Rr
   ·refine Sk <|Tn <|Ck fun u =>Lt fun v w =>Lt fun x y =>Lt fun z aa =>Lt fun ab ac =>Te (σ':=[_,.box [i64 v,i64 x,.sl false (L cU8 z),.sl false (L cApi_Value ab)] false]) [0,1,2,8,9,11,12,13] Aa (Ev (by simp only [go_sem,qR u,w,y,aa,ac];exact Al)) ?_
    refine Bd fun ag ad =>Te [0,1,2,10,11,12,13] (o1 29 (i ad)) Ev ?_
    refine T0 [0,1,2,10,11,12,13,31] ?_
    refine Cd ?_ ?_
    ·refine T0 [6] ?_
     exact Sr <|Br <|Tr <|Lr e d <|Br <|Jr g <|Rr
    ·refine Sk <|Bn <|Tn <|F0 [0,1,2,11,12,13] ?_
     exact Ln (ws [])
  ·refine Sx <|Tx <|Lx e d <|Bx <|?_
   exact Jn ((ws (l':=[(0,.sl false (L cApi_Value s1_7111)),(1,.sl false (L cApi_Value s2_7112))]) (σ':=[]) []).trans (ws []))
 intro _
 refine Sq <|T0 [38] ?_
 refine Cd ?_ ?_
 ·refine T0 [6] ?_
  exact Sr <|Tr <|Rr
 ·refine Sk <|Tn <|T0 [6] ?_
  exact Sr <|Rr
theorem P7 {rec_ : Api_Value→Api_Value→Option (Int)} (hrec : ∀ {a : Api_Value} {b : Api_Value} {r : Int},rec_ a b = some r→Con B 63 [.agg [i64 a.Za,i64 a.N,.sl false (L cU8 a.B),.sl false (L cApi_Value a.L)],.agg [i64 b.Za,i64 b.N,.sl false (L cU8 b.B),.sl false (L cApi_Value b.L)]] [] (fun r' σ' => r' = i64 r∧σ' = [])) {a : Api_Value} {b : Api_Value} {r : Int} (h : Gf rec_ a b = some r) : Con B 63 [.agg [i64 a.Za,i64 a.N,.sl false (L cU8 a.B),.sl false (L cApi_Value a.L)],.agg [i64 b.Za,i64 b.N,.sl false (L cU8 b.B),.sl false (L cApi_Value b.L)]] [] (fun r' σ' => r' = i64 r∧σ' = []):=by
 refine T7 (N:=37) (rs:=[.tmp 4]) ok Tryd.func63 rfl (by decide +kernel) rfl rfl (Nat.le_of_ble_eq_true rfl) (fun F => ?_)
 have hE:=ok.env F
 unfold Gf at h
 show Run (B.env F) 0 _ ⟨Ar 37 [(0,.agg [i64 a.Za,i64 a.N,.sl false (L cU8 a.B),.sl false (L cApi_Value a.L)]),(1,.agg [i64 b.Za,i64 b.N,.sl false (L cU8 b.B),.sl false (L cApi_Value b.L)])],[]⟩ _
 refine Ll ?_
 revert h
 refine T0 [2,3] ?_
 refine Sq <|Bd fun g c =>Te [2,3,5] (o1 10 (K0 c)) Ev ?_
 refine T0 [2,3,5,12] ?_
 refine Cd ?_ ?_
 ·refine T0 [4] ?_
  exact Sr <|Tr <|Rr
 ·refine Sk <|Tn <|Sq <|T0 [2,3,15] ?_
  refine Sb <|T0 [2,3,15,16] ?_
  refine Cd ?_ ?_
  ·refine Bd fun i d =>Te [4] (o1 22 (K0 d)) Ev ?_
   exact Sr <|Br <|Tr <|Rr
  ·refine T0 [2,3,15,23] ?_
   refine Cd ?_ ?_
   ·refine Bd fun j e =>Te [4] (o1 29 (Sc e)) Ev ?_
    exact Sr <|Br <|Tr <|Rr
   ·refine T0 [2,3,30] ?_
    refine Cd ?_ ?_
    ·refine Bd fun k f =>Te [4] (o1 36 (Lq (fun h => hrec h) (fun h => hrec h) f)) Ev ?_
     exact Sr <|Br <|Tr <|Rr
    ·refine Sk <|Bn <|Tn <|T0 [4] ?_
     exact Sr <|Rr
theorem Pw (n : Nat) : ∀ {a : Api_Value} {b : Api_Value} {r : Int},F4 n a b = some r→Con B 63 [.agg [i64 a.Za,i64 a.N,.sl false (L cU8 a.B),.sl false (L cApi_Value a.L)],.agg [i64 b.Za,i64 b.N,.sl false (L cU8 b.B),.sl false (L cApi_Value b.L)]] [] (fun r' σ' => r' = i64 r∧σ' = []):=by
  induction n with
  | zero => intro a b r h;cases h
  | succ n ih => intro a b r h;exact P7 ih h
theorem Rg {a : Api_Value} {b : Api_Value} {r : Int} (h : Jw a b = some r) : Con B 63 [.agg [i64 a.Za,i64 a.N,.sl false (L cU8 a.B),.sl false (L cApi_Value a.L)],.agg [i64 b.Za,i64 b.N,.sl false (L cU8 b.B),.sl false (L cApi_Value b.L)]] [] (fun r' σ' => r' = i64 r∧σ' = []):=Pw _ h
theorem Aap {d e r} (h : Lw d e = some r) : Con B 37 [.agg (Ak d),.agg (Ak e)] [] (fun r' σ' => r' = .bool r∧σ' = []):=by
 refine Cw 50 [.tmp 4] Tryd.func37 (fun F hE => ?_) h
 unfold Lw
 refine T0 [2,3] ?_
 refine Tw [2,3,5] (fun i => ⟨Ar 50 [(2,.ref 0 0),(3,.ref 1 0),(5,.bool i)],[.box (Ak d) false,.box (Ak e) false]⟩) ?_ ?_
 ·intro _
  refine Sp (fun a => ?_) fun a => ?_
  ·refine Sp (fun b => ?_) fun b => ?_
   ·refine Sp (fun c => ?_) fun c => ?_
    ·refine Sp (fun f => ?_) fun f => ?_
     ·exact Lf Aa (Ev (by simp only [go_sem,a,b,c,f];exact Al)) (ws [0,1])
     ·exact Lf Aa (Ev (by simp only [go_sem,a,b,c,f];exact Al)) (ws [0,1])
    ·exact Lf Aa (Ev (by simp only [go_sem,a,b,c];exact Al)) (ws [0,1])
   ·exact Lf Aa (Ev (by simp only [go_sem,a,b];exact Al)) (ws [0,1])
  ·exact Lf Aa (Ev (by simp only [go_sem,a];exact Al)) (ws [0,1])
 intro i
 refine Dw [[],[0],[0,1],[0,1,2],[0,1,2,3],[0,1],[0,1,5],[0,1,2,3,4,5,6],[0,1,2,3,4,5,6,7],[0,1,2,3,4,5,6,7,8],[0,1,2,3,4,5,6,7,8,9],[0,1,2,3,4,5,6,7,8,9,10]] [4] (fun j => ⟨Ar 50 [(4,.bool j)],[]⟩) ?_ ?_
 ·intro _
  refine Sp (fun g => ?_) fun g => ?_
  ·refine Bd fun o k =>Bd fun p m =>Bd fun q n =>?_
   exact Lf (Iv (l:=[(43,_,_,_),(46,_,_,_),(47,_,_,_)]) ⟨M0  k,M0  m,Rg  n,trivial⟩) (Ev (by simp only [go_sem,g];exact Al)) (ws [])
  ·exact Lf Aa (Ev (by simp only [go_sem,g];exact Al)) (ws [])
 intro j
 exact Sr <|Rr
theorem Tq {c d r} (h : Jg c d = some r) : Con B 38 [.sl false (L Ak c),.agg (Ak d)] [] (fun r' σ' => r' = i64 r∧σ' = []):=by
 refine Cw 85 [.tmp 4] Tryd.func38 (fun F hE => ?_) h
 unfold Jg
 refine T0 [0,3] ?_
 refine Sq <|T0 [0,3,15] ?_
 refine Cd ?_ ?_
 ·refine T0 [4] ?_
  exact Sr <|Tr <|Rr
 ·refine Sk <|Tn <|T0 [0,3,5] ?_
  refine Jo (fun i => ⟨Ar 85 [(0,.sl false (L Ak c)),(3,.ref 0 0),(5,.ref 1 0)],[.box (Ak d) false,.box (C1 u8 i.l) false]⟩) ?_ ?_
  ·intro t m
   refine T0 [0,3,5,18] ?_
   refine Cd ?_ ?_
   ·refine Ck fun n =>Bd fun o p =>Te [0,3,5,6,7] (o1 26 (Kb p)) (Ev (by simp only [go_sem,qR n];exact Al)) ?_
    refine Sq ?_
    refine Dw [[],[0],[0,1],[0,1,2],[0,1,2,3],[0,1,2],[0,1,2],[0,1,2,6],[0,1,2,6,7],[0,1,2,5,6,7,8],[0,1,2,5,6,7,8,9],[0,1,2,5,6,7,8,9,10],[0,1,2,3,4,5,6,7,8,9,10,11],[0,1,2,3,4,5,6,7,8,9,10,11,12]] [0,3,5,6,42] (fun j => ⟨Ar 85 [(0,.sl false (L Ak c)),(3,.ref 0 0),(5,.ref 1 0),(6,.ref 2 0),(42,.bool j)],[.box (Ak d) false,.box (C1 u8 (Arr.rep 32 (0 : UInt8)).l) false,.box (C1 u8 o.1.l) false]⟩) ?_ ?_
    ·intro _
     refine Sp (fun f => ?_) fun f => ?_
     ·exact Lf Aa (Ev (by simp only [go_sem,f];exact Al)) (ws [0,1,2])
     ·refine Ck fun q => ?_
      exact Lf Aa (Ev (by simp only [go_sem,f,qR q];exact Al)) (ws [0,1,2])
    intro j
    refine Cd ?_ ?_
    ·refine T0 [4] ?_
     exact Sr <|Tr <|Jr m <|Rr
    ·refine Sk <|Tn <|F0 [0,3,5] ?_
     exact Jn (ws [0,1])
   ·exact Sk <|Jn (ws [0,1])
  intro i
  refine Sq <|T0 [0,3,47] ?_
  refine Cd ?_ ?_
  ·refine T0 [4] ?_
   exact Sr <|Tr <|Rr
  ·refine Sk <|Tn <|T0 [0,3,8] ?_
   refine T0 [0,3,8,9] ?_
   refine Sq ?_
   refine Dw [[],[],[0,1],[0,1,2],[0,1,2,3],[0,1,2,3,4],[0,1,2,3],[0,1,2,3,6],[0,1,2,3,4,5,6,7],[0,1,2,3,4,5,6,7,8],[0,1,2,3,4,5,6,7,8,9],[0,1,2,3,4,5,6,7,8,9,10],[0,1,2,3,4,5,6,7,8,9,10,11],[0,1,2,3,4,5,6,7,8,9,10,11,12],[0,1,2,3,4,5,6,7,8,9,10,11,12,13],[0,1,2,3,4,5,6,7,8,9,10,11,12,13,14],[0,1,2,3,4,5,6,7,8,9,10,11,12,13,14,15],[0,1,2,3,4,5,6,7,8,9,10,11,12,13,14],[0,1,2,3,4,5,6,7,8,9,10,11,12,13,14,17],[0,1,2,3,4,5,6,7,8,9,10,11,12,13,14,15,16,17,18],[0,1,2,3,4,5,6,7,8,9,10,11,12,13,14,15,16,17,18,19],[0,1,2,3,4,5,6,7,8,9,10,11,12,13,14,15,16,17,18,19,20],[0,1,2,3,4,5,6,7,8,9,10,11,12,13,14,15,16,17,18,19,20,21],[0,1,2,3,4,5,6,7,8,9,10,11,12,13,14,15,16,17,18,19,20,21],[0,1,2,3,4,5,6,7,8,9,10,11,12,13,14,15,16,17,18,19,20,21,23],[0,1,2,3,4,5,6,7,8,9,10,11,12,13,14,15,16,17,18,19,20,21,23,24],[0,1,2,3,4,5,6,7,8,9,10,11,12,13,14,15,16,17,18,19,20,21,22,23,24,25],[0,1,2,3,4,5,6,7,8,9,10,11,12,13,14,15,16,17,18,19,20,21,22,23,24,25,26],[0,1,2,3,4,5,6,7,8,9,10,11,12,13,14,15,16,17,18,19,20,21,22,23,24,25,26,27],[0,1,2,3,4,5,6,7,8,9,10,11,12,13,14,15,16,17,18,19,20,21,22,23,24,25,26,27,28],[0,1,2,3,4,5,6,7,8,9,10,11,12,13,14,15,16,17,18,19,20,21],[0,1,2,3,4,5,6,7,8,9,10,11,12,13,14,15,16,17,18,19,20,21,22,23,24,25,26,27,28,29,30],[0,1,2,3,4,5,6,7,8,9,10,11,12,13,14,15,16,17,18,19,20,21,22,23,24,25,26,27,28,29,30,31],[0,1,2,3,4,5,6,7,8,9,10,11,12,13,14,15,16,17,18,19,20,21,22,23,24,25,26,27,28,29,30,31,32]] [84] (fun k => ⟨Ar 85 [(84,.bool k)],[]⟩) ?_ ?_
   ·intro _
    refine Sp (fun a => ?_) fun a => ?_
    ·refine Sp (fun b => ?_) fun b => ?_
     ·exact Lf Aa (Ev (by simp only [go_sem,a,b];exact Al)) (ws [])
     ·refine Sp (fun e => ?_) fun e => ?_
      ·exact Lf Aa (Ev (by simp only [go_sem,a,b,e];exact Al)) (ws [])
      ·refine Sp (fun g => ?_) fun g => ?_
       ·exact Lf Aa (Ev (by simp only [go_sem,a,b,e,g];exact Al)) (ws [])
       ·refine Ck fun s => ?_
        exact Lf Aa (Ev (by simp only [go_sem,a,b,e,g,qR s];exact Al)) (ws [])
    ·exact Lf Aa (Ev (by simp only [go_sem,a];exact Al)) (ws [])
   intro k
   refine Cd ?_ ?_
   ·refine T0 [4] ?_
    exact Sr <|Tr <|Rr
   ·refine Sk <|Tn <|T0 [4] ?_
    exact Sr <|Rr
theorem Pt {a r} (h : F6 a = some r) : Con B 39 [.sl false (L Ak a)] [] (fun r' σ' => r' = .bs false 0 (r.length) 0 (r.length)∧σ' = [.buf 53 (L Ak r) false]):=by
 refine Co 0 8 [.tmp 2] Tryd.func39 (fun F hE => ?_) h
 unfold F6
 refine T0 [0] ?_
 refine Sq ?_
 intro h
 refine Z4 hE 0 3 4 75 56 rfl rfl rfl rfl rfl rfl rfl (by decide) Tryd.underlying75 (fun b_ hb_ => ?_)
 cases b_
 ·revert h
  refine Cf <|Sk <|Tn <|Ck fun c =>?_
  have d:=c;simp only [List.cons_append,List.nil_append,List.length_append,List.length_cons,List.length_nil,Nat.zero_add,Nat.reduceAdd] at d
  refine Lt fun b e =>Te (fr':=[(2,.bs false 0 (b.length) 0 (b.length))]) (σ':=[.buf 53 (L Ak b) false]) [2] Aa (Ev (by simp only [go_sem,c,d,e];exact Al)) ?_
  exact Sr <|Ro [0]
 ·obtain rfl : a = []:=List.map_eq_nil_iff.1 (hb_ rfl)
  replace h : some ([]) = some r:=by first | exact h | (split at h <;> first | exact h | cases h)
  revert h
  refine Ct <|T0 [2] ?_
  refine Rw (AaA 2 53 rfl) ?_
  exact Sr <|Tr <|Ro [0]
theorem Rp {a b r} (h : Hs a b = some r) : Con B 41 [.agg (i64 a.A.Zb :: i64 a.A.No :: (C1 u8 a.A.Zv1.l ++ i64 a.A.Zw1 :: i64 a.A.Zx1.Za :: i64 a.A.Zx1.Ref.Zb :: i64 a.A.Zx1.Ref.No :: i64 a.A.Zx1.Zn1 :: i64 a.A.Zx1.Zb1 :: i64 a.A.Zx1.Zc :: i64 a.A.Zx1.Zo1 :: i64 a.A.Zx1.Zw :: i64 a.A.Zx1.To :: i64 a.A.Zx1.Code :: i64 a.A.Zx1.Zp1 :: i64 a.A.Zx1.Zq1 :: i64 a.A.Zx1.Zr1 :: i64 a.A.Zx1.Zs1 :: .str a.A.Zx1.Zt1 :: .sl false (L Aj a.A.Zx1.Zu1) :: u64 a.A.Sig.C :: u64 a.A.Sig.S :: i64 a.B.Zb :: i64 a.B.No :: (C1 u8 a.B.Zv1.l ++ [i64 a.B.Zw1,i64 a.B.Zx1.Za,i64 a.B.Zx1.Ref.Zb,i64 a.B.Zx1.Ref.No,i64 a.B.Zx1.Zn1,i64 a.B.Zx1.Zb1,i64 a.B.Zx1.Zc,i64 a.B.Zx1.Zo1,i64 a.B.Zx1.Zw,i64 a.B.Zx1.To,i64 a.B.Zx1.Code,i64 a.B.Zx1.Zp1,i64 a.B.Zx1.Zq1,i64 a.B.Zx1.Zr1,i64 a.B.Zx1.Zs1,.str a.B.Zx1.Zt1,.sl false (L Aj a.B.Zx1.Zu1),u64 a.B.Sig.C,u64 a.B.Sig.S]))),.ref 0 0] [.box (Ak b) false] (fun r' σ' => r' = .bool r.1∧σ' = [.box (Ak r.2) false]):=by
 refine Co 1 18 [.tmp 3] Tryd.func41 (fun F hE => ?_) h
 unfold Hs
 refine T0 [1,2] ?_
 refine Tw [3] (fun d => ⟨Ar 18 [(3,.bool d)],[.box (Ak b) false]⟩) ?_ ?_
 ·intro _
  refine Sp (fun c => ?_) fun c => ?_
  ·exact Lf Aa (Ev (by simp only [go_sem,c];exact Al)) (ws [0])
  ·exact Lf Aa (Ev (by simp only [go_sem,c];exact Al)) (ws [0])
 intro d
 exact Sr <|Ro [0]
theorem Jb {a ac r} (h : C7 a ac = some r) : Con B 65 [.sl false (L Ax a),.fn 41 [.ref 0 0]] [.box (Ak ac) false] (fun r' σ' => r' = i64 r.1∧σ' = [.box (Ak r.2) false]):=by
 refine Co 1 19 [.tmp 4] Tryd.func65 (fun F hE => ?_) h
 unfold C7
 refine T0 [0,1] ?_
 refine Jo (fun ⟨ad,ae,af,ag,ah,ai,aj,ak,al,am,an,ao,ap,aq,ar,au,av,aw,ax,ay,az,aA⟩ => ⟨Ar 19 [],[.box (i64 ad :: i64 ae :: (C1 u8 af.l ++ [i64 ag,i64 ah,i64 ai,i64 aj,i64 ak,i64 al,i64 am,i64 an,i64 ao,i64 ap,i64 aq,i64 ar,i64 au,i64 av,i64 aw,.str ax,.sl false (L Aj ay),u64 az,u64 aA])) false]⟩) ?_ ?_
 ·intro aH aD
  refine T0 [0,1,7,8] ?_
  refine Sb ?_
  refine Lo (fun ⟨b,c,d,e,f,g,i,j,k,n,o,p,q,s,t,u,v,w,x,y,z,aa,ab⟩ => ⟨Ar 19 [(0,.sl false (L Ax a)),(1,.fn 41 [.ref 0 0]),(7,i64 (a.length : Int)),(8,i64 b)],[.box (i64 c :: i64 d :: (C1 u8 e.l ++ [i64 f,i64 g,i64 i,i64 j,i64 k,i64 n,i64 o,i64 p,i64 q,i64 s,i64 t,i64 u,i64 v,i64 w,i64 x,.str y,.sl false (L Aj z),u64 aa,u64 ab])) false]⟩) (ws [0]) ?_
  rintro ⟨b,c,d,e,f,g,i,j,k,n,o,p,q,s,t,u,v,w,x,y,z,aa,ab⟩ aI aE aB aC
  show Bi a b c d e f g i j k n o p q s t u v w x y z aa ab = some aE→_
  unfold Bi
  refine T0 [0,1,7,8,9] ?_
  refine Sq <|Cd ?_ ?_
  ·refine Sk <|Tn <|Sq <|Sb <|T0 [0,1,5,7,8] ?_
   refine Ck fun aF =>Bd fun aJ aG =>Te [0,1,5,7,8,16] (As (l:=[]) (m:=[(16,41,[.agg (i64 (((nth a b.toNat).A).Zb) :: i64 (((nth a b.toNat).A).No) :: (C1 u8 (((nth a b.toNat).A).Zv1).l ++ i64 (((nth a b.toNat).A).Zw1) :: i64 ((((nth a b.toNat).A).Zx1).Za) :: i64 (((((nth a b.toNat).A).Zx1).Ref).Zb) :: i64 (((((nth a b.toNat).A).Zx1).Ref).No) :: i64 ((((nth a b.toNat).A).Zx1).Zn1) :: i64 ((((nth a b.toNat).A).Zx1).Zb1) :: i64 ((((nth a b.toNat).A).Zx1).Zc) :: i64 ((((nth a b.toNat).A).Zx1).Zo1) :: i64 ((((nth a b.toNat).A).Zx1).Zw) :: i64 ((((nth a b.toNat).A).Zx1).To) :: i64 ((((nth a b.toNat).A).Zx1).Code) :: i64 ((((nth a b.toNat).A).Zx1).Zp1) :: i64 ((((nth a b.toNat).A).Zx1).Zq1) :: i64 ((((nth a b.toNat).A).Zx1).Zr1) :: i64 ((((nth a b.toNat).A).Zx1).Zs1) :: .str ((((nth a b.toNat).A).Zx1).Zt1) :: .sl false (L Aj ((((nth a b.toNat).A).Zx1).Zu1)) :: u64 ((((nth a b.toNat).A).Sig).C) :: u64 ((((nth a b.toNat).A).Sig).S) :: i64 (((nth a b.toNat).B).Zb) :: i64 (((nth a b.toNat).B).No) :: (C1 u8 (((nth a b.toNat).B).Zv1).l ++ [i64 (((nth a b.toNat).B).Zw1),i64 ((((nth a b.toNat).B).Zx1).Za),i64 (((((nth a b.toNat).B).Zx1).Ref).Zb),i64 (((((nth a b.toNat).B).Zx1).Ref).No),i64 ((((nth a b.toNat).B).Zx1).Zn1),i64 ((((nth a b.toNat).B).Zx1).Zb1),i64 ((((nth a b.toNat).B).Zx1).Zc),i64 ((((nth a b.toNat).B).Zx1).Zo1),i64 ((((nth a b.toNat).B).Zx1).Zw),i64 ((((nth a b.toNat).B).Zx1).To),i64 ((((nth a b.toNat).B).Zx1).Code),i64 ((((nth a b.toNat).B).Zx1).Zp1),i64 ((((nth a b.toNat).B).Zx1).Zq1),i64 ((((nth a b.toNat).B).Zx1).Zr1),i64 ((((nth a b.toNat).B).Zx1).Zs1),.str ((((nth a b.toNat).B).Zx1).Zt1),.sl false (L Aj ((((nth a b.toNat).B).Zx1).Zu1)),u64 ((((nth a b.toNat).B).Sig).C),u64 ((((nth a b.toNat).B).Sig).S)]))),.ref 0 0],[.box (i64 c :: i64 d :: (C1 u8 e.l ++ [i64 f,i64 g,i64 i,i64 j,i64 k,i64 n,i64 o,i64 p,i64 q,i64 s,i64 t,i64 u,i64 v,i64 w,i64 x,.str y,.sl false (L Aj z),u64 aa,u64 ab])) false],_,_)]) trivial ⟨(wc (Rp aG) [0]),trivial⟩) (Ev (by simp only [go_sem,qR aF];exact Al)) ?_
   refine Cd ?_ ?_
   ·refine T0 [4] ?_
    exact Sr <|Br <|Tr <|Lr aC aB <|Br <|Jr aD <|Ro [0]
   ·refine Sk <|Bn <|Tn <|F0 [0,1,7,8] ?_
    exact Ln (ws [0])
  ·refine Sx <|Tx <|Lx aC aB <|Bx <|?_
   exact Jn ((ws (l':=[]) (σ':=[.box (i64 c :: i64 d :: (C1 u8 e.l ++ [i64 f,i64 g,i64 i,i64 j,i64 k,i64 n,i64 o,i64 p,i64 q,i64 s,i64 t,i64 u,i64 v,i64 w,i64 x,.str y,.sl false (L Aj z),u64 aa,u64 ab])) false]) [0]).trans (ws [0]))
 rintro ⟨ad,ae,af,ag,ah,ai,aj,ak,al,am,an,ao,ap,aq,ar,au,av,aw,ax,ay,az,aA⟩
 refine T0 [4] ?_
 exact Sr <|Ro [0]
theorem Hy {a b r} (h : Bz a b = some r) : Con B 40 [.sl false (L Ax a),.fn 41 [.ref 0 0]] [.box (Ak b) false] (fun r' σ' => r' = .bool r.1∧σ' = [.box (Ak r.2) false]):=by
 refine Co 1 9 [.tmp 4] Tryd.func40 (fun F hE => ?_) h
 unfold Bz
 refine T0 [0,1] ?_
 refine Bd fun d c =>Te [4] (As (l:=[]) (m:=[(7,65,[.sl false (L Ax a),.fn 41 [.ref 0 0]],[.box (Ak b) false],_,_)]) trivial ⟨(wc (Jb c) [0]),trivial⟩) Ev ?_
 exact Sr <|Ro [0]
theorem Pr {a r} (h : Gk a = some r) : Con B 42 [.sl false (L Ax a)] [] (fun r' σ' => r' = .bs false 0 (r.length) 0 (r.length)∧σ' = [.buf 106 (L Ax r) false]):=by
 refine Co 0 8 [.tmp 2] Tryd.func42 (fun F hE => ?_) h
 unfold Gk
 refine T0 [0] ?_
 refine Sq ?_
 intro h
 refine Z4 hE 0 3 4 38 96 rfl rfl rfl rfl rfl rfl rfl (by decide) Tryd.underlying38 (fun b_ hb_ => ?_)
 cases b_
 ·revert h
  refine Cf <|Sk <|Tn <|Ck fun c =>?_
  have d:=c;simp only [List.cons_append,List.nil_append,List.length_append,List.length_cons,List.length_nil,Nat.zero_add,Nat.reduceAdd] at d
  refine Lt fun b e =>Te (fr':=[(2,.bs false 0 (b.length) 0 (b.length))]) (σ':=[.buf 106 (L Ax b) false]) [2] Aa (Ev (by simp only [go_sem,c,d,e];exact Al)) ?_
  exact Sr <|Ro [0]
 ·obtain rfl : a = []:=List.map_eq_nil_iff.1 (hb_ rfl)
  replace h : some ([]) = some r:=by first | exact h | (split at h <;> first | exact h | cases h)
  revert h
  refine Ct <|T0 [2] ?_
  refine Rw (AaA 2 106 rfl) ?_
  exact Sr <|Tr <|Ro [0]
theorem E0 {e c d r} (h : Bl e c d = some r) : Con B 13 [.agg (Aw e),.agg (Ap c),.agg (Ak d)] [] (fun r' σ' => r' = .tup [.agg (Ap r.1),i64 r.2]∧σ' = []):=by
 refine Cw 95 [.cell 6 40,.tmp 7] Tryd.func13 (fun F hE => ?_) h
 unfold Bl
 refine T0 [3,4,5,6] ?_
 refine Sq <|Bd fun aj t =>Te [3,4,5,6,7] (o1 11 (W4 t)) Ev ?_
 refine T0 [3,4,5,6,7,13] ?_
 refine Cd ?_ ?_
 ·refine T0 [6,7] ?_
  exact Sr <|Tr <|Rr
 ·refine Sk <|Tn <|Bd fun a u =>Te [3,4,5,6,8] (o1 19 (Pk u)) Ev ?_
  refine Sq ?_
  refine Dw [[],[0],[],[2],[0,1,2,3],[0,1,2,3,4],[0,1,2,3,4,5],[0,1,2,3,4,5],[0,1,2,3,4,5,7],[0,1,2,3,4,5,7,8],[0,1,2,3,4,5,6,7,8,9],[0,1,2,3,4,5,6,7,8,9,10],[0,1,2,3,4,5],[0,1,2,3,4,5,6,7,8,9,10,11,12],[0,1,2,3,4,5,6,7,8,9,10,11,12,13]] [3,4,5,6,8,34] (fun p => ⟨Ar 95 [(3,.ref 0 0),(4,.ref 1 0),(5,.ref 2 0),(6,.ref 3 0),(8,.sl false (L Ak a)),(34,.bool p)],[.box (Aw e) false,.box (Ap c) false,.box (Ak d) false,.box [.sl true (L (cSl Ak) ([])),.sl true (L Ax ([]))] false]⟩) ?_ ?_
  ·intro _
   refine Sp (fun k => ?_) fun k => ?_
   ·refine Ck fun v =>Bd fun ak w =>?_
    exact Lf (o1 33 (Aap w)) (Ev (by simp only [go_sem,k,qR v];exact Al)) (ws [0,1,2,3])
   ·exact Lf Aa (Ev (by simp only [go_sem,k];exact Al)) (ws [0,1,2,3])
  intro p
  refine Cd ?_ ?_
  ·refine T0 [6,7] ?_
   exact Sr <|Tr <|Rr
  ·refine Sk <|Tn <|Sq <|Bd fun al x =>Te [3,4,5,6,7,8] (o1 38 (Tq x)) Ev ?_
   refine T0 [3,4,5,6,7,8,40] ?_
   refine Cd ?_ ?_
   ·refine T0 [6,7] ?_
    exact Sr <|Tr <|Rr
   ·refine Sk <|Tn <|T0 [3,4,5,6,8] ?_
    refine Sq <|T0 [3,4,5,6,8,49] ?_
    refine Cd ?_ ?_
    ·refine Ck fun y =>Lt fun n z =>Te (σ':=[_,_,_,.box [.bs true 4 (n.length) 0 (n.length),.sl false (L Ax c.Zz1)] false,.buf 1 (L (cSl Ak) n) false]) [4,5,6,8] Aa (Ev (by simp only [go_sem,y,z];exact Al)) ?_
     refine Lt fun f aa =>Te (σ':=[_,_,_,.box [.bs true 4 (f.length) 0 (f.length),.sl false (L Ax c.Zz1)] false,.buf 1 (L (cSl Ak) f) false]) [5,6,8] Aa (Ev (by simp only [go_sem,aa];exact Al)) ?_
     refine Bd fun g ab =>Ck fun ac =>Ck fun ad =>Lt fun j q =>?_
     intro h
     refine AiV hE Tt [[],[0],[],[2],[],[4],[],[6],[4,5,6,7],[0,1,2,3,4,5,6,7,8],[0,1,2,3,4,5,6,7,8,9]] (by kernel_rfl) [(5,2),(6,3),(64,3),(66,2)] [(69,2),(69,3)] [(69,5)] [] [5,6,64,66,69] (by kernel_rfl) (fr':=[(5,.ref 2 0),(6,.ref 3 0),(64,.ref 3 0),(66,.ref 2 0),(69,.bs false 5 (g.length) 0 (g.length))]) (σ':=[.box (Aw e) false,.box (Ap c) false,.box (Ak d) false,.box [.bs true 4 (j.length) 0 (j.length),.sl false (L Ax c.Zz1)] false,.buf 1 ((L (cSl Ak) f).set (d.Zb.toNat) [.bs false 5 ((g ++ ([d] : List Api_Record)).length) 0 ((g ++ ([d] : List Api_Record)).length)]) false,.buf 53 (L Ak (g ++ ([d] : List Api_Record))) false]) ⟨rfl,rfl,rfl,rfl,trivial⟩ ⟨(by exact And.intro rfl (And.intro rfl rfl)),trivial⟩ trivial ⟨_,_,(As (l:=[]) (m:=[(69,39,[.sl false (L Ak a)],[.box (Aw e) false,.box (Ap c) false,.box (Ak d) false,.box [.bs true 4 (f.length) 0 (f.length),.sl false (L Ax c.Zz1)] false,.buf 1 (L (cSl Ak) f) false],_,_)]) trivial ⟨(wc (Pt ab) []),trivial⟩),(by repeat' (first | exact trivial | (refine And.intro ?_ ?_) | exact fun _ => rfl | exact fun h => absurd h (by decide))),?_⟩ ?_
     ·subst q;simp only [go_sem,ac,qR ad]
     revert h
     refine Rw (Aej 4 5 (cr:=Ak) (lg:=f) (lg':=j) (i:=d.Zb) (row:=(g ++ ([d] : List Api_Record))) (full:=false) (σ':=[.box (Aw e) false,.box (Ap c) false,.box (Ak d) false,.box [.bs true 4 (j.length) 0 (j.length),.sl false (L Ax c.Zz1)] false,.buf 1 (L (cSl Ak) j) false,.buf 53 (L Ak (g ++ ([d] : List Api_Record))) true]) (by assumption) rfl rfl (by decide) gs q rfl) ?_
     refine T0 [6,7] ?_
     exact Sr <|Tr <|Rr
    ·refine Sk <|Tn <|?_
     refine Ja (fun s => ⟨Ar 95 [(6,.ref 0 0)],[.box [.sl false (L (cSl Ak) c.Zy1),.sl false (L Ax s)] false]⟩) ?_ ?_
     ·intro am
      refine Bd fun b ae =>Te [4,5,6,8,79] (As (l:=[]) (m:=[(78,40,[.sl false (L Ax c.Zz1),.fn 41 [.ref 2 0]],[.box (Aw e) false,.box (Ap c) false,.box (Ak d) false,.box (Ap c) false],_,_)]) trivial ⟨(wc (Hy ae) [2]),trivial⟩) Ev ?_
      refine Cd ?_ ?_
      ·refine Bd fun an af =>Ck fun ag =>Ck fun ah =>Lt fun o ai =>?_
       intro h
       refine Yq hE Tt [[],[0],[0,1],[],[],[4],[4,5],[3,4,5,6],[3,4,5,6,7],[],[3,4,5,6,7,8,9],[3,4,5,6,7,8,9,10],[0,1,2,3,4,5,6,7,8,9,10,11],[0,1,2,3,4,5,6,7,8,9,10,11,12],[0,1,2,3,4,5,6,7,8,9,10,11,12,13]] (by kernel_rfl) [(5,2),(84,2)] [(82,2)] [] [83,87] [5,6,83,84,87] (by kernel_rfl) W7 (fr':=[(5,.ref 2 0),(6,.ref 3 0),(83,.sl false (L Ak a)),(84,.ref 2 1),(87,.rp (i64 ((nth a ((w64 (b.2.No - 1)).toNat)).Zb) :: i64 ((nth a ((w64 (b.2.No - 1)).toNat)).No) :: (C1 u8 ((nth a ((w64 (b.2.No - 1)).toNat)).Zv1).l ++ [i64 ((nth a ((w64 (b.2.No - 1)).toNat)).Zw1),i64 (((nth a ((w64 (b.2.No - 1)).toNat)).Zx1).Za),i64 ((((nth a ((w64 (b.2.No - 1)).toNat)).Zx1).Ref).Zb),i64 ((((nth a ((w64 (b.2.No - 1)).toNat)).Zx1).Ref).No),i64 (((nth a ((w64 (b.2.No - 1)).toNat)).Zx1).Zn1),i64 (((nth a ((w64 (b.2.No - 1)).toNat)).Zx1).Zb1),i64 (((nth a ((w64 (b.2.No - 1)).toNat)).Zx1).Zc),i64 (((nth a ((w64 (b.2.No - 1)).toNat)).Zx1).Zo1),i64 (((nth a ((w64 (b.2.No - 1)).toNat)).Zx1).Zw),i64 (((nth a ((w64 (b.2.No - 1)).toNat)).Zx1).To),i64 (((nth a ((w64 (b.2.No - 1)).toNat)).Zx1).Code),i64 (((nth a ((w64 (b.2.No - 1)).toNat)).Zx1).Zp1),i64 (((nth a ((w64 (b.2.No - 1)).toNat)).Zx1).Zq1),i64 (((nth a ((w64 (b.2.No - 1)).toNat)).Zx1).Zr1),i64 (((nth a ((w64 (b.2.No - 1)).toNat)).Zx1).Zs1),.str (((nth a ((w64 (b.2.No - 1)).toNat)).Zx1).Zt1),.sl false (L Aj (((nth a ((w64 (b.2.No - 1)).toNat)).Zx1).Zu1)),u64 (((nth a ((w64 (b.2.No - 1)).toNat)).Sig).C),u64 (((nth a ((w64 (b.2.No - 1)).toNat)).Sig).S)])))]) (σ':=[.box (Aw e) false,.box (Ap c) false,.box (Ak b.2) false,.box [.sl false (L (cSl Ak) c.Zy1),.bs false 4 (o.length) 0 (o.length)] false,.buf 106 (L Ax o) false]) ⟨rfl,rfl,trivial⟩ trivial ⟨rfl,rfl,trivial⟩ ⟨_,_,(As (l:=[]) (m:=[(82,42,[.sl false (L Ax c.Zz1)],[.box (Aw e) false,.box (Ap c) false,.box (Ak b.2) false,.box (Ap c) false],_,_)]) trivial ⟨(wc (Pr af) []),trivial⟩),(by repeat' (first | exact trivial | (refine And.intro ?_ ?_) | exact fun _ => rfl | exact fun h => absurd h (by decide))),?_⟩ ?_
       ·subst ai;simp only [go_sem,qR ag,ah]
       revert h
       exact Jm ((Oe 3 1 rfl rfl rfl gs gs).trans (ws [3]))
      ·exact Sk <|Jm (ws [3])
     intro s
     refine T0 [6,7] ?_
     exact Sr <|Rr
theorem E9 {d e b f c a r} (h : B9 d e b f c a = some r) : Con B 11 [.agg (Aw d),.agg (Ap e),i64 b,u64 f,i64 c,.agg (A5 a)] [] (fun r' σ' => r' = .tup [.agg (Ak r.1),i64 r.2]∧σ' = []):=by
 refine Cw 112 [.cell 12 56,.tmp 13] Tryd.func11 (fun F hE => ?_) h
 unfold B9
 refine T0 [2,3,4,6,7,11,12] ?_
 refine Sq <|Bd fun y m =>Te [2,3,4,6,7,11,12,13] (o1 19 (He m)) Ev ?_
 refine T0 [2,3,4,6,7,11,12,13,21] ?_
 refine Cd ?_ ?_
 ·refine T0 [12,13] ?_
  exact Sr <|Tr <|Rr
 ·refine Sk <|Tn <|Sq <|?_
  refine Tw [2,3,4,6,7,11,12,32] (fun i => ⟨Ar 112 [(2,i64 b),(3,u64 f),(4,i64 c),(6,.ref 0 0),(7,.ref 1 0),(11,.ref 2 0),(12,.ref 3 0),(32,.bool i)],[.box (Aw d) false,.box (Ap e) false,.box (A5 a) false,.box (i64 0 :: i64 0 :: (C1 u8 (Arr.rep 32 (0 : UInt8)).l ++ [i64 0,i64 0,i64 0,i64 0,i64 0,i64 0,i64 0,i64 0,i64 0,i64 0,i64 0,i64 0,i64 0,i64 0,i64 0,.str ([] : List UInt8),.sl true (L Aj ([])),u64 (0 : UInt64),u64 (0 : UInt64)])) false]⟩) ?_ ?_
  ·intro _
   refine Sp (fun g => ?_) fun g => ?_
   ·exact Lf Aa (Ev (by simp only [go_sem,g];exact Al)) (ws [0,1,2,3])
   ·exact Lf Aa (Ev (by simp only [go_sem,g];exact Al)) (ws [0,1,2,3])
  intro i
  refine Cd ?_ ?_
  ·refine T0 [12,13] ?_
   exact Sr <|Tr <|Rr
  ·refine Sk <|Tn <|Bd fun z n =>Te [2,3,4,6,7,11,12,13,14] (o1 36 (Oi n)) Ev ?_
   refine Sq <|T0 [2,3,4,6,7,11,12,13,14,40] ?_
   refine Cd ?_ ?_
   ·refine T0 [12,13] ?_
    exact Sr <|Tr <|Rr
   ·refine Sk <|Tn <|Sq <|Ck fun o =>Te [2,3,4,6,7,11,12,50] Aa (Ev (by simp only [go_sem,qR o];exact Al)) ?_
    refine Cd ?_ ?_
    ·refine T0 [12,13] ?_
     exact Sr <|Tr <|Rr
    ·refine Sk <|Tn <|Bd fun aa p =>Te [2,3,4,6,7,11,12,15] (o1 54 (Pk p)) Ev ?_
     refine Lt fun j q =>Te (σ':=[_,_,_,_,.box (i64 b :: i64 j :: (C1 u8 (Arr.rep 32 (0 : UInt8)).l ++ [i64 c,i64 a.Za,i64 a.Ref.Zb,i64 a.Ref.No,i64 a.Zn1,i64 a.Zb1,i64 a.Zc,i64 a.Zo1,i64 a.Zw,i64 a.To,i64 a.Code,i64 a.Zp1,i64 a.Zq1,i64 a.Zr1,i64 a.Zs1,.str a.Zt1,.sl false (L Aj a.Zu1),u64 (0 : UInt64),u64 (0 : UInt64)])) false]) [3,6,7,12,15,16] Aa (Ev (by simp only [go_sem,q];exact Al)) ?_
     refine Jo (fun k => ⟨Ar 112 [(3,u64 f),(6,.ref 0 0),(7,.ref 1 0),(12,.ref 2 0),(16,.ref 3 0)],[.box (Aw d) false,.box (Ap e) false,.box (i64 0 :: i64 0 :: (C1 u8 (Arr.rep 32 (0 : UInt8)).l ++ [i64 0,i64 0,i64 0,i64 0,i64 0,i64 0,i64 0,i64 0,i64 0,i64 0,i64 0,i64 0,i64 0,i64 0,i64 0,.str ([] : List UInt8),.sl true (L Aj ([])),u64 (0 : UInt64),u64 (0 : UInt64)])) false,.box (i64 b :: i64 j :: (C1 u8 k.l ++ [i64 c,i64 a.Za,i64 a.Ref.Zb,i64 a.Ref.No,i64 a.Zn1,i64 a.Zb1,i64 a.Zc,i64 a.Zo1,i64 a.Zw,i64 a.To,i64 a.Code,i64 a.Zp1,i64 a.Zq1,i64 a.Zr1,i64 a.Zs1,.str a.Zt1,.sl false (L Aj a.Zu1),u64 (0 : UInt64),u64 (0 : UInt64)])) false]⟩) ?_ ?_
     ·intro ab s
      refine T0 [3,6,7,12,15,16,64] ?_
      refine Cd ?_ ?_
      ·refine Ck fun t =>Bd fun ac u =>Te [3,6,7,12,13,16] (o1 72 (Kb u)) (Ev (by simp only [go_sem,qR t];exact Al)) ?_
       refine T0 [3,6,7,12,13,16,77] ?_
       refine Cd ?_ ?_
       ·refine T0 [12,13] ?_
        exact Sr <|Jr s <|Rr
       ·exact Sk <|Jn (ws [0,1,3,4])
      ·exact Sk <|Jn (ws [0,1,3,4])
     intro k
     refine Bd fun ad v =>Te [3,6,7,12,13,16,17] (o1 82 (My v)) Ev ?_
     refine Sq <|T0 [3,6,7,12,13,16,17,86] ?_
     refine Cd ?_ ?_
     ·refine T0 [12,13] ?_
      exact Sr <|Tr <|Rr
     ·refine Sk <|Tn <|Sq <|Bd fun ae w =>Te [6,7,12,13,16] (o1 92 (AaZ w)) Ev ?_
      refine T0 [6,7,12,13,16,97] ?_
      refine Cd ?_ ?_
      ·refine T0 [12,13] ?_
       exact Sr <|Tr <|Rr
      ·refine Sk <|Tn <|Sq <|Bd fun af x =>Te [12,13,16] (o1 104 (E0 x)) Ev ?_
       refine T0 [12,13,16,108] ?_
       refine Cd ?_ ?_
       ·refine T0 [12,13] ?_
        exact Sr <|Tr <|Rr
       ·refine Sk <|Tn <|T0 [12,13] ?_
        exact Sr <|Rr
theorem Q3 {a b r} (h : Nv a b = some r) : Con B 60 [.agg (A5 a),u8 b] [] (fun r' σ' => r' = i64 r∧σ' = []):=by
 refine Cw 48 [.tmp 4] Tryd.func60 (fun F hE => ?_) h
 unfold Nv
 refine T0 [1,2] ?_
 refine Sq <|T0 [2,5] ?_
 refine Sb <|T0 [2,5,6] ?_
 refine Cd ?_ ?_
 ·refine T0 [4] ?_
  exact Sr <|Br <|Tr <|Rr
 ·refine T0 [2,5,10] ?_
  refine Cd ?_ ?_
  ·refine T0 [4] ?_
   exact Sr <|Br <|Tr <|Rr
  ·refine T0 [2,5,14] ?_
   refine Cd ?_ ?_
   ·refine T0 [4] ?_
    exact Sr <|Br <|Tr <|Rr
   ·refine T0 [2,5,18] ?_
    refine Cd ?_ ?_
    ·refine T0 [4] ?_
     exact Sr <|Br <|Tr <|Rr
    ·refine T0 [2,5,22] ?_
     refine Cd ?_ ?_
     ·refine T0 [4] ?_
      exact Sr <|Br <|Tr <|Rr
     ·refine T0 [2,5,26] ?_
      refine Cd ?_ ?_
      ·refine T0 [4] ?_
       exact Sr <|Br <|Tr <|Rr
      ·refine T0 [2,5,30] ?_
       refine Cd ?_ ?_
       ·refine T0 [4] ?_
        exact Sr <|Br <|Tr <|Rr
       ·refine T0 [2,5,34] ?_
        refine Cd ?_ ?_
        ·refine T0 [4] ?_
         exact Sr <|Br <|Tr <|Rr
        ·refine T0 [2,5,38] ?_
         refine Cd ?_ ?_
         ·refine T0 [4] ?_
          exact Sr <|Br <|Tr <|Rr
         ·refine T0 [2,42] ?_
          refine Cd ?_ ?_
          ·refine T0 [4] ?_
           exact Sr <|Br <|Tr <|Rr
          ·refine Sk <|Bn <|Tn <|T0 [4] ?_
           exact Sr <|Rr
theorem Ri {a b r} (h : H4 a b = some r) : Con B 61 [.sl false (L Aj a),.sl false (L Aj b)] [] (fun r' σ' => r' = .bool r∧σ' = []):=by
 refine Cw 26 [.tmp 4] Tryd.func61 (fun F hE => ?_) h
 unfold H4
 refine T0 [0,1] ?_
 refine Sq <|T0 [0,1,10] ?_
 refine Cd ?_ ?_
 ·refine T0 [4] ?_
  exact Sr <|Tr <|Rr
 ·refine Sk <|Tn <|?_
  refine Jo (fun _ => ⟨Ar 26 [],[]⟩) ?_ ?_
  ·intro m f
   refine T0 [0,1,5] ?_
   refine Sb ?_
   refine Lo (fun c => ⟨Ar 26 [(0,.sl false (L Aj a)),(1,.sl false (L Aj b)),(5,i64 c)],[]⟩) (ws []) ?_
   rintro c n g d e
   show Eh a b c = some g→_
   unfold Eh
   refine Sq <|T0 [0,1,5,14] ?_
   refine Cd ?_ ?_
   ·refine Sk <|Tn <|Sq <|Sb <|Ck fun i =>Ck fun j =>Lt fun k l =>De (fr':=[(0,_),(1,_),(5,_),(25,.bool k)]) [[],[],[0,1],[0,1,2],[],[],[4,5],[4,5,6],[0,1,2,3,4,5,6,7]] [0,1,5,25] Aa (Ev (by simp only [go_sem,qR i,qR j,l];exact Al)) ?_
    refine Cd ?_ ?_
    ·refine T0 [4] ?_
     exact Sr <|Br <|Tr <|Lr e d <|Br <|Jr f <|Rr
    ·refine Sk <|Bn <|Tn <|F0 [0,1,5] ?_
     exact Ln (ws [])
   ·refine Sx <|Tx <|Lx e d <|Bx <|?_
    exact Jn ((ws (l':=[]) (σ':=[]) []).trans (ws []))
  intro _
  refine T0 [4] ?_
  exact Sr <|Rr
theorem AbY {a b r} (h : Qc a b = some r) : Con B 35 [.agg (A5 a),.agg (A5 b)] [] (fun r' σ' => r' = .bool r∧σ' = []):=by
 refine Cw 45 [.tmp 4] Tryd.func35 (fun F hE => ?_) h
 unfold Qc
 refine T0 [2,3] ?_
 refine Jo (fun _ => ⟨Ar 45 [(2,.ref 0 0),(3,.ref 1 0)],[.box (A5 a) false,.box (A5 b) false]⟩) ?_ ?_
 ·intro u o
  refine T0 [2,3,5] ?_
  refine Sb ?_
  refine Lo (fun e => ⟨Ar 45 [(2,.ref 0 0),(3,.ref 1 0),(5,i64 e)],[.box (A5 a) false,.box (A5 b) false]⟩) (ws [0,1]) ?_
  rintro e v p g i
  show Il a b e = some p→_
  unfold Il
  refine Sq <|T0 [2,3,5,7] ?_
  refine Cd ?_ ?_
  ·refine Sk <|Tn <|Sq <|Sb <|Ck fun j =>?_
   have k:=j;simp only [List.cons_append,List.nil_append,List.length_append,List.length_cons,List.length_nil,Nat.zero_add,Nat.reduceAdd] at k
   refine Bd fun w q =>Ck fun l =>?_
   have m:=l;simp only [List.cons_append,List.nil_append,List.length_append,List.length_cons,List.length_nil,Nat.zero_add,Nat.reduceAdd] at m
   refine Bd fun x s =>De [[],[],[1],[0,1,2],[],[],[5],[0,1,2,3,4,5,6],[0,1,2,3,4,5,6,7]] [2,3,5,18] (o2 13 (Q3 q) 17 (Q3 s)) (Ev (by simp only [go_sem,qR j,k,qR l,m];exact Al)) ?_
   refine Cd ?_ ?_
   ·refine T0 [4] ?_
    exact Sr <|Br <|Tr <|Lr i g <|Br <|Jr o <|Rr
   ·refine Sk <|Bn <|Tn <|F0 [2,3,5] ?_
    exact Ln (ws [0,1])
  ·refine Sx <|Tx <|Lx i g <|Bx <|?_
   exact Jn ((ws (l':=[(2,.ref 0 0),(3,.ref 1 0)]) (σ':=[.box (A5 a) false,.box (A5 b) false]) [0,1]).trans (ws [0,1]))
 intro _
 refine Tw [4] (fun n => ⟨Ar 45 [(4,.bool n)],[]⟩) ?_ ?_
 ·intro _
  refine Sp (fun c => ?_) fun c => ?_
  ·refine Sp (fun d => ?_) fun d => ?_
   ·refine Sp (fun f => ?_) fun f => ?_
    ·refine Bd fun y t => ?_
     exact Lf (o1 43 (Ri t)) (Ev (by simp only [go_sem,c,d,f];exact Al)) (ws [])
    ·exact Lf Aa (Ev (by simp only [go_sem,c,d,f];exact Al)) (ws [])
   ·exact Lf Aa (Ev (by simp only [go_sem,c,d];exact Al)) (ws [])
  ·exact Lf Aa (Ev (by simp only [go_sem,c];exact Al)) (ws [])
 intro n
 exact Sr <|Rr
theorem Em {f g r} (h : D9 f g = some r) : Con B 12 [.agg (Ak f),.agg (Ak g)] [] (fun r' σ' => r' = .bool r∧σ' = []):=by
 refine Cw 45 [.tmp 4] Tryd.func12 (fun F hE => ?_) h
 unfold D9
 refine T0 [2,3] ?_
 refine Tw [4] (fun i => ⟨Ar 45 [(4,.bool i)],[]⟩) ?_ ?_
 ·intro _
  refine Sp (fun a => ?_) fun a => ?_
  ·refine Sp (fun b => ?_) fun b => ?_
   ·refine Sp (fun c => ?_) fun c => ?_
    ·refine Sp (fun d => ?_) fun d => ?_
     ·refine Sp (fun e => ?_) fun e => ?_
      ·refine Bd fun k j => ?_
       exact Lf (o1 43 (AbY j)) (Ev (by simp only [go_sem,a,b,c,d,e];exact Al)) (ws [])
      ·exact Lf Aa (Ev (by simp only [go_sem,a,b,c,d,e];exact Al)) (ws [])
     ·exact Lf Aa (Ev (by simp only [go_sem,a,b,c,d];exact Al)) (ws [])
    ·exact Lf Aa (Ev (by simp only [go_sem,a,b,c];exact Al)) (ws [])
   ·exact Lf Aa (Ev (by simp only [go_sem,a,b];exact Al)) (ws [])
  ·exact Lf Aa (Ev (by simp only [go_sem,a];exact Al)) (ws [])
 intro i
 exact Sr <|Rr
theorem Oa {a b r} (h : Ip a b = some r) : Con B 18 [.sl false (L Ak a),.sl false (L Ak b)] [] (fun r' σ' => r' = .bool r∧σ' = []):=by
 refine Cw 27 [.tmp 4] Tryd.func18 (fun F hE => ?_) h
 unfold Ip
 refine T0 [0,1] ?_
 refine Sq <|T0 [0,1,10] ?_
 refine Cd ?_ ?_
 ·refine T0 [4] ?_
  exact Sr <|Tr <|Rr
 ·refine Sk <|Tn <|?_
  refine Jo (fun _ => ⟨Ar 27 [],[]⟩) ?_ ?_
  ·intro l f
   refine T0 [0,1,5] ?_
   refine Sb ?_
   refine Lo (fun c => ⟨Ar 27 [(0,.sl false (L Ak a)),(1,.sl false (L Ak b)),(5,i64 c)],[]⟩) (ws []) ?_
   rintro c m g d e
   show Fq a b c = some g→_
   unfold Fq
   refine Sq <|T0 [0,1,5,14] ?_
   refine Cd ?_ ?_
   ·refine Sk <|Tn <|Sq <|Sb <|Ck fun i =>Ck fun j =>Bd fun n k =>De [[],[],[0,1],[0,1,2],[],[],[4,5],[4,5,6],[0,1,2,3,4,5,6,7],[0,1,2,3,4,5,6,7,8]] [0,1,5,26] (o1 25 (Em k)) (Ev (by simp only [go_sem,qR i,qR j];exact Al)) ?_
    refine Cd ?_ ?_
    ·refine T0 [4] ?_
     exact Sr <|Br <|Tr <|Lr e d <|Br <|Jr f <|Rr
    ·refine Sk <|Bn <|Tn <|F0 [0,1,5] ?_
     exact Ln (ws [])
   ·refine Sx <|Tx <|Lx e d <|Bx <|?_
    exact Jn ((ws (l':=[]) (σ':=[]) []).trans (ws []))
  intro _
  refine T0 [4] ?_
  exact Sr <|Rr
theorem S3 {a b r} (h : Qu a b = some r) : Con B 30 [.agg (Ap a),.agg (Ap b)] [] (fun r' σ' => r' = .bool r∧σ' = []):=by
 refine Cw 79 [.tmp 4] Tryd.func30 (fun F hE => ?_) h
 unfold Qu
 refine T0 [2,3] ?_
 refine Sq ?_
 refine Tw [2,3,22] (fun g => ⟨Ar 79 [(2,.ref 0 0),(3,.ref 1 0),(22,.bool g)],[.box (Ap a) false,.box (Ap b) false]⟩) ?_ ?_
 ·intro _
  refine Sp (fun d => ?_) fun d => ?_
  ·exact Lf Aa (Ev (by simp only [go_sem,d];exact Al)) (ws [0,1])
  ·exact Lf Aa (Ev (by simp only [go_sem,d];exact Al)) (ws [0,1])
 intro g
 refine Cd ?_ ?_
 ·refine T0 [4] ?_
  exact Sr <|Tr <|Rr
 ·refine Sk <|Tn <|?_
  refine Jo (fun _ => ⟨Ar 79 [(2,.ref 0 0),(3,.ref 1 0)],[.box (Ap a) false,.box (Ap b) false]⟩) ?_ ?_
  ·intro ab q
   refine T0 [2,3,5] ?_
   refine Sb ?_
   refine Lo (fun e => ⟨Ar 79 [(2,.ref 0 0),(3,.ref 1 0),(5,i64 e)],[.box (Ap a) false,.box (Ap b) false]⟩) (ws [0,1]) ?_
   rintro e ac s i j
   show Pq a b e = some s→_
   unfold Pq
   refine Sq <|T0 [2,3,5,27] ?_
   refine Cd ?_ ?_
   ·refine Sk <|Tn <|Sq <|Sb <|Ck fun t =>Ck fun u =>Bd fun ad v =>De [[],[0],[],[0,1,2],[0,1,2,3],[],[5],[],[5,6,7],[5,6,7,8],[0,1,2,3,4,5,6,7,8,9],[0,1,2,3,4,5,6,7,8,9,10]] [2,3,5,41] (o1 40 (Oa v)) (Ev (by simp only [go_sem,qR t,qR u];exact Al)) ?_
    refine Cd ?_ ?_
    ·refine T0 [4] ?_
     exact Sr <|Br <|Tr <|Lr j i <|Br <|Jr q <|Rr
    ·refine Sk <|Bn <|Tn <|F0 [2,3,5] ?_
     exact Ln (ws [0,1])
   ·refine Sx <|Tx <|Lx j i <|Bx <|?_
    exact Jn ((ws (l':=[(2,.ref 0 0),(3,.ref 1 0)]) (σ':=[.box (Ap a) false,.box (Ap b) false]) [0,1]).trans (ws [0,1]))
  intro _
  refine Jo (fun _ => ⟨Ar 79 [],[]⟩) ?_ ?_
  ·intro ae w
   refine T0 [2,3,6] ?_
   refine Sb ?_
   refine Lo (fun c => ⟨Ar 79 [(2,.ref 0 0),(3,.ref 1 0),(6,i64 c)],[.box (Ap a) false,.box (Ap b) false]⟩) (ws [0,1]) ?_
   rintro c af x k l
   show P4 a b c = some x→_
   unfold P4
   refine Sq <|T0 [2,3,6,46] ?_
   refine Cd ?_ ?_
   ·refine Sk <|Tn <|Sq <|Sb <|?_
    refine Dw [[],[0],[],[0,1,2],[0,1,2,3],[0,1,2,3,4],[],[6],[],[6,7,8],[6,7,8,9],[6,7,8,9,10],[0,1,2,3,4,5,6,7,8,9,10,11],[0,1,2,3,4,5,6,7,8,9,10,11,12],[0,1,2,3,4,5,6,7,8,9,10,11,12,13],[0,1,2,3,4,5,6,7,8,9,10,11,12,13,14],[0,1,2,3,4,5,6,7,8,9,10,11,12,13,14,15],[0,1,2,3,4,5,6,7,8,9,10,11,12,13,14],[0,1,2,3,4,5,6,7,8,9,10,11,12,13,14,15,16,17],[0,1,2,3,4,5,6,7,8,9,10,11,12,13,14,15,16,17,18],[0,1,2,3,4,5,6,7,8,9,10,11,12,13,14,15,16,17,18,19],[0,1,2,3,4,5,6,7,8,9,10,11,12,13,14],[0,1,2,3,4,5,6,7,8,9,10,11,12,13,14,21],[0,1,2,3,4,5,6,7,8,9,10,11,12,13,14],[0,1,2,3,4,5,6,7,8,9,10,11,12,13,14,21,22,23],[0,1,2,3,4,5,6,7,8,9,10,11,12,13,14,21,22,23,24],[0,1,2,3,4,5,6,7,8,9,10,11,12,13,14,21,22,23,24,25],[0,1,2,3,4,5,6,7,8,9,10,11,12,13,14,15,16,17,18,19,20,21,22,23,24,25,26],[0,1,2,3,4,5,6,7,8,9,10,11,12,13,14,15,16,17,18,19,20,21,22,23,24,25,26,27],[0,1,2,3,4,5,6,7,8,9,10,11,12,13,14,15,16,17,18,19,20,21,22,23,24,25,26,27,28]] [2,3,6,78] (fun m => ⟨Ar 79 [(2,.ref 0 0),(3,.ref 1 0),(6,i64 c),(78,.bool m)],[.box (Ap a) false,.box (Ap b) false]⟩) ?_ ?_
    ·intro _
     refine Ck fun n =>Ck fun o =>Bd fun ag p =>?_
     refine Sp (fun f => ?_) fun f => ?_
     ·exact Lf (o1 61 (Em p)) (Ev (by simp only [go_sem,qR n,qR o,f];exact Al)) (ws [0,1])
     ·refine Ck fun y =>Ck fun z =>Bd fun ah aa =>?_
      exact Lf (o2 61 (Em p) 76 (Em aa)) (Ev (by simp only [go_sem,qR n,qR o,f,qR y,qR z];exact Al)) (ws [0,1])
    intro m
    refine Cd ?_ ?_
    ·refine T0 [4] ?_
     exact Sr <|Br <|Tr <|Lr l k <|Br <|Jr w <|Rr
    ·refine Sk <|Bn <|Tn <|F0 [2,3,6] ?_
     exact Ln (ws [0,1])
   ·refine Sx <|Tx <|Lx l k <|Bx <|?_
    exact Jn ((ws (l':=[]) (σ':=[]) []).trans (ws []))
  intro _
  refine T0 [4] ?_
  exact Sr <|Rr
theorem Dp {a b r} (h : Fa a b = some r) : Con B 20 [.agg (Ap a),i64 b] [] (fun r' σ' => r' = i64 r∧σ' = []):=by
 refine Cw 41 [.tmp 4] Tryd.func20 (fun F hE => ?_) h
 unfold Fa
 refine T0 [1,2,4] ?_
 refine Ja (fun i => ⟨Ar 41 [(4,i64 i)],[]⟩) ?_ ?_
 ·intro bu
  refine T0 [1,4,8,9,10] ?_
  refine Sb ?_
  refine Lo (fun (v : Int×Int) => (⟨Ar 41 [(1,i64 b),(4,i64 v.1),(8,.sl false (L Ax a.Zz1)),(9,i64 (a.Zz1.length : Int)),(10,i64 v.2)],[]⟩ : St)) (ws []) ?_
  rintro ⟨e,f⟩ bv aI aJ aK
  show La a b e f = some aI→_
  unfold La
  refine T0 [1,4,8,9,10,11] ?_
  refine Sq <|Cd ?_ ?_
  ·refine Sk <|Tn <|?_
   refine Ja (fun j => ⟨Ar 41 [(1,i64 b),(4,i64 j),(8,.sl false (L Ax a.Zz1)),(9,i64 (a.Zz1.length : Int)),(10,i64 f)],[]⟩) ?_ ?_
   ·intro bw
    refine Sb <|Ck fun aL =>Lt fun k aM =>Lt fun m aN =>Lt fun n aO =>Lt fun o aP =>Lt fun p aQ =>Lt fun q aR =>Lt fun s aS =>Lt fun t aT =>Lt fun u aU =>Lt fun w aV =>Lt fun x aW =>Lt fun y aX =>Lt fun z aY =>Lt fun aa aZ =>Lt fun ab a0 =>Lt fun ac a1 =>Lt fun ad a2 =>Lt fun ae a3 =>Lt fun af a4 =>Lt fun ag a5 =>Lt fun ah a6 =>Lt fun ai a7 =>Lt fun aj a8 =>Lt fun ak a9 =>Lt fun al ba =>Lt fun am bb =>Lt fun an bc =>Lt fun ao bd =>Lt fun ap be =>Lt fun aq bf =>Lt fun ar bg =>Lt fun au bh =>Lt fun av bi =>Lt fun aw bj =>Lt fun ax bk =>Lt fun ay bl =>Lt fun az bm =>Lt fun aA bn =>Lt fun aB bo =>Lt fun aC bp =>Lt fun aD bq =>Lt fun aE br =>Lt fun aF bs =>Lt fun aG bt =>Te (σ':=[.box (i64 k :: i64 m :: (C1 u8 n.l ++ i64 o :: i64 p :: i64 q :: i64 s :: i64 t :: i64 u :: i64 w :: i64 x :: i64 y :: i64 z :: i64 aa :: i64 ab :: i64 ac :: i64 ad :: i64 ae :: .str af :: .sl false (L Aj ag) :: u64 ah :: u64 ai :: i64 aj :: i64 ak :: (C1 u8 al.l ++ [i64 am,i64 an,i64 ao,i64 ap,i64 aq,i64 ar,i64 au,i64 av,i64 aw,i64 ax,i64 ay,i64 az,i64 aA,i64 aB,i64 aC,.str aD,.sl false (L Aj aE),u64 aF,u64 aG]))) false]) [1,4,6,8,9,10] Aa (Ev (by simp only [go_sem,qR aL,aM,aN,aO,aP,aQ,aR,aS,aT,aU,aV,aW,aX,aY,aZ,a0,a1,a2,a3,a4,a5,a6,a7,a8,a9,ba,bb,bc,bd,be,bf,bg,bh,bi,bj,bk,bl,bm,bn,bo,bp,bq,br,bs,bt];exact Al)) ?_
    refine Tw [1,4,6,8,9,10,35] (fun aH => ⟨Ar 41 [(1,i64 b),(4,i64 e),(6,.ref 0 0),(8,.sl false (L Ax a.Zz1)),(9,i64 (a.Zz1.length : Int)),(10,i64 f),(35,.bool aH)],[.box (i64 k :: i64 m :: (C1 u8 n.l ++ i64 o :: i64 p :: i64 q :: i64 s :: i64 t :: i64 u :: i64 w :: i64 x :: i64 y :: i64 z :: i64 aa :: i64 ab :: i64 ac :: i64 ad :: i64 ae :: .str af :: .sl false (L Aj ag) :: u64 ah :: u64 ai :: i64 aj :: i64 ak :: (C1 u8 al.l ++ [i64 am,i64 an,i64 ao,i64 ap,i64 aq,i64 ar,i64 au,i64 av,i64 aw,i64 ax,i64 ay,i64 az,i64 aA,i64 aB,i64 aC,.str aD,.sl false (L Aj aE),u64 aF,u64 aG]))) false]⟩) ?_ ?_
    ·intro _
     refine Sp (fun c => ?_) fun c => ?_
     ·refine Sp (fun d => ?_) fun d => ?_
      ·refine Sp (fun g => ?_) fun g => ?_
       ·exact Lf Aa (Ev (by simp only [go_sem,c,d,g];exact Al)) (ws [0])
       ·exact Lf Aa (Ev (by simp only [go_sem,c,d,g];exact Al)) (ws [0])
      ·exact Lf Aa (Ev (by simp only [go_sem,c,d];exact Al)) (ws [0])
     ·exact Lf Aa (Ev (by simp only [go_sem,c];exact Al)) (ws [0])
    intro aH
    refine Cd ?_ ?_
    ·refine F0 [1,4,8,9,10] ?_
     exact Bn <|Jm (ws [])
    ·exact Sk <|Bn <|Jm (ws [])
   intro j
   refine F0 [1,4,8,9,10] ?_
   exact Ln (ws [])
  ·refine Sx <|Tx <|Ly aK aJ <|Bx <|?_
   exact Jm ((ws (l':=[(4,i64 e)]) (σ':=[]) []).trans (ws []))
 intro i
 refine T0 [4] ?_
 exact Sr <|Rr
theorem Ts {a r} (h : Nt a = some r) : Con B 22 [.agg (Ap a)] [] (fun r' σ' => r' = .agg (Ap r)∧σ' = []):=by
 refine Cw 34 [.cell 2 40] Tryd.func22 (fun F hE => ?_) h
 unfold Nt
 refine T0 [1,2] ?_
 refine Ja (fun c => ⟨Ar 34 [(2,.ref 0 0)],[.box [.bs false 1 (c.length) 0 (c.length),.sl true (L Ax ([]))] false,.buf 1 (L (cSl Ak) c) false]⟩) ?_ ?_
 ·intro u
  refine T0 [1,2,7,8,9] ?_
  refine Sb ?_
  refine Lo (fun (v : Int×List (List Api_Record)) => (⟨Ar 34 [(1,.ref 0 0),(2,.ref 1 0),(7,.sl false (L (cSl Ak) a.Zy1)),(8,i64 (a.Zy1.length : Int)),(9,i64 v.1)],[.box (Ap a) false,.box [.bs false 2 (v.2.length) 0 (v.2.length),.sl true (L Ax ([]))] false,.buf 1 (L (cSl Ak) v.2) false]⟩ : St)) ((Kz 1 0 1 rfl rfl).trans (ws [0,1,2])) ?_
  rintro ⟨e,b⟩ w g i j
  show Ks a e b = some g→_
  unfold Ks
  refine T0 [1,2,7,8,9,10] ?_
  refine Sq <|Cd ?_ ?_
  ·refine Sk <|Tn <|Sq <|Sb <|Ck fun k =>Lt fun l m =>Te (fr':=[(1,_),(2,_),(3,_),(4,.sl false (L Ak l)),(7,_),(8,_),(9,_)]) [1,2,3,4,7,8,9] Aa (Ev (by simp only [go_sem,qR k,m];exact Al)) ?_
   refine Ja (fun f => ⟨Ar 34 [(1,.ref 0 0),(2,.ref 1 0),(4,.sl false (L Ak f)),(7,.sl false (L (cSl Ak) a.Zy1)),(8,i64 (a.Zy1.length : Int)),(9,i64 e)],[.box (Ap a) false,.box [.bs false 2 (b.length) 0 (b.length),.sl true (L Ax ([]))] false,.buf 1 (L (cSl Ak) b) false]⟩) ?_ ?_
   ·intro x
    refine Bd fun y n =>Te [1,2,4,5,7,8,9] (o1 16 (Dp n)) Ev ?_
    refine T0 [1,2,4,5,7,8,9,18] ?_
    refine Cd ?_ ?_
    ·refine Ck fun o =>Lt fun p q =>Fe (fr':=[(1,_),(2,_),(4,.sl false (L Ak p)),(7,_),(8,_),(9,_)]) [1,2,4,7,8,9] Aa (Ev (by simp only [go_sem,o,q];exact Al)) ?_
     exact Jm (ws [0,1,2])
    ·exact Sk <|Jm (ws [0,1,2])
   intro f
   refine Ck fun s =>Lt fun d t =>Fe (σ':=[_,.box [.bs false 2 (d.length) 0 (d.length),.sl true (L Ax ([]))] false,.buf 1 (L (cSl Ak) d) false,_]) [1,2,7,8,9] Aa (Ev (by simp only [go_sem,s,t];exact Al)) ?_
   refine Bn <|Tn <|F0 [1,2,7,8,9] ?_
   exact Ln (ws [0,1,2])
  ·refine Sx <|Tx <|Ly j i <|Bx <|?_
   exact Jm ((ws (l':=[(2,.ref 0 0)]) (σ':=[.box [.bs false 1 (b.length) 0 (b.length),.sl true (L Ax ([]))] false,.buf 1 (L (cSl Ak) b) false]) [1,2]).trans (ws [0,1]))
 intro c
 refine T0 [2] ?_
 exact Sr <|Rr
theorem Ta {a r} (h : Up a = some r) : Con B 50 [.agg (Ap a)] [] (fun r' σ' => r' = .fn 74 [.ref 0 0]∧σ' = [.box (Ap r) false]):=by
 refine Co 0 4 [.tmp 2] Tryd.func50 (fun F hE => ?_) h
 unfold Up
 refine T0 [1] ?_
 refine T0 [2] ?_
 exact Sr <|Ro [0]
theorem Amc {F : Out} {σ : Am} {id : Nat} {a b : Int} {x : AV} : Ab4 (B.env F) σ 119 (.mref id) (.agg [i64 a,i64 b]) x = (if Abo a b then (match σ[id]? with
    | some (.mp es) => if x.closed = true then some (σ.set id (.mp (Tk es (a,b) x))) else none
    | _ => none) else none):=Aia rfl rfl
attribute [local go_sem] Amc
theorem Fc {n r} (h : Cq n = some r) : Con B 23 [.agg (Ap n)] [] (fun r' σ' => r' = .sl false (L A3 r)∧σ' = []):=by
 refine Cm 78 [.cell 2 85] Tryd.func23 (fun F b_ hE => ?_) h
 unfold Cq
 refine T0 [1,2] ?_
 refine Bd fun c aq =>Te [2,3] (o1 14 (Ts aq)) Ev ?_
 refine T0 [2,3,4] ?_
 refine T0 [2,3,4,5] ?_
 refine Sq <|Bd fun d ar =>Te [2,3,4,5,17] (As (l:=[]) (m:=[(17,50,[.agg (Ap c)],[.box (Ap n) false,.box [.sl true (L A3 ([]))] false,.box (Ap c) false,.box [i64 0,i64 0] false,.mp (M2 Hn ([])),.box [.mref 4] false],_,_)]) trivial ⟨(wc (Ta ar) []),trivial⟩) Ev ?_
 refine Sb ?_
 refine Rw (ws (l':=[(2,.ref 0 0),(3,.ref 1 0),(4,.ref 2 0),(5,.ref 3 0),(17,.fn 74 [.ref 4 0])]) (σ':=[.box [.sl true (L A3 ([]))] false,.box (Ap c) false,.box [i64 0,i64 0] false,.box [.mref 5] false,.box (Ap d) false,.mp (M2 Hn ([]))]) [1,2,3,5,6,4]) ?_
 refine Bd ?_
 rintro b hx_x_9418 hP_x_9418
 refine Ra (fun (v : List ((Int×Int)×Api_Report)) => [.box [.sl true (L A3 ([]))] false,.box (Ap c) false,.box [i64 0,i64 0] false,.box [.mref 5] false,.box (Ap d) false,.mp (M2 Hn v)]) [(4,.ref 2 0),(5,.ref 3 0)] 6 [.box [.sl true (L A3 ([]))] false,.box (Ap c) false,.box [i64 0,i64 0] false,.box [.mref 5] false,.box (Ap d) false,.mp (M2 Hn ([]))] [.box [.sl true (L A3 ([]))] false,.box (Ap c) false,.box [i64 0,i64 0] false,.box [.mref 5] false,.box (Ap d) false,.mp (M2 Hn b),.gone] ?_ ?_ hx_x_9418 (⟨⟨by decide,rfl⟩,⟨by decide,rfl⟩,trivial⟩)
 ·intro lp_ ac_ bd_
  rintro b j k f v_
  show Ku b j k f = some v_→Run _ _ _ ⟨Ar 78 [(19,.agg (Ak f)),(18,.agg [i64 j,i64 k]),(4,.ref 2 0),(5,.ref 3 0)],[.box [.sl true (L A3 ([]))] false,.box (Ap c) false,.box [i64 0,i64 0] false,.box [.mref 5] false,.box (Ap d) false,.mp (M2 Hn b),.lp false 78 [(4,.ref 2 0),(5,.ref 3 0)] #[18,19] ac_ bd_,.box (Ak f) false]⟩ _
  have hE:=ok.env { F:=F,rd:=some lp_ }
  unfold Ku
  refine T0 [4,5,6,19] ?_
  refine F0 [4,5,6,7] ?_
  refine Wp (Weak.refl _ _) ?_
  refine Yb (N':=0) [.box [.sl true (L A3 ([]))] false,.box (Ap c) false,.box [i64 0,i64 0] false,.box [.mref 5] false,.box (Ap d) false,.mp (M2 Hn b),.lp true 78 [(4,.ref 2 0),(5,.ref 3 0)] #[18,19] ac_ bd_,.box (Ak f) false,.box [i64 j,i64 k] false,.box (Ak f) false] ?_
  refine Sb <|T0 [4,5,6,7,8] ?_
  refine Tw [5,6,7,8,32] (fun s => ⟨Ar 78 [(5,.ref 3 0),(6,.ref 7 0),(7,.ref 8 0),(8,.ref 9 0),(32,.bool s)],[.box [.sl true (L A3 ([]))] false,.box (Ap c) false,.box [i64 0,i64 0] false,.box [.mref 5] false,.box (Ap d) false,.mp (M2 Hn b),.lp true 78 [(4,.ref 2 0),(5,.ref 3 0)] #[18,19] ac_ bd_,.box [i64 j,i64 k] false,.box (Ak f) false,.box [i64 f.Zx1.Ref.Zb,i64 f.Zx1.Ref.No] false]⟩) ?_ ?_
  ·intro _
   refine Sp (fun o => ?_) fun o => ?_
   ·exact Lf Aa (Ev (by simp only [go_sem,o];exact Al)) (ws [0,1,2,3,4,5,6,8,9,10])
   ·exact Lf Aa (Ev (by simp only [go_sem,o];exact Al)) (ws [0,1,2,3,4,5,6,8,9,10])
  intro s
  refine Cd ?_ ?_
  ·refine Ck fun au =>Lt fun t av =>Fe (σ':=[_,_,_,_,_,.mp (M2 Hn t),_,_,_,_]) [] Aa (Ev (by simp only [go_sem,au,av];exact Al)) ?_
   refine Bn ?_
   refine Wp (ws (l':=[]) (σ':=[.box [.sl true (L A3 ([]))] false,.box (Ap c) false,.box [i64 0,i64 0] false,.box [.mref 5] false,.box (Ap d) false,.mp (M2 Hn t),.lp true 78 [(4,.ref 2 0),(5,.ref 3 0)] #[18,19] ac_ bd_]) [0,1,2,3,4,5,6]) ?_
   exact Yf
  ·refine Sk <|Bn <|?_
   refine Wp (ws (l':=[]) (σ':=[.box [.sl true (L A3 ([]))] false,.box (Ap c) false,.box [i64 0,i64 0] false,.box [.mref 5] false,.box (Ap d) false,.mp (M2 Hn b),.lp true 78 [(4,.ref 2 0),(5,.ref 3 0)] #[18,19] ac_ bd_]) [0,1,2,3,4,5,6]) ?_
   exact Yf
 ·revert hP_x_9418
  refine Bn <|Tn <|?_
  refine Rw (ws (l':=[(2,.ref 0 0),(3,.ref 1 0),(4,.ref 2 0),(5,.ref 3 0)]) (σ':=[.box [.sl true (L A3 ([]))] false,.box (Ap c) false,.box [i64 0,i64 0] false,.box [.mref 5] false,.box (Ap d) false,.mp (M2 Hn b)]) [0,1,2,3,4,5]) ?_
  refine Sq <|Bd fun e aw =>Te [2,4,5,43] (As (l:=[]) (m:=[(43,50,[.agg (Ap c)],[.box [.sl true (L A3 ([]))] false,.box (Ap c) false,.box [i64 0,i64 0] false,.box [.mref 5] false,.box (Ap d) false,.mp (M2 Hn b)],_,_)]) trivial ⟨(wc (Ta aw) []),trivial⟩) Ev ?_
  refine Sb ?_
  refine Rw ((Kz 0 0 21 rfl rfl).trans (ws (l':=[(2,.ref 0 0),(4,.ref 1 0),(5,.ref 2 0),(43,.fn 74 [.ref 3 0])]) (σ':=[.box [.bs false 4 (([] : List Api_Report).length) 0 (([] : List Api_Report).length)] false,.box [i64 0,i64 0] false,.box [.mref 5] false,.box (Ap e) false,.buf 21 (L A3 ([])) false,.mp (M2 Hn b)]) [0,2,3,6,7,5])) ?_
  refine Bd ?_
  rintro a hx_x_9587 hP_x_9587
  refine Ra (fun (v : List Api_Report) => [.box [.bs false 4 (v.length) 0 (v.length)] false,.box [i64 0,i64 0] false,.box [.mref 5] false,.box (Ap e) false,.buf 21 (L A3 v) false,.mp (M2 Hn b)]) [(2,.ref 0 0),(4,.ref 1 0),(5,.ref 2 0)] 6 [.box [.bs false 4 (([] : List Api_Report).length) 0 (([] : List Api_Report).length)] false,.box [i64 0,i64 0] false,.box [.mref 5] false,.box (Ap e) false,.buf 21 (L A3 ([])) false,.mp (M2 Hn b)] [.box [.bs false 4 (a.length) 0 (a.length)] false,.box [i64 0,i64 0] false,.box [.mref 5] false,.box (Ap e) false,.buf 21 (L A3 a) false,.mp (M2 Hn b),.gone] ?_ ?_ hx_x_9587 (⟨⟨by decide,rfl⟩,⟨by decide,rfl⟩,⟨by decide,rfl⟩,trivial⟩)
  ·intro lp_ ac_ bd_
   rintro a p q i v_
   show Ki b a p q i = some v_→Run _ _ _ ⟨Ar 78 [(45,.agg (Ak i)),(44,.agg [i64 p,i64 q]),(2,.ref 0 0),(4,.ref 1 0),(5,.ref 2 0)],[.box [.bs false 4 (a.length) 0 (a.length)] false,.box [i64 0,i64 0] false,.box [.mref 5] false,.box (Ap e) false,.buf 21 (L A3 a) false,.mp (M2 Hn b),.lp false 78 [(2,.ref 0 0),(4,.ref 1 0),(5,.ref 2 0)] #[44,45] ac_ bd_,.box (Ak i) false]⟩ _
   have hE:=ok.env { F:=F,rd:=some lp_ }
   unfold Ki
   refine T0 [2,4,5,9,45] ?_
   refine F0 [2,4,5,9,10] ?_
   refine Wp (Weak.refl _ _) ?_
   refine Yb (N':=0) [.box [.bs false 4 (a.length) 0 (a.length)] false,.box [i64 0,i64 0] false,.box [.mref 5] false,.box (Ap e) false,.buf 21 (L A3 a) false,.mp (M2 Hn b),.lp true 78 [(2,.ref 0 0),(4,.ref 1 0),(5,.ref 2 0)] #[44,45] ac_ bd_,.box (Ak i) false,.box [i64 p,i64 q] false,.box (Ak i) false] ?_
   refine Sb <|Sq <|Lt fun ax ay =>Te (fr':=[(2,_),(4,_),(5,_),(9,_),(10,_),(50,.bool ax)]) [2,4,5,9,10,50] Aa (Ev (by simp only [go_sem,ay];exact Al)) ?_
   refine Cd ?_ ?_
   ·refine Sx <|Tx <|Bx <|?_
    refine Wp (ws (l':=[]) (σ':=[.box [.bs false 4 (a.length) 0 (a.length)] false,.box [i64 0,i64 0] false,.box [.mref 5] false,.box (Ap e) false,.buf 21 (L A3 a) false,.mp (M2 Hn b),.lp true 78 [(2,.ref 0 0),(4,.ref 1 0),(5,.ref 2 0)] #[44,45] ac_ bd_]) [0,1,2,3,4,5,6]) ?_
    exact Yf
   ·refine Sk <|Tn <|Ck fun az =>Lt fun aA aB =>Lt fun aC aD =>Lt fun aE aF =>Lt fun aG aH =>Lt fun aI aJ =>Lt fun aK aL =>Lt fun aM aN =>Lt fun aO aP =>Lt fun aQ aR =>Lt fun aS aT =>Lt fun aU aV =>Lt fun aW aX =>Lt fun aY aZ =>Lt fun a0 a1 =>Lt fun a2 a3 =>Lt fun a4 a5 =>Lt fun a6 a7 =>Lt fun a8 a9 =>Lt fun ba bb =>Lt fun bc bd =>Lt fun be bf =>Lt fun bg bh =>Te (fr':=[(2,_),(4,_),(9,_),(10,_),(11,_),(12,.bool aA)]) (σ':=[_,_,_,_,_,_,_,_,_,_,.box [i64 aC,i64 aE,i64 aG,i64 aI,i64 aK,i64 aM,i64 aO,i64 aQ,i64 aS,i64 aU,i64 aW,i64 aY,i64 a0,i64 a2,i64 a4,i64 a6,i64 a8,i64 ba,i64 bc,.str be,.sl false (L Aj bg)] false]) [2,4,9,10,11,12] Aa (Ev (by simp only [go_sem,az,aB,aD,aF,aH,aJ,aL,aN,aP,aR,aT,aV,aX,aZ,a1,a3,a5,a7,a9,bb,bd,bf,bh];exact Al)) ?_
    refine Jo (fun ⟨u,w,x,y,z,aa,ab,ac,ad,ae,af,ag,ah,ai,aj,ak,al,am,an,ao,ap⟩ => ⟨Ar 78 [(2,.ref 0 0),(4,.ref 1 0),(11,.ref 7 0)],[.box [.bs false 4 (a.length) 0 (a.length)] false,.box [i64 0,i64 0] false,.box [.mref 5] false,.box (Ap e) false,.buf 21 (L A3 a) false,.mp (M2 Hn b),.lp true 78 [(2,.ref 0 0),(4,.ref 1 0),(5,.ref 2 0)] #[44,45] ac_ bd_,.box [i64 u,i64 w,i64 x,i64 y,i64 z,i64 aa,i64 ab,i64 ac,i64 ad,i64 ae,i64 af,i64 ag,i64 ah,i64 ai,i64 aj,i64 ak,i64 al,i64 am,i64 an,.str ao,.sl false (L Aj ap)] false]⟩) ?_ ?_
    ·intro bl bi
     refine T0 [2,4,9,10,11,58] ?_
     refine Cd ?_ ?_
     ·refine F0 [2,4,11] ?_
      exact Jn (ws [0,1,2,3,4,5,6,10])
     ·refine T0 [2,4,11,69] ?_
      refine Cd ?_ ?_
      ·refine Sx <|Jx bi <|Bx <|?_
       refine Wp (ws (l':=[]) (σ':=[.box [.bs false 4 (a.length) 0 (a.length)] false,.box [i64 0,i64 0] false,.box [.mref 5] false,.box (Ap e) false,.buf 21 (L A3 a) false,.mp (M2 Hn b),.lp true 78 [(2,.ref 0 0),(4,.ref 1 0),(5,.ref 2 0)] #[44,45] ac_ bd_]) [0,1,2,3,4,5,6]) ?_
       exact Yf
      ·exact Sk <|Jn (ws [0,1,2,3,4,5,6,10])
    rintro ⟨u,w,x,y,z,aa,ab,ac,ad,ae,af,ag,ah,ai,aj,ak,al,am,an,ao,ap⟩
    refine T0 [2,11] ?_
    refine Ck fun bj =>Lt fun g bk =>Fe (σ':=[.box [.bs false 4 (g.length) 0 (g.length)] false,_,_,_,.buf 21 (L A3 g) false,_,_,_,_]) [] Aa (Ev (by simp only [go_sem,bj,bk];exact Al)) ?_
    refine Bn ?_
    refine Wp (ws (l':=[]) (σ':=[.box [.bs false 4 (g.length) 0 (g.length)] false,.box [i64 0,i64 0] false,.box [.mref 5] false,.box (Ap e) false,.buf 21 (L A3 g) false,.mp (M2 Hn b),.lp true 78 [(2,.ref 0 0),(4,.ref 1 0),(5,.ref 2 0)] #[44,45] ac_ bd_]) [0,1,2,3,4,5,6]) ?_
    exact Yf
  ·revert hP_x_9587
   refine Bn <|Tn <|?_
   refine Rw (ws (l':=[(2,.ref 0 0)]) (σ':=[.box [.bs false 4 (a.length) 0 (a.length)] false,.box [i64 0,i64 0] false,.box [.mref 5] false,.box (Ap e) false,.buf 21 (L A3 a) false,.mp (M2 Hn b)]) [0,1,2,3,4,5]) ?_
   refine T0 [2] ?_
   exact Sr <|Rr
theorem Xx {r} (h : law14_sane  = some r) : Con B 7 [] [] (fun r' σ' => r' = .bool r∧σ' = []):=by
 refine Cw 203 [.tmp 0] Tryd.func7 (fun F hE => ?_) h
 unfold law14_sane
 refine T0 [] ?_
 refine Bd fun aF al =>Te [1] (o1 25 (Wb al)) Ev ?_
 refine T0 [1,2] ?_
 refine Bd fun aG am =>Bd fun aH an =>De [[],[],[],[0,1,2],[0,1,2,3],[0,1,2,3,4],[0,1,2,3,4],[],[0,1,2,3,4,5,7],[0,1,2,3,4,5,6,7,8]] [1,2,3,4] (o2 30 (G7 am) 31 (E9 an)) Ev ?_
 refine Bd fun ao ap =>Te [1,2,3,4,5,6] (o1 38 (E0 ap)) Ev ?_
 refine Bd fun aI aq =>Te [1,2,3,4,5,6,7,8] (o1 45 (E0 aq)) Ev ?_
 refine Bd fun aJ ar =>Bd fun aK au =>De [[],[],[],[0,1,2],[0,1,2,3],[0,1,2,3,4],[0,1,2,3,4],[],[0,1,2,3,4,5,7],[0,1,2,3,4,5,6,7,8]] [1,2,3,4,5,6,7,8,10] (o2 51 (G7 ar) 52 (E9 au)) Ev ?_
 refine Bd fun aL av =>Bd fun aw ax =>De [[],[],[],[0,1,2],[0,1,2,3],[0,1,2,3,4],[0,1,2,3,4],[],[0,1,2,3,4,5,7],[0,1,2,3,4,5,6,7,8]] [1,2,3,4,5,6,7,8,10,11,12] (o2 58 (G7 av) 59 (E9 ax)) Ev ?_
 refine Bd fun ac ay =>Te [1,2,3,4,5,6,7,8,10,12,13,14] (o1 66 (E0 ay)) Ev ?_
 refine Bd fun aM az =>Bd fun ad aA =>De [[],[],[],[0,1,2],[0,1,2,3],[0,1,2,3,4],[0,1,2,3,4],[],[0,1,2,3,4,5,7],[0,1,2,3,4,5,6,7,8]] [1,2,3,4,5,6,7,8,10,12,13,14,16] (o2 72 (G7 az) 73 (E9 aA)) Ev ?_
 refine Bd fun ae aB =>Te [1,2,3,4,5,6,7,8,10,12,13,14,16,17,18] (o1 81 (E9 aB)) Ev ?_
 refine Bd fun q aC =>Te [1,2,3,4,5,6,7,8,10,12,13,14,16,18,19,20] (o1 88 (E0 aC)) Ev ?_
 refine Bd fun af aD =>Te [3,4,5,6,7,8,10,12,13,14,16,18,19,20,22] (o1 96 (E9 aD)) Ev ?_
 refine Tw [5,12,13,14,16,18,19,20,22,23] (fun x => ⟨Ar 203 [(5,.ref 0 0),(12,i64 aw.2),(13,.ref 1 0),(14,i64 ac.2),(16,i64 ad.2),(18,i64 ae.2),(19,.ref 2 0),(20,i64 q.2),(22,i64 af.2),(23,.bool x)],[.box (Ap ao.1) false,.box (Ap ac.1) false,.box (Ap q.1) false]⟩) ?_ ?_
 ·intro _
  refine Sp (fun a => ?_) fun a => ?_
  ·refine Sp (fun b => ?_) fun b => ?_
   ·refine Sp (fun c => ?_) fun c => ?_
    ·refine Sp (fun f => ?_) fun f => ?_
     ·refine Sp (fun j => ?_) fun j => ?_
      ·refine Ck fun s => ?_
       refine Sp (fun n => ?_) fun n => ?_
       ·refine Sp (fun t => ?_) fun t => ?_
        ·refine Bd fun aN ag => ?_
         refine Sp (fun y => ?_) fun y => ?_
         ·exact Lf (o1 137 (S3 ag)) (Ev (by simp only [go_sem,a,b,Oc,Pj,Lj,c,f,j,qL s,n,t,y];exact Al)) (ws [3,7,10])
         ·exact Lf (o1 137 (S3 ag)) (Ev (by simp only [go_sem,a,b,Oc,Pj,Lj,c,f,j,qL s,n,t,y];exact Al)) (ws [3,7,10])
        ·exact Lf Aa (Ev (by simp only [go_sem,a,b,Oc,Pj,Lj,c,f,j,qL s,n,t];exact Al)) (ws [3,7,10])
       ·exact Lf Aa (Ev (by simp only [go_sem,a,b,Oc,Pj,Lj,c,f,j,qL s,n];exact Al)) (ws [3,7,10])
      ·exact Lf Aa (Ev (by simp only [go_sem,a,b,Oc,Pj,Lj,c,f,j];exact Al)) (ws [3,7,10])
     ·exact Lf Aa (Ev (by simp only [go_sem,a,b,Oc,Pj,Lj,c,f];exact Al)) (ws [3,7,10])
    ·exact Lf Aa (Ev (by simp only [go_sem,a,b,Oc,Pj,Lj,c];exact Al)) (ws [3,7,10])
   ·exact Lf Aa (Ev (by simp only [go_sem,a,b];exact Al)) (ws [3,7,10])
  ·exact Lf Aa (Ev (by simp only [go_sem,a];exact Al)) (ws [3,7,10])
 intro x
 refine Tw [16,18,19,20,22,23,24] (fun ah => ⟨Ar 203 [(16,i64 ad.2),(18,i64 ae.2),(19,.ref 0 0),(20,i64 q.2),(22,i64 af.2),(23,.bool x),(24,.bool ah)],[.box (Ap q.1) false]⟩) ?_ ?_
 ·intro _
  refine Sp (fun d => ?_) fun d => ?_
  ·refine Sp (fun g => ?_) fun g => ?_
   ·refine Sp (fun k => ?_) fun k => ?_
    ·refine Bd fun aO u => ?_
     refine Sp (fun o => ?_) fun o => ?_
     ·refine Bd fun aP z => ?_
      refine Sp (fun v => ?_) fun v => ?_
      ·refine Bd fun aQ ai => ?_
       refine Sp (fun aa => ?_) fun aa => ?_
       ·refine Bd fun aR aE => ?_
        exact Lf (Iv (l:=[(157,_,_,_),(162,_,_,_),(167,_,_,_),(173,_,_,_)]) ⟨Dp  u,Dp  z,Fc  ai,Fc  aE,trivial⟩) (Ev (by simp only [go_sem,d,g,k,o,v,aa];exact Al)) (ws [2])
       ·exact Lf (Iv (l:=[(157,_,_,_),(162,_,_,_),(167,_,_,_)]) ⟨Dp  u,Dp  z,Fc  ai,trivial⟩) (Ev (by simp only [go_sem,d,g,k,o,v,aa];exact Al)) (ws [2])
      ·exact Lf (o2 157 (Dp u) 162 (Dp z)) (Ev (by simp only [go_sem,d,g,k,o,v];exact Al)) (ws [2])
     ·exact Lf (o1 157 (Dp u)) (Ev (by simp only [go_sem,d,g,k,o];exact Al)) (ws [2])
    ·exact Lf Aa (Ev (by simp only [go_sem,d,g,k];exact Al)) (ws [2])
   ·exact Lf Aa (Ev (by simp only [go_sem,d,g];exact Al)) (ws [2])
  ·exact Lf Aa (Ev (by simp only [go_sem,d];exact Al)) (ws [2])
 intro ah
 refine Tw [0] (fun aj => ⟨Ar 203 [(0,.bool aj)],[]⟩) ?_ ?_
 ·intro _
  refine Sp (fun e => ?_) fun e => ?_
  ·refine Sp (fun i => ?_) fun i => ?_
   ·refine Sp (fun m => ?_) fun m => ?_
    ·refine Sp (fun p => ?_) fun p => ?_
     ·refine Sp (fun w => ?_) fun w => ?_
      ·refine Bd fun aS ak => ?_
       refine Sp (fun ab => ?_) fun ab => ?_
       ·exact Lf (o1 195 (Fc ak)) (Ev (by simp only [go_sem,e,i,m,p,w,ab];exact Al)) (ws [])
       ·exact Lf (o1 195 (Fc ak)) (Ev (by simp only [go_sem,e,i,m,p,w,ab];exact Al)) (ws [])
      ·exact Lf Aa (Ev (by simp only [go_sem,e,i,m,p,w];exact Al)) (ws [])
     ·exact Lf Aa (Ev (by simp only [go_sem,e,i,m,p];exact Al)) (ws [])
    ·exact Lf Aa (Ev (by simp only [go_sem,e,i,m];exact Al)) (ws [])
   ·exact Lf Aa (Ev (by simp only [go_sem,e,i];exact Al)) (ws [])
  ·exact Lf Aa (Ev (by simp only [go_sem,e];exact Al)) (ws [])
 intro aj
 exact Sr <|Rr
theorem Mr {a r} (h : L4 a = some r) : Con B 8 [.agg (Aw a)] [] (fun r' σ' => r' = .bool r∧σ' = []):=by
 refine Cw 86 [.tmp 2] Tryd.func8 (fun F hE => ?_) h
 unfold L4
 refine T0 [1] ?_
 refine Jo (fun _ => ⟨Ar 86 [(1,.ref 0 0)],[.box (Aw a) false]⟩) ?_ ?_
 ·intro y t
  refine T0 [1,3] ?_
  refine Sb ?_
  refine Lo (fun e => ⟨Ar 86 [(1,.ref 0 0),(3,i64 e)],[.box (Aw a) false]⟩) (ws [0]) ?_
  rintro e z u n o
  show Je a e = some u→_
  unfold Je
  refine Sq ?_
  refine Tw [1,3,14] (fun p => ⟨Ar 86 [(1,.ref 0 0),(3,i64 e),(14,.bool p)],[.box (Aw a) false]⟩) ?_ ?_
  ·intro _
   refine Sp (fun i => ?_) fun i => ?_
   ·exact Lf Aa (Ev (by simp only [go_sem,i];exact Al)) (ws [0])
   ·exact Lf Aa (Ev (by simp only [go_sem,i];exact Al)) (ws [0])
  intro p
  refine Cd ?_ ?_
  ·refine Sk <|Tn <|Sq <|Sb <|Ck fun v =>Lt fun w x =>Te (fr':=[(1,_),(3,_),(25,.bool w)]) [1,3,25] Aa (Ev (by simp only [go_sem,qR v,x];exact Al)) ?_
   refine Cd ?_ ?_
   ·refine T0 [2] ?_
    exact Sr <|Br <|Tr <|Lr o n <|Br <|Jr t <|Rr
   ·refine Sk <|Bn <|Tn <|F0 [1,3] ?_
    exact Ln (ws [0])
  ·refine Sx <|Tx <|Lx o n <|Bx <|?_
   exact Jn ((ws (l':=[(1,.ref 0 0)]) (σ':=[.box (Aw a) false]) [0]).trans (ws [0]))
 intro _
 refine Tw [1,4] (fun j => ⟨Ar 86 [(1,.ref 0 0),(4,.bool j)],[.box (Aw a) false]⟩) ?_ ?_
 ·intro _
  refine Sp (fun k => ?_) fun k => ?_
  ·exact Lf Aa (Ev (by simp only [go_sem,k];exact Al)) (ws [0])
  ·exact Lf Aa (Ev (by simp only [go_sem,k];exact Al)) (ws [0])
 intro j
 refine Tw [1,4,5] (fun q => ⟨Ar 86 [(1,.ref 0 0),(4,.bool j),(5,.bool q)],[.box (Aw a) false]⟩) ?_ ?_
 ·intro _
  refine Sp (fun c => ?_) fun c => ?_
  ·refine Sp (fun f => ?_) fun f => ?_
   ·refine Sp (fun l => ?_) fun l => ?_
    ·exact Lf Aa (Ev (by simp only [go_sem,c,f,l];exact Al)) (ws [0])
    ·exact Lf Aa (Ev (by simp only [go_sem,c,f,l];exact Al)) (ws [0])
   ·exact Lf Aa (Ev (by simp only [go_sem,c,f];exact Al)) (ws [0])
  ·exact Lf Aa (Ev (by simp only [go_sem,c];exact Al)) (ws [0])
 intro q
 refine Tw [2] (fun s => ⟨Ar 86 [(2,.bool s)],[]⟩) ?_ ?_
 ·intro _
  refine Sp (fun b => ?_) fun b => ?_
  ·refine Sp (fun d => ?_) fun d => ?_
   ·refine Sp (fun g => ?_) fun g => ?_
    ·refine Sp (fun m => ?_) fun m => ?_
     ·exact Lf Aa (Ev (by simp only [go_sem,b,d,g,m];exact Al)) (ws [])
     ·exact Lf Aa (Ev (by simp only [go_sem,b,d,g,m];exact Al)) (ws [])
    ·exact Lf Aa (Ev (by simp only [go_sem,b,d,g];exact Al)) (ws [])
   ·exact Lf Aa (Ev (by simp only [go_sem,b,d];exact Al)) (ws [])
  ·exact Lf Aa (Ev (by simp only [go_sem,b];exact Al)) (ws [])
 intro s
 exact Sr <|Rr
theorem Gj {b r} (h : E5 b = some r) : Con B 10 [.agg (A5 b)] [] (fun r' σ' => r' = .bool r∧σ' = []):=by
 refine Cw 13 [.tmp 2] Tryd.func10 (fun F hE => ?_) h
 unfold E5
 refine T0 [1] ?_
 refine Tw [2] (fun c => ⟨Ar 13 [(2,.bool c)],[]⟩) ?_ ?_
 ·intro _
  refine Sp (fun a => ?_) fun a => ?_
  ·exact Lf Aa (Ev (by simp only [go_sem,a];exact Al)) (ws [])
  ·exact Lf Aa (Ev (by simp only [go_sem,a];exact Al)) (ws [])
 intro c
 exact Sr <|Rr
theorem Nj {a r} (h : Ir a = some r) : Con B 9 [.agg (Ap a)] [] (fun r' σ' => r' = .bool r∧σ' = []):=by
 refine Cw 78 [.tmp 2] Tryd.func9 (fun F hE => ?_) h
 unfold Ir
 refine T0 [1] ?_
 refine Sq ?_
 refine Tw [1,15] (fun j => ⟨Ar 78 [(1,.ref 0 0),(15,.bool j)],[.box (Ap a) false]⟩) ?_ ?_
 ·intro _
  refine Sp (fun d => ?_) fun d => ?_
  ·exact Lf Aa (Ev (by simp only [go_sem,d];exact Al)) (ws [0])
  ·exact Lf Aa (Ev (by simp only [go_sem,d];exact Al)) (ws [0])
 intro j
 refine Cd ?_ ?_
 ·refine T0 [2] ?_
  exact Sr <|Tr <|Rr
 ·refine Sk <|Tn <|?_
  refine Jo (fun _ => ⟨Ar 78 [(1,.ref 0 0)],[.box (Ap a) false]⟩) ?_ ?_
  ·intro aj k
   refine T0 [1,3] ?_
   refine Sb ?_
   refine Lo (fun b => ⟨Ar 78 [(1,.ref 0 0),(3,i64 b)],[.box (Ap a) false]⟩) (ws [0]) ?_
   rintro b ak u e f
   show Fl a b = some u→_
   unfold Fl
   refine Sq <|T0 [1,3,20] ?_
   refine Cd ?_ ?_
   ·refine Sk <|Tn <|?_
    refine Jo (fun _ => ⟨Ar 78 [(1,.ref 0 0),(3,i64 b)],[.box (Ap a) false]⟩) ?_ ?_
    ·intro al l
     refine Sb <|Sq <|Ck fun v =>Lt fun w x =>Te (fr':=[(1,_),(3,_),(29,.bool w)]) [1,3,29] Aa (Ev (by simp only [go_sem,qR v,x];exact Al)) ?_
     refine Cd ?_ ?_
     ·refine T0 [2] ?_
      exact Sr <|Tr <|Br <|Jr l <|Lr f e <|Br <|Jr k <|Rr
     ·refine Sk <|Tn <|T0 [1,3,4] ?_
      refine Sb ?_
      refine Lo (fun g => ⟨Ar 78 [(1,.ref 0 0),(3,i64 b),(4,i64 g)],[.box (Ap a) false]⟩) (ws [0]) ?_
      rintro g am y m n
      show Ep a b g = some y→_
      unfold Ep
      refine Sq <|Ck fun z =>Lt fun aa ab =>Te (fr':=[(1,_),(3,_),(4,_),(37,.bool aa)]) [1,3,4,37] Aa (Ev (by simp only [go_sem,qR z,ab];exact Al)) ?_
      refine Cd ?_ ?_
      ·refine Sk <|Tn <|Sq <|Sb <|Ck fun ac =>Ck fun ad =>Bd fun an ae =>Te [1,3,4,50] (o1 49 (Gj ae)) (Ev (by simp only [go_sem,qR ac,qR ad];exact Al)) ?_
       refine Cd ?_ ?_
       ·refine T0 [2] ?_
        exact Sr <|Br <|Tr <|Lr n m <|Br <|Br <|Jr l <|Lr f e <|Br <|Jr k <|Rr
       ·refine Sk <|Bn <|Tn <|F0 [1,3,4] ?_
        exact Ln (ws [0])
      ·refine Sx <|Tx <|Lx n m <|Bx <|Bn <|?_
       exact Jn ((ws (l':=[(1,.ref 0 0),(3,i64 b)]) (σ':=[.box (Ap a) false]) [0]).trans (ws [0]))
    intro _
    refine F0 [1,3] ?_
    exact Ln (ws [0])
   ·refine Sx <|Tx <|Lx f e <|Bx <|?_
    exact Jn ((ws (l':=[(1,.ref 0 0)]) (σ':=[.box (Ap a) false]) [0]).trans (ws [0]))
  intro _
  refine Jo (fun _ => ⟨Ar 78 [],[]⟩) ?_ ?_
  ·intro ao af
   refine T0 [1,5] ?_
   refine Sb ?_
   refine Lo (fun c => ⟨Ar 78 [(1,.ref 0 0),(5,i64 c)],[.box (Ap a) false]⟩) (ws [0]) ?_
   rintro c ap ag o p
   show Fv a c = some ag→_
   unfold Fv
   refine Sq <|T0 [1,5,55] ?_
   refine Cd ?_ ?_
   ·refine Sk <|Tn <|Sq <|Sb <|?_
    refine Tw [1,5,77] (fun q => ⟨Ar 78 [(1,.ref 0 0),(5,i64 c),(77,.bool q)],[.box (Ap a) false]⟩) ?_ ?_
    ·intro _
     refine Ck fun s =>Bd fun aq t =>?_
     refine Sp (fun i => ?_) fun i => ?_
     ·exact Lf (o1 65 (Gj t)) (Ev (by simp only [go_sem,qR s,i];exact Al)) (ws [0])
     ·refine Ck fun ah =>Bd fun ar ai =>?_
      exact Lf (o2 65 (Gj t) 75 (Gj ai)) (Ev (by simp only [go_sem,qR s,i,qR ah];exact Al)) (ws [0])
    intro q
    refine Cd ?_ ?_
    ·refine T0 [2] ?_
     exact Sr <|Br <|Tr <|Lr p o <|Br <|Jr af <|Rr
    ·refine Sk <|Bn <|Tn <|F0 [1,5] ?_
     exact Ln (ws [0])
   ·refine Sx <|Tx <|Lx p o <|Bx <|?_
    exact Jn ((ws (l':=[]) (σ':=[]) []).trans (ws []))
  intro _
  refine T0 [2] ?_
  exact Sr <|Rr
theorem AdJ {a b r} (h : W8 a b = some r) : Con B 16 [.agg (Ap a),i64 b] [] (fun r' σ' => r' = .sl false (L Ak r)∧σ' = []):=by
 refine Cw 19 [.tmp 4] Tryd.func16 (fun F hE => ?_) h
 unfold W8
 refine T0 [1,2] ?_
 refine Sq ?_
 refine Tw [1,2,13] (fun d => ⟨Ar 19 [(1,i64 b),(2,.ref 0 0),(13,.bool d)],[.box (Ap a) false]⟩) ?_ ?_
 ·intro _
  refine Sp (fun c => ?_) fun c => ?_
  ·exact Lf Aa (Ev (by simp only [go_sem,c];exact Al)) (ws [0])
  ·exact Lf Aa (Ev (by simp only [go_sem,c];exact Al)) (ws [0])
 intro d
 refine Cd ?_ ?_
 ·refine T0 [4] ?_
  exact Sr <|Tr <|Rr
 ·refine Sk <|Tn <|Ck fun e =>Te [4] Aa (Ev (by simp only [go_sem,qR e];exact Al)) ?_
  exact Sr <|Rr
theorem Jp {o e f p g q r} (h : Cr o e f p g q = some r) : Con B 3 [.agg (Aw o),.agg (Ap e),i64 f,u64 p,i64 g,.agg (A5 q)] [] (fun r' σ' => r' = .bool r∧σ' = []):=by
 refine Cw 171 [.tmp 12] Tryd.func3 (fun F hE => ?_) h
 unfold Cr
 refine T0 [2,3,4,6,7,11] ?_
 refine Sq <|Bd fun aA ag =>Te [2,3,4,6,7,11,25] (o1 24 (Xx ag)) Ev ?_
 refine Cd ?_ ?_
 ·refine T0 [12] ?_
  exact Sr <|Tr <|Rr
 ·refine Sk <|Tn <|Sq <|?_
  refine Tw [2,3,4,6,7,11,38] (fun x => ⟨Ar 171 [(2,i64 f),(3,u64 p),(4,i64 g),(6,.ref 0 0),(7,.ref 1 0),(11,.ref 2 0),(38,.bool x)],[.box (Aw o) false,.box (Ap e) false,.box (A5 q) false]⟩) ?_ ?_
  ·intro _
   refine Bd fun aB s => ?_
   refine Sp (fun k => ?_) fun k => ?_
   ·exact Lf (o1 27 (Mr s)) (Ev (by simp only [go_sem,k];exact Al)) (ws [0,1,2])
   ·refine Bd fun aC y => ?_
    refine Sp (fun t => ?_) fun t => ?_
    ·exact Lf (o2 27 (Mr s) 31 (Nj y)) (Ev (by simp only [go_sem,k,t];exact Al)) (ws [0,1,2])
    ·refine Bd fun aD ah => ?_
     exact Lf (Iv (l:=[(27,_,_,_),(31,_,_,_),(36,_,_,_)]) ⟨Mr  s,Nj  y,Gj  ah,trivial⟩) (Ev (by simp only [go_sem,k,t];exact Al)) (ws [0,1,2])
  intro x
  refine Cd ?_ ?_
  ·refine T0 [12] ?_
   exact Sr <|Tr <|Rr
  ·refine Sk <|Tn <|Bd fun z ai =>Te [2,4,6,7,13,14] (o1 46 (E9 ai)) Ev ?_
   refine Sq <|T0 [2,4,6,7,13,50] ?_
   refine Cd ?_ ?_
   ·refine Bd fun aE aj =>Te [12] (o1 53 (Em aj)) Ev ?_
    exact Sr <|Tr <|Rr
   ·refine Sk <|Tn <|Bd fun aa ak =>Te [2,4,6,7,13,15,16] (o1 58 (E0 ak)) Ev ?_
    refine Bd fun aF al =>Te [2,4,6,7,13,15,16,17,18] (o1 63 (My al)) Ev ?_
    refine Sq ?_
    refine Dw [[],[0],[0,1],[0,1,2],[0,1,2,3],[0,1,2,3,4],[0,1,2,3,4,5],[0,1,2,3,4,5,6],[0,1,2,3,4,5,6,7],[0,1,2,3,4,5,6,7,8],[0,1,2,3,4,5,6,7,8,9],[0,1,2,3,4,5,6,7,8,9,10],[0,1,2,3,4,5,6,7,8,9,10],[0,1,2,3,4,5,6,7,8,9,10,12],[0,1,2,3,4,5,6,7,8,9,10,12,13],[0,1,2,3,4,5,6,7,8,9,10,11,12,13,14],[0,1,2,3,4,5,6,7,8,9,10,11,12,13,14,15],[0,1,2,3,4,5,6,7,8,9,10,11,12,13,14,15,16],[0,1,2,3,4,5,6,7,8,9,10,11,12,13,14,15,16,17],[0,1,2,3,4,5,6,7,8,9,10,11,12,13,14,15,16,17,18],[0,1,2,3,4,5,6,7,8,9,10,11,12,13,14,15,16,17,18,19],[0,1,2,3,4,5,6,7,8,9,10,11,12,13,14,15,16,17],[0,1,2,3,4,5,6,7,8,9,10,11,12,13,14,15,16,17,21],[0,1,2,3,4,5,6,7,8,9,10,11,12,13,14,15,16,17,21,22],[0,1,2,3,4,5,6,7,8,9,10,11,12,13,14,15,16,17,18,19,20,21,22,23],[0,1,2,3,4,5,6,7,8,9,10,11,12,13,14,15,16,17,18,19,20,21,22,23,24],[0,1,2,3,4,5,6,7,8,9,10,11,12,13,14,15,16,17,18,19,20,21,22,23,24,25],[0,1,2,3,4,5,6,7,8,9,10,11,12,13,14,15,16,17,18,19,20,21,22,23,24,25,26],[0,1,2,3,4,5,6,7,8,9,10,11,12,13,14,15,16,17,18,19,20,21,22,23,24,25,26,27],[0,1,2,3,4,5,6,7,8,9,10,11,12,13,14,15,16,17,18,19,20,21,22,23,24,25,26],[0,1,2,3,4,5,6,7,8,9,10,11,12,13,14,15,16,17,18,19,20,21,22,23,24,25,26,27,28,29],[0,1,2,3,4,5,6,7,8,9,10,11,12,13,14,15,16,17,18,19,20,21,22,23,24,25,26,27,28,29,30],[0,1,2,3,4,5,6,7,8,9,10,11,12,13,14,15,16,17,18,19,20,21,22,23,24,25,26,27,28,29,30,31],[0,1,2,3,4,5,6,7,8,9,10,11,12,13,14,15,16,17,18,19,20,21,22,23,24,25,26],[0,1,2,3,4,5,6,7,8,9,10,11,12,13,14,15,16,17,18,19,20,21,22,23,24,25,26],[0,1,2,3,4,5,6,7,8,9,10,11,12,13,14,15,16,17,18,19,20,21,22,23,24,25,26,34],[0,1,2,3,4,5,6,7,8,9,10,11,12,13,14,15,16,17,18,19,20,21,22,23,24,25,26,27,28,29,30,31,32,33,34,35],[0,1,2,3,4,5,6,7,8,9,10,11,12,13,14,15,16,17,18,19,20,21,22,23,24,25,26,27,28,29,30,31,32,33,34,35,36],[0,1,2,3,4,5,6,7,8,9,10,11,12,13,14,15,16,17,18,19,20,21,22,23,24,25,26,27,28,29,30,31,32,33,34,35,36,37]] [2,4,7,13,15,104] (fun ab => ⟨Ar 171 [(2,i64 f),(4,i64 g),(7,.ref 0 0),(13,.ref 1 0),(15,.ref 2 0),(104,.bool ab)],[.box (Ap e) false,.box (Ak z.1) false,.box (Ap aa.1) false]⟩) ?_ ?_
    ·intro _
     refine Sp (fun a => ?_) fun a => ?_
     ·exact Lf Aa (Ev (by simp only [go_sem,a];exact Al)) (ws [1,3,4])
     ·refine Sp (fun c => ?_) fun c => ?_
      ·exact Lf Aa (Ev (by simp only [go_sem,a,c];exact Al)) (ws [1,3,4])
      ·refine Sp (fun i => ?_) fun i => ?_
       ·exact Lf Aa (Ev (by simp only [go_sem,a,c,i];exact Al)) (ws [1,3,4])
       ·refine Sp (fun m => ?_) fun m => ?_
        ·exact Lf Aa (Ev (by simp only [go_sem,a,c,i,m];exact Al)) (ws [1,3,4])
        ·refine Sp (fun u => ?_) fun u => ?_
         ·exact Lf Aa (Ev (by simp only [go_sem,a,c,i,m,u];exact Al)) (ws [1,3,4])
         ·refine Ck fun am =>Bd fun aG an =>?_
          exact Lf (o1 102 (Nr an)) (Ev (by simp only [go_sem,a,c,i,m,u,qR am];exact Al)) (ws [1,3,4])
    intro ab
    refine Cd ?_ ?_
    ·refine T0 [12] ?_
     exact Sr <|Tr <|Rr
    ·refine Sk <|Tn <|Bd fun ao ap =>Te [2,4,7,13,15,19] (o1 107 (AdJ ap)) Ev ?_
     refine Lt fun aq ar =>Te (σ':=[_,_,_,.box (C1 u8 aq.l) false]) [2,4,7,13,15,19,20] Aa (Ev (by simp only [go_sem,Oc,Pj,Lj,ar];exact Al)) ?_
     refine Ja (fun ac => ⟨Ar 171 [(2,i64 f),(4,i64 g),(7,.ref 0 0),(13,.ref 1 0),(15,.ref 2 0),(19,.sl false (L Ak ao)),(20,.ref 3 0)],[.box (Ap e) false,.box (Ak z.1) false,.box (Ap aa.1) false,.box (C1 u8 ac.l) false]⟩) ?_ ?_
     ·intro aH
      refine T0 [2,4,7,13,15,19,20,111] ?_
      refine Cd ?_ ?_
      ·refine Ck fun au =>Bd fun aI av =>Te [2,4,7,13,15,19,20,21] (o1 119 (Kb av)) (Ev (by simp only [go_sem,qR au];exact Al)) ?_
       refine F0 [2,4,7,13,15,19,20] ?_
       exact Jm (ws [0,1,2,3])
      ·exact Sk <|Jm (ws [0,1,2,3])
     intro ac
     refine Ck fun ad => ?_
     have ae:=ad;simp only [List.cons_append,List.nil_append,List.length_append,List.length_cons,List.length_nil,Nat.zero_add,Nat.reduceAdd] at ae
     refine Lt fun v aw =>Te (fr':=[(2,_),(4,_),(7,_),(13,_),(15,_),(19,_),(20,_),(23,.bs false 4 (v.length) 0 (v.length))]) (σ':=[_,_,_,_,.buf 53 (L Ak v) false]) [2,4,7,13,15,19,20,23] Aa (Ev (by simp only [go_sem,ad,ae,aw];exact Al)) ?_
     refine Vw [[],[0],[],[2],[2,3],[0,1,2,3,4],[0,1,2,3,4,5],[0,1,2,3,4,5,6],[0,1,2,3,4,5,6,7],[0,1,2,3,4,5,6],[0,1,2,3,4,5,6,7,8,9],[0,1,2,3,4,5,6,7,8,9,10],[0,1,2,3,4,5,6,7,8,9,10,11],[0,1,2,3,4,5,6,7,8,9,10,11,12],[0,1,2,3,4,5,6,7,8,9,10,11,12,13],[0,1,2,3,4,5,6,7,8,9,10,11,12],[0,1,2,3,4,5,6,7,8,9,10,11,12,13,14,15],[0,1,2,3,4,5,6,7,8,9,10,11,12,13,14,15,16],[0,1,2,3,4,5,6,7,8,9,10,11,12,13,14,15,16,17],[0,1,2,3,4,5,6,7,8,9,10,11,12,13,14,15,16,17,18],[0,1,2,3,4,5,6,7,8,9,10,11,12,13,14,15,16,17,18,19],[0,1,2,3,4,5,6,7,8,9,10,11,12,13,14,15,16,17,18],[0,1,2,3,4,5,6,7,8,9,10,11,12,13,14,15,16,17,18,19,20,21],[0,1,2,3,4,5,6,7,8,9,10,11,12,13,14,15,16,17,18,19,20,21,22],[0,1,2,3,4,5,6,7,8,9,10,11,12,13,14,15,16,17,18,19,20,21,22,23],[0,1,2,3,4,5,6,7,8,9,10,11,12,13,14,15,16,17,18,19,20,21,22,23,24],[0,1,2,3,4,5,6,7,8,9,10,11,12,13,14,15,16,17,18,19,20,21,22,23,24,25],[0,1,2,3,4,5,6,7,8,9,10,11,12,13,14,15,16,17,18,19,20,21,22,23,24,25,26],[0,1,2,3,4,5,6,7,8,9,10,11,12,13,14,15,16,17,18,19,20,21,22,23,24],[0,1,2,3,4,5,6,7,8,9,10,11,12,13,14,15,16,17,18,19,20,21,22,23,24,28],[0,1,2,3,4,5,6,7,8,9,10,11,12,13,14,15,16,17,18,19,20,21,22,23,24,28,29],[0,1,2,3,4,5,6,7,8,9,10,11,12,13,14,15,16,17,18,19,20,21,22,23,24,25,26,27,28,29,30],[0,1,2,3,4,5,6,7,8,9,10,11,12,13,14,15,16,17,18,19,20,21,22,23,24,25,26,27,28,29,30,31],[0,1,2,3,4,5,6,7,8,9,10,11,12,13,14,15,16,17,18,19,20,21,22,23,24,25,26,27,28,29,30,31,32],[0,1,2,3,4,5,6,7,8,9,10,11,12,13,14,15,16,17,18,19,20,21,22,23,24,25,26,27,28,29,30,31,32,33],[0,1,2,3,4,5,6,7,8,9,10,11,12,13,14,15,16,17,18,19,20,21,22,23,24,25,26,27,28,29,30,31,32,33,34],[0,1,2,3,4,5,6,7,8,9,10,11,12,13,14,15,16,17,18,19,20,21,22,23,24,25,26,27,28,29,30,31,32,33],[0,1,2,3,4,5,6,7,8,9,10,11,12,13,14,15,16,17,18,19,20,21,22,23,24,25,26,27,28,29,30,31,32,33,34,35,36],[0,1,2,3,4,5,6,7,8,9,10,11,12,13,14,15,16,17,18,19,20,21,22,23,24,25,26,27,28,29,30,31,32,33,34,35,36,37],[0,1,2,3,4,5,6,7,8,9,10,11,12,13,14,15,16,17,18,19,20,21,22,23,24,25,26,27,28,29,30,31,32,33],[0,1,2,3,4,5,6,7,8,9,10,11,12,13,14,15,16,17,18,19,20,21,22,23,24,25,26,27,28,29,30,31,32,33],[0,1,2,3,4,5,6,7,8,9,10,11,12,13,14,15,16,17,18,19,20,21,22,23,24,25,26,27,28,29,30,31,32,33,40],[0,1,2,3,4,5,6,7,8,9,10,11,12,13,14,15,16,17,18,19,20,21,22,23,24,25,26,27,28,29,30,31,32,33,39,40,41],[0,1,2,3,4,5,6,7,8,9,10,11,12,13,14,15,16,17,18,19,20,21,22,23,24,25,26,27,28,29,30,31,32,33,34,35,36,37,38,39,40,41,42],[0,1,2,3,4,5,6,7,8,9,10,11,12,13,14,15,16,17,18,19,20,21,22,23,24,25,26,27,28,29,30,31,32,33,34,35,36,37,38,39,40,41,42,43],[0,1,2,3,4,5,6,7,8,9,10,11,12,13,14,15,16,17,18,19,20,21,22,23,24,25,26,27,28,29,30,31,32,33,34,35,36,37,38,39,40,41,42,43,44]] [12,15,159,160,161,163,165] [(15,2),(160,2)] [] [(165,4)] [161,163] 159 (fun af => ⟨Ar 171 [(12,.bool af)],[]⟩) ?_ ?_
     ·intro _
      refine Sp (fun b => ?_) fun b => ?_
      ·refine Sp (fun d => ?_) fun d => ?_
       ·refine Sp (fun j => ?_) fun j => ?_
        ·refine Sp (fun n => ?_) fun n => ?_
         ·refine Sp (fun w => ?_) fun w => ?_
          ·refine Ck fun ax =>Ck fun ay =>Bd fun aJ az =>?_
           exact Lv (o1 169 (Oa az)) (by simp only [XOk]) (Ev (by simp only [go_sem,b,d,j,n,w,qR ax,ay];exact Al)) (by exact fun _ => ⟨⟨rfl,rfl,trivial⟩,⟨And.intro rfl (And.intro rfl rfl),trivial⟩,⟨rfl,rfl,trivial⟩⟩) (ws [])
          ·exact Lv Aa (by simp only [XOk]) (Ev (by simp only [go_sem,b,d,j,n,w];exact Al)) (by exact fun h => absurd (AV.bool.inj h) (by decide)) (ws [])
         ·exact Lv Aa (by simp only [XOk]) (Ev (by simp only [go_sem,b,d,j,n];exact Al)) (by exact fun h => absurd (AV.bool.inj h) (by decide)) (ws [])
        ·exact Lv Aa (by simp only [XOk]) (Ev (by simp only [go_sem,b,d,j];exact Al)) (by exact fun h => absurd (AV.bool.inj h) (by decide)) (ws [])
       ·exact Lv Aa (by simp only [XOk]) (Ev (by simp only [go_sem,b,d];exact Al)) (by exact fun h => absurd (AV.bool.inj h) (by decide)) (ws [])
      ·exact Lv Aa (by simp only [XOk]) (Ev (by simp only [go_sem,b];exact Al)) (by exact fun h => absurd (AV.bool.inj h) (by decide)) (ws [])
     intro af
     exact Sr <|Rr
set_option maxRecDepth 8000
def TP {α : Type} (o : Option α) (P : α→Prop) : Prop:=∃ a,o = some a∧P a
abbrev Lg {α : Type} (o : Option α) : Prop:=TP o fun _ => True
section
variable {α β : Type} {P : α→Prop} {Q : β→Prop}
theorem F2 {a : α} (h : P a) : TP (some a) P:=⟨a,rfl,h⟩
theorem Cn {a : α} : Lg (some a):=⟨a,rfl,trivial⟩
theorem Ig {o : Option β} {f : β→Option α} (h : TP o Q) (k : ∀ b,Q b→TP (f b) P) : TP (o.bind f) P:=by
 obtain ⟨b,rfl,hb⟩:=h
 exact k b hb
theorem C5 {o : Option β} {f : β→Option α} (h : Lg o) (k : ∀ b,TP (f b) P) : TP (o.bind f) P:=Ig h fun b _ => k b
theorem D8 {c : Prop} [Decidable c] {x y : Option α} (h : c→TP x P) (k : ¬c→TP y P) : TP (if c then x else y) P:=by
 by_cases hc : c
 ·rw [if_pos hc];exact h hc
 ·rw [if_neg hc];exact k hc
theorem Ke {c : Prop} [Decidable c] {x : Option α} (h : c) (k : TP x P) : TP (if c then x else none) P:=by rw [if_pos h];exact k
theorem Xs {x : β} {f : β→Option α} (h : TP (f x) P) : TP (lt1 x f) P:=by rw [Cv];exact h
theorem Asx {P' : α→Prop} {o : Option α} (h : TP o P) (k : ∀ a,P a→P' a) : TP o P':=by
 obtain ⟨a,e,hp⟩:=h
 exact ⟨a,e,k a hp⟩
end
theorem Qz {V X : Type} (n : Nat) (c : V→Int) (I : V→Prop) {f : V→Option (V ⊕ X)} {v0 : V} {R : X→Prop} (hn : n < 1152921504606846976) (hs : ∀ (k : Nat) (v : V),k < n→c v = (k : Int)→I v→TP (f v) fun y => (∀ v',y = .inl v'→c v' = ((k + 1 : Nat) : Int)∧I v')∧∀ x,y = .inr x→R x) (he : ∀ v : V,c v = (n : Int)→I v→∃ x,f v = some (.inr x)∧R x) (m : Nat) (hm : m≤n) (h0 : c v0 = (m : Int)) (hI : I v0) : TP (A6 f v0) R:=by
  refine Ej (fun v => I v∧∃ k : Nat,c v = (k : Int)∧k≤n) (fun v => (n - c v).toNat) _ ?_ ⟨hI,m,h0,hm⟩ (by rw [h0];omega)
  rintro v ⟨hi,k,hk,hkn⟩
  by_cases h : k < n
  · obtain ⟨y,e,hp,hq⟩:=hs k v h hk hi
    cases y with
    | inl v' => exact .inl ⟨v',e,⟨(hp v' rfl).2,k + 1,(hp v' rfl).1,by omega⟩,by rw [(hp v' rfl).1,hk];omega⟩
    | inr x => exact .inr ⟨x,e,hq x rfl⟩
  · obtain ⟨x,e,hr⟩:=he v (by rw [hk];congr 1;omega) hi
    exact .inr ⟨x,e,hr⟩
theorem Ey {V X : Type} (n : Nat) (c : V→Int) {f : V→Option (V ⊕ X)} {v0 : V} (hn : n < 1152921504606846976) (hs : ∀ (k : Nat) (v : V),k < n→c v = (k : Int)→TP (f v) fun y => ∀ v',y = .inl v'→c v' = ((k + 1 : Nat) : Int)) (he : ∀ v : V,c v = (n : Int)→∃ x,f v = some (.inr x)) (h0 : c v0 = 0:=by rfl) : Lg (A6 f v0) :=
 Qz n c (fun _ => True) hn (fun k v hk hv _ => Asx (hs k v hk hv) fun y h => ⟨fun v' e => ⟨h v' e,trivial⟩,fun _ _ => trivial⟩) (fun v hv _ => (he v hv).imp fun _ h => ⟨h,trivial⟩) 0 (Nat.zero_le _) h0 trivial
theorem Iz (x : UInt32) (k : Int) : Lg (Ba x k):=by
 unfold Ba
 simp only [Cv]
 exact Cn
theorem AfI (h : Arr UInt32 8) (b : List UInt8) (hb : 64≤b.length) : Lg (Jh h b):=by
 have l1 : ∀ f0,Lg (A6 (fun (v : Int×Arr UInt32 64) => F5 b v.1 v.2) (0,f0)):=by
  intro f0
  refine Ey 16 (fun v => v.1) (by omega) (fun k v hk hv => ?_) (fun v hv => ?_)
  ·obtain ⟨t,f⟩:=v
   obtain rfl : t = (k : Int):=hv
   have w : w64 (4 * (k : Int)) = 4 * (k : Int):=Cy (by omega)
   simp only
   unfold F5
   rw [w,Cy (x:=4 * (k : Int) + 1) (by omega),Cy (x:=4 * (k : Int) + 2) (by omega),Cy (x:=4 * (k : Int) + 3) (by omega),if_pos (decide_eq_true (by omega))]
   refine Ke ⟨by omega,by omega⟩ (Ke ⟨by omega,by omega⟩ (Ke ⟨by omega,by omega⟩ (Ke ⟨by omega,by omega⟩ (Ke ⟨by omega,by omega⟩ (Xs (F2 fun v' e => by cases e;exact Ff (by omega)))))))
  ·obtain ⟨t,f⟩:=v
   obtain rfl : t = 16:=hv
   exact ⟨_,rfl⟩
 have l2 : ∀ f0,Lg (A6 (fun (v : Int×Arr UInt32 64) => Ga v.1 v.2) (16,f0)):=by
  intro f0
  refine Qz 64 (fun v => v.1) (fun v => 16≤v.1) (by omega) (fun k v hk hv hi => ?_) (fun v hv _ => ?_) 16 (by omega) rfl (by simp)
  ·obtain ⟨t,f⟩:=v
   obtain rfl : t = (k : Int):=hv
   simp only at hi
   simp only
   unfold Ga
   rw [Cy (x:=(k : Int) - 15) (by omega),Cy (x:=(k : Int) - 2) (by omega),Cy (x:=(k : Int) - 16) (by omega),Cy (x:=(k : Int) - 7) (by omega),if_pos (decide_eq_true (by omega))]
   refine Ke ⟨by omega,by omega⟩ (Ke ⟨by omega,by omega⟩ (Xs (Xs (C5 (Iz _ _) fun _ => C5 (Iz _ _) fun _ => Xs (C5 (Iz _ _) fun _ => C5 (Iz _ _) fun _ => Xs (Ke ⟨by omega,by omega⟩ (Ke ⟨by omega,by omega⟩ (Ke ⟨by omega,by omega⟩ (Xs (F2 ⟨fun v' e => ?_,fun _ e => by cases e⟩))))))))))
   cases e
   exact ⟨Ff (by omega),by simp only;rw [Ff (by omega)];omega⟩
  ·obtain ⟨t,f⟩:=v
   obtain rfl : t = 64:=hv
   exact ⟨_,rfl,trivial⟩
 have l3 : ∀ w f0,Lg (A6 (fun (v : Int×Arr UInt32 8) => F8 w v.1 v.2) (0,f0)):=by
  intro w f0
  refine Ey 64 (fun v => v.1) (by omega) (fun k v hk hv => ?_) (fun v hv => ?_)
  ·obtain ⟨t,f⟩:=v
   obtain rfl : t = (k : Int):=hv
   simp only
   unfold F8
   rw [if_pos (decide_eq_true (by omega))]
   exact C5 (Iz _ _) fun _ => C5 (Iz _ _) fun _ => C5 (Iz _ _) fun _ => Ke ⟨by omega,by omega⟩ (Ke ⟨by omega,by omega⟩ (Xs (C5 (Iz _ _) fun _ => C5 (Iz _ _) fun _ => C5 (Iz _ _) fun _ => Xs (Xs (F2 fun v' e => by cases e;exact Ff (by omega))))))
  ·obtain ⟨t,f⟩:=v
   obtain rfl : t = 64:=hv
   exact ⟨_,rfl⟩
 have l4 : ∀ w f0,Lg (A6 (fun (v : Int×Arr UInt32 8) => F3 w v.1 v.2) (0,f0)):=by
  intro w f0
  refine Ey 8 (fun v => v.1) (by omega) (fun k v hk hv => ?_) (fun v hv => ?_)
  ·obtain ⟨t,f⟩:=v
   obtain rfl : t = (k : Int):=hv
   simp only
   unfold F3
   rw [if_pos (decide_eq_true (by omega))]
   exact Ke ⟨by omega,by omega⟩ (Ke ⟨by omega,by omega⟩ (Ke ⟨by omega,by omega⟩ (Xs (F2 fun v' e => by cases e;exact Ff (by omega)))))
  ·obtain ⟨t,f⟩:=v
   obtain rfl : t = 8:=hv
   exact ⟨_,rfl⟩
 unfold Jh
 exact C5 (C5 (l1 _) fun _ => Cn) fun _ => C5 (C5 (l2 _) fun _ => Cn) fun _ => C5 (C5 (l3 _ _) fun _ => Cn) fun _ => C5 (C5 (l4 _ _) fun _ => Cn) fun _ => Cn
theorem Aam {n : Nat} (h : n≤1000000) : Fb n 1:=by unfold Fb maxLen Ko;omega
theorem X2 (ps : List (List UInt8)) (hl : ps.length≤100) (h : ∀ p ∈ ps,p.length≤100000) (hps : ps.length≤4) : Lg (L9 ps):=by
 have l1 : TP (A6 (fun (v : Int×List UInt8) => Gq ps v.1 v.2) (0,[])) fun l => l.length≤400000:=by
  refine Qz ps.length (fun v => v.1) (fun v => (v.2.length : Int)≤100000 * v.1) (by omega) (fun k v hk hv hi => ?_) (fun v hv hi => ?_) 0 (Nat.zero_le _) rfl (by simp)
  ·obtain ⟨t,l⟩:=v
   obtain rfl : t = (k : Int):=hv
   have hp:=h _ (Kn hk)
   simp only at hi
   simp only
   unfold Gq
   rw [if_pos (decide_eq_true (by omega))]
   simp only [Int.toNat_natCast]
   refine Ke (Ds hk) (Xs (Ke (Aam (by omega)) (Xs (F2 ⟨fun v' e => ?_,fun _ e => by cases e⟩))))
   cases e
   refine ⟨Ff (by omega),?_⟩
   simp only [List.length_append]
   rw [Ff (by omega)]
   omega
  ·obtain ⟨t,l⟩:=v
   obtain rfl : t = (ps.length : Int):=hv
   simp only at hi
   simp only
   unfold Gq
   rw [if_neg (by simp)]
   exact ⟨_,rfl,by omega⟩
 have l2 : ∀ l : List UInt8,l.length≤500000→TP (A6 (fun (v : List UInt8) => Hv v) l) fun p => p.length % 64 = 56∧p.length≤500064:=by
  intro l hl
  refine Ej (fun v => l.length≤v.length∧v.length≤l.length + (120 - l.length % 64) % 64∧v.length≤500064) (fun v => 600000 - v.length) _ ?_ ⟨by omega,by omega,by omega⟩ (by omega)
  rintro v ⟨h1,h2,h3⟩
  unfold Hv
  have ht : ((v.length : Int)).tmod 64 = ((v.length % 64 : Nat) : Int):=rfl
  rw [ht]
  by_cases h4 : v.length % 64 = 56
  ·right
   rw [if_neg (by simp;omega)]
   exact ⟨_,rfl,h4,h3⟩
  ·left
   rw [if_pos (by simp;omega),if_pos (Aam (by omega))]
   refine ⟨_,rfl,?_,?_⟩
   ·simp only [List.length_append,List.length_cons,List.length_nil];omega
   ·simp only [List.length_append,List.length_cons,List.length_nil];omega
 have l3 : ∀ (n : UInt64) (p : List UInt8),p.length≤500064→TP (A6 (fun (v : Int×List UInt8) => Gy n v.1 v.2) (56,p)) fun q => q.length = p.length + 8:=by
  intro n p hp
  refine Qz 8 (fun v => (v.2.length : Int) - p.length) (fun v => v.1 = 56 - 8 * ((v.2.length : Int) - p.length)) (by omega) (fun k v hk hv hi => ?_) (fun v hv hi => ?_) 0 (by omega) (by simp) (by simp)
  ·obtain ⟨t,l⟩:=v
   simp only at hv hi
   simp only
   unfold Gy
   rw [if_pos (decide_eq_true (by omega))]
   refine Ke (show H5 t by unfold H5;omega) (Ke (Aam (by omega)) (Xs (F2 ⟨fun v' e => ?_,fun _ e => by cases e⟩)))
   cases e
   simp only [List.length_append,List.length_cons,List.length_nil]
   refine ⟨by omega,?_⟩
   rw [Cy (by omega)]
   omega
  ·obtain ⟨t,l⟩:=v
   simp only at hv hi
   simp only
   unfold Gy
   rw [if_neg (by simp;omega)]
   exact ⟨_,rfl,by omega⟩
 have l4 : ∀ (q : List UInt8) f0,q.length % 64 = 0→q.length≤600000→Lg (A6 (fun (v : Nat×Nat×Arr UInt32 8) => Ht q v.1 v.2.1 v.2.2) (0,q.length,f0)):=by
  intro q f0 h1 h2
  refine Ej (fun v => v.1 + v.2.1 = q.length∧v.2.1 % 64 = 0) (fun v => v.2.1) _ ?_ ⟨by simp,h1⟩ (by simp only;omega)
  rintro ⟨a,m,f⟩ ⟨h3,h4⟩
  simp only at h3 h4 ⊢
  unfold Ht
  by_cases h5 : (m : Int) > 0
  ·left
   rw [if_pos (decide_eq_true h5),if_pos (show InB 64 m from ⟨by omega,by omega⟩)]
   obtain ⟨d,hd,_⟩:=AfI f ((q.drop a).take 64) (by rw [List.length_take,List.length_drop];omega)
   rw [hd,Option.bind_some,if_pos (show InB 64 m from ⟨by omega,by omega⟩)]
   exact ⟨_,rfl,⟨by simp only;omega,by simp only;omega⟩,by simp only;omega⟩
  ·right
   rw [if_neg (by simpa using h5)]
   exact ⟨_,rfl,trivial⟩
 have l5 : ∀ g f0,Lg (A6 (fun (v : Int×Arr UInt8 32) => Hz g v.1 v.2) (0,f0)):=by
  intro g f0
  refine Ey 32 (fun v => v.1) (by omega) (fun k v hk hv => ?_) (fun v hv => ?_)
  ·obtain ⟨t,f⟩:=v
   obtain rfl : t = (k : Int):=hv
   have e1 : ((k : Int)).tdiv 4 = ((k / 4 : Nat) : Int):=rfl
   have e2 : ((k : Int)).tmod 4 = ((k % 4 : Nat) : Int):=rfl
   simp only
   unfold Hz
   rw [e1,e2,Cy (x:=((k / 4 : Nat) : Int)) (by omega),Cy (x:=8 * ((k % 4 : Nat) : Int)) (by omega),Cy (x:=24 - 8 * ((k % 4 : Nat) : Int)) (by omega),if_pos (decide_eq_true (by omega))]
   exact Ke ⟨by omega,by omega⟩ (Ke (show H5 _ by unfold H5;omega) (Ke ⟨by omega,by omega⟩ (Xs (F2 fun v' e => by cases e;exact Ff (by omega)))))
  ·obtain ⟨t,f⟩:=v
   obtain rfl : t = 32:=hv
   exact ⟨_,rfl⟩
 unfold L9
 simp only [Cv]
 refine Ig (Ig l1 fun _ q => F2 q) fun l hl => Ke (Aam (by omega)) (Ig (Ig (l2 _ (by simp;omega)) fun _ q => F2 q) fun p hp => Ig (Ig (l3 _ _ hp.2) fun _ q => F2 q) fun q hq => C5 (C5 (l4 q _ (by omega) (by omega)) fun _ => Cn) fun _ => C5 (C5 (l5 _ _) fun _ => Cn) fun _ => Cn)
theorem Se (tag b : List UInt8) (h1 : tag.length≤200) (h2 : b.length≤100000) : ∃ d,Ek tag b = some d:=by
 have e1 : Abl (tag.length : Int) 255 = (tag.length : Int):=by unfold Abl;omega
 have e2 : tag.take (Abl (tag.length : Int) 255).toNat = tag:=by rw [e1,Int.toNat_natCast,List.take_length]
 unfold Ek
 rw [if_pos (show InB (Abl (tag.length : Int) 255) tag.length by rw [e1];unfold InB;omega),e2]
 simp only [Cv]
 obtain ⟨d,hd,_⟩:=X2 [[UInt8.ofInt (tag.length : Int)],tag,b] (by simp) (by simp;omega) (by simp)
 exact ⟨d,by rw [hd];rfl⟩
theorem Yn (d : Arr UInt8 32) : ∃ n,Gp d = some n:=by
 have hl : (d.l.take 8).length = 8:=by rw [List.length_take,d.h];rfl
 have l1 : Lg (A6 (fun (v : UInt64×Int) => Ei d v.1 v.2) ((0 : UInt64),0)):=by
  refine Ey 8 (fun v => v.2) (by omega) (fun k v hk hv => ?_) (fun v hv => ?_)
  ·obtain ⟨n,t⟩:=v
   obtain rfl : t = (k : Int):=hv
   simp only
   unfold Ei
   rw [if_pos (decide_eq_true (by rw [hl];omega))]
   exact Ke (Ds (by rw [hl];exact hk)) (Xs (Xs (F2 fun v' e => by cases e;exact Ff (by omega))))
  ·obtain ⟨n,t⟩:=v
   obtain rfl : t = 8:=hv
   simp only
   unfold Ei
   rw [if_neg (by rw [hl];simp)]
   exact ⟨_,rfl⟩
 obtain ⟨x,hx,_⟩:=l1
 unfold Gp
 rw [hx]
 exact ⟨_,rfl⟩
theorem Aok (x : UInt64) (n : Nat) : (Gb x n).toNat = x.toNat / 2 ^ n:=by
 show (x.toBitVec >>> n).toNat = _
 rw [BitVec.toNat_ushiftRight,Nat.shiftRight_eq_div_pow];rfl
theorem ApN (x : UInt64) : (x &&& 4294967295).toNat = x.toNat % 4294967296:=by
 rw [UInt64.toNat_and]
 exact Nat.and_two_pow_sub_one_eq_mod x.toNat 32
theorem Aos (x : UInt64) : x.toNat < 18446744073709551616:=x.toNat_lt
theorem ApO (x y : UInt64) : (x * y).toNat = x.toNat * y.toNat % 18446744073709551616:=UInt64.toNat_mul x y
theorem ArG (x y : UInt64) : (x + y).toNat = (x.toNat + y.toNat) % 18446744073709551616:=UInt64.toNat_add x y
theorem Aux {x y : UInt64} (h : x.toNat = y.toNat) : x = y:=UInt64.toNat_inj.1 h
theorem g_32 : ((32 : UInt64)).toNat = 32:=rfl
theorem AjL (x y : UInt64) : ∃ r,Mg x y = some r∧r.1.toNat = x.toNat * y.toNat / 18446744073709551616∧r.2.toNat = x.toNat * y.toNat % 18446744073709551616:=by
 obtain ⟨bd,bt,bw,hhi⟩:=Lib.mul64_hi x.toNat y.toNat (Aos x) (Aos y)
 have hx:=Aos x
 have hy:=Aos y
 have ba:=Lib.half_mul_le (a:=x.toNat / 4294967296) (b:=y.toNat / 4294967296) (by omega) (by omega)
 have bb:=Lib.half_mul_le (a:=x.toNat / 4294967296) (b:=y.toNat % 4294967296) (by omega) (by omega)
 have bc:=Lib.half_mul_le (a:=x.toNat % 4294967296) (b:=y.toNat / 4294967296) (by omega) (by omega)
 unfold Mg
 simp only [lt1]
 refine ⟨_,rfl,?_,ApO x y⟩
 rw [← hhi]
 simp only [ArG,ApO,Aok,ApN,g_32,Nat.reducePow]
 generalize x.toNat / 4294967296 * (y.toNat / 4294967296) = a at *
 generalize x.toNat / 4294967296 * (y.toNat % 4294967296) = b at *
 generalize x.toNat % 4294967296 * (y.toNat / 4294967296) = c at *
 generalize x.toNat % 4294967296 * (y.toNat % 4294967296) = d at *
 omega
def lenTab : List UInt8:=([0,1,2,2,3,3,3,3,4,4,4,4,4,4,4,4,5,5,5,5,5,5,5,5,5,5,5,5,5,5,5,5,6,6,6,6,6,6,6,6,6,6,6,6,6,6,6,6,6,6,6,6,6,6,6,6,6,6,6,6,6,6,6,6,7,7,7,7,7,7,7,7,7,7,7,7,7,7,7,7,7,7,7,7,7,7,7,7,7,7,7,7,7,7,7,7,7,7,7,7,7,7,7,7,7,7,7,7,7,7,7,7,7,7,7,7,7,7,7,7,7,7,7,7,7,7,7,7,8,8,8,8,8,8,8,8,8,8,8,8,8,8,8,8,8,8,8,8,8,8,8,8,8,8,8,8,8,8,8,8,8,8,8,8,8,8,8,8,8,8,8,8,8,8,8,8,8,8,8,8,8,8,8,8,8,8,8,8,8,8,8,8,8,8,8,8,8,8,8,8,8,8,8,8,8,8,8,8,8,8,8,8,8,8,8,8,8,8,8,8,8,8,8,8,8,8,8,8,8,8,8,8,8,8,8,8,8,8,8,8,8,8,8,8,8,8,8,8,8,8,8,8,8,8,8,8] : List UInt8)
theorem Anv : ((List.range 256).all fun i => decide ((nth lenTab i).toNat≤8)) = true:=by decide +kernel
theorem Anl : lenTab.length = 256:=by decide +kernel
def Ln (m : Nat) (n : Int) : Prop:=0≤n∧n≤(m : Int)
theorem Aiu {m : Nat} (x : UInt64) (n : Int) (c s : UInt64) (k : Int) (hk : 0≤k∧k≤32) (hm : m≤64) (h : Ln m n) : TP (if (decide (x ≥ c)) = true then lt1 (Gb x s.toNat) fun (y : UInt64) => some (y,w64 (n + k)) else some (x,n) : Option (UInt64×Int)) fun y => Ln (m + k.toNat) y.2:=by
 obtain ⟨h1,h2⟩:=h
 refine D8 (fun _ => Xs (F2 ?_)) fun _ => F2 ⟨h1,by simp only;omega⟩
 simp only
 rw [Cy (by omega)]
 exact ⟨by omega,by omega⟩
theorem Ajm (x : UInt64) : TP (It x) (Ln 64):=by
 unfold It
 refine Ig (Q:=fun y => Ln 32 y.2) (D8 (fun _ => Xs (F2 ⟨by simp,by simp⟩)) fun _ => F2 ⟨by simp,by simp⟩) fun ⟨x,n⟩ h => Ig (Aiu x n _ _ 16 (by omega) (by omega) h) fun ⟨x,n⟩ h => Ig (Aiu x n _ _ 8 (by omega) (by omega) h) fun ⟨x,n⟩ h => ?_
 have hi : x.toUInt8.toNat < 256:=x.toUInt8.toNat_lt
 have ht:=List.all_eq_true.1 Anv _ (List.mem_range.2 hi)
 simp only [decide_eq_true_eq] at ht
 obtain ⟨h1,h2⟩:=h
 refine Ke (show InR _ lenTab.length by rw [Anl];exact Ds hi) (Xs (F2 ?_))
 show Ln 64 (w64 (n + ((nth lenTab x.toUInt8.toNat).toNat : Int)))
 simp only at h1 h2
 rw [Cy (by omega)]
 exact ⟨by omega,by omega⟩
theorem AqA (a b c : UInt64) (q r : UInt64) : ∃ x,A6 (fun (v : UInt64×UInt64) => Gz a b c v.1 v.2) (q,r) = some x:=by
 obtain ⟨x,hx,_⟩ : ∃ x,A6 (fun (v : UInt64×UInt64) => Gz a b c v.1 v.2) (q,r) = some x∧True:=by
  refine Ej (fun _ => True) (fun v => v.1.toNat) _ ?_ trivial (Aos _)
  rintro ⟨q,r⟩ _
  simp only
  unfold Gz
  by_cases h0 : q = 0
  ·subst h0
   right
   rw [if_neg (by decide),Option.bind_some,if_neg (by
    rw [show (0 : UInt64) * b = 0 by rw [UInt64.zero_mul]]
    simp)]
   exact ⟨_,rfl,trivial⟩
  ·have hq : (q - 1).toNat < q.toNat:=by
    have h1 : q.toNat≠0:=fun h => h0 (Aux (by rw [h];rfl))
    have h2 : (1 : UInt64)≤q:=by rw [UInt64.le_iff_toNat_le];show 1≤q.toNat;omega
    rw [UInt64.toNat_sub_of_le _ _ h2]
    show q.toNat - 1 < q.toNat
    omega
   rw [Ans,Option.bind_some]
   split
   ·split
    ·right;exact ⟨_,rfl,trivial⟩
    ·left;exact ⟨_,rfl,trivial,hq⟩
   ·right;exact ⟨_,rfl,trivial⟩
 exact ⟨x,hx⟩
theorem Aqm (a b c : UInt64) (r q : UInt64) : ∃ x,A6 (fun (v : UInt64×UInt64) => Gs a b c v.1 v.2) (r,q) = some x:=by
 obtain ⟨x,hx,_⟩ : ∃ x,A6 (fun (v : UInt64×UInt64) => Gs a b c v.1 v.2) (r,q) = some x∧True:=by
  refine Ej (fun _ => True) (fun v => v.2.toNat) _ ?_ trivial (Aos _)
  rintro ⟨r,q⟩ _
  simp only
  unfold Gs
  by_cases h0 : q = 0
  ·subst h0
   right
   rw [if_neg (by decide),Option.bind_some,if_neg (by
    rw [show (0 : UInt64) * b = 0 by rw [UInt64.zero_mul]]
    simp)]
   exact ⟨_,rfl,trivial⟩
  ·have hq : (q - 1).toNat < q.toNat:=by
    have h1 : q.toNat≠0:=fun h => h0 (Aux (by rw [h];rfl))
    have h2 : (1 : UInt64)≤q:=by rw [UInt64.le_iff_toNat_le];show 1≤q.toNat;omega
    rw [UInt64.toNat_sub_of_le _ _ h2]
    show q.toNat - 1 < q.toNat
    omega
   rw [Ans,Option.bind_some]
   split
   ·split
    ·right;exact ⟨_,rfl,trivial⟩
    ·left;exact ⟨_,rfl,trivial,hq⟩
   ·right;exact ⟨_,rfl,trivial⟩
 exact ⟨x,hx⟩
theorem AiZ (hi lo y : UInt64) (z : Int) (h : hi.toNat < y.toNat) (hz : Ee y = some z) (hy : ¬ Gb (Tj y (UInt64.ofInt z).toNat) ((32 : UInt64)).toNat = 0) : ∃ r,L3 hi lo y = some r:=by
 have hy0 : ¬ y = 0:=fun e => by rw [e] at h;exact absurd h (Nat.not_lt_zero _)
 unfold L3
 rw [if_neg (by simpa using hy0),if_neg (by
  rw [decide_eq_true_eq,UInt64.le_iff_toNat_le]
  omega)]
 by_cases h0 : (hi == (0 : UInt64)) = true
 ·rw [if_pos h0,if_pos hy0,if_pos hy0]
  exact ⟨_,rfl⟩
 ·rw [if_neg h0,hz]
  simp only [Option.bind_some,Cv]
  rw [if_pos hy]
  generalize Gb (Tj y (UInt64.ofInt z).toNat) ((32 : UInt64)).toNat = yn1 at hy ⊢
  generalize (Tj hi (UInt64.ofInt z).toNat ||| Gb lo (64 - UInt64.ofInt z).toNat) = un32
  generalize Tj lo (UInt64.ofInt z).toNat = un10
  generalize Tj y (UInt64.ofInt z).toNat = y'
  obtain ⟨q1,hq1⟩:=AqA yn1 (y' &&& 4294967295) (Gb un10 ((32 : UInt64)).toNat) (un32 / yn1) (un32 - un32 / yn1 * yn1)
  rw [hq1]
  simp only [Option.bind_some]
  rw [if_pos hy]
  generalize (un32 * 4294967296 + Gb un10 ((32 : UInt64)).toNat - q1 * y') = u
  obtain ⟨q0,hq0⟩:=Aqm yn1 (y' &&& 4294967295) (un10 &&& 4294967295) (u - u / yn1 * yn1) (u / yn1)
  rw [hq0]
  exact ⟨_,rfl⟩
theorem Afz (a b m : UInt64) (z : Int) (h0 : m≠0) (hm : m.toNat < 9223372036854775808) (hz : Ee m = some z) (hy : ¬ Gb (Tj m (UInt64.ofInt z).toNat) ((32 : UInt64)).toNat = 0) : TP (Dg a b m) fun r => r.2 = m:=by
 have hp : 0 < m.toNat:=Nat.pos_of_ne_zero fun h => h0 (Aux (by rw [h];rfl))
 unfold Dg
 obtain ⟨⟨hi,lo⟩,hx,h1,h2⟩:=AjL (a % m) (b % m)
 rw [if_pos h0,if_pos h0,hx,Option.bind_some]
 simp only at h1 ⊢
 rw [UInt64.toNat_mod,UInt64.toNat_mod] at h1
 have hab : a.toNat % m.toNat * (b.toNat % m.toNat) < m.toNat * m.toNat:=Nat.mul_lt_mul'' (Nat.mod_lt _ hp) (Nat.mod_lt _ hp)
 have hhi : hi.toNat < m.toNat:=by
  rw [h1]
  refine Nat.div_lt_of_lt_mul (Nat.lt_of_lt_of_le hab ?_)
  exact Nat.mul_le_mul_right _ (by omega)
 obtain ⟨r,hd⟩:=AiZ hi lo m z hhi hz hy
 rw [hd,Option.bind_some]
 exact F2 rfl
theorem Aoh (a b : UInt64) : TP (Dg a b 2305843009213690799) fun r => r.2 = 2305843009213690799:=Afz a b _ 3 (by decide) (by decide) (by decide +kernel) (by decide +kernel)
theorem ArT (a b : UInt64) : TP (Dg a b 1152921504606845399) fun r => r.2 = 1152921504606845399:=Afz a b _ 4 (by decide) (by decide) (by decide +kernel) (by decide +kernel)
theorem Qh (b n : UInt64) : Lg (Jt b n):=by
 obtain ⟨len,hl,h1,h2⟩:=Ajm n
 unfold Jt Hd
 rw [Option.bind_some,hl,Option.bind_some]
 refine C5 (C5 ?_ fun _ => Cn) fun _ => Cn
 refine Qz len.toNat (fun v => v.2.1) (fun v => v.2.2 = 2305843009213690799) (by omega) (fun k v hk hv hi => ?_) (fun v hv hi => ?_) 0 (Nat.zero_le _) rfl rfl
 ·obtain ⟨o,t,m⟩:=v
  obtain rfl : t = (k : Int):=hv
  obtain rfl : m = 2305843009213690799:=hi
  simp only
  unfold Kf
  rw [if_pos (decide_eq_true (by omega))]
  rw [hl]
  simp only [Option.bind_some]
  refine Ig (Q:=fun y => y.2 = 2305843009213690799) (Ig (Aoh _ _) fun y hy => ?_) fun ⟨_,m⟩ hm => F2 ⟨fun v' e => by cases e;exact ⟨Ff (by omega),hm⟩,fun _ e => by cases e⟩
  have w : w64 (w64 (len - 1) - (k : Int)) = len - 1 - (k : Int):=by rw [Cy (x:=len - 1) (by omega),Cy (by omega)]
  rw [w]
  refine Ke (show H5 _ by unfold H5;omega) (Xs (D8 (fun _ => ?_) fun _ => F2 hy))
  rw [hy]
  exact Ig (Aoh _ _) fun _ h => F2 h
 ·obtain ⟨o,t,m⟩:=v
  obtain rfl : t = (len.toNat : Int):=hv
  simp only
  unfold Kf
  rw [if_neg (by simp;omega)]
  exact ⟨_,rfl,trivial⟩
theorem Ae6 (x : UInt64) : Lg (Jz x):=by
 unfold Jz
 exact C5 (D8 (fun _ => D8 (fun _ => C5 (Qh _ _) fun _ => Cn) fun _ => Cn) fun _ => Cn) fun _ => Cn
theorem AiW (n : UInt64) (l : List UInt8) (h : l.length≤200000) : ∃ m,A6 (fun (v : Int×List UInt8) => Fp n v.1 v.2) (0,l) = some m∧m.length = l.length + 8:=by
 refine Kh 8 (fun k v => v.1 = (k : Int)∧v.2.length = l.length + k) _ (by omega) ?_ ?_ ⟨rfl,rfl⟩
 ·rintro k ⟨_,m⟩ hk ⟨rfl,hm⟩
  simp only at hm ⊢
  have e1 : w64 (56 - w64 (8 * (k : Int))) = ((56 - 8 * k : Nat) : Int):=by rw [Cy (x:=8 * (k : Int)) (by omega),Cy (by omega)];omega
  unfold Fp
  rw [if_pos (decide_eq_true (by omega)),e1,if_pos (by unfold H5;omega),if_pos (X9 (by omega))]
  simp only [Cv]
  rw [Ff (by omega)]
  exact ⟨_,rfl,rfl,by simp;omega⟩
 ·rintro ⟨_,m⟩ ⟨rfl,hm⟩
  simp only at hm ⊢
  unfold Fp
  rw [if_neg (by decide)]
  exact ⟨_,rfl,hm⟩
theorem U0 (msg : List UInt8) (ns : List UInt64) (h1 : msg.length≤70000) (h2 : ns.length≤100) : ∃ m,Iw msg ns = some m∧m.length = 8 * ns.length + msg.length:=by
 obtain ⟨x,hx,hq⟩ : ∃ x,A6 (fun (v : Int×List UInt8) => Fu ns v.1 v.2) (0,[]) = some x∧x.length = 8 * ns.length:=by
  refine Kh ns.length (fun k v => v.1 = (k : Int)∧v.2.length = 8 * k) _ (by omega) ?_ ?_ ⟨rfl,rfl⟩
  ·rintro k ⟨_,m⟩ hk ⟨rfl,hm⟩
   simp only at hm ⊢
   obtain ⟨m',e1,e2⟩:=AiW (nth ns k) m (by omega)
   unfold Fu
   rw [if_pos (decide_eq_true (by omega)),if_pos (Ds hk)]
   simp only [Cv,Int.toNat_natCast]
   rw [e1]
   simp only [Option.bind_some]
   rw [Ff (by omega)]
   exact ⟨_,rfl,rfl,by simp only;omega⟩
  ·rintro ⟨_,m⟩ ⟨rfl,hm⟩
   simp only at hm ⊢
   unfold Fu
   rw [if_neg (by simp)]
   exact ⟨_,rfl,hm⟩
 unfold Iw
 have e1 : w64 (w64 (8 * (ns.length : Int)) + (msg.length : Int)) = ((8 * ns.length + msg.length : Nat) : Int):=by rw [Cy (x:=8 * (ns.length : Int)) (by omega),Cy (by omega)];omega
 rw [e1,if_pos (by unfold Mk maxLen Ko;omega)]
 simp only [Cv,List.replicate_zero]
 rw [hx]
 simp only [Option.bind_some]
 rw [if_pos (X9 (by omega))]
 exact ⟨_,rfl,by simp;omega⟩
theorem Pi (r p : UInt64) (msg : List UInt8) (h : msg.length≤70000) : Lg (Fi r p msg):=by
 obtain ⟨m,h1,h2⟩:=U0 msg [r,p] h (by simp)
 simp only [List.length_cons,List.length_nil] at h2
 obtain ⟨d,hd⟩:=Se [99,104,97,108,108,101,110,103,101] m (by simp) (by omega)
 obtain ⟨n,hn⟩:=Yn d
 unfold Fi
 rw [h1,Option.bind_some,hd,Option.bind_some,hn]
 exact Cn
theorem Wq (s : UInt64) : ∃ r,Ij s = some r:=by
 obtain ⟨p,hp,_⟩:=Qh 4 s
 unfold Ij
 rw [Ans,Option.bind_some,hp]
 split <;> exact ⟨_,rfl⟩
theorem Ahh (s : UInt64) (msg : List UInt8) : ∃ r,Kg s msg = some r:=by
 have key : Lg (Kg s msg):=by
  obtain ⟨p,hp⟩:=Wq s
  unfold Kg
  rw [hp,Option.bind_some]
  refine D8 (fun _ => Cn) fun _ => D8 (fun _ => Cn) fun hl => ?_
  have hl' : msg.length≤70000:=by simp at hl;omega
  obtain ⟨m,h1,h2⟩:=U0 msg [s] hl' (by simp)
  simp only [List.length_cons,List.length_nil] at h2
  obtain ⟨d,hd⟩:=Se [110,111,110,99,101] m (by simp) (by omega)
  obtain ⟨n,hn⟩:=Yn d
  rw [h1,Option.bind_some,hd,Option.bind_some,hn,Option.bind_some]
  exact Xs (C5 (Qh _ _) fun _ => C5 (Pi _ _ _ hl') fun _ => Ig (Q:=fun m => m = 1152921504606845399) (F2 rfl) fun m hm => C5 (by subst hm;exact Asx (ArT _ _) fun _ _ => trivial) fun _ => Xs Cn)
 obtain ⟨r,hr,_⟩:=key
 exact ⟨r,hr⟩
theorem Acz (p : UInt64) (msg : List UInt8) (s : Api_Sig) : ∃ r,F9 p msg s = some r:=by
 obtain ⟨b,hb,_⟩:=Ae6 p
 have key : Lg (F9 p msg s):=by
  unfold F9
  rw [hb]
  simp only [Nw,Ans]
  refine D8 (fun _ => Cn) fun hl => ?_
  have hl' : msg.length≤70000:=by
   simp only [Bool.or_eq_true,not_or,decide_eq_true_eq] at hl
   omega
  unfold Hd
  rw [Option.bind_some]
  exact C5 (Qh _ _) fun _ => C5 (Qh _ _) fun _ => C5 (Aoh _ _ |> fun h => Asx h fun _ _ => trivial) fun _ => C5 (Pi _ _ _ hl') fun _ => Cn
 obtain ⟨r,hr,_⟩:=key
 exact ⟨r,hr⟩
end Go.Proofs.YtioapcamanmoiaaDoor
