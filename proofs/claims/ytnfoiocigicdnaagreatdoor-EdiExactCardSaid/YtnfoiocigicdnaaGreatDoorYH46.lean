/-
  Part 46.
-/
import Derived.Test.YtnfoiocigicdnaaGreatDoorYH39
import Derived.Test.YtnfoiocigicdnaaGreatDoorYH40
import Derived.Test.YtnfoiocigicdnaaGreatDoorYH42
import Derived.Test.YtnfoiocigicdnaaGreatDoorYH43
import Derived.Test.YtnfoiocigicdnaaGreatDoorYH44
import Derived.Test.YtnfoiocigicdnaaGreatDoorYH45
import Derived.KernelRfl
import Derived.Lib.Mul64
namespace Go.Proofs.YtnfoiocigicdnaaGreatDoor
open Go.Rv
set_option linter.unusedVariables false
set_option linter.unusedSimpArgs false
set_option maxRecDepth 20000
set_option maxHeartbeats 4000000
theorem Kc {a r} (h : Ga a = some r) : Con B 37 [.agg [i64 a.Zb,i64 a.Ref.Za,i64 a.Ref.No,i64 a.Ze,i64 a.Zf,i64 a.Zg,i64 a.Zh,i64 a.Zi,i64 a.To,i64 a.Code,i64 a.Zj,i64 a.Zk,i64 a.Zl,i64 a.Zm,.str a.Zn,.sl false (L Ad a.Zo)]] [] (fun r' σ' => r' = .bool r∧σ' = []):=by
 refine Cw 32 [.tmp 2] Tryz.func37 (fun F hE => ?_) h
 unfold Ga
 refine T0 [1] ?_
 refine Sq <|T0 [1,6] ?_
 refine Cd ?_ ?_
 ·refine T0 [2] ?_
  exact Sr <|Tr <|Rr
 ·refine Sk <|Tn <|?_
  refine Tw [2] (fun e => ⟨Au 32 [(2,.bool e)],[]⟩) ?_ ?_
  ·intro _
   refine Sp (fun b => ?_) fun b => ?_
   ·refine Sp (fun c => ?_) fun c => ?_
    ·refine Sp (fun d => ?_) fun d => ?_
     ·exact Lf Ac (Ev (by simp only [go_sem,b,c,d];exact Al)) (ws [])
     ·exact Lf Ac (Ev (by simp only [go_sem,b,c,d];exact Al)) (ws [])
    ·exact Lf Ac (Ev (by simp only [go_sem,b,c];exact Al)) (ws [])
   ·exact Lf Ac (Ev (by simp only [go_sem,b];exact Al)) (ws [])
  intro e
  exact Sr <|Rr
theorem N3 {a g r} (h : Ka a g = some r) : Con B 126 [.sl false (L Ad a),.bool g] [] (fun r' σ' => r' = .bool r∧σ' = []):=by
 refine Cw 43 [.tmp 4] Tryz.func126 (fun F hE => ?_) h
 unfold Ka
 refine T0 [0,1] ?_
 refine Jo (fun _ => ⟨Au 43 [(0,.sl false (L Ad a))],[]⟩) ?_ ?_
 ·intro w m
  refine T0 [0,1,7,8,9] ?_
  refine Sb ?_
  refine Lo (fun i => ⟨Au 43 [(0,.sl false (L Ad a)),(1,.bool g),(7,.sl false (L Ad a)),(8,i64 (a.length : Int)),(9,i64 i)],[]⟩) (ws []) ?_
  rintro i x n j k
  show Ex a g i = some n→_
  unfold Ex
  refine T0 [0,1,7,8,9,10] ?_
  refine Sq <|Cd ?_ ?_
  ·refine Sk <|Tn <|Sq <|Sb <|Ck fun o =>Lt fun p q =>Lt fun s t =>Lt fun u v =>Te (σ':=[.box [i64 p,i64 s,.bool u] false]) [0,1,6,7,8,9] Ac (Ev (by simp only [go_sem,qR o,q,t,v];exact Al)) ?_
   refine Tw [0,1,7,8,9,38] (fun l => ⟨Au 43 [(0,.sl false (L Ad a)),(1,.bool g),(7,.sl false (L Ad a)),(8,i64 (a.length : Int)),(9,i64 i),(38,.bool l)],[]⟩) ?_ ?_
   ·intro _
    refine Sp (fun b => ?_) fun b => ?_
    ·exact Lf Ac (Ev (by simp only [go_sem,b];exact Al)) (ws [])
    ·refine Sp (fun c => ?_) fun c => ?_
     ·exact Lf Ac (Ev (by simp only [go_sem,b,c];exact Al)) (ws [])
     ·refine Sp (fun d => ?_) fun d => ?_
      ·exact Lf Ac (Ev (by simp only [go_sem,b,c,d];exact Al)) (ws [])
      ·refine Sp (fun e => ?_) fun e => ?_
       ·exact Lf Ac (Ev (by simp only [go_sem,b,c,d,e];exact Al)) (ws [])
       ·refine Sp (fun f => ?_) fun f => ?_
        ·exact Lf Ac (Ev (by simp only [go_sem,b,c,d,e,f];exact Al)) (ws [] (by simp only [go_sem,b,c,d,e,f]) (by simp only [go_sem,b,c,d,e,f]))
        ·exact Lf Ac (Ev (by simp only [go_sem,b,c,d,e,f];exact Al)) (ws [] (by simp only [go_sem,b,c,d,e,f]) (by simp only [go_sem,b,c,d,e,f]))
   intro l
   refine Cd ?_ ?_
   ·refine T0 [4] ?_
    exact Sr <|Br <|Tr <|Lr k j <|Br <|Jr m <|Rr
   ·refine Sk <|Bn <|Tn <|F0 [0,1,7,8,9] ?_
    exact Ln (ws [])
  ·refine Sx <|Tx <|Lx k j <|Bx <|?_
   exact Jn ((ws (l':=[(0,.sl false (L Ad a))]) (σ':=[]) []).trans (ws []))
 intro _
 refine T0 [4] ?_
 exact Sr <|Rr
theorem Jg {a d e r} (h : Cy a d e = some r) : Con B 120 [.ref 0 0,.ref 0 12,i64 d,i64 e] [.box [.sl false (L Ah a.p.Zs1.Zu),.sl false (L Ak a.p.Zs1.Zv),.sl false (L Aa a.p.Zt1.Zm1),.sl false (L Af a.p.Zt1.Zn1),.sl false (L Aj a.p.Zt1.Zo1),.sl false (L Ai a.p.Zt1.Zp1),.sl false (L Ag a.p.Zu1),.sl false (L Ae a.p.Zv1),.sl false (L Ab a.p.Zw1),i64 a.it.Zb,i64 a.it.Ref.Za,i64 a.it.Ref.No,i64 a.it.Ze,i64 a.it.Zf,i64 a.it.Zg,i64 a.it.Zh,i64 a.it.Zi,i64 a.it.To,i64 a.it.Code,i64 a.it.Zj,i64 a.it.Zk,i64 a.it.Zl,i64 a.it.Zm,.str a.it.Zn,.sl false (L Ad a.it.Zo),.bool a.ok] false] (fun r' σ' => r' = .tup []∧σ' = [.box [.sl false (L Ah r.p.Zs1.Zu),.sl false (L Ak r.p.Zs1.Zv),.sl false (L Aa r.p.Zt1.Zm1),.sl false (L Af r.p.Zt1.Zn1),.sl false (L Aj r.p.Zt1.Zo1),.sl false (L Ai r.p.Zt1.Zp1),.sl false (L Ag r.p.Zu1),.sl false (L Ae r.p.Zv1),.sl false (L Ab r.p.Zw1),i64 r.it.Zb,i64 r.it.Ref.Za,i64 r.it.Ref.No,i64 r.it.Ze,i64 r.it.Zf,i64 r.it.Zg,i64 r.it.Zh,i64 r.it.Zi,i64 r.it.To,i64 r.it.Code,i64 r.it.Zj,i64 r.it.Zk,i64 r.it.Zl,i64 r.it.Zm,.str r.it.Zn,.sl false (L Ad r.it.Zo),.bool r.ok] false]):=by
 refine Co 1 31 [] Tryz.func120 (fun F hE => ?_) h
 unfold Cy
 refine Tw [1] (fun f => ⟨Au 31 [(1,.ref 0 12)],[.box [.sl false (L Ah a.p.Zs1.Zu),.sl false (L Ak a.p.Zs1.Zv),.sl false (L Aa a.p.Zt1.Zm1),.sl false (L Af a.p.Zt1.Zn1),.sl false (L Aj a.p.Zt1.Zo1),.sl false (L Ai a.p.Zt1.Zp1),.sl false (L Ag a.p.Zu1),.sl false (L Ae a.p.Zv1),.sl false (L Ab a.p.Zw1),i64 a.it.Zb,i64 a.it.Ref.Za,i64 a.it.Ref.No,i64 a.it.Ze,i64 a.it.Zf,i64 a.it.Zg,i64 a.it.Zh,i64 a.it.Zi,i64 a.it.To,i64 a.it.Code,i64 a.it.Zj,i64 a.it.Zk,i64 a.it.Zl,i64 a.it.Zm,.str a.it.Zn,.sl false (L Ad a.it.Zo),.bool f] false]⟩) ?_ ?_
 ·intro _
  refine Sp (fun b => ?_) fun b => ?_
  ·refine Sp (fun c => ?_) fun c => ?_
   ·exact Lf Ac (Ev (by simp only [go_sem,b,c];exact Al)) (ws [0])
   ·exact Lf Ac (Ev (by simp only [go_sem,b,c];exact Al)) (ws [0])
  ·exact Lf Ac (Ev (by simp only [go_sem,b];exact Al)) (ws [0])
 intro f
 refine F0 [] ?_
 exact Ro [0]
theorem Dv {a d e r} (h : B2 a d e = some r) : Con B 120 [.ref 0 0,.ref 0 14,i64 d,i64 e] [.box [.sl false (L Ah a.p.Zs1.Zu),.sl false (L Ak a.p.Zs1.Zv),.sl false (L Aa a.p.Zt1.Zm1),.sl false (L Af a.p.Zt1.Zn1),.sl false (L Aj a.p.Zt1.Zo1),.sl false (L Ai a.p.Zt1.Zp1),.sl false (L Ag a.p.Zu1),.sl false (L Ae a.p.Zv1),.sl false (L Ab a.p.Zw1),i64 a.it.Zb,i64 a.it.Ref.Za,i64 a.it.Ref.No,i64 a.it.Ze,i64 a.it.Zf,i64 a.it.Zg,i64 a.it.Zh,i64 a.it.Zi,i64 a.it.To,i64 a.it.Code,i64 a.it.Zj,i64 a.it.Zk,i64 a.it.Zl,i64 a.it.Zm,.str a.it.Zn,.sl false (L Ad a.it.Zo),.bool a.ok] false] (fun r' σ' => r' = .tup []∧σ' = [.box [.sl false (L Ah r.p.Zs1.Zu),.sl false (L Ak r.p.Zs1.Zv),.sl false (L Aa r.p.Zt1.Zm1),.sl false (L Af r.p.Zt1.Zn1),.sl false (L Aj r.p.Zt1.Zo1),.sl false (L Ai r.p.Zt1.Zp1),.sl false (L Ag r.p.Zu1),.sl false (L Ae r.p.Zv1),.sl false (L Ab r.p.Zw1),i64 r.it.Zb,i64 r.it.Ref.Za,i64 r.it.Ref.No,i64 r.it.Ze,i64 r.it.Zf,i64 r.it.Zg,i64 r.it.Zh,i64 r.it.Zi,i64 r.it.To,i64 r.it.Code,i64 r.it.Zj,i64 r.it.Zk,i64 r.it.Zl,i64 r.it.Zm,.str r.it.Zn,.sl false (L Ad r.it.Zo),.bool r.ok] false]):=by
 refine Co 1 31 [] Tryz.func120 (fun F hE => ?_) h
 unfold B2
 refine Tw [1] (fun f => ⟨Au 31 [(1,.ref 0 14)],[.box [.sl false (L Ah a.p.Zs1.Zu),.sl false (L Ak a.p.Zs1.Zv),.sl false (L Aa a.p.Zt1.Zm1),.sl false (L Af a.p.Zt1.Zn1),.sl false (L Aj a.p.Zt1.Zo1),.sl false (L Ai a.p.Zt1.Zp1),.sl false (L Ag a.p.Zu1),.sl false (L Ae a.p.Zv1),.sl false (L Ab a.p.Zw1),i64 a.it.Zb,i64 a.it.Ref.Za,i64 a.it.Ref.No,i64 a.it.Ze,i64 a.it.Zf,i64 a.it.Zg,i64 a.it.Zh,i64 a.it.Zi,i64 a.it.To,i64 a.it.Code,i64 a.it.Zj,i64 a.it.Zk,i64 a.it.Zl,i64 a.it.Zm,.str a.it.Zn,.sl false (L Ad a.it.Zo),.bool f] false]⟩) ?_ ?_
 ·intro _
  refine Sp (fun b => ?_) fun b => ?_
  ·refine Sp (fun c => ?_) fun c => ?_
   ·exact Lf Ac (Ev (by simp only [go_sem,b,c];exact Al)) (ws [0])
   ·exact Lf Ac (Ev (by simp only [go_sem,b,c];exact Al)) (ws [0])
  ·exact Lf Ac (Ev (by simp only [go_sem,b];exact Al)) (ws [0])
 intro f
 refine F0 [] ?_
 exact Ro [0]
theorem Dx {a d e r} (h : B3 a d e = some r) : Con B 120 [.ref 0 0,.ref 0 15,i64 d,i64 e] [.box [.sl false (L Ah a.p.Zs1.Zu),.sl false (L Ak a.p.Zs1.Zv),.sl false (L Aa a.p.Zt1.Zm1),.sl false (L Af a.p.Zt1.Zn1),.sl false (L Aj a.p.Zt1.Zo1),.sl false (L Ai a.p.Zt1.Zp1),.sl false (L Ag a.p.Zu1),.sl false (L Ae a.p.Zv1),.sl false (L Ab a.p.Zw1),i64 a.it.Zb,i64 a.it.Ref.Za,i64 a.it.Ref.No,i64 a.it.Ze,i64 a.it.Zf,i64 a.it.Zg,i64 a.it.Zh,i64 a.it.Zi,i64 a.it.To,i64 a.it.Code,i64 a.it.Zj,i64 a.it.Zk,i64 a.it.Zl,i64 a.it.Zm,.str a.it.Zn,.sl false (L Ad a.it.Zo),.bool a.ok] false] (fun r' σ' => r' = .tup []∧σ' = [.box [.sl false (L Ah r.p.Zs1.Zu),.sl false (L Ak r.p.Zs1.Zv),.sl false (L Aa r.p.Zt1.Zm1),.sl false (L Af r.p.Zt1.Zn1),.sl false (L Aj r.p.Zt1.Zo1),.sl false (L Ai r.p.Zt1.Zp1),.sl false (L Ag r.p.Zu1),.sl false (L Ae r.p.Zv1),.sl false (L Ab r.p.Zw1),i64 r.it.Zb,i64 r.it.Ref.Za,i64 r.it.Ref.No,i64 r.it.Ze,i64 r.it.Zf,i64 r.it.Zg,i64 r.it.Zh,i64 r.it.Zi,i64 r.it.To,i64 r.it.Code,i64 r.it.Zj,i64 r.it.Zk,i64 r.it.Zl,i64 r.it.Zm,.str r.it.Zn,.sl false (L Ad r.it.Zo),.bool r.ok] false]):=by
 refine Co 1 31 [] Tryz.func120 (fun F hE => ?_) h
 unfold B3
 refine Tw [1] (fun f => ⟨Au 31 [(1,.ref 0 15)],[.box [.sl false (L Ah a.p.Zs1.Zu),.sl false (L Ak a.p.Zs1.Zv),.sl false (L Aa a.p.Zt1.Zm1),.sl false (L Af a.p.Zt1.Zn1),.sl false (L Aj a.p.Zt1.Zo1),.sl false (L Ai a.p.Zt1.Zp1),.sl false (L Ag a.p.Zu1),.sl false (L Ae a.p.Zv1),.sl false (L Ab a.p.Zw1),i64 a.it.Zb,i64 a.it.Ref.Za,i64 a.it.Ref.No,i64 a.it.Ze,i64 a.it.Zf,i64 a.it.Zg,i64 a.it.Zh,i64 a.it.Zi,i64 a.it.To,i64 a.it.Code,i64 a.it.Zj,i64 a.it.Zk,i64 a.it.Zl,i64 a.it.Zm,.str a.it.Zn,.sl false (L Ad a.it.Zo),.bool f] false]⟩) ?_ ?_
 ·intro _
  refine Sp (fun b => ?_) fun b => ?_
  ·refine Sp (fun c => ?_) fun c => ?_
   ·exact Lf Ac (Ev (by simp only [go_sem,b,c];exact Al)) (ws [0])
   ·exact Lf Ac (Ev (by simp only [go_sem,b,c];exact Al)) (ws [0])
  ·exact Lf Ac (Ev (by simp only [go_sem,b];exact Al)) (ws [0])
 intro f
 refine F0 [] ?_
 exact Ro [0]
theorem Jv {a d e r} (h : Cx a d e = some r) : Con B 120 [.ref 0 0,.ref 0 16,i64 d,i64 e] [.box [.sl false (L Ah a.p.Zs1.Zu),.sl false (L Ak a.p.Zs1.Zv),.sl false (L Aa a.p.Zt1.Zm1),.sl false (L Af a.p.Zt1.Zn1),.sl false (L Aj a.p.Zt1.Zo1),.sl false (L Ai a.p.Zt1.Zp1),.sl false (L Ag a.p.Zu1),.sl false (L Ae a.p.Zv1),.sl false (L Ab a.p.Zw1),i64 a.it.Zb,i64 a.it.Ref.Za,i64 a.it.Ref.No,i64 a.it.Ze,i64 a.it.Zf,i64 a.it.Zg,i64 a.it.Zh,i64 a.it.Zi,i64 a.it.To,i64 a.it.Code,i64 a.it.Zj,i64 a.it.Zk,i64 a.it.Zl,i64 a.it.Zm,.str a.it.Zn,.sl false (L Ad a.it.Zo),.bool a.ok] false] (fun r' σ' => r' = .tup []∧σ' = [.box [.sl false (L Ah r.p.Zs1.Zu),.sl false (L Ak r.p.Zs1.Zv),.sl false (L Aa r.p.Zt1.Zm1),.sl false (L Af r.p.Zt1.Zn1),.sl false (L Aj r.p.Zt1.Zo1),.sl false (L Ai r.p.Zt1.Zp1),.sl false (L Ag r.p.Zu1),.sl false (L Ae r.p.Zv1),.sl false (L Ab r.p.Zw1),i64 r.it.Zb,i64 r.it.Ref.Za,i64 r.it.Ref.No,i64 r.it.Ze,i64 r.it.Zf,i64 r.it.Zg,i64 r.it.Zh,i64 r.it.Zi,i64 r.it.To,i64 r.it.Code,i64 r.it.Zj,i64 r.it.Zk,i64 r.it.Zl,i64 r.it.Zm,.str r.it.Zn,.sl false (L Ad r.it.Zo),.bool r.ok] false]):=by
 refine Co 1 31 [] Tryz.func120 (fun F hE => ?_) h
 unfold Cx
 refine Tw [1] (fun f => ⟨Au 31 [(1,.ref 0 16)],[.box [.sl false (L Ah a.p.Zs1.Zu),.sl false (L Ak a.p.Zs1.Zv),.sl false (L Aa a.p.Zt1.Zm1),.sl false (L Af a.p.Zt1.Zn1),.sl false (L Aj a.p.Zt1.Zo1),.sl false (L Ai a.p.Zt1.Zp1),.sl false (L Ag a.p.Zu1),.sl false (L Ae a.p.Zv1),.sl false (L Ab a.p.Zw1),i64 a.it.Zb,i64 a.it.Ref.Za,i64 a.it.Ref.No,i64 a.it.Ze,i64 a.it.Zf,i64 a.it.Zg,i64 a.it.Zh,i64 a.it.Zi,i64 a.it.To,i64 a.it.Code,i64 a.it.Zj,i64 a.it.Zk,i64 a.it.Zl,i64 a.it.Zm,.str a.it.Zn,.sl false (L Ad a.it.Zo),.bool f] false]⟩) ?_ ?_
 ·intro _
  refine Sp (fun b => ?_) fun b => ?_
  ·refine Sp (fun c => ?_) fun c => ?_
   ·exact Lf Ac (Ev (by simp only [go_sem,b,c];exact Al)) (ws [0])
   ·exact Lf Ac (Ev (by simp only [go_sem,b,c];exact Al)) (ws [0])
  ·exact Lf Ac (Ev (by simp only [go_sem,b];exact Al)) (ws [0])
 intro f
 refine F0 [] ?_
 exact Ro [0]
theorem Jl {a d e r} (h : C2 a d e = some r) : Con B 120 [.ref 0 0,.ref 0 17,i64 d,i64 e] [.box [.sl false (L Ah a.p.Zs1.Zu),.sl false (L Ak a.p.Zs1.Zv),.sl false (L Aa a.p.Zt1.Zm1),.sl false (L Af a.p.Zt1.Zn1),.sl false (L Aj a.p.Zt1.Zo1),.sl false (L Ai a.p.Zt1.Zp1),.sl false (L Ag a.p.Zu1),.sl false (L Ae a.p.Zv1),.sl false (L Ab a.p.Zw1),i64 a.it.Zb,i64 a.it.Ref.Za,i64 a.it.Ref.No,i64 a.it.Ze,i64 a.it.Zf,i64 a.it.Zg,i64 a.it.Zh,i64 a.it.Zi,i64 a.it.To,i64 a.it.Code,i64 a.it.Zj,i64 a.it.Zk,i64 a.it.Zl,i64 a.it.Zm,.str a.it.Zn,.sl false (L Ad a.it.Zo),.bool a.ok] false] (fun r' σ' => r' = .tup []∧σ' = [.box [.sl false (L Ah r.p.Zs1.Zu),.sl false (L Ak r.p.Zs1.Zv),.sl false (L Aa r.p.Zt1.Zm1),.sl false (L Af r.p.Zt1.Zn1),.sl false (L Aj r.p.Zt1.Zo1),.sl false (L Ai r.p.Zt1.Zp1),.sl false (L Ag r.p.Zu1),.sl false (L Ae r.p.Zv1),.sl false (L Ab r.p.Zw1),i64 r.it.Zb,i64 r.it.Ref.Za,i64 r.it.Ref.No,i64 r.it.Ze,i64 r.it.Zf,i64 r.it.Zg,i64 r.it.Zh,i64 r.it.Zi,i64 r.it.To,i64 r.it.Code,i64 r.it.Zj,i64 r.it.Zk,i64 r.it.Zl,i64 r.it.Zm,.str r.it.Zn,.sl false (L Ad r.it.Zo),.bool r.ok] false]):=by
 refine Co 1 31 [] Tryz.func120 (fun F hE => ?_) h
 unfold C2
 refine Tw [1] (fun f => ⟨Au 31 [(1,.ref 0 17)],[.box [.sl false (L Ah a.p.Zs1.Zu),.sl false (L Ak a.p.Zs1.Zv),.sl false (L Aa a.p.Zt1.Zm1),.sl false (L Af a.p.Zt1.Zn1),.sl false (L Aj a.p.Zt1.Zo1),.sl false (L Ai a.p.Zt1.Zp1),.sl false (L Ag a.p.Zu1),.sl false (L Ae a.p.Zv1),.sl false (L Ab a.p.Zw1),i64 a.it.Zb,i64 a.it.Ref.Za,i64 a.it.Ref.No,i64 a.it.Ze,i64 a.it.Zf,i64 a.it.Zg,i64 a.it.Zh,i64 a.it.Zi,i64 a.it.To,i64 a.it.Code,i64 a.it.Zj,i64 a.it.Zk,i64 a.it.Zl,i64 a.it.Zm,.str a.it.Zn,.sl false (L Ad a.it.Zo),.bool f] false]⟩) ?_ ?_
 ·intro _
  refine Sp (fun b => ?_) fun b => ?_
  ·refine Sp (fun c => ?_) fun c => ?_
   ·exact Lf Ac (Ev (by simp only [go_sem,b,c];exact Al)) (ws [0])
   ·exact Lf Ac (Ev (by simp only [go_sem,b,c];exact Al)) (ws [0])
  ·exact Lf Ac (Ev (by simp only [go_sem,b];exact Al)) (ws [0])
 intro f
 refine F0 [] ?_
 exact Ro [0]
theorem Cv {a d e r} (h : Bi a d e = some r) : Con B 120 [.ref 0 0,.ref 0 18,i64 d,i64 e] [.box [.sl false (L Ah a.p.Zs1.Zu),.sl false (L Ak a.p.Zs1.Zv),.sl false (L Aa a.p.Zt1.Zm1),.sl false (L Af a.p.Zt1.Zn1),.sl false (L Aj a.p.Zt1.Zo1),.sl false (L Ai a.p.Zt1.Zp1),.sl false (L Ag a.p.Zu1),.sl false (L Ae a.p.Zv1),.sl false (L Ab a.p.Zw1),i64 a.it.Zb,i64 a.it.Ref.Za,i64 a.it.Ref.No,i64 a.it.Ze,i64 a.it.Zf,i64 a.it.Zg,i64 a.it.Zh,i64 a.it.Zi,i64 a.it.To,i64 a.it.Code,i64 a.it.Zj,i64 a.it.Zk,i64 a.it.Zl,i64 a.it.Zm,.str a.it.Zn,.sl false (L Ad a.it.Zo),.bool a.ok] false] (fun r' σ' => r' = .tup []∧σ' = [.box [.sl false (L Ah r.p.Zs1.Zu),.sl false (L Ak r.p.Zs1.Zv),.sl false (L Aa r.p.Zt1.Zm1),.sl false (L Af r.p.Zt1.Zn1),.sl false (L Aj r.p.Zt1.Zo1),.sl false (L Ai r.p.Zt1.Zp1),.sl false (L Ag r.p.Zu1),.sl false (L Ae r.p.Zv1),.sl false (L Ab r.p.Zw1),i64 r.it.Zb,i64 r.it.Ref.Za,i64 r.it.Ref.No,i64 r.it.Ze,i64 r.it.Zf,i64 r.it.Zg,i64 r.it.Zh,i64 r.it.Zi,i64 r.it.To,i64 r.it.Code,i64 r.it.Zj,i64 r.it.Zk,i64 r.it.Zl,i64 r.it.Zm,.str r.it.Zn,.sl false (L Ad r.it.Zo),.bool r.ok] false]):=by
 refine Co 1 31 [] Tryz.func120 (fun F hE => ?_) h
 unfold Bi
 refine Tw [1] (fun f => ⟨Au 31 [(1,.ref 0 18)],[.box [.sl false (L Ah a.p.Zs1.Zu),.sl false (L Ak a.p.Zs1.Zv),.sl false (L Aa a.p.Zt1.Zm1),.sl false (L Af a.p.Zt1.Zn1),.sl false (L Aj a.p.Zt1.Zo1),.sl false (L Ai a.p.Zt1.Zp1),.sl false (L Ag a.p.Zu1),.sl false (L Ae a.p.Zv1),.sl false (L Ab a.p.Zw1),i64 a.it.Zb,i64 a.it.Ref.Za,i64 a.it.Ref.No,i64 a.it.Ze,i64 a.it.Zf,i64 a.it.Zg,i64 a.it.Zh,i64 a.it.Zi,i64 a.it.To,i64 a.it.Code,i64 a.it.Zj,i64 a.it.Zk,i64 a.it.Zl,i64 a.it.Zm,.str a.it.Zn,.sl false (L Ad a.it.Zo),.bool f] false]⟩) ?_ ?_
 ·intro _
  refine Sp (fun b => ?_) fun b => ?_
  ·refine Sp (fun c => ?_) fun c => ?_
   ·exact Lf Ac (Ev (by simp only [go_sem,b,c];exact Al)) (ws [0])
   ·exact Lf Ac (Ev (by simp only [go_sem,b,c];exact Al)) (ws [0])
  ·exact Lf Ac (Ev (by simp only [go_sem,b];exact Al)) (ws [0])
 intro f
 refine F0 [] ?_
 exact Ro [0]
theorem Jj {a d e r} (h : C3 a d e = some r) : Con B 120 [.ref 0 0,.ref 0 19,i64 d,i64 e] [.box [.sl false (L Ah a.p.Zs1.Zu),.sl false (L Ak a.p.Zs1.Zv),.sl false (L Aa a.p.Zt1.Zm1),.sl false (L Af a.p.Zt1.Zn1),.sl false (L Aj a.p.Zt1.Zo1),.sl false (L Ai a.p.Zt1.Zp1),.sl false (L Ag a.p.Zu1),.sl false (L Ae a.p.Zv1),.sl false (L Ab a.p.Zw1),i64 a.it.Zb,i64 a.it.Ref.Za,i64 a.it.Ref.No,i64 a.it.Ze,i64 a.it.Zf,i64 a.it.Zg,i64 a.it.Zh,i64 a.it.Zi,i64 a.it.To,i64 a.it.Code,i64 a.it.Zj,i64 a.it.Zk,i64 a.it.Zl,i64 a.it.Zm,.str a.it.Zn,.sl false (L Ad a.it.Zo),.bool a.ok] false] (fun r' σ' => r' = .tup []∧σ' = [.box [.sl false (L Ah r.p.Zs1.Zu),.sl false (L Ak r.p.Zs1.Zv),.sl false (L Aa r.p.Zt1.Zm1),.sl false (L Af r.p.Zt1.Zn1),.sl false (L Aj r.p.Zt1.Zo1),.sl false (L Ai r.p.Zt1.Zp1),.sl false (L Ag r.p.Zu1),.sl false (L Ae r.p.Zv1),.sl false (L Ab r.p.Zw1),i64 r.it.Zb,i64 r.it.Ref.Za,i64 r.it.Ref.No,i64 r.it.Ze,i64 r.it.Zf,i64 r.it.Zg,i64 r.it.Zh,i64 r.it.Zi,i64 r.it.To,i64 r.it.Code,i64 r.it.Zj,i64 r.it.Zk,i64 r.it.Zl,i64 r.it.Zm,.str r.it.Zn,.sl false (L Ad r.it.Zo),.bool r.ok] false]):=by
 refine Co 1 31 [] Tryz.func120 (fun F hE => ?_) h
 unfold C3
 refine Tw [1] (fun f => ⟨Au 31 [(1,.ref 0 19)],[.box [.sl false (L Ah a.p.Zs1.Zu),.sl false (L Ak a.p.Zs1.Zv),.sl false (L Aa a.p.Zt1.Zm1),.sl false (L Af a.p.Zt1.Zn1),.sl false (L Aj a.p.Zt1.Zo1),.sl false (L Ai a.p.Zt1.Zp1),.sl false (L Ag a.p.Zu1),.sl false (L Ae a.p.Zv1),.sl false (L Ab a.p.Zw1),i64 a.it.Zb,i64 a.it.Ref.Za,i64 a.it.Ref.No,i64 a.it.Ze,i64 a.it.Zf,i64 a.it.Zg,i64 a.it.Zh,i64 a.it.Zi,i64 a.it.To,i64 a.it.Code,i64 a.it.Zj,i64 a.it.Zk,i64 a.it.Zl,i64 a.it.Zm,.str a.it.Zn,.sl false (L Ad a.it.Zo),.bool f] false]⟩) ?_ ?_
 ·intro _
  refine Sp (fun b => ?_) fun b => ?_
  ·refine Sp (fun c => ?_) fun c => ?_
   ·exact Lf Ac (Ev (by simp only [go_sem,b,c];exact Al)) (ws [0])
   ·exact Lf Ac (Ev (by simp only [go_sem,b,c];exact Al)) (ws [0])
  ·exact Lf Ac (Ev (by simp only [go_sem,b];exact Al)) (ws [0])
 intro f
 refine F0 [] ?_
 exact Ro [0]
theorem Je {a d e r} (h : Cz a d e = some r) : Con B 120 [.ref 0 0,.ref 0 20,i64 d,i64 e] [.box [.sl false (L Ah a.p.Zs1.Zu),.sl false (L Ak a.p.Zs1.Zv),.sl false (L Aa a.p.Zt1.Zm1),.sl false (L Af a.p.Zt1.Zn1),.sl false (L Aj a.p.Zt1.Zo1),.sl false (L Ai a.p.Zt1.Zp1),.sl false (L Ag a.p.Zu1),.sl false (L Ae a.p.Zv1),.sl false (L Ab a.p.Zw1),i64 a.it.Zb,i64 a.it.Ref.Za,i64 a.it.Ref.No,i64 a.it.Ze,i64 a.it.Zf,i64 a.it.Zg,i64 a.it.Zh,i64 a.it.Zi,i64 a.it.To,i64 a.it.Code,i64 a.it.Zj,i64 a.it.Zk,i64 a.it.Zl,i64 a.it.Zm,.str a.it.Zn,.sl false (L Ad a.it.Zo),.bool a.ok] false] (fun r' σ' => r' = .tup []∧σ' = [.box [.sl false (L Ah r.p.Zs1.Zu),.sl false (L Ak r.p.Zs1.Zv),.sl false (L Aa r.p.Zt1.Zm1),.sl false (L Af r.p.Zt1.Zn1),.sl false (L Aj r.p.Zt1.Zo1),.sl false (L Ai r.p.Zt1.Zp1),.sl false (L Ag r.p.Zu1),.sl false (L Ae r.p.Zv1),.sl false (L Ab r.p.Zw1),i64 r.it.Zb,i64 r.it.Ref.Za,i64 r.it.Ref.No,i64 r.it.Ze,i64 r.it.Zf,i64 r.it.Zg,i64 r.it.Zh,i64 r.it.Zi,i64 r.it.To,i64 r.it.Code,i64 r.it.Zj,i64 r.it.Zk,i64 r.it.Zl,i64 r.it.Zm,.str r.it.Zn,.sl false (L Ad r.it.Zo),.bool r.ok] false]):=by
 refine Co 1 31 [] Tryz.func120 (fun F hE => ?_) h
 unfold Cz
 refine Tw [1] (fun f => ⟨Au 31 [(1,.ref 0 20)],[.box [.sl false (L Ah a.p.Zs1.Zu),.sl false (L Ak a.p.Zs1.Zv),.sl false (L Aa a.p.Zt1.Zm1),.sl false (L Af a.p.Zt1.Zn1),.sl false (L Aj a.p.Zt1.Zo1),.sl false (L Ai a.p.Zt1.Zp1),.sl false (L Ag a.p.Zu1),.sl false (L Ae a.p.Zv1),.sl false (L Ab a.p.Zw1),i64 a.it.Zb,i64 a.it.Ref.Za,i64 a.it.Ref.No,i64 a.it.Ze,i64 a.it.Zf,i64 a.it.Zg,i64 a.it.Zh,i64 a.it.Zi,i64 a.it.To,i64 a.it.Code,i64 a.it.Zj,i64 a.it.Zk,i64 a.it.Zl,i64 a.it.Zm,.str a.it.Zn,.sl false (L Ad a.it.Zo),.bool f] false]⟩) ?_ ?_
 ·intro _
  refine Sp (fun b => ?_) fun b => ?_
  ·refine Sp (fun c => ?_) fun c => ?_
   ·exact Lf Ac (Ev (by simp only [go_sem,b,c];exact Al)) (ws [0])
   ·exact Lf Ac (Ev (by simp only [go_sem,b,c];exact Al)) (ws [0])
  ·exact Lf Ac (Ev (by simp only [go_sem,b];exact Al)) (ws [0])
 intro f
 refine F0 [] ?_
 exact Ro [0]
theorem Fk {a d e r} (h : Ce a d e = some r) : Con B 120 [.ref 0 0,.ref 0 21,i64 d,i64 e] [.box [.sl false (L Ah a.p.Zs1.Zu),.sl false (L Ak a.p.Zs1.Zv),.sl false (L Aa a.p.Zt1.Zm1),.sl false (L Af a.p.Zt1.Zn1),.sl false (L Aj a.p.Zt1.Zo1),.sl false (L Ai a.p.Zt1.Zp1),.sl false (L Ag a.p.Zu1),.sl false (L Ae a.p.Zv1),.sl false (L Ab a.p.Zw1),i64 a.it.Zb,i64 a.it.Ref.Za,i64 a.it.Ref.No,i64 a.it.Ze,i64 a.it.Zf,i64 a.it.Zg,i64 a.it.Zh,i64 a.it.Zi,i64 a.it.To,i64 a.it.Code,i64 a.it.Zj,i64 a.it.Zk,i64 a.it.Zl,i64 a.it.Zm,.str a.it.Zn,.sl false (L Ad a.it.Zo),.bool a.ok] false] (fun r' σ' => r' = .tup []∧σ' = [.box [.sl false (L Ah r.p.Zs1.Zu),.sl false (L Ak r.p.Zs1.Zv),.sl false (L Aa r.p.Zt1.Zm1),.sl false (L Af r.p.Zt1.Zn1),.sl false (L Aj r.p.Zt1.Zo1),.sl false (L Ai r.p.Zt1.Zp1),.sl false (L Ag r.p.Zu1),.sl false (L Ae r.p.Zv1),.sl false (L Ab r.p.Zw1),i64 r.it.Zb,i64 r.it.Ref.Za,i64 r.it.Ref.No,i64 r.it.Ze,i64 r.it.Zf,i64 r.it.Zg,i64 r.it.Zh,i64 r.it.Zi,i64 r.it.To,i64 r.it.Code,i64 r.it.Zj,i64 r.it.Zk,i64 r.it.Zl,i64 r.it.Zm,.str r.it.Zn,.sl false (L Ad r.it.Zo),.bool r.ok] false]):=by
 refine Co 1 31 [] Tryz.func120 (fun F hE => ?_) h
 unfold Ce
 refine Tw [1] (fun f => ⟨Au 31 [(1,.ref 0 21)],[.box [.sl false (L Ah a.p.Zs1.Zu),.sl false (L Ak a.p.Zs1.Zv),.sl false (L Aa a.p.Zt1.Zm1),.sl false (L Af a.p.Zt1.Zn1),.sl false (L Aj a.p.Zt1.Zo1),.sl false (L Ai a.p.Zt1.Zp1),.sl false (L Ag a.p.Zu1),.sl false (L Ae a.p.Zv1),.sl false (L Ab a.p.Zw1),i64 a.it.Zb,i64 a.it.Ref.Za,i64 a.it.Ref.No,i64 a.it.Ze,i64 a.it.Zf,i64 a.it.Zg,i64 a.it.Zh,i64 a.it.Zi,i64 a.it.To,i64 a.it.Code,i64 a.it.Zj,i64 a.it.Zk,i64 a.it.Zl,i64 a.it.Zm,.str a.it.Zn,.sl false (L Ad a.it.Zo),.bool f] false]⟩) ?_ ?_
 ·intro _
  refine Sp (fun b => ?_) fun b => ?_
  ·refine Sp (fun c => ?_) fun c => ?_
   ·exact Lf Ac (Ev (by simp only [go_sem,b,c];exact Al)) (ws [0])
   ·exact Lf Ac (Ev (by simp only [go_sem,b,c];exact Al)) (ws [0])
  ·exact Lf Ac (Ev (by simp only [go_sem,b];exact Al)) (ws [0])
 intro f
 refine F0 [] ?_
 exact Ro [0]
theorem Fh {a d e r} (h : Cg a d e = some r) : Con B 120 [.ref 0 0,.ref 0 22,i64 d,i64 e] [.box [.sl false (L Ah a.p.Zs1.Zu),.sl false (L Ak a.p.Zs1.Zv),.sl false (L Aa a.p.Zt1.Zm1),.sl false (L Af a.p.Zt1.Zn1),.sl false (L Aj a.p.Zt1.Zo1),.sl false (L Ai a.p.Zt1.Zp1),.sl false (L Ag a.p.Zu1),.sl false (L Ae a.p.Zv1),.sl false (L Ab a.p.Zw1),i64 a.it.Zb,i64 a.it.Ref.Za,i64 a.it.Ref.No,i64 a.it.Ze,i64 a.it.Zf,i64 a.it.Zg,i64 a.it.Zh,i64 a.it.Zi,i64 a.it.To,i64 a.it.Code,i64 a.it.Zj,i64 a.it.Zk,i64 a.it.Zl,i64 a.it.Zm,.str a.it.Zn,.sl false (L Ad a.it.Zo),.bool a.ok] false] (fun r' σ' => r' = .tup []∧σ' = [.box [.sl false (L Ah r.p.Zs1.Zu),.sl false (L Ak r.p.Zs1.Zv),.sl false (L Aa r.p.Zt1.Zm1),.sl false (L Af r.p.Zt1.Zn1),.sl false (L Aj r.p.Zt1.Zo1),.sl false (L Ai r.p.Zt1.Zp1),.sl false (L Ag r.p.Zu1),.sl false (L Ae r.p.Zv1),.sl false (L Ab r.p.Zw1),i64 r.it.Zb,i64 r.it.Ref.Za,i64 r.it.Ref.No,i64 r.it.Ze,i64 r.it.Zf,i64 r.it.Zg,i64 r.it.Zh,i64 r.it.Zi,i64 r.it.To,i64 r.it.Code,i64 r.it.Zj,i64 r.it.Zk,i64 r.it.Zl,i64 r.it.Zm,.str r.it.Zn,.sl false (L Ad r.it.Zo),.bool r.ok] false]):=by
 refine Co 1 31 [] Tryz.func120 (fun F hE => ?_) h
 unfold Cg
 refine Tw [1] (fun f => ⟨Au 31 [(1,.ref 0 22)],[.box [.sl false (L Ah a.p.Zs1.Zu),.sl false (L Ak a.p.Zs1.Zv),.sl false (L Aa a.p.Zt1.Zm1),.sl false (L Af a.p.Zt1.Zn1),.sl false (L Aj a.p.Zt1.Zo1),.sl false (L Ai a.p.Zt1.Zp1),.sl false (L Ag a.p.Zu1),.sl false (L Ae a.p.Zv1),.sl false (L Ab a.p.Zw1),i64 a.it.Zb,i64 a.it.Ref.Za,i64 a.it.Ref.No,i64 a.it.Ze,i64 a.it.Zf,i64 a.it.Zg,i64 a.it.Zh,i64 a.it.Zi,i64 a.it.To,i64 a.it.Code,i64 a.it.Zj,i64 a.it.Zk,i64 a.it.Zl,i64 a.it.Zm,.str a.it.Zn,.sl false (L Ad a.it.Zo),.bool f] false]⟩) ?_ ?_
 ·intro _
  refine Sp (fun b => ?_) fun b => ?_
  ·refine Sp (fun c => ?_) fun c => ?_
   ·exact Lf Ac (Ev (by simp only [go_sem,b,c];exact Al)) (ws [0])
   ·exact Lf Ac (Ev (by simp only [go_sem,b,c];exact Al)) (ws [0])
  ·exact Lf Ac (Ev (by simp only [go_sem,b];exact Al)) (ws [0])
 intro f
 refine F0 [] ?_
 exact Ro [0]
theorem Eo {a r} (h : Dd a = some r) : Con B 119 [.ref 0 0] [.box [.sl false (L Ah a.p.Zs1.Zu),.sl false (L Ak a.p.Zs1.Zv),.sl false (L Aa a.p.Zt1.Zm1),.sl false (L Af a.p.Zt1.Zn1),.sl false (L Aj a.p.Zt1.Zo1),.sl false (L Ai a.p.Zt1.Zp1),.sl false (L Ag a.p.Zu1),.sl false (L Ae a.p.Zv1),.sl false (L Ab a.p.Zw1),i64 a.it.Zb,i64 a.it.Ref.Za,i64 a.it.Ref.No,i64 a.it.Ze,i64 a.it.Zf,i64 a.it.Zg,i64 a.it.Zh,i64 a.it.Zi,i64 a.it.To,i64 a.it.Code,i64 a.it.Zj,i64 a.it.Zk,i64 a.it.Zl,i64 a.it.Zm,.str a.it.Zn,.sl false (L Ad a.it.Zo),.bool a.ok] false] (fun r' σ' => r' = .tup []∧σ' = [.box [.sl false (L Ah r.p.Zs1.Zu),.sl false (L Ak r.p.Zs1.Zv),.sl false (L Aa r.p.Zt1.Zm1),.sl false (L Af r.p.Zt1.Zn1),.sl false (L Aj r.p.Zt1.Zo1),.sl false (L Ai r.p.Zt1.Zp1),.sl false (L Ag r.p.Zu1),.sl false (L Ae r.p.Zv1),.sl false (L Ab r.p.Zw1),i64 r.it.Zb,i64 r.it.Ref.Za,i64 r.it.Ref.No,i64 r.it.Ze,i64 r.it.Zf,i64 r.it.Zg,i64 r.it.Zh,i64 r.it.Zi,i64 r.it.To,i64 r.it.Code,i64 r.it.Zj,i64 r.it.Zk,i64 r.it.Zl,i64 r.it.Zm,.str r.it.Zn,.sl false (L Ad r.it.Zo),.bool r.ok] false]):=by
 refine Co 1 16 [] Tryz.func119 (fun F hE => ?_) h
 unfold Dd
 refine Bd fun c b =>Ge [[],[],[1],[1,2],[1,2,3],[],[5],[5,6],[5,6,7],[5,6,7,8],[5,6,7,8,9],[5,6,7,8,9,10],[5,6,7,8,9,10,11],[0,1,2,3,4,5,6,7,8,9,10,11,12]] [] (An (l:=[]) (m:=[(15,120,[.ref 0 0,.ref 0 12,i64 0,i64 (w64 ((a.p.Zt1.Zn1.length : Int) - 1))],[.box [.sl false (L Ah a.p.Zs1.Zu),.sl false (L Ak a.p.Zs1.Zv),.sl false (L Aa a.p.Zt1.Zm1),.sl false (L Af a.p.Zt1.Zn1),.sl false (L Aj a.p.Zt1.Zo1),.sl false (L Ai a.p.Zt1.Zp1),.sl false (L Ag a.p.Zu1),.sl false (L Ae a.p.Zv1),.sl false (L Ab a.p.Zw1),i64 a.it.Zb,i64 a.it.Ref.Za,i64 a.it.Ref.No,i64 a.it.Ze,i64 a.it.Zf,i64 a.it.Zg,i64 a.it.Zh,i64 a.it.Zi,i64 a.it.To,i64 a.it.Code,i64 a.it.Zj,i64 a.it.Zk,i64 a.it.Zl,i64 a.it.Zm,.str a.it.Zn,.sl false (L Ad a.it.Zo),.bool a.ok] false],_,_)]) trivial ⟨(wc (Jg b) [0]),trivial⟩) Ev ?_
 exact Ro [0]
theorem B8 {a r} (h : B6 a = some r) : Con B 121 [.ref 0 0] [.box [.sl false (L Ah a.p.Zs1.Zu),.sl false (L Ak a.p.Zs1.Zv),.sl false (L Aa a.p.Zt1.Zm1),.sl false (L Af a.p.Zt1.Zn1),.sl false (L Aj a.p.Zt1.Zo1),.sl false (L Ai a.p.Zt1.Zp1),.sl false (L Ag a.p.Zu1),.sl false (L Ae a.p.Zv1),.sl false (L Ab a.p.Zw1),i64 a.it.Zb,i64 a.it.Ref.Za,i64 a.it.Ref.No,i64 a.it.Ze,i64 a.it.Zf,i64 a.it.Zg,i64 a.it.Zh,i64 a.it.Zi,i64 a.it.To,i64 a.it.Code,i64 a.it.Zj,i64 a.it.Zk,i64 a.it.Zl,i64 a.it.Zm,.str a.it.Zn,.sl false (L Ad a.it.Zo),.bool a.ok] false] (fun r' σ' => r' = .tup []∧σ' = [.box [.sl false (L Ah r.p.Zs1.Zu),.sl false (L Ak r.p.Zs1.Zv),.sl false (L Aa r.p.Zt1.Zm1),.sl false (L Af r.p.Zt1.Zn1),.sl false (L Aj r.p.Zt1.Zo1),.sl false (L Ai r.p.Zt1.Zp1),.sl false (L Ag r.p.Zu1),.sl false (L Ae r.p.Zv1),.sl false (L Ab r.p.Zw1),i64 r.it.Zb,i64 r.it.Ref.Za,i64 r.it.Ref.No,i64 r.it.Ze,i64 r.it.Zf,i64 r.it.Zg,i64 r.it.Zh,i64 r.it.Zi,i64 r.it.To,i64 r.it.Code,i64 r.it.Zj,i64 r.it.Zk,i64 r.it.Zl,i64 r.it.Zm,.str r.it.Zn,.sl false (L Ad r.it.Zo),.bool r.ok] false]):=by
 refine Co 1 8 [] Tryz.func121 (fun F hE => ?_) h
 unfold B6
 refine Bd fun c b =>Fe [] (An (l:=[]) (m:=[(7,120,[.ref 0 0,.ref 0 16,i64 0,i64 1073741824],[.box [.sl false (L Ah a.p.Zs1.Zu),.sl false (L Ak a.p.Zs1.Zv),.sl false (L Aa a.p.Zt1.Zm1),.sl false (L Af a.p.Zt1.Zn1),.sl false (L Aj a.p.Zt1.Zo1),.sl false (L Ai a.p.Zt1.Zp1),.sl false (L Ag a.p.Zu1),.sl false (L Ae a.p.Zv1),.sl false (L Ab a.p.Zw1),i64 a.it.Zb,i64 a.it.Ref.Za,i64 a.it.Ref.No,i64 a.it.Ze,i64 a.it.Zf,i64 a.it.Zg,i64 a.it.Zh,i64 a.it.Zi,i64 a.it.To,i64 a.it.Code,i64 a.it.Zj,i64 a.it.Zk,i64 a.it.Zl,i64 a.it.Zm,.str a.it.Zn,.sl false (L Ad a.it.Zo),.bool a.ok] false],_,_)]) trivial ⟨(wc (Jv b) [0]),trivial⟩) Ev ?_
 exact Ro [0]
theorem Ee {a r} (h : Cr a = some r) : Con B 124 [.ref 0 0] [.box [.sl false (L Ah a.p.Zs1.Zu),.sl false (L Ak a.p.Zs1.Zv),.sl false (L Aa a.p.Zt1.Zm1),.sl false (L Af a.p.Zt1.Zn1),.sl false (L Aj a.p.Zt1.Zo1),.sl false (L Ai a.p.Zt1.Zp1),.sl false (L Ag a.p.Zu1),.sl false (L Ae a.p.Zv1),.sl false (L Ab a.p.Zw1),i64 a.it.Zb,i64 a.it.Ref.Za,i64 a.it.Ref.No,i64 a.it.Ze,i64 a.it.Zf,i64 a.it.Zg,i64 a.it.Zh,i64 a.it.Zi,i64 a.it.To,i64 a.it.Code,i64 a.it.Zj,i64 a.it.Zk,i64 a.it.Zl,i64 a.it.Zm,.str a.it.Zn,.sl false (L Ad a.it.Zo),.bool a.ok] false] (fun r' σ' => r' = .tup []∧σ' = [.box [.sl false (L Ah r.p.Zs1.Zu),.sl false (L Ak r.p.Zs1.Zv),.sl false (L Aa r.p.Zt1.Zm1),.sl false (L Af r.p.Zt1.Zn1),.sl false (L Aj r.p.Zt1.Zo1),.sl false (L Ai r.p.Zt1.Zp1),.sl false (L Ag r.p.Zu1),.sl false (L Ae r.p.Zv1),.sl false (L Ab r.p.Zw1),i64 r.it.Zb,i64 r.it.Ref.Za,i64 r.it.Ref.No,i64 r.it.Ze,i64 r.it.Zf,i64 r.it.Zg,i64 r.it.Zh,i64 r.it.Zi,i64 r.it.To,i64 r.it.Code,i64 r.it.Zj,i64 r.it.Zk,i64 r.it.Zl,i64 r.it.Zm,.str r.it.Zn,.sl false (L Ad r.it.Zo),.bool r.ok] false]):=by
 refine Co 1 15 [] Tryz.func124 (fun F hE => ?_) h
 unfold Cr
 refine Bd fun c b =>Ge [[],[],[1],[1,2],[1,2,3],[],[5],[5,6],[5,6,7],[5,6,7,8],[5,6,7,8,9],[5,6,7,8,9,10],[0,1,2,3,4,5,6,7,8,9,10,11]] [] (An (l:=[]) (m:=[(14,120,[.ref 0 0,.ref 0 14,i64 0,i64 (w64 ((a.p.Zv1.length : Int) - 1))],[.box [.sl false (L Ah a.p.Zs1.Zu),.sl false (L Ak a.p.Zs1.Zv),.sl false (L Aa a.p.Zt1.Zm1),.sl false (L Af a.p.Zt1.Zn1),.sl false (L Aj a.p.Zt1.Zo1),.sl false (L Ai a.p.Zt1.Zp1),.sl false (L Ag a.p.Zu1),.sl false (L Ae a.p.Zv1),.sl false (L Ab a.p.Zw1),i64 a.it.Zb,i64 a.it.Ref.Za,i64 a.it.Ref.No,i64 a.it.Ze,i64 a.it.Zf,i64 a.it.Zg,i64 a.it.Zh,i64 a.it.Zi,i64 a.it.To,i64 a.it.Code,i64 a.it.Zj,i64 a.it.Zk,i64 a.it.Zl,i64 a.it.Zm,.str a.it.Zn,.sl false (L Ad a.it.Zo),.bool a.ok] false],_,_)]) trivial ⟨(wc (Dv b) [0]),trivial⟩) Ev ?_
 exact Ro [0]
theorem Hc {a r} (h : D8 a = some r) : Con B 125 [.ref 0 0] [.box [.sl false (L Ah a.p.Zs1.Zu),.sl false (L Ak a.p.Zs1.Zv),.sl false (L Aa a.p.Zt1.Zm1),.sl false (L Af a.p.Zt1.Zn1),.sl false (L Aj a.p.Zt1.Zo1),.sl false (L Ai a.p.Zt1.Zp1),.sl false (L Ag a.p.Zu1),.sl false (L Ae a.p.Zv1),.sl false (L Ab a.p.Zw1),i64 a.it.Zb,i64 a.it.Ref.Za,i64 a.it.Ref.No,i64 a.it.Ze,i64 a.it.Zf,i64 a.it.Zg,i64 a.it.Zh,i64 a.it.Zi,i64 a.it.To,i64 a.it.Code,i64 a.it.Zj,i64 a.it.Zk,i64 a.it.Zl,i64 a.it.Zm,.str a.it.Zn,.sl false (L Ad a.it.Zo),.bool a.ok] false] (fun r' σ' => r' = .tup []∧σ' = [.box [.sl false (L Ah r.p.Zs1.Zu),.sl false (L Ak r.p.Zs1.Zv),.sl false (L Aa r.p.Zt1.Zm1),.sl false (L Af r.p.Zt1.Zn1),.sl false (L Aj r.p.Zt1.Zo1),.sl false (L Ai r.p.Zt1.Zp1),.sl false (L Ag r.p.Zu1),.sl false (L Ae r.p.Zv1),.sl false (L Ab r.p.Zw1),i64 r.it.Zb,i64 r.it.Ref.Za,i64 r.it.Ref.No,i64 r.it.Ze,i64 r.it.Zf,i64 r.it.Zg,i64 r.it.Zh,i64 r.it.Zi,i64 r.it.To,i64 r.it.Code,i64 r.it.Zj,i64 r.it.Zk,i64 r.it.Zl,i64 r.it.Zm,.str r.it.Zn,.sl false (L Ad r.it.Zo),.bool r.ok] false]):=by
 refine Co 1 8 [] Tryz.func125 (fun F hE => ?_) h
 unfold D8
 refine Bd fun c b =>Fe [] (An (l:=[]) (m:=[(7,120,[.ref 0 0,.ref 0 20,i64 0,i64 63],[.box [.sl false (L Ah a.p.Zs1.Zu),.sl false (L Ak a.p.Zs1.Zv),.sl false (L Aa a.p.Zt1.Zm1),.sl false (L Af a.p.Zt1.Zn1),.sl false (L Aj a.p.Zt1.Zo1),.sl false (L Ai a.p.Zt1.Zp1),.sl false (L Ag a.p.Zu1),.sl false (L Ae a.p.Zv1),.sl false (L Ab a.p.Zw1),i64 a.it.Zb,i64 a.it.Ref.Za,i64 a.it.Ref.No,i64 a.it.Ze,i64 a.it.Zf,i64 a.it.Zg,i64 a.it.Zh,i64 a.it.Zi,i64 a.it.To,i64 a.it.Code,i64 a.it.Zj,i64 a.it.Zk,i64 a.it.Zl,i64 a.it.Zm,.str a.it.Zn,.sl false (L Ad a.it.Zo),.bool a.ok] false],_,_)]) trivial ⟨(wc (Je b) [0]),trivial⟩) Ev ?_
 exact Ro [0]
theorem Cc {a c r} (h : Bt a c = some r) : Con B 122 [.ref 0 0,i64 c] [.box [.sl false (L Ah a.p.Zs1.Zu),.sl false (L Ak a.p.Zs1.Zv),.sl false (L Aa a.p.Zt1.Zm1),.sl false (L Af a.p.Zt1.Zn1),.sl false (L Aj a.p.Zt1.Zo1),.sl false (L Ai a.p.Zt1.Zp1),.sl false (L Ag a.p.Zu1),.sl false (L Ae a.p.Zv1),.sl false (L Ab a.p.Zw1),i64 a.it.Zb,i64 a.it.Ref.Za,i64 a.it.Ref.No,i64 a.it.Ze,i64 a.it.Zf,i64 a.it.Zg,i64 a.it.Zh,i64 a.it.Zi,i64 a.it.To,i64 a.it.Code,i64 a.it.Zj,i64 a.it.Zk,i64 a.it.Zl,i64 a.it.Zm,.str a.it.Zn,.sl false (L Ad a.it.Zo),.bool a.ok] false] (fun r' σ' => r' = .agg [i64 r.1.Zb,i64 r.1.Za,i64 r.1.Zg]∧σ' = [.box [.sl false (L Ah r.2.p.Zs1.Zu),.sl false (L Ak r.2.p.Zs1.Zv),.sl false (L Aa r.2.p.Zt1.Zm1),.sl false (L Af r.2.p.Zt1.Zn1),.sl false (L Aj r.2.p.Zt1.Zo1),.sl false (L Ai r.2.p.Zt1.Zp1),.sl false (L Ag r.2.p.Zu1),.sl false (L Ae r.2.p.Zv1),.sl false (L Ab r.2.p.Zw1),i64 r.2.it.Zb,i64 r.2.it.Ref.Za,i64 r.2.it.Ref.No,i64 r.2.it.Ze,i64 r.2.it.Zf,i64 r.2.it.Zg,i64 r.2.it.Zh,i64 r.2.it.Zi,i64 r.2.it.To,i64 r.2.it.Code,i64 r.2.it.Zj,i64 r.2.it.Zk,i64 r.2.it.Zl,i64 r.2.it.Zm,.str r.2.it.Zn,.sl false (L Ad r.2.it.Zo),.bool r.2.ok] false]):=by
 refine Co 1 66 [.cell 4 99] Tryz.func122 (fun F hE => ?_) h
 unfold Bt
 refine T0 [0,1,4] ?_
 refine Ja (fun ⟨e,f,g⟩ => ⟨Au 66 [(0,.ref 0 0),(1,i64 c),(4,.ref 1 0)],[.box [.sl false (L Ah a.p.Zs1.Zu),.sl false (L Ak a.p.Zs1.Zv),.sl false (L Aa a.p.Zt1.Zm1),.sl false (L Af a.p.Zt1.Zn1),.sl false (L Aj a.p.Zt1.Zo1),.sl false (L Ai a.p.Zt1.Zp1),.sl false (L Ag a.p.Zu1),.sl false (L Ae a.p.Zv1),.sl false (L Ab a.p.Zw1),i64 a.it.Zb,i64 a.it.Ref.Za,i64 a.it.Ref.No,i64 a.it.Ze,i64 a.it.Zf,i64 a.it.Zg,i64 a.it.Zh,i64 a.it.Zi,i64 a.it.To,i64 a.it.Code,i64 a.it.Zj,i64 a.it.Zk,i64 a.it.Zl,i64 a.it.Zm,.str a.it.Zn,.sl false (L Ad a.it.Zo),.bool a.ok] false,.box [i64 e,i64 f,i64 g] false]⟩) ?_ ?_
 ·intro v
  refine Dw [[],[0],[0,1],[0,1,2],[0,1,2,3],[0,1,2,3,4],[0,1,2,3,4,5],[0,1,2,3,4,5,6],[0,1,2,3,4,5,6,7],[0,1,2,3,4,5,6,7,8],[0,1,2,3,4,5,6,7,8,9],[0,1,2,3,4,5,6,7,8,9,10],[0,1,2,3,4,5,6],[0,1,2,3,4,5,6,12],[0,1,2,3,4,5,6,12,13],[0,1,2,3,4,5,6,12,13,14],[0,1,2,3,4,5,6,12,13,14,15],[0,1,2,3,4,5,6,12,13,14,15,16],[0,1,2,3,4,5,6,12,13,14,15,16,17],[0,1,2,3,4,5,6,7,8,9,10,11,12,13,14,15,16,17,18],[0,1,2,3,4,5,6,7,8,9,10,11,12,13,14,15,16,17,18,19]] [0,1,4,25] (fun k => ⟨Au 66 [(0,.ref 0 0),(1,i64 c),(4,.ref 1 0),(25,.bool k)],[.box [.sl false (L Ah a.p.Zs1.Zu),.sl false (L Ak a.p.Zs1.Zv),.sl false (L Aa a.p.Zt1.Zm1),.sl false (L Af a.p.Zt1.Zn1),.sl false (L Aj a.p.Zt1.Zo1),.sl false (L Ai a.p.Zt1.Zp1),.sl false (L Ag a.p.Zu1),.sl false (L Ae a.p.Zv1),.sl false (L Ab a.p.Zw1),i64 a.it.Zb,i64 a.it.Ref.Za,i64 a.it.Ref.No,i64 a.it.Ze,i64 a.it.Zf,i64 a.it.Zg,i64 a.it.Zh,i64 a.it.Zi,i64 a.it.To,i64 a.it.Code,i64 a.it.Zj,i64 a.it.Zk,i64 a.it.Zl,i64 a.it.Zm,.str a.it.Zn,.sl false (L Ad a.it.Zo),.bool a.ok] false,.box [i64 0,i64 0,i64 0] false]⟩) ?_ ?_
  ·intro _
   refine Sp (fun i => ?_) fun i => ?_
   ·exact Lf Ac (Ev (by simp only [go_sem,i];exact Al)) (ws [0,1])
   ·exact Lf Ac (Ev (by simp only [go_sem,i];exact Al)) (ws [0,1])
  intro k
  refine Cd ?_ ?_
  ·refine Ck fun m =>Lt fun n o =>Lt fun q s =>Lt fun t u =>Ge (σ':=[_,.box [i64 n,i64 q,i64 t] false]) [[],[0],[0,1],[0,1,2],[0,1,2,3],[0,1,2,3,4],[],[6],[6,7],[6,7,8],[6,7,8,9],[0,1,2,3,4,5,6,7,8,9,10],[0,1,2,3,4,5,6,7,8,9,10,11],[0,1,2,3,4,5,6,7,8,9,10,11,12]] [0,1,4] Ac (Ev (by simp only [go_sem,qR m,o,s,u];exact Al)) ?_
   exact Jm (ws [0,1])
  ·exact Sk <|Jm (ws [0,1])
 rintro ⟨e,f,g⟩
 refine Tw [0,4] (fun l => ⟨Au 66 [(0,.ref 0 0),(4,.ref 1 0)],[.box [.sl false (L Ah a.p.Zs1.Zu),.sl false (L Ak a.p.Zs1.Zv),.sl false (L Aa a.p.Zt1.Zm1),.sl false (L Af a.p.Zt1.Zn1),.sl false (L Aj a.p.Zt1.Zo1),.sl false (L Ai a.p.Zt1.Zp1),.sl false (L Ag a.p.Zu1),.sl false (L Ae a.p.Zv1),.sl false (L Ab a.p.Zw1),i64 a.it.Zb,i64 a.it.Ref.Za,i64 a.it.Ref.No,i64 a.it.Ze,i64 a.it.Zf,i64 a.it.Zg,i64 a.it.Zh,i64 a.it.Zi,i64 a.it.To,i64 a.it.Code,i64 a.it.Zj,i64 a.it.Zk,i64 a.it.Zl,i64 a.it.Zm,.str a.it.Zn,.sl false (L Ad a.it.Zo),.bool l] false,.box [i64 e,i64 f,i64 g] false]⟩) ?_ ?_
 ·intro _
  refine Sp (fun b => ?_) fun b => ?_
  ·refine Sp (fun d => ?_) fun d => ?_
   ·refine Sp (fun j => ?_) fun j => ?_
    ·exact Lf Ac (Ev (by simp only [go_sem,b,d,j];exact Al)) (ws [0,1])
    ·exact Lf Ac (Ev (by simp only [go_sem,b,d,j];exact Al)) (ws [0,1])
   ·exact Lf Ac (Ev (by simp only [go_sem,b,d];exact Al)) (ws [0,1])
  ·exact Lf Ac (Ev (by simp only [go_sem,b];exact Al)) (ws [0,1])
 intro l
 refine T0 [4] ?_
 refine T0 [4] ?_
 exact Sr <|Ro [0]
theorem Fd {a r} (h : Dm a = some r) : Con B 123 [.ref 0 0] [.box [.sl false (L Ah a.p.Zs1.Zu),.sl false (L Ak a.p.Zs1.Zv),.sl false (L Aa a.p.Zt1.Zm1),.sl false (L Af a.p.Zt1.Zn1),.sl false (L Aj a.p.Zt1.Zo1),.sl false (L Ai a.p.Zt1.Zp1),.sl false (L Ag a.p.Zu1),.sl false (L Ae a.p.Zv1),.sl false (L Ab a.p.Zw1),i64 a.it.Zb,i64 a.it.Ref.Za,i64 a.it.Ref.No,i64 a.it.Ze,i64 a.it.Zf,i64 a.it.Zg,i64 a.it.Zh,i64 a.it.Zi,i64 a.it.To,i64 a.it.Code,i64 a.it.Zj,i64 a.it.Zk,i64 a.it.Zl,i64 a.it.Zm,.str a.it.Zn,.sl false (L Ad a.it.Zo),.bool a.ok] false] (fun r' σ' => r' = .tup []∧σ' = [.box [.sl false (L Ah r.p.Zs1.Zu),.sl false (L Ak r.p.Zs1.Zv),.sl false (L Aa r.p.Zt1.Zm1),.sl false (L Af r.p.Zt1.Zn1),.sl false (L Aj r.p.Zt1.Zo1),.sl false (L Ai r.p.Zt1.Zp1),.sl false (L Ag r.p.Zu1),.sl false (L Ae r.p.Zv1),.sl false (L Ab r.p.Zw1),i64 r.it.Zb,i64 r.it.Ref.Za,i64 r.it.Ref.No,i64 r.it.Ze,i64 r.it.Zf,i64 r.it.Zg,i64 r.it.Zh,i64 r.it.Zi,i64 r.it.To,i64 r.it.Code,i64 r.it.Zj,i64 r.it.Zk,i64 r.it.Zl,i64 r.it.Zm,.str r.it.Zn,.sl false (L Ad r.it.Zo),.bool r.ok] false]):=by
 refine Co 1 16 [] Tryz.func123 (fun F hE => ?_) h
 unfold Dm
 refine Bd fun b c =>De [[],[],[1],[1,2],[1,2,3],[],[5],[5,6],[5,6,7],[5,6,7,8],[5,6,7,8,9],[0,1,2,3,4,5,6,7,8,9,10]] [0] (An (l:=[]) (m:=[(13,120,[.ref 0 0,.ref 0 17,i64 (AcP a.it.Zi 0),i64 1073741824],[.box [.sl false (L Ah a.p.Zs1.Zu),.sl false (L Ak a.p.Zs1.Zv),.sl false (L Aa a.p.Zt1.Zm1),.sl false (L Af a.p.Zt1.Zn1),.sl false (L Aj a.p.Zt1.Zo1),.sl false (L Ai a.p.Zt1.Zp1),.sl false (L Ag a.p.Zu1),.sl false (L Ae a.p.Zv1),.sl false (L Ab a.p.Zw1),i64 a.it.Zb,i64 a.it.Ref.Za,i64 a.it.Ref.No,i64 a.it.Ze,i64 a.it.Zf,i64 a.it.Zg,i64 a.it.Zh,i64 a.it.Zi,i64 a.it.To,i64 a.it.Code,i64 a.it.Zj,i64 a.it.Zk,i64 a.it.Zl,i64 a.it.Zm,.str a.it.Zn,.sl false (L Ad a.it.Zo),.bool a.ok] false],_,_)]) trivial ⟨(wc (Jl c) [0]),trivial⟩) Ev ?_
 refine Bd fun e d =>Fe [] (An (l:=[]) (m:=[(15,121,[.ref 0 0],[.box [.sl false (L Ah b.p.Zs1.Zu),.sl false (L Ak b.p.Zs1.Zv),.sl false (L Aa b.p.Zt1.Zm1),.sl false (L Af b.p.Zt1.Zn1),.sl false (L Aj b.p.Zt1.Zo1),.sl false (L Ai b.p.Zt1.Zp1),.sl false (L Ag b.p.Zu1),.sl false (L Ae b.p.Zv1),.sl false (L Ab b.p.Zw1),i64 b.it.Zb,i64 b.it.Ref.Za,i64 b.it.Ref.No,i64 b.it.Ze,i64 b.it.Zf,i64 b.it.Zg,i64 b.it.Zh,i64 b.it.Zi,i64 b.it.To,i64 b.it.Code,i64 b.it.Zj,i64 b.it.Zk,i64 b.it.Zl,i64 b.it.Zm,.str b.it.Zn,.sl false (L Ad b.it.Zo),.bool b.ok] false],_,_)]) trivial ⟨(wc (B8 d) [0]),trivial⟩) Ev ?_
 exact Ro [0]
theorem Kl {b r} (h : C9 b = some r) : Con B 85 [.ref 0 0] [.box [.sl false (L Ah b.p.Zs1.Zu),.sl false (L Ak b.p.Zs1.Zv),.sl false (L Aa b.p.Zt1.Zm1),.sl false (L Af b.p.Zt1.Zn1),.sl false (L Aj b.p.Zt1.Zo1),.sl false (L Ai b.p.Zt1.Zp1),.sl false (L Ag b.p.Zu1),.sl false (L Ae b.p.Zv1),.sl false (L Ab b.p.Zw1),i64 b.it.Zb,i64 b.it.Ref.Za,i64 b.it.Ref.No,i64 b.it.Ze,i64 b.it.Zf,i64 b.it.Zg,i64 b.it.Zh,i64 b.it.Zi,i64 b.it.To,i64 b.it.Code,i64 b.it.Zj,i64 b.it.Zk,i64 b.it.Zl,i64 b.it.Zm,.str b.it.Zn,.sl false (L Ad b.it.Zo),.bool b.ok] false] (fun r' σ' => r' = .tup []∧σ' = [.box [.sl false (L Ah r.p.Zs1.Zu),.sl false (L Ak r.p.Zs1.Zv),.sl false (L Aa r.p.Zt1.Zm1),.sl false (L Af r.p.Zt1.Zn1),.sl false (L Aj r.p.Zt1.Zo1),.sl false (L Ai r.p.Zt1.Zp1),.sl false (L Ag r.p.Zu1),.sl false (L Ae r.p.Zv1),.sl false (L Ab r.p.Zw1),i64 r.it.Zb,i64 r.it.Ref.Za,i64 r.it.Ref.No,i64 r.it.Ze,i64 r.it.Zf,i64 r.it.Zg,i64 r.it.Zh,i64 r.it.Zi,i64 r.it.To,i64 r.it.Code,i64 r.it.Zj,i64 r.it.Zk,i64 r.it.Zl,i64 r.it.Zm,.str r.it.Zn,.sl false (L Ad r.it.Zo),.bool r.ok] false]):=by
 refine Co 1 135 [] Tryz.func85 (fun F hE => ?_) h
 unfold C9
 refine T0 [0,2] ?_
 refine Sq <|T0 [0,2,11] ?_
 refine Cd ?_ ?_
 ·refine T0 [] ?_
  exact Sr <|Tr <|Ro [0]
 ·refine Sk <|Tn <|Bd fun a z =>Te [0,2] (An (l:=[]) (m:=[(16,119,[.ref 0 0],[.box [.sl false (L Ah b.p.Zs1.Zu),.sl false (L Ak b.p.Zs1.Zv),.sl false (L Aa b.p.Zt1.Zm1),.sl false (L Af b.p.Zt1.Zn1),.sl false (L Aj b.p.Zt1.Zo1),.sl false (L Ai b.p.Zt1.Zp1),.sl false (L Ag b.p.Zu1),.sl false (L Ae b.p.Zv1),.sl false (L Ab b.p.Zw1),i64 b.it.Zb,i64 b.it.Ref.Za,i64 b.it.Ref.No,i64 b.it.Ze,i64 b.it.Zf,i64 b.it.Zg,i64 b.it.Zh,i64 b.it.Zi,i64 b.it.To,i64 b.it.Code,i64 b.it.Zj,i64 b.it.Zk,i64 b.it.Zl,i64 b.it.Zm,.str b.it.Zn,.sl false (L Ad b.it.Zo),.bool b.ok] false],_,_)]) trivial ⟨(wc (Eo z) [0]),trivial⟩) Ev ?_
  refine T0 [0,2,20] ?_
  refine Sb <|T0 [0,2,20,21] ?_
  refine Cd ?_ ?_
  ·refine Bd fun e aa =>De [[],[],[1],[1,2],[],[4],[4,5],[4,5,6],[4,5,6,7],[4,5,6,7,8],[4,5,6,7,8,9],[0,1,2,3,4,5,6,7,8,9,10]] [0] (An (l:=[]) (m:=[(34,120,[.ref 0 0,.ref 0 14,i64 0,i64 (w64 ((a.p.Zu1.length : Int) - 1))],[.box [.sl false (L Ah a.p.Zs1.Zu),.sl false (L Ak a.p.Zs1.Zv),.sl false (L Aa a.p.Zt1.Zm1),.sl false (L Af a.p.Zt1.Zn1),.sl false (L Aj a.p.Zt1.Zo1),.sl false (L Ai a.p.Zt1.Zp1),.sl false (L Ag a.p.Zu1),.sl false (L Ae a.p.Zv1),.sl false (L Ab a.p.Zw1),i64 a.it.Zb,i64 a.it.Ref.Za,i64 a.it.Ref.No,i64 a.it.Ze,i64 a.it.Zf,i64 a.it.Zg,i64 a.it.Zh,i64 a.it.Zi,i64 a.it.To,i64 a.it.Code,i64 a.it.Zj,i64 a.it.Zk,i64 a.it.Zl,i64 a.it.Zm,.str a.it.Zn,.sl false (L Ad a.it.Zo),.bool a.ok] false],_,_)]) trivial ⟨(wc (Dv aa) [0]),trivial⟩) Ev ?_
   refine Bd fun au ab =>Fe [] (An (l:=[]) (m:=[(36,121,[.ref 0 0],[.box [.sl false (L Ah e.p.Zs1.Zu),.sl false (L Ak e.p.Zs1.Zv),.sl false (L Aa e.p.Zt1.Zm1),.sl false (L Af e.p.Zt1.Zn1),.sl false (L Aj e.p.Zt1.Zo1),.sl false (L Ai e.p.Zt1.Zp1),.sl false (L Ag e.p.Zu1),.sl false (L Ae e.p.Zv1),.sl false (L Ab e.p.Zw1),i64 e.it.Zb,i64 e.it.Ref.Za,i64 e.it.Ref.No,i64 e.it.Ze,i64 e.it.Zf,i64 e.it.Zg,i64 e.it.Zh,i64 e.it.Zi,i64 e.it.To,i64 e.it.Code,i64 e.it.Zj,i64 e.it.Zk,i64 e.it.Zl,i64 e.it.Zm,.str e.it.Zn,.sl false (L Ad e.it.Zo),.bool e.ok] false],_,_)]) trivial ⟨(wc (B8 ab) [0]),trivial⟩) Ev ?_
   exact Bn <|Ro [0]
  ·refine T0 [0,2,20,37] ?_
   refine Cd ?_ ?_
   ·refine Bd fun f ac =>Te [0] (An (l:=[]) (m:=[(40,122,[.ref 0 0,i64 0],[.box [.sl false (L Ah a.p.Zs1.Zu),.sl false (L Ak a.p.Zs1.Zv),.sl false (L Aa a.p.Zt1.Zm1),.sl false (L Af a.p.Zt1.Zn1),.sl false (L Aj a.p.Zt1.Zo1),.sl false (L Ai a.p.Zt1.Zp1),.sl false (L Ag a.p.Zu1),.sl false (L Ae a.p.Zv1),.sl false (L Ab a.p.Zw1),i64 a.it.Zb,i64 a.it.Ref.Za,i64 a.it.Ref.No,i64 a.it.Ze,i64 a.it.Zf,i64 a.it.Zg,i64 a.it.Zh,i64 a.it.Zi,i64 a.it.To,i64 a.it.Code,i64 a.it.Zj,i64 a.it.Zk,i64 a.it.Zl,i64 a.it.Zm,.str a.it.Zn,.sl false (L Ad a.it.Zo),.bool a.ok] false],_,_)]) trivial ⟨(wc (Cc ac) [0]),trivial⟩) Ev ?_
    refine Bd fun av ad =>Fe [] (An (l:=[]) (m:=[(42,123,[.ref 0 0],[.box [.sl false (L Ah f.2.p.Zs1.Zu),.sl false (L Ak f.2.p.Zs1.Zv),.sl false (L Aa f.2.p.Zt1.Zm1),.sl false (L Af f.2.p.Zt1.Zn1),.sl false (L Aj f.2.p.Zt1.Zo1),.sl false (L Ai f.2.p.Zt1.Zp1),.sl false (L Ag f.2.p.Zu1),.sl false (L Ae f.2.p.Zv1),.sl false (L Ab f.2.p.Zw1),i64 f.2.it.Zb,i64 f.2.it.Ref.Za,i64 f.2.it.Ref.No,i64 f.2.it.Ze,i64 f.2.it.Zf,i64 f.2.it.Zg,i64 f.2.it.Zh,i64 f.2.it.Zi,i64 f.2.it.To,i64 f.2.it.Code,i64 f.2.it.Zj,i64 f.2.it.Zk,i64 f.2.it.Zl,i64 f.2.it.Zm,.str f.2.it.Zn,.sl false (L Ad f.2.it.Zo),.bool f.2.ok] false],_,_)]) trivial ⟨(wc (Fd ad) [0]),trivial⟩) Ev ?_
    exact Bn <|Ro [0]
   ·refine Ja (fun x => ⟨Au 135 [(0,.ref 0 0),(2,.ref 0 9),(20,i64 a.it.Zb),(43,.bool x)],[.box [.sl false (L Ah a.p.Zs1.Zu),.sl false (L Ak a.p.Zs1.Zv),.sl false (L Aa a.p.Zt1.Zm1),.sl false (L Af a.p.Zt1.Zn1),.sl false (L Aj a.p.Zt1.Zo1),.sl false (L Ai a.p.Zt1.Zp1),.sl false (L Ag a.p.Zu1),.sl false (L Ae a.p.Zv1),.sl false (L Ab a.p.Zw1),i64 a.it.Zb,i64 a.it.Ref.Za,i64 a.it.Ref.No,i64 a.it.Ze,i64 a.it.Zf,i64 a.it.Zg,i64 a.it.Zh,i64 a.it.Zi,i64 a.it.To,i64 a.it.Code,i64 a.it.Zj,i64 a.it.Zk,i64 a.it.Zl,i64 a.it.Zm,.str a.it.Zn,.sl false (L Ad a.it.Zo),.bool a.ok] false]⟩) ?_ ?_
    ·intro aw
     refine T0 [0,2,20,43] ?_
     refine Cd ?_ ?_
     ·exact Sk <|Jm (ws [0])
     ·refine F0 [0,2,20,43] ?_
      exact Jm (ws [0])
    intro x
    refine Cd ?_ ?_
    ·refine Bd fun c ae =>Te [0,2,3] (An (l:=[]) (m:=[(47,122,[.ref 0 0,i64 3],[.box [.sl false (L Ah a.p.Zs1.Zu),.sl false (L Ak a.p.Zs1.Zv),.sl false (L Aa a.p.Zt1.Zm1),.sl false (L Af a.p.Zt1.Zn1),.sl false (L Aj a.p.Zt1.Zo1),.sl false (L Ai a.p.Zt1.Zp1),.sl false (L Ag a.p.Zu1),.sl false (L Ae a.p.Zv1),.sl false (L Ab a.p.Zw1),i64 a.it.Zb,i64 a.it.Ref.Za,i64 a.it.Ref.No,i64 a.it.Ze,i64 a.it.Zf,i64 a.it.Zg,i64 a.it.Zh,i64 a.it.Zi,i64 a.it.To,i64 a.it.Code,i64 a.it.Zj,i64 a.it.Zk,i64 a.it.Zl,i64 a.it.Zm,.str a.it.Zn,.sl false (L Ad a.it.Zo),.bool a.ok] false],_,_)]) trivial ⟨(wc (Cc ae) [0]),trivial⟩) Ev ?_
     refine Dw [[],[],[1],[1,2],[1,2,3],[1,2,3,4],[1,2,3,4,5],[1,2,3,4,5,6],[1,2,3,4,5,6,7],[1,2,3,4,5,6,7,8],[1,2,3,4,5],[1,2,3,4,5,10],[1,2,3,4,5,6,7,8,9,10,11],[1,2,3,4,5,6,7,8,9,10,11,12],[1,2,3,4,5,6,7,8,9,10,11,12,13],[1,2,3,4,5,6,7,8,9,10,11,12,13,14],[1,2,3,4,5,6,7,8,9,10,11,12,13,14,15],[1,2,3,4,5,6,7,8,9,10,11,12,13,14,15,16],[1,2,3,4,5,6,7,8,9,10,11,12,13],[1,2,3,4,5,6,7,8,9,10,11,12,13,18],[1,2,3,4,5,6,7,8,9,10,11,12,13,14,15,16,17,18,19],[1,2,3,4,5,6,7,8,9,10,11,12,13,14,15,16,17,18,19,20],[1,2,3,4,5,6,7,8,9,10,11,12,13,14,15,16,17,18,19,20,21],[0,1,2,3,4,5,6,7,8,9,10,11,12,13,14,15,16,17,18,19,20,21,22],[0,1,2,3,4,5,6,7,8,9,10,11,12,13,14,15,16,17,18,19,20,21,22,23],[0,1,2,3,4,5,6,7,8,9,10,11,12,13,14,15,16,17,18,19,20,21,22,23,24]] [0,2] (fun v => ⟨Au 135 [(0,.ref 0 0),(2,.ref 0 9)],[.box [.sl false (L Ah c.2.p.Zs1.Zu),.sl false (L Ak c.2.p.Zs1.Zv),.sl false (L Aa c.2.p.Zt1.Zm1),.sl false (L Af c.2.p.Zt1.Zn1),.sl false (L Aj c.2.p.Zt1.Zo1),.sl false (L Ai c.2.p.Zt1.Zp1),.sl false (L Ag c.2.p.Zu1),.sl false (L Ae c.2.p.Zv1),.sl false (L Ab c.2.p.Zw1),i64 c.2.it.Zb,i64 c.2.it.Ref.Za,i64 c.2.it.Ref.No,i64 c.2.it.Ze,i64 c.2.it.Zf,i64 c.2.it.Zg,i64 c.2.it.Zh,i64 c.2.it.Zi,i64 c.2.it.To,i64 c.2.it.Code,i64 c.2.it.Zj,i64 c.2.it.Zk,i64 c.2.it.Zl,i64 c.2.it.Zm,.str c.2.it.Zn,.sl false (L Ad c.2.it.Zo),.bool v] false]⟩) ?_ ?_
     ·intro _
      refine Sp (fun u => ?_) fun u => ?_
      ·refine Sp (fun w => ?_) fun w => ?_
       ·exact Lf Ac (Ev (by simp only [go_sem,u,w];exact Al)) (ws [0])
       ·exact Lf Ac (Ev (by simp only [go_sem,u,w];exact Al)) (ws [0])
      ·exact Lf Ac (Ev (by simp only [go_sem,u];exact Al)) (ws [0])
     intro v
     refine T0 [0,2] ?_
     refine Bd fun g af =>Te [0,2] (An (l:=[]) (m:=[(77,121,[.ref 0 0],[.box [.sl false (L Ah c.2.p.Zs1.Zu),.sl false (L Ak c.2.p.Zs1.Zv),.sl false (L Aa c.2.p.Zt1.Zm1),.sl false (L Af c.2.p.Zt1.Zn1),.sl false (L Aj c.2.p.Zt1.Zo1),.sl false (L Ai c.2.p.Zt1.Zp1),.sl false (L Ag c.2.p.Zu1),.sl false (L Ae c.2.p.Zv1),.sl false (L Ab c.2.p.Zw1),i64 c.2.it.Zb,i64 c.2.it.Ref.Za,i64 c.2.it.Ref.No,i64 c.2.it.Ze,i64 c.2.it.Zf,i64 0,i64 c.2.it.Zh,i64 c.2.it.Zi,i64 c.2.it.To,i64 c.2.it.Code,i64 c.2.it.Zj,i64 c.2.it.Zk,i64 c.2.it.Zl,i64 c.2.it.Zm,.str c.2.it.Zn,.sl false (L Ad c.2.it.Zo),.bool v] false],_,_)]) trivial ⟨(wc (B8 af) [0]),trivial⟩) Ev ?_
     refine Bd fun ax ag =>Fe [] (An (l:=[]) (m:=[(82,120,[.ref 0 0,.ref 0 18,i64 0,i64 8],[.box [.sl false (L Ah g.p.Zs1.Zu),.sl false (L Ak g.p.Zs1.Zv),.sl false (L Aa g.p.Zt1.Zm1),.sl false (L Af g.p.Zt1.Zn1),.sl false (L Aj g.p.Zt1.Zo1),.sl false (L Ai g.p.Zt1.Zp1),.sl false (L Ag g.p.Zu1),.sl false (L Ae g.p.Zv1),.sl false (L Ab g.p.Zw1),i64 g.it.Zb,i64 g.it.Ref.Za,i64 g.it.Ref.No,i64 g.it.Ze,i64 g.it.Zf,i64 g.it.Zg,i64 g.it.Zh,i64 g.it.Zi,i64 g.it.To,i64 g.it.Code,i64 g.it.Zj,i64 g.it.Zk,i64 g.it.Zl,i64 g.it.Zm,.str g.it.Zn,.sl false (L Ad g.it.Zo),.bool g.ok] false],_,_)]) trivial ⟨(wc (Cv ag) [0]),trivial⟩) Ev ?_
     exact Bn <|Ro [0]
    ·refine T0 [0,2,20,83] ?_
     refine Cd ?_ ?_
     ·refine Bd fun i ah =>Te [0,2] (An (l:=[]) (m:=[(89,120,[.ref 0 0,.ref 0 15,i64 1,i64 1000000000],[.box [.sl false (L Ah a.p.Zs1.Zu),.sl false (L Ak a.p.Zs1.Zv),.sl false (L Aa a.p.Zt1.Zm1),.sl false (L Af a.p.Zt1.Zn1),.sl false (L Aj a.p.Zt1.Zo1),.sl false (L Ai a.p.Zt1.Zp1),.sl false (L Ag a.p.Zu1),.sl false (L Ae a.p.Zv1),.sl false (L Ab a.p.Zw1),i64 a.it.Zb,i64 a.it.Ref.Za,i64 a.it.Ref.No,i64 a.it.Ze,i64 a.it.Zf,i64 a.it.Zg,i64 a.it.Zh,i64 a.it.Zi,i64 a.it.To,i64 a.it.Code,i64 a.it.Zj,i64 a.it.Zk,i64 a.it.Zl,i64 a.it.Zm,.str a.it.Zn,.sl false (L Ad a.it.Zo),.bool a.ok] false],_,_)]) trivial ⟨(wc (Dx ah) [0]),trivial⟩) Ev ?_
      refine Bd fun j ai =>Te [0,2] (An (l:=[]) (m:=[(91,124,[.ref 0 0],[.box [.sl false (L Ah i.p.Zs1.Zu),.sl false (L Ak i.p.Zs1.Zv),.sl false (L Aa i.p.Zt1.Zm1),.sl false (L Af i.p.Zt1.Zn1),.sl false (L Aj i.p.Zt1.Zo1),.sl false (L Ai i.p.Zt1.Zp1),.sl false (L Ag i.p.Zu1),.sl false (L Ae i.p.Zv1),.sl false (L Ab i.p.Zw1),i64 i.it.Zb,i64 i.it.Ref.Za,i64 i.it.Ref.No,i64 i.it.Ze,i64 i.it.Zf,i64 i.it.Zg,i64 i.it.Zh,i64 i.it.Zi,i64 i.it.To,i64 i.it.Code,i64 i.it.Zj,i64 i.it.Zk,i64 i.it.Zl,i64 i.it.Zm,.str i.it.Zn,.sl false (L Ad i.it.Zo),.bool i.ok] false],_,_)]) trivial ⟨(wc (Ee ai) [0]),trivial⟩) Ev ?_
      refine Bd fun d aj =>Te [0,2] (An (l:=[]) (m:=[(93,122,[.ref 0 0,i64 0],[.box [.sl false (L Ah j.p.Zs1.Zu),.sl false (L Ak j.p.Zs1.Zv),.sl false (L Aa j.p.Zt1.Zm1),.sl false (L Af j.p.Zt1.Zn1),.sl false (L Aj j.p.Zt1.Zo1),.sl false (L Ai j.p.Zt1.Zp1),.sl false (L Ag j.p.Zu1),.sl false (L Ae j.p.Zv1),.sl false (L Ab j.p.Zw1),i64 j.it.Zb,i64 j.it.Ref.Za,i64 j.it.Ref.No,i64 j.it.Ze,i64 j.it.Zf,i64 j.it.Zg,i64 j.it.Zh,i64 j.it.Zi,i64 j.it.To,i64 j.it.Code,i64 j.it.Zj,i64 j.it.Zk,i64 j.it.Zl,i64 j.it.Zm,.str j.it.Zn,.sl false (L Ad j.it.Zo),.bool j.ok] false],_,_)]) trivial ⟨(wc (Cc aj) [0]),trivial⟩) Ev ?_
      refine Bd fun k ak =>De [[],[],[1],[1,2],[],[4],[4,5],[4,5,6],[4,5,6,7],[4,5,6,7,8],[4,5,6,7,8,9],[4,5,6,7,8,9,10],[0,1,2,3,4,5,6,7,8,9,10,11]] [0,2] (An (l:=[]) (m:=[(106,120,[.ref 0 0,.ref 0 19,i64 0,i64 (w64 ((d.2.p.Zs1.Zu.length : Int) - 1))],[.box [.sl false (L Ah d.2.p.Zs1.Zu),.sl false (L Ak d.2.p.Zs1.Zv),.sl false (L Aa d.2.p.Zt1.Zm1),.sl false (L Af d.2.p.Zt1.Zn1),.sl false (L Aj d.2.p.Zt1.Zo1),.sl false (L Ai d.2.p.Zt1.Zp1),.sl false (L Ag d.2.p.Zu1),.sl false (L Ae d.2.p.Zv1),.sl false (L Ab d.2.p.Zw1),i64 d.2.it.Zb,i64 d.2.it.Ref.Za,i64 d.2.it.Ref.No,i64 d.2.it.Ze,i64 d.2.it.Zf,i64 d.2.it.Zg,i64 d.2.it.Zh,i64 d.2.it.Zi,i64 d.2.it.To,i64 d.2.it.Code,i64 d.2.it.Zj,i64 d.2.it.Zk,i64 d.2.it.Zl,i64 d.2.it.Zm,.str d.2.it.Zn,.sl false (L Ad d.2.it.Zo),.bool d.2.ok] false],_,_)]) trivial ⟨(wc (Jj ak) [0]),trivial⟩) Ev ?_
      refine Bd fun n al =>Te [0,2] (An (l:=[]) (m:=[(108,125,[.ref 0 0],[.box [.sl false (L Ah k.p.Zs1.Zu),.sl false (L Ak k.p.Zs1.Zv),.sl false (L Aa k.p.Zt1.Zm1),.sl false (L Af k.p.Zt1.Zn1),.sl false (L Aj k.p.Zt1.Zo1),.sl false (L Ai k.p.Zt1.Zp1),.sl false (L Ag k.p.Zu1),.sl false (L Ae k.p.Zv1),.sl false (L Ab k.p.Zw1),i64 k.it.Zb,i64 k.it.Ref.Za,i64 k.it.Ref.No,i64 k.it.Ze,i64 k.it.Zf,i64 k.it.Zg,i64 k.it.Zh,i64 k.it.Zi,i64 k.it.To,i64 k.it.Code,i64 k.it.Zj,i64 k.it.Zk,i64 k.it.Zl,i64 k.it.Zm,.str k.it.Zn,.sl false (L Ad k.it.Zo),.bool k.ok] false],_,_)]) trivial ⟨(wc (Hc al) [0]),trivial⟩) Ev ?_
      refine Bd fun o am =>Te [0] (An (l:=[]) (m:=[(113,120,[.ref 0 0,.ref 0 21,i64 0,i64 1000000],[.box [.sl false (L Ah n.p.Zs1.Zu),.sl false (L Ak n.p.Zs1.Zv),.sl false (L Aa n.p.Zt1.Zm1),.sl false (L Af n.p.Zt1.Zn1),.sl false (L Aj n.p.Zt1.Zo1),.sl false (L Ai n.p.Zt1.Zp1),.sl false (L Ag n.p.Zu1),.sl false (L Ae n.p.Zv1),.sl false (L Ab n.p.Zw1),i64 n.it.Zb,i64 n.it.Ref.Za,i64 n.it.Ref.No,i64 n.it.Ze,i64 n.it.Zf,i64 n.it.Zg,i64 n.it.Zh,i64 n.it.Zi,i64 n.it.To,i64 n.it.Code,i64 n.it.Zj,i64 n.it.Zk,i64 n.it.Zl,i64 n.it.Zm,.str n.it.Zn,.sl false (L Ad n.it.Zo),.bool n.ok] false],_,_)]) trivial ⟨(wc (Fk am) [0]),trivial⟩) Ev ?_
      refine Bd fun ay an =>Fe [] (An (l:=[]) (m:=[(115,121,[.ref 0 0],[.box [.sl false (L Ah o.p.Zs1.Zu),.sl false (L Ak o.p.Zs1.Zv),.sl false (L Aa o.p.Zt1.Zm1),.sl false (L Af o.p.Zt1.Zn1),.sl false (L Aj o.p.Zt1.Zo1),.sl false (L Ai o.p.Zt1.Zp1),.sl false (L Ag o.p.Zu1),.sl false (L Ae o.p.Zv1),.sl false (L Ab o.p.Zw1),i64 o.it.Zb,i64 o.it.Ref.Za,i64 o.it.Ref.No,i64 o.it.Ze,i64 o.it.Zf,i64 o.it.Zg,i64 o.it.Zh,i64 o.it.Zi,i64 o.it.To,i64 o.it.Code,i64 o.it.Zj,i64 o.it.Zk,i64 o.it.Zl,i64 o.it.Zm,.str o.it.Zn,.sl false (L Ad o.it.Zo),.bool o.ok] false],_,_)]) trivial ⟨(wc (B8 an) [0]),trivial⟩) Ev ?_
      exact Bn <|Ro [0]
     ·refine Ja (fun y => ⟨Au 135 [(0,.ref 0 0),(2,.ref 0 9),(116,.bool y)],[.box [.sl false (L Ah a.p.Zs1.Zu),.sl false (L Ak a.p.Zs1.Zv),.sl false (L Aa a.p.Zt1.Zm1),.sl false (L Af a.p.Zt1.Zn1),.sl false (L Aj a.p.Zt1.Zo1),.sl false (L Ai a.p.Zt1.Zp1),.sl false (L Ag a.p.Zu1),.sl false (L Ae a.p.Zv1),.sl false (L Ab a.p.Zw1),i64 a.it.Zb,i64 a.it.Ref.Za,i64 a.it.Ref.No,i64 a.it.Ze,i64 a.it.Zf,i64 a.it.Zg,i64 a.it.Zh,i64 a.it.Zi,i64 a.it.To,i64 a.it.Code,i64 a.it.Zj,i64 a.it.Zk,i64 a.it.Zl,i64 a.it.Zm,.str a.it.Zn,.sl false (L Ad a.it.Zo),.bool a.ok] false]⟩) ?_ ?_
      ·intro az
       refine T0 [0,2,20,116] ?_
       refine Cd ?_ ?_
       ·exact Sk <|Jm (ws [0])
       ·refine F0 [0,2,116] ?_
        exact Jm (ws [0])
      intro y
      refine Cd ?_ ?_
      ·refine Bd fun q ao =>Te [0,2] (An (l:=[]) (m:=[(120,122,[.ref 0 0,i64 0],[.box [.sl false (L Ah a.p.Zs1.Zu),.sl false (L Ak a.p.Zs1.Zv),.sl false (L Aa a.p.Zt1.Zm1),.sl false (L Af a.p.Zt1.Zn1),.sl false (L Aj a.p.Zt1.Zo1),.sl false (L Ai a.p.Zt1.Zp1),.sl false (L Ag a.p.Zu1),.sl false (L Ae a.p.Zv1),.sl false (L Ab a.p.Zw1),i64 a.it.Zb,i64 a.it.Ref.Za,i64 a.it.Ref.No,i64 a.it.Ze,i64 a.it.Zf,i64 a.it.Zg,i64 a.it.Zh,i64 a.it.Zi,i64 a.it.To,i64 a.it.Code,i64 a.it.Zj,i64 a.it.Zk,i64 a.it.Zl,i64 a.it.Zm,.str a.it.Zn,.sl false (L Ad a.it.Zo),.bool a.ok] false],_,_)]) trivial ⟨(wc (Cc ao) [0]),trivial⟩) Ev ?_
       refine Bd fun s ap =>Te [0,2] (An (l:=[]) (m:=[(122,124,[.ref 0 0],[.box [.sl false (L Ah q.2.p.Zs1.Zu),.sl false (L Ak q.2.p.Zs1.Zv),.sl false (L Aa q.2.p.Zt1.Zm1),.sl false (L Af q.2.p.Zt1.Zn1),.sl false (L Aj q.2.p.Zt1.Zo1),.sl false (L Ai q.2.p.Zt1.Zp1),.sl false (L Ag q.2.p.Zu1),.sl false (L Ae q.2.p.Zv1),.sl false (L Ab q.2.p.Zw1),i64 q.2.it.Zb,i64 q.2.it.Ref.Za,i64 q.2.it.Ref.No,i64 q.2.it.Ze,i64 q.2.it.Zf,i64 q.2.it.Zg,i64 q.2.it.Zh,i64 q.2.it.Zi,i64 q.2.it.To,i64 q.2.it.Code,i64 q.2.it.Zj,i64 q.2.it.Zk,i64 q.2.it.Zl,i64 q.2.it.Zm,.str q.2.it.Zn,.sl false (L Ad q.2.it.Zo),.bool q.2.ok] false],_,_)]) trivial ⟨(wc (Ee ap) [0]),trivial⟩) Ev ?_
       refine Bd fun t aq =>Te [0,2] (An (l:=[]) (m:=[(124,121,[.ref 0 0],[.box [.sl false (L Ah s.p.Zs1.Zu),.sl false (L Ak s.p.Zs1.Zv),.sl false (L Aa s.p.Zt1.Zm1),.sl false (L Af s.p.Zt1.Zn1),.sl false (L Aj s.p.Zt1.Zo1),.sl false (L Ai s.p.Zt1.Zp1),.sl false (L Ag s.p.Zu1),.sl false (L Ae s.p.Zv1),.sl false (L Ab s.p.Zw1),i64 s.it.Zb,i64 s.it.Ref.Za,i64 s.it.Ref.No,i64 s.it.Ze,i64 s.it.Zf,i64 s.it.Zg,i64 s.it.Zh,i64 s.it.Zi,i64 s.it.To,i64 s.it.Code,i64 s.it.Zj,i64 s.it.Zk,i64 s.it.Zl,i64 s.it.Zm,.str s.it.Zn,.sl false (L Ad s.it.Zo),.bool s.ok] false],_,_)]) trivial ⟨(wc (B8 aq) [0]),trivial⟩) Ev ?_
       refine T0 [0,2,129] ?_
       refine Cd ?_ ?_
       ·refine Bd fun aA ar =>Fe [] (An (l:=[]) (m:=[(134,120,[.ref 0 0,.ref 0 18,i64 0,i64 1],[.box [.sl false (L Ah t.p.Zs1.Zu),.sl false (L Ak t.p.Zs1.Zv),.sl false (L Aa t.p.Zt1.Zm1),.sl false (L Af t.p.Zt1.Zn1),.sl false (L Aj t.p.Zt1.Zo1),.sl false (L Ai t.p.Zt1.Zp1),.sl false (L Ag t.p.Zu1),.sl false (L Ae t.p.Zv1),.sl false (L Ab t.p.Zw1),i64 t.it.Zb,i64 t.it.Ref.Za,i64 t.it.Ref.No,i64 t.it.Ze,i64 t.it.Zf,i64 t.it.Zg,i64 t.it.Zh,i64 t.it.Zi,i64 t.it.To,i64 t.it.Code,i64 t.it.Zj,i64 t.it.Zk,i64 t.it.Zl,i64 t.it.Zm,.str t.it.Zn,.sl false (L Ad t.it.Zo),.bool t.ok] false],_,_)]) trivial ⟨(wc (Cv ar) [0]),trivial⟩) Ev ?_
        exact Bn <|Ro [0]
       ·exact Sk <|Bn <|Ro [0]
      ·exact Sk <|Bn <|Ro [0]
theorem Mn {a r} (h : D9 a = some r) : Con B 86 [.ref 0 0] [.box [.sl false (L Ah a.p.Zs1.Zu),.sl false (L Ak a.p.Zs1.Zv),.sl false (L Aa a.p.Zt1.Zm1),.sl false (L Af a.p.Zt1.Zn1),.sl false (L Aj a.p.Zt1.Zo1),.sl false (L Ai a.p.Zt1.Zp1),.sl false (L Ag a.p.Zu1),.sl false (L Ae a.p.Zv1),.sl false (L Ab a.p.Zw1),i64 a.it.Zb,i64 a.it.Ref.Za,i64 a.it.Ref.No,i64 a.it.Ze,i64 a.it.Zf,i64 a.it.Zg,i64 a.it.Zh,i64 a.it.Zi,i64 a.it.To,i64 a.it.Code,i64 a.it.Zj,i64 a.it.Zk,i64 a.it.Zl,i64 a.it.Zm,.str a.it.Zn,.sl false (L Ad a.it.Zo),.bool a.ok] false] (fun r' σ' => r' = .tup []∧σ' = [.box [.sl false (L Ah r.p.Zs1.Zu),.sl false (L Ak r.p.Zs1.Zv),.sl false (L Aa r.p.Zt1.Zm1),.sl false (L Af r.p.Zt1.Zn1),.sl false (L Aj r.p.Zt1.Zo1),.sl false (L Ai r.p.Zt1.Zp1),.sl false (L Ag r.p.Zu1),.sl false (L Ae r.p.Zv1),.sl false (L Ab r.p.Zw1),i64 r.it.Zb,i64 r.it.Ref.Za,i64 r.it.Ref.No,i64 r.it.Ze,i64 r.it.Zf,i64 r.it.Zg,i64 r.it.Zh,i64 r.it.Zi,i64 r.it.To,i64 r.it.Code,i64 r.it.Zj,i64 r.it.Zk,i64 r.it.Zl,i64 r.it.Zm,.str r.it.Zn,.sl false (L Ad r.it.Zo),.bool r.ok] false]):=by
 refine Co 1 168 [] Tryz.func86 (fun F hE => ?_) h
 unfold D9
 refine T0 [0,2] ?_
 refine T0 [0,2,9] ?_
 refine Sb <|T0 [0,2,9,13] ?_
 refine Cd ?_ ?_
 ·refine Bd fun c af =>Te [0,2] (An (l:=[]) (m:=[(16,119,[.ref 0 0],[.box [.sl false (L Ah a.p.Zs1.Zu),.sl false (L Ak a.p.Zs1.Zv),.sl false (L Aa a.p.Zt1.Zm1),.sl false (L Af a.p.Zt1.Zn1),.sl false (L Aj a.p.Zt1.Zo1),.sl false (L Ai a.p.Zt1.Zp1),.sl false (L Ag a.p.Zu1),.sl false (L Ae a.p.Zv1),.sl false (L Ab a.p.Zw1),i64 a.it.Zb,i64 a.it.Ref.Za,i64 a.it.Ref.No,i64 a.it.Ze,i64 a.it.Zf,i64 a.it.Zg,i64 a.it.Zh,i64 a.it.Zi,i64 a.it.To,i64 a.it.Code,i64 a.it.Zj,i64 a.it.Zk,i64 a.it.Zl,i64 a.it.Zm,.str a.it.Zn,.sl false (L Ad a.it.Zo),.bool a.ok] false],_,_)]) trivial ⟨(wc (Eo af) [0]),trivial⟩) Ev ?_
  refine Bd fun d ag =>Te [0,2] (An (l:=[]) (m:=[(18,121,[.ref 0 0],[.box [.sl false (L Ah c.p.Zs1.Zu),.sl false (L Ak c.p.Zs1.Zv),.sl false (L Aa c.p.Zt1.Zm1),.sl false (L Af c.p.Zt1.Zn1),.sl false (L Aj c.p.Zt1.Zo1),.sl false (L Ai c.p.Zt1.Zp1),.sl false (L Ag c.p.Zu1),.sl false (L Ae c.p.Zv1),.sl false (L Ab c.p.Zw1),i64 c.it.Zb,i64 c.it.Ref.Za,i64 c.it.Ref.No,i64 c.it.Ze,i64 c.it.Zf,i64 c.it.Zg,i64 c.it.Zh,i64 c.it.Zi,i64 c.it.To,i64 c.it.Code,i64 c.it.Zj,i64 c.it.Zk,i64 c.it.Zl,i64 c.it.Zm,.str c.it.Zn,.sl false (L Ad c.it.Zo),.bool c.ok] false],_,_)]) trivial ⟨(wc (B8 ag) [0]),trivial⟩) Ev ?_
  refine Bd fun aB ah =>Fe [] (An (l:=[]) (m:=[(23,120,[.ref 0 0,.ref 0 18,i64 1,i64 9],[.box [.sl false (L Ah d.p.Zs1.Zu),.sl false (L Ak d.p.Zs1.Zv),.sl false (L Aa d.p.Zt1.Zm1),.sl false (L Af d.p.Zt1.Zn1),.sl false (L Aj d.p.Zt1.Zo1),.sl false (L Ai d.p.Zt1.Zp1),.sl false (L Ag d.p.Zu1),.sl false (L Ae d.p.Zv1),.sl false (L Ab d.p.Zw1),i64 d.it.Zb,i64 d.it.Ref.Za,i64 d.it.Ref.No,i64 d.it.Ze,i64 d.it.Zf,i64 d.it.Zg,i64 d.it.Zh,i64 d.it.Zi,i64 d.it.To,i64 d.it.Code,i64 d.it.Zj,i64 d.it.Zk,i64 d.it.Zl,i64 d.it.Zm,.str d.it.Zn,.sl false (L Ad d.it.Zo),.bool d.ok] false],_,_)]) trivial ⟨(wc (Cv ah) [0]),trivial⟩) Ev ?_
  exact Bn <|Ro [0]
 ·refine T0 [0,2,9,24] ?_
  refine Cd ?_ ?_
  ·refine Bd fun e ai =>Te [0,2] (An (l:=[]) (m:=[(27,119,[.ref 0 0],[.box [.sl false (L Ah a.p.Zs1.Zu),.sl false (L Ak a.p.Zs1.Zv),.sl false (L Aa a.p.Zt1.Zm1),.sl false (L Af a.p.Zt1.Zn1),.sl false (L Aj a.p.Zt1.Zo1),.sl false (L Ai a.p.Zt1.Zp1),.sl false (L Ag a.p.Zu1),.sl false (L Ae a.p.Zv1),.sl false (L Ab a.p.Zw1),i64 a.it.Zb,i64 a.it.Ref.Za,i64 a.it.Ref.No,i64 a.it.Ze,i64 a.it.Zf,i64 a.it.Zg,i64 a.it.Zh,i64 a.it.Zi,i64 a.it.To,i64 a.it.Code,i64 a.it.Zj,i64 a.it.Zk,i64 a.it.Zl,i64 a.it.Zm,.str a.it.Zn,.sl false (L Ad a.it.Zo),.bool a.ok] false],_,_)]) trivial ⟨(wc (Eo ai) [0]),trivial⟩) Ev ?_
   refine Bd fun f aj =>Te [0,2] (An (l:=[]) (m:=[(29,122,[.ref 0 0,i64 5],[.box [.sl false (L Ah e.p.Zs1.Zu),.sl false (L Ak e.p.Zs1.Zv),.sl false (L Aa e.p.Zt1.Zm1),.sl false (L Af e.p.Zt1.Zn1),.sl false (L Aj e.p.Zt1.Zo1),.sl false (L Ai e.p.Zt1.Zp1),.sl false (L Ag e.p.Zu1),.sl false (L Ae e.p.Zv1),.sl false (L Ab e.p.Zw1),i64 e.it.Zb,i64 e.it.Ref.Za,i64 e.it.Ref.No,i64 e.it.Ze,i64 e.it.Zf,i64 e.it.Zg,i64 e.it.Zh,i64 e.it.Zi,i64 e.it.To,i64 e.it.Code,i64 e.it.Zj,i64 e.it.Zk,i64 e.it.Zl,i64 e.it.Zm,.str e.it.Zn,.sl false (L Ad e.it.Zo),.bool e.ok] false],_,_)]) trivial ⟨(wc (Cc aj) [0]),trivial⟩) Ev ?_
   refine Bd fun g ak =>Te [0,2] (An (l:=[]) (m:=[(31,123,[.ref 0 0],[.box [.sl false (L Ah f.2.p.Zs1.Zu),.sl false (L Ak f.2.p.Zs1.Zv),.sl false (L Aa f.2.p.Zt1.Zm1),.sl false (L Af f.2.p.Zt1.Zn1),.sl false (L Aj f.2.p.Zt1.Zo1),.sl false (L Ai f.2.p.Zt1.Zp1),.sl false (L Ag f.2.p.Zu1),.sl false (L Ae f.2.p.Zv1),.sl false (L Ab f.2.p.Zw1),i64 f.2.it.Zb,i64 f.2.it.Ref.Za,i64 f.2.it.Ref.No,i64 f.2.it.Ze,i64 f.2.it.Zf,i64 f.2.it.Zg,i64 f.2.it.Zh,i64 f.2.it.Zi,i64 f.2.it.To,i64 f.2.it.Code,i64 f.2.it.Zj,i64 f.2.it.Zk,i64 f.2.it.Zl,i64 f.2.it.Zm,.str f.2.it.Zn,.sl false (L Ad f.2.it.Zo),.bool f.2.ok] false],_,_)]) trivial ⟨(wc (Fd ak) [0]),trivial⟩) Ev ?_
   refine Bd fun i al =>Te [0,2] (An (l:=[]) (m:=[(36,120,[.ref 0 0,.ref 0 18,i64 1,i64 2],[.box [.sl false (L Ah g.p.Zs1.Zu),.sl false (L Ak g.p.Zs1.Zv),.sl false (L Aa g.p.Zt1.Zm1),.sl false (L Af g.p.Zt1.Zn1),.sl false (L Aj g.p.Zt1.Zo1),.sl false (L Ai g.p.Zt1.Zp1),.sl false (L Ag g.p.Zu1),.sl false (L Ae g.p.Zv1),.sl false (L Ab g.p.Zw1),i64 g.it.Zb,i64 g.it.Ref.Za,i64 g.it.Ref.No,i64 g.it.Ze,i64 g.it.Zf,i64 g.it.Zg,i64 g.it.Zh,i64 g.it.Zi,i64 g.it.To,i64 g.it.Code,i64 g.it.Zj,i64 g.it.Zk,i64 g.it.Zl,i64 g.it.Zm,.str g.it.Zn,.sl false (L Ad g.it.Zo),.bool g.ok] false],_,_)]) trivial ⟨(wc (Cv al) [0]),trivial⟩) Ev ?_
   refine Bd fun t am =>Te [0,2] (An (l:=[]) (m:=[(41,120,[.ref 0 0,.ref 0 22,i64 0,i64 1000000000],[.box [.sl false (L Ah i.p.Zs1.Zu),.sl false (L Ak i.p.Zs1.Zv),.sl false (L Aa i.p.Zt1.Zm1),.sl false (L Af i.p.Zt1.Zn1),.sl false (L Aj i.p.Zt1.Zo1),.sl false (L Ai i.p.Zt1.Zp1),.sl false (L Ag i.p.Zu1),.sl false (L Ae i.p.Zv1),.sl false (L Ab i.p.Zw1),i64 i.it.Zb,i64 i.it.Ref.Za,i64 i.it.Ref.No,i64 i.it.Ze,i64 i.it.Zf,i64 i.it.Zg,i64 i.it.Zh,i64 i.it.Zi,i64 i.it.To,i64 i.it.Code,i64 i.it.Zj,i64 i.it.Zk,i64 i.it.Zl,i64 i.it.Zm,.str i.it.Zn,.sl false (L Ad i.it.Zo),.bool i.ok] false],_,_)]) trivial ⟨(wc (Fh am) [0]),trivial⟩) Ev ?_
   refine Tw [2] (fun ab => ⟨Au 168 [(2,.ref 0 9)],[.box [.sl false (L Ah t.p.Zs1.Zu),.sl false (L Ak t.p.Zs1.Zv),.sl false (L Aa t.p.Zt1.Zm1),.sl false (L Af t.p.Zt1.Zn1),.sl false (L Aj t.p.Zt1.Zo1),.sl false (L Ai t.p.Zt1.Zp1),.sl false (L Ag t.p.Zu1),.sl false (L Ae t.p.Zv1),.sl false (L Ab t.p.Zw1),i64 t.it.Zb,i64 t.it.Ref.Za,i64 t.it.Ref.No,i64 t.it.Ze,i64 t.it.Zf,i64 t.it.Zg,i64 t.it.Zh,i64 t.it.Zi,i64 t.it.To,i64 t.it.Code,i64 t.it.Zj,i64 t.it.Zk,i64 t.it.Zl,i64 t.it.Zm,.str t.it.Zn,.sl false (L Ad t.it.Zo),.bool ab] false]⟩) ?_ ?_
   ·intro _
    refine Sp (fun y => ?_) fun y => ?_
    ·refine Bd fun aC an => ?_
     exact Lf (o1 52 (N3 an)) (Ev (by simp only [go_sem,y];exact Al)) (ws [0])
    ·exact Lf Ac (Ev (by simp only [go_sem,y];exact Al)) (ws [0])
   intro ab
   refine F0 [] ?_
   exact Bn <|Ro [0]
  ·refine T0 [0,2,9,59] ?_
   refine Cd ?_ ?_
   ·refine Bd fun u ao =>Te [0,2] (An (l:=[]) (m:=[(65,120,[.ref 0 0,.ref 0 14,i64 0,i64 63],[.box [.sl false (L Ah a.p.Zs1.Zu),.sl false (L Ak a.p.Zs1.Zv),.sl false (L Aa a.p.Zt1.Zm1),.sl false (L Af a.p.Zt1.Zn1),.sl false (L Aj a.p.Zt1.Zo1),.sl false (L Ai a.p.Zt1.Zp1),.sl false (L Ag a.p.Zu1),.sl false (L Ae a.p.Zv1),.sl false (L Ab a.p.Zw1),i64 a.it.Zb,i64 a.it.Ref.Za,i64 a.it.Ref.No,i64 a.it.Ze,i64 a.it.Zf,i64 a.it.Zg,i64 a.it.Zh,i64 a.it.Zi,i64 a.it.To,i64 a.it.Code,i64 a.it.Zj,i64 a.it.Zk,i64 a.it.Zl,i64 a.it.Zm,.str a.it.Zn,.sl false (L Ad a.it.Zo),.bool a.ok] false],_,_)]) trivial ⟨(wc (Dv ao) [0]),trivial⟩) Ev ?_
    refine Tw [2] (fun ac => ⟨Au 168 [(2,.ref 0 9)],[.box [.sl false (L Ah u.p.Zs1.Zu),.sl false (L Ak u.p.Zs1.Zv),.sl false (L Aa u.p.Zt1.Zm1),.sl false (L Af u.p.Zt1.Zn1),.sl false (L Aj u.p.Zt1.Zo1),.sl false (L Ai u.p.Zt1.Zp1),.sl false (L Ag u.p.Zu1),.sl false (L Ae u.p.Zv1),.sl false (L Ab u.p.Zw1),i64 u.it.Zb,i64 u.it.Ref.Za,i64 u.it.Ref.No,i64 u.it.Ze,i64 u.it.Zf,i64 u.it.Zg,i64 u.it.Zh,i64 u.it.Zi,i64 u.it.To,i64 u.it.Code,i64 u.it.Zj,i64 u.it.Zk,i64 u.it.Zl,i64 u.it.Zm,.str u.it.Zn,.sl false (L Ad u.it.Zo),.bool ac] false]⟩) ?_ ?_
    ·intro _
     refine Sp (fun w => ?_) fun w => ?_
     ·refine Sp (fun z => ?_) fun z => ?_
      ·refine Bd fun aD ap => ?_
       exact Lf (o1 84 (N3 ap)) (Ev (by simp only [go_sem,w,z];exact Al)) (ws [0])
      ·exact Lf Ac (Ev (by simp only [go_sem,w,z];exact Al)) (ws [0])
     ·exact Lf Ac (Ev (by simp only [go_sem,w];exact Al)) (ws [0])
    intro ac
    refine F0 [] ?_
    exact Bn <|Ro [0]
   ·refine Ja (fun ad => ⟨Au 168 [(0,.ref 0 0),(2,.ref 0 9),(9,i64 a.it.Zb),(91,.bool ad)],[.box [.sl false (L Ah a.p.Zs1.Zu),.sl false (L Ak a.p.Zs1.Zv),.sl false (L Aa a.p.Zt1.Zm1),.sl false (L Af a.p.Zt1.Zn1),.sl false (L Aj a.p.Zt1.Zo1),.sl false (L Ai a.p.Zt1.Zp1),.sl false (L Ag a.p.Zu1),.sl false (L Ae a.p.Zv1),.sl false (L Ab a.p.Zw1),i64 a.it.Zb,i64 a.it.Ref.Za,i64 a.it.Ref.No,i64 a.it.Ze,i64 a.it.Zf,i64 a.it.Zg,i64 a.it.Zh,i64 a.it.Zi,i64 a.it.To,i64 a.it.Code,i64 a.it.Zj,i64 a.it.Zk,i64 a.it.Zl,i64 a.it.Zm,.str a.it.Zn,.sl false (L Ad a.it.Zo),.bool a.ok] false]⟩) ?_ ?_
    ·intro aE
     refine T0 [0,2,9,91] ?_
     refine Cd ?_ ?_
     ·exact Sk <|Jm (ws [0])
     ·refine T0 [0,2,9,91] ?_
      refine Cd ?_ ?_
      ·exact Sk <|Jm (ws [0])
      ·refine F0 [0,2,9,91] ?_
       exact Jm (ws [0])
    intro ad
    refine Cd ?_ ?_
    ·refine Bd fun j aq =>Te [0,2] (An (l:=[]) (m:=[(99,120,[.ref 0 0,.ref 0 15,i64 1,i64 6],[.box [.sl false (L Ah a.p.Zs1.Zu),.sl false (L Ak a.p.Zs1.Zv),.sl false (L Aa a.p.Zt1.Zm1),.sl false (L Af a.p.Zt1.Zn1),.sl false (L Aj a.p.Zt1.Zo1),.sl false (L Ai a.p.Zt1.Zp1),.sl false (L Ag a.p.Zu1),.sl false (L Ae a.p.Zv1),.sl false (L Ab a.p.Zw1),i64 a.it.Zb,i64 a.it.Ref.Za,i64 a.it.Ref.No,i64 a.it.Ze,i64 a.it.Zf,i64 a.it.Zg,i64 a.it.Zh,i64 a.it.Zi,i64 a.it.To,i64 a.it.Code,i64 a.it.Zj,i64 a.it.Zk,i64 a.it.Zl,i64 a.it.Zm,.str a.it.Zn,.sl false (L Ad a.it.Zo),.bool a.ok] false],_,_)]) trivial ⟨(wc (Dx aq) [0]),trivial⟩) Ev ?_
     refine Bd fun v ar =>Te [0,2] (An (l:=[]) (m:=[(101,121,[.ref 0 0],[.box [.sl false (L Ah j.p.Zs1.Zu),.sl false (L Ak j.p.Zs1.Zv),.sl false (L Aa j.p.Zt1.Zm1),.sl false (L Af j.p.Zt1.Zn1),.sl false (L Aj j.p.Zt1.Zo1),.sl false (L Ai j.p.Zt1.Zp1),.sl false (L Ag j.p.Zu1),.sl false (L Ae j.p.Zv1),.sl false (L Ab j.p.Zw1),i64 j.it.Zb,i64 j.it.Ref.Za,i64 j.it.Ref.No,i64 j.it.Ze,i64 j.it.Zf,i64 j.it.Zg,i64 j.it.Zh,i64 j.it.Zi,i64 j.it.To,i64 j.it.Code,i64 j.it.Zj,i64 j.it.Zk,i64 j.it.Zl,i64 j.it.Zm,.str j.it.Zn,.sl false (L Ad j.it.Zo),.bool j.ok] false],_,_)]) trivial ⟨(wc (B8 ar) [0]),trivial⟩) Ev ?_
     refine T0 [0,2,106] ?_
     refine Cd ?_ ?_
     ·refine Tw [2] (fun ae => ⟨Au 168 [(2,.ref 0 9)],[.box [.sl false (L Ah v.p.Zs1.Zu),.sl false (L Ak v.p.Zs1.Zv),.sl false (L Aa v.p.Zt1.Zm1),.sl false (L Af v.p.Zt1.Zn1),.sl false (L Aj v.p.Zt1.Zo1),.sl false (L Ai v.p.Zt1.Zp1),.sl false (L Ag v.p.Zu1),.sl false (L Ae v.p.Zv1),.sl false (L Ab v.p.Zw1),i64 v.it.Zb,i64 v.it.Ref.Za,i64 v.it.Ref.No,i64 v.it.Ze,i64 v.it.Zf,i64 v.it.Zg,i64 v.it.Zh,i64 v.it.Zi,i64 v.it.To,i64 v.it.Code,i64 v.it.Zj,i64 v.it.Zk,i64 v.it.Zl,i64 v.it.Zm,.str v.it.Zn,.sl false (L Ad v.it.Zo),.bool ae] false]⟩) ?_ ?_
      ·intro _
       refine Sp (fun x => ?_) fun x => ?_
       ·refine Sp (fun aa => ?_) fun aa => ?_
        ·exact Lf Ac (Ev (by simp only [go_sem,x,aa];exact Al)) (ws [0])
        ·exact Lf Ac (Ev (by simp only [go_sem,x,aa];exact Al)) (ws [0])
       ·exact Lf Ac (Ev (by simp only [go_sem,x];exact Al)) (ws [0])
      intro ae
      refine F0 [] ?_
      exact Bn <|Ro [0]
     ·exact Sk <|Bn <|Ro [0]
    ·refine T0 [0,2,9,133] ?_
     refine Cd ?_ ?_
     ·exact Sk <|Bn <|Ro [0]
     ·refine T0 [0,2,135] ?_
      refine Cd ?_ ?_
      ·refine Bd fun k au =>Te [0,2] (An (l:=[]) (m:=[(138,124,[.ref 0 0],[.box [.sl false (L Ah a.p.Zs1.Zu),.sl false (L Ak a.p.Zs1.Zv),.sl false (L Aa a.p.Zt1.Zm1),.sl false (L Af a.p.Zt1.Zn1),.sl false (L Aj a.p.Zt1.Zo1),.sl false (L Ai a.p.Zt1.Zp1),.sl false (L Ag a.p.Zu1),.sl false (L Ae a.p.Zv1),.sl false (L Ab a.p.Zw1),i64 a.it.Zb,i64 a.it.Ref.Za,i64 a.it.Ref.No,i64 a.it.Ze,i64 a.it.Zf,i64 a.it.Zg,i64 a.it.Zh,i64 a.it.Zi,i64 a.it.To,i64 a.it.Code,i64 a.it.Zj,i64 a.it.Zk,i64 a.it.Zl,i64 a.it.Zm,.str a.it.Zn,.sl false (L Ad a.it.Zo),.bool a.ok] false],_,_)]) trivial ⟨(wc (Ee au) [0]),trivial⟩) Ev ?_
       refine Bd fun n av =>Te [0,2] (An (l:=[]) (m:=[(140,122,[.ref 0 0,i64 0],[.box [.sl false (L Ah k.p.Zs1.Zu),.sl false (L Ak k.p.Zs1.Zv),.sl false (L Aa k.p.Zt1.Zm1),.sl false (L Af k.p.Zt1.Zn1),.sl false (L Aj k.p.Zt1.Zo1),.sl false (L Ai k.p.Zt1.Zp1),.sl false (L Ag k.p.Zu1),.sl false (L Ae k.p.Zv1),.sl false (L Ab k.p.Zw1),i64 k.it.Zb,i64 k.it.Ref.Za,i64 k.it.Ref.No,i64 k.it.Ze,i64 k.it.Zf,i64 k.it.Zg,i64 k.it.Zh,i64 k.it.Zi,i64 k.it.To,i64 k.it.Code,i64 k.it.Zj,i64 k.it.Zk,i64 k.it.Zl,i64 k.it.Zm,.str k.it.Zn,.sl false (L Ad k.it.Zo),.bool k.ok] false],_,_)]) trivial ⟨(wc (Cc av) [0]),trivial⟩) Ev ?_
       refine Bd fun b aw =>Te [0,2] (An (l:=[]) (m:=[(142,125,[.ref 0 0],[.box [.sl false (L Ah n.2.p.Zs1.Zu),.sl false (L Ak n.2.p.Zs1.Zv),.sl false (L Aa n.2.p.Zt1.Zm1),.sl false (L Af n.2.p.Zt1.Zn1),.sl false (L Aj n.2.p.Zt1.Zo1),.sl false (L Ai n.2.p.Zt1.Zp1),.sl false (L Ag n.2.p.Zu1),.sl false (L Ae n.2.p.Zv1),.sl false (L Ab n.2.p.Zw1),i64 n.2.it.Zb,i64 n.2.it.Ref.Za,i64 n.2.it.Ref.No,i64 n.2.it.Ze,i64 n.2.it.Zf,i64 n.2.it.Zg,i64 n.2.it.Zh,i64 n.2.it.Zi,i64 n.2.it.To,i64 n.2.it.Code,i64 n.2.it.Zj,i64 n.2.it.Zk,i64 n.2.it.Zl,i64 n.2.it.Zm,.str n.2.it.Zn,.sl false (L Ad n.2.it.Zo),.bool n.2.ok] false],_,_)]) trivial ⟨(wc (Hc aw) [0]),trivial⟩) Ev ?_
       refine Bd fun o ax =>De [[],[],[1],[1,2],[],[4],[4,5],[4,5,6],[4,5,6,7],[4,5,6,7,8],[4,5,6,7,8,9],[4,5,6,7,8,9,10],[0,1,2,3,4,5,6,7,8,9,10,11]] [0,2] (An (l:=[]) (m:=[(155,120,[.ref 0 0,.ref 0 15,i64 0,i64 (w64 ((b.p.Zt1.Zm1.length : Int) - 1))],[.box [.sl false (L Ah b.p.Zs1.Zu),.sl false (L Ak b.p.Zs1.Zv),.sl false (L Aa b.p.Zt1.Zm1),.sl false (L Af b.p.Zt1.Zn1),.sl false (L Aj b.p.Zt1.Zo1),.sl false (L Ai b.p.Zt1.Zp1),.sl false (L Ag b.p.Zu1),.sl false (L Ae b.p.Zv1),.sl false (L Ab b.p.Zw1),i64 b.it.Zb,i64 b.it.Ref.Za,i64 b.it.Ref.No,i64 b.it.Ze,i64 b.it.Zf,i64 b.it.Zg,i64 b.it.Zh,i64 b.it.Zi,i64 b.it.To,i64 b.it.Code,i64 b.it.Zj,i64 b.it.Zk,i64 b.it.Zl,i64 b.it.Zm,.str b.it.Zn,.sl false (L Ad b.it.Zo),.bool b.ok] false],_,_)]) trivial ⟨(wc (Dx ax) [0]),trivial⟩) Ev ?_
       refine Bd fun q ay =>Te [0,2] (An (l:=[]) (m:=[(160,120,[.ref 0 0,.ref 0 21,i64 1,i64 1000],[.box [.sl false (L Ah o.p.Zs1.Zu),.sl false (L Ak o.p.Zs1.Zv),.sl false (L Aa o.p.Zt1.Zm1),.sl false (L Af o.p.Zt1.Zn1),.sl false (L Aj o.p.Zt1.Zo1),.sl false (L Ai o.p.Zt1.Zp1),.sl false (L Ag o.p.Zu1),.sl false (L Ae o.p.Zv1),.sl false (L Ab o.p.Zw1),i64 o.it.Zb,i64 o.it.Ref.Za,i64 o.it.Ref.No,i64 o.it.Ze,i64 o.it.Zf,i64 o.it.Zg,i64 o.it.Zh,i64 o.it.Zi,i64 o.it.To,i64 o.it.Code,i64 o.it.Zj,i64 o.it.Zk,i64 o.it.Zl,i64 o.it.Zm,.str o.it.Zn,.sl false (L Ad o.it.Zo),.bool o.ok] false],_,_)]) trivial ⟨(wc (Fk ay) [0]),trivial⟩) Ev ?_
       refine Bd fun s az =>Te [0,2] (An (l:=[]) (m:=[(162,123,[.ref 0 0],[.box [.sl false (L Ah q.p.Zs1.Zu),.sl false (L Ak q.p.Zs1.Zv),.sl false (L Aa q.p.Zt1.Zm1),.sl false (L Af q.p.Zt1.Zn1),.sl false (L Aj q.p.Zt1.Zo1),.sl false (L Ai q.p.Zt1.Zp1),.sl false (L Ag q.p.Zu1),.sl false (L Ae q.p.Zv1),.sl false (L Ab q.p.Zw1),i64 q.it.Zb,i64 q.it.Ref.Za,i64 q.it.Ref.No,i64 q.it.Ze,i64 q.it.Zf,i64 q.it.Zg,i64 q.it.Zh,i64 q.it.Zi,i64 q.it.To,i64 q.it.Code,i64 q.it.Zj,i64 q.it.Zk,i64 q.it.Zl,i64 q.it.Zm,.str q.it.Zn,.sl false (L Ad q.it.Zo),.bool q.ok] false],_,_)]) trivial ⟨(wc (Fd az) [0]),trivial⟩) Ev ?_
       refine Bd fun aF aA =>Fe [] (An (l:=[]) (m:=[(167,120,[.ref 0 0,.ref 0 22,i64 0,i64 1000000000],[.box [.sl false (L Ah s.p.Zs1.Zu),.sl false (L Ak s.p.Zs1.Zv),.sl false (L Aa s.p.Zt1.Zm1),.sl false (L Af s.p.Zt1.Zn1),.sl false (L Aj s.p.Zt1.Zo1),.sl false (L Ai s.p.Zt1.Zp1),.sl false (L Ag s.p.Zu1),.sl false (L Ae s.p.Zv1),.sl false (L Ab s.p.Zw1),i64 s.it.Zb,i64 s.it.Ref.Za,i64 s.it.Ref.No,i64 s.it.Ze,i64 s.it.Zf,i64 s.it.Zg,i64 s.it.Zh,i64 s.it.Zi,i64 s.it.To,i64 s.it.Code,i64 s.it.Zj,i64 s.it.Zk,i64 s.it.Zl,i64 s.it.Zm,.str s.it.Zn,.sl false (L Ad s.it.Zo),.bool s.ok] false],_,_)]) trivial ⟨(wc (Fh aA) [0]),trivial⟩) Ev ?_
       exact Bn <|Ro [0]
      ·refine F0 [] ?_
       exact Bn <|Ro [0]
theorem U0 {b a r} (h : E9 b a = some r) : Con B 38 [.agg [.sl false (L Ah b.Zs1.Zu),.sl false (L Ak b.Zs1.Zv),.sl false (L Aa b.Zt1.Zm1),.sl false (L Af b.Zt1.Zn1),.sl false (L Aj b.Zt1.Zo1),.sl false (L Ai b.Zt1.Zp1),.sl false (L Ag b.Zu1),.sl false (L Ae b.Zv1),.sl false (L Ab b.Zw1)],.agg [i64 a.Zb,i64 a.Ref.Za,i64 a.Ref.No,i64 a.Ze,i64 a.Zf,i64 a.Zg,i64 a.Zh,i64 a.Zi,i64 a.To,i64 a.Code,i64 a.Zj,i64 a.Zk,i64 a.Zl,i64 a.Zm,.str a.Zn,.sl false (L Ad a.Zo)]] [] (fun r' σ' => r' = .bool r∧σ' = []):=by
 refine Cw 46 [.tmp 4] Tryz.func38 (fun F hE => ?_) h
 unfold E9
 refine T0 [2,3] ?_
 refine T0 [3,5] ?_
 refine Ja (fun ⟨c,d,e,f,g,i,j,k,n,o,p,q,s,t,u,v,w,x,y,z,aa,ab,ac,ad,ae,ah⟩ => ⟨Au 46 [(5,.ref 0 0)],[.box [.sl false (L Ah c),.sl false (L Ak d),.sl false (L Aa e),.sl false (L Af f),.sl false (L Aj g),.sl false (L Ai i),.sl false (L Ag j),.sl false (L Ae k),.sl false (L Ab n),i64 o,i64 p,i64 q,i64 s,i64 t,i64 u,i64 v,i64 w,i64 x,i64 y,i64 z,i64 aa,i64 ab,i64 ac,.str ad,.sl false (L Ad ae),.bool ah] false]⟩) ?_ ?_
 ·intro a6
  refine T0 [5,13] ?_
  refine Cd ?_ ?_
  ·refine Bd fun a7 aT =>Fe [5] (An (l:=[]) (m:=[(14,85,[.ref 2 0],[.box [.sl false (L Ah b.Zs1.Zu),.sl false (L Ak b.Zs1.Zv),.sl false (L Aa b.Zt1.Zm1),.sl false (L Af b.Zt1.Zn1),.sl false (L Aj b.Zt1.Zo1),.sl false (L Ai b.Zt1.Zp1),.sl false (L Ag b.Zu1),.sl false (L Ae b.Zv1),.sl false (L Ab b.Zw1)] false,.box [i64 a.Zb,i64 a.Ref.Za,i64 a.Ref.No,i64 a.Ze,i64 a.Zf,i64 a.Zg,i64 a.Zh,i64 a.Zi,i64 a.To,i64 a.Code,i64 a.Zj,i64 a.Zk,i64 a.Zl,i64 a.Zm,.str a.Zn,.sl false (L Ad a.Zo)] false,.box [.sl false (L Ah b.Zs1.Zu),.sl false (L Ak b.Zs1.Zv),.sl false (L Aa b.Zt1.Zm1),.sl false (L Af b.Zt1.Zn1),.sl false (L Aj b.Zt1.Zo1),.sl false (L Ai b.Zt1.Zp1),.sl false (L Ag b.Zu1),.sl false (L Ae b.Zv1),.sl false (L Ab b.Zw1),i64 a.Zb,i64 a.Ref.Za,i64 a.Ref.No,i64 a.Ze,i64 a.Zf,i64 a.Zg,i64 a.Zh,i64 a.Zi,i64 a.To,i64 a.Code,i64 a.Zj,i64 a.Zk,i64 a.Zl,i64 a.Zm,.str a.Zn,.sl false (L Ad a.Zo),.bool true] false],_,_)]) trivial ⟨(wc (Kl aT) [2]),trivial⟩) Ev ?_
   exact Jm (ws [2])
  ·refine Bd fun a8 aU =>Fe [5] (An (l:=[]) (m:=[(15,86,[.ref 2 0],[.box [.sl false (L Ah b.Zs1.Zu),.sl false (L Ak b.Zs1.Zv),.sl false (L Aa b.Zt1.Zm1),.sl false (L Af b.Zt1.Zn1),.sl false (L Aj b.Zt1.Zo1),.sl false (L Ai b.Zt1.Zp1),.sl false (L Ag b.Zu1),.sl false (L Ae b.Zv1),.sl false (L Ab b.Zw1)] false,.box [i64 a.Zb,i64 a.Ref.Za,i64 a.Ref.No,i64 a.Ze,i64 a.Zf,i64 a.Zg,i64 a.Zh,i64 a.Zi,i64 a.To,i64 a.Code,i64 a.Zj,i64 a.Zk,i64 a.Zl,i64 a.Zm,.str a.Zn,.sl false (L Ad a.Zo)] false,.box [.sl false (L Ah b.Zs1.Zu),.sl false (L Ak b.Zs1.Zv),.sl false (L Aa b.Zt1.Zm1),.sl false (L Af b.Zt1.Zn1),.sl false (L Aj b.Zt1.Zo1),.sl false (L Ai b.Zt1.Zp1),.sl false (L Ag b.Zu1),.sl false (L Ae b.Zv1),.sl false (L Ab b.Zw1),i64 a.Zb,i64 a.Ref.Za,i64 a.Ref.No,i64 a.Ze,i64 a.Zf,i64 a.Zg,i64 a.Zh,i64 a.Zi,i64 a.To,i64 a.Code,i64 a.Zj,i64 a.Zk,i64 a.Zl,i64 a.Zm,.str a.Zn,.sl false (L Ad a.Zo),.bool true] false],_,_)]) trivial ⟨(wc (Mn aU) [2]),trivial⟩) Ev ?_
   exact Jm (ws [2])
 rintro ⟨c,d,e,f,g,i,j,k,n,o,p,q,s,t,u,v,w,x,y,z,aa,ab,ac,ad,ae,ah⟩
 refine Ja (fun av => ⟨Au 46 [(5,.ref 0 0)],[.box [.sl false (L Ah c),.sl false (L Ak d),.sl false (L Aa e),.sl false (L Af f),.sl false (L Aj g),.sl false (L Ai i),.sl false (L Ag j),.sl false (L Ae k),.sl false (L Ab n),i64 o,i64 p,i64 q,i64 s,i64 t,i64 u,i64 v,i64 w,i64 x,i64 y,i64 z,i64 aa,i64 ab,i64 ac,.str ad,.sl false (L Ad ae),.bool av] false]⟩) ?_ ?_
 ·intro a9
  refine Te [5,17,18] (An (l:=[]) (m:=[(17,51,[.ref 0 9],[.box [.sl false (L Ah c),.sl false (L Ak d),.sl false (L Aa e),.sl false (L Af f),.sl false (L Aj g),.sl false (L Ai i),.sl false (L Ag j),.sl false (L Ae k),.sl false (L Ab n),i64 o,i64 p,i64 q,i64 s,i64 t,i64 u,i64 v,i64 w,i64 x,i64 y,i64 z,i64 aa,i64 ab,i64 ac,.str ad,.sl false (L Ad ae),.bool ah] false],.agg [.ref 0 12,.ref 0 13,.ref 0 14,.ref 0 15,.ref 0 16,.ref 0 17,.ref 0 18,.ref 0 19,.ref 0 20,.ref 0 21,.ref 0 22],[.box [.sl false (L Ah c),.sl false (L Ak d),.sl false (L Aa e),.sl false (L Af f),.sl false (L Aj g),.sl false (L Ai i),.sl false (L Ag j),.sl false (L Ae k),.sl false (L Ab n),i64 o,i64 p,i64 q,i64 s,i64 t,i64 u,i64 v,i64 w,i64 x,i64 y,i64 z,i64 aa,i64 ab,i64 ac,.str ad,.sl false (L Ad ae),.bool ah] false])]) trivial ⟨Py,trivial⟩) Ev ?_
  refine Sb ?_
  refine Ul 17 ?_
  refine Ug (m:=16) ?_
  refine T0 [5,17,18,19] ?_
  refine Sq <|Ct <|Sk <|Tn <|Sq <|Sb <|?_
  have aw : InR 0 11:=by decide
  refine Te [5,7,17,18] Ac (Ev (by simp only [go_sem,aw,aw.2];exact Al)) ?_
  refine Fw [5,17,18] (fun ax => ⟨Au 46 [(5,.ref 0 0),(17,.agg [.ref 0 12,.ref 0 13,.ref 0 14,.ref 0 15,.ref 0 16,.ref 0 17,.ref 0 18,.ref 0 19,.ref 0 20,.ref 0 21,.ref 0 22]),(18,i64 0)],[.box [.sl false (L Ah c),.sl false (L Ak d),.sl false (L Aa e),.sl false (L Af f),.sl false (L Aj g),.sl false (L Ai i),.sl false (L Ag j),.sl false (L Ae k),.sl false (L Ab n),i64 o,i64 p,i64 q,i64 s,i64 t,i64 u,i64 v,i64 w,i64 x,i64 y,i64 z,i64 aa,i64 ab,i64 ac,.str ad,.sl false (L Ad ae),.bool ax] false]⟩) ?_ ?_
  ·intro _
   refine Sp (fun ai => ?_) fun ai => ?_
   ·exact Lf Ac (Ev (by simp only [go_sem,ai];exact Al)) (ws [0])
   ·exact Lf Ac (Ev (by simp only [go_sem,ai];exact Al)) (ws [0])
  intro ax
  refine Bn <|Tn <|?_
  have aV : w64 1 = 1:=by decide
  refine Fe [5,17,18] Ac (Ev (by simp only [go_sem,aV];exact Al)) ?_
  refine Un ?_
  refine Ug (m:=15) ?_
  refine T0 [5,17,18,19] ?_
  refine Sq <|Ct <|Sk <|Tn <|Sq <|Sb <|?_
  have ay : InR 1 11:=by decide
  refine Te [5,7,17,18] Ac (Ev (by simp only [go_sem,ay,ay.2];exact Al)) ?_
  refine Fw [5,17,18] (fun az => ⟨Au 46 [(5,.ref 0 0),(17,.agg [.ref 0 12,.ref 0 13,.ref 0 14,.ref 0 15,.ref 0 16,.ref 0 17,.ref 0 18,.ref 0 19,.ref 0 20,.ref 0 21,.ref 0 22]),(18,i64 1)],[.box [.sl false (L Ah c),.sl false (L Ak d),.sl false (L Aa e),.sl false (L Af f),.sl false (L Aj g),.sl false (L Ai i),.sl false (L Ag j),.sl false (L Ae k),.sl false (L Ab n),i64 o,i64 p,i64 q,i64 s,i64 t,i64 u,i64 v,i64 w,i64 x,i64 y,i64 z,i64 aa,i64 ab,i64 ac,.str ad,.sl false (L Ad ae),.bool az] false]⟩) ?_ ?_
  ·intro _
   refine Sp (fun aj => ?_) fun aj => ?_
   ·exact Lf Ac (Ev (by simp only [go_sem,aj];exact Al)) (ws [0])
   ·exact Lf Ac (Ev (by simp only [go_sem,aj];exact Al)) (ws [0])
  intro az
  refine Bn <|Tn <|?_
  have aW : w64 2 = 2:=by decide
  refine Fe [5,17,18] Ac (Ev (by simp only [go_sem,aW];exact Al)) ?_
  refine Un ?_
  refine Ug (m:=14) ?_
  refine T0 [5,17,18,19] ?_
  refine Sq <|Ct <|Sk <|Tn <|Sq <|Sb <|?_
  have aA : InR 2 11:=by decide
  refine Te [5,7,17,18] Ac (Ev (by simp only [go_sem,aA,aA.2];exact Al)) ?_
  refine Fw [5,17,18] (fun aB => ⟨Au 46 [(5,.ref 0 0),(17,.agg [.ref 0 12,.ref 0 13,.ref 0 14,.ref 0 15,.ref 0 16,.ref 0 17,.ref 0 18,.ref 0 19,.ref 0 20,.ref 0 21,.ref 0 22]),(18,i64 2)],[.box [.sl false (L Ah c),.sl false (L Ak d),.sl false (L Aa e),.sl false (L Af f),.sl false (L Aj g),.sl false (L Ai i),.sl false (L Ag j),.sl false (L Ae k),.sl false (L Ab n),i64 o,i64 p,i64 q,i64 s,i64 t,i64 u,i64 v,i64 w,i64 x,i64 y,i64 z,i64 aa,i64 ab,i64 ac,.str ad,.sl false (L Ad ae),.bool aB] false]⟩) ?_ ?_
  ·intro _
   refine Sp (fun ak => ?_) fun ak => ?_
   ·exact Lf Ac (Ev (by simp only [go_sem,ak];exact Al)) (ws [0])
   ·exact Lf Ac (Ev (by simp only [go_sem,ak];exact Al)) (ws [0])
  intro aB
  refine Bn <|Tn <|?_
  have aX : w64 3 = 3:=by decide
  refine Fe [5,17,18] Ac (Ev (by simp only [go_sem,aX];exact Al)) ?_
  refine Un ?_
  refine Ug (m:=13) ?_
  refine T0 [5,17,18,19] ?_
  refine Sq <|Ct <|Sk <|Tn <|Sq <|Sb <|?_
  have aC : InR 3 11:=by decide
  refine Te [5,7,17,18] Ac (Ev (by simp only [go_sem,aC,aC.2];exact Al)) ?_
  refine Fw [5,17,18] (fun aD => ⟨Au 46 [(5,.ref 0 0),(17,.agg [.ref 0 12,.ref 0 13,.ref 0 14,.ref 0 15,.ref 0 16,.ref 0 17,.ref 0 18,.ref 0 19,.ref 0 20,.ref 0 21,.ref 0 22]),(18,i64 3)],[.box [.sl false (L Ah c),.sl false (L Ak d),.sl false (L Aa e),.sl false (L Af f),.sl false (L Aj g),.sl false (L Ai i),.sl false (L Ag j),.sl false (L Ae k),.sl false (L Ab n),i64 o,i64 p,i64 q,i64 s,i64 t,i64 u,i64 v,i64 w,i64 x,i64 y,i64 z,i64 aa,i64 ab,i64 ac,.str ad,.sl false (L Ad ae),.bool aD] false]⟩) ?_ ?_
  ·intro _
   refine Sp (fun al => ?_) fun al => ?_
   ·exact Lf Ac (Ev (by simp only [go_sem,al];exact Al)) (ws [0])
   ·exact Lf Ac (Ev (by simp only [go_sem,al];exact Al)) (ws [0])
  intro aD
  refine Bn <|Tn <|?_
  have aY : w64 4 = 4:=by decide
  refine Fe [5,17,18] Ac (Ev (by simp only [go_sem,aY];exact Al)) ?_
  refine Un ?_
  refine Ug (m:=12) ?_
  refine T0 [5,17,18,19] ?_
  refine Sq <|Ct <|Sk <|Tn <|Sq <|Sb <|?_
  have aE : InR 4 11:=by decide
  refine Te [5,7,17,18] Ac (Ev (by simp only [go_sem,aE,aE.2];exact Al)) ?_
  refine Fw [5,17,18] (fun aF => ⟨Au 46 [(5,.ref 0 0),(17,.agg [.ref 0 12,.ref 0 13,.ref 0 14,.ref 0 15,.ref 0 16,.ref 0 17,.ref 0 18,.ref 0 19,.ref 0 20,.ref 0 21,.ref 0 22]),(18,i64 4)],[.box [.sl false (L Ah c),.sl false (L Ak d),.sl false (L Aa e),.sl false (L Af f),.sl false (L Aj g),.sl false (L Ai i),.sl false (L Ag j),.sl false (L Ae k),.sl false (L Ab n),i64 o,i64 p,i64 q,i64 s,i64 t,i64 u,i64 v,i64 w,i64 x,i64 y,i64 z,i64 aa,i64 ab,i64 ac,.str ad,.sl false (L Ad ae),.bool aF] false]⟩) ?_ ?_
  ·intro _
   refine Sp (fun am => ?_) fun am => ?_
   ·exact Lf Ac (Ev (by simp only [go_sem,am];exact Al)) (ws [0])
   ·exact Lf Ac (Ev (by simp only [go_sem,am];exact Al)) (ws [0])
  intro aF
  refine Bn <|Tn <|?_
  have aZ : w64 5 = 5:=by decide
  refine Fe [5,17,18] Ac (Ev (by simp only [go_sem,aZ];exact Al)) ?_
  refine Un ?_
  refine Ug (m:=11) ?_
  refine T0 [5,17,18,19] ?_
  refine Sq <|Ct <|Sk <|Tn <|Sq <|Sb <|?_
  have aG : InR 5 11:=by decide
  refine Te [5,7,17,18] Ac (Ev (by simp only [go_sem,aG,aG.2];exact Al)) ?_
  refine Fw [5,17,18] (fun aH => ⟨Au 46 [(5,.ref 0 0),(17,.agg [.ref 0 12,.ref 0 13,.ref 0 14,.ref 0 15,.ref 0 16,.ref 0 17,.ref 0 18,.ref 0 19,.ref 0 20,.ref 0 21,.ref 0 22]),(18,i64 5)],[.box [.sl false (L Ah c),.sl false (L Ak d),.sl false (L Aa e),.sl false (L Af f),.sl false (L Aj g),.sl false (L Ai i),.sl false (L Ag j),.sl false (L Ae k),.sl false (L Ab n),i64 o,i64 p,i64 q,i64 s,i64 t,i64 u,i64 v,i64 w,i64 x,i64 y,i64 z,i64 aa,i64 ab,i64 ac,.str ad,.sl false (L Ad ae),.bool aH] false]⟩) ?_ ?_
  ·intro _
   refine Sp (fun an => ?_) fun an => ?_
   ·exact Lf Ac (Ev (by simp only [go_sem,an];exact Al)) (ws [0])
   ·exact Lf Ac (Ev (by simp only [go_sem,an];exact Al)) (ws [0])
  intro aH
  refine Bn <|Tn <|?_
  have a0 : w64 6 = 6:=by decide
  refine Fe [5,17,18] Ac (Ev (by simp only [go_sem,a0];exact Al)) ?_
  refine Un ?_
  refine Ug (m:=10) ?_
  refine T0 [5,17,18,19] ?_
  refine Sq <|Ct <|Sk <|Tn <|Sq <|Sb <|?_
  have aI : InR 6 11:=by decide
  refine Te [5,7,17,18] Ac (Ev (by simp only [go_sem,aI,aI.2];exact Al)) ?_
  refine Fw [5,17,18] (fun aJ => ⟨Au 46 [(5,.ref 0 0),(17,.agg [.ref 0 12,.ref 0 13,.ref 0 14,.ref 0 15,.ref 0 16,.ref 0 17,.ref 0 18,.ref 0 19,.ref 0 20,.ref 0 21,.ref 0 22]),(18,i64 6)],[.box [.sl false (L Ah c),.sl false (L Ak d),.sl false (L Aa e),.sl false (L Af f),.sl false (L Aj g),.sl false (L Ai i),.sl false (L Ag j),.sl false (L Ae k),.sl false (L Ab n),i64 o,i64 p,i64 q,i64 s,i64 t,i64 u,i64 v,i64 w,i64 x,i64 y,i64 z,i64 aa,i64 ab,i64 ac,.str ad,.sl false (L Ad ae),.bool aJ] false]⟩) ?_ ?_
  ·intro _
   refine Sp (fun ao => ?_) fun ao => ?_
   ·exact Lf Ac (Ev (by simp only [go_sem,ao];exact Al)) (ws [0])
   ·exact Lf Ac (Ev (by simp only [go_sem,ao];exact Al)) (ws [0])
  intro aJ
  refine Bn <|Tn <|?_
  have a1 : w64 7 = 7:=by decide
  refine Fe [5,17,18] Ac (Ev (by simp only [go_sem,a1];exact Al)) ?_
  refine Un ?_
  refine Ug (m:=9) ?_
  refine T0 [5,17,18,19] ?_
  refine Sq <|Ct <|Sk <|Tn <|Sq <|Sb <|?_
  have aK : InR 7 11:=by decide
  refine Te [5,7,17,18] Ac (Ev (by simp only [go_sem,aK,aK.2];exact Al)) ?_
  refine Fw [5,17,18] (fun aL => ⟨Au 46 [(5,.ref 0 0),(17,.agg [.ref 0 12,.ref 0 13,.ref 0 14,.ref 0 15,.ref 0 16,.ref 0 17,.ref 0 18,.ref 0 19,.ref 0 20,.ref 0 21,.ref 0 22]),(18,i64 7)],[.box [.sl false (L Ah c),.sl false (L Ak d),.sl false (L Aa e),.sl false (L Af f),.sl false (L Aj g),.sl false (L Ai i),.sl false (L Ag j),.sl false (L Ae k),.sl false (L Ab n),i64 o,i64 p,i64 q,i64 s,i64 t,i64 u,i64 v,i64 w,i64 x,i64 y,i64 z,i64 aa,i64 ab,i64 ac,.str ad,.sl false (L Ad ae),.bool aL] false]⟩) ?_ ?_
  ·intro _
   refine Sp (fun ap => ?_) fun ap => ?_
   ·exact Lf Ac (Ev (by simp only [go_sem,ap];exact Al)) (ws [0])
   ·exact Lf Ac (Ev (by simp only [go_sem,ap];exact Al)) (ws [0])
  intro aL
  refine Bn <|Tn <|?_
  have a2 : w64 8 = 8:=by decide
  refine Fe [5,17,18] Ac (Ev (by simp only [go_sem,a2];exact Al)) ?_
  refine Un ?_
  refine Ug (m:=8) ?_
  refine T0 [5,17,18,19] ?_
  refine Sq <|Ct <|Sk <|Tn <|Sq <|Sb <|?_
  have aM : InR 8 11:=by decide
  refine Te [5,7,17,18] Ac (Ev (by simp only [go_sem,aM,aM.2];exact Al)) ?_
  refine Fw [5,17,18] (fun aN => ⟨Au 46 [(5,.ref 0 0),(17,.agg [.ref 0 12,.ref 0 13,.ref 0 14,.ref 0 15,.ref 0 16,.ref 0 17,.ref 0 18,.ref 0 19,.ref 0 20,.ref 0 21,.ref 0 22]),(18,i64 8)],[.box [.sl false (L Ah c),.sl false (L Ak d),.sl false (L Aa e),.sl false (L Af f),.sl false (L Aj g),.sl false (L Ai i),.sl false (L Ag j),.sl false (L Ae k),.sl false (L Ab n),i64 o,i64 p,i64 q,i64 s,i64 t,i64 u,i64 v,i64 w,i64 x,i64 y,i64 z,i64 aa,i64 ab,i64 ac,.str ad,.sl false (L Ad ae),.bool aN] false]⟩) ?_ ?_
  ·intro _
   refine Sp (fun aq => ?_) fun aq => ?_
   ·exact Lf Ac (Ev (by simp only [go_sem,aq];exact Al)) (ws [0])
   ·exact Lf Ac (Ev (by simp only [go_sem,aq];exact Al)) (ws [0])
  intro aN
  refine Bn <|Tn <|?_
  have a3 : w64 9 = 9:=by decide
  refine Fe [5,17,18] Ac (Ev (by simp only [go_sem,a3];exact Al)) ?_
  refine Un ?_
  refine Ug (m:=7) ?_
  refine T0 [5,17,18,19] ?_
  refine Sq <|Ct <|Sk <|Tn <|Sq <|Sb <|?_
  have aO : InR 9 11:=by decide
  refine Te [5,7,17,18] Ac (Ev (by simp only [go_sem,aO,aO.2];exact Al)) ?_
  refine Fw [5,17,18] (fun aP => ⟨Au 46 [(5,.ref 0 0),(17,.agg [.ref 0 12,.ref 0 13,.ref 0 14,.ref 0 15,.ref 0 16,.ref 0 17,.ref 0 18,.ref 0 19,.ref 0 20,.ref 0 21,.ref 0 22]),(18,i64 9)],[.box [.sl false (L Ah c),.sl false (L Ak d),.sl false (L Aa e),.sl false (L Af f),.sl false (L Aj g),.sl false (L Ai i),.sl false (L Ag j),.sl false (L Ae k),.sl false (L Ab n),i64 o,i64 p,i64 q,i64 s,i64 t,i64 u,i64 v,i64 w,i64 x,i64 y,i64 z,i64 aa,i64 ab,i64 ac,.str ad,.sl false (L Ad ae),.bool aP] false]⟩) ?_ ?_
  ·intro _
   refine Sp (fun ar => ?_) fun ar => ?_
   ·exact Lf Ac (Ev (by simp only [go_sem,ar];exact Al)) (ws [0])
   ·exact Lf Ac (Ev (by simp only [go_sem,ar];exact Al)) (ws [0])
  intro aP
  refine Bn <|Tn <|?_
  have a4 : w64 10 = 10:=by decide
  refine Fe [5,17,18] Ac (Ev (by simp only [go_sem,a4];exact Al)) ?_
  refine Un ?_
  refine Ug (m:=6) ?_
  refine T0 [5,17,18,19] ?_
  refine Sq <|Ct <|Sk <|Tn <|Sq <|Sb <|?_
  have aQ : InR 10 11:=by decide
  refine Te [5,7,17,18] Ac (Ev (by simp only [go_sem,aQ,aQ.2];exact Al)) ?_
  refine Fw [5,17,18] (fun aR => ⟨Au 46 [(5,.ref 0 0),(17,.agg [.ref 0 12,.ref 0 13,.ref 0 14,.ref 0 15,.ref 0 16,.ref 0 17,.ref 0 18,.ref 0 19,.ref 0 20,.ref 0 21,.ref 0 22]),(18,i64 10)],[.box [.sl false (L Ah c),.sl false (L Ak d),.sl false (L Aa e),.sl false (L Af f),.sl false (L Aj g),.sl false (L Ai i),.sl false (L Ag j),.sl false (L Ae k),.sl false (L Ab n),i64 o,i64 p,i64 q,i64 s,i64 t,i64 u,i64 v,i64 w,i64 x,i64 y,i64 z,i64 aa,i64 ab,i64 ac,.str ad,.sl false (L Ad ae),.bool aR] false]⟩) ?_ ?_
  ·intro _
   refine Sp (fun au => ?_) fun au => ?_
   ·exact Lf Ac (Ev (by simp only [go_sem,au];exact Al)) (ws [0])
   ·exact Lf Ac (Ev (by simp only [go_sem,au];exact Al)) (ws [0])
  intro aR
  refine Bn <|Tn <|?_
  have a5 : w64 11 = 11:=by decide
  refine Fe [5,17,18] Ac (Ev (by simp only [go_sem,a5];exact Al)) ?_
  refine Un ?_
  refine Ug (m:=5) ?_
  refine T0 [5,17,18,19] ?_
  exact Sq <|Cf <|Sx <|Tx <|Ux <|Bx <|Jm (ws [0])
 intro av
 refine Tw [4] (fun aS => ⟨Au 46 [(4,.bool aS)],[]⟩) ?_ ?_
 ·intro _
  refine Sp (fun af => ?_) fun af => ?_
  ·refine Sp (fun ag => ?_) fun ag => ?_
   ·exact Lf Ac (Ev (by simp only [go_sem,af,ag];exact Al)) (ws [] (by simp only [go_sem,af,ag]) (by simp only [go_sem,af,ag]))
   ·exact Lf Ac (Ev (by simp only [go_sem,af,ag];exact Al)) (ws [] (by simp only [go_sem,af,ag]) (by simp only [go_sem,af,ag]))
  ·exact Lf Ac (Ev (by simp only [go_sem,af];exact Al)) (ws [] (by simp only [go_sem,af]) (by simp only [go_sem,af]))
 intro aS
 exact Sr <|Rr
theorem F9 {b a r} (h : Dn b a = some r) : Con B 15 [.agg [.sl false (L Ah b.Zs1.Zu),.sl false (L Ak b.Zs1.Zv),.sl false (L Aa b.Zt1.Zm1),.sl false (L Af b.Zt1.Zn1),.sl false (L Aj b.Zt1.Zo1),.sl false (L Ai b.Zt1.Zp1),.sl false (L Ag b.Zu1),.sl false (L Ae b.Zv1),.sl false (L Ab b.Zw1)],.agg [i64 a.Zb,i64 a.Ref.Za,i64 a.Ref.No,i64 a.Ze,i64 a.Zf,i64 a.Zg,i64 a.Zh,i64 a.Zi,i64 a.To,i64 a.Code,i64 a.Zj,i64 a.Zk,i64 a.Zl,i64 a.Zm,.str a.Zn,.sl false (L Ad a.Zo)]] [] (fun r' σ' => r' = i64 r∧σ' = []):=by
 refine Cw 19 [.tmp 4] Tryz.func15 (fun F hE => ?_) h
 unfold Dn
 refine T0 [2,3] ?_
 refine Sq <|Bd fun i f =>Te [2,3,4] (o1 6 (Nj f)) Ev ?_
 refine T0 [2,3,4,8] ?_
 refine Cd ?_ ?_
 ·refine T0 [4] ?_
  exact Sr <|Tr <|Rr
 ·refine Sk <|Tn <|Sq <|?_
  refine Tw [18] (fun d => ⟨Au 19 [(18,.bool d)],[]⟩) ?_ ?_
  ·intro _
   refine Bd fun j e => ?_
   refine Sp (fun c => ?_) fun c => ?_
   ·exact Lf (o1 11 (Kc e)) (Ev (by simp only [go_sem,c];exact Al)) (ws [])
   ·refine Bd fun k g => ?_
    exact Lf (o2 11 (Kc e) 16 (U0 g)) (Ev (by simp only [go_sem,c];exact Al)) (ws [])
  intro d
  refine Cd ?_ ?_
  ·refine T0 [4] ?_
   exact Sr <|Tr <|Rr
  ·refine Sk <|Tn <|T0 [4] ?_
   exact Sr <|Rr
theorem Bu {a e r} (h : E6 a e = some r) : Con B 35 [.agg [i64 a.Zb,i64 a.Ref.Za,i64 a.Ref.No,i64 a.Ze,i64 a.Zf,i64 a.Zg,i64 a.Zh,i64 a.Zi,i64 a.To,i64 a.Code,i64 a.Zj,i64 a.Zk,i64 a.Zl,i64 a.Zm,.str a.Zn,.sl false (L Ad a.Zo)],.str e] [] (fun r' σ' => r' = .bool r∧σ' = []):=by
 refine Cw 35 [.tmp 4] Tryz.func35 (fun F hE => ?_) h
 unfold E6
 refine T0 [1,2] ?_
 refine Bd fun k g =>Te [1,2,5,6] (o1 11 (J1 g)) Ev ?_
 refine Bd fun l i =>Te [1,2,5,6,7,8] (o1 16 (N7 i)) Ev ?_
 refine Tw [4] (fun f => ⟨Au 35 [(4,.bool f)],[]⟩) ?_ ?_
 ·intro _
  refine Sp (fun b => ?_) fun b => ?_
  ·refine Sp (fun c => ?_) fun c => ?_
   ·refine Sp (fun d => ?_) fun d => ?_
    ·refine Bd fun m j => ?_
     exact Lf (o1 33 (Jb j)) (Ev (by simp only [go_sem,b,c,d];exact Al)) (ws [])
    ·exact Lf Ac (Ev (by simp only [go_sem,b,c,d];exact Al)) (ws [])
   ·exact Lf Ac (Ev (by simp only [go_sem,b,c];exact Al)) (ws [])
  ·exact Lf Ac (Ev (by simp only [go_sem,b];exact Al)) (ws [])
 intro f
 exact Sr <|Rr
theorem Aq {b r} (h : Da b = some r) : Con B 36 [.str b] [] (fun r' σ' => r' = .bool r∧σ' = []):=by
 refine Cw 17 [.tmp 2] Tryz.func36 (fun F hE => ?_) h
 unfold Da
 refine T0 [0] ?_
 refine Bd fun f d =>Te [3,4] (o1 7 (N7 d)) Ev ?_
 refine Tw [2] (fun c => ⟨Au 17 [(2,.bool c)],[]⟩) ?_ ?_
 ·intro _
  refine Sp (fun a => ?_) fun a => ?_
  ·refine Bd fun g e => ?_
   exact Lf (o1 15 (Jb e)) (Ev (by simp only [go_sem,a];exact Al)) (ws [])
  ·exact Lf Ac (Ev (by simp only [go_sem,a];exact Al)) (ws [])
 intro c
 exact Sr <|Rr
theorem U1 {r} (h : law11_sane  = some r) : Con B 12 [] [] (fun r' σ' => r' = .bool r∧σ' = []):=by
 refine Cw 91 [.tmp 0] Tryz.func12 (fun F hE => ?_) h
 unfold law11_sane
 refine T0 [] ?_
 refine Lt fun a ag =>Te (σ':=[.buf 3 (L Ad a) false,.box [i64 10,i64 0,i64 0,i64 0,i64 0,i64 0,i64 0,i64 0,i64 0,i64 0,i64 0,i64 0,i64 0,i64 0,.str ([] : List UInt8),.bs true 0 (a.length) 0 (a.length)] false]) [1] Ac (Ev (by simp only [go_sem,ag];exact Al)) ?_
 refine Tw [1,2] (fun v => ⟨Au 91 [(1,.ref 0 0),(2,.bool v)],[.box [i64 10,i64 0,i64 0,i64 0,i64 0,i64 0,i64 0,i64 0,i64 0,i64 0,i64 0,i64 0,i64 0,i64 0,.str ([] : List UInt8),.bs true 1 (a.length) 0 (a.length)] false,.buf 3 (L Ad a) false]⟩) ?_ ?_
 ·intro _
  refine Bd fun aq p => ?_
  refine Sp (fun k => ?_) fun k => ?_
  ·refine Bd fun ar w => ?_
   refine Sp (fun q => ?_) fun q => ?_
   ·refine Bd fun au ab => ?_
    refine Sp (fun x => ?_) fun x => ?_
    ·refine Bd fun av ah => ?_
     exact Lf (Gf (l:=[(15,_,_,_),(19,_,_,_),(23,_,_,_),(27,_,_,_)]) ⟨Bu  p,Bu  w,Bu  ab,Bu  ah,trivial⟩) (Ev (by simp only [go_sem,k,q,x];exact Al)) (ws [1,0])
    ·exact Lf (Gf (l:=[(15,_,_,_),(19,_,_,_),(23,_,_,_)]) ⟨Bu  p,Bu  w,Bu  ab,trivial⟩) (Ev (by simp only [go_sem,k,q,x];exact Al)) (ws [1,0])
   ·exact Lf (o2 15 (Bu p) 19 (Bu w)) (Ev (by simp only [go_sem,k,q];exact Al)) (ws [1,0])
  ·exact Lf (o1 15 (Bu p)) (Ev (by simp only [go_sem,k];exact Al)) (ws [1,0])
 intro v
 refine Bd fun ai aj =>Te [1,2,4] (o1 31 (J1 aj)) Ev ?_
 refine Bd fun ak al =>Te [1,2,4,6] (o1 36 (Ko al)) Ev ?_
 refine Tw [1,2,4,6,7] (fun ac => ⟨Au 91 [(1,.ref 0 0),(2,.bool v),(4,i64 ai.2),(6,i64 ak.2),(7,.bool ac)],[.box [i64 10,i64 0,i64 0,i64 0,i64 0,i64 0,i64 0,i64 0,i64 0,i64 0,i64 0,i64 0,i64 0,i64 0,.str ([] : List UInt8),.bs true 1 (a.length) 0 (a.length)] false,.buf 3 (L Ad a) false]⟩) ?_ ?_
 ·intro _
  refine Bd fun aw d => ?_
  refine Sp (fun b => ?_) fun b => ?_
  ·refine Bd fun ax g => ?_
   refine Sp (fun e => ?_) fun e => ?_
   ·refine Bd fun ay m => ?_
    refine Sp (fun i => ?_) fun i => ?_
    ·refine Bd fun az s => ?_
     refine Sp (fun n => ?_) fun n => ?_
     ·refine Bd fun aA y => ?_
      refine Sp (fun t => ?_) fun t => ?_
      ·refine Bd fun aB ad => ?_
       refine Sp (fun z => ?_) fun z => ?_
       ·refine Bd fun aC am => ?_
        exact Lf (Gf (l:=[(39,_,_,_),(41,_,_,_),(44,_,_,_),(47,_,_,_),(50,_,_,_),(53,_,_,_),(56,_,_,_)]) ⟨Aq  d,Aq  g,Aq  m,Aq  s,Aq  y,Aq  ad,Aq  am,trivial⟩) (Ev (by simp only [go_sem,b,e,i,n,t,z];exact Al)) (ws [0,1])
       ·exact Lf (Gf (l:=[(39,_,_,_),(41,_,_,_),(44,_,_,_),(47,_,_,_),(50,_,_,_),(53,_,_,_)]) ⟨Aq  d,Aq  g,Aq  m,Aq  s,Aq  y,Aq  ad,trivial⟩) (Ev (by simp only [go_sem,b,e,i,n,t,z];exact Al)) (ws [0,1])
      ·exact Lf (Gf (l:=[(39,_,_,_),(41,_,_,_),(44,_,_,_),(47,_,_,_),(50,_,_,_)]) ⟨Aq  d,Aq  g,Aq  m,Aq  s,Aq  y,trivial⟩) (Ev (by simp only [go_sem,b,e,i,n,t];exact Al)) (ws [0,1])
     ·exact Lf (Gf (l:=[(39,_,_,_),(41,_,_,_),(44,_,_,_),(47,_,_,_)]) ⟨Aq  d,Aq  g,Aq  m,Aq  s,trivial⟩) (Ev (by simp only [go_sem,b,e,i,n];exact Al)) (ws [0,1])
    ·exact Lf (Gf (l:=[(39,_,_,_),(41,_,_,_),(44,_,_,_)]) ⟨Aq  d,Aq  g,Aq  m,trivial⟩) (Ev (by simp only [go_sem,b,e,i];exact Al)) (ws [0,1])
   ·exact Lf (o2 39 (Aq d) 41 (Aq g)) (Ev (by simp only [go_sem,b,e];exact Al)) (ws [0,1])
  ·exact Lf (o1 39 (Aq d)) (Ev (by simp only [go_sem,b];exact Al)) (ws [0,1])
 intro ac
 refine Bd fun aD an =>Bd fun aE ao =>Te [1,2,4,6,7,8,9] (o2 60 (Oj an) 61 (Ko ao)) Ev ?_
 refine Tw [0] (fun ae => ⟨Au 91 [(0,.bool ae)],[]⟩) ?_ ?_
 ·intro _
  refine Sp (fun c => ?_) fun c => ?_
  ·refine Sp (fun f => ?_) fun f => ?_
   ·refine Sp (fun j => ?_) fun j => ?_
    ·refine Sp (fun o => ?_) fun o => ?_
     ·refine Sp (fun u => ?_) fun u => ?_
      ·refine Bd fun aF af => ?_
       refine Sp (fun aa => ?_) fun aa => ?_
       ·refine Bd fun aG ap => ?_
        exact Lf (o2 83 (Jb af) 88 (F9 ap)) (Ev (by simp only [go_sem,c,f,j,o,u,aa];exact Al)) (ws [])
       ·exact Lf (o1 83 (Jb af)) (Ev (by simp only [go_sem,c,f,j,o,u,aa];exact Al)) (ws [])
      ·exact Lf Ac (Ev (by simp only [go_sem,c,f,j,o,u];exact Al)) (ws [])
     ·exact Lf Ac (Ev (by simp only [go_sem,c,f,j,o];exact Al)) (ws [])
    ·exact Lf Ac (Ev (by simp only [go_sem,c,f,j];exact Al)) (ws [])
   ·exact Lf Ac (Ev (by simp only [go_sem,c,f];exact Al)) (ws [])
  ·exact Lf Ac (Ev (by simp only [go_sem,c];exact Al)) (ws [])
 intro ae
 exact Sr <|Rr
theorem Om {b a f g r} (h : Fl b a f g = some r) : Con B 9 [.agg [.sl false (L Ah b.Zs1.Zu),.sl false (L Ak b.Zs1.Zv),.sl false (L Aa b.Zt1.Zm1),.sl false (L Af b.Zt1.Zn1),.sl false (L Aj b.Zt1.Zo1),.sl false (L Ai b.Zt1.Zp1),.sl false (L Ag b.Zu1),.sl false (L Ae b.Zv1),.sl false (L Ab b.Zw1)],.agg [i64 a.Zb,i64 a.Ref.Za,i64 a.Ref.No,i64 a.Ze,i64 a.Zf,i64 a.Zg,i64 a.Zh,i64 a.Zi,i64 a.To,i64 a.Code,i64 a.Zj,i64 a.Zk,i64 a.Zl,i64 a.Zm,.str a.Zn,.sl false (L Ad a.Zo)],u8 f,i64 g] [] (fun r' σ' => r' = .bool r∧σ' = []):=by
 refine Cw 70 [.tmp 8] Tryz.func9 (fun F hE => ?_) h
 unfold Fl
 refine T0 [2,3,4,5] ?_
 refine Sq <|Bd fun aA am =>Te [2,3,4,5,13] (o1 12 (U1 am)) Ev ?_
 refine Cd ?_ ?_
 ·refine T0 [8] ?_
  exact Sr <|Tr <|Rr
 ·refine Sk <|Tn <|Sq <|?_
  refine Tw [2,3,4,5,31] (fun o => ⟨Au 70 [(2,u8 f),(3,i64 g),(4,.ref 0 0),(5,.ref 1 0),(31,.bool o)],[.box [.sl false (L Ah b.Zs1.Zu),.sl false (L Ak b.Zs1.Zv),.sl false (L Aa b.Zt1.Zm1),.sl false (L Af b.Zt1.Zn1),.sl false (L Aj b.Zt1.Zo1),.sl false (L Ai b.Zt1.Zp1),.sl false (L Ag b.Zu1),.sl false (L Ae b.Zv1),.sl false (L Ab b.Zw1)] false,.box [i64 a.Zb,i64 a.Ref.Za,i64 a.Ref.No,i64 a.Ze,i64 a.Zf,i64 a.Zg,i64 a.Zh,i64 a.Zi,i64 a.To,i64 a.Code,i64 a.Zj,i64 a.Zk,i64 a.Zl,i64 a.Zm,.str a.Zn,.sl false (L Ad a.Zo)] false]⟩) ?_ ?_
  ·intro _
   refine Bd fun aB d => ?_
   refine Sp (fun c => ?_) fun c => ?_
   ·exact Lf (o1 15 (H0 d)) (Ev (by simp only [go_sem,c];exact Al)) (ws [0,1])
   ·refine Bd fun aC i => ?_
    refine Sp (fun e => ?_) fun e => ?_
    ·exact Lf (o2 15 (H0 d) 19 (Ih i)) (Ev (by simp only [go_sem,c,e];exact Al)) (ws [0,1])
    ·refine Sp (fun j => ?_) fun j => ?_
     ·exact Lf (o2 15 (H0 d) 19 (Ih i)) (Ev (by simp only [go_sem,c,e,j];exact Al)) (ws [0,1])
     ·refine Bd fun aD an => ?_
      exact Lf (Gf (l:=[(15,_,_,_),(19,_,_,_),(29,_,_,_)]) ⟨H0  d,Ih  i,F9  an,trivial⟩) (Ev (by simp only [go_sem,c,e,j];exact Al)) (ws [0,1])
  intro o
  refine Cd ?_ ?_
  ·refine T0 [8] ?_
   exact Sr <|Tr <|Rr
  ·refine Sk <|Tn <|Bd fun aE ao =>Te [2,3,4,5,9] (o1 34 (Yn ao)) Ev ?_
   have ap : ¬(13 : Int) = 0:=by decide
   refine Lt fun aq ar =>Te (fr':=[(3,_),(4,_),(5,_),(9,_),(10,i64 aq)]) [3,4,5,9,10] Ac (Ev (by simp only [go_sem,ap,ar];exact Al)) ?_
   refine T0 [3,4,5,9,10,11] ?_
   refine Jo (fun ⟨p,q,s,t,u,v,w,x,y,z,aa,ab,ac,ad,ae,af⟩ => ⟨Au 70 [(4,.ref 0 0),(5,.ref 1 0),(11,.ref 2 0)],[.box [.sl false (L Ah b.Zs1.Zu),.sl false (L Ak b.Zs1.Zv),.sl false (L Aa b.Zt1.Zm1),.sl false (L Af b.Zt1.Zn1),.sl false (L Aj b.Zt1.Zo1),.sl false (L Ai b.Zt1.Zp1),.sl false (L Ag b.Zu1),.sl false (L Ae b.Zv1),.sl false (L Ab b.Zw1)] false,.box [i64 a.Zb,i64 a.Ref.Za,i64 a.Ref.No,i64 a.Ze,i64 a.Zf,i64 a.Zg,i64 a.Zh,i64 a.Zi,i64 a.To,i64 a.Code,i64 a.Zj,i64 a.Zk,i64 a.Zl,i64 a.Zm,.str a.Zn,.sl false (L Ad a.Zo)] false,.box [i64 p,i64 q,i64 s,i64 t,i64 u,i64 v,i64 w,i64 x,i64 y,i64 z,i64 aa,i64 ab,i64 ac,i64 ad,.str ae,.sl false (L Ad af)] false]⟩) ?_ ?_
   ·intro aF k
    refine T0 [3,4,5,9,10,11,40] ?_
    refine Cd ?_ ?_
    ·refine Sq <|Ck fun ag =>?_
     have ah:=ag;simp only [List.cons_append,List.nil_append,List.length_append,List.length_cons,List.length_nil,Nat.zero_add,Nat.reduceAdd] at ah
     refine Bd fun aG au =>Te [3,4,5,10,11,44] (o1 44 (Ph au)) (Ev (by simp only [go_sem,qR ag,ah];exact Al)) ?_
     refine Cd ?_ ?_
     ·refine T0 [8] ?_
      exact Sr <|Tr <|Jr k <|Rr
     ·refine Sk <|Tn <|Ck fun ai =>?_
      have aj:=ai;simp only [List.cons_append,List.nil_append,List.length_append,List.length_cons,List.length_nil,Nat.zero_add,Nat.reduceAdd] at aj
      refine Bd fun aH av =>Ge [[],[],[1],[],[0,1,2,3],[0,1,2,3,4]] [4,5,11] (o1 49 (Oz av)) (Ev (by simp only [go_sem,qR ai,aj];exact Al)) ?_
      exact Jn (ws [0,1,2])
    ·refine T0 [4,5,9,11,51] ?_
     refine Cd ?_ ?_
     ·refine Sq <|Bd fun aI aw =>Te [4,5,11,53] (o1 53 (Ph aw)) Ev ?_
      refine Cd ?_ ?_
      ·refine T0 [8] ?_
       exact Sr <|Tr <|Jr k <|Rr
      ·refine Sk <|Tn <|F0 [4,5,11] ?_
       exact Jn (ws [0,1,2])
     ·refine Sq <|Bd fun aJ ax =>Te [4,5,11,56] (o1 56 (Ph ax)) Ev ?_
      refine Cd ?_ ?_
      ·refine T0 [8] ?_
       exact Sr <|Tr <|Jr k <|Rr
      ·refine Sk <|Tn <|Lt fun m ay =>Fe (σ':=[_,_,.box [i64 a.Zb,i64 a.Ref.Za,i64 a.Ref.No,i64 a.Ze,i64 a.Zf,i64 a.Zg,i64 a.Zh,i64 a.Zi,i64 a.To,i64 a.Code,i64 a.Zj,i64 a.Zk,i64 a.Zl,i64 a.Zm,.str a.Zn,.bs true 3 (m.length) 0 (m.length)] false,.buf 3 (L Ad m) false]) [4,5,11] Ac (Ev (by simp only [go_sem,ay];exact Al)) ?_
       exact Jn ((Iv 2 15 rfl rfl rfl gs gs).trans (ws [0,1,2]))
   rintro ⟨p,q,s,t,u,v,w,x,y,z,aa,ab,ac,ad,ae,af⟩
   refine Tw [8] (fun ak => ⟨Au 70 [(8,.bool ak)],[]⟩) ?_ ?_
   ·intro _
    refine Bd fun aK al => ?_
    refine Sp (fun n => ?_) fun n => ?_
    ·refine Bd fun aL az => ?_
     exact Lf (o2 62 (F9 al) 67 (F9 az)) (Ev (by simp only [go_sem,n];exact Al)) (ws [])
    ·exact Lf (o1 62 (F9 al)) (Ev (by simp only [go_sem,n];exact Al)) (ws [])
   intro ak
   exact Sr <|Rr
set_option maxRecDepth 4000
theorem S9 (x : UInt64) (n : Nat) : (Hn x n).toNat = x.toNat / 2 ^ n:=by
 show (x.toBitVec >>> n).toNat = _
 rw [BitVec.toNat_ushiftRight,Nat.shiftRight_eq_div_pow];rfl
theorem Afj (x : UInt64) (n : Nat) : (Lh x n).toNat = x.toNat * 2 ^ n % 18446744073709551616:=by
 show (x.toBitVec <<< n).toNat = _
 rw [BitVec.toNat_shiftLeft,Nat.shiftLeft_eq];rfl
theorem Aie (x : UInt64) : (x &&& 4294967295).toNat = x.toNat % 4294967296:=by
 rw [UInt64.toNat_and]
 exact Nat.and_two_pow_sub_one_eq_mod x.toNat 32
theorem AkJ (x : UInt64) : x.toNat < 18446744073709551616:=x.toNat_lt
theorem Ut (x y : UInt64) : (x * y).toNat = x.toNat * y.toNat % 18446744073709551616:=UInt64.toNat_mul x y
theorem Z8 (x y : UInt64) : (x + y).toNat = (x.toNat + y.toNat) % 18446744073709551616:=UInt64.toNat_add x y
theorem Apc {x y : UInt64} (h : x.toNat = y.toNat) : x = y:=UInt64.toNat_inj.1 h
theorem g_32 : ((32 : UInt64)).toNat = 32:=rfl
theorem Agq (x y : UInt64) : ∃ r,Ke x y = some r∧r.1.toNat = x.toNat * y.toNat / 18446744073709551616∧r.2.toNat = x.toNat * y.toNat % 18446744073709551616:=by
 obtain ⟨bd,bt,bw,hhi⟩:=Lib.mul64_hi x.toNat y.toNat (AkJ x) (AkJ y)
 have hx:=AkJ x
 have hy:=AkJ y
 have ba:=Lib.half_mul_le (a:=x.toNat / 4294967296) (b:=y.toNat / 4294967296) (by omega) (by omega)
 have bb:=Lib.half_mul_le (a:=x.toNat / 4294967296) (b:=y.toNat % 4294967296) (by omega) (by omega)
 have bc:=Lib.half_mul_le (a:=x.toNat % 4294967296) (b:=y.toNat / 4294967296) (by omega) (by omega)
 unfold Ke
 simp only [lt1]
 refine ⟨_,rfl,?_,Ut x y⟩
 rw [← hhi]
 simp only [Z8,Ut,S9,Aie,g_32,Nat.reducePow]
 generalize x.toNat / 4294967296 * (y.toNat / 4294967296) = a at *
 generalize x.toNat / 4294967296 * (y.toNat % 4294967296) = b at *
 generalize x.toNat % 4294967296 * (y.toNat / 4294967296) = c at *
 generalize x.toNat % 4294967296 * (y.toNat % 4294967296) = d at *
 omega
structure Dig (u w q r : Nat) : Prop where
 eq : u = q * 4294967295 + r
 up : (q + 1) * 18446744073709526392 > u * 4294967296 + w
theorem Yj {u w : Nat} (hu : u < 18446744073709526392) (hw : w < 4294967296) : Dig u w (u / 4294967295) (u % 4294967295):=⟨by omega,by omega⟩
theorem Qh {a b c : Nat} (h : a = b) (k : b < c) : a < c:=by omega
theorem Yu {u q r q' r' : Nat} (he : u = q * 4294967295 + r) (hq : 1≤q) (h1 : q' = q - 1) (h2 : r' = r + 4294967295) : u = q' * 4294967295 + r':=by
 have key : ∀ c : Nat,u = q * c + r→r' = r + c→u = q' * c + r':=by
  intro c he h2
  obtain ⟨k,rfl⟩ : ∃ k,q = k + 1:=⟨q - 1,by omega⟩
  have : q' = k:=by omega
  subst this
  rw [he,h2,Nat.add_mul,Nat.one_mul,Nat.add_assoc,Nat.add_comm c r]
 exact key _ he h2
theorem Yp {u w q r q' : Nat} (he : u = q * 4294967295 + r) (hu : u < 18446744073709526392) (hw : w < 4294967296) (h : 4294967296≤q∨4294967296 * r + w < q * 4294942072) (hq : 1≤q) (h1 : q' = q - 1) : (q' + 1) * 18446744073709526392 > u * 4294967296 + w:=by subst h1;omega
theorem X2 {r r' : Nat} (h : r < 4294967296) (h2 : r' = r + 4294967295) : 4294967296 - r' < 4294967296 - r:=by omega
theorem Aft (un32 un1 : UInt64) (hu : un32.toNat < 18446744073709526392) (hw : un1.toNat < 4294967296) :
  ∃ q,A6 (fun (v : UInt64×UInt64) => Fc 4294967295 4294942072 un1 v.1 v.2) ((un32 / 4294967295),(un32 - (un32 / 4294967295) * 4294967295)) = some q∧q.toNat = (un32.toNat * 4294967296 + un1.toNat) / 18446744073709526392:=by
 have hq0 : (un32 / 4294967295).toNat = un32.toNat / 4294967295:=UInt64.toNat_div _ _
 have hr0 : (un32 - (un32 / 4294967295) * 4294967295).toNat = un32.toNat % 4294967295:=by
  have h1 : ((un32 / 4294967295) * 4294967295).toNat = un32.toNat / 4294967295 * 4294967295:=by
   rw [Ut,hq0]
   show un32.toNat / 4294967295 * 4294967295 % _ = _
   omega
  rw [UInt64.toNat_sub_of_le _ _ (UInt64.le_iff_toNat_le.2 (by rw [h1];omega)),h1]
  omega
 have hd:=Yj hu hw
 rw [← hq0,← hr0] at hd
 generalize un32 / 4294967295 = q0 at *
 generalize un32 - q0 * 4294967295 = r0 at *
 refine E8 (fun v => Dig un32.toNat un1.toNat v.1.toNat v.2.toNat∧v.2.toNat < 4294967296) (fun v => 4294967296 - v.2.toNat) _ ?_ ⟨hd,by rw [hr0];omega⟩ (by simp only;omega)
 rintro ⟨q,r⟩ ⟨⟨he,hup⟩,hr⟩
 simp only at he hup hr
 unfold Fc
 have hqb : q.toNat≤4294967297:=by omega
 have m1 : (q * 4294942072).toNat = q.toNat * 4294942072:=by
  rw [Ut];show q.toNat * 4294942072 % _ = _;omega
 have m2 : ((4294967296 : UInt64) * r + un1).toNat = 4294967296 * r.toNat + un1.toNat:=by
  rw [Z8,Ut];show (4294967296 * r.toNat % _ + _) % _ = _;omega
 have m3 : (r + 4294967295).toNat = r.toNat + 4294967295:=by
  rw [Z8];show (r.toNat + 4294967295) % _ = _;omega
 have hb : (q ≥ (4294967296 : UInt64))↔4294967296≤q.toNat:=UInt64.le_iff_toNat_le
 have hg : (q * 4294942072 > (4294967296 : UInt64) * r + un1)↔4294967296 * r.toNat + un1.toNat < q.toNat * 4294942072:=by rw [gt_iff_lt,UInt64.lt_iff_toNat_lt,m1,m2]
 have hh : (r + 4294967295 ≥ (4294967296 : UInt64))↔4294967296≤r.toNat + 4294967295:=by rw [ge_iff_le,UInt64.le_iff_toNat_le,m3];rfl
 have htest : (if (decide (q ≥ (4294967296 : UInt64))) = true then some true else some ((decide ((q * (4294942072 : UInt64)) > (((4294967296 : UInt64) * r) + un1)))) : Option Bool) = some (decide (4294967296≤q.toNat∨4294967296 * r.toNat + un1.toNat < q.toNat * 4294942072)):=by
  by_cases h1 : 4294967296≤q.toNat
  ·rw [if_pos (decide_eq_true (hb.2 h1))];simp [h1]
  ·rw [if_neg (by simp only [decide_eq_true_eq];exact fun e => h1 (hb.1 e))];simp [h1,hg]
 rw [htest,Option.bind_some]
 by_cases ht : 4294967296≤q.toNat∨4294967296 * r.toNat + un1.toNat < q.toNat * 4294942072
 ·have hs : (q - 1).toNat = q.toNat - 1:=by
   rw [UInt64.toNat_sub_of_le _ _ (UInt64.le_iff_toNat_le.2 (by show 1≤q.toNat;omega))];rfl
  rw [if_pos (decide_eq_true ht)]
  by_cases h2 : 4294967296≤r.toNat + 4294967295
  ·right
   rw [if_pos (decide_eq_true (hh.2 h2))]
   refine ⟨_,rfl,?_⟩
   rw [hs]
   omega
  ·left
   rw [if_neg (by simp only [decide_eq_true_eq];exact fun e => h2 (hh.1 e))]
   refine ⟨_,rfl,⟨⟨?_,?_⟩,?_⟩,?_⟩
   ·show un32.toNat = (q - 1).toNat * 4294967295 + (r + 4294967295).toNat
    exact Yu he (by omega) hs m3
   ·show ((q - 1).toNat + 1) * 18446744073709526392 > un32.toNat * 4294967296 + un1.toNat
    exact Yp he hu hw ht (by omega) hs
   ·exact Qh m3 (Nat.lt_of_not_le h2)
   ·exact X2 hr m3
 ·right
  rw [if_neg (by simp only [decide_eq_true_eq];exact ht)]
  refine ⟨_,rfl,?_⟩
  show q.toNat = _
  omega
theorem Ae6 (un32 un1 : UInt64) (hu : un32.toNat < 18446744073709526392) (hw : un1.toNat < 4294967296) :
  ∃ q,A6 (fun (v : UInt64×UInt64) => E3 4294967295 4294942072 un1 v.1 v.2) ((un32 - (un32 / 4294967295) * 4294967295),(un32 / 4294967295)) = some q∧q.toNat = (un32.toNat * 4294967296 + un1.toNat) / 18446744073709526392:=by
 have hq0 : (un32 / 4294967295).toNat = un32.toNat / 4294967295:=UInt64.toNat_div _ _
 have hr0 : (un32 - (un32 / 4294967295) * 4294967295).toNat = un32.toNat % 4294967295:=by
  have h1 : ((un32 / 4294967295) * 4294967295).toNat = un32.toNat / 4294967295 * 4294967295:=by
   rw [Ut,hq0]
   show un32.toNat / 4294967295 * 4294967295 % _ = _
   omega
  rw [UInt64.toNat_sub_of_le _ _ (UInt64.le_iff_toNat_le.2 (by rw [h1];omega)),h1]
  omega
 have hd:=Yj hu hw
 rw [← hq0,← hr0] at hd
 generalize un32 / 4294967295 = q0 at *
 generalize un32 - q0 * 4294967295 = r0 at *
 refine E8 (fun v => Dig un32.toNat un1.toNat v.2.toNat v.1.toNat∧v.1.toNat < 4294967296) (fun v => 4294967296 - v.1.toNat) _ ?_ ⟨hd,by rw [hr0];omega⟩ (by simp only;omega)
 rintro ⟨r,q⟩ ⟨⟨he,hup⟩,hr⟩
 simp only at he hup hr
 unfold E3
 have hqb : q.toNat≤4294967297:=by omega
 have m1 : (q * 4294942072).toNat = q.toNat * 4294942072:=by
  rw [Ut];show q.toNat * 4294942072 % _ = _;omega
 have m2 : ((4294967296 : UInt64) * r + un1).toNat = 4294967296 * r.toNat + un1.toNat:=by
  rw [Z8,Ut];show (4294967296 * r.toNat % _ + _) % _ = _;omega
 have m3 : (r + 4294967295).toNat = r.toNat + 4294967295:=by
  rw [Z8];show (r.toNat + 4294967295) % _ = _;omega
 have hb : (q ≥ (4294967296 : UInt64))↔4294967296≤q.toNat:=UInt64.le_iff_toNat_le
 have hg : (q * 4294942072 > (4294967296 : UInt64) * r + un1)↔4294967296 * r.toNat + un1.toNat < q.toNat * 4294942072:=by rw [gt_iff_lt,UInt64.lt_iff_toNat_lt,m1,m2]
 have hh : (r + 4294967295 ≥ (4294967296 : UInt64))↔4294967296≤r.toNat + 4294967295:=by rw [ge_iff_le,UInt64.le_iff_toNat_le,m3];rfl
 have htest : (if (decide (q ≥ (4294967296 : UInt64))) = true then some true else some ((decide ((q * (4294942072 : UInt64)) > (((4294967296 : UInt64) * r) + un1)))) : Option Bool) = some (decide (4294967296≤q.toNat∨4294967296 * r.toNat + un1.toNat < q.toNat * 4294942072)):=by
  by_cases h1 : 4294967296≤q.toNat
  ·rw [if_pos (decide_eq_true (hb.2 h1))];simp [h1]
  ·rw [if_neg (by simp only [decide_eq_true_eq];exact fun e => h1 (hb.1 e))];simp [h1,hg]
 rw [htest,Option.bind_some]
 by_cases ht : 4294967296≤q.toNat∨4294967296 * r.toNat + un1.toNat < q.toNat * 4294942072
 ·have hs : (q - 1).toNat = q.toNat - 1:=by
   rw [UInt64.toNat_sub_of_le _ _ (UInt64.le_iff_toNat_le.2 (by show 1≤q.toNat;omega))];rfl
  rw [if_pos (decide_eq_true ht)]
  by_cases h2 : 4294967296≤r.toNat + 4294967295
  ·right
   rw [if_pos (decide_eq_true (hh.2 h2))]
   refine ⟨_,rfl,?_⟩
   rw [hs]
   omega
  ·left
   rw [if_neg (by simp only [decide_eq_true_eq];exact fun e => h2 (hh.1 e))]
   refine ⟨_,rfl,⟨⟨?_,?_⟩,?_⟩,?_⟩
   ·show un32.toNat = (q - 1).toNat * 4294967295 + (r + 4294967295).toNat
    exact Yu he (by omega) hs m3
   ·show ((q - 1).toNat + 1) * 18446744073709526392 > un32.toNat * 4294967296 + un1.toNat
    exact Yp he hu hw ht (by omega) hs
   ·exact Qh m3 (Nat.lt_of_not_le h2)
   ·exact X2 hr m3
 ·right
  rw [if_neg (by simp only [decide_eq_true_eq];exact ht)]
  refine ⟨_,rfl,?_⟩
  show q.toNat = _
  omega
theorem lz_P : Dj 2305843009213690799 = some 3:=by decide +kernel
theorem y8 : Lh 2305843009213690799 3 = 18446744073709526392:=by decide +kernel
theorem Asj : Hn 18446744073709526392 ((32 : UInt64)).toNat = 4294967295:=by decide +kernel
theorem Ark : (18446744073709526392 : UInt64) &&& 4294967295 = 4294942072:=by decide +kernel
theorem s3 : (UInt64.ofInt 3).toNat = 3:=by decide +kernel
theorem s61 : ((64 : UInt64) - UInt64.ofInt 3).toNat = 61:=by decide +kernel
theorem Am4 (a b : UInt64) (ha : a.toNat % 8 = 0) (hb : b.toNat < 8) : (a ||| b).toNat = a.toNat + b.toNat:=by
 rw [UInt64.toNat_or]
 have e : a.toNat = (a.toNat / 8) <<< 3:=by rw [Nat.shiftLeft_eq];omega
 rw [e,← Nat.shiftLeft_add_eq_or_of_lt (by simpa using hb)]
theorem AjG (u w q : UInt64) (v : Nat) (hv : v = 18446744073709526392) (hq : q.toNat = (u.toNat * 4294967296 + w.toNat) / v) : (u * 4294967296 + w - q * 18446744073709526392).toNat = (u.toNat * 4294967296 + w.toNat) % v:=by
 have h1 : (u * 4294967296 + w).toNat = (u.toNat * 4294967296 + w.toNat) % 18446744073709551616:=by
  rw [Z8,Ut]
  show (u.toNat * 4294967296 % 18446744073709551616 + w.toNat) % 18446744073709551616 = _
  rw [Nat.mod_add_mod]
 have h2 : (q * 18446744073709526392).toNat = (q.toNat * v) % 18446744073709551616:=by rw [Ut,hv];rfl
 rw [UInt64.toNat_sub,h1,h2,hq]
 have h3:=Nat.div_add_mod (u.toNat * 4294967296 + w.toNat) v
 have h4 : (u.toNat * 4294967296 + w.toNat) % v < 18446744073709551616:=Nat.lt_of_lt_of_le (Nat.mod_lt _ (by omega)) (by omega)
 generalize u.toNat * 4294967296 + w.toNat = U at *
 generalize hr : U % v = r at *
 rw [Nat.mul_comm v] at h3
 generalize U / v * v = z at *
 subst h3
 show (18446744073709551616 - z % 18446744073709551616 + (z + r) % 18446744073709551616) % 18446744073709551616 = r
 omega
theorem mod8 (N P m : Nat) (h : m = 8 * P) : 8 * N % m / 8 = N % P:=by subst h;rw [Nat.mul_mod_mul_left,Nat.mul_div_cancel_left _ (by omega)]
theorem Ahb (a b c m : Nat) : (a % m * c + b) % m = (a * c + b) % m:=by
 rw [Nat.add_mod,Nat.mul_mod,Nat.mod_mod,← Nat.mul_mod,← Nat.add_mod]
theorem Ai5 (hi lo : Nat) (hlo : lo < 18446744073709551616) : ((hi * 8 + lo / 2305843009213693952) * 4294967296 + lo * 8 % 18446744073709551616 / 4294967296) * 4294967296 + lo * 8 % 18446744073709551616 % 4294967296 = 8 * (hi * 18446744073709551616 + lo):=by omega
theorem Adv (hi lo m P : Nat) (hm : m = 8 * P) (hlo : lo < 18446744073709551616) : (((hi * 8 + lo / 2305843009213693952) * 4294967296 + lo * 8 % 18446744073709551616 / 4294967296) % m * 4294967296 + lo * 8 % 18446744073709551616 % 4294967296) % m / 8 = (hi * 18446744073709551616 + lo) % P:=by
 rw [Ahb,Ai5 hi lo hlo]
 exact mod8 _ _ _ hm
theorem Ca {α β : Type} (x : α) (f : α→Option β) : lt1 x f = f x:=of_eq_true (eq_self (f x))
theorem Agb (n1 n0 un32 un1 : UInt64) (h1 : n1 = 4294967295) (h0 : n0 = 4294942072) (hu : un32.toNat < 18446744073709526392) (hw : un1.toNat < 4294967296) :
  ∃ q,A6 (fun (v : UInt64×UInt64) => Fc n1 n0 un1 v.1 v.2) ((un32 / n1),(un32 - (un32 / n1) * n1)) = some q∧q.toNat = (un32.toNat * 4294967296 + un1.toNat) / 18446744073709526392:=by
 subst h1 h0;exact Aft un32 un1 hu hw
theorem Ahv (n1 n0 un32 un1 : UInt64) (h1 : n1 = 4294967295) (h0 : n0 = 4294942072) (hu : un32.toNat < 18446744073709526392) (hw : un1.toNat < 4294967296) :
  ∃ q,A6 (fun (v : UInt64×UInt64) => E3 n1 n0 un1 v.1 v.2) ((un32 - (un32 / n1) * n1),(un32 / n1)) = some q∧q.toNat = (un32.toNat * 4294967296 + un1.toNat) / 18446744073709526392:=by
 subst h1 h0;exact Ae6 un32 un1 hu hw
theorem Afm (u w q v8 : UInt64) (h8 : v8 = 18446744073709526392) (hq : q.toNat = (u.toNat * 4294967296 + w.toNat) / 18446744073709526392) : (u * 4294967296 + w - q * v8).toNat = (u.toNat * 4294967296 + w.toNat) % 18446744073709526392:=by
 subst h8;exact AjG u w q _ rfl hq
theorem AhF (hi lo y : UInt64) (hy : y = 2305843009213690799) (h : hi.toNat < 2305843009213690799) : ∃ r,H9 hi lo y = some r∧r.2.toNat = (hi.toNat * 18446744073709551616 + lo.toNat) % 2305843009213690799:=by
 have hP : y.toNat = 2305843009213690799:=by rw [hy];rfl
 have hlo:=AkJ lo
 have hy0 : ¬ y = 0:=by rw [hy];decide
 have hlz : Dj y = some 3:=by rw [hy];exact lz_P
 obtain ⟨v8,hv8⟩ : ∃ v8,v8 = Lh y 3:=⟨_,rfl⟩
 obtain ⟨n1,hn1⟩ : ∃ n1,n1 = Hn v8 ((32 : UInt64)).toNat:=⟨_,rfl⟩
 obtain ⟨n0,hn0⟩ : ∃ n0,n0 = v8 &&& 4294967295:=⟨_,rfl⟩
 have e8 : v8 = 18446744073709526392:=by rw [hv8,hy];exact y8
 have e1 : n1 = 4294967295:=by rw [hn1,e8];exact Asj
 have e0 : n0 = 4294942072:=by rw [hn0,e8];exact Ark
 have hn1z : ¬ n1 = 0:=by rw [e1];decide
 unfold H9
 rw [if_neg (by simpa using hy0),if_neg (by simp only [decide_eq_true_eq,UInt64.le_iff_toNat_le,hP];omega)]
 by_cases h0 : hi = 0
 ·subst h0
  rw [if_pos (by decide),if_pos hy0,if_pos hy0]
  refine ⟨_,rfl,?_⟩
  show (lo % y).toNat = _
  rw [UInt64.toNat_mod,hP]
  simp
 ·rw [if_neg (by simpa using h0),hlz,Option.bind_some]
  simp only [Ca,s3,s61]
  rw [← hv8,← hn1,← hn0]
  clear hv8 hn1 hn0 hlz hy
  have a1 : (Lh hi 3).toNat = hi.toNat * 8:=by rw [Afj];omega
  have a2 : (Hn lo 61).toNat = lo.toNat / 2305843009213693952:=S9 lo 61
  have a3 : (Lh hi 3 ||| Hn lo 61).toNat = hi.toNat * 8 + lo.toNat / 2305843009213693952:=by rw [Am4 _ _ (by omega) (by omega),a1,a2]
  have a4 : (Lh lo 3).toNat = lo.toNat * 8 % 18446744073709551616:=Afj lo 3
  have a5 : (Hn (Lh lo 3) ((32 : UInt64)).toNat).toNat = lo.toNat * 8 % 18446744073709551616 / 4294967296:=by rw [S9,a4];rfl
  have a6 : (Lh lo 3 &&& 4294967295).toNat = lo.toNat * 8 % 18446744073709551616 % 4294967296:=by rw [Aie,a4]
  generalize Lh hi 3 ||| Hn lo 61 = un32 at *
  generalize Hn (Lh lo 3) ((32 : UInt64)).toNat = un1 at *
  generalize Lh lo 3 &&& 4294967295 = un0 at *
  obtain ⟨q1,hq1,f1⟩:=Agb n1 n0 un32 un1 e1 e0 (by omega) (by omega)
  have r1:=Afm un32 un1 q1 v8 e8 f1
  rw [if_pos hn1z,hq1]
  simp only [Option.bind_some]
  generalize un32 * 4294967296 + un1 - q1 * v8 = un21 at *
  obtain ⟨q0,hq0,f0⟩:=Ahv n1 n0 un21 un0 e1 e0 (by omega) (by omega)
  have r0:=Afm un21 un0 q0 v8 e8 f0
  rw [if_pos hn1z,hq0]
  simp only [Option.bind_some]
  refine ⟨_,rfl,?_⟩
  show (Hn (un21 * 4294967296 + un0 - q0 * v8) 3).toNat = _
  rw [S9,r0,r1,a3,a5,a6]
  exact Adv hi.toNat lo.toNat _ _ (by decide) hlo
theorem Aju (hi lo : UInt64) (h : hi.toNat < 2305843009213690799) : ∃ r,H9 hi lo 2305843009213690799 = some r∧r.2.toNat = (hi.toNat * 18446744073709551616 + lo.toNat) % 2305843009213690799:=AhF hi lo _ rfl h
abbrev PN : Nat:=2305843009213690799
theorem Yq (a b : UInt64) : ∃ r,E5 a b 2305843009213690799 = some (r,2305843009213690799)∧r.toNat = a.toNat * b.toNat % PN:=by
 have hP : ((2305843009213690799 : UInt64)).toNat = 2305843009213690799:=rfl
 unfold E5
 obtain ⟨⟨hi,lo⟩,hm,h1,h2⟩:=Agq (a % 2305843009213690799) (b % 2305843009213690799)
 rw [if_pos (by decide),if_pos (by decide),hm,Option.bind_some]
 simp only at h1 h2 ⊢
 rw [UInt64.toNat_mod,UInt64.toNat_mod,hP] at h1 h2
 have ha : a.toNat % 2305843009213690799 < 2305843009213690799:=Nat.mod_lt _ (by omega)
 have hb : b.toNat % 2305843009213690799 < 2305843009213690799:=Nat.mod_lt _ (by omega)
 have hab : a.toNat % 2305843009213690799 * (b.toNat % 2305843009213690799) < 2305843009213690799 * 2305843009213690799:=Nat.mul_lt_mul'' ha hb
 have hhi : hi.toNat < 2305843009213690799:=by
  rw [h1]
  generalize a.toNat % 2305843009213690799 * (b.toNat % 2305843009213690799) = z at *
  omega
 obtain ⟨⟨q,r⟩,hd,hr⟩:=Aju hi lo hhi
 rw [hd,Option.bind_some]
 refine ⟨r,rfl,?_⟩
 simp only at hr
 rw [hr,h1,h2,Nat.div_add_mod',← Nat.mul_mod]
theorem Ft {k : Nat} (h : k < 9223372036854775807) : w64 ((k : Int) + 1) = ((k + 1 : Nat) : Int):=by rw [Gl (by omega)];rfl
theorem Aoq (b k P : Nat) : (b ^ k % P) * (b ^ k % P) % P = b ^ (2 * k) % P:=by rw [← Nat.mul_mod,← Nat.pow_add,Nat.two_mul]
theorem Agf (b k P : Nat) : (b ^ k % P) * b % P = b ^ (k + 1) % P:=by rw [Nat.mod_mul_mod,Nat.pow_succ]
theorem Aht (n e : Nat) : n / 2 ^ e = 2 * (n / 2 ^ (e + 1)) + n / 2 ^ e % 2:=by
 rw [Nat.pow_succ,← Nat.div_div_eq_div_mul];omega
theorem Arq (x : UInt64) : ((x &&& 1) == 1) = decide (x.toNat % 2 = 1):=by
 have h : (x &&& 1).toNat = x.toNat % 2:=by rw [UInt64.toNat_and];exact Nat.and_two_pow_sub_one_eq_mod x.toNat 1
 rw [Bool.eq_iff_iff,beq_iff_eq,decide_eq_true_eq,← h]
 exact ⟨fun e => by rw [e];rfl,fun e => Apc e⟩
theorem AgO (b n out : UInt64) (len i : Nat) (hl : Fz n = some (len : Int)) (h64 : len≤64) (hi : i < len) (ho : out.toNat = b.toNat ^ (n.toNat / 2 ^ (len - i)) % PN) :
  ∃ o,Fq b n (len : Int) out (i : Int) 2305843009213690799 = some (.inl (o,((i + 1 : Nat) : Int),2305843009213690799))∧o.toNat = b.toNat ^ (n.toNat / 2 ^ (len - (i + 1))) % PN:=by
 unfold Fq
 rw [if_pos (by simp;omega)]
 obtain ⟨r,hr,er⟩:=Yq out out
 rw [hr,Option.bind_some,hl,Option.bind_some]
 have e1 : w64 (w64 ((len : Int) - 1) - (i : Int)) = ((len - 1 - i : Nat) : Int):=by
  rw [Gl (x:=(len : Int) - 1) (by omega),Gl (by omega)];omega
 rw [e1,if_pos (by unfold Xz;omega)]
 simp only [Ca,Int.toNat_natCast,Arq,S9]
 have hk:=Aht n.toNat (len - 1 - i)
 rw [show len - 1 - i + 1 = len - i by omega] at hk
 rw [show len - (i + 1) = len - 1 - i by omega]
 rw [ho,Aoq] at er
 by_cases hb : n.toNat / 2 ^ (len - 1 - i) % 2 = 1
 ·rw [if_pos (decide_eq_true hb)]
  obtain ⟨q,hq,eq⟩:=Yq r b
  rw [hq]
  simp only [Option.bind_some]
  refine ⟨q,by rw [Ft (by omega)],?_⟩
  rw [eq,er,Agf,hk,hb]
 ·rw [if_neg (by simpa using hb)]
  simp only [Option.bind_some]
  refine ⟨r,by rw [Ft (by omega)],?_⟩
  rw [er,hk,show n.toNat / 2 ^ (len - 1 - i) % 2 = 0 by omega,Nat.add_zero]
theorem AoN (b n : UInt64) (len : Nat) (hl : Fz n = some (len : Int)) (hn : n.toNat < 2 ^ len) (h64 : len≤64) : ∃ r,Oi b n = some r∧r.toNat = b.toNat ^ n.toNat % PN:=by
 unfold Oi K6
 rw [Option.bind_some,hl,Option.bind_some]
 obtain ⟨x,hx,hq⟩ : ∃ x,A6 (fun (v : UInt64×Int×UInt64) => Fq b n (len : Int) v.1 v.2.1 v.2.2) ((1 : UInt64),0,(2305843009213690799 : UInt64)) = some x∧x.toNat = b.toNat ^ n.toNat % PN:=by
  refine Z5 len (fun k v => ∃ o : UInt64,v = (o,(k : Int),(2305843009213690799 : UInt64))∧o.toNat = b.toNat ^ (n.toNat / 2 ^ (len - k)) % PN) _ (by omega) ?_ ?_ ⟨1,rfl,?_⟩
  ·rintro k v hk ⟨o,rfl,ho⟩
   obtain ⟨o',h1,h2⟩:=AgO b n o len k hl h64 hk ho
   exact ⟨_,h1,o',rfl,h2⟩
  ·rintro v ⟨o,rfl,ho⟩
   refine ⟨o,?_,by rw [ho,Nat.sub_self,Nat.pow_zero,Nat.div_one]⟩
   simp only
   unfold Fq
   rw [if_neg (by simp)]
  ·rw [Nat.sub_zero,Nat.div_eq_of_lt hn,Nat.pow_zero];decide
 rw [hx]
 exact ⟨x,rfl,hq⟩
theorem AcA (a b : UInt64) (ha : a.toNat < PN) : ∃ r,Oa a b 2305843009213690799 = some r∧r.toNat = a.toNat * b.toNat % PN:=by
 have hP : ((2305843009213690799 : UInt64)).toNat = 2305843009213690799:=rfl
 unfold Oa
 obtain ⟨x,hx,hq⟩ : ∃ x,A6 (fun (v : UInt64×UInt64×UInt64) => Ml 2305843009213690799 v.1 v.2.1 v.2.2) (a,b,(0 : UInt64)) = some x∧x.toNat = a.toNat * b.toNat % PN:=by
  refine E8 (fun v => v.1.toNat < PN∧v.2.2.toNat < PN∧(v.2.2.toNat + v.1.toNat * v.2.1.toNat) % PN = a.toNat * b.toNat % PN) (fun v => v.2.1.toNat) _ ?_ ⟨ha,by show (0 : UInt64).toNat < PN;decide,by show (0 + _) % _ = _;rw [Nat.zero_add]⟩ (by have:=AkJ b;simp only;omega)
  rintro ⟨a1,b1,o1⟩ ⟨h1,h2,h3⟩
  simp only at h1 h2 h3
  have hPN : PN = 2305843009213690799:=rfl
  unfold Ml
  have hz : (b1 > (0 : UInt64))↔0 < b1.toNat:=by rw [gt_iff_lt,UInt64.lt_iff_toNat_lt];rfl
  have hpz : ¬ (2305843009213690799 : UInt64) = 0:=by decide
  by_cases hb : 0 < b1.toNat
  ·left
   rw [if_pos (decide_eq_true (hz.2 hb))]
   have hodd : ((b1 % (2 : UInt64)) == (1 : UInt64)) = decide (b1.toNat % 2 = 1):=by
    rw [Bool.eq_iff_iff,beq_iff_eq,decide_eq_true_eq]
    have : (b1 % (2 : UInt64)).toNat = b1.toNat % 2:=UInt64.toNat_mod _ _
    rw [← this]
    exact ⟨fun e => by rw [e];rfl,fun e => Apc e⟩
   have ho : ((o1 + a1) % 2305843009213690799).toNat = (o1.toNat + a1.toNat) % PN:=by
    rw [UInt64.toNat_mod,Z8,hP,Nat.mod_eq_of_lt (a:=o1.toNat + a1.toNat) (by omega)]
   have hd : ((a1 + a1) % 2305843009213690799).toNat = (a1.toNat + a1.toNat) % PN:=by
    rw [UInt64.toNat_mod,Z8,hP,Nat.mod_eq_of_lt (a:=a1.toNat + a1.toNat) (by omega)]
   have hh : (b1 / 2).toNat = b1.toNat / 2:=UInt64.toNat_div _ _
   have hlt : ∀ x : Nat,x % PN < PN:=fun x => Nat.mod_lt _ (by decide)
   simp only [hodd,Ca,if_pos hpz]
   by_cases hp : b1.toNat % 2 = 1
   ·rw [if_pos (decide_eq_true hp)]
    refine ⟨_,rfl,⟨?_,?_,?_⟩,?_⟩
    ·show ((a1 + a1) % 2305843009213690799).toNat < PN
     rw [hd];exact hlt _
    ·show ((o1 + a1) % 2305843009213690799).toNat < PN
     rw [ho];exact hlt _
    ·show (((o1 + a1) % 2305843009213690799).toNat + ((a1 + a1) % 2305843009213690799).toNat * (b1 / 2).toNat) % PN = _
     rw [ho,hd,hh,← h3,Nat.add_mod,Nat.mod_mod,Nat.mod_mul_mod,← Nat.add_mod]
     congr 1
     have e : b1.toNat = 2 * (b1.toNat / 2) + 1:=by omega
     generalize b1.toNat / 2 = c at *
     rw [e,Nat.mul_add,Nat.mul_one,← Nat.mul_assoc,Nat.mul_two]
     omega
    ·show (b1 / 2).toNat < b1.toNat
     rw [hh];omega
   ·rw [if_neg (by simpa using hp)]
    refine ⟨_,rfl,⟨?_,h2,?_⟩,?_⟩
    ·show ((a1 + a1) % 2305843009213690799).toNat < PN
     rw [hd];exact hlt _
    ·show (o1.toNat + ((a1 + a1) % 2305843009213690799).toNat * (b1 / 2).toNat) % PN = _
     rw [hd,hh,← h3,Nat.add_mod,Nat.mod_mul_mod,← Nat.add_mod]
     congr 1
     have e : b1.toNat = 2 * (b1.toNat / 2):=by omega
     generalize b1.toNat / 2 = c at *
     rw [e,← Nat.mul_assoc,Nat.mul_two]
    ·show (b1 / 2).toNat < b1.toNat
     rw [hh];omega
  ·right
   rw [if_neg (by simp only [decide_eq_true_eq];exact fun e => hb (hz.1 e))]
   refine ⟨_,rfl,?_⟩
   have : b1.toNat = 0:=by omega
   rw [this,Nat.mul_zero,Nat.add_zero,Nat.mod_eq_of_lt h2] at h3
   exact h3
 rw [hx]
 exact ⟨x,rfl,hq⟩
theorem AkS (b n : UInt64) : ∃ r,AbP b n = some r∧r.toNat = b.toNat ^ n.toNat % PN:=by
 have hP : ((2305843009213690799 : UInt64)).toNat = 2305843009213690799:=rfl
 have hlt : ∀ x : Nat,x % PN < PN:=fun x => Nat.mod_lt _ (by decide)
 unfold AbP
 rw [Ca]
 obtain ⟨x,hx,hq⟩ : ∃ x,A6 (fun (v : UInt64×UInt64×UInt64) => O4 v.1 v.2.1 v.2.2) ((b % 2305843009213690799),n,(1 : UInt64)) = some x∧x.toNat = b.toNat ^ n.toNat % PN:=by
  refine E8 (fun v => v.1.toNat < PN∧v.2.2.toNat < PN∧(v.2.2.toNat * v.1.toNat ^ v.2.1.toNat) % PN = b.toNat ^ n.toNat % PN) (fun v => v.2.1.toNat) _ ?_ ⟨?_,by show (1 : UInt64).toNat < PN;decide,?_⟩ (by have:=AkJ n;simp only;omega)
  ·rintro ⟨b1,n1,o1⟩ ⟨h1,h2,h3⟩
   simp only at h1 h2 h3
   unfold O4
   have hz : (n1 > (0 : UInt64))↔0 < n1.toNat:=by rw [gt_iff_lt,UInt64.lt_iff_toNat_lt];rfl
   by_cases hb : 0 < n1.toNat
   ·left
    rw [if_pos (decide_eq_true (hz.2 hb))]
    have hodd : ((n1 % (2 : UInt64)) == (1 : UInt64)) = decide (n1.toNat % 2 = 1):=by
     rw [Bool.eq_iff_iff,beq_iff_eq,decide_eq_true_eq]
     have : (n1 % (2 : UInt64)).toNat = n1.toNat % 2:=UInt64.toNat_mod _ _
     rw [← this]
     exact ⟨fun e => by rw [e];rfl,fun e => Apc e⟩
    obtain ⟨s,hs,es⟩:=AcA b1 b1 h1
    obtain ⟨t,ht,et⟩:=AcA o1 b1 h2
    have hh : (n1 / 2).toNat = n1.toNat / 2:=UInt64.toNat_div _ _
    simp only [hodd,hs,ht,Option.bind_some]
    have hsq : ∀ k : Nat,(b1.toNat * b1.toNat % PN) ^ k % PN = b1.toNat ^ (2 * k) % PN:=fun k => by
     rw [← Nat.pow_mod,← Nat.pow_two,← Nat.pow_mul]
    by_cases hp : n1.toNat % 2 = 1
    ·rw [if_pos (decide_eq_true hp)]
     refine ⟨_,rfl,⟨?_,?_,?_⟩,?_⟩
     ·show s.toNat < PN
      rw [es];exact hlt _
     ·show t.toNat < PN
      rw [et];exact hlt _
     ·show (t.toNat * s.toNat ^ (n1 / 2).toNat) % PN = _
      rw [et,es,hh,← h3,Nat.mul_mod,Nat.mod_mod,hsq,← Nat.mul_mod]
      have e : n1.toNat = 2 * (n1.toNat / 2) + 1:=by omega
      generalize n1.toNat / 2 = c at *
      rw [e,Nat.pow_succ,Nat.mul_assoc,Nat.mul_comm b1.toNat]
     ·show (n1 / 2).toNat < n1.toNat
      rw [hh];omega
    ·rw [if_neg (by simpa using hp)]
     refine ⟨_,rfl,⟨?_,h2,?_⟩,?_⟩
     ·show s.toNat < PN
      rw [es];exact hlt _
     ·show (o1.toNat * s.toNat ^ (n1 / 2).toNat) % PN = _
      rw [es,hh,← h3,Nat.mul_mod,hsq,← Nat.mul_mod]
      have e : n1.toNat = 2 * (n1.toNat / 2):=by omega
      generalize n1.toNat / 2 = c at *
      rw [e]
     ·show (n1 / 2).toNat < n1.toNat
      rw [hh];omega
   ·right
    rw [if_neg (by simp only [decide_eq_true_eq];exact fun e => hb (hz.1 e))]
    refine ⟨_,rfl,?_⟩
    have : n1.toNat = 0:=by omega
    rw [this,Nat.pow_zero,Nat.mul_one,Nat.mod_eq_of_lt h2] at h3
    exact h3
  ·show (b % 2305843009213690799).toNat < PN
   rw [UInt64.toNat_mod,hP];exact hlt _
  ·show (1 * (b % 2305843009213690799).toNat ^ n.toNat) % PN = _
   rw [Nat.one_mul,UInt64.toNat_mod,hP,← Nat.pow_mod]
 rw [hx]
 exact ⟨x,rfl,hq⟩
theorem Aq9 : Fz 1152921504606845399 = some ((60 : Nat) : Int):=by decide +kernel
theorem AcI (x : UInt64) : ∃ b,H7 x = some b∧Lg x = some b:=by
 unfold H7 Lg
 obtain ⟨r,hr,er⟩:=AoN x 1152921504606845399 60 Aq9 (by decide) (by omega)
 obtain ⟨s,hs,es⟩:=AkS x 1152921504606845399
 have e : r = s:=Apc (er.trans es.symm)
 subst e
 rw [hr,hs]
 by_cases h1 : decide (x ≥ 2) = true
 ·rw [if_pos h1]
  by_cases h2 : decide (x < 2305843009213690799) = true
  ·rw [if_pos h2];exact ⟨_,rfl,rfl⟩
  ·rw [if_neg h2];exact ⟨_,rfl,rfl⟩
 ·rw [if_neg h1];exact ⟨_,rfl,rfl⟩
theorem M9 (b c : Bool) : (if b = true then some true else some c) = some (b || c):=by cases b <;> rfl
theorem Eu (b c : Bool) : (if b = true then some c else some false) = some (b && c):=by cases b <;> rfl
theorem As {α β : Type} (x : α) (f : α→Option β) : (some x).bind f = f x:=of_eq_true (eq_self (f x))
theorem Tk {α : Type} (b : Bool) (x y : α) : (if b = true then some x else some y) = some (if b = true then x else y):=by cases b <;> rfl
theorem Aa9 (n lo hi : Int) : A2 n lo hi = some (decide (lo≤n) && decide (n≤hi)):=by
 unfold A2;by_cases h : lo≤n <;> simp [h]
theorem AfN (n lo hi : Int) : D0 n lo hi = some (decide (lo≤n) && decide (n≤hi)):=by
 unfold D0;by_cases h : lo≤n <;> simp [h]
theorem Yy (n lo hi : Int) : Bk n lo hi = some (decide (lo≤n) && decide (n≤hi)):=by
 unfold Bk;by_cases h : lo≤n <;> simp [h]
theorem Do {α X : Type} [Inhabited α] (l : List α) (f : Int→Option (Int ⊕ X)) (p : α→Bool) (good bad : X) (hl : l.length < 1152921504606846976)
  (hs : ∀ k : Nat,k < l.length→f (k : Int) = some (if p (nth l k) = true then .inl ((k + 1 : Nat) : Int) else .inr bad)) (he : f (l.length : Int) = some (.inr good)) :
  A6 (fun v => f v) 0 = some (if l.all p = true then good else bad):=by
 obtain ⟨x,hx,hq⟩ : ∃ x,A6 (fun v => f v) 0 = some x∧x = (if l.all p = true then good else bad):=by
  refine E8 (fun v => ∃ k : Nat,v = (k : Int)∧k≤l.length∧(l.take k).all p = true) (fun v => (l.length - v).toNat) _ ?_ ⟨0,rfl,Nat.zero_le _,rfl⟩ (by simp;omega)
  rintro v ⟨k,rfl,hk,ht⟩
  by_cases h1 : k < l.length
  ·have hn : nth l k = l[k]:=by simp [nth,h1]
   rw [hs k h1]
   by_cases hp : p (nth l k) = true
   ·left
    refine ⟨_,by rw [if_pos hp],⟨k + 1,rfl,by omega,?_⟩,by omega⟩
    rw [List.take_succ_eq_append_getElem h1,List.all_append,ht,← hn]
    simp [hp]
   ·right
    refine ⟨_,by rw [if_neg hp],?_⟩
    rw [if_neg]
    intro ha
    rw [List.all_eq_true] at ha
    exact hp (by rw [hn];exact ha _ (List.getElem_mem h1))
  ·right
   have : k = l.length:=by omega
   subst this
   rw [List.take_length] at ht
   exact ⟨_,he,by rw [if_pos ht]⟩
 rw [hx,hq]
theorem Ey {α V X S : Type} [Inhabited α] (l : List α) (f : V→Option (V ⊕ X)) (st : Int→S→V) (g : S→α→S) (out : S→X) (s0 : S) (hl : l.length < 1152921504606846976)
  (hs : ∀ (k : Nat) (s : S),k < l.length→f (st (k : Int) s) = some (.inl (st ((k + 1 : Nat) : Int) (g s (nth l k))))) (he : ∀ s,f (st (l.length : Int) s) = some (.inr (out s))) :
  A6 f (st 0 s0) = some (out (l.foldl g s0)):=by
 obtain ⟨x,hx,hq⟩ : ∃ x,A6 f (st 0 s0) = some x∧x = out (l.foldl g s0):=by
  refine Z5 l.length (fun k v => v = st (k : Int) ((l.take k).foldl g s0)) _ (by omega) ?_ ?_ rfl
  ·rintro k v hk rfl
   refine ⟨_,hs k _ hk,?_⟩
   rw [List.take_succ_eq_append_getElem hk,List.foldl_append]
   simp [nth,hk]
  ·rintro v rfl
   exact ⟨_,he _,by rw [List.take_length]⟩
 rw [hx,hq]
theorem J0 {α : Type} (q : α→Bool) (l : List α) : ∀ b : Bool,l.foldl (fun b x => b || q x) b = (b || l.any q):=by
  induction l with
  | nil => intro b;simp
  | cons x l ih => intro b;simp [ih,Bool.or_assoc]
theorem ArX (a b c : Int) : AaP a b < c↔a < c∨b < c:=by unfold AaP;split <;> omega
theorem Ap8 (a b c : Int) : AcP a b ≥ c↔a ≥ c∨b ≥ c:=by unfold AcP;split <;> omega
def Hv (p : Api_Place) : Bool:=(J2 p).getD false
theorem AiD (p : Api_Place) : J2 p = some (Hv p):=by
 unfold Hv J2
 simp only [AfN,As,M9,Eu]
 simp only [Tk,Option.getD_some]
theorem AjZ (p : Api_Place) : Gc p = some (Hv p):=by
 unfold Hv Gc J2
 simp only [AfN,As,M9,Eu]
 simp only [Tk,Option.getD_some]
 congr 1
 rw [Bool.eq_iff_iff]
 by_cases h3 : p.Zb = 3
 ·simp [h3];omega
 ·simp [h3];omega
def Ta (n : Int) (x : Api_Edge) : Bool:=(Oe x n).getD false
theorem Anh (n : Int) (x : Api_Edge) : Oe x n = some (Ta n x):=by
 unfold Ta Oe
 simp only [AfN,As,M9,Eu]
 simp only [Tk,Option.getD_some]
theorem Amz (n : Api_Network) (hp : n.Zu.length≤4096) (he : n.Zv.length≤4096) : ∃ e,Gg n = some e∧Tg n = some e∧(e = 0→n.Zu.all Hv = true):=by
 have w1 : ∀ k : Nat,k < 5000→w64 ((k : Int) + 1) = ((k + 1 : Nat) : Int):=fun k hk => Ft (by omega)
 have l1 : A6 (fun (v : Int) => C8 n v) 0 = some (if n.Zu.all Hv = true then .inl () else .inr (.inr 1)):=by
  refine Do n.Zu (C8 n) Hv _ _ (by omega) (fun k hk => ?_) ?_
  ·unfold C8
   rw [if_pos (by simp;omega),if_pos (Cp hk)]
   simp only [Ca,Int.toNat_natCast,w1 k (by omega)]
   rw [show (⟨(nth n.Zu k).Zb,(nth n.Zu k).Za,(nth n.Zu k).Zg⟩ : Api_Place) = nth n.Zu k from rfl,AjZ]
   simp only [As]
   cases Hv (nth n.Zu k) <;> rfl
  ·unfold C8;rw [if_neg (by simp)]
 have r1 : A6 (fun (v : Int) => Hi n v) 0 = some (if n.Zu.all Hv = true then .inl () else .inr (.inr 1)):=by
  refine Do n.Zu (Hi n) Hv _ _ (by omega) (fun k hk => ?_) ?_
  ·unfold Hi
   rw [if_pos (by simp;omega),if_pos (Cp hk)]
   simp only [Ca,Int.toNat_natCast,w1 k (by omega),AiD,As]
   cases Hv (nth n.Zu k) <;> rfl
  ·unfold Hi;rw [if_neg (by simp)]
 have l2 : A6 (fun (v : Int) => C7 n (n.Zu.length : Int) v) 0 = some (if n.Zv.all (Ta (n.Zu.length : Int)) = true then .inl () else .inr (.inr 1)):=by
  refine Do n.Zv (C7 n (n.Zu.length : Int)) (Ta (n.Zu.length : Int)) _ _ (by omega) (fun k hk => ?_) ?_
  ·unfold C7
   rw [if_pos (by simp;omega),if_pos (Cp hk)]
   simp only [Ca,Int.toNat_natCast,w1 k (by omega)]
   generalize nth n.Zv k = x
   have e : (if (decide ((AaP (AaP (AaP x.A x.B) x.Za) x.Km) < 0)) = true then some true else if (decide ((AcP x.A x.B) ≥ (n.Zu.length : Int))) = true then some true else if (x.A == x.B) = true then some true else if (decide (x.Za ≥ 16)) = true then some true else if (decide (x.Zt < 1)) = true then some true else if (decide (x.Zt > 100000)) = true then some true else some ((decide (x.Km > 10000))) : Option Bool) = some (!Ta (n.Zu.length : Int) x):=by
    unfold Ta Oe
    simp only [AfN,As,M9,Eu,Option.getD_some]
    congr 1
    rw [Bool.eq_iff_iff,show w64 ((n.Zu.length : Int) - 1) = (n.Zu.length : Int) - 1 from Gl (by omega)]
    simp only [ArX,Ap8,Bool.or_eq_true,Bool.and_eq_true,Bool.not_eq_true',Bool.and_eq_false_iff,decide_eq_true_eq,decide_eq_false_iff_not,beq_iff_eq,bne_iff_ne,bne_eq_false_iff_eq]
    omega
   rw [e,As]
   cases Ta (n.Zu.length : Int) x <;> rfl
  ·unfold C7;rw [if_neg (by simp)]
 have r2 : A6 (fun (v : Int) => G9 n v) 0 = some (if n.Zv.all (Ta (n.Zu.length : Int)) = true then .inl () else .inr (.inr 1)):=by
  refine Do n.Zv (G9 n) (Ta (n.Zu.length : Int)) _ _ (by omega) (fun k hk => ?_) ?_
  ·unfold G9
   rw [if_pos (by simp;omega),if_pos (Cp hk)]
   simp only [Ca,Int.toNat_natCast,w1 k (by omega),Anh,As]
   cases Ta (n.Zu.length : Int) (nth n.Zv k) <;> rfl
  ·unfold G9;rw [if_neg (by simp)]
 unfold Gg Tg
 simp only [Ca,M9,As]
 rw [l1,r1,l2,r2]
 simp only [As]
 by_cases h : (decide ((n.Zu.length : Int) > 512) || decide ((n.Zv.length : Int) > 2048)) = true
 ·rw [if_pos h];exact ⟨_,rfl,rfl,fun e => by omega⟩
 ·rw [if_neg h]
  cases n.Zu.all Hv
  ·exact ⟨_,rfl,rfl,fun e => by omega⟩
  ·cases n.Zv.all (Ta (n.Zu.length : Int)) <;> exact ⟨_,rfl,rfl,fun _ => rfl⟩
theorem AfO {n k : Nat} (h : k < n) : nth (List.range n) k = k:=by simp [nth,h]
def AdH (l : List Int) (k : Nat) : Bool:=decide (0≤nth l k) && (decide (nth l k≤745654) && (decide (k = 0) || decide (nth l (k - 1) < nth l k)))
theorem Ajg (c : Api_Calendar) (hl : c.Zs.length≤1000000) : A6 (fun (v : Int) => Hl c v) 0 = some (if (List.range c.Zs.length).all (AdH c.Zs) = true then .inl () else .inr (.inr 1)):=by
 have h:=Do (List.range c.Zs.length) (Hl c) (AdH c.Zs) (.inl ()) (.inr (.inr 1)) (by simp;omega) (fun k hk => ?_) ?_
 ·exact h
 ·rw [List.length_range] at hk
  rw [AfO hk]
  unfold Hl
  rw [if_pos (by simp;omega),if_pos (Cp hk)]
  simp only [Ca,Int.toNat_natCast,Ft (k:=k) (by omega)]
  have e : (if (decide (nth c.Zs k < 0)) = true then some true else if (decide (nth c.Zs k > 745654)) = true then some true else if (decide ((k : Int) > 0)) = true then (if InR ((w64 ((k : Int) - 1))) c.Zs.length then some ((decide (nth c.Zs (((w64 ((k : Int) - 1))).toNat) ≥ nth c.Zs k))) else none) else some false : Option Bool) = some (!AdH c.Zs k):=by
   unfold AdH
   by_cases hz : k = 0
   ·subst hz
    rw [if_neg (c:=decide (((0 : Nat) : Int) > 0) = true) (by simp)]
    simp only [M9]
    congr 1
    rw [Bool.eq_iff_iff]
    simp <;> omega
   ·have hw : w64 ((k : Int) - 1) = ((k - 1 : Nat) : Int):=by rw [Gl (by omega)];omega
    rw [if_pos (c:=decide ((k : Int) > 0) = true) (by simp;omega),hw,if_pos (Cp (by omega))]
    simp only [M9,Int.toNat_natCast]
    congr 1
    rw [Bool.eq_iff_iff]
    simp [hz] <;> omega
  rw [e,As]
  cases AdH c.Zs k <;> rfl
 ·rw [List.length_range]
  unfold Hl;rw [if_neg (by simp)]
theorem AgZ (c : Api_Calendar) (hl : c.Zs.length≤1000000) : A6 (fun (v : Int×Int) => Dc c v.1 v.2) (-1,0) = some (if (List.range c.Zs.length).all (AdH c.Zs) = true then .inl () else .inr (.inr 1)):=by
 obtain ⟨x,hx,hq⟩ : ∃ x,A6 (fun (v : Int×Int) => Dc c v.1 v.2) (-1,0) = some x∧x = (if (List.range c.Zs.length).all (AdH c.Zs) = true then .inl () else .inr (.inr 1)):=by
  refine E8 (fun v => ∃ k : Nat,v.2 = (k : Int)∧k≤c.Zs.length∧(∀ j,j < k→AdH c.Zs j = true)∧v.1 = (if k = 0 then -1 else nth c.Zs (k - 1))∧-1≤v.1) (fun v => ((c.Zs.length : Int) - v.2).toNat) _ ?_ ⟨0,rfl,Nat.zero_le _,fun j hj => by omega,rfl,by show (-1 : Int)≤-1;omega⟩ (by simp;omega)
  rintro ⟨last,t⟩ ⟨k,rfl,hk,ht,hlast,hge⟩
  simp only at hlast hge ⊢
  unfold Dc
  by_cases h1 : k < c.Zs.length
  ·rw [if_pos (by simp;omega),if_pos (Cp h1)]
   simp only [Ca,Int.toNat_natCast,Ft (k:=k) (by omega),M9,As]
   have e : (decide (nth c.Zs k≤last) || decide (nth c.Zs k > 745654)) = !AdH c.Zs k:=by
    unfold AdH
    rw [Bool.eq_iff_iff]
    by_cases hz : k = 0
    ·subst hz
     simp at hlast
     subst hlast
     simp <;> omega
    ·rw [if_neg hz] at hlast
     simp [hz,← hlast] <;> omega
   rw [e]
   by_cases hp : AdH c.Zs k = true
   ·left
    rw [if_neg (by simp [hp])]
    refine ⟨_,rfl,⟨k + 1,rfl,by omega,fun j hj => ?_,by simp,?_⟩,by simp only;omega⟩
    ·by_cases hjk : j = k
     ·subst hjk;exact hp
     ·exact ht j (by omega)
    ·show -1≤nth c.Zs k
     unfold AdH at hp
     simp at hp
     omega
   ·right
    rw [if_pos (by simpa using hp)]
    refine ⟨_,rfl,?_⟩
    rw [if_neg]
    intro ha
    rw [List.all_eq_true] at ha
    exact hp (ha k (List.mem_range.2 h1))
  ·right
   have hkl : k = c.Zs.length:=by omega
   rw [if_neg (by simp;omega)]
   refine ⟨_,rfl,?_⟩
   rw [if_pos]
   rw [List.all_eq_true]
   intro j hj
   exact ht j (by rw [hkl];exact List.mem_range.1 hj)
 rw [hx,hq]
theorem Aii (c : Api_Calendar) (hl : c.Zs.length≤1000000) : ∃ e,Dy c = some e∧J7 c = some e:=by
 unfold Dy J7
 simp only [Ca,M9,As]
 rw [AgZ c hl,Ajg c hl]
 generalize (List.range c.Zs.length).all (AdH c.Zs) = z
 repeat' split
 all_goals first
  | exact ⟨_,rfl,rfl⟩
  | (cases z <;> exact ⟨_,rfl,rfl⟩)
def E1 (b : Bool) : Int:=if b = true then 1 else 0
theorem Ad5 (ok b : Bool) : A7 ok (E1 b) = some (E1 (b || !ok)):=by cases ok <;> cases b <;> rfl
theorem Aix (a b c : Bool) : (if a = true then some (E1 (b || !c)) else some (E1 (b || !false))) = some (E1 (b || !(a && c))):=by cases a <;> cases b <;> cases c <;> rfl
theorem AaH {α : Type} (p : α→Bool) (l : List α) : l.any (fun x => !p x) = !(l.all p):=by
  induction l with
  | nil => rfl
  | cons x l ih => rw [List.any_cons,ih,List.all_cons,Bool.not_and]
def Ss (t : Api_WagonType) : Bool:=(F5 t).getD false
theorem AlQ (t : Api_WagonType) : F5 t = some (Ss t):=by
 unfold Ss F5
 simp only [Yy,As,Eu,Option.getD_some]
def M3 (n : Int) (t : Api_Wagon) : Bool:=(Fi t n).getD false
theorem Aji (n : Int) (t : Api_Wagon) : Fi t n = some (M3 n t):=by
 unfold M3 Fi
 simp only [Yy,As,Eu,Option.getD_some]
def V1 (n : Int) (s : Api_Swap) : Bool:=(decide (0≤s.Zj1) && decide (s.Zj1≤n - 1)) && ((decide (0≤s.Zk1) && decide (s.Zk1≤n - 1)) && ((s.Zj1 != s.Zk1) && (decide (0≤s.Zl1) && decide (s.Zl1≤1000000000))))
def Vq (w : Api_Wash) : Bool:=(decide (0≤w.Zi) && decide (w.Zi≤63)) && ((decide (0≤w.To) && decide (w.To≤63)) && ((w.Zi != w.To) && (decide (0≤w.Zt) && decide (w.Zt≤100000))))
def washK (w : Api_Wash) : Nat:=w.Zi.toNat * 64 + w.To.toNat
theorem Ws {w : Api_Wash} (h : Vq w = true) : 0≤w.Zi∧w.Zi≤63∧0≤w.To∧w.To≤63:=by
 unfold Vq at h;simp at h;omega
section
variable (f : Api_Fleet)
theorem Ac3 (hl : f.Zm1.length≤4096) : A6 (fun (v : Int×Int) => D1 f v.1 v.2) (0,0) = some (E1 (!(f.Zm1.all Ss))):=by
 have h:=Ey f.Zm1 (fun (v : Int×Int) => D1 f v.1 v.2) (fun k b => (k,E1 b)) (fun b t => b || !Ss t) E1 false (by omega) (fun k b hk => ?_) (fun b => ?_)
 ·rw [J0,AaH] at h;exact h
 ·simp only
  unfold D1
  rw [if_pos (by simp;omega),if_pos (Cp hk)]
  simp only [Ca,Int.toNat_natCast,Ft (k:=k) (by omega)]
  generalize nth f.Zm1 k = t
  have hi:=Ey ([t.Zw,t.Zx,t.Zy,t.Za1] : List Int) (fun (v : Int×Int) => Ek (([t.Zw,t.Zx,t.Zy,t.Za1] : List Int).length : Int) [t.Zw,t.Zx,t.Zy,t.Za1] v.1 v.2) (fun k b => (k,E1 b)) (fun b n => b || !(decide (0≤n) && decide (n≤1000000))) E1 b (by simp) (fun k b hk => ?_) (fun b => ?_)
  ·rw [J0] at hi
   rw [hi]
   simp only [As,Aa9,Ad5,Aix]
   have e : (b || ([t.Zw,t.Zx,t.Zy,t.Za1] : List Int).any (fun n => !(decide (0≤n) && decide (n≤1000000))) || !((decide (0≤t.Zz) && decide (t.Zz≤7)) && ((decide (1≤t.Zc1) && decide (t.Zc1≤1073741824)) && (decide (0≤t.Zd1) && decide (t.Zd1≤100))))) = (b || !Ss t):=by
    unfold Ss F5
    simp only [Yy,As,Eu,Option.getD_some,List.any_cons,List.any_nil,Bool.or_false]
    rw [Bool.or_assoc]
    congr 1
    simp only [Bool.not_and,Bool.or_assoc]
   rw [e]
  ·simp only
   unfold Ek
   rw [if_pos (by simp;simp at hk;omega),if_pos (Cp hk)]
   simp only [Aa9,As,Ad5,Int.toNat_natCast,Ft (k:=k) (by simp at hk;omega)]
  ·simp only
   unfold Ek
   rw [if_neg (by simp)]
 ·simp only
  unfold D1
  rw [if_neg (by simp)]
theorem Aam (b0 : Bool) (hl : f.Zn1.length≤4096) (ht : f.Zm1.length≤4096) : A6 (fun (v : Int×Int) => Dt f v.1 v.2) (0,E1 b0) = some (E1 (b0 || !(f.Zn1.all (M3 (f.Zm1.length : Int))))):=by
 have h:=Ey f.Zn1 (fun (v : Int×Int) => Dt f v.1 v.2) (fun k b => (k,E1 b)) (fun b t => b || !M3 (f.Zm1.length : Int) t) E1 b0 (by omega) (fun k b hk => ?_) (fun b => ?_)
 ·rw [J0,AaH] at h;exact h
 ·simp only
  unfold Dt
  rw [if_pos (by simp;omega),if_pos (Cp hk)]
  simp only [Ca,Int.toNat_natCast,Ft (k:=k) (by omega),Aa9,As,Ad5,Aix]
  generalize nth f.Zn1 k = t
  have e : ∀ a c d e g : Bool,(b || !(a && (c && d)) || !(e && g)) = (b || !(a && (c && (d && (e && g))))):=by intro a c d e g;cases a <;> cases b <;> cases c <;> cases d <;> cases e <;> cases g <;> rfl
  rw [e]
  unfold M3 Fi
  simp only [Yy,As,Eu,Option.getD_some]
 ·simp only
  unfold Dt
  rw [if_neg (by simp)]
theorem AdG (b0 : Bool) (hl : f.Zo1.length≤4096) (ht : f.Zm1.length≤4096) : A6 (fun (v : Int×Int) => Du f v.1 v.2) (0,E1 b0) = some (E1 (b0 || !(f.Zo1.all (V1 (f.Zm1.length : Int))))):=by
 have hw : w64 ((f.Zm1.length : Int) - 1) = (f.Zm1.length : Int) - 1:=Gl (by omega)
 have h:=Ey f.Zo1 (fun (v : Int×Int) => Du f v.1 v.2) (fun k b => (k,E1 b)) (fun b t => b || !V1 (f.Zm1.length : Int) t) E1 b0 (by omega) (fun k b hk => ?_) (fun b => ?_)
 ·rw [J0,AaH] at h;exact h
 ·simp only
  unfold Du
  rw [if_pos (by simp;omega),if_pos (Cp hk)]
  simp only [Ca,Int.toNat_natCast,Ft (k:=k) (by omega),Aa9,As,Ad5,Aix,hw]
  rfl
 ·simp only
  unfold Du
  rw [if_neg (by simp)]
theorem AeZ (hl : f.Zm1.length≤4096) : A6 (fun (v : Int) => Hh f v) 0 = some (if f.Zm1.all Ss = true then .inl () else .inr (.inr 1)):=by
 refine Do f.Zm1 (Hh f) Ss _ _ (by omega) (fun k hk => ?_) ?_
 ·unfold Hh
  rw [if_pos (by simp;omega),if_pos (Cp hk)]
  simp only [Int.toNat_natCast,Ft (k:=k) (by omega),AlQ,As]
  cases Ss (nth f.Zm1 k) <;> rfl
 ·unfold Hh;rw [if_neg (by simp)]
theorem Ada (hl : f.Zn1.length≤4096) : A6 (fun (v : Int) => He f v) 0 = some (if f.Zn1.all (M3 (f.Zm1.length : Int)) = true then .inl () else .inr (.inr 1)):=by
 refine Do f.Zn1 (He f) (M3 (f.Zm1.length : Int)) _ _ (by omega) (fun k hk => ?_) ?_
 ·unfold He
  rw [if_pos (by simp;omega),if_pos (Cp hk)]
  simp only [Int.toNat_natCast,Ft (k:=k) (by omega),Aji,As]
  cases M3 (f.Zm1.length : Int) (nth f.Zn1 k) <;> rfl
 ·unfold He;rw [if_neg (by simp)]
theorem Aeh (hl : f.Zo1.length≤4096) (ht : f.Zm1.length≤4096) : A6 (fun (v : Int) => G8 f v) 0 = some (if f.Zo1.all (V1 (f.Zm1.length : Int)) = true then .inl () else .inr (.inr 1)):=by
 have hw : w64 ((f.Zm1.length : Int) - 1) = (f.Zm1.length : Int) - 1:=Gl (by omega)
 refine Do f.Zo1 (G8 f) (V1 (f.Zm1.length : Int)) _ _ (by omega) (fun k hk => ?_) ?_
 ·unfold G8
  rw [if_pos (by simp;omega),if_pos (Cp hk)]
  simp only [Ca,Int.toNat_natCast,Ft (k:=k) (by omega),Yy,As,M9,hw]
  generalize nth f.Zo1 k = s
  have e : (!(decide (0≤s.Zj1) && decide (s.Zj1≤(f.Zm1.length : Int) - 1)) || (!(decide (0≤s.Zk1) && decide (s.Zk1≤(f.Zm1.length : Int) - 1)) || ((s.Zj1 == s.Zk1) || !(decide (0≤s.Zl1) && decide (s.Zl1≤1000000000))))) = !V1 (f.Zm1.length : Int) s:=by
   unfold V1
   simp only [Bool.not_and,bne,Bool.not_not]
  rw [e]
  cases V1 (f.Zm1.length : Int) s <;> rfl
 ·unfold G8;rw [if_neg (by simp)]
def Hx (s : Bool×Arr Bool 4096) (w : Api_Wash) : Bool×Arr Bool 4096:=if Vq w = true then (s.1 || s.2.get (washK w),s.2.set (washK w) true) else (true,s.2)
theorem AhU (b c : Bool) (g : Arr Bool 4096) (w : Api_Wash) : Hx (b || c,g) w = (b || (Hx (c,g) w).1,(Hx (c,g) w).2):=by
 unfold Hx;split <;> simp [Bool.or_assoc]
theorem Acp (l : List Api_Wash) : ∀ (b c : Bool) (g : Arr Bool 4096),(l.foldl Hx (b || c,g)).1 = (b || (l.foldl Hx (c,g)).1):=by
  induction l with
  | nil => intro b c g;rfl
  | cons w l ih =>
    intro b c g
    rw [List.foldl_cons,List.foldl_cons,AhU]
    generalize Hx (c,g) w = s
    obtain ⟨d,g'⟩:=s
    exact ih b d g'
theorem Xw (l : List Api_Wash) (g : Arr Bool 4096) : (l.foldl Hx (true,g)).1 = true:=by
 have:=Acp l true false g
 simpa using this
theorem Ah0 {w : Api_Wash} (h : Vq w = true) : washK w < 4096:=by have:=Ws h;unfold washK;omega
theorem AaM (b0 : Bool) (g0 : Arr Bool 4096) (hl : f.Zp1.length≤4096) : A6 (fun (v : Int×Int×Arr Bool 4096) => D2 f v.1 v.2.1 v.2.2) (0,E1 b0,g0) = some (E1 (f.Zp1.foldl Hx (b0,g0)).1):=by
 refine Ey f.Zp1 (fun (v : Int×Int×Arr Bool 4096) => D2 f v.1 v.2.1 v.2.2) (fun k s => (k,E1 s.1,s.2)) Hx (fun s => E1 s.1) (b0,g0) (by omega) (fun k s hk => ?_) (fun s => ?_)
 ·obtain ⟨b,g⟩:=s
  simp only
  unfold D2
  rw [if_pos (by simp;omega),if_pos (Cp hk)]
  simp only [Ca,Int.toNat_natCast,Ft (k:=k) (by omega),Aa9,As,Eu,Ad5]
  generalize nth f.Zp1 k = w
  rw [show ((decide (0≤w.Zi) && decide (w.Zi≤63)) && ((decide (0≤w.To) && decide (w.To≤63)) && ((w.Zi != w.To) && (decide (0≤w.Zt) && decide (w.Zt≤100000))))) = Vq w from rfl]
  unfold Hx
  by_cases h : Vq w = true
  ·have hr:=Ws h
   rw [if_pos h,if_pos h,if_pos (show InR w.Zi 64 by unfold InR;omega),if_pos (show InR w.To 64 by unfold InR;omega)]
   simp only [h,As,Bool.not_true,Bool.or_false,Bool.not_not,show A7 (!(g.get (w.Zi.toNat * 64 + w.To.toNat))) (E1 b) = some (E1 (b || !(!(g.get (w.Zi.toNat * 64 + w.To.toNat))))) from Ad5 _ _]
   rw [if_pos (show InR w.Zi 64 by unfold InR;omega),if_pos (show InR w.To 64 by unfold InR;omega),As]
   rfl
  ·rw [if_neg h,if_neg h]
   simp only [Bool.not_eq_true] at h
   simp only [h,As,Bool.not_false,Bool.or_true]
 ·simp only
  unfold D2
  rw [if_neg (by simp)]
theorem AdQ (l : List Api_Wash) (hl : l.length≤4096) : P3 l = some (E1 (l.foldl Hx (false,Arr.rep 4096 false)).1):=by
 unfold P3
 rw [if_pos (by unfold Mk maxLen Ny;omega),Ca]
 obtain ⟨x,hx,hq⟩ : ∃ x,A6 (fun (v : Int×List Bool) => Ks l v.1 v.2) (0,List.replicate 4096 false) = some x∧x = (if (l.foldl Hx (false,Arr.rep 4096 false)).1 = true then .inr (.inr 1) else .inl ()):=by
  refine E8 (fun v => ∃ (k : Nat) (g : Arr Bool 4096),v = ((k : Int),g.l)∧k≤l.length∧(l.take k).foldl Hx (false,Arr.rep 4096 false) = (false,g)) (fun v => ((l.length : Int) - v.1).toNat) _ ?_ ⟨0,Arr.rep 4096 false,rfl,Nat.zero_le _,rfl⟩ (by simp;omega)
  rintro v ⟨k,g,rfl,hk,hf⟩
  simp only
  unfold Ks
  by_cases h1 : k < l.length
  ·rw [if_pos (by simp;omega),if_pos (Cp h1)]
   have hn : nth l k = l[k]:=by simp [nth,h1]
   have hstep : l.foldl Hx (false,Arr.rep 4096 false) = (l.drop (k + 1)).foldl Hx (Hx (false,g) (nth l k)):=by
    conv => lhs;rw [← List.take_append_drop (k + 1) l,List.foldl_append,List.take_succ_eq_append_getElem h1,List.foldl_append,hf]
    rw [hn];rfl
   simp only [Ca,Int.toNat_natCast,Ft (k:=k) (by omega),Yy,As,M9]
   generalize nth l k = w at *
   have e : (!(decide (0≤w.Zi) && decide (w.Zi≤63)) || (!(decide (0≤w.To) && decide (w.To≤63)) || ((w.Zi == w.To) || !(decide (0≤w.Zt) && decide (w.Zt≤100000))))) = !Vq w:=by
    unfold Vq
    simp only [Bool.not_and,bne,Bool.not_not]
   rw [e]
   by_cases h : Vq w = true
   ·have hr:=Ws h
    have hkey : w64 (w64 (64 * w.Zi) + w.To) = ((washK w : Nat) : Int):=by
     rw [Gl (x:=64 * w.Zi) (by omega),Gl (by omega)];unfold washK;omega
    rw [if_neg (by simp [h]),hkey,if_pos (by rw [g.h];exact Cp (Ah0 h))]
    simp only [Int.toNat_natCast]
    have hG : Hx (false,g) w = (g.get (washK w),g.set (washK w) true):=by unfold Hx;rw [if_pos h];simp
    by_cases hs : nth g.l (washK w) = true
    ·right
     rw [if_pos hs]
     refine ⟨_,rfl,?_⟩
     rw [hstep,hG,show g.get (washK w) = true from hs,Xw]
     rfl
    ·left
     rw [if_neg hs,if_pos (by rw [g.h];exact Cp (Ah0 h))]
     refine ⟨_,rfl,⟨k + 1,g.set (washK w) true,rfl,by omega,?_⟩,by simp only;omega⟩
     rw [List.take_succ_eq_append_getElem h1,List.foldl_append,hf,← hn]
     show Hx (false,g) w = _
     rw [hG,show g.get (washK w) = false from (Bool.not_eq_true _).mp hs]
   ·right
    rw [if_pos (by simpa using h)]
    refine ⟨_,rfl,?_⟩
    have hG : Hx (false,g) w = (true,g):=by unfold Hx;rw [if_neg h]
    rw [hstep,hG,Xw]
    rfl
  ·right
   have : k = l.length:=by omega
   subst this
   rw [if_neg (by simp)]
   rw [List.take_length] at hf
   exact ⟨_,rfl,by rw [hf];rfl⟩
 rw [hx,hq]
 cases (l.foldl Hx (false,Arr.rep 4096 false)).1 <;> rfl
theorem Ag7 (h1 : f.Zm1.length≤4096) (h2 : f.Zn1.length≤4096) (h3 : f.Zo1.length≤4096) (h4 : f.Zp1.length≤4096) : ∃ e,Im f = some e∧Sf f = some e:=by
 unfold Im Sf
 simp only [M9,As]
 rw [Ac3 f h1]
 simp only [As]
 rw [Aam f _ h2 h1]
 simp only [As]
 rw [AdG f _ h3 h1]
 simp only [As]
 rw [AaM f _ _ h4]
 simp only [As]
 rw [AeZ f h1,Ada f h2,Aeh f h3 h1,AdQ _ h4]
 split
 ·exact ⟨_,rfl,rfl⟩
 ·have hF:=Acp f.Zp1 (!f.Zm1.all Ss || !f.Zn1.all (M3 (f.Zm1.length : Int)) || !f.Zo1.all (V1 (f.Zm1.length : Int))) false (Arr.rep 4096 false)
  rw [Bool.or_false] at hF
  rw [hF]
  refine ⟨_,rfl,?_⟩
  generalize (f.Zp1.foldl Hx (false,Arr.rep 4096 false)).1 = z
  cases f.Zm1.all Ss <;> cases f.Zn1.all (M3 (f.Zm1.length : Int)) <;> cases f.Zo1.all (V1 (f.Zm1.length : Int)) <;> cases z <;> rfl
end
structure Few (p : Api_Pool) : Prop where
 places : p.Zs1.Zu.length≤4096
 edges : p.Zs1.Zv.length≤4096
 types : p.Zt1.Zm1.length≤4096
 wagons : p.Zt1.Zn1.length≤4096
 swaps : p.Zt1.Zo1.length≤4096
 washes : p.Zt1.Zp1.length≤4096
 readers : p.Zu1.length≤4096
 shippers : p.Zv1.length≤4096
 railways : p.Zw1.length≤4096
 days : ∀ k,k < p.Zw1.length→(nth p.Zw1 k).Zr1.Zs.length≤1000000
def Aif (c : Api_Calendar) : Int:=(J7 c).getD 0
theorem Arf {c : Api_Calendar} (hl : c.Zs.length≤1000000) : Dy c = some (Aif c):=by
 obtain ⟨e,h1,h2⟩:=Aii c hl
 rw [h1];unfold Aif;rw [h2];rfl
theorem Aqu {c : Api_Calendar} (hl : c.Zs.length≤1000000) : J7 c = some (Aif c):=by
 obtain ⟨e,h1,h2⟩:=Aii c hl
 unfold Aif;rw [h2];rfl
def Ak3 (x : UInt64) : Bool:=(Lg x).getD false
theorem Ap0 (x : UInt64) : H7 x = some (Ak3 x):=by
 obtain ⟨e,h1,h2⟩:=AcI x
 rw [h1];unfold Ak3;rw [h2];rfl
theorem ArR (x : UInt64) : Lg x = some (Ak3 x):=by
 obtain ⟨e,h1,h2⟩:=AcI x
 unfold Ak3;rw [h2];rfl
def K4 (n : Int) (r : Api_Reader) : Bool:=!(decide (0≤r.Zf) && decide (r.Zf≤n - 1)) || (decide (r.Low < -1000) || (decide (r.Low > r.Zq1) || decide (r.Zq1 > 1000)))
def Wv (p : Api_Pool) (s : Api_Shipper) : Bool:=if 0≤s.Zf∧s.Zf < (p.Zs1.Zu.length : Int) then (nth p.Zs1.Zu s.Zf.toNat).Zb != 4 else true
def Vr (n : Int) (w : Api_Wagon) : Bool:=decide (w.Zg1 ≥ n)
def N0 (n : Int) (x : Api_Place) : Bool:=decide (x.Za ≥ n) || decide (x.Zg ≥ n)
def Wn (n : Int) (x : Api_Edge) : Bool:=decide (x.Za ≥ n)
def Abw (r : Api_RailwayInfo) : Bool:=(Aif r.Zr1 != 0) || !Ak3 r.Key
section
variable {p : Api_Pool} (h : Few p)
include h
theorem p1 (b0 : Bool) : A6 (fun (v : Bool×Int) => Cm p v.1 v.2) (b0,0) = some (b0 || p.Zu1.any (K4 (p.Zs1.Zu.length : Int))):=by
 have hh:=h.readers
 have hp:=h.places
 have hw : w64 ((p.Zs1.Zu.length : Int) - 1) = (p.Zs1.Zu.length : Int) - 1:=Gl (by omega)
 have:=Ey p.Zu1 (fun (v : Bool×Int) => Cm p v.1 v.2) (fun k b => (b,k)) (fun b t => b || K4 (p.Zs1.Zu.length : Int) t) id b0 (by omega) (fun k b hk => ?_) (fun b => ?_)
 ·rw [J0] at this;exact this
 ·simp only
  unfold Cm
  rw [if_pos (by simp;omega),if_pos (Cp hk)]
  simp only [Ca,Int.toNat_natCast,Ft (k:=k) (by omega),Aa9,As,M9,hw]
  rfl
 ·simp only
  unfold Cm
  rw [if_neg (by simp)];rfl
theorem p2 (b0 : Bool) : A6 (fun (v : Bool×Int) => Cn p v.1 v.2) (b0,0) = some (b0 || p.Zv1.any (Wv p)):=by
 have hh:=h.shippers
 have hp:=h.places
 have hw : w64 ((p.Zs1.Zu.length : Int) - 1) = (p.Zs1.Zu.length : Int) - 1:=Gl (by omega)
 have:=Ey p.Zv1 (fun (v : Bool×Int) => Cn p v.1 v.2) (fun k b => (b,k)) (fun b t => b || Wv p t) id b0 (by omega) (fun k b hk => ?_) (fun b => ?_)
 ·rw [J0] at this;exact this
 ·simp only
  unfold Cn
  rw [if_pos (by simp;omega),if_pos (Cp hk)]
  simp only [Ca,Int.toNat_natCast,Ft (k:=k) (by omega),Aa9,As,hw]
  generalize nth p.Zv1 k = s
  unfold Wv
  cases b
  ·rw [if_neg (by simp)]
   by_cases hq : 0≤s.Zf∧s.Zf < (p.Zs1.Zu.length : Int)
   ·rw [if_neg (by simp;omega),if_pos (show InR s.Zf p.Zs1.Zu.length by unfold InR;omega),As,if_pos hq];rfl
   ·rw [if_pos (by simp;omega),As,if_neg hq];rfl
  ·rw [if_pos rfl,As];rfl
 ·simp only
  unfold Cn
  rw [if_neg (by simp)];rfl
theorem p3 (b0 : Bool) : A6 (fun (v : Bool×Int) => Cq p v.1 v.2) (b0,0) = some (b0 || p.Zt1.Zn1.any (Vr (p.Zs1.Zu.length : Int))):=by
 have hh:=h.wagons
 have:=Ey p.Zt1.Zn1 (fun (v : Bool×Int) => Cq p v.1 v.2) (fun k b => (b,k)) (fun b t => b || Vr (p.Zs1.Zu.length : Int) t) id b0 (by omega) (fun k b hk => ?_) (fun b => ?_)
 ·rw [J0] at this;exact this
 ·simp only
  unfold Cq
  rw [if_pos (by simp;omega),if_pos (Cp hk)]
  simp only [Ca,Int.toNat_natCast,Ft (k:=k) (by omega),As,M9]
  rfl
 ·simp only
  unfold Cq
  rw [if_neg (by simp)];rfl
theorem p4 (n : Int) (b0 : Bool) : A6 (fun (v : Bool×Int) => Cl p n v.1 v.2) (b0,0) = some (b0 || p.Zs1.Zu.any (N0 n)):=by
 have hh:=h.places
 have:=Ey p.Zs1.Zu (fun (v : Bool×Int) => Cl p n v.1 v.2) (fun k b => (b,k)) (fun b t => b || N0 n t) id b0 (by omega) (fun k b hk => ?_) (fun b => ?_)
 ·rw [J0] at this;exact this
 ·simp only
  unfold Cl
  rw [if_pos (by simp;omega),if_pos (Cp hk)]
  simp only [Ca,Int.toNat_natCast,Ft (k:=k) (by omega),As,M9]
  rfl
 ·simp only
  unfold Cl
  rw [if_neg (by simp)];rfl
theorem p5 (n : Int) (b0 : Bool) : A6 (fun (v : Bool×Int) => Ci p n v.1 v.2) (b0,0) = some (b0 || p.Zs1.Zv.any (Wn n)):=by
 have hh:=h.edges
 have:=Ey p.Zs1.Zv (fun (v : Bool×Int) => Ci p n v.1 v.2) (fun k b => (b,k)) (fun b t => b || Wn n t) id b0 (by omega) (fun k b hk => ?_) (fun b => ?_)
 ·rw [J0] at this;exact this
 ·simp only
  unfold Ci
  rw [if_pos (by simp;omega),if_pos (Cp hk)]
  simp only [Ca,Int.toNat_natCast,Ft (k:=k) (by omega),As,M9]
  rfl
 ·simp only
  unfold Ci
  rw [if_neg (by simp)];rfl
theorem p6 (b0 : Bool) : A6 (fun (v : Bool×Int) => Cj p v.1 v.2) (b0,0) = some (b0 || p.Zw1.any Abw):=by
 have hh:=h.railways
 have:=Ey p.Zw1 (fun (v : Bool×Int) => Cj p v.1 v.2) (fun k b => (b,k)) (fun b t => b || Abw t) id b0 (by omega) (fun k b hk => ?_) (fun b => ?_)
 ·rw [J0] at this;exact this
 ·simp only
  unfold Cj
  rw [if_pos (by simp;omega),if_pos (Cp hk)]
  simp only [Ca,Int.toNat_natCast,Ft (k:=k) (by omega)]
  have hc:=Arf (h.days k hk)
  generalize nth p.Zw1 k = r at *
  rw [show Dy _ = some (Aif r.Zr1) from hc]
  simp only [Ap0,As,M9]
  rfl
 ·simp only
  unfold Cj
  rw [if_neg (by simp)];rfl
theorem r1 (n : Int) (hn : n = (p.Zs1.Zu.length : Int)) : A6 (fun (v : Int) => Ie p n v) 0 = some (if p.Zu1.all (fun x => !K4 n x) = true then .inl () else .inr (.inr false)):=by
 have hh:=h.readers
 have hp:=h.places
 have hw : w64 (n - 1) = n - 1:=Gl (by omega)
 refine Do p.Zu1 (Ie p n) (fun x => !K4 n x) _ _ (by omega) (fun k hk => ?_) ?_
 ·unfold Ie
  rw [if_pos (by simp;omega),if_pos (Cp hk)]
  simp only [Ca,Int.toNat_natCast,Ft (k:=k) (by omega),Yy,As,M9,hw]
  generalize nth p.Zu1 k = r
  rw [show (!(decide (0≤r.Zf) && decide (r.Zf≤n - 1)) || (decide (r.Low < -1000) || (decide (r.Zq1 < r.Low) || decide (r.Zq1 > 1000)))) = K4 n r from rfl]
  cases K4 n r <;> rfl
 ·unfold Ie;rw [if_neg (by simp)]
theorem r2 : A6 (fun (v : Int) => Il p (p.Zs1.Zu.length : Int) v) 0 = some (if p.Zv1.all (fun x => !Wv p x) = true then .inl () else .inr (.inr false)):=by
 have hh:=h.shippers
 have hp:=h.places
 have hw : w64 ((p.Zs1.Zu.length : Int) - 1) = (p.Zs1.Zu.length : Int) - 1:=Gl (by omega)
 refine Do p.Zv1 (Il p (p.Zs1.Zu.length : Int)) (fun x => !Wv p x) _ _ (by omega) (fun k hk => ?_) ?_
 ·unfold Il
  rw [if_pos (by simp;omega),if_pos (Cp hk)]
  simp only [Ca,Int.toNat_natCast,Ft (k:=k) (by omega),Yy,As,hw]
  rw [if_pos (Cp hk)]
  generalize nth p.Zv1 k = s
  unfold Wv
  by_cases hq : 0≤s.Zf∧s.Zf < (p.Zs1.Zu.length : Int)
  ·rw [if_neg (by simp;omega),if_pos (show InR s.Zf p.Zs1.Zu.length by unfold InR;omega),As,if_pos hq]
   cases (nth p.Zs1.Zu s.Zf.toNat).Zb != 4 <;> rfl
  ·rw [if_pos (by simp;omega),As,if_neg hq];rfl
 ·unfold Il;rw [if_neg (by simp)]
theorem r3 (n : Int) : A6 (fun (v : Int) => Iw p n v) 0 = some (if p.Zt1.Zn1.all (fun x => !Vr n x) = true then .inl () else .inr (.inr false)):=by
 have hh:=h.wagons
 refine Do p.Zt1.Zn1 (Iw p n) (fun x => !Vr n x) _ _ (by omega) (fun k hk => ?_) ?_
 ·unfold Iw
  rw [if_pos (by simp;omega),if_pos (Cp hk)]
  simp only [Ca,Int.toNat_natCast,Ft (k:=k) (by omega)]
  rw [show decide ((nth p.Zt1.Zn1 k).Zg1 ≥ n) = Vr n (nth p.Zt1.Zn1 k) from rfl]
  cases Vr n (nth p.Zt1.Zn1 k) <;> rfl
 ·unfold Iw;rw [if_neg (by simp)]
theorem r4 (n : Int) : A6 (fun (v : Int) => Hf p n v) 0 = some (if p.Zs1.Zu.all (fun x => !N0 n x) = true then .inl () else .inr (.inr false)):=by
 have hh:=h.places
 refine Do p.Zs1.Zu (Hf p n) (fun x => !N0 n x) _ _ (by omega) (fun k hk => ?_) ?_
 ·unfold Hf
  rw [if_pos (by simp;omega),if_pos (Cp hk)]
  simp only [Ca,Int.toNat_natCast,Ft (k:=k) (by omega),M9,As]
  generalize nth p.Zs1.Zu k = w
  rw [show (decide (w.Za ≥ n) || decide (w.Zg ≥ n)) = N0 n w from rfl]
  cases N0 n w <;> rfl
 ·unfold Hf;rw [if_neg (by simp)]
theorem r5 (n : Int) : A6 (fun (v : Int) => Hd p n v) 0 = some (if p.Zs1.Zv.all (fun x => !Wn n x) = true then .inl () else .inr (.inr false)):=by
 have hh:=h.edges
 refine Do p.Zs1.Zv (Hd p n) (fun x => !Wn n x) _ _ (by omega) (fun k hk => ?_) ?_
 ·unfold Hd
  rw [if_pos (by simp;omega),if_pos (Cp hk)]
  simp only [Ca,Int.toNat_natCast,Ft (k:=k) (by omega)]
  rw [show decide ((nth p.Zs1.Zv k).Za ≥ n) = Wn n (nth p.Zs1.Zv k) from rfl]
  cases Wn n (nth p.Zs1.Zv k) <;> rfl
 ·unfold Hd;rw [if_neg (by simp)]
theorem r6 : A6 (fun (v : Int) => Ei p v) 0 = some (if p.Zw1.all (fun x => !Abw x) = true then .inl () else .inr (.inr 1)):=by
 have hh:=h.railways
 refine Do p.Zw1 (Ei p) (fun x => !Abw x) _ _ (by omega) (fun k hk => ?_) ?_
 ·unfold Ei
  rw [if_pos (by simp;omega),if_pos (Cp hk)]
  simp only [Ca,Int.toNat_natCast,Ft (k:=k) (by omega)]
  have hc:=Aqu (h.days k hk)
  rw [if_pos (Cp hk)]
  generalize nth p.Zw1 k = r at *
  rw [show J7 _ = some (Aif r.Zr1) from hc]
  simp only [ArR,As,M9]
  rw [show ((Aif r.Zr1 != 0) || !Ak3 r.Key) = Abw r from rfl]
  cases Abw r <;> rfl
 ·unfold Ei;rw [if_neg (by simp)]
theorem AjM : V4 p = some (!(p.Zu1.any (K4 (p.Zs1.Zu.length : Int)) || (p.Zv1.any (Wv p) || p.Zt1.Zn1.any (Vr (p.Zs1.Zu.length : Int))))):=by
 unfold V4
 rw [Ca,r1 h _ rfl,r2 h,r3 h]
 simp only [As,← Bool.not_eq_true',← List.not_any_eq_all_not]
 cases p.Zu1.any (K4 (p.Zs1.Zu.length : Int)) <;> cases p.Zv1.any (Wv p) <;> cases p.Zt1.Zn1.any (Vr (p.Zs1.Zu.length : Int)) <;> rfl
theorem AgX : Rz p = some (!(p.Zs1.Zu.any (N0 (p.Zw1.length : Int)) || p.Zs1.Zv.any (Wn (p.Zw1.length : Int)))):=by
 unfold Rz
 rw [Ca,r4 h,r5 h]
 simp only [As,← List.not_any_eq_all_not]
 cases p.Zs1.Zu.any (N0 (p.Zw1.length : Int)) <;> cases p.Zs1.Zv.any (Wn (p.Zw1.length : Int)) <;> rfl
theorem Ajk : ∃ e,Ea p = some e∧Ky p = some e∧(e = 0→p.Zs1.Zu.all Hv = true):=by
 obtain ⟨e1,n1,n2,n3⟩:=Amz p.Zs1 h.places h.edges
 obtain ⟨e2,f1,f2⟩:=Ag7 p.Zt1 h.types h.wagons h.swaps h.washes
 unfold Ea Ky
 rw [n1,n2,f1,f2]
 simp only [As,Ca,M9]
 rw [AjM h,AgX h,r6 h,p1 h]
 simp only [As]
 rw [p2 h]
 simp only [As]
 rw [p3 h]
 simp only [As]
 rw [p4 h]
 simp only [As]
 rw [p5 h]
 simp only [As]
 rw [p6 h]
 simp only [As,M9,Bool.not_not,← List.not_any_eq_all_not]
 split
 ·rename_i q1
  exact ⟨_,rfl,rfl,fun e => by subst e;exact absurd q1 (by decide)⟩
 rename_i q1
 have q0 : e1 = 0:=by simpa using q1
 have hall:=n3 q0
 split
 ·exact ⟨_,rfl,rfl,fun _ => hall⟩
 split
 ·exact ⟨_,rfl,rfl,fun _ => hall⟩
 ·generalize ((p.Zw1.length : Int) == 0) = z
  cases z <;> cases p.Zu1.any (K4 (p.Zs1.Zu.length : Int)) <;> cases p.Zv1.any (Wv p) <;> cases p.Zt1.Zn1.any (Vr (p.Zs1.Zu.length : Int)) <;> cases p.Zs1.Zu.any (N0 (p.Zw1.length : Int)) <;> cases p.Zs1.Zv.any (Wn (p.Zw1.length : Int)) <;> cases p.Zw1.any Abw <;> exact ⟨_,rfl,rfl,fun _ => hall⟩
end
theorem Oc (n lo hi : Int) : A4 n lo hi = some (decide (lo≤n) && decide (n≤hi)):=by
 unfold A4;by_cases h : lo≤n <;> simp [h]
theorem AoV (c : Edi_checker) (lo hi : Int) : Cy c lo hi = some { c with it:={ c.it with Ze:=0 },ok:=c.ok && (decide (lo≤c.it.Ze) && decide (c.it.Ze≤hi)) }:=by
 unfold Cy
 simp only [Eu,As]
theorem Aog (c : Edi_checker) (lo hi : Int) : B2 c lo hi = some { c with it:={ c.it with Zg:=0 },ok:=c.ok && (decide (lo≤c.it.Zg) && decide (c.it.Zg≤hi)) }:=by
 unfold B2
 simp only [Eu,As]
theorem Ant (c : Edi_checker) (lo hi : Int) : B3 c lo hi = some { c with it:={ c.it with Zh:=0 },ok:=c.ok && (decide (lo≤c.it.Zh) && decide (c.it.Zh≤hi)) }:=by
 unfold B3
 simp only [Eu,As]
theorem Amq (c : Edi_checker) (lo hi : Int) : Cx c lo hi = some { c with it:={ c.it with Zi:=0 },ok:=c.ok && (decide (lo≤c.it.Zi) && decide (c.it.Zi≤hi)) }:=by
 unfold Cx
 simp only [Eu,As]
theorem AmO (c : Edi_checker) (lo hi : Int) : C2 c lo hi = some { c with it:={ c.it with To:=0 },ok:=c.ok && (decide (lo≤c.it.To) && decide (c.it.To≤hi)) }:=by
 unfold C2
 simp only [Eu,As]
theorem AlY (c : Edi_checker) (lo hi : Int) : Bi c lo hi = some { c with it:={ c.it with Code:=0 },ok:=c.ok && (decide (lo≤c.it.Code) && decide (c.it.Code≤hi)) }:=by
 unfold Bi
 simp only [Eu,As]
theorem AmN (c : Edi_checker) (lo hi : Int) : C3 c lo hi = some { c with it:={ c.it with Zj:=0 },ok:=c.ok && (decide (lo≤c.it.Zj) && decide (c.it.Zj≤hi)) }:=by
 unfold C3
 simp only [Eu,As]
theorem Anr (c : Edi_checker) (lo hi : Int) : Cz c lo hi = some { c with it:={ c.it with Zk:=0 },ok:=c.ok && (decide (lo≤c.it.Zk) && decide (c.it.Zk≤hi)) }:=by
 unfold Cz
 simp only [Eu,As]
theorem AnW (c : Edi_checker) (lo hi : Int) : Ce c lo hi = some { c with it:={ c.it with Zl:=0 },ok:=c.ok && (decide (lo≤c.it.Zl) && decide (c.it.Zl≤hi)) }:=by
 unfold Ce
 simp only [Eu,As]
theorem AlM (c : Edi_checker) (lo hi : Int) : Cg c lo hi = some { c with it:={ c.it with Zm:=0 },ok:=c.ok && (decide (lo≤c.it.Zm) && decide (c.it.Zm≤hi)) }:=by
 unfold Cg
 simp only [Eu,As]
def F6 (p : Api_Pool) (i : Int) : Api_Place:=if 0≤i∧i < (p.Zs1.Zu.length : Int) then nth p.Zs1.Zu i.toNat else ⟨0,0,0⟩
theorem AoW (c : Edi_checker) (kind : Int) : Bt c kind = some (F6 c.p c.it.Zf,{ c with it:={ c.it with Zf:=0 },ok:=c.ok && ((F6 c.p c.it.Zf).Zb != 0 && ((kind == 0) || ((F6 c.p c.it.Zf).Zb == kind))) }):=by
 unfold Bt F6
 by_cases h : 0≤c.it.Zf∧c.it.Zf < (c.p.Zs1.Zu.length : Int)
 ·have e : (decide (c.it.Zf ≥ 0) && decide (c.it.Zf < (c.p.Zs1.Zu.length : Int))) = true:=by simp;omega
  simp only [Eu,As,e,if_true]
  rw [if_pos (show InR c.it.Zf c.p.Zs1.Zu.length by unfold InR;omega),if_pos h]
  simp only [Ca,As,Eu,M9]
 ·have e : (decide (c.it.Zf ≥ 0) && decide (c.it.Zf < (c.p.Zs1.Zu.length : Int))) = false:=by
   rw [Bool.eq_false_iff];simp;omega
  simp only [Eu,As,e,Bool.false_eq_true,if_false]
  rw [if_neg h]
  simp only [As,Eu,M9]
def Lc (fit : Bool) (x : Api_Part) : Bool:=(decide (1≤x.Zb) && decide (x.Zb≤3)) && ((decide (0≤x.Zc) && decide (x.Zc≤1073741824)) && !(x.Zd && !fit))
theorem Ajo (l : List Api_Part) (fit : Bool) (hl : l.length≤1000000) : Ka l fit = some (l.all (Lc fit) && decide ((l.length : Int)≤16)):=by
 have h : A6 (fun (v : Int) => Ex l fit v) 0 = some (if l.all (Lc fit) = true then .inl () else .inr (.inr false)):=by
  refine Do l (Ex l fit) (Lc fit) _ _ (by omega) (fun k hk => ?_) ?_
  ·unfold Ex
   rw [if_pos (by simp;omega),if_pos (Cp hk)]
   simp only [Ca,Int.toNat_natCast,Ft (k:=k) (by omega),M9,Eu,As]
   generalize nth l k = x
   have e : (decide (x.Zb < 1) || (decide (x.Zb > 3) || (decide (x.Zc < 0) || (decide (x.Zc > 1073741824) || (x.Zd && !fit))))) = !Lc fit x:=by
    unfold Lc
    rw [Bool.eq_iff_iff]
    cases x.Zd <;> cases fit <;> simp <;> omega
   rw [e]
   cases Lc fit x <;> rfl
  ·unfold Ex;rw [if_neg (by simp)]
 unfold Ka
 rw [h]
 simp only [As]
 cases l.all (Lc fit) <;> rfl
theorem AjB (it : Api_Item) (hl : it.Zo.length≤1000000) : Tp it = some (!(decide ((it.Zo.length : Int) > 16) || ((it.Zb == 10) && ((it.Zo.length : Int) == 0))) && it.Zo.all (Lc (!(it.Zb == 10)))):=by
 have h : A6 (fun (v : Int) => Hm it v) 0 = some (if it.Zo.all (Lc (!(it.Zb == 10))) = true then .inl () else .inr (.inr false)):=by
  refine Do it.Zo (Hm it) (Lc (!(it.Zb == 10))) _ _ (by omega) (fun k hk => ?_) ?_
  ·unfold Hm
   rw [if_pos (by simp;omega),if_pos (Cp hk)]
   simp only [Ca,Int.toNat_natCast,Ft (k:=k) (by omega),Oc,M9,Eu,As]
   generalize nth it.Zo k = x
   generalize (it.Zb == 10) = z
   have e : (!(decide (1≤x.Zb) && decide (x.Zb≤3)) || (!(decide (0≤x.Zc) && decide (x.Zc≤1073741824)) || (z && x.Zd))) = !Lc (!z) x:=by
    unfold Lc
    rw [Bool.eq_iff_iff]
    cases x.Zd <;> cases z <;> simp <;> omega
   rw [e]
   cases Lc (!z) x <;> rfl
  ·unfold Hm;rw [if_neg (by simp)]
 unfold Tp
 rw [h]
 simp only [As,M9,Eu]
 cases it.Zo.all (Lc (!(it.Zb == 10))) <;> cases (decide ((it.Zo.length : Int) > 16) || ((it.Zb == 10) && ((it.Zo.length : Int) == 0))) <;> rfl
theorem Ahq (it : Api_Item) : Ga it = Ez it:=by
 unfold Ga Ez
 simp only [Oc,Eu,As]
 congr 2
 rw [Bool.eq_iff_iff]
 simp <;> omega
def Ah3 (it : Api_Item) : Bool:=(Ez it).getD false
theorem Alw (it : Api_Item) : Ez it = some (Ah3 it):=by
 unfold Ah3 Ez
 simp only [Oc,Eu,As]
 simp only [Tk,Option.getD_some]
theorem AeW (s : List UInt8) (b : UInt8) (hl : s.length≤1000000) : I8 s b = some (s.any (fun c => c == b)):=by
 have h : A6 (fun (v : Int) => Ig s b v) 0 = some (if s.all (fun c => !(c == b)) = true then .inl () else .inr (.inr true)):=by
  refine Do s (Ig s b) (fun c => !(c == b)) _ _ (by omega) (fun k hk => ?_) ?_
  ·unfold Ig
   rw [if_pos (by simp;omega),if_pos (Cp hk)]
   simp only [Int.toNat_natCast,Ft (k:=k) (by omega)]
   cases nth s k == b <;> rfl
  ·unfold Ig;rw [if_neg (by simp)]
 unfold I8
 rw [h,← List.not_any_eq_all_not]
 cases s.any (fun c => c == b) <;> rfl
theorem AeI {α X : Type} [Inhabited α] (l : List α) (f : Int→Option (Int ⊕ X)) (p : α→Bool) (good bad : X) (hl : l.length < 1152921504606846976)
  (hs : ∀ k : Nat,k < l.length→(∀ j,j < k→p (nth l j) = true)→f (k : Int) = some (if p (nth l k) = true then .inl ((k + 1 : Nat) : Int) else .inr bad)) (he : f (l.length : Int) = some (.inr good)) :
  A6 (fun v => f v) 0 = some (if l.all p = true then good else bad):=by
 obtain ⟨x,hx,hq⟩ : ∃ x,A6 (fun v => f v) 0 = some x∧x = (if l.all p = true then good else bad):=by
  refine E8 (fun v => ∃ k : Nat,v = (k : Int)∧k≤l.length∧(l.take k).all p = true∧∀ j,j < k→p (nth l j) = true) (fun v => (l.length - v).toNat) _ ?_ ⟨0,rfl,Nat.zero_le _,rfl,fun j hj => by omega⟩ (by simp;omega)
  rintro v ⟨k,rfl,hk,ht,hj⟩
  by_cases h1 : k < l.length
  ·have hn : nth l k = l[k]:=by simp [nth,h1]
   rw [hs k h1 hj]
   by_cases hp : p (nth l k) = true
   ·left
    refine ⟨_,by rw [if_pos hp],⟨k + 1,rfl,by omega,?_,fun j hjk => ?_⟩,by omega⟩
    ·rw [List.take_succ_eq_append_getElem h1,List.all_append,ht,← hn]
     simp [hp]
    ·by_cases e : j = k
     ·subst e;exact hp
     ·exact hj j (by omega)
   ·right
    refine ⟨_,by rw [if_neg hp],?_⟩
    rw [if_neg]
    intro ha
    rw [List.all_eq_true] at ha
    exact hp (by rw [hn];exact ha _ (List.getElem_mem h1))
  ·right
   have : k = l.length:=by omega
   subst this
   rw [List.take_length] at ht
   exact ⟨_,he,by rw [if_pos ht]⟩
 rw [hx,hq]
def LN : List UInt8:=[119,112,111,110,102,116,99,100,107,103,97]
def Eb (it : Api_Item) (x : UInt8) : Int:=(Cb it x).getD 0
theorem Aj3 (it : Api_Item) (x : UInt8) : Cb it x = some (Eb it x):=by
 unfold Eb Cb
 simp only [Tk,Option.getD_some]
def K8 (p : Api_Pool) (i : Int) : Bool:=decide (0≤i) && decide (i≤(p.Zs1.Zu.length : Int) - 1)
def T1 (p : Api_Pool) (it : Api_Item) : Bool:=K8 p it.Zf && (if ((it.Zb == 3) || (it.Zb == 4)) = true then (F6 p it.Zf).Zb == 3 else if (it.Zb == 9) = true then (F6 p it.Zf).Zb == 5 else true)
def X5 (p : Api_Pool) (it : Api_Item) : Bool :=
 if (it.Zb == 1) = true then decide (0≤it.Zg) && decide (it.Zg≤(p.Zu1.length : Int) - 1)
 else if ((it.Zb == 3) || (it.Zb == 4)) = true then (it.Zg == (F6 p it.Zf).Za) || (it.Zg == (F6 p it.Zf).Zg)
 else if (it.Zb == 10) = true then decide (0≤it.Zg) && decide (it.Zg≤63)
 else decide (0≤it.Zg) && decide (it.Zg≤(p.Zv1.length : Int) - 1)
def S4 (p : Api_Pool) (it : Api_Item) : Bool :=
 if (it.Zb == 5) = true then decide (1≤it.Zh) && decide (it.Zh≤1000000000)
 else if (it.Zb == 15) = true then decide (0≤it.Zh) && decide (it.Zh≤(p.Zt1.Zm1.length : Int) - 1)
 else decide (1≤it.Zh) && decide (it.Zh≤6)
def AfG (it : Api_Item) : Bool :=
 if ((it.Zb == 3) || (it.Zb == 4)) = true then decide (0≤it.Code) && decide (it.Code≤8)
 else if (it.Zb == 6) = true then decide (0≤it.Code) && decide (it.Code≤1)
 else if (it.Zb == 8) = true then decide (1≤it.Code) && decide (it.Code≤9)
 else decide (1≤it.Code) && decide (it.Code≤2)
def Ec (p : Api_Pool) (it : Api_Item) (x : UInt8) : Bool :=
 if (x == 119) = true then decide (0≤it.Ze) && decide (it.Ze≤(p.Zt1.Zn1.length : Int) - 1)
 else if (x == 112) = true then T1 p it
 else if (x == 111) = true then X5 p it
 else if (x == 110) = true then S4 p it
 else if (x == 102) = true then decide (0≤it.Zi) && decide (it.Zi≤1073741824)
 else if (x == 116) = true then decide (it.Zi≤it.To) && decide (it.To≤1073741824)
 else if (x == 99) = true then AfG it
 else if (x == 100) = true then K8 p it.Zj
 else if (x == 107) = true then decide (0≤it.Zk) && decide (it.Zk≤63)
 else if (x == 103) = true then (if (it.Zb == 15) = true then decide (1≤it.Zl) && decide (it.Zl≤1000) else decide (0≤it.Zl) && decide (it.Zl≤1000000))
 else decide (0≤it.Zm) && decide (it.Zm≤1000000000)
theorem Xh (a b : Bool) : (if a = true then some a else some b) = some (a || b):=by cases a <;> rfl
section
variable {p : Api_Pool} (h : Few p) (it : Api_Item)
include h
theorem ApG : w64 ((p.Zs1.Zu.length : Int) - 1) = (p.Zs1.Zu.length : Int) - 1:=Gl (by have:=h.places;omega)
theorem w_wg : w64 ((p.Zt1.Zn1.length : Int) - 1) = (p.Zt1.Zn1.length : Int) - 1:=Gl (by have:=h.wagons;omega)
theorem w_ty : w64 ((p.Zt1.Zm1.length : Int) - 1) = (p.Zt1.Zm1.length : Int) - 1:=Gl (by have:=h.types;omega)
theorem w_rd : w64 ((p.Zu1.length : Int) - 1) = (p.Zu1.length : Int) - 1:=Gl (by have:=h.readers;omega)
theorem w_sh : w64 ((p.Zv1.length : Int) - 1) = (p.Zv1.length : Int) - 1:=Gl (by have:=h.shippers;omega)
theorem Aim : Tc p it = some (T1 p it):=by
 unfold Tc T1 K8 F6
 simp only [Oc,As,ApG h,Xh]
 by_cases hr : 0≤it.Zf∧it.Zf < (p.Zs1.Zu.length : Int)
 ·have e : (decide (0≤it.Zf) && decide (it.Zf≤(p.Zs1.Zu.length : Int) - 1)) = true:=by simp;omega
  rw [e,if_neg (by simp),if_pos (show InR it.Zf p.Zs1.Zu.length by unfold InR;omega),if_pos hr]
  simp only [Ca,As,Tk,Bool.true_and]
 ·have e : (decide (0≤it.Zf) && decide (it.Zf≤(p.Zs1.Zu.length : Int) - 1)) = false:=by rw [Bool.eq_false_iff];simp;omega
  rw [e,if_pos (by simp),Bool.false_and]
theorem AiT (hr : it.Zb = 3∨it.Zb = 4→K8 p it.Zf = true) : Th p it = some (X5 p it):=by
 unfold Th X5
 simp only [Oc,As,w_rd h,w_sh h,Xh,M9]
 by_cases h1 : (it.Zb == 1) = true
 ·rw [if_pos h1,if_pos h1]
 ·rw [if_neg h1,if_neg h1]
  by_cases h3 : ((it.Zb == 3) || (it.Zb == 4)) = true
  ·have hk : it.Zb = 3∨it.Zb = 4:=by simpa using h3
   have hq:=hr hk
   unfold K8 at hq
   have hq' : 0≤it.Zf∧it.Zf < (p.Zs1.Zu.length : Int):=by simp at hq;omega
   rw [if_pos h3,if_pos h3,if_pos (show InR it.Zf p.Zs1.Zu.length by unfold InR;omega)]
   unfold F6
   rw [if_pos hq']
   simp only [Ca]
  ·rw [if_neg h3,if_neg h3]
   simp only [Tk]
theorem Ag4 : Pz p it = some (S4 p it):=by
 unfold Pz S4
 simp only [Oc,As,w_ty h,Tk]
omit h in
theorem AmL : Vy it = some (AfG it):=by
 unfold Vy AfG
 simp only [Oc,As,Xh]
 simp only [Tk]
theorem AkK (x : UInt8) (hr : x = 111→it.Zb = 3∨it.Zb = 4→K8 p it.Zf = true) : Ra p it x = some (Ec p it x):=by
 unfold Ra Ec
 simp only [Aim h,Ag4 h,AmL,Oc,As,w_wg h,ApG h]
 by_cases h1 : (x == 111) = true
 ·have hx : x = 111:=by simpa using h1
  rw [AiT h it (hr hx)]
  simp only [As,Tk]
  rfl
 ·rw [if_neg h1,if_neg h1]
  simp only [Tk]
  rfl
def rb (p : Api_Pool) (it : Api_Item) (u : List UInt8) (x : UInt8) : Bool:=if u.any (fun c => c == x) = true then Ec p it x else Eb it x == 0
def Nq (p : Api_Pool) (it : Api_Item) (u : List UInt8) : Bool :=
 LN.all (rb p it u) && (((u.any (fun c => c == 120) == !(it.Zn == [])) && !decide ((it.Zn.length : Int) > 2000)) &&
  (if u.any (fun c => c == 113) = true then !(decide ((it.Zo.length : Int) > 16) || ((it.Zb == 10) && ((it.Zo.length : Int) == 0))) && it.Zo.all (Lc (!(it.Zb == 10))) else (it.Zo.length : Int) == 0))
theorem Aee (u : List UInt8) (hu : Em it.Zb = some u) (hul : u.length≤100) (hpl : it.Zb = 3∨it.Zb = 4→u.any (fun c => c == 112) = true) (hpt : it.Zo.length≤1000000) :
  Nz p it = some (((decide (1≤it.Zb) && decide (it.Zb≤15)) && Ah3 it) && Nq p it u):=by
 have hl : A6 (fun (v : Int) => Hk p it u v) 0 = some (if LN.all (rb p it u) = true then .inl () else .inr (.inr false)):=by
  refine AeI LN (Hk p it u) (rb p it u) _ _ (by decide) (fun k hk hj => ?_) ?_
  ·have hk' : k < 11:=hk
   unfold Hk
   rw [if_pos (by simp;omega),if_pos (show InR (k : Int) ([119,112,111,110,102,116,99,100,107,103,97] : List UInt8).length from Cp hk)]
   simp only [Ca,Int.toNat_natCast,Ft (k:=k) (by omega)]
   rw [show nth ([119,112,111,110,102,116,99,100,107,103,97] : List UInt8) k = nth LN k from rfl]
   have hrr : nth LN k = 111→it.Zb = 3∨it.Zb = 4→K8 p it.Zf = true:=by
    intro hx hkk
    have h2 : k = 2:=by
     have : ∀ q : Fin 11,nth LN q.val = 111→q.val = 2:=by decide
     exact this ⟨k,hk'⟩ hx
    have hp1:=hj 1 (by omega)
    unfold rb at hp1
    rw [show nth LN 1 = 112 from rfl,if_pos (hpl hkk)] at hp1
    have : T1 p it = true:=hp1
    unfold T1 at this
    rw [Bool.and_eq_true] at this
    exact this.1
   rw [AeW u _ (by omega),AkK h it _ hrr,Aj3]
   simp only [As]
   unfold rb
   cases u.any (fun c => c == nth LN k)
   ·cases hf : (Eb it (nth LN k) == 0) <;> simp [bne,hf]
   ·cases Ec p it (nth LN k) <;> rfl
  ·unfold Hk;rw [if_neg (by decide)]
 unfold Nz Nq
 rw [hu]
 simp only [As,Oc,Alw,M9,AeW u _ (show u.length≤1000000 by omega),AjB it hpt]
 rw [hl]
 simp only [As]
 generalize LN.all (rb p it u) = z1
 generalize (decide (1≤it.Zb) && decide (it.Zb≤15)) = z2
 generalize Ah3 it = z3
 generalize (u.any (fun c => c == 120) == !(it.Zn == [])) = z4
 generalize decide ((it.Zn.length : Int) > 2000) = z5
 generalize u.any (fun c => c == 113) = z6
 generalize (!(decide ((it.Zo.length : Int) > 16) || ((it.Zb == 10) && ((it.Zo.length : Int) == 0))) && it.Zo.all (Lc (!(it.Zb == 10)))) = z7
 generalize ((it.Zo.length : Int) == 0) = z8
 cases z1 <;> cases z2 <;> cases z3 <;> cases z4 <;> cases z5 <;> cases z6 <;> cases z7 <;> cases z8 <;> rfl
end
set_option maxRecDepth 8000
set_option maxHeartbeats 8000000
theorem Apt (a b c : Int) : AcP a b≤c↔a≤c∧b≤c:=by unfold AcP;split <;> omega
theorem Ai8 (l : List UInt8) : (l == ([] : List UInt8)) = decide ((l.length : Int) = 0):=by cases l <;> simp <;> omega
theorem Aka (n m : Int) : (n == m) = decide (n = m):=by rw [Bool.eq_iff_iff];simp
theorem Ae5 (a b : UInt8) : (a == b) = (a.toNat == b.toNat):=by rw [Bool.eq_iff_iff,beq_iff_eq,beq_iff_eq,UInt8.toNat_inj]
theorem AkZ (n m : Int) : (n != m) = decide (¬ n = m):=by rw [Bool.eq_iff_iff];simp
theorem rv_w (p : Api_Pool) (it : Api_Item) : Ec p it 119 = (decide (0≤it.Ze) && decide (it.Ze≤(p.Zt1.Zn1.length : Int) - 1)):=by unfold Ec;rw [if_pos (by decide)]
theorem fv_w (it : Api_Item) : Eb it 119 = it.Ze:=by unfold Eb Cb;rw [if_pos (by decide)];rfl
theorem rv_p (p : Api_Pool) (it : Api_Item) : Ec p it 112 = T1 p it:=by unfold Ec;rw [if_neg (by decide),if_pos (by decide)]
theorem fv_p (it : Api_Item) : Eb it 112 = it.Zf:=by unfold Eb Cb;rw [if_neg (by decide),if_pos (by decide)];rfl
theorem rv_o (p : Api_Pool) (it : Api_Item) : Ec p it 111 = X5 p it:=by unfold Ec;rw [if_neg (by decide),if_neg (by decide),if_pos (by decide)]
theorem fv_o (it : Api_Item) : Eb it 111 = it.Zg:=by unfold Eb Cb;rw [if_neg (by decide),if_neg (by decide),if_pos (by decide)];rfl
theorem rv_n (p : Api_Pool) (it : Api_Item) : Ec p it 110 = S4 p it:=by unfold Ec;rw [if_neg (by decide),if_neg (by decide),if_neg (by decide),if_pos (by decide)]
theorem fv_n (it : Api_Item) : Eb it 110 = it.Zh:=by unfold Eb Cb;rw [if_neg (by decide),if_neg (by decide),if_neg (by decide),if_pos (by decide)];rfl
theorem rv_f (p : Api_Pool) (it : Api_Item) : Ec p it 102 = (decide (0≤it.Zi) && decide (it.Zi≤1073741824)):=by unfold Ec;rw [if_neg (by decide),if_neg (by decide),if_neg (by decide),if_neg (by decide),if_pos (by decide)]
theorem fv_f (it : Api_Item) : Eb it 102 = it.Zi:=by unfold Eb Cb;rw [if_neg (by decide),if_neg (by decide),if_neg (by decide),if_neg (by decide),if_pos (by decide)];rfl
theorem rv_t (p : Api_Pool) (it : Api_Item) : Ec p it 116 = (decide (it.Zi≤it.To) && decide (it.To≤1073741824)):=by unfold Ec;rw [if_neg (by decide),if_neg (by decide),if_neg (by decide),if_neg (by decide),if_neg (by decide),if_pos (by decide)]
theorem fv_t (it : Api_Item) : Eb it 116 = it.To:=by unfold Eb Cb;rw [if_neg (by decide),if_neg (by decide),if_neg (by decide),if_neg (by decide),if_neg (by decide),if_pos (by decide)];rfl
theorem rv_c (p : Api_Pool) (it : Api_Item) : Ec p it 99 = AfG it:=by unfold Ec;rw [if_neg (by decide),if_neg (by decide),if_neg (by decide),if_neg (by decide),if_neg (by decide),if_neg (by decide),if_pos (by decide)]
theorem fv_c (it : Api_Item) : Eb it 99 = it.Code:=by unfold Eb Cb;rw [if_neg (by decide),if_neg (by decide),if_neg (by decide),if_neg (by decide),if_neg (by decide),if_neg (by decide),if_pos (by decide)];rfl
theorem rv_d (p : Api_Pool) (it : Api_Item) : Ec p it 100 = K8 p it.Zj:=by unfold Ec;rw [if_neg (by decide),if_neg (by decide),if_neg (by decide),if_neg (by decide),if_neg (by decide),if_neg (by decide),if_neg (by decide),if_pos (by decide)]
theorem fv_d (it : Api_Item) : Eb it 100 = it.Zj:=by unfold Eb Cb;rw [if_neg (by decide),if_neg (by decide),if_neg (by decide),if_neg (by decide),if_neg (by decide),if_neg (by decide),if_neg (by decide),if_pos (by decide)];rfl
theorem rv_k (p : Api_Pool) (it : Api_Item) : Ec p it 107 = (decide (0≤it.Zk) && decide (it.Zk≤63)):=by unfold Ec;rw [if_neg (by decide),if_neg (by decide),if_neg (by decide),if_neg (by decide),if_neg (by decide),if_neg (by decide),if_neg (by decide),if_neg (by decide),if_pos (by decide)]
theorem fv_k (it : Api_Item) : Eb it 107 = it.Zk:=by unfold Eb Cb;rw [if_neg (by decide),if_neg (by decide),if_neg (by decide),if_neg (by decide),if_neg (by decide),if_neg (by decide),if_neg (by decide),if_neg (by decide),if_pos (by decide)];rfl
theorem rv_g (p : Api_Pool) (it : Api_Item) : Ec p it 103 = (if (it.Zb == 15) = true then decide (1≤it.Zl) && decide (it.Zl≤1000) else decide (0≤it.Zl) && decide (it.Zl≤1000000)):=by unfold Ec;rw [if_neg (by decide),if_neg (by decide),if_neg (by decide),if_neg (by decide),if_neg (by decide),if_neg (by decide),if_neg (by decide),if_neg (by decide),if_neg (by decide),if_pos (by decide)]
theorem fv_g (it : Api_Item) : Eb it 103 = it.Zl:=by unfold Eb Cb;rw [if_neg (by decide),if_neg (by decide),if_neg (by decide),if_neg (by decide),if_neg (by decide),if_neg (by decide),if_neg (by decide),if_neg (by decide),if_neg (by decide),if_pos (by decide)];rfl
theorem rv_a (p : Api_Pool) (it : Api_Item) : Ec p it 97 = (decide (0≤it.Zm) && decide (it.Zm≤1000000000)):=by unfold Ec;rw [if_neg (by decide),if_neg (by decide),if_neg (by decide),if_neg (by decide),if_neg (by decide),if_neg (by decide),if_neg (by decide),if_neg (by decide),if_neg (by decide),if_neg (by decide)]
theorem fv_a (it : Api_Item) : Eb it 97 = it.Zm:=by unfold Eb Cb;rw [if_neg (by decide),if_neg (by decide),if_neg (by decide),if_neg (by decide),if_neg (by decide),if_neg (by decide),if_neg (by decide),if_neg (by decide),if_neg (by decide),if_neg (by decide)];rfl
theorem Afr {p : Api_Pool} (h : Few p) (hv : ∀ i : Int,((F6 p i).Zb != 0) = (decide (0≤i) && decide (i≤(p.Zs1.Zu.length : Int) - 1))) (R : Api_Ref) (w pl o n f t c d cl g a : Int) (tx : List UInt8) (ps : List Api_Part) (hps : ps.length≤1000000) (K : Int) (hK : ¬ (K < 1∨15 < K)) :
  ∃ u,Em K = some u∧u.length≤100∧(K = 3∨K = 4→u.any (fun c => c == 112) = true)∧E9 p ⟨K,R,w,pl,o,n,f,t,c,d,cl,g,a,tx,ps⟩ = some (Nq p ⟨K,R,w,pl,o,n,f,t,c,d,cl,g,a,tx,ps⟩ u):=by
 have hK : K = 1∨K = 2∨K = 3∨K = 4∨K = 5∨K = 6∨K = 7∨K = 8∨K = 9∨K = 10∨K = 11∨K = 12∨K = 13∨K = 14∨K = 15:=by omega
 rcases hK with rfl | rfl | rfl | rfl | rfl | rfl | rfl | rfl | rfl | rfl | rfl | rfl | rfl | rfl | rfl <;> refine ⟨_,rfl,by decide,by decide,?_⟩ <;> unfold E9 C9 D9 Nq LN <;>
  simp only [Dd,B6,Cr,D8,Dm,AoV,AoW,Aog,Ant,Amq,AmO,AlY,AmN,Anr,AnW,AlM,Ajo ps _ hps,ApG h,w_wg h,w_ty h,w_rd h,w_sh h,As,Eu,M9,Xh,hv,List.all_cons,List.all_nil,rb,List.any_cons,List.any_nil,Ae5,UInt8.reduceToNat,Nat.reduceBEq,rv_w,fv_w,rv_p,fv_p,rv_o,fv_o,rv_n,fv_n,rv_f,fv_f,rv_t,fv_t,rv_c,fv_c,rv_d,fv_d,rv_k,fv_k,rv_g,fv_g,rv_a,fv_a,T1,X5,S4,AfG,K8,
   Int.reduceLE,Int.reduceLT,Int.reduceBEq,Int.reduceBNe,Int.reduceEq,Int.reduceGT,Int.reduceGE,decide_true,decide_false,if_true,if_false,Bool.false_eq_true,Bool.true_and,Bool.and_true,Bool.true_or,Bool.or_true,Bool.false_or,Bool.or_false,Bool.false_and,Bool.not_true,Bool.not_false,beq_self_eq_true,List.length_nil,Bool.true_beq,Bool.false_beq,Bool.not_not,Int.ofNat_zero,Int.cast_ofNat_Int,Option.some.injEq] <;>
  rw [Bool.eq_iff_iff] <;>
  simp only [Ai8,Aka,AkZ,Bool.and_eq_true,Bool.or_eq_true,Bool.not_eq_true',decide_eq_true_eq,decide_eq_false_iff_not,Apt,Bool.or_eq_false_iff,Bool.not_eq_eq_eq_not,Bool.not_true,Bool.not_false,true_and,and_true,and_assoc]
 ·constructor
  ·rintro ⟨h0,h1,h2,h3,h4,h5,h6,h7,h8,h9,h10,h11,h12,h13,h14,h15⟩
   exact ⟨h0,h1,h6,h2,h3,h7,h4,h5,h8,h9,h10,h11,h12,h13,h14,by first | omega | rfl,h15⟩
  ·rintro ⟨h0,h1,h2,h3,h4,h5,h6,h7,h8,h9,h10,h11,h12,h13,h14,h15,h16⟩
   exact ⟨h0,h1,h3,h4,h6,h7,h2,h5,h8,h9,h10,h11,h12,h13,h14,h16⟩
 ·constructor
  ·rintro ⟨h0,h1,h2,h3,h4,h5,h6,h7,h8,h9,h10,h11,h12,h13,h14,h15,h16,h17⟩
   exact ⟨h0,h1,h2,h3,h9,h10,h7,h8,h4,h6,h11,h12,h13,h14,h15,h16,by first | omega | rfl,h17⟩
  ·rintro ⟨h0,h1,h2,h3,h4,h5,h6,h7,h8,h9,h10,h11,h12,h13,h14,h15,h16,h17⟩
   exact ⟨h0,h1,h2,h3,h8,by first | omega | rfl,h9,h6,h7,h4,h5,h10,h11,h12,h13,h14,h15,h17⟩
 ·constructor
  ·rintro ⟨h0,h1,h2,h3,h4,h5,h6,h7,h8,h9,h10,h11,h12,h13,h14,h15,h16,h17⟩
   exact ⟨h0,h1,h2,h3,h4,h5,h10,h6,h7,h11,h8,h9,h12,h13,h14,h15,h16,by first | omega | rfl,h17⟩
  ·rintro ⟨h0,h1,h2,h3,h4,h5,h6,h7,h8,h9,h10,h11,h12,h13,h14,h15,h16,h17,h18⟩
   exact ⟨h0,h1,h2,h3,h4,h5,h7,h8,h10,h11,h6,h9,h12,h13,h14,h15,h16,h18⟩
 ·constructor
  ·rintro ⟨h0,h1,h2,h3,h4,h5,h6,h7,h8,h9,h10,h11,h12,h13,h14,h15,h16,h17⟩
   exact ⟨h0,h1,h2,h3,h4,h5,h10,h6,h7,h11,h8,h9,h12,h13,h14,h15,h16,by first | omega | rfl,h17⟩
  ·rintro ⟨h0,h1,h2,h3,h4,h5,h6,h7,h8,h9,h10,h11,h12,h13,h14,h15,h16,h17,h18⟩
   exact ⟨h0,h1,h2,h3,h4,h5,h7,h8,h10,h11,h6,h9,h12,h13,h14,h15,h16,h18⟩
 ·constructor
  ·rintro ⟨h0,h1,h2,h3,h4,h5,h6,h7,h8,h9,h10,h11,h12,h13,h14,h15,h16,h17,h18,h19,h20⟩
   exact ⟨h0,h1,h6,h7,h4,h5,h2,h3,h14,h15,h16,h17,h8,h9,h10,h11,h12,h13,h18,h19,by first | omega | rfl,h20⟩
  ·rintro ⟨h0,h1,h2,h3,h4,h5,h6,h7,h8,h9,h10,h11,h12,h13,h14,h15,h16,h17,h18,h19,h20,h21⟩
   exact ⟨h0,h1,h6,h7,h4,h5,h2,h3,h12,h13,h14,h15,h16,h17,h8,h9,h10,h11,h18,h19,h21⟩
 ·constructor
  ·rintro ⟨h0,h1,h2,h3,h4,h5,h6,h7,h8,h9,h10,h11,h12,h13,h14,h15,h16,h17⟩
   exact ⟨h0,h1,h2,h3,h4,h5,h10,h6,h7,h11,h8,h9,h12,h13,h14,h15,h16,by first | omega | rfl,h17⟩
  ·rintro ⟨h0,h1,h2,h3,h4,h5,h6,h7,h8,h9,h10,h11,h12,h13,h14,h15,h16,h17,h18⟩
   exact ⟨h0,h1,h2,h3,h4,h5,h7,h8,h10,h11,h6,h9,h12,h13,h14,h15,h16,h18⟩
 ·constructor
  ·rintro ⟨h0,h1,h2,h3,h4,h5,h6,h7,h8,h9,h10,h11,h12,h13,h14,h15,h16⟩
   exact ⟨h0,h1,h2,h3,h4,h5,h8,h6,h7,h9,h10,h11,h12,h13,h14,h15,by first | omega | rfl,h16⟩
  ·rintro ⟨h0,h1,h2,h3,h4,h5,h6,h7,h8,h9,h10,h11,h12,h13,h14,h15,h16,h17⟩
   exact ⟨h0,h1,h2,h3,h4,h5,h7,h8,h6,h9,h10,h11,h12,h13,h14,h15,h17⟩
 ·constructor
  ·rintro ⟨h0,h1,h2,h3,h4,h5,h6,h7,h8,h9,h10,h11,h12,h13,h14,h15⟩
   exact ⟨h0,h1,h6,h7,h8,h2,h3,h9,h4,h5,h10,h11,h12,h13,h14,by first | omega | rfl,h15⟩
  ·rintro ⟨h0,h1,h2,h3,h4,h5,h6,h7,h8,h9,h10,h11,h12,h13,h14,h15,h16⟩
   exact ⟨h0,h1,h5,h6,h8,h9,h2,h3,h4,h7,h10,h11,h12,h13,h14,h16⟩
 ·generalize ps.all (Lc true) = z
  cases z
  ·simp only [Bool.false_eq_true,and_false,false_and]
  ·simp only [eq_self,and_true,true_and,and_assoc]
   constructor
   ·rintro ⟨h0,h1,h2,h3,h4,h5,h6,h7,h8,h9,h10,h11,h12,h13,h14,h15,h16,h17,h18,h19,h20⟩
    exact ⟨h0,h1,h2,h3,h4,h15,h16,h8,h9,h5,h7,h10,h11,h17,h18,h19,h12,h13,h20,by first | omega | rfl,by first | omega | rfl⟩
   ·rintro ⟨h0,h1,h2,h3,h4,h5,h6,h7,h8,h9,h10,h11,h12,h13,h14,h15,h16,h17,h18,h19,h20⟩
    exact ⟨h0,h1,h2,h3,h4,h9,by first | omega | rfl,h10,h7,h8,h11,h12,h16,h17,by first | omega | rfl,h5,h6,h13,h14,h15,h18⟩
 ·generalize ps.all (Lc false) = z
  cases z
  ·simp only [Bool.false_eq_true,and_false,false_and]
  ·simp only [eq_self,and_true,true_and,and_assoc]
   constructor
   ·rintro ⟨h0,h1,h2,h3,h4,h5,h6,h7,h8,h9,h10,h11,h12,h13,h14⟩
    exact ⟨h4,h5,h0,h1,h6,h7,h8,h9,h10,h11,h12,h13,h14,by first | omega | rfl,by first | omega | rfl,by first | omega | rfl⟩
   ·rintro ⟨h0,h1,h2,h3,h4,h5,h6,h7,h8,h9,h10,h11,h12,h13,h14,h15⟩
    exact ⟨h2,h3,by first | omega | rfl,by first | omega | rfl,h0,h1,h4,h5,h6,h7,h8,h9,h10,h11,h12⟩
 ·constructor
  ·rintro ⟨h0,h1,h2,h3,h4,h5,h6,h7,h8,h9,h10,h11,h12,h13,h14,h15⟩
   exact ⟨h6,h7,h8,h0,h1,h2,h3,h9,h10,h11,h12,h13,h14,by first | omega | rfl,by first | omega | rfl,h15⟩
  ·rintro ⟨h0,h1,h2,h3,h4,h5,h6,h7,h8,h9,h10,h11,h12,h13,h14,h15⟩
   exact ⟨h3,h4,h5,h6,by first | omega | rfl,by first | omega | rfl,h0,h1,h2,h7,h8,h9,h10,h11,h12,h15⟩
 ·constructor
  ·rintro ⟨h0,h1,h2,h3,h4,h5,h6,h7,h8,h9,h10,h11,h12,h13,h14,h15⟩
   exact ⟨h6,h7,h8,h0,h1,h2,h3,h9,h10,h11,h12,h13,h14,by first | omega | rfl,by first | omega | rfl,h15⟩
  ·rintro ⟨h0,h1,h2,h3,h4,h5,h6,h7,h8,h9,h10,h11,h12,h13,h14,h15⟩
   exact ⟨h3,h4,h5,h6,by first | omega | rfl,by first | omega | rfl,h0,h1,h2,h7,h8,h9,h10,h11,h12,h15⟩
 ·constructor
  ·rintro ⟨h0,h1,h2,h3,h4,h5,h6,h7,h8,h9,h10,h11,h12,h13,h14⟩
   exact ⟨h4,h5,h6,h0,h1,h2,h3,h7,h8,h9,h10,h11,h12,h13,by first | omega | rfl,h14⟩
  ·rintro ⟨h0,h1,h2,h3,h4,h5,h6,h7,h8,h9,h10,h11,h12,h13,h14,h15⟩
   exact ⟨h3,h4,h5,h6,h0,h1,h2,h7,h8,h9,h10,h11,h12,h13,h15⟩
 ·constructor
  ·rintro ⟨h0,h1,h2,h3,h4,h5,h6,h7,h8,h9,h10,h11,h12⟩
   exact ⟨h0,h1,h2,h3,h4,h5,h6,h7,h8,h9,h10,h11,by first | omega | rfl,h12⟩
  ·rintro ⟨h0,h1,h2,h3,h4,h5,h6,h7,h8,h9,h10,h11,h12,h13⟩
   exact ⟨h0,h1,h2,h3,h4,h5,h6,h7,h8,h9,h10,h11,h13⟩
 ·constructor
  ·rintro ⟨h0,h1,h2,h3,h4,h5,h6,h7,h8,h9,h10,h11,h12,h13,h14,h15,h16,h17,h18,h19,h20,h21⟩
   exact ⟨h17,h2,h3,h0,h1,h6,h7,h13,h14,h10,h12,h18,h19,h4,h5,h8,h9,h15,h16,h20,by first | omega | rfl,h21⟩
  ·rintro ⟨h0,h1,h2,h3,h4,h5,h6,h7,h8,h9,h10,h11,h12,h13,h14,h15,h16,h17,h18,h19,h20,h21⟩
   exact ⟨h3,h4,h1,h2,h13,h14,h5,h6,h15,h16,h9,by first | omega | rfl,h10,h7,h8,h17,h18,h0,h11,h12,h19,h21⟩
end Go.Proofs.YtnfoiocigicdnaaGreatDoor
