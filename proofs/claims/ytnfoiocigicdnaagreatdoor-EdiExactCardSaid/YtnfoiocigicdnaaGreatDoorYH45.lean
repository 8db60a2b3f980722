/-
  Part 45.
-/
import Derived.Test.YtnfoiocigicdnaaGreatDoorYH40
import Derived.Test.YtnfoiocigicdnaaGreatDoorYH42
import Derived.Test.YtnfoiocigicdnaaGreatDoorYH44
import Derived.KernelRfl
namespace Go.Proofs.YtnfoiocigicdnaaGreatDoor
open Go.Rv
set_option linter.unusedVariables false
set_option linter.unusedSimpArgs false
set_option maxRecDepth 20000
set_option maxHeartbeats 4000000
theorem Uu {a b r} (h : Ke a b = some r) : Con B 154 [u64 a,u64 b] [] (fun r' σ' => r' = .tup [u64 r.1,u64 r.2]∧σ' = []):=by
 refine Cw 51 [.tmp 4,.tmp 5] Tryz.func154 (fun F hE => ?_) h
 unfold Ke
 refine T0 [0,1] ?_
 refine Lt fun x0_8928 c =>Te (fr':=[(0,_),(1,_),(6,u64 x0_8928)]) [0,1,6] Ac (Ev (by simp only [go_sem,c];exact Al)) ?_
 refine Lt fun x1_8930 d =>Te (fr':=[(0,_),(1,_),(6,_),(7,u64 x1_8930)]) [0,1,6,7] Ac (Ev (by simp only [go_sem,d];exact Al)) ?_
 refine Lt fun y0_8932 e =>Te (fr':=[(0,_),(1,_),(6,_),(7,_),(8,u64 y0_8932)]) [0,1,6,7,8] Ac (Ev (by simp only [go_sem,e];exact Al)) ?_
 refine Lt fun y1_8934 f =>Te (fr':=[(0,_),(1,_),(6,_),(7,_),(8,_),(9,u64 y1_8934)]) [0,1,6,7,8,9] Ac (Ev (by simp only [go_sem,f];exact Al)) ?_
 refine T0 [0,1,6,7,8,9,10] ?_
 refine Lt fun g i =>Te (fr':=[(0,_),(1,_),(6,_),(7,_),(9,_),(11,u64 g)]) [0,1,6,7,9,11] Ac (Ev (by simp only [go_sem,i];exact Al)) ?_
 refine Lt fun w1_8938 j =>Te (fr':=[(0,_),(1,_),(6,_),(7,_),(9,_),(11,_),(12,u64 w1_8938)]) [0,1,6,7,9,11,12] Ac (Ev (by simp only [go_sem,j];exact Al)) ?_
 refine Lt fun w2_8940 k =>Te (fr':=[(0,_),(1,_),(6,_),(7,_),(9,_),(12,_),(13,u64 w2_8940)]) [0,1,6,7,9,12,13] Ac (Ev (by simp only [go_sem,k];exact Al)) ?_
 refine Lt fun w1_8942 l =>Te (fr':=[(0,_),(1,_),(7,_),(9,_),(12,u64 w1_8942),(13,_)]) [0,1,7,9,12,13] Ac (Ev (by simp only [go_sem,l];exact Al)) ?_
 refine Lt fun m n =>Te (fr':=[(0,_),(1,_),(4,u64 m)]) [0,1,4] Ac (Ev (by simp only [go_sem,n];exact Al)) ?_
 refine T0 [4,5] ?_
 exact Sr <|Rr
theorem Kx {a r} (h : Dj a = some r) : Con B 171 [u64 a] [] (fun r' σ' => r' = i64 r∧σ' = []):=by
 refine Cw 6 [.tmp 2] Tryz.func171 (fun F hE => ?_) h
 unfold Dj
 refine T0 [0] ?_
 refine Bd fun c b =>Te [2] (o1 4 (Jz b)) Ev ?_
 exact Sr <|Rr
theorem T5 {e f g r} (h : H9 e f g = some r) : Con B 155 [u64 e,u64 f,u64 g] [] (fun r' σ' => r' = .tup [u64 r.1,u64 r.2]∧σ' = []):=by
 refine Cw 135 [.tmp 6,.tmp 7] Tryz.func155 (fun F hE => ?_) h
 unfold H9
 refine T0 [0,1,2] ?_
 refine Sq <|T0 [0,1,2,20] ?_
 refine Cd ?_ ?_
 ·exact Rn
 ·refine Sk <|Tn <|Sq <|T0 [0,1,2,24] ?_
  refine Cd ?_ ?_
  ·exact Rn
  ·refine Sk <|Tn <|Sq <|T0 [0,1,2,27] ?_
   refine Cd ?_ ?_
   ·refine Ck fun q =>Ck fun s =>De [[],[],[0,1],[],[],[3,4],[0,1,2],[0,1,2,3,4,5,6]] [6,7] Ac (Ev (by simp only [go_sem,q,s];exact Al)) ?_
    exact Sr <|Tr <|Rr
   ·refine Sk <|Tn <|Bd fun b t =>Te [0,1,2,8] (o1 35 (Kx t)) Ev ?_
    refine Lt fun a u =>Te (fr':=[(0,_),(1,_),(2,u64 a),(8,_)]) [0,1,2,8] Ac (Ev (by simp only [go_sem,u];exact Al)) ?_
    refine Lt fun yn1_8958 w =>Te (fr':=[(0,_),(1,_),(2,_),(8,_),(9,u64 yn1_8958)]) [0,1,2,8,9] Ac (Ev (by simp only [go_sem,w];exact Al)) ?_
    refine Lt fun yn0_8960 x =>Te (fr':=[(0,_),(1,_),(2,_),(8,_),(9,_),(10,u64 yn0_8960)]) [0,1,2,8,9,10] Ac (Ev (by simp only [go_sem,x];exact Al)) ?_
    refine Lt fun un32_8962 y =>Te (fr':=[(1,_),(2,_),(8,_),(9,_),(10,_),(11,u64 un32_8962)]) [1,2,8,9,10,11] Ac (Ev (by simp only [go_sem,y];exact Al)) ?_
    refine Lt fun un10_8964 z =>Te (fr':=[(2,_),(8,_),(9,_),(10,_),(11,_),(12,u64 un10_8964)]) [2,8,9,10,11,12] Ac (Ev (by simp only [go_sem,z];exact Al)) ?_
    refine Lt fun un1_8966 aa =>Te (fr':=[(2,_),(8,_),(9,_),(10,_),(11,_),(12,_),(13,u64 un1_8966)]) [2,8,9,10,11,12,13] Ac (Ev (by simp only [go_sem,aa];exact Al)) ?_
    refine Lt fun un0_8968 ab =>Te (fr':=[(2,_),(8,_),(9,_),(10,_),(11,_),(13,_),(14,u64 un0_8968)]) [2,8,9,10,11,13,14] Ac (Ev (by simp only [go_sem,ab];exact Al)) ?_
    refine Ck fun ac =>Te [2,8,9,10,11,13,14,15] Ac (Ev (by simp only [go_sem,ac];exact Al)) ?_
    refine Lt fun ad ae =>Te (fr':=[(2,_),(8,_),(9,_),(10,_),(11,_),(13,_),(14,_),(15,_),(16,u64 ad)]) [2,8,9,10,11,13,14,15,16] Ac (Ev (by simp only [go_sem,ae];exact Al)) ?_
    refine Ja (fun q1_8992 => ⟨Au 135 [(2,u64 a),(8,u64 (UInt64.ofInt b)),(9,u64 yn1_8958),(10,u64 yn0_8960),(11,u64 un32_8962),(13,u64 un1_8966),(14,u64 un0_8968),(15,u64 q1_8992)],[]⟩) ?_ ?_
    ·intro ap
     refine Sb ?_
     refine Lo (fun (v : UInt64×UInt64) => (⟨Au 135 [(2,u64 a),(8,u64 (UInt64.ofInt b)),(9,u64 yn1_8958),(10,u64 yn0_8960),(11,u64 un32_8962),(13,u64 un1_8966),(14,u64 un0_8968),(15,u64 v.1),(16,u64 v.2)],[]⟩ : St)) (ws []) ?_
     rintro ⟨q1_9001,i⟩ aq af j k
     show Fc yn1_8958 yn0_8960 un1_8966 q1_9001 i = some af→_
     unfold Fc
     refine Sq ?_
     refine Tw [2,8,9,10,11,13,14,15,16,78] (fun l => ⟨Au 135 [(2,u64 a),(8,u64 (UInt64.ofInt b)),(9,u64 yn1_8958),(10,u64 yn0_8960),(11,u64 un32_8962),(13,u64 un1_8966),(14,u64 un0_8968),(15,u64 q1_9001),(16,u64 i),(78,.bool l)],[]⟩) ?_ ?_
     ·intro _
      refine Sp (fun c => ?_) fun c => ?_
      ·exact Lf Ac (Ev (by simp only [go_sem,c];exact Al)) (ws [])
      ·exact Lf Ac (Ev (by simp only [go_sem,c];exact Al)) (ws [])
     intro l
     refine Cd ?_ ?_
     ·refine Sk <|Tn <|Sb <|T0 [2,8,9,10,11,13,14,15,16] ?_
      refine T0 [2,8,9,10,11,13,14,15,16] ?_
      refine T0 [2,8,9,10,11,13,14,15,16,85] ?_
      refine Cd ?_ ?_
      ·refine Sx <|Bo <|Ly k j <|Bx <|?_
       exact Jm ((ws (l':=[(2,u64 a),(8,u64 (UInt64.ofInt b)),(9,u64 yn1_8958),(10,u64 yn0_8960),(11,u64 un32_8962),(13,u64 un1_8966),(14,u64 un0_8968),(15,u64 (q1_9001 - (1 : UInt64)))]) (σ':=[]) []).trans (ws []))
      ·exact Sk <|Bn <|Ln (ws [])
     ·refine Sx <|Tx <|Ly k j <|Bx <|?_
      exact Jm ((ws (l':=[(2,u64 a),(8,u64 (UInt64.ofInt b)),(9,u64 yn1_8958),(10,u64 yn0_8960),(11,u64 un32_8962),(13,u64 un1_8966),(14,u64 un0_8968),(15,u64 q1_9001)]) (σ':=[]) []).trans (ws []))
    intro q1_8992
    refine Lt fun un21_9015 ag =>Te (fr':=[(2,_),(8,_),(9,_),(10,_),(14,_),(15,_),(17,u64 un21_9015)]) [2,8,9,10,14,15,17] Ac (Ev (by simp only [go_sem,ag];exact Al)) ?_
    refine Ck fun ah =>Te [2,8,9,10,14,15,17,18] Ac (Ev (by simp only [go_sem,ah];exact Al)) ?_
    refine Lt fun ai aj =>Te (fr':=[(2,_),(8,_),(9,_),(10,_),(14,_),(15,_),(16,u64 ai),(17,_),(18,_)]) [2,8,9,10,14,15,16,17,18] Ac (Ev (by simp only [go_sem,aj];exact Al)) ?_
    refine Ja (fun q0_9039 => ⟨Au 135 [(2,u64 a),(8,u64 (UInt64.ofInt b)),(14,u64 un0_8968),(15,u64 q1_8992),(17,u64 un21_9015),(18,u64 q0_9039)],[]⟩) ?_ ?_
    ·intro ar
     refine Sb ?_
     refine Lo (fun (v : UInt64×UInt64) => (⟨Au 135 [(2,u64 a),(8,u64 (UInt64.ofInt b)),(9,u64 yn1_8958),(10,u64 yn0_8960),(14,u64 un0_8968),(15,u64 q1_8992),(16,u64 v.1),(17,u64 un21_9015),(18,u64 v.2)],[]⟩ : St)) (ws []) ?_
     rintro ⟨m,q0_9049⟩ au ak n o
     show E3 yn1_8958 yn0_8960 un0_8968 m q0_9049 = some ak→_
     unfold E3
     refine Sq ?_
     refine Tw [2,8,9,10,14,15,16,17,18,113] (fun p => ⟨Au 135 [(2,u64 a),(8,u64 (UInt64.ofInt b)),(9,u64 yn1_8958),(10,u64 yn0_8960),(14,u64 un0_8968),(15,u64 q1_8992),(16,u64 m),(17,u64 un21_9015),(18,u64 q0_9049),(113,.bool p)],[]⟩) ?_ ?_
     ·intro _
      refine Sp (fun d => ?_) fun d => ?_
      ·exact Lf Ac (Ev (by simp only [go_sem,d];exact Al)) (ws [])
      ·exact Lf Ac (Ev (by simp only [go_sem,d];exact Al)) (ws [])
     intro p
     refine Cd ?_ ?_
     ·refine Sk <|Tn <|Sb <|T0 [2,8,9,10,14,15,16,17,18] ?_
      refine T0 [2,8,9,10,14,15,16,17,18] ?_
      refine T0 [2,8,9,10,14,15,16,17,18,120] ?_
      refine Cd ?_ ?_
      ·refine Sx <|Bo <|Ly o n <|Bx <|?_
       exact Jm ((ws (l':=[(2,u64 a),(8,u64 (UInt64.ofInt b)),(14,u64 un0_8968),(15,u64 q1_8992),(17,u64 un21_9015),(18,u64 (q0_9049 - (1 : UInt64)))]) (σ':=[]) []).trans (ws []))
      ·exact Sk <|Bn <|Ln (ws [])
     ·refine Sx <|Tx <|Ly o n <|Bx <|?_
      exact Jm ((ws (l':=[(2,u64 a),(8,u64 (UInt64.ofInt b)),(14,u64 un0_8968),(15,u64 q1_8992),(17,u64 un21_9015),(18,u64 q0_9049)]) (σ':=[]) []).trans (ws []))
    intro q0_9039
    refine Lt fun al am =>Lt fun an ao =>Te (fr':=[(6,u64 al),(7,u64 an)]) [6,7] Ac (Ev (by simp only [go_sem,am,ao];exact Al)) ?_
    exact Sr <|Rr
theorem P1 {a r} (h : Gc a = some r) : Con B 87 [.agg [i64 a.Zb,i64 a.Za,i64 a.Zg]] [] (fun r' σ' => r' = .bool r∧σ' = []):=by
 refine Cw 42 [.tmp 2] Tryz.func87 (fun F hE => ?_) h
 unfold Gc
 refine T0 [1] ?_
 refine Sq ?_
 refine Tw [1,20] (fun g => ⟨Au 42 [(1,.ref 0 0),(20,.bool g)],[.box [i64 a.Zb,i64 a.Za,i64 a.Zg] false]⟩) ?_ ?_
 ·intro _
  refine Sp (fun b => ?_) fun b => ?_
  ·exact Lf Ac (Ev (by simp only [go_sem,b];exact Al)) (ws [0])
  ·refine Sp (fun c => ?_) fun c => ?_
   ·exact Lf Ac (Ev (by simp only [go_sem,b,c];exact Al)) (ws [0])
   ·refine Sp (fun e => ?_) fun e => ?_
    ·exact Lf Ac (Ev (by simp only [go_sem,b,c,e];exact Al)) (ws [0])
    ·exact Lf Ac (Ev (by simp only [go_sem,b,c,e];exact Al)) (ws [0])
 intro g
 refine Cd ?_ ?_
 ·refine T0 [2] ?_
  exact Sr <|Tr <|Rr
 ·refine Sk <|Tn <|Sq <|T0 [1,23] ?_
  refine Cd ?_ ?_
  ·refine T0 [2] ?_
   exact Sr <|Tr <|Rr
  ·refine Sk <|Tn <|?_
   refine Tw [2] (fun i => ⟨Au 42 [(2,.bool i)],[]⟩) ?_ ?_
   ·intro _
    refine Sp (fun d => ?_) fun d => ?_
    ·refine Sp (fun f => ?_) fun f => ?_
     ·exact Lf Ac (Ev (by simp only [go_sem,d,f];exact Al)) (ws [])
     ·exact Lf Ac (Ev (by simp only [go_sem,d,f];exact Al)) (ws [])
    ·exact Lf Ac (Ev (by simp only [go_sem,d];exact Al)) (ws [])
   intro i
   exact Sr <|Rr
theorem P2 {a r} (h : Gg a = some r) : Con B 39 [.agg [.sl false (L Ah a.Zu),.sl false (L Ak a.Zv)]] [] (fun r' σ' => r' = i64 r∧σ' = []):=by
 refine Cw 84 [.tmp 2] Tryz.func39 (fun F hE => ?_) h
 unfold Gg
 refine T0 [1] ?_
 refine Lt fun b t =>Te (fr':=[(1,_),(3,i64 b)]) [1,3] Ac (Ev (by simp only [go_sem,t];exact Al)) ?_
 refine Sq ?_
 refine Tw [1,3,18] (fun m => ⟨Au 84 [(1,.ref 0 0),(3,i64 b),(18,.bool m)],[.box [.sl false (L Ah a.Zu),.sl false (L Ak a.Zv)] false]⟩) ?_ ?_
 ·intro _
  refine Sp (fun j => ?_) fun j => ?_
  ·exact Lf Ac (Ev (by simp only [go_sem,j];exact Al)) (ws [0])
  ·exact Lf Ac (Ev (by simp only [go_sem,j];exact Al)) (ws [0])
 intro m
 refine Cd ?_ ?_
 ·refine T0 [2] ?_
  exact Sr <|Tr <|Rr
 ·refine Sk <|Tn <|?_
  refine Jo (fun _ => ⟨Au 84 [(1,.ref 0 0),(3,i64 b)],[.box [.sl false (L Ah a.Zu),.sl false (L Ak a.Zv)] false]⟩) ?_ ?_
  ·intro ar u
   refine T0 [1,3,20,21,22] ?_
   refine Sb ?_
   refine Lo (fun k => ⟨Au 84 [(1,.ref 0 0),(3,i64 b),(20,.sl false (L Ah a.Zu)),(21,i64 (a.Zu.length : Int)),(22,i64 k)],[.box [.sl false (L Ah a.Zu),.sl false (L Ak a.Zv)] false]⟩) (ws [0]) ?_
   rintro k au v n o
   show C8 a k = some v→_
   unfold C8
   refine T0 [1,3,20,21,22,23] ?_
   refine Sq <|Cd ?_ ?_
   ·refine Sk <|Tn <|Sq <|Sb <|Ck fun w =>Lt fun x y =>Lt fun z aa =>Lt fun ab ac =>Te (σ':=[_,.box [i64 x,i64 z,i64 ab] false]) [1,3,5,20,21,22] Ac (Ev (by simp only [go_sem,qR w,y,aa,ac];exact Al)) ?_
    refine Bd fun av ad =>Te [1,3,20,21,22,28] (o1 27 (P1 ad)) Ev ?_
    refine Cd ?_ ?_
    ·refine T0 [2] ?_
     exact Sr <|Br <|Tr <|Lr o n <|Br <|Jr u <|Rr
    ·refine Sk <|Bn <|Tn <|F0 [1,3,20,21,22] ?_
     exact Ln (ws [0])
   ·refine Sx <|Tx <|Lx o n <|Bx <|?_
    exact Jn ((ws (l':=[(1,.ref 0 0),(3,i64 b)]) (σ':=[.box [.sl false (L Ah a.Zu),.sl false (L Ak a.Zv)] false]) [0]).trans (ws [0]))
  intro _
  refine Jo (fun _ => ⟨Au 84 [],[]⟩) ?_ ?_
  ·intro aw ae
   refine T0 [3,31,32,33] ?_
   refine Sb ?_
   refine Lo (fun g => ⟨Au 84 [(3,i64 b),(31,.sl false (L Ak a.Zv)),(32,i64 (a.Zv.length : Int)),(33,i64 g)],[]⟩) (ws []) ?_
   rintro g ax af p q
   show C7 a b g = some af→_
   unfold C7
   refine T0 [3,31,32,33,34] ?_
   refine Sq <|Cd ?_ ?_
   ·refine Sk <|Tn <|Sq <|Sb <|Ck fun ag =>Lt fun ah ai =>Lt fun aj ak =>Lt fun al am =>Lt fun an ao =>Lt fun ap aq =>Te (σ':=[.box [i64 ah,i64 aj,i64 al,i64 an,i64 ap] false]) [3,7,31,32,33] Ac (Ev (by simp only [go_sem,qR ag,ai,ak,am,ao,aq];exact Al)) ?_
    refine Tw [3,31,32,33,82] (fun s => ⟨Au 84 [(3,i64 b),(31,.sl false (L Ak a.Zv)),(32,i64 (a.Zv.length : Int)),(33,i64 g),(82,.bool s)],[]⟩) ?_ ?_
    ·intro _
     refine Sp (fun c => ?_) fun c => ?_
     ·exact Lf Ac (Ev (by simp only [go_sem,c];exact Al)) (ws [])
     ·refine Sp (fun d => ?_) fun d => ?_
      ·exact Lf Ac (Ev (by simp only [go_sem,c,d];exact Al)) (ws [])
      ·refine Sp (fun e => ?_) fun e => ?_
       ·exact Lf Ac (Ev (by simp only [go_sem,c,d,e];exact Al)) (ws [])
       ·refine Sp (fun f => ?_) fun f => ?_
        ·exact Lf Ac (Ev (by simp only [go_sem,c,d,e,f];exact Al)) (ws [])
        ·refine Sp (fun i => ?_) fun i => ?_
         ·exact Lf Ac (Ev (by simp only [go_sem,c,d,e,f,i];exact Al)) (ws [])
         ·refine Sp (fun l => ?_) fun l => ?_
          ·exact Lf Ac (Ev (by simp only [go_sem,c,d,e,f,i,l];exact Al)) (ws [])
          ·exact Lf Ac (Ev (by simp only [go_sem,c,d,e,f,i,l];exact Al)) (ws [])
    intro s
    refine Cd ?_ ?_
    ·refine T0 [2] ?_
     exact Sr <|Br <|Tr <|Lr q p <|Br <|Jr ae <|Rr
    ·refine Sk <|Bn <|Tn <|F0 [3,31,32,33] ?_
     exact Ln (ws [])
   ·refine Sx <|Tx <|Lx q p <|Bx <|?_
    exact Jn ((ws (l':=[]) (σ':=[]) []).trans (ws []))
  intro _
  refine T0 [2] ?_
  exact Sr <|Rr
theorem Kh {a b c r} (h : E5 a b c = some r) : Con B 153 [u64 a,u64 b,.ref 0 0] [.box [u64 c] false] (fun r' σ' => r' = u64 r.1∧σ' = [.box [u64 r.2] false]):=by
 refine Co 1 28 [.tmp 5] Tryz.func153 (fun F hE => ?_) h
 unfold E5
 refine T0 [0,1,2] ?_
 refine Ck fun d =>Ck fun e =>Bd fun i f =>De [[],[],[0,1],[],[],[3,4],[0,1,2,3,4,5],[0,1,2,3,4,5,6],[0,1,2,3,4,5,6,7],[0,1,2,3,4,5,6,7],[0,1,2,3,4,5,6,7,8],[0,1,2,3,4,5,6,7,8,9,10]] [2,6,7] (o1 17 (Uu f)) (Ev (by simp only [go_sem,d,e];exact Al)) ?_
 refine Bd fun j g =>Te [9] (o1 24 (T5 g)) Ev ?_
 refine T0 [5] ?_
 exact Sr <|Ro [0]
theorem Rs {a r} (h : K6 a = some r) : Con B 127 [u64 a] [] (fun r' σ' => r' = .fn 153 [.ref 0 0]∧σ' = [.box [u64 r] false]):=by
 refine Co 0 4 [.tmp 2] Tryz.func127 (fun F hE => ?_) h
 unfold K6
 refine T0 [1] ?_
 refine T0 [2] ?_
 exact Sr <|Ro [0]
theorem Yi {a c r} (h : Oi a c = some r) : Con B 89 [u64 a,u64 c] [] (fun r' σ' => r' = u64 r∧σ' = []):=by
 refine Cw 33 [.tmp 4] Tryz.func89 (fun F hE => ?_) h
 unfold Oi
 refine T0 [0,1] ?_
 refine Bd fun y j =>Te [0,1,5] (An (l:=[]) (m:=[(8,127,[u64 (2305843009213690799 : UInt64)],[],_,_)]) trivial ⟨(wc (Rs j) []),trivial⟩) Ev ?_
 refine T0 [0,1,5,6] ?_
 refine Ja (fun g => ⟨Au 33 [(6,u64 g)],[]⟩) ?_ ?_
 ·intro z
  refine Bd fun f k =>Te [0,1,5,6,10,11] (o1 10 (Jz k)) Ev ?_
  refine Sb ?_
  refine Lo (fun ⟨b,d,e⟩ => ⟨Au 33 [(0,u64 a),(1,u64 c),(5,.fn 153 [.ref 0 0]),(6,u64 b),(10,i64 f),(11,i64 d)],[.box [u64 e] false]⟩) (ws [0]) ?_
  rintro ⟨b,d,e⟩ aa n o p
  show Fq a c f b d e = some n→_
  unfold Fq
  refine T0 [0,1,5,6,10,11,12] ?_
  refine Sq <|Cd ?_ ?_
  ·refine Sk <|Tn <|?_
   refine Ja (fun (v : UInt64×UInt64) => (⟨Au 33 [(0,u64 a),(1,u64 c),(5,.fn 153 [.ref 0 0]),(6,u64 v.1),(10,i64 f),(11,i64 d)],[.box [u64 v.2] false]⟩ : St)) ?_ ?_
   ·intro ab
    refine Sb <|T0 [0,1,5,6,7,10,11] ?_
    refine Bd fun i q =>Te [0,1,5,6,7,10,11] (An (l:=[]) (m:=[(17,153,[u64 b,u64 b,.ref 0 0],[.box [u64 e] false],_,_)]) trivial ⟨(wc (Kh q) [0]),trivial⟩) Ev ?_
    refine Bd fun ac s =>Ck fun t =>Lt fun u w =>Te (fr':=[(0,_),(1,_),(5,_),(6,_),(10,_),(11,_),(26,.bool u)]) [0,1,5,6,10,11,26] (o1 20 (Jz s)) (Ev (by simp only [go_sem,t,w];exact Al)) ?_
    refine Cd ?_ ?_
    ·refine Bd fun ad x =>Fe [0,1,5,6,10,11] (An (l:=[]) (m:=[(30,153,[u64 i.1,u64 a,.ref 0 0],[.box [u64 i.2] false],_,_)]) trivial ⟨(wc (Kh x) [0]),trivial⟩) Ev ?_
     exact Bn <|Jm (ws [0])
    ·exact Sk <|Bn <|Jm (ws [0])
   rintro ⟨ae,af⟩
   refine F0 [0,1,5,6,10,11] ?_
   exact Ln (ws [0])
  ·refine Sx <|Tx <|Ly p o <|Bx <|?_
   exact Jm ((ws (l':=[(6,u64 b)]) (σ':=[]) []).trans (ws []))
 intro g
 refine T0 [4] ?_
 exact Sr <|Rr
theorem Uj {c r} (h : H7 c = some r) : Con B 43 [u64 c] [] (fun r' σ' => r' = .bool r∧σ' = []):=by
 refine Cw 14 [.tmp 2] Tryz.func43 (fun F hE => ?_) h
 unfold H7
 refine T0 [0] ?_
 refine Tw [2] (fun d => ⟨Au 14 [(2,.bool d)],[]⟩) ?_ ?_
 ·intro _
  refine Sp (fun a => ?_) fun a => ?_
  ·refine Sp (fun b => ?_) fun b => ?_
   ·refine Bd fun f e => ?_
    exact Lf (o1 11 (Yi e)) (Ev (by simp only [go_sem,a,b];exact Al)) (ws [])
   ·exact Lf Ac (Ev (by simp only [go_sem,a,b];exact Al)) (ws [])
  ·exact Lf Ac (Ev (by simp only [go_sem,a];exact Al)) (ws [])
 intro d
 exact Sr <|Rr
theorem Ap {b c d r} (h : A2 b c d = some r) : Con B 41 [i64 b,i64 c,i64 d] [] (fun r' σ' => r' = .bool r∧σ' = []):=by
 refine Cw 15 [.tmp 6] Tryz.func41 (fun F hE => ?_) h
 unfold A2
 refine T0 [0,1,2] ?_
 refine Tw [6] (fun e => ⟨Au 15 [(6,.bool e)],[]⟩) ?_ ?_
 ·intro _
  refine Sp (fun a => ?_) fun a => ?_
  ·exact Lf Ac (Ev (by simp only [go_sem,a];exact Al)) (ws [])
  ·exact Lf Ac (Ev (by simp only [go_sem,a];exact Al)) (ws [])
 intro e
 exact Sr <|Rr
theorem A0 {a b r} (h : A7 a b = some r) : Con B 88 [.bool a,.ref 0 0] [.box [i64 b] false] (fun r' σ' => r' = .tup []∧σ' = [.box [i64 r] false]):=by
 refine Co 1 5 [] Tryz.func88 (fun F hE => ?_) h
 unfold A7
 refine T0 [1,4] ?_
 refine Cd ?_ ?_
 ·refine F0 [] ?_
  exact Ro [0]
 ·exact Sk <|Ro [0]
theorem R6 {a r} (h : Im a = some r) : Con B 40 [.agg [.sl false (L Aa a.Zm1),.sl false (L Af a.Zn1),.sl false (L Aj a.Zo1),.sl false (L Ai a.Zp1)]] [] (fun r' σ' => r' = i64 r∧σ' = []):=by
 refine Cw 206 [.tmp 2] Tryz.func40 (fun F hE => ?_) h
 unfold Im
 refine T0 [1] ?_
 refine Sq ?_
 refine Tw [1,38] (fun aI => ⟨Au 206 [(1,.ref 0 0),(38,.bool aI)],[.box [.sl false (L Aa a.Zm1),.sl false (L Af a.Zn1),.sl false (L Aj a.Zo1),.sl false (L Ai a.Zp1)] false]⟩) ?_ ?_
 ·intro _
  refine Sp (fun aa => ?_) fun aa => ?_
  ·exact Lf Ac (Ev (by simp only [go_sem,aa];exact Al)) (ws [0])
  ·refine Sp (fun aj => ?_) fun aj => ?_
   ·exact Lf Ac (Ev (by simp only [go_sem,aa,aj];exact Al)) (ws [0])
   ·refine Sp (fun au => ?_) fun au => ?_
    ·exact Lf Ac (Ev (by simp only [go_sem,aa,aj,au];exact Al)) (ws [0])
    ·exact Lf Ac (Ev (by simp only [go_sem,aa,aj,au];exact Al)) (ws [0])
 intro aI
 refine Cd ?_ ?_
 ·refine T0 [2] ?_
  exact Sr <|Tr <|Rr
 ·refine Sk <|Tn <|T0 [1,3] ?_
  refine T0 [1,3,4] ?_
  refine Ja (fun aJ => ⟨Au 206 [(1,.ref 0 0),(3,.ref 1 0),(4,.fn 88 [.ref 1 0])],[.box [.sl false (L Aa a.Zm1),.sl false (L Af a.Zn1),.sl false (L Aj a.Zo1),.sl false (L Ai a.Zp1)] false,.box [i64 aJ] false]⟩) ?_ ?_
  ·intro cf
   refine T0 [1,3,4,41,42,43] ?_
   refine Sb ?_
   refine Lo (fun (v : Int×Int) => (⟨Au 206 [(1,.ref 0 0),(3,.ref 1 0),(4,.fn 88 [.ref 1 0]),(41,.sl false (L Aa a.Zm1)),(42,i64 (a.Zm1.length : Int)),(43,i64 v.1)],[.box [.sl false (L Aa a.Zm1),.sl false (L Af a.Zn1),.sl false (L Aj a.Zo1),.sl false (L Ai a.Zp1)] false,.box [i64 v.2] false]⟩ : St)) (ws [0,1]) ?_
   rintro ⟨x,aK⟩ cg a2 a3 a4
   show D1 a x aK = some a2→_
   unfold D1
   refine T0 [1,3,4,41,42,43,44] ?_
   refine Sq <|Cd ?_ ?_
   ·refine Sk <|Tn <|?_
    refine Ja (fun aL => ⟨Au 206 [(1,.ref 0 0),(3,.ref 1 0),(4,.fn 88 [.ref 1 0]),(41,.sl false (L Aa a.Zm1)),(42,i64 (a.Zm1.length : Int)),(43,i64 x)],[.box [.sl false (L Aa a.Zm1),.sl false (L Af a.Zn1),.sl false (L Aj a.Zo1),.sl false (L Ai a.Zp1)] false,.box [i64 aL] false]⟩) ?_ ?_
    ·intro ch
     refine Sb <|Ck fun a5 =>Lt fun d a6 =>Lt fun e a7 =>Lt fun f a8 =>Lt fun g a9 =>Lt fun i ba =>Lt fun j bb =>Lt fun k bc =>Lt fun n bd =>Te (σ':=[_,_,.box [i64 d,i64 e,i64 f,i64 g,i64 i,u64 j,i64 k,i64 n] false]) [1,3,4,6,41,42,43] Ac (Ev (by simp only [go_sem,qR a5,a6,a7,a8,a9,ba,bb,bc,bd];exact Al)) ?_
     refine Ja (fun ab => ⟨Au 206 [(1,.ref 0 0),(3,.ref 1 0),(4,.fn 88 [.ref 1 0]),(6,.ref 2 0),(41,.sl false (L Aa a.Zm1)),(42,i64 (a.Zm1.length : Int)),(43,i64 x)],[.box [.sl false (L Aa a.Zm1),.sl false (L Af a.Zn1),.sl false (L Aj a.Zo1),.sl false (L Ai a.Zp1)] false,.box [i64 ab] false,.box [i64 d,i64 e,i64 f,i64 g,i64 i,u64 j,i64 k,i64 n] false]⟩) ?_ ?_
     ·intro ci
      refine Lt fun av be =>Lt fun o bf =>Te (fr':=[(1,_),(3,_),(4,_),(6,_),(41,_),(42,_),(43,_),(55,.bs true 3 (o.length) 0 (o.length)),(56,i64 av),(57,_)]) (σ':=[_,_,_,.buf 1 (L Jk o) false]) [1,3,4,6,41,42,43,55,56,57] Ac (Ev (by simp only [go_sem,be,bf];exact Al)) ?_
      refine Sb ?_
      refine Lo (fun (v : Int×Int) => (⟨Au 206 [(1,.ref 0 0),(3,.ref 1 0),(4,.fn 88 [.ref 1 0]),(6,.ref 2 0),(41,.sl false (L Aa a.Zm1)),(42,i64 (a.Zm1.length : Int)),(43,i64 x),(55,.bs true 3 (o.length) 0 (o.length)),(56,i64 av),(57,i64 v.1)],[.box [.sl false (L Aa a.Zm1),.sl false (L Af a.Zn1),.sl false (L Aj a.Zo1),.sl false (L Ai a.Zp1)] false,.box [i64 v.2] false,.box [i64 d,i64 e,i64 f,i64 g,i64 i,u64 j,i64 k,i64 n] false,.buf 1 (L Jk o) false]⟩ : St)) (ws [0,1,2,3]) ?_
      rintro ⟨bg,aw⟩ cj bh bi bj
      show Ek av o bg aw = some bh→_
      unfold Ek
      refine T0 [1,3,4,6,41,42,43,55,56,57,58] ?_
      refine Sq <|Cd ?_ ?_
      ·refine Sk <|Tn <|Sq <|Sb <|Ck fun bk =>Te [1,3,4,6,8,41,42,43,55,56,57] Ac (Ev (by simp only [go_sem,qR bk];exact Al)) ?_
       refine Bd fun bl bm =>Bd fun ck bn =>Fe [1,3,4,6,41,42,43,55,56,57] (An (l:=[(63,_,_,_)]) (m:=[(64,88,[.bool bl,.ref 1 0],[.box [.sl false (L Aa a.Zm1),.sl false (L Af a.Zn1),.sl false (L Aj a.Zo1),.sl false (L Ai a.Zp1)] false,.box [i64 aw] false,.box [i64 d,i64 e,i64 f,i64 g,i64 i,u64 j,i64 k,i64 n] false,.buf 1 (L Jk o) false],_,_)]) ⟨Ap  bm,trivial⟩ ⟨(wc (A0 bn) [1]),trivial⟩) Ev ?_
       refine Bn <|Tn <|F0 [1,3,4,6,41,42,43,55,56,57] ?_
       exact Ln (ws [0,1,2,3])
      ·refine Sx <|Tx <|Ly bj bi <|Bx <|?_
       exact Jm ((ws (l':=[(1,.ref 0 0),(3,.ref 1 0),(4,.fn 88 [.ref 1 0]),(6,.ref 2 0),(41,.sl false (L Aa a.Zm1)),(42,i64 (a.Zm1.length : Int)),(43,i64 x)]) (σ':=[.box [.sl false (L Aa a.Zm1),.sl false (L Af a.Zn1),.sl false (L Aj a.Zo1),.sl false (L Ai a.Zp1)] false,.box [i64 aw] false,.box [i64 d,i64 e,i64 f,i64 g,i64 i,u64 j,i64 k,i64 n] false]) [0,1,2]).trans (ws [0,1,2]))
     intro ab
     refine Fw [1,3,4,41,42,43] (fun aM => ⟨Au 206 [(1,.ref 0 0),(3,.ref 1 0),(4,.fn 88 [.ref 1 0]),(41,.sl false (L Aa a.Zm1)),(42,i64 (a.Zm1.length : Int)),(43,i64 x)],[.box [.sl false (L Aa a.Zm1),.sl false (L Af a.Zn1),.sl false (L Aj a.Zo1),.sl false (L Ai a.Zp1)] false,.box [i64 aM] false]⟩) ?_ ?_
     ·intro _
      refine Bd fun cl ax => ?_
      refine Sp (fun ak => ?_) fun ak => ?_
      ·refine Bd fun cm aN => ?_
       refine Sp (fun ay => ?_) fun ay => ?_
       ·refine Bd fun bo bp =>Bd fun cn bq =>?_
        exact Lf (An (l:=[(69,_,_,_),(73,_,_,_),(78,_,_,_)]) (m:=[(80,88,[.bool bo,.ref 1 0],[.box [.sl false (L Aa a.Zm1),.sl false (L Af a.Zn1),.sl false (L Aj a.Zo1),.sl false (L Ai a.Zp1)] false,.box [i64 ab] false,.box [i64 d,i64 e,i64 f,i64 g,i64 i,u64 j,i64 k,i64 n] false],_,_)]) ⟨Ap  ax,Ap  aN,Ap  bp,trivial⟩ ⟨(wc (A0 bq) [1]),trivial⟩) (Ev (by simp only [go_sem,ak,ay];exact Al)) (ws [0,1])
       ·refine Bd fun co br => ?_
        exact Lf (An (l:=[(69,_,_,_),(73,_,_,_)]) (m:=[(80,88,[.bool false,.ref 1 0],[.box [.sl false (L Aa a.Zm1),.sl false (L Af a.Zn1),.sl false (L Aj a.Zo1),.sl false (L Ai a.Zp1)] false,.box [i64 ab] false,.box [i64 d,i64 e,i64 f,i64 g,i64 i,u64 j,i64 k,i64 n] false],_,_)]) ⟨Ap  ax,Ap  aN,trivial⟩ ⟨(wc (A0 br) [1]),trivial⟩) (Ev (by simp only [go_sem,ak,ay];exact Al)) (ws [0,1])
      ·refine Bd fun cp bt => ?_
       exact Lf (An (l:=[(69,_,_,_)]) (m:=[(80,88,[.bool false,.ref 1 0],[.box [.sl false (L Aa a.Zm1),.sl false (L Af a.Zn1),.sl false (L Aj a.Zo1),.sl false (L Ai a.Zp1)] false,.box [i64 ab] false,.box [i64 d,i64 e,i64 f,i64 g,i64 i,u64 j,i64 k,i64 n] false],_,_)]) ⟨Ap  ax,trivial⟩ ⟨(wc (A0 bt) [1]),trivial⟩) (Ev (by simp only [go_sem,ak];exact Al)) (ws [0,1])
     intro aM
     exact Bn <|Jm (ws [0,1])
    intro aL
    refine F0 [1,3,4,41,42,43] ?_
    exact Ln (ws [0,1])
   ·refine Sx <|Tx <|Ly a4 a3 <|Bx <|?_
    exact Jm ((ws (l':=[(1,.ref 0 0),(3,.ref 1 0),(4,.fn 88 [.ref 1 0])]) (σ':=[.box [.sl false (L Aa a.Zm1),.sl false (L Af a.Zn1),.sl false (L Aj a.Zo1),.sl false (L Ai a.Zp1)] false,.box [i64 aK] false]) [0,1]).trans (ws [0,1]))
  intro aJ
  refine Ja (fun aO => ⟨Au 206 [(1,.ref 0 0),(3,.ref 1 0),(4,.fn 88 [.ref 1 0])],[.box [.sl false (L Aa a.Zm1),.sl false (L Af a.Zn1),.sl false (L Aj a.Zo1),.sl false (L Ai a.Zp1)] false,.box [i64 aO] false]⟩) ?_ ?_
  ·intro cq
   refine T0 [1,3,4,83,84,85] ?_
   refine Sb ?_
   refine Lo (fun (v : Int×Int) => (⟨Au 206 [(1,.ref 0 0),(3,.ref 1 0),(4,.fn 88 [.ref 1 0]),(83,.sl false (L Af a.Zn1)),(84,i64 (a.Zn1.length : Int)),(85,i64 v.1)],[.box [.sl false (L Aa a.Zm1),.sl false (L Af a.Zn1),.sl false (L Aj a.Zo1),.sl false (L Ai a.Zp1)] false,.box [i64 v.2] false]⟩ : St)) (ws [0,1]) ?_
   rintro ⟨az,ac⟩ cr bu bv bw
   show Dt a az ac = some bu→_
   unfold Dt
   refine T0 [1,3,4,83,84,85,86] ?_
   refine Sq <|Cd ?_ ?_
   ·refine Sk <|Tn <|Sq <|Sb <|Ck fun bx =>Lt fun p bz =>Lt fun q bA =>Lt fun s bB =>Lt fun t bC =>Lt fun u bD =>Te (σ':=[_,_,.box [i64 p,i64 q,i64 s,i64 t,i64 u] false]) [1,3,4,10,83,84,85] Ac (Ev (by simp only [go_sem,qR bx,bz,bA,bB,bC,bD];exact Al)) ?_
    refine Tw [1,3,4,10,83,84,85] (fun al => ⟨Au 206 [(1,.ref 0 0),(3,.ref 1 0),(4,.fn 88 [.ref 1 0]),(10,.ref 2 0),(83,.sl false (L Af a.Zn1)),(84,i64 (a.Zn1.length : Int)),(85,i64 az)],[.box [.sl false (L Aa a.Zm1),.sl false (L Af a.Zn1),.sl false (L Aj a.Zo1),.sl false (L Ai a.Zp1)] false,.box [i64 al] false,.box [i64 p,i64 q,i64 s,i64 t,i64 u] false]⟩) ?_ ?_
    ·intro _
     refine Bd fun cs aA => ?_
     refine Sp (fun am => ?_) fun am => ?_
     ·refine Bd fun ct aP => ?_
      refine Sp (fun aB => ?_) fun aB => ?_
      ·refine Bd fun bE bF =>Bd fun cu bG =>?_
       exact Lf (An (l:=[(96,_,_,_),(100,_,_,_),(105,_,_,_)]) (m:=[(107,88,[.bool bE,.ref 1 0],[.box [.sl false (L Aa a.Zm1),.sl false (L Af a.Zn1),.sl false (L Aj a.Zo1),.sl false (L Ai a.Zp1)] false,.box [i64 ac] false,.box [i64 p,i64 q,i64 s,i64 t,i64 u] false],_,_)]) ⟨Ap  aA,Ap  aP,Ap  bF,trivial⟩ ⟨(wc (A0 bG) [1]),trivial⟩) (Ev (by simp only [go_sem,am,aB];exact Al)) (ws [0,1,2])
      ·refine Bd fun cv bH => ?_
       exact Lf (An (l:=[(96,_,_,_),(100,_,_,_)]) (m:=[(107,88,[.bool false,.ref 1 0],[.box [.sl false (L Aa a.Zm1),.sl false (L Af a.Zn1),.sl false (L Aj a.Zo1),.sl false (L Ai a.Zp1)] false,.box [i64 ac] false,.box [i64 p,i64 q,i64 s,i64 t,i64 u] false],_,_)]) ⟨Ap  aA,Ap  aP,trivial⟩ ⟨(wc (A0 bH) [1]),trivial⟩) (Ev (by simp only [go_sem,am,aB];exact Al)) (ws [0,1,2])
     ·refine Bd fun cw bI => ?_
      exact Lf (An (l:=[(96,_,_,_)]) (m:=[(107,88,[.bool false,.ref 1 0],[.box [.sl false (L Aa a.Zm1),.sl false (L Af a.Zn1),.sl false (L Aj a.Zo1),.sl false (L Ai a.Zp1)] false,.box [i64 ac] false,.box [i64 p,i64 q,i64 s,i64 t,i64 u] false],_,_)]) ⟨Ap  aA,trivial⟩ ⟨(wc (A0 bI) [1]),trivial⟩) (Ev (by simp only [go_sem,am];exact Al)) (ws [0,1,2])
    intro al
    refine Fw [1,3,4,83,84,85] (fun aQ => ⟨Au 206 [(1,.ref 0 0),(3,.ref 1 0),(4,.fn 88 [.ref 1 0]),(83,.sl false (L Af a.Zn1)),(84,i64 (a.Zn1.length : Int)),(85,i64 az)],[.box [.sl false (L Aa a.Zm1),.sl false (L Af a.Zn1),.sl false (L Aj a.Zo1),.sl false (L Ai a.Zp1)] false,.box [i64 aQ] false]⟩) ?_ ?_
    ·intro _
     refine Bd fun cx aR => ?_
     refine Sp (fun aC => ?_) fun aC => ?_
     ·refine Bd fun bJ bK =>Bd fun cy bL =>?_
      exact Lf (An (l:=[(111,_,_,_),(115,_,_,_)]) (m:=[(117,88,[.bool bJ,.ref 1 0],[.box [.sl false (L Aa a.Zm1),.sl false (L Af a.Zn1),.sl false (L Aj a.Zo1),.sl false (L Ai a.Zp1)] false,.box [i64 al] false,.box [i64 p,i64 q,i64 s,i64 t,i64 u] false],_,_)]) ⟨Ap  aR,Ap  bK,trivial⟩ ⟨(wc (A0 bL) [1]),trivial⟩) (Ev (by simp only [go_sem,aC];exact Al)) (ws [0,1])
     ·refine Bd fun cz bM => ?_
      exact Lf (An (l:=[(111,_,_,_)]) (m:=[(117,88,[.bool false,.ref 1 0],[.box [.sl false (L Aa a.Zm1),.sl false (L Af a.Zn1),.sl false (L Aj a.Zo1),.sl false (L Ai a.Zp1)] false,.box [i64 al] false,.box [i64 p,i64 q,i64 s,i64 t,i64 u] false],_,_)]) ⟨Ap  aR,trivial⟩ ⟨(wc (A0 bM) [1]),trivial⟩) (Ev (by simp only [go_sem,aC];exact Al)) (ws [0,1])
    intro aQ
    refine Bn <|Tn <|F0 [1,3,4,83,84,85] ?_
    exact Ln (ws [0,1])
   ·refine Sx <|Tx <|Ly bw bv <|Bx <|?_
    exact Jm ((ws (l':=[(1,.ref 0 0),(3,.ref 1 0),(4,.fn 88 [.ref 1 0])]) (σ':=[.box [.sl false (L Aa a.Zm1),.sl false (L Af a.Zn1),.sl false (L Aj a.Zo1),.sl false (L Ai a.Zp1)] false,.box [i64 ac] false]) [0,1]).trans (ws [0,1]))
  intro aO
  refine Ja (fun aS => ⟨Au 206 [(1,.ref 0 0),(3,.ref 1 0),(4,.fn 88 [.ref 1 0])],[.box [.sl false (L Aa a.Zm1),.sl false (L Af a.Zn1),.sl false (L Aj a.Zo1),.sl false (L Ai a.Zp1)] false,.box [i64 aS] false]⟩) ?_ ?_
  ·intro cA
   refine T0 [1,3,4,120,121,122] ?_
   refine Sb ?_
   refine Lo (fun (v : Int×Int) => (⟨Au 206 [(1,.ref 0 0),(3,.ref 1 0),(4,.fn 88 [.ref 1 0]),(120,.sl false (L Aj a.Zo1)),(121,i64 (a.Zo1.length : Int)),(122,i64 v.1)],[.box [.sl false (L Aa a.Zm1),.sl false (L Af a.Zn1),.sl false (L Aj a.Zo1),.sl false (L Ai a.Zp1)] false,.box [i64 v.2] false]⟩ : St)) (ws [0,1]) ?_
   rintro ⟨aT,y⟩ cB bN bO bP
   show Du a aT y = some bN→_
   unfold Du
   refine T0 [1,3,4,120,121,122,123] ?_
   refine Sq <|Cd ?_ ?_
   ·refine Sk <|Tn <|Sq <|Sb <|Ck fun bQ =>Lt fun ad bR =>Lt fun ae bS =>Lt fun af bT =>Te (σ':=[_,_,.box [i64 ad,i64 ae,i64 af] false]) [1,3,4,12,120,121,122] Ac (Ev (by simp only [go_sem,qR bQ,bR,bS,bT];exact Al)) ?_
    refine Fw [1,3,4,120,121,122] (fun aU => ⟨Au 206 [(1,.ref 0 0),(3,.ref 1 0),(4,.fn 88 [.ref 1 0]),(120,.sl false (L Aj a.Zo1)),(121,i64 (a.Zo1.length : Int)),(122,i64 aT)],[.box [.sl false (L Aa a.Zm1),.sl false (L Af a.Zn1),.sl false (L Aj a.Zo1),.sl false (L Ai a.Zp1)] false,.box [i64 aU] false]⟩) ?_ ?_
    ·intro _
     refine Bd fun cC an => ?_
     refine Sp (fun ag => ?_) fun ag => ?_
     ·refine Bd fun cD aD => ?_
      refine Sp (fun ao => ?_) fun ao => ?_
      ·refine Sp (fun aE => ?_) fun aE => ?_
       ·refine Bd fun bU bV =>Bd fun cE bW =>?_
        exact Lf (An (l:=[(133,_,_,_),(141,_,_,_),(153,_,_,_)]) (m:=[(155,88,[.bool bU,.ref 1 0],[.box [.sl false (L Aa a.Zm1),.sl false (L Af a.Zn1),.sl false (L Aj a.Zo1),.sl false (L Ai a.Zp1)] false,.box [i64 y] false,.box [i64 ad,i64 ae,i64 af] false],_,_)]) ⟨Ap  an,Ap  aD,Ap  bV,trivial⟩ ⟨(wc (A0 bW) [1]),trivial⟩) (Ev (by simp only [go_sem,ag,ao,aE];exact Al)) (ws [0,1])
       ·refine Bd fun cF bX => ?_
        exact Lf (An (l:=[(133,_,_,_),(141,_,_,_)]) (m:=[(155,88,[.bool false,.ref 1 0],[.box [.sl false (L Aa a.Zm1),.sl false (L Af a.Zn1),.sl false (L Aj a.Zo1),.sl false (L Ai a.Zp1)] false,.box [i64 y] false,.box [i64 ad,i64 ae,i64 af] false],_,_)]) ⟨Ap  an,Ap  aD,trivial⟩ ⟨(wc (A0 bX) [1]),trivial⟩) (Ev (by simp only [go_sem,ag,ao,aE];exact Al)) (ws [0,1])
      ·refine Bd fun cG bY => ?_
       exact Lf (An (l:=[(133,_,_,_),(141,_,_,_)]) (m:=[(155,88,[.bool false,.ref 1 0],[.box [.sl false (L Aa a.Zm1),.sl false (L Af a.Zn1),.sl false (L Aj a.Zo1),.sl false (L Ai a.Zp1)] false,.box [i64 y] false,.box [i64 ad,i64 ae,i64 af] false],_,_)]) ⟨Ap  an,Ap  aD,trivial⟩ ⟨(wc (A0 bY) [1]),trivial⟩) (Ev (by simp only [go_sem,ag,ao];exact Al)) (ws [0,1])
     ·refine Bd fun cH bZ => ?_
      exact Lf (An (l:=[(133,_,_,_)]) (m:=[(155,88,[.bool false,.ref 1 0],[.box [.sl false (L Aa a.Zm1),.sl false (L Af a.Zn1),.sl false (L Aj a.Zo1),.sl false (L Ai a.Zp1)] false,.box [i64 y] false,.box [i64 ad,i64 ae,i64 af] false],_,_)]) ⟨Ap  an,trivial⟩ ⟨(wc (A0 bZ) [1]),trivial⟩) (Ev (by simp only [go_sem,ag];exact Al)) (ws [0,1])
    intro aU
    refine Bn <|Tn <|F0 [1,3,4,120,121,122] ?_
    exact Ln (ws [0,1])
   ·refine Sx <|Tx <|Ly bP bO <|Bx <|?_
    exact Jm ((ws (l':=[(1,.ref 0 0),(3,.ref 1 0),(4,.fn 88 [.ref 1 0])]) (σ':=[.box [.sl false (L Aa a.Zm1),.sl false (L Af a.Zn1),.sl false (L Aj a.Zo1),.sl false (L Ai a.Zp1)] false,.box [i64 y] false]) [0,1]).trans (ws [0,1]))
  intro aS
  refine T0 [1,3,4,13] ?_
  refine Ja (fun aV => ⟨Au 206 [(3,.ref 0 0)],[.box [i64 aV] false]⟩) ?_ ?_
  ·intro cI
   refine T0 [3,4,13,158,159,160] ?_
   refine Sb ?_
   refine Lo (fun ⟨ah,z,w⟩ => ⟨Au 206 [(3,.ref 0 0),(4,.fn 88 [.ref 0 0]),(13,.ref 1 0),(158,.sl false (L Ai a.Zp1)),(159,i64 (a.Zp1.length : Int)),(160,i64 ah)],[.box [i64 z] false,.box (C1 AV.bool w.l) false]⟩) (ws [1,2]) ?_
   rintro ⟨ah,z,w⟩ cJ b0 b1 b2
   show D2 a ah z w = some b0→_
   unfold D2
   refine T0 [3,4,13,158,159,160,161] ?_
   refine Sq <|Cd ?_ ?_
   ·refine Sk <|Tn <|?_
    refine Ja (fun (v : Int×Arr Bool 4096) => (⟨Au 206 [(3,.ref 0 0),(4,.fn 88 [.ref 0 0]),(13,.ref 1 0),(158,.sl false (L Ai a.Zp1)),(159,i64 (a.Zp1.length : Int)),(160,i64 ah)],[.box [i64 v.1] false,.box (C1 AV.bool v.2.l) false]⟩ : St)) ?_ ?_
    ·intro cK
     refine Sb <|Ck fun b3 =>Lt fun b b4 =>Lt fun c b5 =>Lt fun ap b6 =>Te (σ':=[_,_,.box [i64 b,i64 c,i64 ap] false]) [3,4,13,15,158,159,160] Ac (Ev (by simp only [go_sem,qR b3,b4,b5,b6];exact Al)) ?_
     refine Tw [3,4,13,15,16,158,159,160] (fun aF => ⟨Au 206 [(3,.ref 0 0),(4,.fn 88 [.ref 0 0]),(13,.ref 1 0),(15,.ref 2 0),(16,.bool aF),(158,.sl false (L Ai a.Zp1)),(159,i64 (a.Zp1.length : Int)),(160,i64 ah)],[.box [i64 z] false,.box (C1 AV.bool w.l) false,.box [i64 b,i64 c,i64 ap] false]⟩) ?_ ?_
     ·intro _
      refine Bd fun cL aq => ?_
      refine Sp (fun ai => ?_) fun ai => ?_
      ·refine Bd fun cM aG => ?_
       refine Sp (fun ar => ?_) fun ar => ?_
       ·refine Sp (fun aH => ?_) fun aH => ?_
        ·refine Bd fun cN b7 => ?_
         exact Lf (Gf (l:=[(166,_,_,_),(170,_,_,_),(182,_,_,_)]) ⟨Ap  aq,Ap  aG,Ap  b7,trivial⟩) (Ev (by simp only [go_sem,ai,ar,aH];exact Al)) (ws [0,1,2])
        ·exact Lf (o2 166 (Ap aq) 170 (Ap aG)) (Ev (by simp only [go_sem,ai,ar,aH];exact Al)) (ws [0,1,2])
       ·exact Lf (o2 166 (Ap aq) 170 (Ap aG)) (Ev (by simp only [go_sem,ai,ar];exact Al)) (ws [0,1,2])
      ·exact Lf (o1 166 (Ap aq)) (Ev (by simp only [go_sem,ai];exact Al)) (ws [0,1,2])
     intro aF
     refine Bd fun b8 b9 =>Te [3,4,13,15,16,158,159,160] (An (l:=[]) (m:=[(186,88,[.bool aF,.ref 0 0],[.box [i64 z] false,.box (C1 AV.bool w.l) false,.box [i64 b,i64 c,i64 ap] false],_,_)]) trivial ⟨(wc (A0 b9) [0]),trivial⟩) Ev ?_
     refine T0 [3,4,13,15,158,159,160,187] ?_
     refine Cd ?_ ?_
     ·refine Ck fun aW =>Ck fun aX =>?_
      have aY : b.toNat * 64 + c.toNat < 4096:=AfX aW.2 aX.2
      have ca : b.toNat * 64 + c.toNat≤4095:=Nat.le_of_lt_succ aY
      refine Bd fun cO cb => ?_
      refine Dq [[],[],[1],[],[3],[1,2],[1,2,3,4,5],[1,2,3,4,5,6],[1,2,3,4,5,6,7],[0,1,2,3,4,5,6,7,8]] [3,4,13,15,158,159,160] (An (l:=[]) (m:=[(197,88,[.bool (!(w.get (b.toNat * 64 + c.toNat))),.ref 0 0],[.box [i64 b8] false,.box (C1 AV.bool w.l) false,.box [i64 b,i64 c,i64 ap] false],_,_)]) trivial ⟨(wc (A0 cb) [0]),trivial⟩) (Ev (by simp only [go_sem,qR aW,qR aX,aY,ca];exact Al)) ?_
      refine Ck fun aZ =>Ck fun a0 =>?_
      have a1 : b.toNat * 64 + c.toNat < 4096:=AfX aZ.2 a0.2
      have cc : b.toNat * 64 + c.toNat≤4095:=Nat.le_of_lt_succ a1
      refine Lt fun cd ce =>Ge (σ':=[_,.box (C1 AV.bool cd.l) false,_]) [[],[0],[],[2],[0,1],[0,1,2,3,4],[0,1,2,3,4,5]] [3,4,13,158,159,160] Ac (Ev (by simp only [go_sem,qR aZ,qR a0,a1,cc,ce];exact Al)) ?_
      exact Bn <|Jm (ws [0,1])
     ·exact Sk <|Bn <|Jm (ws [0,1])
    rintro ⟨cP,cQ⟩
    refine F0 [3,4,13,158,159,160] ?_
    exact Ln (ws [0,1])
   ·refine Sx <|Tx <|Ly b2 b1 <|Bx <|?_
    exact Jm ((ws (l':=[(3,.ref 0 0)]) (σ':=[.box [i64 z] false]) [0]).trans (ws [0]))
  intro aV
  refine T0 [2] ?_
  exact Sr <|Rr
theorem Nj {a r} (h : Ea a = some r) : Con B 16 [.agg [.sl false (L Ah a.Zs1.Zu),.sl false (L Ak a.Zs1.Zv),.sl false (L Aa a.Zt1.Zm1),.sl false (L Af a.Zt1.Zn1),.sl false (L Aj a.Zt1.Zo1),.sl false (L Ai a.Zt1.Zp1),.sl false (L Ag a.Zu1),.sl false (L Ae a.Zv1),.sl false (L Ab a.Zw1)]] [] (fun r' σ' => r' = i64 r∧σ' = []):=by
 refine Cw 193 [.tmp 2] Tryz.func16 (fun F hE => ?_) h
 unfold Ea
 refine T0 [1] ?_
 refine Sq <|Bd fun b5 ax =>Te [1,3] (o1 22 (P2 ax)) Ev ?_
 refine T0 [1,3,24] ?_
 refine Cd ?_ ?_
 ·refine T0 [2] ?_
  exact Sr <|Tr <|Rr
 ·refine Sk <|Tn <|Sq <|Bd fun b6 ay =>Te [1,4] (o1 28 (R6 ay)) Ev ?_
  refine T0 [1,4,30] ?_
  refine Cd ?_ ?_
  ·refine T0 [2] ?_
   exact Sr <|Tr <|Rr
  ·refine Sk <|Tn <|Sq <|?_
   refine Tw [1,47] (fun t => ⟨Au 193 [(1,.ref 0 0),(47,.bool t)],[.box [.sl false (L Ah a.Zs1.Zu),.sl false (L Ak a.Zs1.Zv),.sl false (L Aa a.Zt1.Zm1),.sl false (L Af a.Zt1.Zn1),.sl false (L Aj a.Zt1.Zo1),.sl false (L Ai a.Zt1.Zp1),.sl false (L Ag a.Zu1),.sl false (L Ae a.Zv1),.sl false (L Ab a.Zw1)] false]⟩) ?_ ?_
   ·intro _
    refine Sp (fun e => ?_) fun e => ?_
    ·exact Lf Ac (Ev (by simp only [go_sem,e];exact Al)) (ws [0])
    ·refine Sp (fun l => ?_) fun l => ?_
     ·exact Lf Ac (Ev (by simp only [go_sem,e,l];exact Al)) (ws [0])
     ·exact Lf Ac (Ev (by simp only [go_sem,e,l];exact Al)) (ws [0])
   intro t
   refine Cd ?_ ?_
   ·refine T0 [2] ?_
    exact Sr <|Tr <|Rr
   ·refine Sk <|Tn <|Lt fun b az =>De (fr':=[(1,_),(5,_),(6,i64 b)]) [[],[0],[0,1],[],[3],[3,4],[0,1,2],[0,1,2,3,4,5,6]] [1,5,6] Ac (Ev (by simp only [go_sem,az];exact Al)) ?_
    refine T0 [1,5,6,7] ?_
    refine Ja (fun u => ⟨Au 193 [(1,.ref 0 0),(5,.sl false (L Ah a.Zs1.Zu)),(6,i64 b),(7,.bool u)],[.box [.sl false (L Ah a.Zs1.Zu),.sl false (L Ak a.Zs1.Zv),.sl false (L Aa a.Zt1.Zm1),.sl false (L Af a.Zt1.Zn1),.sl false (L Aj a.Zt1.Zo1),.sl false (L Ai a.Zt1.Zp1),.sl false (L Ag a.Zu1),.sl false (L Ae a.Zv1),.sl false (L Ab a.Zw1)] false]⟩) ?_ ?_
    ·intro b7
     refine T0 [1,5,6,7,57,58,59] ?_
     refine Sb ?_
     refine Lo (fun (v : Bool×Int) => (⟨Au 193 [(1,.ref 0 0),(5,.sl false (L Ah a.Zs1.Zu)),(6,i64 b),(7,.bool v.1),(57,.sl false (L Ag a.Zu1)),(58,i64 (a.Zu1.length : Int)),(59,i64 v.2)],[.box [.sl false (L Ah a.Zs1.Zu),.sl false (L Ak a.Zs1.Zv),.sl false (L Aa a.Zt1.Zm1),.sl false (L Af a.Zt1.Zn1),.sl false (L Aj a.Zt1.Zo1),.sl false (L Ai a.Zt1.Zp1),.sl false (L Ag a.Zu1),.sl false (L Ae a.Zv1),.sl false (L Ab a.Zw1)] false]⟩ : St)) (ws [0]) ?_
     rintro ⟨w,x⟩ b8 aA aB aC
     show Cm a w x = some aA→_
     unfold Cm
     refine T0 [1,5,6,7,57,58,59,60] ?_
     refine Sq <|Cd ?_ ?_
     ·refine Sk <|Tn <|Sq <|Sb <|Ck fun aD =>Lt fun aE aF =>Lt fun aG aH =>Lt fun aI aJ =>Te (σ':=[_,.box [i64 aE,i64 aG,i64 aI] false]) [1,5,6,7,9,57,58,59] Ac (Ev (by simp only [go_sem,qR aD,aF,aH,aJ];exact Al)) ?_
      refine Fw [1,5,6,7,57,58,59] (fun y => ⟨Au 193 [(1,.ref 0 0),(5,.sl false (L Ah a.Zs1.Zu)),(6,i64 b),(7,.bool y),(57,.sl false (L Ag a.Zu1)),(58,i64 (a.Zu1.length : Int)),(59,i64 x)],[.box [.sl false (L Ah a.Zs1.Zu),.sl false (L Ak a.Zs1.Zv),.sl false (L Aa a.Zt1.Zm1),.sl false (L Af a.Zt1.Zn1),.sl false (L Aj a.Zt1.Zo1),.sl false (L Ai a.Zt1.Zp1),.sl false (L Ag a.Zu1),.sl false (L Ae a.Zv1),.sl false (L Ab a.Zw1)] false]⟩) ?_ ?_
      ·intro _
       refine Sp (fun c => ?_) fun c => ?_
       ·exact Lf Ac (Ev (by simp only [go_sem,c];exact Al)) (ws [0])
       ·refine Bd fun b9 f => ?_
        refine Sp (fun d => ?_) fun d => ?_
        ·exact Lf (o1 70 (Ap f)) (Ev (by simp only [go_sem,c,d];exact Al)) (ws [0])
        ·refine Sp (fun g => ?_) fun g => ?_
         ·exact Lf (o1 70 (Ap f)) (Ev (by simp only [go_sem,c,d,g];exact Al)) (ws [0])
         ·refine Sp (fun m => ?_) fun m => ?_
          ·exact Lf (o1 70 (Ap f)) (Ev (by simp only [go_sem,c,d,g,m];exact Al)) (ws [0])
          ·exact Lf (o1 70 (Ap f)) (Ev (by simp only [go_sem,c,d,g,m];exact Al)) (ws [0])
      intro y
      refine Bn <|Tn <|F0 [1,5,6,7,57,58,59] ?_
      exact Ln (ws [0])
     ·refine Sx <|Tx <|Ly aC aB <|Bx <|?_
      exact Jm ((ws (l':=[(1,.ref 0 0),(5,.sl false (L Ah a.Zs1.Zu)),(6,i64 b),(7,.bool w)]) (σ':=[.box [.sl false (L Ah a.Zs1.Zu),.sl false (L Ak a.Zs1.Zv),.sl false (L Aa a.Zt1.Zm1),.sl false (L Af a.Zt1.Zn1),.sl false (L Aj a.Zt1.Zo1),.sl false (L Ai a.Zt1.Zp1),.sl false (L Ag a.Zu1),.sl false (L Ae a.Zv1),.sl false (L Ab a.Zw1)] false]) [0]).trans (ws [0]))
    intro u
    refine Ja (fun z => ⟨Au 193 [(1,.ref 0 0),(5,.sl false (L Ah a.Zs1.Zu)),(6,i64 b),(7,.bool z)],[.box [.sl false (L Ah a.Zs1.Zu),.sl false (L Ak a.Zs1.Zv),.sl false (L Aa a.Zt1.Zm1),.sl false (L Af a.Zt1.Zn1),.sl false (L Aj a.Zt1.Zo1),.sl false (L Ai a.Zt1.Zp1),.sl false (L Ag a.Zu1),.sl false (L Ae a.Zv1),.sl false (L Ab a.Zw1)] false]⟩) ?_ ?_
    ·intro ca
     refine T0 [1,5,6,7,92,93,94] ?_
     refine Sb ?_
     refine Lo (fun (v : Bool×Int) => (⟨Au 193 [(1,.ref 0 0),(5,.sl false (L Ah a.Zs1.Zu)),(6,i64 b),(7,.bool v.1),(92,.sl false (L Ae a.Zv1)),(93,i64 (a.Zv1.length : Int)),(94,i64 v.2)],[.box [.sl false (L Ah a.Zs1.Zu),.sl false (L Ak a.Zs1.Zv),.sl false (L Aa a.Zt1.Zm1),.sl false (L Af a.Zt1.Zn1),.sl false (L Aj a.Zt1.Zo1),.sl false (L Ai a.Zt1.Zp1),.sl false (L Ag a.Zu1),.sl false (L Ae a.Zv1),.sl false (L Ab a.Zw1)] false]⟩ : St)) (ws [0]) ?_
     rintro ⟨aa,ab⟩ cb aK aL aM
     show Cn a aa ab = some aK→_
     unfold Cn
     refine T0 [1,5,6,7,92,93,94,95] ?_
     refine Sq <|Cd ?_ ?_
     ·refine Sk <|Tn <|Sq <|Sb <|Ck fun aN =>Lt fun aO aP =>Te (σ':=[_,.box [i64 aO] false]) [1,5,6,7,11,92,93,94] Ac (Ev (by simp only [go_sem,qR aN,aP];exact Al)) ?_
      refine Fw [1,5,6,7,92,93,94] (fun ac => ⟨Au 193 [(1,.ref 0 0),(5,.sl false (L Ah a.Zs1.Zu)),(6,i64 b),(7,.bool ac),(92,.sl false (L Ae a.Zv1)),(93,i64 (a.Zv1.length : Int)),(94,i64 ab)],[.box [.sl false (L Ah a.Zs1.Zu),.sl false (L Ak a.Zs1.Zv),.sl false (L Aa a.Zt1.Zm1),.sl false (L Af a.Zt1.Zn1),.sl false (L Aj a.Zt1.Zo1),.sl false (L Ai a.Zt1.Zp1),.sl false (L Ag a.Zu1),.sl false (L Ae a.Zv1),.sl false (L Ab a.Zw1)] false]⟩) ?_ ?_
      ·intro _
       refine Sp (fun i => ?_) fun i => ?_
       ·exact Lf Ac (Ev (by simp only [go_sem,i];exact Al)) (ws [0])
       ·refine Bd fun cc ad => ?_
        refine Sp (fun n => ?_) fun n => ?_
        ·exact Lf (o1 105 (Ap ad)) (Ev (by simp only [go_sem,i,n];exact Al)) (ws [0])
        ·refine Ck fun aQ => ?_
         exact Lf (o1 105 (Ap ad)) (Ev (by simp only [go_sem,i,n,qR aQ];exact Al)) (ws [0])
      intro ac
      refine Bn <|Tn <|F0 [1,5,6,7,92,93,94] ?_
      exact Ln (ws [0])
     ·refine Sx <|Tx <|Ly aM aL <|Bx <|?_
      exact Jm ((ws (l':=[(1,.ref 0 0),(5,.sl false (L Ah a.Zs1.Zu)),(6,i64 b),(7,.bool aa)]) (σ':=[.box [.sl false (L Ah a.Zs1.Zu),.sl false (L Ak a.Zs1.Zv),.sl false (L Aa a.Zt1.Zm1),.sl false (L Af a.Zt1.Zn1),.sl false (L Aj a.Zt1.Zo1),.sl false (L Ai a.Zt1.Zp1),.sl false (L Ag a.Zu1),.sl false (L Ae a.Zv1),.sl false (L Ab a.Zw1)] false]) [0]).trans (ws [0]))
    intro z
    refine Ja (fun ae => ⟨Au 193 [(1,.ref 0 0),(5,.sl false (L Ah a.Zs1.Zu)),(6,i64 b),(7,.bool ae)],[.box [.sl false (L Ah a.Zs1.Zu),.sl false (L Ak a.Zs1.Zv),.sl false (L Aa a.Zt1.Zm1),.sl false (L Af a.Zt1.Zn1),.sl false (L Aj a.Zt1.Zo1),.sl false (L Ai a.Zt1.Zp1),.sl false (L Ag a.Zu1),.sl false (L Ae a.Zv1),.sl false (L Ab a.Zw1)] false]⟩) ?_ ?_
    ·intro cd
     refine T0 [1,5,6,7,120,121,122] ?_
     refine Sb ?_
     refine Lo (fun (v : Bool×Int) => (⟨Au 193 [(1,.ref 0 0),(5,.sl false (L Ah a.Zs1.Zu)),(6,i64 b),(7,.bool v.1),(120,.sl false (L Af a.Zt1.Zn1)),(121,i64 (a.Zt1.Zn1.length : Int)),(122,i64 v.2)],[.box [.sl false (L Ah a.Zs1.Zu),.sl false (L Ak a.Zs1.Zv),.sl false (L Aa a.Zt1.Zm1),.sl false (L Af a.Zt1.Zn1),.sl false (L Aj a.Zt1.Zo1),.sl false (L Ai a.Zt1.Zp1),.sl false (L Ag a.Zu1),.sl false (L Ae a.Zv1),.sl false (L Ab a.Zw1)] false]⟩ : St)) (ws [0]) ?_
     rintro ⟨af,ag⟩ ce aR aS aT
     show Cq a af ag = some aR→_
     unfold Cq
     refine T0 [1,5,6,7,120,121,122,123] ?_
     refine Sq <|Cd ?_ ?_
     ·refine Sk <|Tn <|Sq <|Sb <|Ck fun aU =>Lt fun aV aW =>Lt fun aX aY =>Lt fun aZ a0 =>Lt fun a1 a2 =>Lt fun a3 a4 =>Te (σ':=[_,.box [i64 aV,i64 aX,i64 aZ,i64 a1,i64 a3] false]) [1,5,6,7,13,120,121,122] Ac (Ev (by simp only [go_sem,qR aU,aW,aY,a0,a2,a4];exact Al)) ?_
      refine Fw [1,5,6,7,120,121,122] (fun ah => ⟨Au 193 [(1,.ref 0 0),(5,.sl false (L Ah a.Zs1.Zu)),(6,i64 b),(7,.bool ah),(120,.sl false (L Af a.Zt1.Zn1)),(121,i64 (a.Zt1.Zn1.length : Int)),(122,i64 ag)],[.box [.sl false (L Ah a.Zs1.Zu),.sl false (L Ak a.Zs1.Zv),.sl false (L Aa a.Zt1.Zm1),.sl false (L Af a.Zt1.Zn1),.sl false (L Aj a.Zt1.Zo1),.sl false (L Ai a.Zt1.Zp1),.sl false (L Ag a.Zu1),.sl false (L Ae a.Zv1),.sl false (L Ab a.Zw1)] false]⟩) ?_ ?_
      ·intro _
       refine Sp (fun o => ?_) fun o => ?_
       ·exact Lf Ac (Ev (by simp only [go_sem,o];exact Al)) (ws [0])
       ·exact Lf Ac (Ev (by simp only [go_sem,o];exact Al)) (ws [0])
      intro ah
      refine Bn <|Tn <|F0 [1,5,6,7,120,121,122] ?_
      exact Ln (ws [0])
     ·refine Sx <|Tx <|Ly aT aS <|Bx <|?_
      exact Jm ((ws (l':=[(1,.ref 0 0),(5,.sl false (L Ah a.Zs1.Zu)),(6,i64 b),(7,.bool af)]) (σ':=[.box [.sl false (L Ah a.Zs1.Zu),.sl false (L Ak a.Zs1.Zv),.sl false (L Aa a.Zt1.Zm1),.sl false (L Af a.Zt1.Zn1),.sl false (L Aj a.Zt1.Zo1),.sl false (L Ai a.Zt1.Zp1),.sl false (L Ag a.Zu1),.sl false (L Ae a.Zv1),.sl false (L Ab a.Zw1)] false]) [0]).trans (ws [0]))
    intro ae
    refine Ja (fun ai => ⟨Au 193 [(1,.ref 0 0),(6,i64 b),(7,.bool ai)],[.box [.sl false (L Ah a.Zs1.Zu),.sl false (L Ak a.Zs1.Zv),.sl false (L Aa a.Zt1.Zm1),.sl false (L Af a.Zt1.Zn1),.sl false (L Aj a.Zt1.Zo1),.sl false (L Ai a.Zt1.Zp1),.sl false (L Ag a.Zu1),.sl false (L Ae a.Zv1),.sl false (L Ab a.Zw1)] false]⟩) ?_ ?_
    ·intro cf
     refine T0 [1,6,7,135,136,137] ?_
     refine Sb ?_
     refine Lo (fun (v : Bool×Int) => (⟨Au 193 [(1,.ref 0 0),(6,i64 b),(7,.bool v.1),(135,.sl false (L Ah a.Zs1.Zu)),(136,i64 (a.Zs1.Zu.length : Int)),(137,i64 v.2)],[.box [.sl false (L Ah a.Zs1.Zu),.sl false (L Ak a.Zs1.Zv),.sl false (L Aa a.Zt1.Zm1),.sl false (L Af a.Zt1.Zn1),.sl false (L Aj a.Zt1.Zo1),.sl false (L Ai a.Zt1.Zp1),.sl false (L Ag a.Zu1),.sl false (L Ae a.Zv1),.sl false (L Ab a.Zw1)] false]⟩ : St)) (ws [0]) ?_
     rintro ⟨aj,ak⟩ cg a5 a6 a7
     show Cl a b aj ak = some a5→_
     unfold Cl
     refine T0 [1,6,7,135,136,137,138] ?_
     refine Sq <|Cd ?_ ?_
     ·refine Sk <|Tn <|Sq <|Sb <|Ck fun a8 =>Lt fun a9 ba =>Lt fun bb bc =>Lt fun bd be =>Te (σ':=[_,.box [i64 a9,i64 bb,i64 bd] false]) [1,6,7,15,135,136,137] Ac (Ev (by simp only [go_sem,qR a8,ba,bc,be];exact Al)) ?_
      refine Fw [1,6,7,135,136,137] (fun al => ⟨Au 193 [(1,.ref 0 0),(6,i64 b),(7,.bool al),(135,.sl false (L Ah a.Zs1.Zu)),(136,i64 (a.Zs1.Zu.length : Int)),(137,i64 ak)],[.box [.sl false (L Ah a.Zs1.Zu),.sl false (L Ak a.Zs1.Zv),.sl false (L Aa a.Zt1.Zm1),.sl false (L Af a.Zt1.Zn1),.sl false (L Aj a.Zt1.Zo1),.sl false (L Ai a.Zt1.Zp1),.sl false (L Ag a.Zu1),.sl false (L Ae a.Zv1),.sl false (L Ab a.Zw1)] false]⟩) ?_ ?_
      ·intro _
       refine Sp (fun j => ?_) fun j => ?_
       ·exact Lf Ac (Ev (by simp only [go_sem,j];exact Al)) (ws [0])
       ·refine Sp (fun p => ?_) fun p => ?_
        ·exact Lf Ac (Ev (by simp only [go_sem,j,p];exact Al)) (ws [0])
        ·exact Lf Ac (Ev (by simp only [go_sem,j,p];exact Al)) (ws [0])
      intro al
      refine Bn <|Tn <|F0 [1,6,7,135,136,137] ?_
      exact Ln (ws [0])
     ·refine Sx <|Tx <|Ly a7 a6 <|Bx <|?_
      exact Jm ((ws (l':=[(1,.ref 0 0),(6,i64 b),(7,.bool aj)]) (σ':=[.box [.sl false (L Ah a.Zs1.Zu),.sl false (L Ak a.Zs1.Zv),.sl false (L Aa a.Zt1.Zm1),.sl false (L Af a.Zt1.Zn1),.sl false (L Aj a.Zt1.Zo1),.sl false (L Ai a.Zt1.Zp1),.sl false (L Ag a.Zu1),.sl false (L Ae a.Zv1),.sl false (L Ab a.Zw1)] false]) [0]).trans (ws [0]))
    intro ai
    refine Ja (fun am => ⟨Au 193 [(1,.ref 0 0),(7,.bool am)],[.box [.sl false (L Ah a.Zs1.Zu),.sl false (L Ak a.Zs1.Zv),.sl false (L Aa a.Zt1.Zm1),.sl false (L Af a.Zt1.Zn1),.sl false (L Aj a.Zt1.Zo1),.sl false (L Ai a.Zt1.Zp1),.sl false (L Ag a.Zu1),.sl false (L Ae a.Zv1),.sl false (L Ab a.Zw1)] false]⟩) ?_ ?_
    ·intro ch
     refine T0 [1,6,7,157,158,159] ?_
     refine Sb ?_
     refine Lo (fun (v : Bool×Int) => (⟨Au 193 [(1,.ref 0 0),(6,i64 b),(7,.bool v.1),(157,.sl false (L Ak a.Zs1.Zv)),(158,i64 (a.Zs1.Zv.length : Int)),(159,i64 v.2)],[.box [.sl false (L Ah a.Zs1.Zu),.sl false (L Ak a.Zs1.Zv),.sl false (L Aa a.Zt1.Zm1),.sl false (L Af a.Zt1.Zn1),.sl false (L Aj a.Zt1.Zo1),.sl false (L Ai a.Zt1.Zp1),.sl false (L Ag a.Zu1),.sl false (L Ae a.Zv1),.sl false (L Ab a.Zw1)] false]⟩ : St)) (ws [0]) ?_
     rintro ⟨an,ao⟩ ci bf bg bh
     show Ci a b an ao = some bf→_
     unfold Ci
     refine T0 [1,6,7,157,158,159,160] ?_
     refine Sq <|Cd ?_ ?_
     ·refine Sk <|Tn <|Sq <|Sb <|Ck fun bi =>Lt fun bj bk =>Lt fun bl bm =>Lt fun bn bo =>Lt fun bp bq =>Lt fun br bs =>Te (σ':=[_,.box [i64 bj,i64 bl,i64 bn,i64 bp,i64 br] false]) [1,6,7,17,157,158,159] Ac (Ev (by simp only [go_sem,qR bi,bk,bm,bo,bq,bs];exact Al)) ?_
      refine Fw [1,6,7,157,158,159] (fun ap => ⟨Au 193 [(1,.ref 0 0),(6,i64 b),(7,.bool ap),(157,.sl false (L Ak a.Zs1.Zv)),(158,i64 (a.Zs1.Zv.length : Int)),(159,i64 ao)],[.box [.sl false (L Ah a.Zs1.Zu),.sl false (L Ak a.Zs1.Zv),.sl false (L Aa a.Zt1.Zm1),.sl false (L Af a.Zt1.Zn1),.sl false (L Aj a.Zt1.Zo1),.sl false (L Ai a.Zt1.Zp1),.sl false (L Ag a.Zu1),.sl false (L Ae a.Zv1),.sl false (L Ab a.Zw1)] false]⟩) ?_ ?_
      ·intro _
       refine Sp (fun q => ?_) fun q => ?_
       ·exact Lf Ac (Ev (by simp only [go_sem,q];exact Al)) (ws [0])
       ·exact Lf Ac (Ev (by simp only [go_sem,q];exact Al)) (ws [0])
      intro ap
      refine Bn <|Tn <|F0 [1,6,7,157,158,159] ?_
      exact Ln (ws [0])
     ·refine Sx <|Tx <|Ly bh bg <|Bx <|?_
      exact Jm ((ws (l':=[(1,.ref 0 0),(7,.bool an)]) (σ':=[.box [.sl false (L Ah a.Zs1.Zu),.sl false (L Ak a.Zs1.Zv),.sl false (L Aa a.Zt1.Zm1),.sl false (L Af a.Zt1.Zn1),.sl false (L Aj a.Zt1.Zo1),.sl false (L Ai a.Zt1.Zp1),.sl false (L Ag a.Zu1),.sl false (L Ae a.Zv1),.sl false (L Ab a.Zw1)] false]) [0]).trans (ws [0]))
    intro am
    refine Ja (fun aq => ⟨Au 193 [(7,.bool aq)],[]⟩) ?_ ?_
    ·intro cj
     refine T0 [7,172,173,174] ?_
     refine Sb ?_
     refine Lo (fun (v : Bool×Int) => (⟨Au 193 [(7,.bool v.1),(172,.sl false (L Ab a.Zw1)),(173,i64 (a.Zw1.length : Int)),(174,i64 v.2)],[]⟩ : St)) (ws []) ?_
     rintro ⟨ar,au⟩ ck bt bu bv
     show Cj a ar au = some bt→_
     unfold Cj
     refine T0 [7,172,173,174,175] ?_
     refine Sq <|Cd ?_ ?_
     ·refine Sk <|Tn <|Sq <|Sb <|Ck fun bw =>Lt fun bx bz =>Lt fun bA bB =>Lt fun bC bD =>Lt fun bE bF =>Lt fun bG bH =>Lt fun bI bJ =>Lt fun bK bL =>Lt fun bM bN =>Lt fun bO bP =>Lt fun bQ bR =>Lt fun bS bT =>Lt fun bU bV =>Lt fun bW bX =>Lt fun bY bZ =>Lt fun b0 b1 =>Lt fun b2 b3 =>Te (σ':=[.box [u64 bx,i64 bA,i64 bC,i64 bE,i64 bG,i64 bI,i64 bK,i64 bM,i64 bO,i64 bQ,i64 bS,i64 bU,i64 bW,i64 bY,i64 b0,.sl false (L Jk b2)] false]) [7,19,172,173,174] Ac (Ev (by simp only [go_sem,qR bw,bz,bB,bD,bF,bH,bJ,bL,bN,bP,bR,bT,bV,bX,bZ,b1,b3];exact Al)) ?_
      refine Fw [7,172,173,174] (fun av => ⟨Au 193 [(7,.bool av),(172,.sl false (L Ab a.Zw1)),(173,i64 (a.Zw1.length : Int)),(174,i64 au)],[]⟩) ?_ ?_
      ·intro _
       refine Sp (fun k => ?_) fun k => ?_
       ·exact Lf Ac (Ev (by simp only [go_sem,k];exact Al)) (ws [])
       ·refine Bd fun cl aw => ?_
        refine Sp (fun s => ?_) fun s => ?_
        ·exact Lf (o1 182 (Iz aw)) (Ev (by simp only [go_sem,k,s];exact Al)) (ws [])
        ·refine Bd fun cm b4 => ?_
         exact Lf (o2 182 (Iz aw) 188 (Uj b4)) (Ev (by simp only [go_sem,k,s];exact Al)) (ws [])
      intro av
      refine Bn <|Tn <|F0 [7,172,173,174] ?_
      exact Ln (ws [])
     ·refine Sx <|Tx <|Ly bv bu <|Bx <|?_
      exact Jm ((ws (l':=[(7,.bool ar)]) (σ':=[]) []).trans (ws []))
    intro aq
    refine Sq <|T0 [192] ?_
    refine Cd ?_ ?_
    ·refine T0 [2] ?_
     exact Sr <|Tr <|Rr
    ·refine Sk <|Tn <|T0 [2] ?_
     exact Sr <|Rr
theorem H0 {a r} (h : J4 a = some r) : Con B 13 [.agg [.sl false (L Ah a.Zs1.Zu),.sl false (L Ak a.Zs1.Zv),.sl false (L Aa a.Zt1.Zm1),.sl false (L Af a.Zt1.Zn1),.sl false (L Aj a.Zt1.Zo1),.sl false (L Ai a.Zt1.Zp1),.sl false (L Ag a.Zu1),.sl false (L Ae a.Zv1),.sl false (L Ab a.Zw1)]] [] (fun r' σ' => r' = .bool r∧σ' = []):=by
 refine Cw 86 [.tmp 2] Tryz.func13 (fun F hE => ?_) h
 unfold J4
 refine T0 [1] ?_
 refine Jo (fun _ => ⟨Au 86 [(1,.ref 0 0)],[.box [.sl false (L Ah a.Zs1.Zu),.sl false (L Ak a.Zs1.Zv),.sl false (L Aa a.Zt1.Zm1),.sl false (L Af a.Zt1.Zn1),.sl false (L Aj a.Zt1.Zo1),.sl false (L Ai a.Zt1.Zp1),.sl false (L Ag a.Zu1),.sl false (L Ae a.Zv1),.sl false (L Ab a.Zw1)] false]⟩) ?_ ?_
 ·intro y t
  refine T0 [1,3] ?_
  refine Sb ?_
  refine Lo (fun e => ⟨Au 86 [(1,.ref 0 0),(3,i64 e)],[.box [.sl false (L Ah a.Zs1.Zu),.sl false (L Ak a.Zs1.Zv),.sl false (L Aa a.Zt1.Zm1),.sl false (L Af a.Zt1.Zn1),.sl false (L Aj a.Zt1.Zo1),.sl false (L Ai a.Zt1.Zp1),.sl false (L Ag a.Zu1),.sl false (L Ae a.Zv1),.sl false (L Ab a.Zw1)] false]⟩) (ws [0]) ?_
  rintro e z u n o
  show G7 a e = some u→_
  unfold G7
  refine Sq ?_
  refine Tw [1,3,14] (fun p => ⟨Au 86 [(1,.ref 0 0),(3,i64 e),(14,.bool p)],[.box [.sl false (L Ah a.Zs1.Zu),.sl false (L Ak a.Zs1.Zv),.sl false (L Aa a.Zt1.Zm1),.sl false (L Af a.Zt1.Zn1),.sl false (L Aj a.Zt1.Zo1),.sl false (L Ai a.Zt1.Zp1),.sl false (L Ag a.Zu1),.sl false (L Ae a.Zv1),.sl false (L Ab a.Zw1)] false]⟩) ?_ ?_
  ·intro _
   refine Sp (fun i => ?_) fun i => ?_
   ·exact Lf Ac (Ev (by simp only [go_sem,i];exact Al)) (ws [0])
   ·exact Lf Ac (Ev (by simp only [go_sem,i];exact Al)) (ws [0])
  intro p
  refine Cd ?_ ?_
  ·refine Sk <|Tn <|Sq <|Sb <|Ck fun v =>Lt fun w x =>Te (fr':=[(1,_),(3,_),(25,.bool w)]) [1,3,25] Ac (Ev (by simp only [go_sem,qR v,x];exact Al)) ?_
   refine Cd ?_ ?_
   ·refine T0 [2] ?_
    exact Sr <|Br <|Tr <|Lr o n <|Br <|Jr t <|Rr
   ·refine Sk <|Bn <|Tn <|F0 [1,3] ?_
    exact Ln (ws [0])
  ·refine Sx <|Tx <|Lx o n <|Bx <|?_
   exact Jn ((ws (l':=[(1,.ref 0 0)]) (σ':=[.box [.sl false (L Ah a.Zs1.Zu),.sl false (L Ak a.Zs1.Zv),.sl false (L Aa a.Zt1.Zm1),.sl false (L Af a.Zt1.Zn1),.sl false (L Aj a.Zt1.Zo1),.sl false (L Ai a.Zt1.Zp1),.sl false (L Ag a.Zu1),.sl false (L Ae a.Zv1),.sl false (L Ab a.Zw1)] false]) [0]).trans (ws [0]))
 intro _
 refine Tw [1,4] (fun j => ⟨Au 86 [(1,.ref 0 0),(4,.bool j)],[.box [.sl false (L Ah a.Zs1.Zu),.sl false (L Ak a.Zs1.Zv),.sl false (L Aa a.Zt1.Zm1),.sl false (L Af a.Zt1.Zn1),.sl false (L Aj a.Zt1.Zo1),.sl false (L Ai a.Zt1.Zp1),.sl false (L Ag a.Zu1),.sl false (L Ae a.Zv1),.sl false (L Ab a.Zw1)] false]⟩) ?_ ?_
 ·intro _
  refine Sp (fun k => ?_) fun k => ?_
  ·exact Lf Ac (Ev (by simp only [go_sem,k];exact Al)) (ws [0])
  ·exact Lf Ac (Ev (by simp only [go_sem,k];exact Al)) (ws [0])
 intro j
 refine Tw [1,4,5] (fun q => ⟨Au 86 [(1,.ref 0 0),(4,.bool j),(5,.bool q)],[.box [.sl false (L Ah a.Zs1.Zu),.sl false (L Ak a.Zs1.Zv),.sl false (L Aa a.Zt1.Zm1),.sl false (L Af a.Zt1.Zn1),.sl false (L Aj a.Zt1.Zo1),.sl false (L Ai a.Zt1.Zp1),.sl false (L Ag a.Zu1),.sl false (L Ae a.Zv1),.sl false (L Ab a.Zw1)] false]⟩) ?_ ?_
 ·intro _
  refine Sp (fun c => ?_) fun c => ?_
  ·refine Sp (fun f => ?_) fun f => ?_
   ·refine Sp (fun l => ?_) fun l => ?_
    ·exact Lf Ac (Ev (by simp only [go_sem,c,f,l];exact Al)) (ws [0])
    ·exact Lf Ac (Ev (by simp only [go_sem,c,f,l];exact Al)) (ws [0])
   ·exact Lf Ac (Ev (by simp only [go_sem,c,f];exact Al)) (ws [0])
  ·exact Lf Ac (Ev (by simp only [go_sem,c];exact Al)) (ws [0])
 intro q
 refine Tw [2] (fun s => ⟨Au 86 [(2,.bool s)],[]⟩) ?_ ?_
 ·intro _
  refine Sp (fun b => ?_) fun b => ?_
  ·refine Sp (fun d => ?_) fun d => ?_
   ·refine Sp (fun g => ?_) fun g => ?_
    ·refine Sp (fun m => ?_) fun m => ?_
     ·exact Lf Ac (Ev (by simp only [go_sem,b,d,g,m];exact Al)) (ws [])
     ·exact Lf Ac (Ev (by simp only [go_sem,b,d,g,m];exact Al)) (ws [])
    ·exact Lf Ac (Ev (by simp only [go_sem,b,d,g];exact Al)) (ws [])
   ·exact Lf Ac (Ev (by simp only [go_sem,b,d];exact Al)) (ws [])
  ·exact Lf Ac (Ev (by simp only [go_sem,b];exact Al)) (ws [])
 intro s
 exact Sr <|Rr
end Go.Proofs.YtnfoiocigicdnaaGreatDoor
