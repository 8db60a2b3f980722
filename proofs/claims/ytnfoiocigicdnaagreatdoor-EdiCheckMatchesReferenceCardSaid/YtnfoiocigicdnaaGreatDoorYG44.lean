/-
  Part 44.
-/
import Derived.Test.YtnfoiocigicdnaaGreatDoorYG40
import Derived.Test.YtnfoiocigicdnaaGreatDoorYG42
import Derived.Test.YtnfoiocigicdnaaGreatDoorYG43
import Derived.KernelRfl
namespace Go.Proofs.YtnfoiocigicdnaaGreatDoor
open Go.Rv
set_option linter.unusedVariables false
set_option linter.unusedSimpArgs false
set_option maxRecDepth 20000
set_option maxHeartbeats 4000000
theorem U3 {a b r} (h : Kf a b = some r) : Con B 154 [u64 a,u64 b] [] (fun r' σ' => r' = .tup [u64 r.1,u64 r.2]∧σ' = []):=by
 refine Cw 51 [.tmp 4,.tmp 5] Tryz.func154 (fun F hE => ?_) h
 unfold Kf
 refine T0 [0,1] ?_
 refine Lt fun x0_8928 c =>Te (fr':=[(0,_),(1,_),(6,u64 x0_8928)]) [0,1,6] Ac (Ev (by simp only [go_sem,c];exact Ak)) ?_
 refine Lt fun x1_8930 d =>Te (fr':=[(0,_),(1,_),(6,_),(7,u64 x1_8930)]) [0,1,6,7] Ac (Ev (by simp only [go_sem,d];exact Ak)) ?_
 refine Lt fun y0_8932 e =>Te (fr':=[(0,_),(1,_),(6,_),(7,_),(8,u64 y0_8932)]) [0,1,6,7,8] Ac (Ev (by simp only [go_sem,e];exact Ak)) ?_
 refine Lt fun y1_8934 f =>Te (fr':=[(0,_),(1,_),(6,_),(7,_),(8,_),(9,u64 y1_8934)]) [0,1,6,7,8,9] Ac (Ev (by simp only [go_sem,f];exact Ak)) ?_
 refine T0 [0,1,6,7,8,9,10] ?_
 refine Lt fun g i =>Te (fr':=[(0,_),(1,_),(6,_),(7,_),(9,_),(11,u64 g)]) [0,1,6,7,9,11] Ac (Ev (by simp only [go_sem,i];exact Ak)) ?_
 refine Lt fun w1_8938 j =>Te (fr':=[(0,_),(1,_),(6,_),(7,_),(9,_),(11,_),(12,u64 w1_8938)]) [0,1,6,7,9,11,12] Ac (Ev (by simp only [go_sem,j];exact Ak)) ?_
 refine Lt fun w2_8940 k =>Te (fr':=[(0,_),(1,_),(6,_),(7,_),(9,_),(12,_),(13,u64 w2_8940)]) [0,1,6,7,9,12,13] Ac (Ev (by simp only [go_sem,k];exact Ak)) ?_
 refine Lt fun w1_8942 l =>Te (fr':=[(0,_),(1,_),(7,_),(9,_),(12,u64 w1_8942),(13,_)]) [0,1,7,9,12,13] Ac (Ev (by simp only [go_sem,l];exact Ak)) ?_
 refine Lt fun m n =>Te (fr':=[(0,_),(1,_),(4,u64 m)]) [0,1,4] Ac (Ev (by simp only [go_sem,n];exact Ak)) ?_
 refine T0 [4,5] ?_
 exact Sr <|Rr
theorem K7 {a r} (h : Du a = some r) : Con B 171 [u64 a] [] (fun r' σ' => r' = i64 r∧σ' = []):=by
 refine Cw 6 [.tmp 2] Tryz.func171 (fun F hE => ?_) h
 unfold Du
 refine T0 [0] ?_
 refine Bd fun c b =>Te [2] (o1 4 (Jq b)) Ev ?_
 exact Sr <|Rr
theorem Uj {e f g r} (h : Ik e f g = some r) : Con B 155 [u64 e,u64 f,u64 g] [] (fun r' σ' => r' = .tup [u64 r.1,u64 r.2]∧σ' = []):=by
 refine Cw 135 [.tmp 6,.tmp 7] Tryz.func155 (fun F hE => ?_) h
 unfold Ik
 refine T0 [0,1,2] ?_
 refine Sq <|T0 [0,1,2,20] ?_
 refine Cd ?_ ?_
 ·exact Rn
 ·refine Sk <|Tn <|Sq <|T0 [0,1,2,24] ?_
  refine Cd ?_ ?_
  ·exact Rn
  ·refine Sk <|Tn <|Sq <|T0 [0,1,2,27] ?_
   refine Cd ?_ ?_
   ·refine Ck fun q =>Ck fun s =>De [[],[],[0,1],[],[],[3,4],[0,1,2],[0,1,2,3,4,5,6]] [6,7] Ac (Ev (by simp only [go_sem,q,s];exact Ak)) ?_
    exact Sr <|Tr <|Rr
   ·refine Sk <|Tn <|Bd fun b t =>Te [0,1,2,8] (o1 35 (K7 t)) Ev ?_
    refine Lt fun a u =>Te (fr':=[(0,_),(1,_),(2,u64 a),(8,_)]) [0,1,2,8] Ac (Ev (by simp only [go_sem,u];exact Ak)) ?_
    refine Lt fun yn1_8958 w =>Te (fr':=[(0,_),(1,_),(2,_),(8,_),(9,u64 yn1_8958)]) [0,1,2,8,9] Ac (Ev (by simp only [go_sem,w];exact Ak)) ?_
    refine Lt fun yn0_8960 x =>Te (fr':=[(0,_),(1,_),(2,_),(8,_),(9,_),(10,u64 yn0_8960)]) [0,1,2,8,9,10] Ac (Ev (by simp only [go_sem,x];exact Ak)) ?_
    refine Lt fun un32_8962 y =>Te (fr':=[(1,_),(2,_),(8,_),(9,_),(10,_),(11,u64 un32_8962)]) [1,2,8,9,10,11] Ac (Ev (by simp only [go_sem,y];exact Ak)) ?_
    refine Lt fun un10_8964 z =>Te (fr':=[(2,_),(8,_),(9,_),(10,_),(11,_),(12,u64 un10_8964)]) [2,8,9,10,11,12] Ac (Ev (by simp only [go_sem,z];exact Ak)) ?_
    refine Lt fun un1_8966 aa =>Te (fr':=[(2,_),(8,_),(9,_),(10,_),(11,_),(12,_),(13,u64 un1_8966)]) [2,8,9,10,11,12,13] Ac (Ev (by simp only [go_sem,aa];exact Ak)) ?_
    refine Lt fun un0_8968 ab =>Te (fr':=[(2,_),(8,_),(9,_),(10,_),(11,_),(13,_),(14,u64 un0_8968)]) [2,8,9,10,11,13,14] Ac (Ev (by simp only [go_sem,ab];exact Ak)) ?_
    refine Ck fun ac =>Te [2,8,9,10,11,13,14,15] Ac (Ev (by simp only [go_sem,ac];exact Ak)) ?_
    refine Lt fun ad ae =>Te (fr':=[(2,_),(8,_),(9,_),(10,_),(11,_),(13,_),(14,_),(15,_),(16,u64 ad)]) [2,8,9,10,11,13,14,15,16] Ac (Ev (by simp only [go_sem,ae];exact Ak)) ?_
    refine Ja (fun q1_8992 => ⟨As 135 [(2,u64 a),(8,u64 (UInt64.ofInt b)),(9,u64 yn1_8958),(10,u64 yn0_8960),(11,u64 un32_8962),(13,u64 un1_8966),(14,u64 un0_8968),(15,u64 q1_8992)],[]⟩) ?_ ?_
    ·intro ap
     refine Sb ?_
     refine Lo (fun (v : UInt64×UInt64) => (⟨As 135 [(2,u64 a),(8,u64 (UInt64.ofInt b)),(9,u64 yn1_8958),(10,u64 yn0_8960),(11,u64 un32_8962),(13,u64 un1_8966),(14,u64 un0_8968),(15,u64 v.1),(16,u64 v.2)],[]⟩ : St)) (ws []) ?_
     rintro ⟨q1_9001,i⟩ aq af j k
     show Ft yn1_8958 yn0_8960 un1_8966 q1_9001 i = some af→_
     unfold Ft
     refine Sq ?_
     refine Tw [2,8,9,10,11,13,14,15,16,78] (fun l => ⟨As 135 [(2,u64 a),(8,u64 (UInt64.ofInt b)),(9,u64 yn1_8958),(10,u64 yn0_8960),(11,u64 un32_8962),(13,u64 un1_8966),(14,u64 un0_8968),(15,u64 q1_9001),(16,u64 i),(78,.bool l)],[]⟩) ?_ ?_
     ·intro _
      refine Sp (fun c => ?_) fun c => ?_
      ·exact Lf Ac (Ev (by simp only [go_sem,c];exact Ak)) (ws [])
      ·exact Lf Ac (Ev (by simp only [go_sem,c];exact Ak)) (ws [])
     intro l
     refine Cd ?_ ?_
     ·refine Sk <|Tn <|Sb <|T0 [2,8,9,10,11,13,14,15,16] ?_
      refine T0 [2,8,9,10,11,13,14,15,16] ?_
      refine T0 [2,8,9,10,11,13,14,15,16,85] ?_
      refine Cd ?_ ?_
      ·refine Sx <|Bo <|Ly k j <|Bx <|?_
       exact Jm ((ws (l':=[(2,u64 a),(8,u64 (UInt64.ofInt b)),(9,u64 yn1_8958),(10,u64 yn0_8960),(11,u64 un32_8962),(13,u64 un1_8966),(14,u64 un0_8968),(15,u64 (q1_9001 - (1 : UInt64)))]) (σ':=[]) []).trans (ws []))
      ·exact Sk <|Bn <|Ln (ws [])
     ·refine Sx <|Tx <|Ly k j <|Bx <|?_
      exact Jm ((ws (l':=[(2,u64 a),(8,u64 (UInt64.ofInt b)),(9,u64 yn1_8958),(10,u64 yn0_8960),(11,u64 un32_8962),(13,u64 un1_8966),(14,u64 un0_8968),(15,u64 q1_9001)]) (σ':=[]) []).trans (ws []))
    intro q1_8992
    refine Lt fun un21_9015 ag =>Te (fr':=[(2,_),(8,_),(9,_),(10,_),(14,_),(15,_),(17,u64 un21_9015)]) [2,8,9,10,14,15,17] Ac (Ev (by simp only [go_sem,ag];exact Ak)) ?_
    refine Ck fun ah =>Te [2,8,9,10,14,15,17,18] Ac (Ev (by simp only [go_sem,ah];exact Ak)) ?_
    refine Lt fun ai aj =>Te (fr':=[(2,_),(8,_),(9,_),(10,_),(14,_),(15,_),(16,u64 ai),(17,_),(18,_)]) [2,8,9,10,14,15,16,17,18] Ac (Ev (by simp only [go_sem,aj];exact Ak)) ?_
    refine Ja (fun q0_9039 => ⟨As 135 [(2,u64 a),(8,u64 (UInt64.ofInt b)),(14,u64 un0_8968),(15,u64 q1_8992),(17,u64 un21_9015),(18,u64 q0_9039)],[]⟩) ?_ ?_
    ·intro ar
     refine Sb ?_
     refine Lo (fun (v : UInt64×UInt64) => (⟨As 135 [(2,u64 a),(8,u64 (UInt64.ofInt b)),(9,u64 yn1_8958),(10,u64 yn0_8960),(14,u64 un0_8968),(15,u64 q1_8992),(16,u64 v.1),(17,u64 un21_9015),(18,u64 v.2)],[]⟩ : St)) (ws []) ?_
     rintro ⟨m,q0_9049⟩ au ak n o
     show Fu yn1_8958 yn0_8960 un0_8968 m q0_9049 = some ak→_
     unfold Fu
     refine Sq ?_
     refine Tw [2,8,9,10,14,15,16,17,18,113] (fun p => ⟨As 135 [(2,u64 a),(8,u64 (UInt64.ofInt b)),(9,u64 yn1_8958),(10,u64 yn0_8960),(14,u64 un0_8968),(15,u64 q1_8992),(16,u64 m),(17,u64 un21_9015),(18,u64 q0_9049),(113,.bool p)],[]⟩) ?_ ?_
     ·intro _
      refine Sp (fun d => ?_) fun d => ?_
      ·exact Lf Ac (Ev (by simp only [go_sem,d];exact Ak)) (ws [])
      ·exact Lf Ac (Ev (by simp only [go_sem,d];exact Ak)) (ws [])
     intro p
     refine Cd ?_ ?_
     ·refine Sk <|Tn <|Sb <|T0 [2,8,9,10,14,15,16,17,18] ?_
      refine T0 [2,8,9,10,14,15,16,17,18] ?_
      refine T0 [2,8,9,10,14,15,16,17,18,120] ?_
      refine Cd ?_ ?_
      ·refine Sx <|Bo <|Ly o n <|Bx <|?_
       exact Jm ((ws (l':=[(2,u64 a),(8,u64 (UInt64.ofInt b)),(14,u64 un0_8968),(15,u64 q1_8992),(17,u64 un21_9015),(18,u64 (q0_9049 - (1 : UInt64)))]) (σ':=[]) []).trans (ws []))
      ·exact Sk <|Bn <|Ln (ws [])
     ·refine Sx <|Tx <|Ly o n <|Bx <|?_
      exact Jm ((ws (l':=[(2,u64 a),(8,u64 (UInt64.ofInt b)),(14,u64 un0_8968),(15,u64 q1_8992),(17,u64 un21_9015),(18,u64 q0_9049)]) (σ':=[]) []).trans (ws []))
    intro q0_9039
    refine Lt fun al am =>Lt fun an ao =>Te (fr':=[(6,u64 al),(7,u64 an)]) [6,7] Ac (Ev (by simp only [go_sem,am,ao];exact Ak)) ?_
    exact Sr <|Rr
theorem Pw {a r} (h : G5 a = some r) : Con B 87 [.agg [i64 a.Zb,i64 a.Za,i64 a.Zg]] [] (fun r' σ' => r' = .bool r∧σ' = []):=by
 refine Cw 42 [.tmp 2] Tryz.func87 (fun F hE => ?_) h
 unfold G5
 refine T0 [1] ?_
 refine Sq ?_
 refine Tw [1,20] (fun g => ⟨As 42 [(1,.ref 0 0),(20,.bool g)],[.box [i64 a.Zb,i64 a.Za,i64 a.Zg] false]⟩) ?_ ?_
 ·intro _
  refine Sp (fun b => ?_) fun b => ?_
  ·exact Lf Ac (Ev (by simp only [go_sem,b];exact Ak)) (ws [0])
  ·refine Sp (fun c => ?_) fun c => ?_
   ·exact Lf Ac (Ev (by simp only [go_sem,b,c];exact Ak)) (ws [0])
   ·refine Sp (fun e => ?_) fun e => ?_
    ·exact Lf Ac (Ev (by simp only [go_sem,b,c,e];exact Ak)) (ws [0])
    ·exact Lf Ac (Ev (by simp only [go_sem,b,c,e];exact Ak)) (ws [0])
 intro g
 refine Cd ?_ ?_
 ·refine T0 [2] ?_
  exact Sr <|Tr <|Rr
 ·refine Sk <|Tn <|Sq <|T0 [1,23] ?_
  refine Cd ?_ ?_
  ·refine T0 [2] ?_
   exact Sr <|Tr <|Rr
  ·refine Sk <|Tn <|?_
   refine Tw [2] (fun i => ⟨As 42 [(2,.bool i)],[]⟩) ?_ ?_
   ·intro _
    refine Sp (fun d => ?_) fun d => ?_
    ·refine Sp (fun f => ?_) fun f => ?_
     ·exact Lf Ac (Ev (by simp only [go_sem,d,f];exact Ak)) (ws [])
     ·exact Lf Ac (Ev (by simp only [go_sem,d,f];exact Ak)) (ws [])
    ·exact Lf Ac (Ev (by simp only [go_sem,d];exact Ak)) (ws [])
   intro i
   exact Sr <|Rr
theorem Po {a r} (h : Gs a = some r) : Con B 39 [.agg [.sl false (L Ah a.Zu),.sl false (L Al a.Zv)]] [] (fun r' σ' => r' = i64 r∧σ' = []):=by
 refine Cw 84 [.tmp 2] Tryz.func39 (fun F hE => ?_) h
 unfold Gs
 refine T0 [1] ?_
 refine Lt fun b t =>Te (fr':=[(1,_),(3,i64 b)]) [1,3] Ac (Ev (by simp only [go_sem,t];exact Ak)) ?_
 refine Sq ?_
 refine Tw [1,3,18] (fun m => ⟨As 84 [(1,.ref 0 0),(3,i64 b),(18,.bool m)],[.box [.sl false (L Ah a.Zu),.sl false (L Al a.Zv)] false]⟩) ?_ ?_
 ·intro _
  refine Sp (fun j => ?_) fun j => ?_
  ·exact Lf Ac (Ev (by simp only [go_sem,j];exact Ak)) (ws [0])
  ·exact Lf Ac (Ev (by simp only [go_sem,j];exact Ak)) (ws [0])
 intro m
 refine Cd ?_ ?_
 ·refine T0 [2] ?_
  exact Sr <|Tr <|Rr
 ·refine Sk <|Tn <|?_
  refine Jo (fun _ => ⟨As 84 [(1,.ref 0 0),(3,i64 b)],[.box [.sl false (L Ah a.Zu),.sl false (L Al a.Zv)] false]⟩) ?_ ?_
  ·intro ar u
   refine T0 [1,3,20,21,22] ?_
   refine Sb ?_
   refine Lo (fun k => ⟨As 84 [(1,.ref 0 0),(3,i64 b),(20,.sl false (L Ah a.Zu)),(21,i64 (a.Zu.length : Int)),(22,i64 k)],[.box [.sl false (L Ah a.Zu),.sl false (L Al a.Zv)] false]⟩) (ws [0]) ?_
   rintro k au v n o
   show Dh a k = some v→_
   unfold Dh
   refine T0 [1,3,20,21,22,23] ?_
   refine Sq <|Cd ?_ ?_
   ·refine Sk <|Tn <|Sq <|Sb <|Ck fun w =>Lt fun x y =>Lt fun z aa =>Lt fun ab ac =>Te (σ':=[_,.box [i64 x,i64 z,i64 ab] false]) [1,3,5,20,21,22] Ac (Ev (by simp only [go_sem,qR w,y,aa,ac];exact Ak)) ?_
    refine Bd fun av ad =>Te [1,3,20,21,22,28] (o1 27 (Pw ad)) Ev ?_
    refine Cd ?_ ?_
    ·refine T0 [2] ?_
     exact Sr <|Br <|Tr <|Lr o n <|Br <|Jr u <|Rr
    ·refine Sk <|Bn <|Tn <|F0 [1,3,20,21,22] ?_
     exact Ln (ws [0])
   ·refine Sx <|Tx <|Lx o n <|Bx <|?_
    exact Jn ((ws (l':=[(1,.ref 0 0),(3,i64 b)]) (σ':=[.box [.sl false (L Ah a.Zu),.sl false (L Al a.Zv)] false]) [0]).trans (ws [0]))
  intro _
  refine Jo (fun _ => ⟨As 84 [],[]⟩) ?_ ?_
  ·intro aw ae
   refine T0 [3,31,32,33] ?_
   refine Sb ?_
   refine Lo (fun g => ⟨As 84 [(3,i64 b),(31,.sl false (L Al a.Zv)),(32,i64 (a.Zv.length : Int)),(33,i64 g)],[]⟩) (ws []) ?_
   rintro g ax af p q
   show Df a b g = some af→_
   unfold Df
   refine T0 [3,31,32,33,34] ?_
   refine Sq <|Cd ?_ ?_
   ·refine Sk <|Tn <|Sq <|Sb <|Ck fun ag =>Lt fun ah ai =>Lt fun aj ak =>Lt fun al am =>Lt fun an ao =>Lt fun ap aq =>Te (σ':=[.box [i64 ah,i64 aj,i64 al,i64 an,i64 ap] false]) [3,7,31,32,33] Ac (Ev (by simp only [go_sem,qR ag,ai,ak,am,ao,aq];exact Ak)) ?_
    refine Tw [3,31,32,33,82] (fun s => ⟨As 84 [(3,i64 b),(31,.sl false (L Al a.Zv)),(32,i64 (a.Zv.length : Int)),(33,i64 g),(82,.bool s)],[]⟩) ?_ ?_
    ·intro _
     refine Sp (fun c => ?_) fun c => ?_
     ·exact Lf Ac (Ev (by simp only [go_sem,c];exact Ak)) (ws [])
     ·refine Sp (fun d => ?_) fun d => ?_
      ·exact Lf Ac (Ev (by simp only [go_sem,c,d];exact Ak)) (ws [])
      ·refine Sp (fun e => ?_) fun e => ?_
       ·exact Lf Ac (Ev (by simp only [go_sem,c,d,e];exact Ak)) (ws [])
       ·refine Sp (fun f => ?_) fun f => ?_
        ·exact Lf Ac (Ev (by simp only [go_sem,c,d,e,f];exact Ak)) (ws [])
        ·refine Sp (fun i => ?_) fun i => ?_
         ·exact Lf Ac (Ev (by simp only [go_sem,c,d,e,f,i];exact Ak)) (ws [])
         ·refine Sp (fun l => ?_) fun l => ?_
          ·exact Lf Ac (Ev (by simp only [go_sem,c,d,e,f,i,l];exact Ak)) (ws [])
          ·exact Lf Ac (Ev (by simp only [go_sem,c,d,e,f,i,l];exact Ak)) (ws [])
    intro s
    refine Cd ?_ ?_
    ·refine T0 [2] ?_
     exact Sr <|Br <|Tr <|Lr q p <|Br <|Jr ae <|Rr
    ·refine Sk <|Bn <|Tn <|F0 [3,31,32,33] ?_
     exact Ln (ws [])
   ·refine Sx <|Tx <|Lx q p <|Bx <|?_
    exact Jn ((ws (l':=[]) (σ':=[]) []).trans (ws []))
  intro _
  refine T0 [2] ?_
  exact Sr <|Rr
theorem Kd {a b c r} (h : Fq a b c = some r) : Con B 153 [u64 a,u64 b,.ref 0 0] [.box [u64 c] false] (fun r' σ' => r' = u64 r.1∧σ' = [.box [u64 r.2] false]):=by
 refine Co 1 28 [.tmp 5] Tryz.func153 (fun F hE => ?_) h
 unfold Fq
 refine T0 [0,1,2] ?_
 refine Ck fun d =>Ck fun e =>Bd fun i f =>De [[],[],[0,1],[],[],[3,4],[0,1,2,3,4,5],[0,1,2,3,4,5,6],[0,1,2,3,4,5,6,7],[0,1,2,3,4,5,6,7],[0,1,2,3,4,5,6,7,8],[0,1,2,3,4,5,6,7,8,9,10]] [2,6,7] (o1 17 (U3 f)) (Ev (by simp only [go_sem,d,e];exact Ak)) ?_
 refine Bd fun j g =>Te [9] (o1 24 (Uj g)) Ev ?_
 refine T0 [5] ?_
 exact Sr <|Ro [0]
theorem R6 {a r} (h : K3 a = some r) : Con B 127 [u64 a] [] (fun r' σ' => r' = .fn 153 [.ref 0 0]∧σ' = [.box [u64 r] false]):=by
 refine Co 0 4 [.tmp 2] Tryz.func127 (fun F hE => ?_) h
 unfold K3
 refine T0 [1] ?_
 refine T0 [2] ?_
 exact Sr <|Ro [0]
theorem Yo {a c r} (h : O7 a c = some r) : Con B 89 [u64 a,u64 c] [] (fun r' σ' => r' = u64 r∧σ' = []):=by
 refine Cw 33 [.tmp 4] Tryz.func89 (fun F hE => ?_) h
 unfold O7
 refine T0 [0,1] ?_
 refine Bd fun y j =>Te [0,1,5] (Ao (l:=[]) (m:=[(8,127,[u64 (2305843009213690799 : UInt64)],[],_,_)]) trivial ⟨(wc (R6 j) []),trivial⟩) Ev ?_
 refine T0 [0,1,5,6] ?_
 refine Ja (fun g => ⟨As 33 [(6,u64 g)],[]⟩) ?_ ?_
 ·intro z
  refine Bd fun f k =>Te [0,1,5,6,10,11] (o1 10 (Jq k)) Ev ?_
  refine Sb ?_
  refine Lo (fun ⟨b,d,e⟩ => ⟨As 33 [(0,u64 a),(1,u64 c),(5,.fn 153 [.ref 0 0]),(6,u64 b),(10,i64 f),(11,i64 d)],[.box [u64 e] false]⟩) (ws [0]) ?_
  rintro ⟨b,d,e⟩ aa n o p
  show Gg a c f b d e = some n→_
  unfold Gg
  refine T0 [0,1,5,6,10,11,12] ?_
  refine Sq <|Cd ?_ ?_
  ·refine Sk <|Tn <|?_
   refine Ja (fun (v : UInt64×UInt64) => (⟨As 33 [(0,u64 a),(1,u64 c),(5,.fn 153 [.ref 0 0]),(6,u64 v.1),(10,i64 f),(11,i64 d)],[.box [u64 v.2] false]⟩ : St)) ?_ ?_
   ·intro ab
    refine Sb <|T0 [0,1,5,6,7,10,11] ?_
    refine Bd fun i q =>Te [0,1,5,6,7,10,11] (Ao (l:=[]) (m:=[(17,153,[u64 b,u64 b,.ref 0 0],[.box [u64 e] false],_,_)]) trivial ⟨(wc (Kd q) [0]),trivial⟩) Ev ?_
    refine Bd fun ac s =>Ck fun t =>Lt fun u w =>Te (fr':=[(0,_),(1,_),(5,_),(6,_),(10,_),(11,_),(26,.bool u)]) [0,1,5,6,10,11,26] (o1 20 (Jq s)) (Ev (by simp only [go_sem,t,w];exact Ak)) ?_
    refine Cd ?_ ?_
    ·refine Bd fun ad x =>Fe [0,1,5,6,10,11] (Ao (l:=[]) (m:=[(30,153,[u64 i.1,u64 a,.ref 0 0],[.box [u64 i.2] false],_,_)]) trivial ⟨(wc (Kd x) [0]),trivial⟩) Ev ?_
     exact Bn <|Jm (ws [0])
    ·exact Sk <|Bn <|Jm (ws [0])
   rintro ⟨ae,af⟩
   refine F0 [0,1,5,6,10,11] ?_
   exact Ln (ws [0])
  ·refine Sx <|Tx <|Ly p o <|Bx <|?_
   exact Jm ((ws (l':=[(6,u64 b)]) (σ':=[]) []).trans (ws []))
 intro g
 refine T0 [4] ?_
 exact Sr <|Rr
theorem Ut {c r} (h : Ii c = some r) : Con B 43 [u64 c] [] (fun r' σ' => r' = .bool r∧σ' = []):=by
 refine Cw 14 [.tmp 2] Tryz.func43 (fun F hE => ?_) h
 unfold Ii
 refine T0 [0] ?_
 refine Tw [2] (fun d => ⟨As 14 [(2,.bool d)],[]⟩) ?_ ?_
 ·intro _
  refine Sp (fun a => ?_) fun a => ?_
  ·refine Sp (fun b => ?_) fun b => ?_
   ·refine Bd fun f e => ?_
    exact Lf (o1 11 (Yo e)) (Ev (by simp only [go_sem,a,b];exact Ak)) (ws [])
   ·exact Lf Ac (Ev (by simp only [go_sem,a,b];exact Ak)) (ws [])
  ·exact Lf Ac (Ev (by simp only [go_sem,a];exact Ak)) (ws [])
 intro d
 exact Sr <|Rr
theorem Aq {b c d r} (h : A5 b c d = some r) : Con B 41 [i64 b,i64 c,i64 d] [] (fun r' σ' => r' = .bool r∧σ' = []):=by
 refine Cw 15 [.tmp 6] Tryz.func41 (fun F hE => ?_) h
 unfold A5
 refine T0 [0,1,2] ?_
 refine Tw [6] (fun e => ⟨As 15 [(6,.bool e)],[]⟩) ?_ ?_
 ·intro _
  refine Sp (fun a => ?_) fun a => ?_
  ·exact Lf Ac (Ev (by simp only [go_sem,a];exact Ak)) (ws [])
  ·exact Lf Ac (Ev (by simp only [go_sem,a];exact Ak)) (ws [])
 intro e
 exact Sr <|Rr
theorem A4 {a b r} (h : Ba a b = some r) : Con B 88 [.bool a,.ref 0 0] [.box [i64 b] false] (fun r' σ' => r' = .tup []∧σ' = [.box [i64 r] false]):=by
 refine Co 1 5 [] Tryz.func88 (fun F hE => ?_) h
 unfold Ba
 refine T0 [1,4] ?_
 refine Cd ?_ ?_
 ·refine F0 [] ?_
  exact Ro [0]
 ·exact Sk <|Ro [0]
theorem R3 {a r} (h : Iu a = some r) : Con B 40 [.agg [.sl false (L Aa a.Zm1),.sl false (L Af a.Zn1),.sl false (L Aj a.Zo1),.sl false (L Ai a.Zp1)]] [] (fun r' σ' => r' = i64 r∧σ' = []):=by
 refine Cw 206 [.tmp 2] Tryz.func40 (fun F hE => ?_) h
 unfold Iu
 refine T0 [1] ?_
 refine Sq ?_
 refine Tw [1,38] (fun aI => ⟨As 206 [(1,.ref 0 0),(38,.bool aI)],[.box [.sl false (L Aa a.Zm1),.sl false (L Af a.Zn1),.sl false (L Aj a.Zo1),.sl false (L Ai a.Zp1)] false]⟩) ?_ ?_
 ·intro _
  refine Sp (fun aa => ?_) fun aa => ?_
  ·exact Lf Ac (Ev (by simp only [go_sem,aa];exact Ak)) (ws [0])
  ·refine Sp (fun aj => ?_) fun aj => ?_
   ·exact Lf Ac (Ev (by simp only [go_sem,aa,aj];exact Ak)) (ws [0])
   ·refine Sp (fun au => ?_) fun au => ?_
    ·exact Lf Ac (Ev (by simp only [go_sem,aa,aj,au];exact Ak)) (ws [0])
    ·exact Lf Ac (Ev (by simp only [go_sem,aa,aj,au];exact Ak)) (ws [0])
 intro aI
 refine Cd ?_ ?_
 ·refine T0 [2] ?_
  exact Sr <|Tr <|Rr
 ·refine Sk <|Tn <|T0 [1,3] ?_
  refine T0 [1,3,4] ?_
  refine Ja (fun aJ => ⟨As 206 [(1,.ref 0 0),(3,.ref 1 0),(4,.fn 88 [.ref 1 0])],[.box [.sl false (L Aa a.Zm1),.sl false (L Af a.Zn1),.sl false (L Aj a.Zo1),.sl false (L Ai a.Zp1)] false,.box [i64 aJ] false]⟩) ?_ ?_
  ·intro cf
   refine T0 [1,3,4,41,42,43] ?_
   refine Sb ?_
   refine Lo (fun (v : Int×Int) => (⟨As 206 [(1,.ref 0 0),(3,.ref 1 0),(4,.fn 88 [.ref 1 0]),(41,.sl false (L Aa a.Zm1)),(42,i64 (a.Zm1.length : Int)),(43,i64 v.1)],[.box [.sl false (L Aa a.Zm1),.sl false (L Af a.Zn1),.sl false (L Aj a.Zo1),.sl false (L Ai a.Zp1)] false,.box [i64 v.2] false]⟩ : St)) (ws [0,1]) ?_
   rintro ⟨x,aK⟩ cg a2 a3 a4
   show D9 a x aK = some a2→_
   unfold D9
   refine T0 [1,3,4,41,42,43,44] ?_
   refine Sq <|Cd ?_ ?_
   ·refine Sk <|Tn <|?_
    refine Ja (fun aL => ⟨As 206 [(1,.ref 0 0),(3,.ref 1 0),(4,.fn 88 [.ref 1 0]),(41,.sl false (L Aa a.Zm1)),(42,i64 (a.Zm1.length : Int)),(43,i64 x)],[.box [.sl false (L Aa a.Zm1),.sl false (L Af a.Zn1),.sl false (L Aj a.Zo1),.sl false (L Ai a.Zp1)] false,.box [i64 aL] false]⟩) ?_ ?_
    ·intro ch
     refine Sb <|Ck fun a5 =>Lt fun d a6 =>Lt fun e a7 =>Lt fun f a8 =>Lt fun g a9 =>Lt fun i ba =>Lt fun j bb =>Lt fun k bc =>Lt fun n bd =>Te (σ':=[_,_,.box [i64 d,i64 e,i64 f,i64 g,i64 i,u64 j,i64 k,i64 n] false]) [1,3,4,6,41,42,43] Ac (Ev (by simp only [go_sem,qR a5,a6,a7,a8,a9,ba,bb,bc,bd];exact Ak)) ?_
     refine Ja (fun ab => ⟨As 206 [(1,.ref 0 0),(3,.ref 1 0),(4,.fn 88 [.ref 1 0]),(6,.ref 2 0),(41,.sl false (L Aa a.Zm1)),(42,i64 (a.Zm1.length : Int)),(43,i64 x)],[.box [.sl false (L Aa a.Zm1),.sl false (L Af a.Zn1),.sl false (L Aj a.Zo1),.sl false (L Ai a.Zp1)] false,.box [i64 ab] false,.box [i64 d,i64 e,i64 f,i64 g,i64 i,u64 j,i64 k,i64 n] false]⟩) ?_ ?_
     ·intro ci
      refine Lt fun av be =>Lt fun o bf =>Te (fr':=[(1,_),(3,_),(4,_),(6,_),(41,_),(42,_),(43,_),(55,.bs true 3 (o.length) 0 (o.length)),(56,i64 av),(57,_)]) (σ':=[_,_,_,.buf 1 (L Hg o) false]) [1,3,4,6,41,42,43,55,56,57] Ac (Ev (by simp only [go_sem,be,bf];exact Ak)) ?_
      refine Sb ?_
      refine Lo (fun (v : Int×Int) => (⟨As 206 [(1,.ref 0 0),(3,.ref 1 0),(4,.fn 88 [.ref 1 0]),(6,.ref 2 0),(41,.sl false (L Aa a.Zm1)),(42,i64 (a.Zm1.length : Int)),(43,i64 x),(55,.bs true 3 (o.length) 0 (o.length)),(56,i64 av),(57,i64 v.1)],[.box [.sl false (L Aa a.Zm1),.sl false (L Af a.Zn1),.sl false (L Aj a.Zo1),.sl false (L Ai a.Zp1)] false,.box [i64 v.2] false,.box [i64 d,i64 e,i64 f,i64 g,i64 i,u64 j,i64 k,i64 n] false,.buf 1 (L Hg o) false]⟩ : St)) (ws [0,1,2,3]) ?_
      rintro ⟨bg,aw⟩ cj bh bi bj
      show Et av o bg aw = some bh→_
      unfold Et
      refine T0 [1,3,4,6,41,42,43,55,56,57,58] ?_
      refine Sq <|Cd ?_ ?_
      ·refine Sk <|Tn <|Sq <|Sb <|Ck fun bk =>Te [1,3,4,6,8,41,42,43,55,56,57] Ac (Ev (by simp only [go_sem,qR bk];exact Ak)) ?_
       refine Bd fun bl bm =>Bd fun ck bn =>Fe [1,3,4,6,41,42,43,55,56,57] (Ao (l:=[(63,_,_,_)]) (m:=[(64,88,[.bool bl,.ref 1 0],[.box [.sl false (L Aa a.Zm1),.sl false (L Af a.Zn1),.sl false (L Aj a.Zo1),.sl false (L Ai a.Zp1)] false,.box [i64 aw] false,.box [i64 d,i64 e,i64 f,i64 g,i64 i,u64 j,i64 k,i64 n] false,.buf 1 (L Hg o) false],_,_)]) ⟨Aq  bm,trivial⟩ ⟨(wc (A4 bn) [1]),trivial⟩) Ev ?_
       refine Bn <|Tn <|F0 [1,3,4,6,41,42,43,55,56,57] ?_
       exact Ln (ws [0,1,2,3])
      ·refine Sx <|Tx <|Ly bj bi <|Bx <|?_
       exact Jm ((ws (l':=[(1,.ref 0 0),(3,.ref 1 0),(4,.fn 88 [.ref 1 0]),(6,.ref 2 0),(41,.sl false (L Aa a.Zm1)),(42,i64 (a.Zm1.length : Int)),(43,i64 x)]) (σ':=[.box [.sl false (L Aa a.Zm1),.sl false (L Af a.Zn1),.sl false (L Aj a.Zo1),.sl false (L Ai a.Zp1)] false,.box [i64 aw] false,.box [i64 d,i64 e,i64 f,i64 g,i64 i,u64 j,i64 k,i64 n] false]) [0,1,2]).trans (ws [0,1,2]))
     intro ab
     refine Fw [1,3,4,41,42,43] (fun aM => ⟨As 206 [(1,.ref 0 0),(3,.ref 1 0),(4,.fn 88 [.ref 1 0]),(41,.sl false (L Aa a.Zm1)),(42,i64 (a.Zm1.length : Int)),(43,i64 x)],[.box [.sl false (L Aa a.Zm1),.sl false (L Af a.Zn1),.sl false (L Aj a.Zo1),.sl false (L Ai a.Zp1)] false,.box [i64 aM] false]⟩) ?_ ?_
     ·intro _
      refine Bd fun cl ax => ?_
      refine Sp (fun ak => ?_) fun ak => ?_
      ·refine Bd fun cm aN => ?_
       refine Sp (fun ay => ?_) fun ay => ?_
       ·refine Bd fun bo bp =>Bd fun cn bq =>?_
        exact Lf (Ao (l:=[(69,_,_,_),(73,_,_,_),(78,_,_,_)]) (m:=[(80,88,[.bool bo,.ref 1 0],[.box [.sl false (L Aa a.Zm1),.sl false (L Af a.Zn1),.sl false (L Aj a.Zo1),.sl false (L Ai a.Zp1)] false,.box [i64 ab] false,.box [i64 d,i64 e,i64 f,i64 g,i64 i,u64 j,i64 k,i64 n] false],_,_)]) ⟨Aq  ax,Aq  aN,Aq  bp,trivial⟩ ⟨(wc (A4 bq) [1]),trivial⟩) (Ev (by simp only [go_sem,ak,ay];exact Ak)) (ws [0,1])
       ·refine Bd fun co br => ?_
        exact Lf (Ao (l:=[(69,_,_,_),(73,_,_,_)]) (m:=[(80,88,[.bool false,.ref 1 0],[.box [.sl false (L Aa a.Zm1),.sl false (L Af a.Zn1),.sl false (L Aj a.Zo1),.sl false (L Ai a.Zp1)] false,.box [i64 ab] false,.box [i64 d,i64 e,i64 f,i64 g,i64 i,u64 j,i64 k,i64 n] false],_,_)]) ⟨Aq  ax,Aq  aN,trivial⟩ ⟨(wc (A4 br) [1]),trivial⟩) (Ev (by simp only [go_sem,ak,ay];exact Ak)) (ws [0,1])
      ·refine Bd fun cp bt => ?_
       exact Lf (Ao (l:=[(69,_,_,_)]) (m:=[(80,88,[.bool false,.ref 1 0],[.box [.sl false (L Aa a.Zm1),.sl false (L Af a.Zn1),.sl false (L Aj a.Zo1),.sl false (L Ai a.Zp1)] false,.box [i64 ab] false,.box [i64 d,i64 e,i64 f,i64 g,i64 i,u64 j,i64 k,i64 n] false],_,_)]) ⟨Aq  ax,trivial⟩ ⟨(wc (A4 bt) [1]),trivial⟩) (Ev (by simp only [go_sem,ak];exact Ak)) (ws [0,1])
     intro aM
     exact Bn <|Jm (ws [0,1])
    intro aL
    refine F0 [1,3,4,41,42,43] ?_
    exact Ln (ws [0,1])
   ·refine Sx <|Tx <|Ly a4 a3 <|Bx <|?_
    exact Jm ((ws (l':=[(1,.ref 0 0),(3,.ref 1 0),(4,.fn 88 [.ref 1 0])]) (σ':=[.box [.sl false (L Aa a.Zm1),.sl false (L Af a.Zn1),.sl false (L Aj a.Zo1),.sl false (L Ai a.Zp1)] false,.box [i64 aK] false]) [0,1]).trans (ws [0,1]))
  intro aJ
  refine Ja (fun aO => ⟨As 206 [(1,.ref 0 0),(3,.ref 1 0),(4,.fn 88 [.ref 1 0])],[.box [.sl false (L Aa a.Zm1),.sl false (L Af a.Zn1),.sl false (L Aj a.Zo1),.sl false (L Ai a.Zp1)] false,.box [i64 aO] false]⟩) ?_ ?_
  ·intro cq
   refine T0 [1,3,4,83,84,85] ?_
   refine Sb ?_
   refine Lo (fun (v : Int×Int) => (⟨As 206 [(1,.ref 0 0),(3,.ref 1 0),(4,.fn 88 [.ref 1 0]),(83,.sl false (L Af a.Zn1)),(84,i64 (a.Zn1.length : Int)),(85,i64 v.1)],[.box [.sl false (L Aa a.Zm1),.sl false (L Af a.Zn1),.sl false (L Aj a.Zo1),.sl false (L Ai a.Zp1)] false,.box [i64 v.2] false]⟩ : St)) (ws [0,1]) ?_
   rintro ⟨az,ac⟩ cr bu bv bw
   show D8 a az ac = some bu→_
   unfold D8
   refine T0 [1,3,4,83,84,85,86] ?_
   refine Sq <|Cd ?_ ?_
   ·refine Sk <|Tn <|Sq <|Sb <|Ck fun bx =>Lt fun p bz =>Lt fun q bA =>Lt fun s bB =>Lt fun t bC =>Lt fun u bD =>Te (σ':=[_,_,.box [i64 p,i64 q,i64 s,i64 t,i64 u] false]) [1,3,4,10,83,84,85] Ac (Ev (by simp only [go_sem,qR bx,bz,bA,bB,bC,bD];exact Ak)) ?_
    refine Tw [1,3,4,10,83,84,85] (fun al => ⟨As 206 [(1,.ref 0 0),(3,.ref 1 0),(4,.fn 88 [.ref 1 0]),(10,.ref 2 0),(83,.sl false (L Af a.Zn1)),(84,i64 (a.Zn1.length : Int)),(85,i64 az)],[.box [.sl false (L Aa a.Zm1),.sl false (L Af a.Zn1),.sl false (L Aj a.Zo1),.sl false (L Ai a.Zp1)] false,.box [i64 al] false,.box [i64 p,i64 q,i64 s,i64 t,i64 u] false]⟩) ?_ ?_
    ·intro _
     refine Bd fun cs aA => ?_
     refine Sp (fun am => ?_) fun am => ?_
     ·refine Bd fun ct aP => ?_
      refine Sp (fun aB => ?_) fun aB => ?_
      ·refine Bd fun bE bF =>Bd fun cu bG =>?_
       exact Lf (Ao (l:=[(96,_,_,_),(100,_,_,_),(105,_,_,_)]) (m:=[(107,88,[.bool bE,.ref 1 0],[.box [.sl false (L Aa a.Zm1),.sl false (L Af a.Zn1),.sl false (L Aj a.Zo1),.sl false (L Ai a.Zp1)] false,.box [i64 ac] false,.box [i64 p,i64 q,i64 s,i64 t,i64 u] false],_,_)]) ⟨Aq  aA,Aq  aP,Aq  bF,trivial⟩ ⟨(wc (A4 bG) [1]),trivial⟩) (Ev (by simp only [go_sem,am,aB];exact Ak)) (ws [0,1,2])
      ·refine Bd fun cv bH => ?_
       exact Lf (Ao (l:=[(96,_,_,_),(100,_,_,_)]) (m:=[(107,88,[.bool false,.ref 1 0],[.box [.sl false (L Aa a.Zm1),.sl false (L Af a.Zn1),.sl false (L Aj a.Zo1),.sl false (L Ai a.Zp1)] false,.box [i64 ac] false,.box [i64 p,i64 q,i64 s,i64 t,i64 u] false],_,_)]) ⟨Aq  aA,Aq  aP,trivial⟩ ⟨(wc (A4 bH) [1]),trivial⟩) (Ev (by simp only [go_sem,am,aB];exact Ak)) (ws [0,1,2])
     ·refine Bd fun cw bI => ?_
      exact Lf (Ao (l:=[(96,_,_,_)]) (m:=[(107,88,[.bool false,.ref 1 0],[.box [.sl false (L Aa a.Zm1),.sl false (L Af a.Zn1),.sl false (L Aj a.Zo1),.sl false (L Ai a.Zp1)] false,.box [i64 ac] false,.box [i64 p,i64 q,i64 s,i64 t,i64 u] false],_,_)]) ⟨Aq  aA,trivial⟩ ⟨(wc (A4 bI) [1]),trivial⟩) (Ev (by simp only [go_sem,am];exact Ak)) (ws [0,1,2])
    intro al
    refine Fw [1,3,4,83,84,85] (fun aQ => ⟨As 206 [(1,.ref 0 0),(3,.ref 1 0),(4,.fn 88 [.ref 1 0]),(83,.sl false (L Af a.Zn1)),(84,i64 (a.Zn1.length : Int)),(85,i64 az)],[.box [.sl false (L Aa a.Zm1),.sl false (L Af a.Zn1),.sl false (L Aj a.Zo1),.sl false (L Ai a.Zp1)] false,.box [i64 aQ] false]⟩) ?_ ?_
    ·intro _
     refine Bd fun cx aR => ?_
     refine Sp (fun aC => ?_) fun aC => ?_
     ·refine Bd fun bJ bK =>Bd fun cy bL =>?_
      exact Lf (Ao (l:=[(111,_,_,_),(115,_,_,_)]) (m:=[(117,88,[.bool bJ,.ref 1 0],[.box [.sl false (L Aa a.Zm1),.sl false (L Af a.Zn1),.sl false (L Aj a.Zo1),.sl false (L Ai a.Zp1)] false,.box [i64 al] false,.box [i64 p,i64 q,i64 s,i64 t,i64 u] false],_,_)]) ⟨Aq  aR,Aq  bK,trivial⟩ ⟨(wc (A4 bL) [1]),trivial⟩) (Ev (by simp only [go_sem,aC];exact Ak)) (ws [0,1])
     ·refine Bd fun cz bM => ?_
      exact Lf (Ao (l:=[(111,_,_,_)]) (m:=[(117,88,[.bool false,.ref 1 0],[.box [.sl false (L Aa a.Zm1),.sl false (L Af a.Zn1),.sl false (L Aj a.Zo1),.sl false (L Ai a.Zp1)] false,.box [i64 al] false,.box [i64 p,i64 q,i64 s,i64 t,i64 u] false],_,_)]) ⟨Aq  aR,trivial⟩ ⟨(wc (A4 bM) [1]),trivial⟩) (Ev (by simp only [go_sem,aC];exact Ak)) (ws [0,1])
    intro aQ
    refine Bn <|Tn <|F0 [1,3,4,83,84,85] ?_
    exact Ln (ws [0,1])
   ·refine Sx <|Tx <|Ly bw bv <|Bx <|?_
    exact Jm ((ws (l':=[(1,.ref 0 0),(3,.ref 1 0),(4,.fn 88 [.ref 1 0])]) (σ':=[.box [.sl false (L Aa a.Zm1),.sl false (L Af a.Zn1),.sl false (L Aj a.Zo1),.sl false (L Ai a.Zp1)] false,.box [i64 ac] false]) [0,1]).trans (ws [0,1]))
  intro aO
  refine Ja (fun aS => ⟨As 206 [(1,.ref 0 0),(3,.ref 1 0),(4,.fn 88 [.ref 1 0])],[.box [.sl false (L Aa a.Zm1),.sl false (L Af a.Zn1),.sl false (L Aj a.Zo1),.sl false (L Ai a.Zp1)] false,.box [i64 aS] false]⟩) ?_ ?_
  ·intro cA
   refine T0 [1,3,4,120,121,122] ?_
   refine Sb ?_
   refine Lo (fun (v : Int×Int) => (⟨As 206 [(1,.ref 0 0),(3,.ref 1 0),(4,.fn 88 [.ref 1 0]),(120,.sl false (L Aj a.Zo1)),(121,i64 (a.Zo1.length : Int)),(122,i64 v.1)],[.box [.sl false (L Aa a.Zm1),.sl false (L Af a.Zn1),.sl false (L Aj a.Zo1),.sl false (L Ai a.Zp1)] false,.box [i64 v.2] false]⟩ : St)) (ws [0,1]) ?_
   rintro ⟨aT,y⟩ cB bN bO bP
   show D3 a aT y = some bN→_
   unfold D3
   refine T0 [1,3,4,120,121,122,123] ?_
   refine Sq <|Cd ?_ ?_
   ·refine Sk <|Tn <|Sq <|Sb <|Ck fun bQ =>Lt fun ad bR =>Lt fun ae bS =>Lt fun af bT =>Te (σ':=[_,_,.box [i64 ad,i64 ae,i64 af] false]) [1,3,4,12,120,121,122] Ac (Ev (by simp only [go_sem,qR bQ,bR,bS,bT];exact Ak)) ?_
    refine Fw [1,3,4,120,121,122] (fun aU => ⟨As 206 [(1,.ref 0 0),(3,.ref 1 0),(4,.fn 88 [.ref 1 0]),(120,.sl false (L Aj a.Zo1)),(121,i64 (a.Zo1.length : Int)),(122,i64 aT)],[.box [.sl false (L Aa a.Zm1),.sl false (L Af a.Zn1),.sl false (L Aj a.Zo1),.sl false (L Ai a.Zp1)] false,.box [i64 aU] false]⟩) ?_ ?_
    ·intro _
     refine Bd fun cC an => ?_
     refine Sp (fun ag => ?_) fun ag => ?_
     ·refine Bd fun cD aD => ?_
      refine Sp (fun ao => ?_) fun ao => ?_
      ·refine Sp (fun aE => ?_) fun aE => ?_
       ·refine Bd fun bU bV =>Bd fun cE bW =>?_
        exact Lf (Ao (l:=[(133,_,_,_),(141,_,_,_),(153,_,_,_)]) (m:=[(155,88,[.bool bU,.ref 1 0],[.box [.sl false (L Aa a.Zm1),.sl false (L Af a.Zn1),.sl false (L Aj a.Zo1),.sl false (L Ai a.Zp1)] false,.box [i64 y] false,.box [i64 ad,i64 ae,i64 af] false],_,_)]) ⟨Aq  an,Aq  aD,Aq  bV,trivial⟩ ⟨(wc (A4 bW) [1]),trivial⟩) (Ev (by simp only [go_sem,ag,ao,aE];exact Ak)) (ws [0,1])
       ·refine Bd fun cF bX => ?_
        exact Lf (Ao (l:=[(133,_,_,_),(141,_,_,_)]) (m:=[(155,88,[.bool false,.ref 1 0],[.box [.sl false (L Aa a.Zm1),.sl false (L Af a.Zn1),.sl false (L Aj a.Zo1),.sl false (L Ai a.Zp1)] false,.box [i64 y] false,.box [i64 ad,i64 ae,i64 af] false],_,_)]) ⟨Aq  an,Aq  aD,trivial⟩ ⟨(wc (A4 bX) [1]),trivial⟩) (Ev (by simp only [go_sem,ag,ao,aE];exact Ak)) (ws [0,1])
      ·refine Bd fun cG bY => ?_
       exact Lf (Ao (l:=[(133,_,_,_),(141,_,_,_)]) (m:=[(155,88,[.bool false,.ref 1 0],[.box [.sl false (L Aa a.Zm1),.sl false (L Af a.Zn1),.sl false (L Aj a.Zo1),.sl false (L Ai a.Zp1)] false,.box [i64 y] false,.box [i64 ad,i64 ae,i64 af] false],_,_)]) ⟨Aq  an,Aq  aD,trivial⟩ ⟨(wc (A4 bY) [1]),trivial⟩) (Ev (by simp only [go_sem,ag,ao];exact Ak)) (ws [0,1])
     ·refine Bd fun cH bZ => ?_
      exact Lf (Ao (l:=[(133,_,_,_)]) (m:=[(155,88,[.bool false,.ref 1 0],[.box [.sl false (L Aa a.Zm1),.sl false (L Af a.Zn1),.sl false (L Aj a.Zo1),.sl false (L Ai a.Zp1)] false,.box [i64 y] false,.box [i64 ad,i64 ae,i64 af] false],_,_)]) ⟨Aq  an,trivial⟩ ⟨(wc (A4 bZ) [1]),trivial⟩) (Ev (by simp only [go_sem,ag];exact Ak)) (ws [0,1])
    intro aU
    refine Bn <|Tn <|F0 [1,3,4,120,121,122] ?_
    exact Ln (ws [0,1])
   ·refine Sx <|Tx <|Ly bP bO <|Bx <|?_
    exact Jm ((ws (l':=[(1,.ref 0 0),(3,.ref 1 0),(4,.fn 88 [.ref 1 0])]) (σ':=[.box [.sl false (L Aa a.Zm1),.sl false (L Af a.Zn1),.sl false (L Aj a.Zo1),.sl false (L Ai a.Zp1)] false,.box [i64 y] false]) [0,1]).trans (ws [0,1]))
  intro aS
  refine T0 [1,3,4,13] ?_
  refine Ja (fun aV => ⟨As 206 [(3,.ref 0 0)],[.box [i64 aV] false]⟩) ?_ ?_
  ·intro cI
   refine T0 [3,4,13,158,159,160] ?_
   refine Sb ?_
   refine Lo (fun ⟨ah,z,w⟩ => ⟨As 206 [(3,.ref 0 0),(4,.fn 88 [.ref 0 0]),(13,.ref 1 0),(158,.sl false (L Ai a.Zp1)),(159,i64 (a.Zp1.length : Int)),(160,i64 ah)],[.box [i64 z] false,.box (C1 AV.bool w.l) false]⟩) (ws [1,2]) ?_
   rintro ⟨ah,z,w⟩ cJ b0 b1 b2
   show D7 a ah z w = some b0→_
   unfold D7
   refine T0 [3,4,13,158,159,160,161] ?_
   refine Sq <|Cd ?_ ?_
   ·refine Sk <|Tn <|?_
    refine Ja (fun (v : Int×Arr Bool 4096) => (⟨As 206 [(3,.ref 0 0),(4,.fn 88 [.ref 0 0]),(13,.ref 1 0),(158,.sl false (L Ai a.Zp1)),(159,i64 (a.Zp1.length : Int)),(160,i64 ah)],[.box [i64 v.1] false,.box (C1 AV.bool v.2.l) false]⟩ : St)) ?_ ?_
    ·intro cK
     refine Sb <|Ck fun b3 =>Lt fun b b4 =>Lt fun c b5 =>Lt fun ap b6 =>Te (σ':=[_,_,.box [i64 b,i64 c,i64 ap] false]) [3,4,13,15,158,159,160] Ac (Ev (by simp only [go_sem,qR b3,b4,b5,b6];exact Ak)) ?_
     refine Tw [3,4,13,15,16,158,159,160] (fun aF => ⟨As 206 [(3,.ref 0 0),(4,.fn 88 [.ref 0 0]),(13,.ref 1 0),(15,.ref 2 0),(16,.bool aF),(158,.sl false (L Ai a.Zp1)),(159,i64 (a.Zp1.length : Int)),(160,i64 ah)],[.box [i64 z] false,.box (C1 AV.bool w.l) false,.box [i64 b,i64 c,i64 ap] false]⟩) ?_ ?_
     ·intro _
      refine Bd fun cL aq => ?_
      refine Sp (fun ai => ?_) fun ai => ?_
      ·refine Bd fun cM aG => ?_
       refine Sp (fun ar => ?_) fun ar => ?_
       ·refine Sp (fun aH => ?_) fun aH => ?_
        ·refine Bd fun cN b7 => ?_
         exact Lf (Cp (l:=[(166,_,_,_),(170,_,_,_),(182,_,_,_)]) ⟨Aq  aq,Aq  aG,Aq  b7,trivial⟩) (Ev (by simp only [go_sem,ai,ar,aH];exact Ak)) (ws [0,1,2])
        ·exact Lf (o2 166 (Aq aq) 170 (Aq aG)) (Ev (by simp only [go_sem,ai,ar,aH];exact Ak)) (ws [0,1,2])
       ·exact Lf (o2 166 (Aq aq) 170 (Aq aG)) (Ev (by simp only [go_sem,ai,ar];exact Ak)) (ws [0,1,2])
      ·exact Lf (o1 166 (Aq aq)) (Ev (by simp only [go_sem,ai];exact Ak)) (ws [0,1,2])
     intro aF
     refine Bd fun b8 b9 =>Te [3,4,13,15,16,158,159,160] (Ao (l:=[]) (m:=[(186,88,[.bool aF,.ref 0 0],[.box [i64 z] false,.box (C1 AV.bool w.l) false,.box [i64 b,i64 c,i64 ap] false],_,_)]) trivial ⟨(wc (A4 b9) [0]),trivial⟩) Ev ?_
     refine T0 [3,4,13,15,158,159,160,187] ?_
     refine Cd ?_ ?_
     ·refine Ck fun aW =>Ck fun aX =>?_
      have aY : b.toNat * 64 + c.toNat < 4096:=AfL aW.2 aX.2
      have ca : b.toNat * 64 + c.toNat≤4095:=Nat.le_of_lt_succ aY
      refine Bd fun cO cb => ?_
      refine Dq [[],[],[1],[],[3],[1,2],[1,2,3,4,5],[1,2,3,4,5,6],[1,2,3,4,5,6,7],[0,1,2,3,4,5,6,7,8]] [3,4,13,15,158,159,160] (Ao (l:=[]) (m:=[(197,88,[.bool (!(w.get (b.toNat * 64 + c.toNat))),.ref 0 0],[.box [i64 b8] false,.box (C1 AV.bool w.l) false,.box [i64 b,i64 c,i64 ap] false],_,_)]) trivial ⟨(wc (A4 cb) [0]),trivial⟩) (Ev (by simp only [go_sem,qR aW,qR aX,aY,ca];exact Ak)) ?_
      refine Ck fun aZ =>Ck fun a0 =>?_
      have a1 : b.toNat * 64 + c.toNat < 4096:=AfL aZ.2 a0.2
      have cc : b.toNat * 64 + c.toNat≤4095:=Nat.le_of_lt_succ a1
      refine Lt fun cd ce =>Ge (σ':=[_,.box (C1 AV.bool cd.l) false,_]) [[],[0],[],[2],[0,1],[0,1,2,3,4],[0,1,2,3,4,5]] [3,4,13,158,159,160] Ac (Ev (by simp only [go_sem,qR aZ,qR a0,a1,cc,ce];exact Ak)) ?_
      exact Bn <|Jm (ws [0,1])
     ·exact Sk <|Bn <|Jm (ws [0,1])
    rintro ⟨cP,cQ⟩
    refine F0 [3,4,13,158,159,160] ?_
    exact Ln (ws [0,1])
   ·refine Sx <|Tx <|Ly b2 b1 <|Bx <|?_
    exact Jm ((ws (l':=[(3,.ref 0 0)]) (σ':=[.box [i64 z] false]) [0]).trans (ws [0]))
  intro aV
  refine T0 [2] ?_
  exact Sr <|Rr
theorem I0 {a r} (h : C8 a = some r) : Con B 16 [.agg [.sl false (L Ah a.Zs1.Zu),.sl false (L Al a.Zs1.Zv),.sl false (L Aa a.Zt1.Zm1),.sl false (L Af a.Zt1.Zn1),.sl false (L Aj a.Zt1.Zo1),.sl false (L Ai a.Zt1.Zp1),.sl false (L Ag a.Zu1),.sl false (L Ae a.Zv1),.sl false (L Ab a.Zw1)]] [] (fun r' σ' => r' = i64 r∧σ' = []):=by
 refine Cw 193 [.tmp 2] Tryz.func16 (fun F hE => ?_) h
 unfold C8
 refine T0 [1] ?_
 refine Sq <|Bd fun b5 ax =>Te [1,3] (o1 22 (Po ax)) Ev ?_
 refine T0 [1,3,24] ?_
 refine Cd ?_ ?_
 ·refine T0 [2] ?_
  exact Sr <|Tr <|Rr
 ·refine Sk <|Tn <|Sq <|Bd fun b6 ay =>Te [1,4] (o1 28 (R3 ay)) Ev ?_
  refine T0 [1,4,30] ?_
  refine Cd ?_ ?_
  ·refine T0 [2] ?_
   exact Sr <|Tr <|Rr
  ·refine Sk <|Tn <|Sq <|?_
   refine Tw [1,47] (fun t => ⟨As 193 [(1,.ref 0 0),(47,.bool t)],[.box [.sl false (L Ah a.Zs1.Zu),.sl false (L Al a.Zs1.Zv),.sl false (L Aa a.Zt1.Zm1),.sl false (L Af a.Zt1.Zn1),.sl false (L Aj a.Zt1.Zo1),.sl false (L Ai a.Zt1.Zp1),.sl false (L Ag a.Zu1),.sl false (L Ae a.Zv1),.sl false (L Ab a.Zw1)] false]⟩) ?_ ?_
   ·intro _
    refine Sp (fun e => ?_) fun e => ?_
    ·exact Lf Ac (Ev (by simp only [go_sem,e];exact Ak)) (ws [0])
    ·refine Sp (fun l => ?_) fun l => ?_
     ·exact Lf Ac (Ev (by simp only [go_sem,e,l];exact Ak)) (ws [0])
     ·exact Lf Ac (Ev (by simp only [go_sem,e,l];exact Ak)) (ws [0])
   intro t
   refine Cd ?_ ?_
   ·refine T0 [2] ?_
    exact Sr <|Tr <|Rr
   ·refine Sk <|Tn <|Lt fun b az =>De (fr':=[(1,_),(5,_),(6,i64 b)]) [[],[0],[0,1],[],[3],[3,4],[0,1,2],[0,1,2,3,4,5,6]] [1,5,6] Ac (Ev (by simp only [go_sem,az];exact Ak)) ?_
    refine T0 [1,5,6,7] ?_
    refine Ja (fun u => ⟨As 193 [(1,.ref 0 0),(5,.sl false (L Ah a.Zs1.Zu)),(6,i64 b),(7,.bool u)],[.box [.sl false (L Ah a.Zs1.Zu),.sl false (L Al a.Zs1.Zv),.sl false (L Aa a.Zt1.Zm1),.sl false (L Af a.Zt1.Zn1),.sl false (L Aj a.Zt1.Zo1),.sl false (L Ai a.Zt1.Zp1),.sl false (L Ag a.Zu1),.sl false (L Ae a.Zv1),.sl false (L Ab a.Zw1)] false]⟩) ?_ ?_
    ·intro b7
     refine T0 [1,5,6,7,57,58,59] ?_
     refine Sb ?_
     refine Lo (fun (v : Bool×Int) => (⟨As 193 [(1,.ref 0 0),(5,.sl false (L Ah a.Zs1.Zu)),(6,i64 b),(7,.bool v.1),(57,.sl false (L Ag a.Zu1)),(58,i64 (a.Zu1.length : Int)),(59,i64 v.2)],[.box [.sl false (L Ah a.Zs1.Zu),.sl false (L Al a.Zs1.Zv),.sl false (L Aa a.Zt1.Zm1),.sl false (L Af a.Zt1.Zn1),.sl false (L Aj a.Zt1.Zo1),.sl false (L Ai a.Zt1.Zp1),.sl false (L Ag a.Zu1),.sl false (L Ae a.Zv1),.sl false (L Ab a.Zw1)] false]⟩ : St)) (ws [0]) ?_
     rintro ⟨w,x⟩ b8 aA aB aC
     show Cv a w x = some aA→_
     unfold Cv
     refine T0 [1,5,6,7,57,58,59,60] ?_
     refine Sq <|Cd ?_ ?_
     ·refine Sk <|Tn <|Sq <|Sb <|Ck fun aD =>Lt fun aE aF =>Lt fun aG aH =>Lt fun aI aJ =>Te (σ':=[_,.box [i64 aE,i64 aG,i64 aI] false]) [1,5,6,7,9,57,58,59] Ac (Ev (by simp only [go_sem,qR aD,aF,aH,aJ];exact Ak)) ?_
      refine Fw [1,5,6,7,57,58,59] (fun y => ⟨As 193 [(1,.ref 0 0),(5,.sl false (L Ah a.Zs1.Zu)),(6,i64 b),(7,.bool y),(57,.sl false (L Ag a.Zu1)),(58,i64 (a.Zu1.length : Int)),(59,i64 x)],[.box [.sl false (L Ah a.Zs1.Zu),.sl false (L Al a.Zs1.Zv),.sl false (L Aa a.Zt1.Zm1),.sl false (L Af a.Zt1.Zn1),.sl false (L Aj a.Zt1.Zo1),.sl false (L Ai a.Zt1.Zp1),.sl false (L Ag a.Zu1),.sl false (L Ae a.Zv1),.sl false (L Ab a.Zw1)] false]⟩) ?_ ?_
      ·intro _
       refine Sp (fun c => ?_) fun c => ?_
       ·exact Lf Ac (Ev (by simp only [go_sem,c];exact Ak)) (ws [0])
       ·refine Bd fun b9 f => ?_
        refine Sp (fun d => ?_) fun d => ?_
        ·exact Lf (o1 70 (Aq f)) (Ev (by simp only [go_sem,c,d];exact Ak)) (ws [0])
        ·refine Sp (fun g => ?_) fun g => ?_
         ·exact Lf (o1 70 (Aq f)) (Ev (by simp only [go_sem,c,d,g];exact Ak)) (ws [0])
         ·refine Sp (fun m => ?_) fun m => ?_
          ·exact Lf (o1 70 (Aq f)) (Ev (by simp only [go_sem,c,d,g,m];exact Ak)) (ws [0])
          ·exact Lf (o1 70 (Aq f)) (Ev (by simp only [go_sem,c,d,g,m];exact Ak)) (ws [0])
      intro y
      refine Bn <|Tn <|F0 [1,5,6,7,57,58,59] ?_
      exact Ln (ws [0])
     ·refine Sx <|Tx <|Ly aC aB <|Bx <|?_
      exact Jm ((ws (l':=[(1,.ref 0 0),(5,.sl false (L Ah a.Zs1.Zu)),(6,i64 b),(7,.bool w)]) (σ':=[.box [.sl false (L Ah a.Zs1.Zu),.sl false (L Al a.Zs1.Zv),.sl false (L Aa a.Zt1.Zm1),.sl false (L Af a.Zt1.Zn1),.sl false (L Aj a.Zt1.Zo1),.sl false (L Ai a.Zt1.Zp1),.sl false (L Ag a.Zu1),.sl false (L Ae a.Zv1),.sl false (L Ab a.Zw1)] false]) [0]).trans (ws [0]))
    intro u
    refine Ja (fun z => ⟨As 193 [(1,.ref 0 0),(5,.sl false (L Ah a.Zs1.Zu)),(6,i64 b),(7,.bool z)],[.box [.sl false (L Ah a.Zs1.Zu),.sl false (L Al a.Zs1.Zv),.sl false (L Aa a.Zt1.Zm1),.sl false (L Af a.Zt1.Zn1),.sl false (L Aj a.Zt1.Zo1),.sl false (L Ai a.Zt1.Zp1),.sl false (L Ag a.Zu1),.sl false (L Ae a.Zv1),.sl false (L Ab a.Zw1)] false]⟩) ?_ ?_
    ·intro ca
     refine T0 [1,5,6,7,92,93,94] ?_
     refine Sb ?_
     refine Lo (fun (v : Bool×Int) => (⟨As 193 [(1,.ref 0 0),(5,.sl false (L Ah a.Zs1.Zu)),(6,i64 b),(7,.bool v.1),(92,.sl false (L Ae a.Zv1)),(93,i64 (a.Zv1.length : Int)),(94,i64 v.2)],[.box [.sl false (L Ah a.Zs1.Zu),.sl false (L Al a.Zs1.Zv),.sl false (L Aa a.Zt1.Zm1),.sl false (L Af a.Zt1.Zn1),.sl false (L Aj a.Zt1.Zo1),.sl false (L Ai a.Zt1.Zp1),.sl false (L Ag a.Zu1),.sl false (L Ae a.Zv1),.sl false (L Ab a.Zw1)] false]⟩ : St)) (ws [0]) ?_
     rintro ⟨aa,ab⟩ cb aK aL aM
     show Cu a aa ab = some aK→_
     unfold Cu
     refine T0 [1,5,6,7,92,93,94,95] ?_
     refine Sq <|Cd ?_ ?_
     ·refine Sk <|Tn <|Sq <|Sb <|Ck fun aN =>Lt fun aO aP =>Te (σ':=[_,.box [i64 aO] false]) [1,5,6,7,11,92,93,94] Ac (Ev (by simp only [go_sem,qR aN,aP];exact Ak)) ?_
      refine Fw [1,5,6,7,92,93,94] (fun ac => ⟨As 193 [(1,.ref 0 0),(5,.sl false (L Ah a.Zs1.Zu)),(6,i64 b),(7,.bool ac),(92,.sl false (L Ae a.Zv1)),(93,i64 (a.Zv1.length : Int)),(94,i64 ab)],[.box [.sl false (L Ah a.Zs1.Zu),.sl false (L Al a.Zs1.Zv),.sl false (L Aa a.Zt1.Zm1),.sl false (L Af a.Zt1.Zn1),.sl false (L Aj a.Zt1.Zo1),.sl false (L Ai a.Zt1.Zp1),.sl false (L Ag a.Zu1),.sl false (L Ae a.Zv1),.sl false (L Ab a.Zw1)] false]⟩) ?_ ?_
      ·intro _
       refine Sp (fun i => ?_) fun i => ?_
       ·exact Lf Ac (Ev (by simp only [go_sem,i];exact Ak)) (ws [0])
       ·refine Bd fun cc ad => ?_
        refine Sp (fun n => ?_) fun n => ?_
        ·exact Lf (o1 105 (Aq ad)) (Ev (by simp only [go_sem,i,n];exact Ak)) (ws [0])
        ·refine Ck fun aQ => ?_
         exact Lf (o1 105 (Aq ad)) (Ev (by simp only [go_sem,i,n,qR aQ];exact Ak)) (ws [0])
      intro ac
      refine Bn <|Tn <|F0 [1,5,6,7,92,93,94] ?_
      exact Ln (ws [0])
     ·refine Sx <|Tx <|Ly aM aL <|Bx <|?_
      exact Jm ((ws (l':=[(1,.ref 0 0),(5,.sl false (L Ah a.Zs1.Zu)),(6,i64 b),(7,.bool aa)]) (σ':=[.box [.sl false (L Ah a.Zs1.Zu),.sl false (L Al a.Zs1.Zv),.sl false (L Aa a.Zt1.Zm1),.sl false (L Af a.Zt1.Zn1),.sl false (L Aj a.Zt1.Zo1),.sl false (L Ai a.Zt1.Zp1),.sl false (L Ag a.Zu1),.sl false (L Ae a.Zv1),.sl false (L Ab a.Zw1)] false]) [0]).trans (ws [0]))
    intro z
    refine Ja (fun ae => ⟨As 193 [(1,.ref 0 0),(5,.sl false (L Ah a.Zs1.Zu)),(6,i64 b),(7,.bool ae)],[.box [.sl false (L Ah a.Zs1.Zu),.sl false (L Al a.Zs1.Zv),.sl false (L Aa a.Zt1.Zm1),.sl false (L Af a.Zt1.Zn1),.sl false (L Aj a.Zt1.Zo1),.sl false (L Ai a.Zt1.Zp1),.sl false (L Ag a.Zu1),.sl false (L Ae a.Zv1),.sl false (L Ab a.Zw1)] false]⟩) ?_ ?_
    ·intro cd
     refine T0 [1,5,6,7,120,121,122] ?_
     refine Sb ?_
     refine Lo (fun (v : Bool×Int) => (⟨As 193 [(1,.ref 0 0),(5,.sl false (L Ah a.Zs1.Zu)),(6,i64 b),(7,.bool v.1),(120,.sl false (L Af a.Zt1.Zn1)),(121,i64 (a.Zt1.Zn1.length : Int)),(122,i64 v.2)],[.box [.sl false (L Ah a.Zs1.Zu),.sl false (L Al a.Zs1.Zv),.sl false (L Aa a.Zt1.Zm1),.sl false (L Af a.Zt1.Zn1),.sl false (L Aj a.Zt1.Zo1),.sl false (L Ai a.Zt1.Zp1),.sl false (L Ag a.Zu1),.sl false (L Ae a.Zv1),.sl false (L Ab a.Zw1)] false]⟩ : St)) (ws [0]) ?_
     rintro ⟨af,ag⟩ ce aR aS aT
     show Cr a af ag = some aR→_
     unfold Cr
     refine T0 [1,5,6,7,120,121,122,123] ?_
     refine Sq <|Cd ?_ ?_
     ·refine Sk <|Tn <|Sq <|Sb <|Ck fun aU =>Lt fun aV aW =>Lt fun aX aY =>Lt fun aZ a0 =>Lt fun a1 a2 =>Lt fun a3 a4 =>Te (σ':=[_,.box [i64 aV,i64 aX,i64 aZ,i64 a1,i64 a3] false]) [1,5,6,7,13,120,121,122] Ac (Ev (by simp only [go_sem,qR aU,aW,aY,a0,a2,a4];exact Ak)) ?_
      refine Fw [1,5,6,7,120,121,122] (fun ah => ⟨As 193 [(1,.ref 0 0),(5,.sl false (L Ah a.Zs1.Zu)),(6,i64 b),(7,.bool ah),(120,.sl false (L Af a.Zt1.Zn1)),(121,i64 (a.Zt1.Zn1.length : Int)),(122,i64 ag)],[.box [.sl false (L Ah a.Zs1.Zu),.sl false (L Al a.Zs1.Zv),.sl false (L Aa a.Zt1.Zm1),.sl false (L Af a.Zt1.Zn1),.sl false (L Aj a.Zt1.Zo1),.sl false (L Ai a.Zt1.Zp1),.sl false (L Ag a.Zu1),.sl false (L Ae a.Zv1),.sl false (L Ab a.Zw1)] false]⟩) ?_ ?_
      ·intro _
       refine Sp (fun o => ?_) fun o => ?_
       ·exact Lf Ac (Ev (by simp only [go_sem,o];exact Ak)) (ws [0])
       ·exact Lf Ac (Ev (by simp only [go_sem,o];exact Ak)) (ws [0])
      intro ah
      refine Bn <|Tn <|F0 [1,5,6,7,120,121,122] ?_
      exact Ln (ws [0])
     ·refine Sx <|Tx <|Ly aT aS <|Bx <|?_
      exact Jm ((ws (l':=[(1,.ref 0 0),(5,.sl false (L Ah a.Zs1.Zu)),(6,i64 b),(7,.bool af)]) (σ':=[.box [.sl false (L Ah a.Zs1.Zu),.sl false (L Al a.Zs1.Zv),.sl false (L Aa a.Zt1.Zm1),.sl false (L Af a.Zt1.Zn1),.sl false (L Aj a.Zt1.Zo1),.sl false (L Ai a.Zt1.Zp1),.sl false (L Ag a.Zu1),.sl false (L Ae a.Zv1),.sl false (L Ab a.Zw1)] false]) [0]).trans (ws [0]))
    intro ae
    refine Ja (fun ai => ⟨As 193 [(1,.ref 0 0),(6,i64 b),(7,.bool ai)],[.box [.sl false (L Ah a.Zs1.Zu),.sl false (L Al a.Zs1.Zv),.sl false (L Aa a.Zt1.Zm1),.sl false (L Af a.Zt1.Zn1),.sl false (L Aj a.Zt1.Zo1),.sl false (L Ai a.Zt1.Zp1),.sl false (L Ag a.Zu1),.sl false (L Ae a.Zv1),.sl false (L Ab a.Zw1)] false]⟩) ?_ ?_
    ·intro cf
     refine T0 [1,6,7,135,136,137] ?_
     refine Sb ?_
     refine Lo (fun (v : Bool×Int) => (⟨As 193 [(1,.ref 0 0),(6,i64 b),(7,.bool v.1),(135,.sl false (L Ah a.Zs1.Zu)),(136,i64 (a.Zs1.Zu.length : Int)),(137,i64 v.2)],[.box [.sl false (L Ah a.Zs1.Zu),.sl false (L Al a.Zs1.Zv),.sl false (L Aa a.Zt1.Zm1),.sl false (L Af a.Zt1.Zn1),.sl false (L Aj a.Zt1.Zo1),.sl false (L Ai a.Zt1.Zp1),.sl false (L Ag a.Zu1),.sl false (L Ae a.Zv1),.sl false (L Ab a.Zw1)] false]⟩ : St)) (ws [0]) ?_
     rintro ⟨aj,ak⟩ cg a5 a6 a7
     show Cx a b aj ak = some a5→_
     unfold Cx
     refine T0 [1,6,7,135,136,137,138] ?_
     refine Sq <|Cd ?_ ?_
     ·refine Sk <|Tn <|Sq <|Sb <|Ck fun a8 =>Lt fun a9 ba =>Lt fun bb bc =>Lt fun bd be =>Te (σ':=[_,.box [i64 a9,i64 bb,i64 bd] false]) [1,6,7,15,135,136,137] Ac (Ev (by simp only [go_sem,qR a8,ba,bc,be];exact Ak)) ?_
      refine Fw [1,6,7,135,136,137] (fun al => ⟨As 193 [(1,.ref 0 0),(6,i64 b),(7,.bool al),(135,.sl false (L Ah a.Zs1.Zu)),(136,i64 (a.Zs1.Zu.length : Int)),(137,i64 ak)],[.box [.sl false (L Ah a.Zs1.Zu),.sl false (L Al a.Zs1.Zv),.sl false (L Aa a.Zt1.Zm1),.sl false (L Af a.Zt1.Zn1),.sl false (L Aj a.Zt1.Zo1),.sl false (L Ai a.Zt1.Zp1),.sl false (L Ag a.Zu1),.sl false (L Ae a.Zv1),.sl false (L Ab a.Zw1)] false]⟩) ?_ ?_
      ·intro _
       refine Sp (fun j => ?_) fun j => ?_
       ·exact Lf Ac (Ev (by simp only [go_sem,j];exact Ak)) (ws [0])
       ·refine Sp (fun p => ?_) fun p => ?_
        ·exact Lf Ac (Ev (by simp only [go_sem,j,p];exact Ak)) (ws [0])
        ·exact Lf Ac (Ev (by simp only [go_sem,j,p];exact Ak)) (ws [0])
      intro al
      refine Bn <|Tn <|F0 [1,6,7,135,136,137] ?_
      exact Ln (ws [0])
     ·refine Sx <|Tx <|Ly a7 a6 <|Bx <|?_
      exact Jm ((ws (l':=[(1,.ref 0 0),(6,i64 b),(7,.bool aj)]) (σ':=[.box [.sl false (L Ah a.Zs1.Zu),.sl false (L Al a.Zs1.Zv),.sl false (L Aa a.Zt1.Zm1),.sl false (L Af a.Zt1.Zn1),.sl false (L Aj a.Zt1.Zo1),.sl false (L Ai a.Zt1.Zp1),.sl false (L Ag a.Zu1),.sl false (L Ae a.Zv1),.sl false (L Ab a.Zw1)] false]) [0]).trans (ws [0]))
    intro ai
    refine Ja (fun am => ⟨As 193 [(1,.ref 0 0),(7,.bool am)],[.box [.sl false (L Ah a.Zs1.Zu),.sl false (L Al a.Zs1.Zv),.sl false (L Aa a.Zt1.Zm1),.sl false (L Af a.Zt1.Zn1),.sl false (L Aj a.Zt1.Zo1),.sl false (L Ai a.Zt1.Zp1),.sl false (L Ag a.Zu1),.sl false (L Ae a.Zv1),.sl false (L Ab a.Zw1)] false]⟩) ?_ ?_
    ·intro ch
     refine T0 [1,6,7,157,158,159] ?_
     refine Sb ?_
     refine Lo (fun (v : Bool×Int) => (⟨As 193 [(1,.ref 0 0),(6,i64 b),(7,.bool v.1),(157,.sl false (L Al a.Zs1.Zv)),(158,i64 (a.Zs1.Zv.length : Int)),(159,i64 v.2)],[.box [.sl false (L Ah a.Zs1.Zu),.sl false (L Al a.Zs1.Zv),.sl false (L Aa a.Zt1.Zm1),.sl false (L Af a.Zt1.Zn1),.sl false (L Aj a.Zt1.Zo1),.sl false (L Ai a.Zt1.Zp1),.sl false (L Ag a.Zu1),.sl false (L Ae a.Zv1),.sl false (L Ab a.Zw1)] false]⟩ : St)) (ws [0]) ?_
     rintro ⟨an,ao⟩ ci bf bg bh
     show Cs a b an ao = some bf→_
     unfold Cs
     refine T0 [1,6,7,157,158,159,160] ?_
     refine Sq <|Cd ?_ ?_
     ·refine Sk <|Tn <|Sq <|Sb <|Ck fun bi =>Lt fun bj bk =>Lt fun bl bm =>Lt fun bn bo =>Lt fun bp bq =>Lt fun br bs =>Te (σ':=[_,.box [i64 bj,i64 bl,i64 bn,i64 bp,i64 br] false]) [1,6,7,17,157,158,159] Ac (Ev (by simp only [go_sem,qR bi,bk,bm,bo,bq,bs];exact Ak)) ?_
      refine Fw [1,6,7,157,158,159] (fun ap => ⟨As 193 [(1,.ref 0 0),(6,i64 b),(7,.bool ap),(157,.sl false (L Al a.Zs1.Zv)),(158,i64 (a.Zs1.Zv.length : Int)),(159,i64 ao)],[.box [.sl false (L Ah a.Zs1.Zu),.sl false (L Al a.Zs1.Zv),.sl false (L Aa a.Zt1.Zm1),.sl false (L Af a.Zt1.Zn1),.sl false (L Aj a.Zt1.Zo1),.sl false (L Ai a.Zt1.Zp1),.sl false (L Ag a.Zu1),.sl false (L Ae a.Zv1),.sl false (L Ab a.Zw1)] false]⟩) ?_ ?_
      ·intro _
       refine Sp (fun q => ?_) fun q => ?_
       ·exact Lf Ac (Ev (by simp only [go_sem,q];exact Ak)) (ws [0])
       ·exact Lf Ac (Ev (by simp only [go_sem,q];exact Ak)) (ws [0])
      intro ap
      refine Bn <|Tn <|F0 [1,6,7,157,158,159] ?_
      exact Ln (ws [0])
     ·refine Sx <|Tx <|Ly bh bg <|Bx <|?_
      exact Jm ((ws (l':=[(1,.ref 0 0),(7,.bool an)]) (σ':=[.box [.sl false (L Ah a.Zs1.Zu),.sl false (L Al a.Zs1.Zv),.sl false (L Aa a.Zt1.Zm1),.sl false (L Af a.Zt1.Zn1),.sl false (L Aj a.Zt1.Zo1),.sl false (L Ai a.Zt1.Zp1),.sl false (L Ag a.Zu1),.sl false (L Ae a.Zv1),.sl false (L Ab a.Zw1)] false]) [0]).trans (ws [0]))
    intro am
    refine Ja (fun aq => ⟨As 193 [(7,.bool aq)],[]⟩) ?_ ?_
    ·intro cj
     refine T0 [7,172,173,174] ?_
     refine Sb ?_
     refine Lo (fun (v : Bool×Int) => (⟨As 193 [(7,.bool v.1),(172,.sl false (L Ab a.Zw1)),(173,i64 (a.Zw1.length : Int)),(174,i64 v.2)],[]⟩ : St)) (ws []) ?_
     rintro ⟨ar,au⟩ ck bt bu bv
     show Cq a ar au = some bt→_
     unfold Cq
     refine T0 [7,172,173,174,175] ?_
     refine Sq <|Cd ?_ ?_
     ·refine Sk <|Tn <|Sq <|Sb <|Ck fun bw =>Lt fun bx bz =>Lt fun bA bB =>Lt fun bC bD =>Lt fun bE bF =>Lt fun bG bH =>Lt fun bI bJ =>Lt fun bK bL =>Lt fun bM bN =>Lt fun bO bP =>Lt fun bQ bR =>Lt fun bS bT =>Lt fun bU bV =>Lt fun bW bX =>Lt fun bY bZ =>Lt fun b0 b1 =>Lt fun b2 b3 =>Te (σ':=[.box [u64 bx,i64 bA,i64 bC,i64 bE,i64 bG,i64 bI,i64 bK,i64 bM,i64 bO,i64 bQ,i64 bS,i64 bU,i64 bW,i64 bY,i64 b0,.sl false (L Hg b2)] false]) [7,19,172,173,174] Ac (Ev (by simp only [go_sem,qR bw,bz,bB,bD,bF,bH,bJ,bL,bN,bP,bR,bT,bV,bX,bZ,b1,b3];exact Ak)) ?_
      refine Fw [7,172,173,174] (fun av => ⟨As 193 [(7,.bool av),(172,.sl false (L Ab a.Zw1)),(173,i64 (a.Zw1.length : Int)),(174,i64 au)],[]⟩) ?_ ?_
      ·intro _
       refine Sp (fun k => ?_) fun k => ?_
       ·exact Lf Ac (Ev (by simp only [go_sem,k];exact Ak)) (ws [])
       ·refine Bd fun cl aw => ?_
        refine Sp (fun s => ?_) fun s => ?_
        ·exact Lf (o1 182 (Jk aw)) (Ev (by simp only [go_sem,k,s];exact Ak)) (ws [])
        ·refine Bd fun cm b4 => ?_
         exact Lf (o2 182 (Jk aw) 188 (Ut b4)) (Ev (by simp only [go_sem,k,s];exact Ak)) (ws [])
      intro av
      refine Bn <|Tn <|F0 [7,172,173,174] ?_
      exact Ln (ws [])
     ·refine Sx <|Tx <|Ly bv bu <|Bx <|?_
      exact Jm ((ws (l':=[(7,.bool ar)]) (σ':=[]) []).trans (ws []))
    intro aq
    refine Sq <|T0 [192] ?_
    refine Cd ?_ ?_
    ·refine T0 [2] ?_
     exact Sr <|Tr <|Rr
    ·refine Sk <|Tn <|T0 [2] ?_
     exact Sr <|Rr
theorem Pf {a r} (h : K0 a = some r) : Con B 13 [.agg [.sl false (L Ah a.Zs1.Zu),.sl false (L Al a.Zs1.Zv),.sl false (L Aa a.Zt1.Zm1),.sl false (L Af a.Zt1.Zn1),.sl false (L Aj a.Zt1.Zo1),.sl false (L Ai a.Zt1.Zp1),.sl false (L Ag a.Zu1),.sl false (L Ae a.Zv1),.sl false (L Ab a.Zw1)]] [] (fun r' σ' => r' = .bool r∧σ' = []):=by
 refine Cw 86 [.tmp 2] Tryz.func13 (fun F hE => ?_) h
 unfold K0
 refine T0 [1] ?_
 refine Jo (fun _ => ⟨As 86 [(1,.ref 0 0)],[.box [.sl false (L Ah a.Zs1.Zu),.sl false (L Al a.Zs1.Zv),.sl false (L Aa a.Zt1.Zm1),.sl false (L Af a.Zt1.Zn1),.sl false (L Aj a.Zt1.Zo1),.sl false (L Ai a.Zt1.Zp1),.sl false (L Ag a.Zu1),.sl false (L Ae a.Zv1),.sl false (L Ab a.Zw1)] false]⟩) ?_ ?_
 ·intro y t
  refine T0 [1,3] ?_
  refine Sb ?_
  refine Lo (fun e => ⟨As 86 [(1,.ref 0 0),(3,i64 e)],[.box [.sl false (L Ah a.Zs1.Zu),.sl false (L Al a.Zs1.Zv),.sl false (L Aa a.Zt1.Zm1),.sl false (L Af a.Zt1.Zn1),.sl false (L Aj a.Zt1.Zo1),.sl false (L Ai a.Zt1.Zp1),.sl false (L Ag a.Zu1),.sl false (L Ae a.Zv1),.sl false (L Ab a.Zw1)] false]⟩) (ws [0]) ?_
  rintro e z u n o
  show Hp a e = some u→_
  unfold Hp
  refine Sq ?_
  refine Tw [1,3,14] (fun p => ⟨As 86 [(1,.ref 0 0),(3,i64 e),(14,.bool p)],[.box [.sl false (L Ah a.Zs1.Zu),.sl false (L Al a.Zs1.Zv),.sl false (L Aa a.Zt1.Zm1),.sl false (L Af a.Zt1.Zn1),.sl false (L Aj a.Zt1.Zo1),.sl false (L Ai a.Zt1.Zp1),.sl false (L Ag a.Zu1),.sl false (L Ae a.Zv1),.sl false (L Ab a.Zw1)] false]⟩) ?_ ?_
  ·intro _
   refine Sp (fun i => ?_) fun i => ?_
   ·exact Lf Ac (Ev (by simp only [go_sem,i];exact Ak)) (ws [0])
   ·exact Lf Ac (Ev (by simp only [go_sem,i];exact Ak)) (ws [0])
  intro p
  refine Cd ?_ ?_
  ·refine Sk <|Tn <|Sq <|Sb <|Ck fun v =>Lt fun w x =>Te (fr':=[(1,_),(3,_),(25,.bool w)]) [1,3,25] Ac (Ev (by simp only [go_sem,qR v,x];exact Ak)) ?_
   refine Cd ?_ ?_
   ·refine T0 [2] ?_
    exact Sr <|Br <|Tr <|Lr o n <|Br <|Jr t <|Rr
   ·refine Sk <|Bn <|Tn <|F0 [1,3] ?_
    exact Ln (ws [0])
  ·refine Sx <|Tx <|Lx o n <|Bx <|?_
   exact Jn ((ws (l':=[(1,.ref 0 0)]) (σ':=[.box [.sl false (L Ah a.Zs1.Zu),.sl false (L Al a.Zs1.Zv),.sl false (L Aa a.Zt1.Zm1),.sl false (L Af a.Zt1.Zn1),.sl false (L Aj a.Zt1.Zo1),.sl false (L Ai a.Zt1.Zp1),.sl false (L Ag a.Zu1),.sl false (L Ae a.Zv1),.sl false (L Ab a.Zw1)] false]) [0]).trans (ws [0]))
 intro _
 refine Tw [1,4] (fun j => ⟨As 86 [(1,.ref 0 0),(4,.bool j)],[.box [.sl false (L Ah a.Zs1.Zu),.sl false (L Al a.Zs1.Zv),.sl false (L Aa a.Zt1.Zm1),.sl false (L Af a.Zt1.Zn1),.sl false (L Aj a.Zt1.Zo1),.sl false (L Ai a.Zt1.Zp1),.sl false (L Ag a.Zu1),.sl false (L Ae a.Zv1),.sl false (L Ab a.Zw1)] false]⟩) ?_ ?_
 ·intro _
  refine Sp (fun k => ?_) fun k => ?_
  ·exact Lf Ac (Ev (by simp only [go_sem,k];exact Ak)) (ws [0])
  ·exact Lf Ac (Ev (by simp only [go_sem,k];exact Ak)) (ws [0])
 intro j
 refine Tw [1,4,5] (fun q => ⟨As 86 [(1,.ref 0 0),(4,.bool j),(5,.bool q)],[.box [.sl false (L Ah a.Zs1.Zu),.sl false (L Al a.Zs1.Zv),.sl false (L Aa a.Zt1.Zm1),.sl false (L Af a.Zt1.Zn1),.sl false (L Aj a.Zt1.Zo1),.sl false (L Ai a.Zt1.Zp1),.sl false (L Ag a.Zu1),.sl false (L Ae a.Zv1),.sl false (L Ab a.Zw1)] false]⟩) ?_ ?_
 ·intro _
  refine Sp (fun c => ?_) fun c => ?_
  ·refine Sp (fun f => ?_) fun f => ?_
   ·refine Sp (fun l => ?_) fun l => ?_
    ·exact Lf Ac (Ev (by simp only [go_sem,c,f,l];exact Ak)) (ws [0])
    ·exact Lf Ac (Ev (by simp only [go_sem,c,f,l];exact Ak)) (ws [0])
   ·exact Lf Ac (Ev (by simp only [go_sem,c,f];exact Ak)) (ws [0])
  ·exact Lf Ac (Ev (by simp only [go_sem,c];exact Ak)) (ws [0])
 intro q
 refine Tw [2] (fun s => ⟨As 86 [(2,.bool s)],[]⟩) ?_ ?_
 ·intro _
  refine Sp (fun b => ?_) fun b => ?_
  ·refine Sp (fun d => ?_) fun d => ?_
   ·refine Sp (fun g => ?_) fun g => ?_
    ·refine Sp (fun m => ?_) fun m => ?_
     ·exact Lf Ac (Ev (by simp only [go_sem,b,d,g,m];exact Ak)) (ws [])
     ·exact Lf Ac (Ev (by simp only [go_sem,b,d,g,m];exact Ak)) (ws [])
    ·exact Lf Ac (Ev (by simp only [go_sem,b,d,g];exact Ak)) (ws [])
   ·exact Lf Ac (Ev (by simp only [go_sem,b,d];exact Ak)) (ws [])
  ·exact Lf Ac (Ev (by simp only [go_sem,b];exact Ak)) (ws [])
 intro s
 exact Sr <|Rr
theorem Ay {b c d r} (h : Dg b c d = some r) : Con B 156 [i64 b,i64 c,i64 d] [] (fun r' σ' => r' = .bool r∧σ' = []):=by
 refine Cw 15 [.tmp 6] Tryz.func156 (fun F hE => ?_) h
 unfold Dg
 refine T0 [0,1,2] ?_
 refine Tw [6] (fun e => ⟨As 15 [(6,.bool e)],[]⟩) ?_ ?_
 ·intro _
  refine Sp (fun a => ?_) fun a => ?_
  ·exact Lf Ac (Ev (by simp only [go_sem,a];exact Ak)) (ws [])
  ·exact Lf Ac (Ev (by simp only [go_sem,a];exact Ak)) (ws [])
 intro e
 exact Sr <|Rr
theorem Xt {a r} (h : Ht a = some r) : Con B 129 [.agg [i64 a.Zb,i64 a.Za,i64 a.Zg]] [] (fun r' σ' => r' = .bool r∧σ' = []):=by
 refine Cw 29 [.tmp 2] Tryz.func129 (fun F hE => ?_) h
 unfold Ht
 refine T0 [1] ?_
 refine Sq ?_
 refine Tw [1,12] (fun d => ⟨As 29 [(1,.ref 0 0),(12,.bool d)],[.box [i64 a.Zb,i64 a.Za,i64 a.Zg] false]⟩) ?_ ?_
 ·intro _
  refine Bd fun j e => ?_
  refine Sp (fun b => ?_) fun b => ?_
  ·exact Lf (o1 5 (Ay e)) (Ev (by simp only [go_sem,b];exact Ak)) (ws [0])
  ·refine Bd fun k i => ?_
   exact Lf (o2 5 (Ay e) 10 (Ay i)) (Ev (by simp only [go_sem,b];exact Ak)) (ws [0])
 intro d
 refine Cd ?_ ?_
 ·refine T0 [2] ?_
  exact Sr <|Tr <|Rr
 ·refine Sk <|Tn <|Sq <|T0 [1,15] ?_
  refine Cd ?_ ?_
  ·refine Tw [2] (fun f => ⟨As 29 [(2,.bool f)],[]⟩) ?_ ?_
   ·intro _
    refine Bd fun l g => ?_
    refine Sp (fun c => ?_) fun c => ?_
    ·exact Lf (o1 18 (Ay g)) (Ev (by simp only [go_sem,c];exact Ak)) (ws [])
    ·exact Lf (o1 18 (Ay g)) (Ev (by simp only [go_sem,c];exact Ak)) (ws [])
   intro f
   exact Sr <|Tr <|Rr
  ·refine Sk <|Tn <|T0 [2] ?_
   exact Sr <|Rr
theorem Aav {b k r} (h : Le b k = some r) : Con B 130 [.agg [i64 b.A,i64 b.B,i64 b.Za,i64 b.Zt,i64 b.Km],i64 k] [] (fun r' σ' => r' = .bool r∧σ' = []):=by
 refine Cw 39 [.tmp 4] Tryz.func130 (fun F hE => ?_) h
 unfold Le
 refine T0 [1,2] ?_
 refine Tw [4] (fun m => ⟨As 39 [(4,.bool m)],[]⟩) ?_ ?_
 ·intro _
  refine Bd fun p c => ?_
  refine Sp (fun a => ?_) fun a => ?_
  ·refine Bd fun q e => ?_
   refine Sp (fun d => ?_) fun d => ?_
   ·refine Sp (fun f => ?_) fun f => ?_
    ·refine Bd fun s i => ?_
     refine Sp (fun g => ?_) fun g => ?_
     ·refine Bd fun t n => ?_
      refine Sp (fun j => ?_) fun j => ?_
      ·refine Bd fun u o => ?_
       exact Lf (Cp (l:=[(9,_,_,_),(15,_,_,_),(27,_,_,_),(32,_,_,_),(37,_,_,_)]) ⟨Ay  c,Ay  e,Ay  i,Ay  n,Ay  o,trivial⟩) (Ev (by simp only [go_sem,a,d,f,g,j];exact Ak)) (ws [])
      ·exact Lf (Cp (l:=[(9,_,_,_),(15,_,_,_),(27,_,_,_),(32,_,_,_)]) ⟨Ay  c,Ay  e,Ay  i,Ay  n,trivial⟩) (Ev (by simp only [go_sem,a,d,f,g,j];exact Ak)) (ws [])
     ·exact Lf (Cp (l:=[(9,_,_,_),(15,_,_,_),(27,_,_,_)]) ⟨Ay  c,Ay  e,Ay  i,trivial⟩) (Ev (by simp only [go_sem,a,d,f,g];exact Ak)) (ws [])
    ·exact Lf (o2 9 (Ay c) 15 (Ay e)) (Ev (by simp only [go_sem,a,d,f];exact Ak)) (ws [])
   ·exact Lf (o2 9 (Ay c) 15 (Ay e)) (Ev (by simp only [go_sem,a,d];exact Ak)) (ws [])
  ·exact Lf (o1 9 (Ay c)) (Ev (by simp only [go_sem,a];exact Ak)) (ws [])
 intro m
 exact Sr <|Rr
theorem Wb {a r} (h : Mq a = some r) : Con B 90 [.agg [.sl false (L Ah a.Zu),.sl false (L Al a.Zv)]] [] (fun r' σ' => r' = i64 r∧σ' = []):=by
 refine Cw 46 [.tmp 2] Tryz.func90 (fun F hE => ?_) h
 unfold Mq
 refine T0 [1] ?_
 refine Sq ?_
 refine Tw [1,14] (fun e => ⟨As 46 [(1,.ref 0 0),(14,.bool e)],[.box [.sl false (L Ah a.Zu),.sl false (L Al a.Zv)] false]⟩) ?_ ?_
 ·intro _
  refine Sp (fun b => ?_) fun b => ?_
  ·exact Lf Ac (Ev (by simp only [go_sem,b];exact Ak)) (ws [0])
  ·exact Lf Ac (Ev (by simp only [go_sem,b];exact Ak)) (ws [0])
 intro e
 refine Cd ?_ ?_
 ·refine T0 [2] ?_
  exact Sr <|Tr <|Rr
 ·refine Sk <|Tn <|?_
  refine Jo (fun _ => ⟨As 46 [(1,.ref 0 0)],[.box [.sl false (L Ah a.Zu),.sl false (L Al a.Zv)] false]⟩) ?_ ?_
  ·intro t k
   refine T0 [1,3] ?_
   refine Sb ?_
   refine Lo (fun c => ⟨As 46 [(1,.ref 0 0),(3,i64 c)],[.box [.sl false (L Ah a.Zu),.sl false (L Al a.Zv)] false]⟩) (ws [0]) ?_
   rintro c u l f g
   show Fh a c = some l→_
   unfold Fh
   refine Sq <|T0 [1,3,19] ?_
   refine Cd ?_ ?_
   ·refine Sk <|Tn <|Sq <|Sb <|Ck fun m =>Bd fun v n =>Te [1,3,28] (o1 27 (Xt n)) (Ev (by simp only [go_sem,qR m];exact Ak)) ?_
    refine Cd ?_ ?_
    ·refine T0 [2] ?_
     exact Sr <|Br <|Tr <|Lr g f <|Br <|Jr k <|Rr
    ·refine Sk <|Bn <|Tn <|F0 [1,3] ?_
     exact Ln (ws [0])
   ·refine Sx <|Tx <|Lx g f <|Bx <|?_
    exact Jn ((ws (l':=[(1,.ref 0 0)]) (σ':=[.box [.sl false (L Ah a.Zu),.sl false (L Al a.Zv)] false]) [0]).trans (ws [0]))
  intro _
  refine Jo (fun _ => ⟨As 46 [],[]⟩) ?_ ?_
  ·intro w o
   refine T0 [1,4] ?_
   refine Sb ?_
   refine Lo (fun d => ⟨As 46 [(1,.ref 0 0),(4,i64 d)],[.box [.sl false (L Ah a.Zu),.sl false (L Al a.Zv)] false]⟩) (ws [0]) ?_
   rintro d x p i j
   show Fb a d = some p→_
   unfold Fb
   refine Sq <|T0 [1,4,33] ?_
   refine Cd ?_ ?_
   ·refine Sk <|Tn <|Sq <|Sb <|Ck fun q =>Bd fun y s =>De [[],[0],[],[0,1,2],[0,1,2,3],[],[5],[5,6],[0,1,2,3,4,5,6,7],[0,1,2,3,4,5,6,7,8]] [1,4,45] (o1 44 (Aav s)) (Ev (by simp only [go_sem,qR q];exact Ak)) ?_
    refine Cd ?_ ?_
    ·refine T0 [2] ?_
     exact Sr <|Br <|Tr <|Lr j i <|Br <|Jr o <|Rr
    ·refine Sk <|Bn <|Tn <|F0 [1,4] ?_
     exact Ln (ws [0])
   ·refine Sx <|Tx <|Lx j i <|Bx <|?_
    exact Jn ((ws (l':=[]) (σ':=[]) []).trans (ws []))
  intro _
  refine T0 [2] ?_
  exact Sr <|Rr
theorem An {b c d r} (h : Bj b c d = some r) : Con B 133 [i64 b,i64 c,i64 d] [] (fun r' σ' => r' = .bool r∧σ' = []):=by
 refine Cw 15 [.tmp 6] Tryz.func133 (fun F hE => ?_) h
 unfold Bj
 refine T0 [0,1,2] ?_
 refine Tw [6] (fun e => ⟨As 15 [(6,.bool e)],[]⟩) ?_ ?_
 ·intro _
  refine Sp (fun a => ?_) fun a => ?_
  ·exact Lf Ac (Ev (by simp only [go_sem,a];exact Ak)) (ws [])
  ·exact Lf Ac (Ev (by simp only [go_sem,a];exact Ak)) (ws [])
 intro e
 exact Sr <|Rr
theorem Pz {a r} (h : Eo a = some r) : Con B 131 [.agg [i64 a.Zw,i64 a.Zx,i64 a.Zy,i64 a.Zz,i64 a.Za1,u64 a.Zb1,i64 a.Zc1,i64 a.Zd1]] [] (fun r' σ' => r' = .bool r∧σ' = []):=by
 refine Cw 36 [.tmp 2] Tryz.func131 (fun F hE => ?_) h
 unfold Eo
 refine T0 [1] ?_
 refine Tw [2] (fun o => ⟨As 36 [(2,.bool o)],[]⟩) ?_ ?_
 ·intro _
  refine Bd fun s c => ?_
  refine Sp (fun b => ?_) fun b => ?_
  ·refine Bd fun t e => ?_
   refine Sp (fun d => ?_) fun d => ?_
   ·refine Bd fun u g => ?_
    refine Sp (fun f => ?_) fun f => ?_
    ·refine Bd fun v j => ?_
     refine Sp (fun i => ?_) fun i => ?_
     ·refine Bd fun w m => ?_
      refine Sp (fun k => ?_) fun k => ?_
      ·refine Bd fun x p => ?_
       refine Sp (fun n => ?_) fun n => ?_
       ·refine Bd fun y q => ?_
        exact Lf (Cp (l:=[(5,_,_,_),(9,_,_,_),(14,_,_,_),(19,_,_,_),(24,_,_,_),(29,_,_,_),(34,_,_,_)]) ⟨An  c,An  e,An  g,An  j,An  m,An  p,An  q,trivial⟩) (Ev (by simp only [go_sem,b,d,f,i,k,n];exact Ak)) (ws [])
       ·exact Lf (Cp (l:=[(5,_,_,_),(9,_,_,_),(14,_,_,_),(19,_,_,_),(24,_,_,_),(29,_,_,_)]) ⟨An  c,An  e,An  g,An  j,An  m,An  p,trivial⟩) (Ev (by simp only [go_sem,b,d,f,i,k,n];exact Ak)) (ws [])
      ·exact Lf (Cp (l:=[(5,_,_,_),(9,_,_,_),(14,_,_,_),(19,_,_,_),(24,_,_,_)]) ⟨An  c,An  e,An  g,An  j,An  m,trivial⟩) (Ev (by simp only [go_sem,b,d,f,i,k];exact Ak)) (ws [])
     ·exact Lf (Cp (l:=[(5,_,_,_),(9,_,_,_),(14,_,_,_),(19,_,_,_)]) ⟨An  c,An  e,An  g,An  j,trivial⟩) (Ev (by simp only [go_sem,b,d,f,i];exact Ak)) (ws [])
    ·exact Lf (Cp (l:=[(5,_,_,_),(9,_,_,_),(14,_,_,_)]) ⟨An  c,An  e,An  g,trivial⟩) (Ev (by simp only [go_sem,b,d,f];exact Ak)) (ws [])
   ·exact Lf (o2 5 (An c) 9 (An e)) (Ev (by simp only [go_sem,b,d];exact Ak)) (ws [])
  ·exact Lf (o1 5 (An c)) (Ev (by simp only [go_sem,b];exact Ak)) (ws [])
 intro o
 exact Sr <|Rr
theorem Oi {a j r} (h : Eb a j = some r) : Con B 132 [.agg [i64 a.Ze1,i64 a.Zf1,i64 a.Zg1,i64 a.Zh1,i64 a.Zi1],i64 j] [] (fun r' σ' => r' = .bool r∧σ' = []):=by
 refine Cw 30 [.tmp 4] Tryz.func132 (fun F hE => ?_) h
 unfold Eb
 refine T0 [1,2] ?_
 refine Tw [4] (fun k => ⟨As 30 [(4,.bool k)],[]⟩) ?_ ?_
 ·intro _
  refine Bd fun o c => ?_
  refine Sp (fun b => ?_) fun b => ?_
  ·refine Bd fun p e => ?_
   refine Sp (fun d => ?_) fun d => ?_
   ·refine Bd fun q g => ?_
    refine Sp (fun f => ?_) fun f => ?_
    ·refine Bd fun s m => ?_
     refine Sp (fun i => ?_) fun i => ?_
     ·refine Bd fun t n => ?_
      exact Lf (Cp (l:=[(9,_,_,_),(13,_,_,_),(18,_,_,_),(23,_,_,_),(28,_,_,_)]) ⟨An  c,An  e,An  g,An  m,An  n,trivial⟩) (Ev (by simp only [go_sem,b,d,f,i];exact Ak)) (ws [])
     ·exact Lf (Cp (l:=[(9,_,_,_),(13,_,_,_),(18,_,_,_),(23,_,_,_)]) ⟨An  c,An  e,An  g,An  m,trivial⟩) (Ev (by simp only [go_sem,b,d,f,i];exact Ak)) (ws [])
    ·exact Lf (Cp (l:=[(9,_,_,_),(13,_,_,_),(18,_,_,_)]) ⟨An  c,An  e,An  g,trivial⟩) (Ev (by simp only [go_sem,b,d,f];exact Ak)) (ws [])
   ·exact Lf (o2 9 (An c) 13 (An e)) (Ev (by simp only [go_sem,b,d];exact Ak)) (ws [])
  ·exact Lf (o1 9 (An c)) (Ev (by simp only [go_sem,b];exact Ak)) (ws [])
 intro k
 exact Sr <|Rr
theorem Vb {a r} (h : Kn a = some r) : Con B 134 [.sl false (L Ai a)] [] (fun r' σ' => r' = i64 r∧σ' = []):=by
 refine Cw 57 [.tmp 2] Tryz.func134 (fun F hE => ?_) h
 unfold Kn
 refine T0 [0] ?_
 refine Ck fun u =>Lt fun f w =>Te (fr':=[(0,_),(3,.bs true 0 (f.length) 0 (f.length))]) (σ':=[.buf 1 (L Ym f) false]) [0,3] Ac (Ev (by simp only [go_sem,u,w];exact Ak)) ?_
 refine Jo (fun _ => ⟨As 57 [],[]⟩) ?_ ?_
 ·intro ag n
  refine T0 [0,3,4] ?_
  refine Sb ?_
  refine Lo (fun (v : Int×List Bool) => (⟨As 57 [(0,.sl false (L Ai a)),(3,.bs true 0 (v.2.length) 0 (v.2.length)),(4,i64 v.1)],[.buf 1 (L Ym v.2) false]⟩ : St)) (ws [0]) ?_
  rintro ⟨o,c⟩ ah x g i
  show Gv a o c = some x→_
  unfold Gv
  refine Sq <|T0 [0,3,4,10] ?_
  refine Cd ?_ ?_
  ·refine Sk <|Tn <|Sq <|Sb <|Ck fun y =>Lt fun p z =>Lt fun q aa =>Lt fun s ab =>Te (σ':=[_,.box [i64 p,i64 q,i64 s] false]) [0,3,4,5] Ac (Ev (by simp only [go_sem,qR y,z,aa,ab];exact Ak)) ?_
   refine Sq ?_
   refine Tw [0,3,4,5,39] (fun t => ⟨As 57 [(0,.sl false (L Ai a)),(3,.bs true 0 (c.length) 0 (c.length)),(4,i64 o),(5,.ref 1 0),(39,.bool t)],[.buf 1 (L Ym c) false,.box [i64 p,i64 q,i64 s] false]⟩) ?_ ?_
   ·intro _
    refine Bd fun ai d => ?_
    refine Sp (fun b => ?_) fun b => ?_
    ·exact Lf (o1 19 (An d)) (Ev (by simp only [go_sem,b];exact Ak)) (ws [0,1])
    ·refine Bd fun aj j => ?_
     refine Sp (fun e => ?_) fun e => ?_
     ·exact Lf (o2 19 (An d) 24 (An j)) (Ev (by simp only [go_sem,b,e];exact Ak)) (ws [0,1])
     ·refine Sp (fun k => ?_) fun k => ?_
      ·exact Lf (o2 19 (An d) 24 (An j)) (Ev (by simp only [go_sem,b,e,k];exact Ak)) (ws [0,1])
      ·refine Bd fun ak ac => ?_
       exact Lf (Cp (l:=[(19,_,_,_),(24,_,_,_),(37,_,_,_)]) ⟨An  d,An  j,An  ac,trivial⟩) (Ev (by simp only [go_sem,b,e,k];exact Ak)) (ws [0,1])
   intro t
   refine Cd ?_ ?_
   ·refine T0 [2] ?_
    exact Sr <|Tr <|Br <|Tr <|Lr i g <|Br <|Jr n <|Rr
   ·refine Sk <|Tn <|Sq <|Ck fun ad =>Te [0,3,4,5,48] Ac (Ev (by simp only [go_sem,qR ad];exact Ak)) ?_
    refine Cd ?_ ?_
    ·refine T0 [2] ?_
     exact Sr <|Tr <|Br <|Tr <|Lr i g <|Br <|Jr n <|Rr
    ·refine Sk <|Tn <|Ck fun ae =>Lt fun m af =>Fe (fr':=[(0,_),(3,.bs true 0 (m.length) 0 (m.length)),(4,_)]) (σ':=[.buf 1 (L Ym m) false,_]) [0,3,4] Ac (Ev (by simp only [go_sem,qR ae,af];exact Ak)) ?_
     refine Bn <|Tn <|F0 [0,3,4] ?_
     exact Ln (ws [0])
  ·refine Sx <|Tx <|Lx i g <|Bx <|?_
   exact Jn ((ws (l':=[]) (σ':=[]) []).trans (ws []))
 intro _
 refine T0 [2] ?_
 exact Sr <|Rr
theorem Wa {a r} (h : L4 a = some r) : Con B 91 [.agg [.sl false (L Aa a.Zm1),.sl false (L Af a.Zn1),.sl false (L Aj a.Zo1),.sl false (L Ai a.Zp1)]] [] (fun r' σ' => r' = i64 r∧σ' = []):=by
 refine Cw 106 [.tmp 2] Tryz.func91 (fun F hE => ?_) h
 unfold L4
 refine T0 [1] ?_
 refine Sq ?_
 refine Tw [1,28] (fun o => ⟨As 106 [(1,.ref 0 0),(28,.bool o)],[.box [.sl false (L Aa a.Zm1),.sl false (L Af a.Zn1),.sl false (L Aj a.Zo1),.sl false (L Ai a.Zp1)] false]⟩) ?_ ?_
 ·intro _
  refine Sp (fun b => ?_) fun b => ?_
  ·exact Lf Ac (Ev (by simp only [go_sem,b];exact Ak)) (ws [0])
  ·refine Sp (fun d => ?_) fun d => ?_
   ·exact Lf Ac (Ev (by simp only [go_sem,b,d];exact Ak)) (ws [0])
   ·refine Sp (fun i => ?_) fun i => ?_
    ·exact Lf Ac (Ev (by simp only [go_sem,b,d,i];exact Ak)) (ws [0])
    ·exact Lf Ac (Ev (by simp only [go_sem,b,d,i];exact Ak)) (ws [0])
 intro o
 refine Cd ?_ ?_
 ·refine T0 [2] ?_
  exact Sr <|Tr <|Rr
 ·refine Sk <|Tn <|?_
  refine Jo (fun _ => ⟨As 106 [(1,.ref 0 0)],[.box [.sl false (L Aa a.Zm1),.sl false (L Af a.Zn1),.sl false (L Aj a.Zo1),.sl false (L Ai a.Zp1)] false]⟩) ?_ ?_
  ·intro aq x
   refine T0 [1,3] ?_
   refine Sb ?_
   refine Lo (fun j => ⟨As 106 [(1,.ref 0 0),(3,i64 j)],[.box [.sl false (L Aa a.Zm1),.sl false (L Af a.Zn1),.sl false (L Aj a.Zo1),.sl false (L Ai a.Zp1)] false]⟩) (ws [0]) ?_
   rintro j ar y p q
   show Fa a j = some y→_
   unfold Fa
   refine Sq <|T0 [1,3,33] ?_
   refine Cd ?_ ?_
   ·refine Sk <|Tn <|Sq <|Sb <|Ck fun z =>Bd fun au aa =>Te [1,3,42] (o1 41 (Pz aa)) (Ev (by simp only [go_sem,qR z];exact Ak)) ?_
    refine Cd ?_ ?_
    ·refine T0 [2] ?_
     exact Sr <|Br <|Tr <|Lr q p <|Br <|Jr x <|Rr
    ·refine Sk <|Bn <|Tn <|F0 [1,3] ?_
     exact Ln (ws [0])
   ·refine Sx <|Tx <|Lx q p <|Bx <|?_
    exact Jn ((ws (l':=[(1,.ref 0 0)]) (σ':=[.box [.sl false (L Aa a.Zm1),.sl false (L Af a.Zn1),.sl false (L Aj a.Zo1),.sl false (L Ai a.Zp1)] false]) [0]).trans (ws [0]))
  intro _
  refine Jo (fun _ => ⟨As 106 [(1,.ref 0 0)],[.box [.sl false (L Aa a.Zm1),.sl false (L Af a.Zn1),.sl false (L Aj a.Zo1),.sl false (L Ai a.Zp1)] false]⟩) ?_ ?_
  ·intro av ab
   refine T0 [1,4] ?_
   refine Sb ?_
   refine Lo (fun k => ⟨As 106 [(1,.ref 0 0),(4,i64 k)],[.box [.sl false (L Aa a.Zm1),.sl false (L Af a.Zn1),.sl false (L Aj a.Zo1),.sl false (L Ai a.Zp1)] false]⟩) (ws [0]) ?_
   rintro k aw ac s t
   show Ey a k = some ac→_
   unfold Ey
   refine Sq <|T0 [1,4,47] ?_
   refine Cd ?_ ?_
   ·refine Sk <|Tn <|Sq <|Sb <|Ck fun ad =>Bd fun ax ae =>De [[],[0],[],[0,1,2],[0,1,2,3],[],[5],[5,6],[0,1,2,3,4,5,6,7],[0,1,2,3,4,5,6,7,8]] [1,4,59] (o1 58 (Oi ae)) (Ev (by simp only [go_sem,qR ad];exact Ak)) ?_
    refine Cd ?_ ?_
    ·refine T0 [2] ?_
     exact Sr <|Br <|Tr <|Lr t s <|Br <|Jr ab <|Rr
    ·refine Sk <|Bn <|Tn <|F0 [1,4] ?_
     exact Ln (ws [0])
   ·refine Sx <|Tx <|Lx t s <|Bx <|?_
    exact Jn ((ws (l':=[(1,.ref 0 0)]) (σ':=[.box [.sl false (L Aa a.Zm1),.sl false (L Af a.Zn1),.sl false (L Aj a.Zo1),.sl false (L Ai a.Zp1)] false]) [0]).trans (ws [0]))
  intro _
  refine Jo (fun _ => ⟨As 106 [(1,.ref 0 0)],[.box [.sl false (L Aa a.Zm1),.sl false (L Af a.Zn1),.sl false (L Aj a.Zo1),.sl false (L Ai a.Zp1)] false]⟩) ?_ ?_
  ·intro ay af
   refine T0 [1,5] ?_
   refine Sb ?_
   refine Lo (fun e => ⟨As 106 [(1,.ref 0 0),(5,i64 e)],[.box [.sl false (L Aa a.Zm1),.sl false (L Af a.Zn1),.sl false (L Aj a.Zo1),.sl false (L Ai a.Zp1)] false]⟩) (ws [0]) ?_
   rintro e az ag u v
   show E9 a e = some ag→_
   unfold E9
   refine Sq <|T0 [1,5,64] ?_
   refine Cd ?_ ?_
   ·refine Sk <|Tn <|Sq <|Sb <|Ck fun ah =>Lt fun ai aj =>Lt fun ak al =>Lt fun am an =>Te (σ':=[_,.box [i64 ai,i64 ak,i64 am] false]) [1,5,6] Ac (Ev (by simp only [go_sem,qR ah,aj,al,an];exact Ak)) ?_
    refine Tw [1,5,102] (fun w => ⟨As 106 [(1,.ref 0 0),(5,i64 e),(102,.bool w)],[.box [.sl false (L Aa a.Zm1),.sl false (L Af a.Zn1),.sl false (L Aj a.Zo1),.sl false (L Ai a.Zp1)] false]⟩) ?_ ?_
    ·intro _
     refine Bd fun aA f => ?_
     refine Sp (fun c => ?_) fun c => ?_
     ·exact Lf (o1 78 (An f)) (Ev (by simp only [go_sem,c];exact Ak)) (ws [0])
     ·refine Bd fun aB m => ?_
      refine Sp (fun g => ?_) fun g => ?_
      ·exact Lf (o2 78 (An f) 87 (An m)) (Ev (by simp only [go_sem,c,g];exact Ak)) (ws [0])
      ·refine Sp (fun n => ?_) fun n => ?_
       ·exact Lf (o2 78 (An f) 87 (An m)) (Ev (by simp only [go_sem,c,g,n];exact Ak)) (ws [0])
       ·refine Bd fun aC ao => ?_
        exact Lf (Cp (l:=[(78,_,_,_),(87,_,_,_),(100,_,_,_)]) ⟨An  f,An  m,An  ao,trivial⟩) (Ev (by simp only [go_sem,c,g,n];exact Ak)) (ws [0])
    intro w
    refine Cd ?_ ?_
    ·refine T0 [2] ?_
     exact Sr <|Br <|Tr <|Lr v u <|Br <|Jr af <|Rr
    ·refine Sk <|Bn <|Tn <|F0 [1,5] ?_
     exact Ln (ws [0])
   ·refine Sx <|Tx <|Lx v u <|Bx <|?_
    exact Jn ((ws (l':=[(1,.ref 0 0)]) (σ':=[.box [.sl false (L Aa a.Zm1),.sl false (L Af a.Zn1),.sl false (L Aj a.Zo1),.sl false (L Ai a.Zp1)] false]) [0]).trans (ws [0]))
  intro _
  refine Bd fun aD ap =>Te [2] (o1 105 (Vb ap)) Ev ?_
  exact Sr <|Rr
theorem Qv {a r} (h : Pg a = some r) : Con B 92 [.agg [.sl false (L Ah a.Zs1.Zu),.sl false (L Al a.Zs1.Zv),.sl false (L Aa a.Zt1.Zm1),.sl false (L Af a.Zt1.Zn1),.sl false (L Aj a.Zt1.Zo1),.sl false (L Ai a.Zt1.Zp1),.sl false (L Ag a.Zu1),.sl false (L Ae a.Zv1),.sl false (L Ab a.Zw1)]] [] (fun r' σ' => r' = .bool r∧σ' = []):=by
 refine Cw 96 [.tmp 2] Tryz.func92 (fun F hE => ?_) h
 unfold Pg
 refine T0 [1] ?_
 refine Lt fun b w =>Te (fr':=[(1,_),(3,i64 b)]) [1,3] Ac (Ev (by simp only [go_sem,w];exact Ak)) ?_
 refine Jo (fun _ => ⟨As 96 [(1,.ref 0 0),(3,i64 b)],[.box [.sl false (L Ah a.Zs1.Zu),.sl false (L Al a.Zs1.Zv),.sl false (L Aa a.Zt1.Zm1),.sl false (L Af a.Zt1.Zn1),.sl false (L Aj a.Zt1.Zo1),.sl false (L Ai a.Zt1.Zp1),.sl false (L Ag a.Zu1),.sl false (L Ae a.Zv1),.sl false (L Ab a.Zw1)] false]⟩) ?_ ?_
 ·intro ap x
  refine T0 [1,3,4] ?_
  refine Sb ?_
  refine Lo (fun d => ⟨As 96 [(1,.ref 0 0),(3,i64 b),(4,i64 d)],[.box [.sl false (L Ah a.Zs1.Zu),.sl false (L Al a.Zs1.Zv),.sl false (L Aa a.Zt1.Zm1),.sl false (L Af a.Zt1.Zn1),.sl false (L Aj a.Zt1.Zo1),.sl false (L Ai a.Zt1.Zp1),.sl false (L Ag a.Zu1),.sl false (L Ae a.Zv1),.sl false (L Ab a.Zw1)] false]⟩) (ws [0]) ?_
  rintro d aq y l m
  show Ga a b d = some y→_
  unfold Ga
  refine Sq <|T0 [1,3,4,16] ?_
  refine Cd ?_ ?_
  ·refine Sk <|Tn <|Sq <|Sb <|Ck fun z =>Lt fun aa ab =>Lt fun ac ad =>Lt fun ae af =>Te (σ':=[_,.box [i64 aa,i64 ac,i64 ae] false]) [1,3,4,5] Ac (Ev (by simp only [go_sem,qR z,ab,ad,af];exact Ak)) ?_
   refine Tw [1,3,4,46] (fun n => ⟨As 96 [(1,.ref 0 0),(3,i64 b),(4,i64 d),(46,.bool n)],[.box [.sl false (L Ah a.Zs1.Zu),.sl false (L Al a.Zs1.Zv),.sl false (L Aa a.Zt1.Zm1),.sl false (L Af a.Zt1.Zn1),.sl false (L Aj a.Zt1.Zo1),.sl false (L Ai a.Zt1.Zp1),.sl false (L Ag a.Zu1),.sl false (L Ae a.Zv1),.sl false (L Ab a.Zw1)] false]⟩) ?_ ?_
   ·intro _
    refine Bd fun ar e => ?_
    refine Sp (fun c => ?_) fun c => ?_
    ·exact Lf (o1 28 (An e)) (Ev (by simp only [go_sem,c];exact Ak)) (ws [0])
    ·refine Sp (fun f => ?_) fun f => ?_
     ·exact Lf (o1 28 (An e)) (Ev (by simp only [go_sem,c,f];exact Ak)) (ws [0])
     ·refine Sp (fun i => ?_) fun i => ?_
      ·exact Lf (o1 28 (An e)) (Ev (by simp only [go_sem,c,f,i];exact Ak)) (ws [0])
      ·exact Lf (o1 28 (An e)) (Ev (by simp only [go_sem,c,f,i];exact Ak)) (ws [0])
   intro n
   refine Cd ?_ ?_
   ·refine T0 [2] ?_
    exact Sr <|Br <|Tr <|Lr m l <|Br <|Jr x <|Rr
   ·refine Sk <|Bn <|Tn <|F0 [1,3,4] ?_
    exact Ln (ws [0])
  ·refine Sx <|Tx <|Lx m l <|Bx <|?_
   exact Jn ((ws (l':=[(1,.ref 0 0),(3,i64 b)]) (σ':=[.box [.sl false (L Ah a.Zs1.Zu),.sl false (L Al a.Zs1.Zv),.sl false (L Aa a.Zt1.Zm1),.sl false (L Af a.Zt1.Zn1),.sl false (L Aj a.Zt1.Zo1),.sl false (L Ai a.Zt1.Zp1),.sl false (L Ag a.Zu1),.sl false (L Ae a.Zv1),.sl false (L Ab a.Zw1)] false]) [0]).trans (ws [0]))
 intro _
 refine Jo (fun _ => ⟨As 96 [(1,.ref 0 0),(3,i64 b)],[.box [.sl false (L Ah a.Zs1.Zu),.sl false (L Al a.Zs1.Zv),.sl false (L Aa a.Zt1.Zm1),.sl false (L Af a.Zt1.Zn1),.sl false (L Aj a.Zt1.Zo1),.sl false (L Ai a.Zt1.Zp1),.sl false (L Ag a.Zu1),.sl false (L Ae a.Zv1),.sl false (L Ab a.Zw1)] false]⟩) ?_ ?_
 ·intro au ag
  refine T0 [1,3,6] ?_
  refine Sb ?_
  refine Lo (fun g => ⟨As 96 [(1,.ref 0 0),(3,i64 b),(6,i64 g)],[.box [.sl false (L Ah a.Zs1.Zu),.sl false (L Al a.Zs1.Zv),.sl false (L Aa a.Zt1.Zm1),.sl false (L Af a.Zt1.Zn1),.sl false (L Aj a.Zt1.Zo1),.sl false (L Ai a.Zt1.Zp1),.sl false (L Ag a.Zu1),.sl false (L Ae a.Zv1),.sl false (L Ab a.Zw1)] false]⟩) (ws [0]) ?_
  rintro g av ah o p
  show F9 a b g = some ah→_
  unfold F9
  refine Sq <|T0 [1,3,6,51] ?_
  refine Cd ?_ ?_
  ·refine Sk <|Tn <|Sq <|Sb <|?_
   refine Dw [[],[0],[],[0,1,2],[0,1,2,3],[0,1,2,3,4],[],[6],[0,1,2,3,4,5,6,7],[0,1,2,3,4,5,6,7,8],[0,1,2,3,4,5,6,7,8,9],[0,1,2,3,4,5,6,7,8,9,10],[0,1,2,3,4,5,6,7,8,9,10,11],[0,1,2,3,4,5,6,7,8,9,10,11,12],[0,1,2,3,4,5,6,7,8,9,10],[0,1,2,3,4,5,6,7,8,9,10,14],[0,1,2,3,4,5,6,7,8,9,10],[0,1,2,3,4,5,6,7,8,9,10,14,15,16],[0,1,2,3,4,5,6,7,8,9,10,14,15,16,17],[0,1,2,3,4,5,6,7,8,9,10,14,15,16,17,18],[0,1,2,3,4,5,6,7,8,9,10,11,12,13,14,15,16,17,18,19],[0,1,2,3,4,5,6,7,8,9,10,11,12,13,14,15,16,17,18,19,20],[0,1,2,3,4,5,6,7,8,9,10,11,12,13,14,15,16,17,18,19,20,21],[0,1,2,3,4,5,6,7,8,9,10,11,12,13,14,15,16,17,18,19,20,21,22],[0,1,2,3,4,5,6,7,8,9,10,11,12,13,14,15,16,17,18,19,20,21,22,23]] [1,3,6,78] (fun q => ⟨As 96 [(1,.ref 0 0),(3,i64 b),(6,i64 g),(78,.bool q)],[.box [.sl false (L Ah a.Zs1.Zu),.sl false (L Al a.Zs1.Zv),.sl false (L Aa a.Zt1.Zm1),.sl false (L Af a.Zt1.Zn1),.sl false (L Aj a.Zt1.Zo1),.sl false (L Ai a.Zt1.Zp1),.sl false (L Ag a.Zu1),.sl false (L Ae a.Zv1),.sl false (L Ab a.Zw1)] false]⟩) ?_ ?_
   ·intro _
    refine Ck fun s =>Bd fun aw t =>?_
    refine Sp (fun j => ?_) fun j => ?_
    ·exact Lf (o1 62 (An t)) (Ev (by simp only [go_sem,qR s,j];exact Ak)) (ws [0])
    ·refine Ck fun ai =>Ck fun aj =>?_
     exact Lf (o1 62 (An t)) (Ev (by simp only [go_sem,qR s,j,qR ai,qR aj];exact Ak)) (ws [0])
   intro q
   refine Cd ?_ ?_
   ·refine T0 [2] ?_
    exact Sr <|Br <|Tr <|Lr p o <|Br <|Jr ag <|Rr
   ·refine Sk <|Bn <|Tn <|F0 [1,3,6] ?_
    exact Ln (ws [0])
  ·refine Sx <|Tx <|Lx p o <|Bx <|?_
   exact Jn ((ws (l':=[(1,.ref 0 0),(3,i64 b)]) (σ':=[.box [.sl false (L Ah a.Zs1.Zu),.sl false (L Al a.Zs1.Zv),.sl false (L Aa a.Zt1.Zm1),.sl false (L Af a.Zt1.Zn1),.sl false (L Aj a.Zt1.Zo1),.sl false (L Ai a.Zt1.Zp1),.sl false (L Ag a.Zu1),.sl false (L Ae a.Zv1),.sl false (L Ab a.Zw1)] false]) [0]).trans (ws [0]))
 intro _
 refine Jo (fun _ => ⟨As 96 [],[]⟩) ?_ ?_
 ·intro ax ak
  refine T0 [1,3,7] ?_
  refine Sb ?_
  refine Lo (fun k => ⟨As 96 [(1,.ref 0 0),(3,i64 b),(7,i64 k)],[.box [.sl false (L Ah a.Zs1.Zu),.sl false (L Al a.Zs1.Zv),.sl false (L Aa a.Zt1.Zm1),.sl false (L Af a.Zt1.Zn1),.sl false (L Aj a.Zt1.Zo1),.sl false (L Ai a.Zt1.Zp1),.sl false (L Ag a.Zu1),.sl false (L Ae a.Zv1),.sl false (L Ab a.Zw1)] false]⟩) (ws [0]) ?_
  rintro k ay al u v
  show F8 a b k = some al→_
  unfold F8
  refine Sq <|T0 [1,3,7,84] ?_
  refine Cd ?_ ?_
  ·refine Sk <|Tn <|Sq <|Sb <|Ck fun am =>Lt fun an ao =>Te (fr':=[(1,_),(3,_),(7,_),(95,.bool an)]) [1,3,7,95] Ac (Ev (by simp only [go_sem,qR am,ao];exact Ak)) ?_
   refine Cd ?_ ?_
   ·refine T0 [2] ?_
    exact Sr <|Br <|Tr <|Lr v u <|Br <|Jr ak <|Rr
   ·refine Sk <|Bn <|Tn <|F0 [1,3,7] ?_
    exact Ln (ws [0])
  ·refine Sx <|Tx <|Lx v u <|Bx <|?_
   exact Jn ((ws (l':=[]) (σ':=[]) []).trans (ws []))
 intro _
 refine T0 [2] ?_
 exact Sr <|Rr
theorem Xu {a r} (h : L8 a = some r) : Con B 93 [.agg [.sl false (L Ah a.Zs1.Zu),.sl false (L Al a.Zs1.Zv),.sl false (L Aa a.Zt1.Zm1),.sl false (L Af a.Zt1.Zn1),.sl false (L Aj a.Zt1.Zo1),.sl false (L Ai a.Zt1.Zp1),.sl false (L Ag a.Zu1),.sl false (L Ae a.Zv1),.sl false (L Ab a.Zw1)]] [] (fun r' σ' => r' = .bool r∧σ' = []):=by
 refine Cw 51 [.tmp 2] Tryz.func93 (fun F hE => ?_) h
 unfold L8
 refine T0 [1] ?_
 refine Lt fun b l =>Te (fr':=[(1,_),(3,i64 b)]) [1,3] Ac (Ev (by simp only [go_sem,l];exact Ak)) ?_
 refine Jo (fun _ => ⟨As 51 [(1,.ref 0 0),(3,i64 b)],[.box [.sl false (L Ah a.Zs1.Zu),.sl false (L Al a.Zs1.Zv),.sl false (L Aa a.Zt1.Zm1),.sl false (L Af a.Zt1.Zn1),.sl false (L Aj a.Zt1.Zo1),.sl false (L Ai a.Zt1.Zp1),.sl false (L Ag a.Zu1),.sl false (L Ae a.Zv1),.sl false (L Ab a.Zw1)] false]⟩) ?_ ?_
 ·intro ab m
  refine T0 [1,3,4] ?_
  refine Sb ?_
  refine Lo (fun c => ⟨As 51 [(1,.ref 0 0),(3,i64 b),(4,i64 c)],[.box [.sl false (L Ah a.Zs1.Zu),.sl false (L Al a.Zs1.Zv),.sl false (L Aa a.Zt1.Zm1),.sl false (L Af a.Zt1.Zn1),.sl false (L Aj a.Zt1.Zo1),.sl false (L Ai a.Zt1.Zp1),.sl false (L Ag a.Zu1),.sl false (L Ae a.Zv1),.sl false (L Ab a.Zw1)] false]⟩) (ws [0]) ?_
  rintro c ac n f g
  show Ez a b c = some n→_
  unfold Ez
  refine Sq <|T0 [1,3,4,15] ?_
  refine Cd ?_ ?_
  ·refine Sk <|Tn <|Sq <|Sb <|Ck fun o =>Lt fun p q =>Lt fun s t =>Lt fun u v =>Te (σ':=[_,.box [i64 p,i64 s,i64 u] false]) [1,3,4,5] Ac (Ev (by simp only [go_sem,qR o,q,t,v];exact Ak)) ?_
   refine Tw [1,3,4,33] (fun i => ⟨As 51 [(1,.ref 0 0),(3,i64 b),(4,i64 c),(33,.bool i)],[.box [.sl false (L Ah a.Zs1.Zu),.sl false (L Al a.Zs1.Zv),.sl false (L Aa a.Zt1.Zm1),.sl false (L Af a.Zt1.Zn1),.sl false (L Aj a.Zt1.Zo1),.sl false (L Ai a.Zt1.Zp1),.sl false (L Ag a.Zu1),.sl false (L Ae a.Zv1),.sl false (L Ab a.Zw1)] false]⟩) ?_ ?_
   ·intro _
    refine Sp (fun d => ?_) fun d => ?_
    ·exact Lf Ac (Ev (by simp only [go_sem,d];exact Ak)) (ws [0])
    ·exact Lf Ac (Ev (by simp only [go_sem,d];exact Ak)) (ws [0])
   intro i
   refine Cd ?_ ?_
   ·refine T0 [2] ?_
    exact Sr <|Br <|Tr <|Lr g f <|Br <|Jr m <|Rr
   ·refine Sk <|Bn <|Tn <|F0 [1,3,4] ?_
    exact Ln (ws [0])
  ·refine Sx <|Tx <|Lx g f <|Bx <|?_
   exact Jn ((ws (l':=[(1,.ref 0 0),(3,i64 b)]) (σ':=[.box [.sl false (L Ah a.Zs1.Zu),.sl false (L Al a.Zs1.Zv),.sl false (L Aa a.Zt1.Zm1),.sl false (L Af a.Zt1.Zn1),.sl false (L Aj a.Zt1.Zo1),.sl false (L Ai a.Zt1.Zp1),.sl false (L Ag a.Zu1),.sl false (L Ae a.Zv1),.sl false (L Ab a.Zw1)] false]) [0]).trans (ws [0]))
 intro _
 refine Jo (fun _ => ⟨As 51 [],[]⟩) ?_ ?_
 ·intro ad w
  refine T0 [1,3,6] ?_
  refine Sb ?_
  refine Lo (fun e => ⟨As 51 [(1,.ref 0 0),(3,i64 b),(6,i64 e)],[.box [.sl false (L Ah a.Zs1.Zu),.sl false (L Al a.Zs1.Zv),.sl false (L Aa a.Zt1.Zm1),.sl false (L Af a.Zt1.Zn1),.sl false (L Aj a.Zt1.Zo1),.sl false (L Ai a.Zt1.Zp1),.sl false (L Ag a.Zu1),.sl false (L Ae a.Zv1),.sl false (L Ab a.Zw1)] false]⟩) (ws [0]) ?_
  rintro e ae x j k
  show E3 a b e = some x→_
  unfold E3
  refine Sq <|T0 [1,3,6,39] ?_
  refine Cd ?_ ?_
  ·refine Sk <|Tn <|Sq <|Sb <|Ck fun y =>Lt fun z aa =>Te (fr':=[(1,_),(3,_),(6,_),(50,.bool z)]) [1,3,6,50] Ac (Ev (by simp only [go_sem,qR y,aa];exact Ak)) ?_
   refine Cd ?_ ?_
   ·refine T0 [2] ?_
    exact Sr <|Br <|Tr <|Lr k j <|Br <|Jr w <|Rr
   ·refine Sk <|Bn <|Tn <|F0 [1,3,6] ?_
    exact Ln (ws [0])
  ·refine Sx <|Tx <|Lx k j <|Bx <|?_
   exact Jn ((ws (l':=[]) (σ':=[]) []).trans (ws []))
 intro _
 refine T0 [2] ?_
 exact Sr <|Rr
theorem O0 {e f a r} (h : Ka e f a = some r) : Con B 157 [u64 e,u64 f,u64 a] [] (fun r' σ' => r' = u64 r∧σ' = []):=by
 refine Cw 26 [.tmp 6] Tryz.func157 (fun F hE => ?_) h
 unfold Ka
 refine T0 [0,1,2] ?_
 refine T0 [0,1,2,7] ?_
 refine Ja (fun g => ⟨As 26 [(7,u64 g)],[]⟩) ?_ ?_
 ·intro v
  refine Sb ?_
  refine Lo (fun ⟨b,c,d⟩ => ⟨As 26 [(0,u64 b),(1,u64 c),(2,u64 a),(7,u64 d)],[]⟩) (ws []) ?_
  rintro ⟨b,c,d⟩ w j k l
  show Hu a b c d = some j→_
  unfold Hu
  refine Sq <|T0 [0,1,2,7,9] ?_
  refine Cd ?_ ?_
  ·refine Sk <|Tn <|Sq <|Sb <|?_
   refine Ja (fun i => ⟨As 26 [(0,u64 b),(1,u64 c),(2,u64 a),(7,u64 i)],[]⟩) ?_ ?_
   ·intro x
    have m : ¬(2 : UInt64) = 0:=by decide
    refine Te [0,1,2,7,14] Ac (Ev (by simp only [go_sem,m];exact Ak)) ?_
    refine Cd ?_ ?_
    ·refine Ck fun n =>Lt fun o p =>Fe (fr':=[(0,_),(1,_),(2,_),(7,u64 o)]) [0,1,2,7] Ac (Ev (by simp only [go_sem,n,p];exact Ak)) ?_
     exact Jm (ws [])
    ·exact Sk <|Jm (ws [])
   intro i
   refine Ck fun q =>Lt fun s t =>Fe (fr':=[(0,u64 s),(1,_),(2,_),(7,_)]) [0,1,2,7] Ac (Ev (by simp only [go_sem,q,t];exact Ak)) ?_
   refine Bn <|Tn <|?_
   have u : ¬(2 : UInt64) = 0:=by decide
   refine Fe [0,1,2,7] Ac (Ev (by simp only [go_sem,u];exact Ak)) ?_
   exact Ln (ws [])
  ·refine Sx <|Tx <|Ly l k <|Bx <|?_
   exact Jm ((ws (l':=[(7,u64 d)]) (σ':=[]) []).trans (ws []))
 intro g
 refine T0 [6] ?_
 exact Sr <|Rr
theorem AaQ {d e r} (h : Tb d e = some r) : Con B 135 [u64 d,u64 e] [] (fun r' σ' => r' = u64 r∧σ' = []):=by
 refine Cw 22 [.tmp 4] Tryz.func135 (fun F hE => ?_) h
 unfold Tb
 refine T0 [0,1] ?_
 refine T0 [0,1,5] ?_
 refine Ja (fun f => ⟨As 22 [(5,u64 f)],[]⟩) ?_ ?_
 ·intro t
  have i : ¬(2305843009213690799 : UInt64) = 0:=by decide
  refine Lt fun j k =>Te (fr':=[(0,u64 j),(1,_),(5,_)]) [0,1,5] Ac (Ev (by simp only [go_sem,i,k];exact Ak)) ?_
  refine Sb ?_
  refine Lo (fun ⟨a,b,c⟩ => ⟨As 22 [(0,u64 a),(1,u64 b),(5,u64 c)],[]⟩) (ws []) ?_
  rintro ⟨a,b,c⟩ u l m n
  show Kc a b c = some l→_
  unfold Kc
  refine Sq <|T0 [0,1,5,9] ?_
  refine Cd ?_ ?_
  ·refine Sk <|Tn <|Sq <|Sb <|?_
   refine Ja (fun g => ⟨As 22 [(0,u64 a),(1,u64 b),(5,u64 g)],[]⟩) ?_ ?_
   ·intro v
    have o : ¬(2 : UInt64) = 0:=by decide
    refine Te [0,1,5,14] Ac (Ev (by simp only [go_sem,o];exact Ak)) ?_
    refine Cd ?_ ?_
    ·refine Bd fun w p =>Fe [0,1,5] (o1 17 (O0 p)) Ev ?_
     exact Jm (ws [])
    ·exact Sk <|Jm (ws [])
   intro g
   refine Bd fun x q =>Fe [0,1,5] (o1 20 (O0 q)) Ev ?_
   refine Bn <|Tn <|?_
   have s : ¬(2 : UInt64) = 0:=by decide
   refine Fe [0,1,5] Ac (Ev (by simp only [go_sem,s];exact Ak)) ?_
   exact Ln (ws [])
  ·refine Sx <|Tx <|Ly n m <|Bx <|?_
   exact Jm ((ws (l':=[(5,u64 c)]) (σ':=[]) []).trans (ws []))
 intro f
 refine T0 [4] ?_
 exact Sr <|Rr
theorem Wp {c r} (h : I3 c = some r) : Con B 95 [u64 c] [] (fun r' σ' => r' = .bool r∧σ' = []):=by
 refine Cw 14 [.tmp 2] Tryz.func95 (fun F hE => ?_) h
 unfold I3
 refine T0 [0] ?_
 refine Tw [2] (fun d => ⟨As 14 [(2,.bool d)],[]⟩) ?_ ?_
 ·intro _
  refine Sp (fun a => ?_) fun a => ?_
  ·refine Sp (fun b => ?_) fun b => ?_
   ·refine Bd fun f e => ?_
    exact Lf (o1 11 (AaQ e)) (Ev (by simp only [go_sem,a,b];exact Ak)) (ws [])
   ·exact Lf Ac (Ev (by simp only [go_sem,a,b];exact Ak)) (ws [])
  ·exact Lf Ac (Ev (by simp only [go_sem,a];exact Ak)) (ws [])
 intro d
 exact Sr <|Rr
theorem Oo {a r} (h : Hz a = some r) : Con B 94 [.agg [i64 a.Zr.1.Zi,i64 a.Zr.1.To,i64 a.Zr.2.1.Zi,i64 a.Zr.2.1.To,i64 a.Zr.2.2.1.Zi,i64 a.Zr.2.2.1.To,i64 a.Zr.2.2.2.1.Zi,i64 a.Zr.2.2.2.1.To,i64 a.Zr.2.2.2.2.1.Zi,i64 a.Zr.2.2.2.2.1.To,i64 a.Zr.2.2.2.2.2.1.Zi,i64 a.Zr.2.2.2.2.2.1.To,i64 a.Zr.2.2.2.2.2.2.Zi,i64 a.Zr.2.2.2.2.2.2.To,.sl false (L Hg a.Zs)]] [] (fun r' σ' => r' = i64 r∧σ' = []):=by
 refine Cw 62 [.tmp 2] Tryz.func94 (fun F hE => ?_) h
 unfold Hz
 refine Lt fun b av =>Lt fun c aw =>Lt fun d ax =>Lt fun e ay =>Lt fun f az =>Te (σ':=[.box [i64 a.Zr.1.Zi,i64 a.Zr.1.To,i64 a.Zr.2.1.Zi,i64 a.Zr.2.1.To,i64 a.Zr.2.2.1.Zi,i64 a.Zr.2.2.1.To,i64 a.Zr.2.2.2.1.Zi,i64 a.Zr.2.2.2.1.To,i64 b,i64 a.Zr.2.2.2.2.1.To,i64 c,i64 d,i64 e,i64 f,.sl false (L Hg a.Zs)] false]) [1] Ac (Ev (by simp only [go_sem,av,aw,ax,ay,az];exact Ak)) ?_
 refine Jo (fun _ => ⟨As 62 [(1,.ref 0 0)],[.box [i64 a.Zr.1.Zi,i64 a.Zr.1.To,i64 a.Zr.2.1.Zi,i64 a.Zr.2.1.To,i64 a.Zr.2.2.1.Zi,i64 a.Zr.2.2.1.To,i64 a.Zr.2.2.2.1.Zi,i64 a.Zr.2.2.2.1.To,i64 b,i64 a.Zr.2.2.2.2.1.To,i64 c,i64 d,i64 e,i64 f,.sl false (L Hg a.Zs)] false]⟩) ?_ ?_
 ·intro aN g
  refine T0 [1,3] ?_
  refine Sb ?_
  refine Ul 17 ?_
  refine Ug (m:=16) ?_
  refine Sq <|T0 [1,3,8] ?_
  refine Ct <|Sk <|Tn <|Sq <|Sb <|?_
  have ac : InR 0 7:=by decide
  refine Te [1,3,4] Ac (Ev (by simp only [go_sem,ac,ac.2];exact Ak)) ?_
  refine Tw [1,3,29] (fun ad => ⟨As 62 [(1,.ref 0 0),(3,i64 0),(29,.bool ad)],[.box [i64 a.Zr.1.Zi,i64 a.Zr.1.To,i64 a.Zr.2.1.Zi,i64 a.Zr.2.1.To,i64 a.Zr.2.2.1.Zi,i64 a.Zr.2.2.1.To,i64 a.Zr.2.2.2.1.Zi,i64 a.Zr.2.2.2.1.To,i64 b,i64 a.Zr.2.2.2.2.1.To,i64 c,i64 d,i64 e,i64 f,.sl false (L Hg a.Zs)] false]⟩) ?_ ?_
  ·intro _
   refine Sp (fun j => ?_) fun j => ?_
   ·exact Lf Ac (Ev (by simp only [go_sem,j];exact Ak)) (ws [0])
   ·refine Sp (fun u => ?_) fun u => ?_
    ·exact Lf Ac (Ev (by simp only [go_sem,j,u];exact Ak)) (ws [0])
    ·exact Lf Ac (Ev (by simp only [go_sem,j,u];exact Ak)) (ws [0])
  intro ad
  refine Cd ?_ ?_
  ·refine T0 [2] ?_
   exact Sr <|Br <|Tr <|Ur <|Br <|Jr g <|Rr
  ·refine Sk <|Bn <|Tn <|?_
   have aA : w64 1 = 1:=by decide
   refine Fe [1,3] Ac (Ev (by simp only [go_sem,aA];exact Ak)) ?_
   refine Un ?_
   refine Ug (m:=15) ?_
   refine Sq <|T0 [1,3,8] ?_
   refine Ct <|Sk <|Tn <|Sq <|Sb <|?_
   have ae : InR 1 7:=by decide
   refine Te [1,3,4] Ac (Ev (by simp only [go_sem,ae,ae.2];exact Ak)) ?_
   refine Tw [1,3,29] (fun af => ⟨As 62 [(1,.ref 0 0),(3,i64 1),(29,.bool af)],[.box [i64 a.Zr.1.Zi,i64 a.Zr.1.To,i64 a.Zr.2.1.Zi,i64 a.Zr.2.1.To,i64 a.Zr.2.2.1.Zi,i64 a.Zr.2.2.1.To,i64 a.Zr.2.2.2.1.Zi,i64 a.Zr.2.2.2.1.To,i64 b,i64 a.Zr.2.2.2.2.1.To,i64 c,i64 d,i64 e,i64 f,.sl false (L Hg a.Zs)] false]⟩) ?_ ?_
   ·intro _
    refine Sp (fun k => ?_) fun k => ?_
    ·exact Lf Ac (Ev (by simp only [go_sem,k];exact Ak)) (ws [0])
    ·refine Sp (fun v => ?_) fun v => ?_
     ·exact Lf Ac (Ev (by simp only [go_sem,k,v];exact Ak)) (ws [0])
     ·exact Lf Ac (Ev (by simp only [go_sem,k,v];exact Ak)) (ws [0])
   intro af
   refine Cd ?_ ?_
   ·refine T0 [2] ?_
    exact Sr <|Br <|Tr <|Ur <|Br <|Jr g <|Rr
   ·refine Sk <|Bn <|Tn <|?_
    have aB : w64 2 = 2:=by decide
    refine Fe [1,3] Ac (Ev (by simp only [go_sem,aB];exact Ak)) ?_
    refine Un ?_
    refine Ug (m:=14) ?_
    refine Sq <|T0 [1,3,8] ?_
    refine Ct <|Sk <|Tn <|Sq <|Sb <|?_
    have ag : InR 2 7:=by decide
    refine Te [1,3,4] Ac (Ev (by simp only [go_sem,ag,ag.2];exact Ak)) ?_
    refine Tw [1,3,29] (fun ah => ⟨As 62 [(1,.ref 0 0),(3,i64 2),(29,.bool ah)],[.box [i64 a.Zr.1.Zi,i64 a.Zr.1.To,i64 a.Zr.2.1.Zi,i64 a.Zr.2.1.To,i64 a.Zr.2.2.1.Zi,i64 a.Zr.2.2.1.To,i64 a.Zr.2.2.2.1.Zi,i64 a.Zr.2.2.2.1.To,i64 b,i64 a.Zr.2.2.2.2.1.To,i64 c,i64 d,i64 e,i64 f,.sl false (L Hg a.Zs)] false]⟩) ?_ ?_
    ·intro _
     refine Sp (fun l => ?_) fun l => ?_
     ·exact Lf Ac (Ev (by simp only [go_sem,l];exact Ak)) (ws [0])
     ·refine Sp (fun w => ?_) fun w => ?_
      ·exact Lf Ac (Ev (by simp only [go_sem,l,w];exact Ak)) (ws [0])
      ·exact Lf Ac (Ev (by simp only [go_sem,l,w];exact Ak)) (ws [0])
    intro ah
    refine Cd ?_ ?_
    ·refine T0 [2] ?_
     exact Sr <|Br <|Tr <|Ur <|Br <|Jr g <|Rr
    ·refine Sk <|Bn <|Tn <|?_
     have aC : w64 3 = 3:=by decide
     refine Fe [1,3] Ac (Ev (by simp only [go_sem,aC];exact Ak)) ?_
     refine Un ?_
     refine Ug (m:=13) ?_
     refine Sq <|T0 [1,3,8] ?_
     refine Ct <|Sk <|Tn <|Sq <|Sb <|?_
     have ai : InR 3 7:=by decide
     refine Te [1,3,4] Ac (Ev (by simp only [go_sem,ai,ai.2];exact Ak)) ?_
     refine Tw [1,3,29] (fun aj => ⟨As 62 [(1,.ref 0 0),(3,i64 3),(29,.bool aj)],[.box [i64 a.Zr.1.Zi,i64 a.Zr.1.To,i64 a.Zr.2.1.Zi,i64 a.Zr.2.1.To,i64 a.Zr.2.2.1.Zi,i64 a.Zr.2.2.1.To,i64 a.Zr.2.2.2.1.Zi,i64 a.Zr.2.2.2.1.To,i64 b,i64 a.Zr.2.2.2.2.1.To,i64 c,i64 d,i64 e,i64 f,.sl false (L Hg a.Zs)] false]⟩) ?_ ?_
     ·intro _
      refine Sp (fun n => ?_) fun n => ?_
      ·exact Lf Ac (Ev (by simp only [go_sem,n];exact Ak)) (ws [0])
      ·refine Sp (fun x => ?_) fun x => ?_
       ·exact Lf Ac (Ev (by simp only [go_sem,n,x];exact Ak)) (ws [0])
       ·exact Lf Ac (Ev (by simp only [go_sem,n,x];exact Ak)) (ws [0])
     intro aj
     refine Cd ?_ ?_
     ·refine T0 [2] ?_
      exact Sr <|Br <|Tr <|Ur <|Br <|Jr g <|Rr
     ·refine Sk <|Bn <|Tn <|?_
      have aD : w64 4 = 4:=by decide
      refine Fe [1,3] Ac (Ev (by simp only [go_sem,aD];exact Ak)) ?_
      refine Un ?_
      refine Ug (m:=12) ?_
      refine Sq <|T0 [1,3,8] ?_
      refine Ct <|Sk <|Tn <|Sq <|Sb <|?_
      have ak : InR 4 7:=by decide
      refine Te [1,3,4] Ac (Ev (by simp only [go_sem,ak,ak.2];exact Ak)) ?_
      refine Tw [1,3,29] (fun al => ⟨As 62 [(1,.ref 0 0),(3,i64 4),(29,.bool al)],[.box [i64 a.Zr.1.Zi,i64 a.Zr.1.To,i64 a.Zr.2.1.Zi,i64 a.Zr.2.1.To,i64 a.Zr.2.2.1.Zi,i64 a.Zr.2.2.1.To,i64 a.Zr.2.2.2.1.Zi,i64 a.Zr.2.2.2.1.To,i64 b,i64 a.Zr.2.2.2.2.1.To,i64 c,i64 d,i64 e,i64 f,.sl false (L Hg a.Zs)] false]⟩) ?_ ?_
      ·intro _
       refine Sp (fun o => ?_) fun o => ?_
       ·exact Lf Ac (Ev (by simp only [go_sem,o];exact Ak)) (ws [0])
       ·refine Sp (fun y => ?_) fun y => ?_
        ·exact Lf Ac (Ev (by simp only [go_sem,o,y];exact Ak)) (ws [0])
        ·exact Lf Ac (Ev (by simp only [go_sem,o,y];exact Ak)) (ws [0])
      intro al
      refine Cd ?_ ?_
      ·refine T0 [2] ?_
       exact Sr <|Br <|Tr <|Ur <|Br <|Jr g <|Rr
      ·refine Sk <|Bn <|Tn <|?_
       have aE : w64 5 = 5:=by decide
       refine Fe [1,3] Ac (Ev (by simp only [go_sem,aE];exact Ak)) ?_
       refine Un ?_
       refine Ug (m:=11) ?_
       refine Sq <|T0 [1,3,8] ?_
       refine Ct <|Sk <|Tn <|Sq <|Sb <|?_
       have am : InR 5 7:=by decide
       refine Te [1,3,4] Ac (Ev (by simp only [go_sem,am,am.2];exact Ak)) ?_
       refine Tw [1,3,29] (fun an => ⟨As 62 [(1,.ref 0 0),(3,i64 5),(29,.bool an)],[.box [i64 a.Zr.1.Zi,i64 a.Zr.1.To,i64 a.Zr.2.1.Zi,i64 a.Zr.2.1.To,i64 a.Zr.2.2.1.Zi,i64 a.Zr.2.2.1.To,i64 a.Zr.2.2.2.1.Zi,i64 a.Zr.2.2.2.1.To,i64 b,i64 a.Zr.2.2.2.2.1.To,i64 c,i64 d,i64 e,i64 f,.sl false (L Hg a.Zs)] false]⟩) ?_ ?_
       ·intro _
        refine Sp (fun p => ?_) fun p => ?_
        ·exact Lf Ac (Ev (by simp only [go_sem,p];exact Ak)) (ws [0])
        ·refine Sp (fun z => ?_) fun z => ?_
         ·exact Lf Ac (Ev (by simp only [go_sem,p,z];exact Ak)) (ws [0])
         ·exact Lf Ac (Ev (by simp only [go_sem,p,z];exact Ak)) (ws [0])
       intro an
       refine Cd ?_ ?_
       ·refine T0 [2] ?_
        exact Sr <|Br <|Tr <|Ur <|Br <|Jr g <|Rr
       ·refine Sk <|Bn <|Tn <|?_
        have aF : w64 6 = 6:=by decide
        refine Fe [1,3] Ac (Ev (by simp only [go_sem,aF];exact Ak)) ?_
        refine Un ?_
        refine Ug (m:=10) ?_
        refine Sq <|T0 [1,3,8] ?_
        refine Ct <|Sk <|Tn <|Sq <|Sb <|?_
        have ao : InR 6 7:=by decide
        refine Te [1,3,4] Ac (Ev (by simp only [go_sem,ao,ao.2];exact Ak)) ?_
        refine Tw [1,3,29] (fun ap => ⟨As 62 [(1,.ref 0 0),(3,i64 6),(29,.bool ap)],[.box [i64 a.Zr.1.Zi,i64 a.Zr.1.To,i64 a.Zr.2.1.Zi,i64 a.Zr.2.1.To,i64 a.Zr.2.2.1.Zi,i64 a.Zr.2.2.1.To,i64 a.Zr.2.2.2.1.Zi,i64 a.Zr.2.2.2.1.To,i64 b,i64 a.Zr.2.2.2.2.1.To,i64 c,i64 d,i64 e,i64 f,.sl false (L Hg a.Zs)] false]⟩) ?_ ?_
        ·intro _
         refine Sp (fun q => ?_) fun q => ?_
         ·exact Lf Ac (Ev (by simp only [go_sem,q];exact Ak)) (ws [0])
         ·refine Sp (fun aa => ?_) fun aa => ?_
          ·exact Lf Ac (Ev (by simp only [go_sem,q,aa];exact Ak)) (ws [0])
          ·exact Lf Ac (Ev (by simp only [go_sem,q,aa];exact Ak)) (ws [0])
        intro ap
        refine Cd ?_ ?_
        ·refine T0 [2] ?_
         exact Sr <|Br <|Tr <|Ur <|Br <|Jr g <|Rr
        ·refine Sk <|Bn <|Tn <|?_
         have aG : w64 7 = 7:=by decide
         refine Fe [1,3] Ac (Ev (by simp only [go_sem,aG];exact Ak)) ?_
         refine Un ?_
         refine Ug (m:=9) ?_
         refine Sq <|T0 [1,3,8] ?_
         exact Cf <|Sx <|Tx <|Ux <|Bx <|Jn (ws [0])
 intro _
 refine Jo (fun _ => ⟨As 62 [],[]⟩) ?_ ?_
 ·intro aO aH
  refine T0 [1,5] ?_
  refine Sb ?_
  refine Lo (fun s => ⟨As 62 [(1,.ref 0 0),(5,i64 s)],[.box [i64 a.Zr.1.Zi,i64 a.Zr.1.To,i64 a.Zr.2.1.Zi,i64 a.Zr.2.1.To,i64 a.Zr.2.2.1.Zi,i64 a.Zr.2.2.1.To,i64 a.Zr.2.2.2.1.Zi,i64 a.Zr.2.2.2.1.To,i64 b,i64 a.Zr.2.2.2.2.1.To,i64 c,i64 d,i64 e,i64 f,.sl false (L Hg a.Zs)] false]⟩) (ws [0]) ?_
  rintro s aP aI aq ar
  show Fc a s = some aI→_
  unfold Fc
  refine Sq <|T0 [1,5,34] ?_
  refine Cd ?_ ?_
  ·refine Sk <|Tn <|Sq <|Sb <|Ck fun aJ =>Lt fun aK aL =>Te (fr':=[(1,_),(5,_),(6,i64 aK)]) [1,5,6] Ac (Ev (by simp only [go_sem,qR aJ,aL];exact Ak)) ?_
   refine Tw [1,5,61] (fun au => ⟨As 62 [(1,.ref 0 0),(5,i64 s),(61,.bool au)],[.box [i64 a.Zr.1.Zi,i64 a.Zr.1.To,i64 a.Zr.2.1.Zi,i64 a.Zr.2.1.To,i64 a.Zr.2.2.1.Zi,i64 a.Zr.2.2.1.To,i64 a.Zr.2.2.2.1.Zi,i64 a.Zr.2.2.2.1.To,i64 b,i64 a.Zr.2.2.2.2.1.To,i64 c,i64 d,i64 e,i64 f,.sl false (L Hg a.Zs)] false]⟩) ?_ ?_
   ·intro _
    refine Sp (fun i => ?_) fun i => ?_
    ·exact Lf Ac (Ev (by simp only [go_sem,i];exact Ak)) (ws [0])
    ·refine Sp (fun t => ?_) fun t => ?_
     ·exact Lf Ac (Ev (by simp only [go_sem,i,t];exact Ak)) (ws [0])
     ·refine Sp (fun ab => ?_) fun ab => ?_
      ·refine Ck fun aM => ?_
       exact Lf Ac (Ev (by simp only [go_sem,i,t,ab,qR aM];exact Ak)) (ws [0])
      ·exact Lf Ac (Ev (by simp only [go_sem,i,t,ab];exact Ak)) (ws [0])
   intro au
   refine Cd ?_ ?_
   ·refine T0 [2] ?_
    exact Sr <|Br <|Tr <|Lr ar aq <|Br <|Jr aH <|Rr
   ·refine Sk <|Bn <|Tn <|F0 [1,5] ?_
    exact Ln (ws [0])
  ·refine Sx <|Tx <|Lx ar aq <|Bx <|?_
   exact Jn ((ws (l':=[]) (σ':=[]) []).trans (ws []))
 intro _
 refine T0 [2] ?_
 exact Sr <|Rr
theorem Pr {a r} (h : Gt a = some r) : Con B 44 [.agg [.sl false (L Ah a.Zs1.Zu),.sl false (L Al a.Zs1.Zv),.sl false (L Aa a.Zt1.Zm1),.sl false (L Af a.Zt1.Zn1),.sl false (L Aj a.Zt1.Zo1),.sl false (L Ai a.Zt1.Zp1),.sl false (L Ag a.Zu1),.sl false (L Ae a.Zv1),.sl false (L Ab a.Zw1)]] [] (fun r' σ' => r' = i64 r∧σ' = []):=by
 refine Cw 70 [.tmp 2] Tryz.func44 (fun F hE => ?_) h
 unfold Gt
 refine T0 [1] ?_
 refine Bd fun x p =>Te [1,3] (o1 7 (Wb p)) Ev ?_
 refine Sq <|T0 [1,3,9] ?_
 refine Cd ?_ ?_
 ·refine T0 [2] ?_
  exact Sr <|Tr <|Rr
 ·refine Sk <|Tn <|Bd fun y q =>Te [1,3] (o1 13 (Wa q)) Ev ?_
  refine Sq <|T0 [1,3,15] ?_
  refine Cd ?_ ?_
  ·refine T0 [2] ?_
   exact Sr <|Tr <|Rr
  ·refine Sk <|Tn <|Sq <|?_
   refine Tw [1,32] (fun g => ⟨As 70 [(1,.ref 0 0),(32,.bool g)],[.box [.sl false (L Ah a.Zs1.Zu),.sl false (L Al a.Zs1.Zv),.sl false (L Aa a.Zt1.Zm1),.sl false (L Af a.Zt1.Zn1),.sl false (L Aj a.Zt1.Zo1),.sl false (L Ai a.Zt1.Zp1),.sl false (L Ag a.Zu1),.sl false (L Ae a.Zv1),.sl false (L Ab a.Zw1)] false]⟩) ?_ ?_
   ·intro _
    refine Sp (fun b => ?_) fun b => ?_
    ·exact Lf Ac (Ev (by simp only [go_sem,b];exact Ak)) (ws [0])
    ·refine Sp (fun d => ?_) fun d => ?_
     ·exact Lf Ac (Ev (by simp only [go_sem,b,d];exact Ak)) (ws [0])
     ·exact Lf Ac (Ev (by simp only [go_sem,b,d];exact Ak)) (ws [0])
   intro g
   refine Cd ?_ ?_
   ·refine T0 [2] ?_
    exact Sr <|Tr <|Rr
   ·refine Sk <|Tn <|Sq <|?_
    refine Tw [1,40] (fun i => ⟨As 70 [(1,.ref 0 0),(40,.bool i)],[.box [.sl false (L Ah a.Zs1.Zu),.sl false (L Al a.Zs1.Zv),.sl false (L Aa a.Zt1.Zm1),.sl false (L Af a.Zt1.Zn1),.sl false (L Aj a.Zt1.Zo1),.sl false (L Ai a.Zt1.Zp1),.sl false (L Ag a.Zu1),.sl false (L Ae a.Zv1),.sl false (L Ab a.Zw1)] false]⟩) ?_ ?_
    ·intro _
     refine Bd fun z j => ?_
     refine Sp (fun e => ?_) fun e => ?_
     ·exact Lf (o1 34 (Qv j)) (Ev (by simp only [go_sem,e];exact Ak)) (ws [0])
     ·refine Bd fun aa s => ?_
      exact Lf (o2 34 (Qv j) 38 (Xu s)) (Ev (by simp only [go_sem,e];exact Ak)) (ws [0])
    intro i
    refine Cd ?_ ?_
    ·refine T0 [2] ?_
     exact Sr <|Tr <|Rr
    ·refine Sk <|Tn <|?_
     refine Jo (fun _ => ⟨As 70 [(1,.ref 0 0)],[.box [.sl false (L Ah a.Zs1.Zu),.sl false (L Al a.Zs1.Zv),.sl false (L Aa a.Zt1.Zm1),.sl false (L Af a.Zt1.Zn1),.sl false (L Aj a.Zt1.Zo1),.sl false (L Ai a.Zt1.Zp1),.sl false (L Ag a.Zu1),.sl false (L Ae a.Zv1),.sl false (L Ab a.Zw1)] false]⟩) ?_ ?_
     ·intro ab t
      refine T0 [1,4] ?_
      refine Sb ?_
      refine Lo (fun c => ⟨As 70 [(1,.ref 0 0),(4,i64 c)],[.box [.sl false (L Ah a.Zs1.Zu),.sl false (L Al a.Zs1.Zv),.sl false (L Aa a.Zt1.Zm1),.sl false (L Af a.Zt1.Zn1),.sl false (L Aj a.Zt1.Zo1),.sl false (L Ai a.Zt1.Zp1),.sl false (L Ag a.Zu1),.sl false (L Ae a.Zv1),.sl false (L Ab a.Zw1)] false]⟩) (ws [0]) ?_
      rintro c ac u k l
      show Di a c = some u→_
      unfold Di
      refine Sq <|T0 [1,4,45] ?_
      refine Cd ?_ ?_
      ·refine Sk <|Tn <|Sq <|Sb <|?_
       refine Tw [1,4,65] (fun m => ⟨As 70 [(1,.ref 0 0),(4,i64 c),(65,.bool m)],[.box [.sl false (L Ah a.Zs1.Zu),.sl false (L Al a.Zs1.Zv),.sl false (L Aa a.Zt1.Zm1),.sl false (L Af a.Zt1.Zn1),.sl false (L Aj a.Zt1.Zo1),.sl false (L Ai a.Zt1.Zp1),.sl false (L Ag a.Zu1),.sl false (L Ae a.Zv1),.sl false (L Ab a.Zw1)] false]⟩) ?_ ?_
       ·intro _
        refine Ck fun n =>Bd fun ad o =>?_
        refine Sp (fun f => ?_) fun f => ?_
        ·exact Lf (o1 54 (Oo o)) (Ev (by simp only [go_sem,qR n,f];exact Ak)) (ws [0])
        ·refine Ck fun v =>Bd fun ae w =>?_
         exact Lf (o2 54 (Oo o) 63 (Wp w)) (Ev (by simp only [go_sem,qR n,f,qR v];exact Ak)) (ws [0])
       intro m
       refine Cd ?_ ?_
       ·refine T0 [2] ?_
        exact Sr <|Br <|Tr <|Lr l k <|Br <|Jr t <|Rr
       ·refine Sk <|Bn <|Tn <|F0 [1,4] ?_
        exact Ln (ws [0])
      ·refine Sx <|Tx <|Lx l k <|Bx <|?_
       exact Jn ((ws (l':=[(1,.ref 0 0)]) (σ':=[.box [.sl false (L Ah a.Zs1.Zu),.sl false (L Al a.Zs1.Zv),.sl false (L Aa a.Zt1.Zm1),.sl false (L Af a.Zt1.Zn1),.sl false (L Aj a.Zt1.Zo1),.sl false (L Ai a.Zt1.Zp1),.sl false (L Ag a.Zu1),.sl false (L Ae a.Zv1),.sl false (L Ab a.Zw1)] false]) [0]).trans (ws [0]))
     intro _
     refine Sq <|T0 [69] ?_
     refine Cd ?_ ?_
     ·refine T0 [2] ?_
      exact Sr <|Tr <|Rr
     ·refine Sk <|Tn <|T0 [2] ?_
      exact Sr <|Rr
theorem Qi {a r} (h : D1 a = some r) : Con B 96 [.agg [i64 a.Zb,i64 a.Ref.Za,i64 a.Ref.No,i64 a.Ze,i64 a.Zf,i64 a.Zg,i64 a.Zh,i64 a.Zi,i64 a.To,i64 a.Code,i64 a.Zj,i64 a.Zk,i64 a.Zl,i64 a.Zm,.str a.Zn,.sl false (L Ad a.Zo)]] [] (fun r' σ' => r' = .bool r∧σ' = []):=by
 refine Cw 20 [.tmp 2] Tryz.func96 (fun F hE => ?_) h
 unfold D1
 refine T0 [1] ?_
 refine Sq <|T0 [1,6] ?_
 refine Cd ?_ ?_
 ·refine T0 [2] ?_
  exact Sr <|Tr <|Rr
 ·refine Sk <|Tn <|?_
  refine Tw [2] (fun c => ⟨As 20 [(2,.bool c)],[]⟩) ?_ ?_
  ·intro _
   refine Bd fun f d => ?_
   refine Sp (fun b => ?_) fun b => ?_
   ·refine Bd fun g e => ?_
    exact Lf (o2 13 (Au d) 18 (Au e)) (Ev (by simp only [go_sem,b];exact Ak)) (ws [])
   ·exact Lf (o1 13 (Au d)) (Ev (by simp only [go_sem,b];exact Ak)) (ws [])
  intro c
  exact Sr <|Rr
theorem Wd {b a r} (h : L7 b a = some r) : Con B 136 [.agg [.sl false (L Ah b.Zs1.Zu),.sl false (L Al b.Zs1.Zv),.sl false (L Aa b.Zt1.Zm1),.sl false (L Af b.Zt1.Zn1),.sl false (L Aj b.Zt1.Zo1),.sl false (L Ai b.Zt1.Zp1),.sl false (L Ag b.Zu1),.sl false (L Ae b.Zv1),.sl false (L Ab b.Zw1)],.agg [i64 a.Zb,i64 a.Ref.Za,i64 a.Ref.No,i64 a.Ze,i64 a.Zf,i64 a.Zg,i64 a.Zh,i64 a.Zi,i64 a.To,i64 a.Code,i64 a.Zj,i64 a.Zk,i64 a.Zl,i64 a.Zm,.str a.Zn,.sl false (L Ad a.Zo)]] [] (fun r' σ' => r' = .bool r∧σ' = []):=by
 refine Cw 34 [.tmp 4] Tryz.func136 (fun F hE => ?_) h
 unfold L7
 refine T0 [2,3] ?_
 refine Sq <|Bd fun i e =>Te [2,3,14] (o1 13 (Au e)) Ev ?_
 refine Cd ?_ ?_
 ·refine T0 [4] ?_
  exact Sr <|Tr <|Rr
 ·refine Sk <|Tn <|Ck fun f =>Lt fun c g =>Te (fr':=[(3,_),(5,i64 c)]) [3,5] Ac (Ev (by simp only [go_sem,qR f,g];exact Ak)) ?_
  refine Sq <|T0 [5,24] ?_
  refine Sb ?_
  refine Ja (fun d => ⟨As 34 [(5,i64 c),(24,i64 a.Zb),(25,.bool d)],[]⟩) ?_ ?_
  ·intro j
   refine T0 [5,24,25] ?_
   refine Cd ?_ ?_
   ·exact Sk <|Jm (ws [])
   ·refine F0 [5,24,25] ?_
    exact Jm (ws [])
  intro d
  refine Cd ?_ ?_
  ·refine T0 [4] ?_
   exact Sr <|Br <|Tr <|Rr
  ·refine T0 [5,30] ?_
   refine Cd ?_ ?_
   ·refine T0 [4] ?_
    exact Sr <|Br <|Tr <|Rr
   ·refine Sk <|Bn <|Tn <|T0 [4] ?_
    exact Sr <|Rr
theorem V7 {b a r} (h : Mb b a = some r) : Con B 137 [.agg [.sl false (L Ah b.Zs1.Zu),.sl false (L Al b.Zs1.Zv),.sl false (L Aa b.Zt1.Zm1),.sl false (L Af b.Zt1.Zn1),.sl false (L Aj b.Zt1.Zo1),.sl false (L Ai b.Zt1.Zp1),.sl false (L Ag b.Zu1),.sl false (L Ae b.Zv1),.sl false (L Ab b.Zw1)],.agg [i64 a.Zb,i64 a.Ref.Za,i64 a.Ref.No,i64 a.Ze,i64 a.Zf,i64 a.Zg,i64 a.Zh,i64 a.Zi,i64 a.To,i64 a.Code,i64 a.Zj,i64 a.Zk,i64 a.Zl,i64 a.Zm,.str a.Zn,.sl false (L Ad a.Zo)]] [] (fun r' σ' => r' = .bool r∧σ' = []):=by
 refine Cw 51 [.tmp 4] Tryz.func137 (fun F hE => ?_) h
 unfold Mb
 refine T0 [2,3] ?_
 refine Sq <|T0 [2,3,7] ?_
 refine Sb <|T0 [2,3,7,8] ?_
 refine Cd ?_ ?_
 ·refine Bd fun q f =>Te [4] (o1 16 (Au f)) Ev ?_
  exact Sr <|Br <|Tr <|Rr
 ·refine Ja (fun d => ⟨As 51 [(2,.ref 0 0),(3,.ref 1 0),(7,i64 a.Zb),(17,.bool d)],[.box [.sl false (L Ah b.Zs1.Zu),.sl false (L Al b.Zs1.Zv),.sl false (L Aa b.Zt1.Zm1),.sl false (L Af b.Zt1.Zn1),.sl false (L Aj b.Zt1.Zo1),.sl false (L Ai b.Zt1.Zp1),.sl false (L Ag b.Zu1),.sl false (L Ae b.Zv1),.sl false (L Ab b.Zw1)] false,.box [i64 a.Zb,i64 a.Ref.Za,i64 a.Ref.No,i64 a.Ze,i64 a.Zf,i64 a.Zg,i64 a.Zh,i64 a.Zi,i64 a.To,i64 a.Code,i64 a.Zj,i64 a.Zk,i64 a.Zl,i64 a.Zm,.str a.Zn,.sl false (L Ad a.Zo)] false]⟩) ?_ ?_
  ·intro s
   refine T0 [2,3,7,17] ?_
   refine Cd ?_ ?_
   ·exact Sk <|Jm (ws [0,1])
   ·refine F0 [2,3,7,17] ?_
    exact Jm (ws [0,1])
  intro d
  refine Cd ?_ ?_
  ·refine Ck fun g =>Lt fun i j =>Lt fun k l =>Lt fun m n =>Te (σ':=[_,_,.box [i64 i,i64 k,i64 m] false]) [3,5] Ac (Ev (by simp only [go_sem,qR g,j,l,n];exact Ak)) ?_
   refine Tw [4] (fun e => ⟨As 51 [(4,.bool e)],[]⟩) ?_ ?_
   ·intro _
    refine Sp (fun c => ?_) fun c => ?_
    ·exact Lf Ac (Ev (by simp only [go_sem,c];exact Ak)) (ws [])
    ·exact Lf Ac (Ev (by simp only [go_sem,c];exact Ak)) (ws [])
   intro e
   exact Sr <|Br <|Tr <|Rr
  ·refine T0 [2,3,39] ?_
   refine Cd ?_ ?_
   ·refine Bd fun t o =>Te [4] (o1 43 (Au o)) Ev ?_
    exact Sr <|Br <|Tr <|Rr
   ·refine Sk <|Bn <|Tn <|Bd fun u p =>Te [4] (o1 50 (Au p)) Ev ?_
    exact Sr <|Rr
theorem Va {b a r} (h : Ku b a = some r) : Con B 138 [.agg [.sl false (L Ah b.Zs1.Zu),.sl false (L Al b.Zs1.Zv),.sl false (L Aa b.Zt1.Zm1),.sl false (L Af b.Zt1.Zn1),.sl false (L Aj b.Zt1.Zo1),.sl false (L Ai b.Zt1.Zp1),.sl false (L Ag b.Zu1),.sl false (L Ae b.Zv1),.sl false (L Ab b.Zw1)],.agg [i64 a.Zb,i64 a.Ref.Za,i64 a.Ref.No,i64 a.Ze,i64 a.Zf,i64 a.Zg,i64 a.Zh,i64 a.Zi,i64 a.To,i64 a.Code,i64 a.Zj,i64 a.Zk,i64 a.Zl,i64 a.Zm,.str a.Zn,.sl false (L Ad a.Zo)]] [] (fun r' σ' => r' = .bool r∧σ' = []):=by
 refine Cw 25 [.tmp 4] Tryz.func138 (fun F hE => ?_) h
 unfold Ku
 refine T0 [2,3] ?_
 refine Sq <|T0 [2,3,6] ?_
 refine Sb <|T0 [2,3,6,7] ?_
 refine Cd ?_ ?_
 ·refine Bd fun f c =>Te [4] (o1 11 (Au c)) Ev ?_
  exact Sr <|Br <|Tr <|Rr
 ·refine T0 [2,3,12] ?_
  refine Cd ?_ ?_
  ·refine Bd fun g d =>Te [4] (o1 21 (Au d)) Ev ?_
   exact Sr <|Br <|Tr <|Rr
  ·refine Sk <|Bn <|Tn <|Bd fun i e =>Te [4] (o1 24 (Au e)) Ev ?_
   exact Sr <|Rr
theorem Z8 {a r} (h : O3 a = some r) : Con B 139 [.agg [i64 a.Zb,i64 a.Ref.Za,i64 a.Ref.No,i64 a.Ze,i64 a.Zf,i64 a.Zg,i64 a.Zh,i64 a.Zi,i64 a.To,i64 a.Code,i64 a.Zj,i64 a.Zk,i64 a.Zl,i64 a.Zm,.str a.Zn,.sl false (L Ad a.Zo)]] [] (fun r' σ' => r' = .bool r∧σ' = []):=by
 refine Cw 24 [.tmp 2] Tryz.func139 (fun F hE => ?_) h
 unfold O3
 refine T0 [1] ?_
 refine Sq <|T0 [1,4] ?_
 refine Sb ?_
 refine Ja (fun b => ⟨As 24 [(1,.ref 0 0),(4,i64 a.Zb),(5,.bool b)],[.box [i64 a.Zb,i64 a.Ref.Za,i64 a.Ref.No,i64 a.Ze,i64 a.Zf,i64 a.Zg,i64 a.Zh,i64 a.Zi,i64 a.To,i64 a.Code,i64 a.Zj,i64 a.Zk,i64 a.Zl,i64 a.Zm,.str a.Zn,.sl false (L Ad a.Zo)] false]⟩) ?_ ?_
 ·intro g
  refine T0 [1,4,5] ?_
  refine Cd ?_ ?_
  ·exact Sk <|Jm (ws [0])
  ·refine F0 [1,4,5] ?_
   exact Jm (ws [0])
 intro b
 refine Cd ?_ ?_
 ·refine Bd fun i c =>Te [2] (o1 10 (Au c)) Ev ?_
  exact Sr <|Br <|Tr <|Rr
 ·refine T0 [1,4,11] ?_
  refine Cd ?_ ?_
  ·refine Bd fun j d =>Te [2] (o1 15 (Au d)) Ev ?_
   exact Sr <|Br <|Tr <|Rr
  ·refine T0 [1,16] ?_
   refine Cd ?_ ?_
   ·refine Bd fun k e =>Te [2] (o1 20 (Au e)) Ev ?_
    exact Sr <|Br <|Tr <|Rr
   ·refine Sk <|Bn <|Tn <|Bd fun l f =>Te [2] (o1 23 (Au f)) Ev ?_
    exact Sr <|Rr
theorem Lk {b a c r} (h : Mt b a c = some r) : Con B 97 [.agg [.sl false (L Ah b.Zs1.Zu),.sl false (L Al b.Zs1.Zv),.sl false (L Aa b.Zt1.Zm1),.sl false (L Af b.Zt1.Zn1),.sl false (L Aj b.Zt1.Zo1),.sl false (L Ai b.Zt1.Zp1),.sl false (L Ag b.Zu1),.sl false (L Ae b.Zv1),.sl false (L Ab b.Zw1)],.agg [i64 a.Zb,i64 a.Ref.Za,i64 a.Ref.No,i64 a.Ze,i64 a.Zf,i64 a.Zg,i64 a.Zh,i64 a.Zi,i64 a.To,i64 a.Code,i64 a.Zj,i64 a.Zk,i64 a.Zl,i64 a.Zm,.str a.Zn,.sl false (L Ad a.Zo)],u8 c] [] (fun r' σ' => r' = .bool r∧σ' = []):=by
 refine Cw 78 [.tmp 6] Tryz.func97 (fun F hE => ?_) h
 unfold Mt
 refine T0 [2,3,4] ?_
 refine Sq <|T0 [3,4,7] ?_
 refine Sb <|T0 [3,4,7,8] ?_
 refine Cd ?_ ?_
 ·refine Bd fun q d =>Te [6] (o1 17 (Au d)) Ev ?_
  exact Sr <|Br <|Tr <|Rr
 ·refine T0 [3,4,7,18] ?_
  refine Cd ?_ ?_
  ·refine Bd fun s e =>Te [6] (o1 22 (Wd e)) Ev ?_
   exact Sr <|Br <|Tr <|Rr
  ·refine T0 [3,4,7,23] ?_
   refine Cd ?_ ?_
   ·refine Bd fun t f =>Te [6] (o1 27 (V7 f)) Ev ?_
    exact Sr <|Br <|Tr <|Rr
   ·refine T0 [3,4,7,28] ?_
    refine Cd ?_ ?_
    ·refine Bd fun u g =>Te [6] (o1 32 (Va g)) Ev ?_
     exact Sr <|Br <|Tr <|Rr
    ·refine T0 [3,4,7,33] ?_
     refine Cd ?_ ?_
     ·refine Bd fun v i =>Te [6] (o1 37 (Au i)) Ev ?_
      exact Sr <|Br <|Tr <|Rr
     ·refine T0 [3,4,7,38] ?_
      refine Cd ?_ ?_
      ·refine Bd fun w j =>Te [6] (o1 44 (Au j)) Ev ?_
       exact Sr <|Br <|Tr <|Rr
      ·refine T0 [3,4,7,45] ?_
       refine Cd ?_ ?_
       ·refine Bd fun x k =>Te [6] (o1 48 (Z8 k)) Ev ?_
        exact Sr <|Br <|Tr <|Rr
       ·refine T0 [3,4,7,49] ?_
        refine Cd ?_ ?_
        ·refine Bd fun y l =>Te [6] (o1 58 (Au l)) Ev ?_
         exact Sr <|Br <|Tr <|Rr
        ·refine T0 [4,7,59] ?_
         refine Cd ?_ ?_
         ·refine Bd fun z m =>Te [6] (o1 63 (Au m)) Ev ?_
          exact Sr <|Br <|Tr <|Rr
         ·refine T0 [4,64] ?_
          refine Cd ?_ ?_
          ·refine Sq <|T0 [4,68] ?_
           refine Cd ?_ ?_
           ·refine Bd fun aa n =>Te [6] (o1 71 (Au n)) Ev ?_
            exact Sr <|Tr <|Br <|Tr <|Rr
           ·refine Sk <|Tn <|Bd fun ab o =>Te [6] (o1 74 (Au o)) Ev ?_
            exact Sr <|Br <|Tr <|Rr
          ·refine Sk <|Bn <|Tn <|Bd fun ac p =>Te [6] (o1 77 (Au p)) Ev ?_
           exact Sr <|Rr
theorem Xg {b a r} (h : Ks b a = some r) : Con B 45 [.agg [.sl false (L Ah b.Zs1.Zu),.sl false (L Al b.Zs1.Zv),.sl false (L Aa b.Zt1.Zm1),.sl false (L Af b.Zt1.Zn1),.sl false (L Aj b.Zt1.Zo1),.sl false (L Ai b.Zt1.Zp1),.sl false (L Ag b.Zu1),.sl false (L Ae b.Zv1),.sl false (L Ab b.Zw1)],.agg [i64 a.Zb,i64 a.Ref.Za,i64 a.Ref.No,i64 a.Ze,i64 a.Zf,i64 a.Zg,i64 a.Zh,i64 a.Zi,i64 a.To,i64 a.Code,i64 a.Zj,i64 a.Zk,i64 a.Zl,i64 a.Zm,.str a.Zn,.sl false (L Ad a.Zo)]] [] (fun r' σ' => r' = .bool r∧σ' = []):=by
 refine Cw 77 [.tmp 4] Tryz.func45 (fun F hE => ?_) h
 unfold Ks
 refine T0 [2,3] ?_
 refine Bd fun c ah =>Te [2,3,5] (o1 10 (Yi ah)) Ev ?_
 refine Sq ?_
 refine Tw [2,3,5,19] (fun v => ⟨As 77 [(2,.ref 0 0),(3,.ref 1 0),(5,.str c),(19,.bool v)],[.box [.sl false (L Ah b.Zs1.Zu),.sl false (L Al b.Zs1.Zv),.sl false (L Aa b.Zt1.Zm1),.sl false (L Af b.Zt1.Zn1),.sl false (L Aj b.Zt1.Zo1),.sl false (L Ai b.Zt1.Zp1),.sl false (L Ag b.Zu1),.sl false (L Ae b.Zv1),.sl false (L Ab b.Zw1)] false,.box [i64 a.Zb,i64 a.Ref.Za,i64 a.Ref.No,i64 a.Ze,i64 a.Zf,i64 a.Zg,i64 a.Zh,i64 a.Zi,i64 a.To,i64 a.Code,i64 a.Zj,i64 a.Zk,i64 a.Zl,i64 a.Zm,.str a.Zn,.sl false (L Ad a.Zo)] false]⟩) ?_ ?_
 ·intro _
  refine Bd fun ar w => ?_
  refine Sp (fun m => ?_) fun m => ?_
  ·exact Lf (o1 13 (Au w)) (Ev (by simp only [go_sem,m];exact Ak)) (ws [0,1])
  ·refine Bd fun au ai => ?_
   exact Lf (o2 13 (Au w) 17 (Qi ai)) (Ev (by simp only [go_sem,m];exact Ak)) (ws [0,1])
 intro v
 refine Cd ?_ ?_
 ·refine T0 [4] ?_
  exact Sr <|Tr <|Rr
 ·refine Sk <|Tn <|?_
  refine Jo (fun _ => ⟨As 77 [(3,.ref 0 0),(5,.str c)],[.box [i64 a.Zb,i64 a.Ref.Za,i64 a.Ref.No,i64 a.Ze,i64 a.Zf,i64 a.Zg,i64 a.Zh,i64 a.Zi,i64 a.To,i64 a.Code,i64 a.Zj,i64 a.Zk,i64 a.Zl,i64 a.Zm,.str a.Zn,.sl false (L Ad a.Zo)] false]⟩) ?_ ?_
  ·intro av aj
   refine T0 [2,3,5,6] ?_
   refine Sb ?_
   refine Lo (fun i => ⟨As 77 [(2,.ref 0 0),(3,.ref 1 0),(5,.str c),(6,i64 i)],[.box [.sl false (L Ah b.Zs1.Zu),.sl false (L Al b.Zs1.Zv),.sl false (L Aa b.Zt1.Zm1),.sl false (L Af b.Zt1.Zn1),.sl false (L Aj b.Zt1.Zo1),.sl false (L Ai b.Zt1.Zp1),.sl false (L Ag b.Zu1),.sl false (L Ae b.Zv1),.sl false (L Ab b.Zw1)] false,.box [i64 a.Zb,i64 a.Ref.Za,i64 a.Ref.No,i64 a.Ze,i64 a.Zf,i64 a.Zg,i64 a.Zh,i64 a.Zi,i64 a.To,i64 a.Code,i64 a.Zj,i64 a.Zk,i64 a.Zl,i64 a.Zm,.str a.Zn,.sl false (L Ad a.Zo)] false]⟩) (ws [0,1]) ?_
   rintro i aw ak x y
   show E5 b a c i = some ak→_
   unfold E5
   refine Sq <|T0 [2,3,5,6,21] ?_
   refine Cd ?_ ?_
   ·refine Sk <|Tn <|Sq <|Sb <|Ck fun z =>?_
    have aa:=z;simp only [List.cons_append,List.nil_append,List.length_append,List.length_cons,List.length_nil,Nat.zero_add,Nat.reduceAdd] at aa
    refine Lt fun al am =>Te (fr':=[(2,_),(3,_),(5,_),(6,_),(7,u8 al)]) [2,3,5,6,7] Ac (Ev (by simp only [go_sem,qR z,aa,am];exact Ak)) ?_
    refine Tw [2,3,5,6,47] (fun ab => ⟨As 77 [(2,.ref 0 0),(3,.ref 1 0),(5,.str c),(6,i64 i),(47,.bool ab)],[.box [.sl false (L Ah b.Zs1.Zu),.sl false (L Al b.Zs1.Zv),.sl false (L Aa b.Zt1.Zm1),.sl false (L Af b.Zt1.Zn1),.sl false (L Aj b.Zt1.Zo1),.sl false (L Ai b.Zt1.Zp1),.sl false (L Ag b.Zu1),.sl false (L Ae b.Zv1),.sl false (L Ab b.Zw1)] false,.box [i64 a.Zb,i64 a.Ref.Za,i64 a.Ref.No,i64 a.Ze,i64 a.Zf,i64 a.Zg,i64 a.Zh,i64 a.Zi,i64 a.To,i64 a.Code,i64 a.Zj,i64 a.Zk,i64 a.Zl,i64 a.Zm,.str a.Zn,.sl false (L Ad a.Zo)] false]⟩) ?_ ?_
    ·intro _
     refine Bd fun ax f => ?_
     refine Sp (fun d => ?_) fun d => ?_
     ·refine Bd fun ay n => ?_
      refine Sp (fun j => ?_) fun j => ?_
      ·exact Lf (o2 28 (Ce f) 33 (Lk n)) (Ev (by simp only [go_sem,d,j];exact Ak)) (ws [0,1])
      ·refine Bd fun az ac => ?_
       refine Sp (fun o => ?_) fun o => ?_
       ·refine Bd fun aA an => ?_
        exact Lf (Cp (l:=[(28,_,_,_),(33,_,_,_),(39,_,_,_),(44,_,_,_)]) ⟨Ce  f,Lk  n,Ce  ac,Id  an,trivial⟩) (Ev (by simp only [go_sem,d,j,o];exact Ak)) (ws [0,1])
       ·exact Lf (Cp (l:=[(28,_,_,_),(33,_,_,_),(39,_,_,_)]) ⟨Ce  f,Lk  n,Ce  ac,trivial⟩) (Ev (by simp only [go_sem,d,j,o];exact Ak)) (ws [0,1])
     ·refine Bd fun aB ad => ?_
      refine Sp (fun p => ?_) fun p => ?_
      ·refine Bd fun aC ao => ?_
       exact Lf (Cp (l:=[(28,_,_,_),(39,_,_,_),(44,_,_,_)]) ⟨Ce  f,Ce  ad,Id  ao,trivial⟩) (Ev (by simp only [go_sem,d,p];exact Ak)) (ws [0,1])
      ·exact Lf (o2 28 (Ce f) 39 (Ce ad)) (Ev (by simp only [go_sem,d,p];exact Ak)) (ws [0,1])
    intro ab
    refine Cd ?_ ?_
    ·refine T0 [4] ?_
     exact Sr <|Br <|Tr <|Lr y x <|Br <|Jr aj <|Rr
    ·refine Sk <|Bn <|Tn <|F0 [2,3,5,6] ?_
     exact Ln (ws [0,1])
   ·refine Sx <|Tx <|Lx y x <|Bx <|?_
    exact Jn ((ws (l':=[(3,.ref 0 0),(5,.str c)]) (σ':=[.box [i64 a.Zb,i64 a.Ref.Za,i64 a.Ref.No,i64 a.Ze,i64 a.Zf,i64 a.Zg,i64 a.Zh,i64 a.Zi,i64 a.To,i64 a.Code,i64 a.Zj,i64 a.Zk,i64 a.Zl,i64 a.Zm,.str a.Zn,.sl false (L Ad a.Zo)] false]) [1]).trans (ws [0]))
  intro _
  refine Sq ?_
  refine Dw [[],[0],[],[2],[2,3],[0,1,2,3,4],[0,1,2,3,4,5],[0,1,2,3,4,5,6],[0,1,2,3,4,5,6,7],[0,1,2,3,4,5,6,7,8],[0,1,2,3,4,5,6,7,8,9],[0,1,2,3,4,5,6,7,8,9,10]] [3,5,59] (fun ae => ⟨As 77 [(3,.ref 0 0),(5,.str c),(59,.bool ae)],[.box [i64 a.Zb,i64 a.Ref.Za,i64 a.Ref.No,i64 a.Ze,i64 a.Zf,i64 a.Zg,i64 a.Zh,i64 a.Zi,i64 a.To,i64 a.Code,i64 a.Zj,i64 a.Zk,i64 a.Zl,i64 a.Zm,.str a.Zn,.sl false (L Ad a.Zo)] false]⟩) ?_ ?_
  ·intro _
   refine Bd fun aD af => ?_
   refine Sp (fun q => ?_) fun q => ?_
   ·exact Lf (o1 49 (Ce af)) (Ev (by simp only [go_sem,q];exact Ak)) (ws [0])
   ·exact Lf (o1 49 (Ce af)) (Ev (by simp only [go_sem,q];exact Ak)) (ws [0])
  intro ae
  refine Cd ?_ ?_
  ·refine T0 [4] ?_
   exact Sr <|Tr <|Rr
  ·refine Sk <|Tn <|?_
   refine Tw [4] (fun ag => ⟨As 77 [(4,.bool ag)],[]⟩) ?_ ?_
   ·intro _
    refine Bd fun aE g => ?_
    refine Sp (fun e => ?_) fun e => ?_
    ·refine Bd fun aF s => ?_
     refine Sp (fun k => ?_) fun k => ?_
     ·exact Lf (o2 61 (Ce g) 64 (La s)) (Ev (by simp only [go_sem,e,k];exact Ak)) (ws [])
     ·refine Sp (fun t => ?_) fun t => ?_
      ·refine Bd fun aG ap => ?_
       exact Lf (Cp (l:=[(61,_,_,_),(64,_,_,_),(73,_,_,_)]) ⟨Ce  g,La  s,Ce  ap,trivial⟩) (Ev (by simp only [go_sem,e,k,t];exact Ak)) (ws [])
      ·exact Lf (o2 61 (Ce g) 64 (La s)) (Ev (by simp only [go_sem,e,k,t];exact Ak)) (ws [])
    ·refine Sp (fun u => ?_) fun u => ?_
     ·refine Bd fun aH aq => ?_
      exact Lf (o2 61 (Ce g) 73 (Ce aq)) (Ev (by simp only [go_sem,e,u];exact Ak)) (ws [])
     ·exact Lf (o1 61 (Ce g)) (Ev (by simp only [go_sem,e,u];exact Ak)) (ws [])
   intro ag
   exact Sr <|Rr
theorem K8 {b a r} (h : Kt b a = some r) : Con B 17 [.agg [.sl false (L Ah b.Zs1.Zu),.sl false (L Al b.Zs1.Zv),.sl false (L Aa b.Zt1.Zm1),.sl false (L Af b.Zt1.Zn1),.sl false (L Aj b.Zt1.Zo1),.sl false (L Ai b.Zt1.Zp1),.sl false (L Ag b.Zu1),.sl false (L Ae b.Zv1),.sl false (L Ab b.Zw1)],.agg [i64 a.Zb,i64 a.Ref.Za,i64 a.Ref.No,i64 a.Ze,i64 a.Zf,i64 a.Zg,i64 a.Zh,i64 a.Zi,i64 a.To,i64 a.Code,i64 a.Zj,i64 a.Zk,i64 a.Zl,i64 a.Zm,.str a.Zn,.sl false (L Ad a.Zo)]] [] (fun r' σ' => r' = i64 r∧σ' = []):=by
 refine Cw 15 [.tmp 4] Tryz.func17 (fun F hE => ?_) h
 unfold Kt
 refine T0 [2,3] ?_
 refine Bd fun e c =>Te [2,3,5] (o1 7 (Pr c)) Ev ?_
 refine Sq <|T0 [2,3,5,9] ?_
 refine Cd ?_ ?_
 ·refine T0 [4] ?_
  exact Sr <|Tr <|Rr
 ·refine Sk <|Tn <|Sq <|Bd fun f d =>Te [14] (o1 13 (Xg d)) Ev ?_
  refine Cd ?_ ?_
  ·refine T0 [4] ?_
   exact Sr <|Tr <|Rr
  ·refine Sk <|Tn <|T0 [4] ?_
   exact Sr <|Rr
theorem Kh {a r} (h : Gx a = some r) : Con B 37 [.agg [i64 a.Zb,i64 a.Ref.Za,i64 a.Ref.No,i64 a.Ze,i64 a.Zf,i64 a.Zg,i64 a.Zh,i64 a.Zi,i64 a.To,i64 a.Code,i64 a.Zj,i64 a.Zk,i64 a.Zl,i64 a.Zm,.str a.Zn,.sl false (L Ad a.Zo)]] [] (fun r' σ' => r' = .bool r∧σ' = []):=by
 refine Cw 32 [.tmp 2] Tryz.func37 (fun F hE => ?_) h
 unfold Gx
 refine T0 [1] ?_
 refine Sq <|T0 [1,6] ?_
 refine Cd ?_ ?_
 ·refine T0 [2] ?_
  exact Sr <|Tr <|Rr
 ·refine Sk <|Tn <|?_
  refine Tw [2] (fun e => ⟨As 32 [(2,.bool e)],[]⟩) ?_ ?_
  ·intro _
   refine Sp (fun b => ?_) fun b => ?_
   ·refine Sp (fun c => ?_) fun c => ?_
    ·refine Sp (fun d => ?_) fun d => ?_
     ·exact Lf Ac (Ev (by simp only [go_sem,b,c,d];exact Ak)) (ws [])
     ·exact Lf Ac (Ev (by simp only [go_sem,b,c,d];exact Ak)) (ws [])
    ·exact Lf Ac (Ev (by simp only [go_sem,b,c];exact Ak)) (ws [])
   ·exact Lf Ac (Ev (by simp only [go_sem,b];exact Ak)) (ws [])
  intro e
  exact Sr <|Rr
theorem Pk {a g r} (h : K1 a g = some r) : Con B 126 [.sl false (L Ad a),.bool g] [] (fun r' σ' => r' = .bool r∧σ' = []):=by
 refine Cw 43 [.tmp 4] Tryz.func126 (fun F hE => ?_) h
 unfold K1
 refine T0 [0,1] ?_
 refine Jo (fun _ => ⟨As 43 [(0,.sl false (L Ad a))],[]⟩) ?_ ?_
 ·intro w m
  refine T0 [0,1,7,8,9] ?_
  refine Sb ?_
  refine Lo (fun i => ⟨As 43 [(0,.sl false (L Ad a)),(1,.bool g),(7,.sl false (L Ad a)),(8,i64 (a.length : Int)),(9,i64 i)],[]⟩) (ws []) ?_
  rintro i x n j k
  show E0 a g i = some n→_
  unfold E0
  refine T0 [0,1,7,8,9,10] ?_
  refine Sq <|Cd ?_ ?_
  ·refine Sk <|Tn <|Sq <|Sb <|Ck fun o =>Lt fun p q =>Lt fun s t =>Lt fun u v =>Te (σ':=[.box [i64 p,i64 s,.bool u] false]) [0,1,6,7,8,9] Ac (Ev (by simp only [go_sem,qR o,q,t,v];exact Ak)) ?_
   refine Tw [0,1,7,8,9,38] (fun l => ⟨As 43 [(0,.sl false (L Ad a)),(1,.bool g),(7,.sl false (L Ad a)),(8,i64 (a.length : Int)),(9,i64 i),(38,.bool l)],[]⟩) ?_ ?_
   ·intro _
    refine Sp (fun b => ?_) fun b => ?_
    ·exact Lf Ac (Ev (by simp only [go_sem,b];exact Ak)) (ws [])
    ·refine Sp (fun c => ?_) fun c => ?_
     ·exact Lf Ac (Ev (by simp only [go_sem,b,c];exact Ak)) (ws [])
     ·refine Sp (fun d => ?_) fun d => ?_
      ·exact Lf Ac (Ev (by simp only [go_sem,b,c,d];exact Ak)) (ws [])
      ·refine Sp (fun e => ?_) fun e => ?_
       ·exact Lf Ac (Ev (by simp only [go_sem,b,c,d,e];exact Ak)) (ws [])
       ·refine Sp (fun f => ?_) fun f => ?_
        ·exact Lf Ac (Ev (by simp only [go_sem,b,c,d,e,f];exact Ak)) (ws [] (by simp only [go_sem,b,c,d,e,f]) (by simp only [go_sem,b,c,d,e,f]))
        ·exact Lf Ac (Ev (by simp only [go_sem,b,c,d,e,f];exact Ak)) (ws [] (by simp only [go_sem,b,c,d,e,f]) (by simp only [go_sem,b,c,d,e,f]))
   intro l
   refine Cd ?_ ?_
   ·refine T0 [4] ?_
    exact Sr <|Br <|Tr <|Lr k j <|Br <|Jr m <|Rr
   ·refine Sk <|Bn <|Tn <|F0 [0,1,7,8,9] ?_
    exact Ln (ws [])
  ·refine Sx <|Tx <|Lx k j <|Bx <|?_
   exact Jn ((ws (l':=[(0,.sl false (L Ad a))]) (σ':=[]) []).trans (ws []))
 intro _
 refine T0 [4] ?_
 exact Sr <|Rr
theorem J7 {a d e r} (h : Da a d e = some r) : Con B 120 [.ref 0 0,.ref 0 12,i64 d,i64 e] [.box [.sl false (L Ah a.p.Zs1.Zu),.sl false (L Al a.p.Zs1.Zv),.sl false (L Aa a.p.Zt1.Zm1),.sl false (L Af a.p.Zt1.Zn1),.sl false (L Aj a.p.Zt1.Zo1),.sl false (L Ai a.p.Zt1.Zp1),.sl false (L Ag a.p.Zu1),.sl false (L Ae a.p.Zv1),.sl false (L Ab a.p.Zw1),i64 a.it.Zb,i64 a.it.Ref.Za,i64 a.it.Ref.No,i64 a.it.Ze,i64 a.it.Zf,i64 a.it.Zg,i64 a.it.Zh,i64 a.it.Zi,i64 a.it.To,i64 a.it.Code,i64 a.it.Zj,i64 a.it.Zk,i64 a.it.Zl,i64 a.it.Zm,.str a.it.Zn,.sl false (L Ad a.it.Zo),.bool a.ok] false] (fun r' σ' => r' = .tup []∧σ' = [.box [.sl false (L Ah r.p.Zs1.Zu),.sl false (L Al r.p.Zs1.Zv),.sl false (L Aa r.p.Zt1.Zm1),.sl false (L Af r.p.Zt1.Zn1),.sl false (L Aj r.p.Zt1.Zo1),.sl false (L Ai r.p.Zt1.Zp1),.sl false (L Ag r.p.Zu1),.sl false (L Ae r.p.Zv1),.sl false (L Ab r.p.Zw1),i64 r.it.Zb,i64 r.it.Ref.Za,i64 r.it.Ref.No,i64 r.it.Ze,i64 r.it.Zf,i64 r.it.Zg,i64 r.it.Zh,i64 r.it.Zi,i64 r.it.To,i64 r.it.Code,i64 r.it.Zj,i64 r.it.Zk,i64 r.it.Zl,i64 r.it.Zm,.str r.it.Zn,.sl false (L Ad r.it.Zo),.bool r.ok] false]):=by
 refine Co 1 31 [] Tryz.func120 (fun F hE => ?_) h
 unfold Da
 refine Tw [1] (fun f => ⟨As 31 [(1,.ref 0 12)],[.box [.sl false (L Ah a.p.Zs1.Zu),.sl false (L Al a.p.Zs1.Zv),.sl false (L Aa a.p.Zt1.Zm1),.sl false (L Af a.p.Zt1.Zn1),.sl false (L Aj a.p.Zt1.Zo1),.sl false (L Ai a.p.Zt1.Zp1),.sl false (L Ag a.p.Zu1),.sl false (L Ae a.p.Zv1),.sl false (L Ab a.p.Zw1),i64 a.it.Zb,i64 a.it.Ref.Za,i64 a.it.Ref.No,i64 a.it.Ze,i64 a.it.Zf,i64 a.it.Zg,i64 a.it.Zh,i64 a.it.Zi,i64 a.it.To,i64 a.it.Code,i64 a.it.Zj,i64 a.it.Zk,i64 a.it.Zl,i64 a.it.Zm,.str a.it.Zn,.sl false (L Ad a.it.Zo),.bool f] false]⟩) ?_ ?_
 ·intro _
  refine Sp (fun b => ?_) fun b => ?_
  ·refine Sp (fun c => ?_) fun c => ?_
   ·exact Lf Ac (Ev (by simp only [go_sem,b,c];exact Ak)) (ws [0])
   ·exact Lf Ac (Ev (by simp only [go_sem,b,c];exact Ak)) (ws [0])
  ·exact Lf Ac (Ev (by simp only [go_sem,b];exact Ak)) (ws [0])
 intro f
 refine F0 [] ?_
 exact Ro [0]
theorem D5 {a d e r} (h : B6 a d e = some r) : Con B 120 [.ref 0 0,.ref 0 14,i64 d,i64 e] [.box [.sl false (L Ah a.p.Zs1.Zu),.sl false (L Al a.p.Zs1.Zv),.sl false (L Aa a.p.Zt1.Zm1),.sl false (L Af a.p.Zt1.Zn1),.sl false (L Aj a.p.Zt1.Zo1),.sl false (L Ai a.p.Zt1.Zp1),.sl false (L Ag a.p.Zu1),.sl false (L Ae a.p.Zv1),.sl false (L Ab a.p.Zw1),i64 a.it.Zb,i64 a.it.Ref.Za,i64 a.it.Ref.No,i64 a.it.Ze,i64 a.it.Zf,i64 a.it.Zg,i64 a.it.Zh,i64 a.it.Zi,i64 a.it.To,i64 a.it.Code,i64 a.it.Zj,i64 a.it.Zk,i64 a.it.Zl,i64 a.it.Zm,.str a.it.Zn,.sl false (L Ad a.it.Zo),.bool a.ok] false] (fun r' σ' => r' = .tup []∧σ' = [.box [.sl false (L Ah r.p.Zs1.Zu),.sl false (L Al r.p.Zs1.Zv),.sl false (L Aa r.p.Zt1.Zm1),.sl false (L Af r.p.Zt1.Zn1),.sl false (L Aj r.p.Zt1.Zo1),.sl false (L Ai r.p.Zt1.Zp1),.sl false (L Ag r.p.Zu1),.sl false (L Ae r.p.Zv1),.sl false (L Ab r.p.Zw1),i64 r.it.Zb,i64 r.it.Ref.Za,i64 r.it.Ref.No,i64 r.it.Ze,i64 r.it.Zf,i64 r.it.Zg,i64 r.it.Zh,i64 r.it.Zi,i64 r.it.To,i64 r.it.Code,i64 r.it.Zj,i64 r.it.Zk,i64 r.it.Zl,i64 r.it.Zm,.str r.it.Zn,.sl false (L Ad r.it.Zo),.bool r.ok] false]):=by
 refine Co 1 31 [] Tryz.func120 (fun F hE => ?_) h
 unfold B6
 refine Tw [1] (fun f => ⟨As 31 [(1,.ref 0 14)],[.box [.sl false (L Ah a.p.Zs1.Zu),.sl false (L Al a.p.Zs1.Zv),.sl false (L Aa a.p.Zt1.Zm1),.sl false (L Af a.p.Zt1.Zn1),.sl false (L Aj a.p.Zt1.Zo1),.sl false (L Ai a.p.Zt1.Zp1),.sl false (L Ag a.p.Zu1),.sl false (L Ae a.p.Zv1),.sl false (L Ab a.p.Zw1),i64 a.it.Zb,i64 a.it.Ref.Za,i64 a.it.Ref.No,i64 a.it.Ze,i64 a.it.Zf,i64 a.it.Zg,i64 a.it.Zh,i64 a.it.Zi,i64 a.it.To,i64 a.it.Code,i64 a.it.Zj,i64 a.it.Zk,i64 a.it.Zl,i64 a.it.Zm,.str a.it.Zn,.sl false (L Ad a.it.Zo),.bool f] false]⟩) ?_ ?_
 ·intro _
  refine Sp (fun b => ?_) fun b => ?_
  ·refine Sp (fun c => ?_) fun c => ?_
   ·exact Lf Ac (Ev (by simp only [go_sem,b,c];exact Ak)) (ws [0])
   ·exact Lf Ac (Ev (by simp only [go_sem,b,c];exact Ak)) (ws [0])
  ·exact Lf Ac (Ev (by simp only [go_sem,b];exact Ak)) (ws [0])
 intro f
 refine F0 [] ?_
 exact Ro [0]
theorem D4 {a d e r} (h : B5 a d e = some r) : Con B 120 [.ref 0 0,.ref 0 15,i64 d,i64 e] [.box [.sl false (L Ah a.p.Zs1.Zu),.sl false (L Al a.p.Zs1.Zv),.sl false (L Aa a.p.Zt1.Zm1),.sl false (L Af a.p.Zt1.Zn1),.sl false (L Aj a.p.Zt1.Zo1),.sl false (L Ai a.p.Zt1.Zp1),.sl false (L Ag a.p.Zu1),.sl false (L Ae a.p.Zv1),.sl false (L Ab a.p.Zw1),i64 a.it.Zb,i64 a.it.Ref.Za,i64 a.it.Ref.No,i64 a.it.Ze,i64 a.it.Zf,i64 a.it.Zg,i64 a.it.Zh,i64 a.it.Zi,i64 a.it.To,i64 a.it.Code,i64 a.it.Zj,i64 a.it.Zk,i64 a.it.Zl,i64 a.it.Zm,.str a.it.Zn,.sl false (L Ad a.it.Zo),.bool a.ok] false] (fun r' σ' => r' = .tup []∧σ' = [.box [.sl false (L Ah r.p.Zs1.Zu),.sl false (L Al r.p.Zs1.Zv),.sl false (L Aa r.p.Zt1.Zm1),.sl false (L Af r.p.Zt1.Zn1),.sl false (L Aj r.p.Zt1.Zo1),.sl false (L Ai r.p.Zt1.Zp1),.sl false (L Ag r.p.Zu1),.sl false (L Ae r.p.Zv1),.sl false (L Ab r.p.Zw1),i64 r.it.Zb,i64 r.it.Ref.Za,i64 r.it.Ref.No,i64 r.it.Ze,i64 r.it.Zf,i64 r.it.Zg,i64 r.it.Zh,i64 r.it.Zi,i64 r.it.To,i64 r.it.Code,i64 r.it.Zj,i64 r.it.Zk,i64 r.it.Zl,i64 r.it.Zm,.str r.it.Zn,.sl false (L Ad r.it.Zo),.bool r.ok] false]):=by
 refine Co 1 31 [] Tryz.func120 (fun F hE => ?_) h
 unfold B5
 refine Tw [1] (fun f => ⟨As 31 [(1,.ref 0 15)],[.box [.sl false (L Ah a.p.Zs1.Zu),.sl false (L Al a.p.Zs1.Zv),.sl false (L Aa a.p.Zt1.Zm1),.sl false (L Af a.p.Zt1.Zn1),.sl false (L Aj a.p.Zt1.Zo1),.sl false (L Ai a.p.Zt1.Zp1),.sl false (L Ag a.p.Zu1),.sl false (L Ae a.p.Zv1),.sl false (L Ab a.p.Zw1),i64 a.it.Zb,i64 a.it.Ref.Za,i64 a.it.Ref.No,i64 a.it.Ze,i64 a.it.Zf,i64 a.it.Zg,i64 a.it.Zh,i64 a.it.Zi,i64 a.it.To,i64 a.it.Code,i64 a.it.Zj,i64 a.it.Zk,i64 a.it.Zl,i64 a.it.Zm,.str a.it.Zn,.sl false (L Ad a.it.Zo),.bool f] false]⟩) ?_ ?_
 ·intro _
  refine Sp (fun b => ?_) fun b => ?_
  ·refine Sp (fun c => ?_) fun c => ?_
   ·exact Lf Ac (Ev (by simp only [go_sem,b,c];exact Ak)) (ws [0])
   ·exact Lf Ac (Ev (by simp only [go_sem,b,c];exact Ak)) (ws [0])
  ·exact Lf Ac (Ev (by simp only [go_sem,b];exact Ak)) (ws [0])
 intro f
 refine F0 [] ?_
 exact Ro [0]
theorem Ju {a d e r} (h : C4 a d e = some r) : Con B 120 [.ref 0 0,.ref 0 16,i64 d,i64 e] [.box [.sl false (L Ah a.p.Zs1.Zu),.sl false (L Al a.p.Zs1.Zv),.sl false (L Aa a.p.Zt1.Zm1),.sl false (L Af a.p.Zt1.Zn1),.sl false (L Aj a.p.Zt1.Zo1),.sl false (L Ai a.p.Zt1.Zp1),.sl false (L Ag a.p.Zu1),.sl false (L Ae a.p.Zv1),.sl false (L Ab a.p.Zw1),i64 a.it.Zb,i64 a.it.Ref.Za,i64 a.it.Ref.No,i64 a.it.Ze,i64 a.it.Zf,i64 a.it.Zg,i64 a.it.Zh,i64 a.it.Zi,i64 a.it.To,i64 a.it.Code,i64 a.it.Zj,i64 a.it.Zk,i64 a.it.Zl,i64 a.it.Zm,.str a.it.Zn,.sl false (L Ad a.it.Zo),.bool a.ok] false] (fun r' σ' => r' = .tup []∧σ' = [.box [.sl false (L Ah r.p.Zs1.Zu),.sl false (L Al r.p.Zs1.Zv),.sl false (L Aa r.p.Zt1.Zm1),.sl false (L Af r.p.Zt1.Zn1),.sl false (L Aj r.p.Zt1.Zo1),.sl false (L Ai r.p.Zt1.Zp1),.sl false (L Ag r.p.Zu1),.sl false (L Ae r.p.Zv1),.sl false (L Ab r.p.Zw1),i64 r.it.Zb,i64 r.it.Ref.Za,i64 r.it.Ref.No,i64 r.it.Ze,i64 r.it.Zf,i64 r.it.Zg,i64 r.it.Zh,i64 r.it.Zi,i64 r.it.To,i64 r.it.Code,i64 r.it.Zj,i64 r.it.Zk,i64 r.it.Zl,i64 r.it.Zm,.str r.it.Zn,.sl false (L Ad r.it.Zo),.bool r.ok] false]):=by
 refine Co 1 31 [] Tryz.func120 (fun F hE => ?_) h
 unfold C4
 refine Tw [1] (fun f => ⟨As 31 [(1,.ref 0 16)],[.box [.sl false (L Ah a.p.Zs1.Zu),.sl false (L Al a.p.Zs1.Zv),.sl false (L Aa a.p.Zt1.Zm1),.sl false (L Af a.p.Zt1.Zn1),.sl false (L Aj a.p.Zt1.Zo1),.sl false (L Ai a.p.Zt1.Zp1),.sl false (L Ag a.p.Zu1),.sl false (L Ae a.p.Zv1),.sl false (L Ab a.p.Zw1),i64 a.it.Zb,i64 a.it.Ref.Za,i64 a.it.Ref.No,i64 a.it.Ze,i64 a.it.Zf,i64 a.it.Zg,i64 a.it.Zh,i64 a.it.Zi,i64 a.it.To,i64 a.it.Code,i64 a.it.Zj,i64 a.it.Zk,i64 a.it.Zl,i64 a.it.Zm,.str a.it.Zn,.sl false (L Ad a.it.Zo),.bool f] false]⟩) ?_ ?_
 ·intro _
  refine Sp (fun b => ?_) fun b => ?_
  ·refine Sp (fun c => ?_) fun c => ?_
   ·exact Lf Ac (Ev (by simp only [go_sem,b,c];exact Ak)) (ws [0])
   ·exact Lf Ac (Ev (by simp only [go_sem,b,c];exact Ak)) (ws [0])
  ·exact Lf Ac (Ev (by simp only [go_sem,b];exact Ak)) (ws [0])
 intro f
 refine F0 [] ?_
 exact Ro [0]
theorem Jz {a d e r} (h : Db a d e = some r) : Con B 120 [.ref 0 0,.ref 0 17,i64 d,i64 e] [.box [.sl false (L Ah a.p.Zs1.Zu),.sl false (L Al a.p.Zs1.Zv),.sl false (L Aa a.p.Zt1.Zm1),.sl false (L Af a.p.Zt1.Zn1),.sl false (L Aj a.p.Zt1.Zo1),.sl false (L Ai a.p.Zt1.Zp1),.sl false (L Ag a.p.Zu1),.sl false (L Ae a.p.Zv1),.sl false (L Ab a.p.Zw1),i64 a.it.Zb,i64 a.it.Ref.Za,i64 a.it.Ref.No,i64 a.it.Ze,i64 a.it.Zf,i64 a.it.Zg,i64 a.it.Zh,i64 a.it.Zi,i64 a.it.To,i64 a.it.Code,i64 a.it.Zj,i64 a.it.Zk,i64 a.it.Zl,i64 a.it.Zm,.str a.it.Zn,.sl false (L Ad a.it.Zo),.bool a.ok] false] (fun r' σ' => r' = .tup []∧σ' = [.box [.sl false (L Ah r.p.Zs1.Zu),.sl false (L Al r.p.Zs1.Zv),.sl false (L Aa r.p.Zt1.Zm1),.sl false (L Af r.p.Zt1.Zn1),.sl false (L Aj r.p.Zt1.Zo1),.sl false (L Ai r.p.Zt1.Zp1),.sl false (L Ag r.p.Zu1),.sl false (L Ae r.p.Zv1),.sl false (L Ab r.p.Zw1),i64 r.it.Zb,i64 r.it.Ref.Za,i64 r.it.Ref.No,i64 r.it.Ze,i64 r.it.Zf,i64 r.it.Zg,i64 r.it.Zh,i64 r.it.Zi,i64 r.it.To,i64 r.it.Code,i64 r.it.Zj,i64 r.it.Zk,i64 r.it.Zl,i64 r.it.Zm,.str r.it.Zn,.sl false (L Ad r.it.Zo),.bool r.ok] false]):=by
 refine Co 1 31 [] Tryz.func120 (fun F hE => ?_) h
 unfold Db
 refine Tw [1] (fun f => ⟨As 31 [(1,.ref 0 17)],[.box [.sl false (L Ah a.p.Zs1.Zu),.sl false (L Al a.p.Zs1.Zv),.sl false (L Aa a.p.Zt1.Zm1),.sl false (L Af a.p.Zt1.Zn1),.sl false (L Aj a.p.Zt1.Zo1),.sl false (L Ai a.p.Zt1.Zp1),.sl false (L Ag a.p.Zu1),.sl false (L Ae a.p.Zv1),.sl false (L Ab a.p.Zw1),i64 a.it.Zb,i64 a.it.Ref.Za,i64 a.it.Ref.No,i64 a.it.Ze,i64 a.it.Zf,i64 a.it.Zg,i64 a.it.Zh,i64 a.it.Zi,i64 a.it.To,i64 a.it.Code,i64 a.it.Zj,i64 a.it.Zk,i64 a.it.Zl,i64 a.it.Zm,.str a.it.Zn,.sl false (L Ad a.it.Zo),.bool f] false]⟩) ?_ ?_
 ·intro _
  refine Sp (fun b => ?_) fun b => ?_
  ·refine Sp (fun c => ?_) fun c => ?_
   ·exact Lf Ac (Ev (by simp only [go_sem,b,c];exact Ak)) (ws [0])
   ·exact Lf Ac (Ev (by simp only [go_sem,b,c];exact Ak)) (ws [0])
  ·exact Lf Ac (Ev (by simp only [go_sem,b];exact Ak)) (ws [0])
 intro f
 refine F0 [] ?_
 exact Ro [0]
theorem C2 {a d e r} (h : Bp a d e = some r) : Con B 120 [.ref 0 0,.ref 0 18,i64 d,i64 e] [.box [.sl false (L Ah a.p.Zs1.Zu),.sl false (L Al a.p.Zs1.Zv),.sl false (L Aa a.p.Zt1.Zm1),.sl false (L Af a.p.Zt1.Zn1),.sl false (L Aj a.p.Zt1.Zo1),.sl false (L Ai a.p.Zt1.Zp1),.sl false (L Ag a.p.Zu1),.sl false (L Ae a.p.Zv1),.sl false (L Ab a.p.Zw1),i64 a.it.Zb,i64 a.it.Ref.Za,i64 a.it.Ref.No,i64 a.it.Ze,i64 a.it.Zf,i64 a.it.Zg,i64 a.it.Zh,i64 a.it.Zi,i64 a.it.To,i64 a.it.Code,i64 a.it.Zj,i64 a.it.Zk,i64 a.it.Zl,i64 a.it.Zm,.str a.it.Zn,.sl false (L Ad a.it.Zo),.bool a.ok] false] (fun r' σ' => r' = .tup []∧σ' = [.box [.sl false (L Ah r.p.Zs1.Zu),.sl false (L Al r.p.Zs1.Zv),.sl false (L Aa r.p.Zt1.Zm1),.sl false (L Af r.p.Zt1.Zn1),.sl false (L Aj r.p.Zt1.Zo1),.sl false (L Ai r.p.Zt1.Zp1),.sl false (L Ag r.p.Zu1),.sl false (L Ae r.p.Zv1),.sl false (L Ab r.p.Zw1),i64 r.it.Zb,i64 r.it.Ref.Za,i64 r.it.Ref.No,i64 r.it.Ze,i64 r.it.Zf,i64 r.it.Zg,i64 r.it.Zh,i64 r.it.Zi,i64 r.it.To,i64 r.it.Code,i64 r.it.Zj,i64 r.it.Zk,i64 r.it.Zl,i64 r.it.Zm,.str r.it.Zn,.sl false (L Ad r.it.Zo),.bool r.ok] false]):=by
 refine Co 1 31 [] Tryz.func120 (fun F hE => ?_) h
 unfold Bp
 refine Tw [1] (fun f => ⟨As 31 [(1,.ref 0 18)],[.box [.sl false (L Ah a.p.Zs1.Zu),.sl false (L Al a.p.Zs1.Zv),.sl false (L Aa a.p.Zt1.Zm1),.sl false (L Af a.p.Zt1.Zn1),.sl false (L Aj a.p.Zt1.Zo1),.sl false (L Ai a.p.Zt1.Zp1),.sl false (L Ag a.p.Zu1),.sl false (L Ae a.p.Zv1),.sl false (L Ab a.p.Zw1),i64 a.it.Zb,i64 a.it.Ref.Za,i64 a.it.Ref.No,i64 a.it.Ze,i64 a.it.Zf,i64 a.it.Zg,i64 a.it.Zh,i64 a.it.Zi,i64 a.it.To,i64 a.it.Code,i64 a.it.Zj,i64 a.it.Zk,i64 a.it.Zl,i64 a.it.Zm,.str a.it.Zn,.sl false (L Ad a.it.Zo),.bool f] false]⟩) ?_ ?_
 ·intro _
  refine Sp (fun b => ?_) fun b => ?_
  ·refine Sp (fun c => ?_) fun c => ?_
   ·exact Lf Ac (Ev (by simp only [go_sem,b,c];exact Ak)) (ws [0])
   ·exact Lf Ac (Ev (by simp only [go_sem,b,c];exact Ak)) (ws [0])
  ·exact Lf Ac (Ev (by simp only [go_sem,b];exact Ak)) (ws [0])
 intro f
 refine F0 [] ?_
 exact Ro [0]
theorem Js {a d e r} (h : C9 a d e = some r) : Con B 120 [.ref 0 0,.ref 0 19,i64 d,i64 e] [.box [.sl false (L Ah a.p.Zs1.Zu),.sl false (L Al a.p.Zs1.Zv),.sl false (L Aa a.p.Zt1.Zm1),.sl false (L Af a.p.Zt1.Zn1),.sl false (L Aj a.p.Zt1.Zo1),.sl false (L Ai a.p.Zt1.Zp1),.sl false (L Ag a.p.Zu1),.sl false (L Ae a.p.Zv1),.sl false (L Ab a.p.Zw1),i64 a.it.Zb,i64 a.it.Ref.Za,i64 a.it.Ref.No,i64 a.it.Ze,i64 a.it.Zf,i64 a.it.Zg,i64 a.it.Zh,i64 a.it.Zi,i64 a.it.To,i64 a.it.Code,i64 a.it.Zj,i64 a.it.Zk,i64 a.it.Zl,i64 a.it.Zm,.str a.it.Zn,.sl false (L Ad a.it.Zo),.bool a.ok] false] (fun r' σ' => r' = .tup []∧σ' = [.box [.sl false (L Ah r.p.Zs1.Zu),.sl false (L Al r.p.Zs1.Zv),.sl false (L Aa r.p.Zt1.Zm1),.sl false (L Af r.p.Zt1.Zn1),.sl false (L Aj r.p.Zt1.Zo1),.sl false (L Ai r.p.Zt1.Zp1),.sl false (L Ag r.p.Zu1),.sl false (L Ae r.p.Zv1),.sl false (L Ab r.p.Zw1),i64 r.it.Zb,i64 r.it.Ref.Za,i64 r.it.Ref.No,i64 r.it.Ze,i64 r.it.Zf,i64 r.it.Zg,i64 r.it.Zh,i64 r.it.Zi,i64 r.it.To,i64 r.it.Code,i64 r.it.Zj,i64 r.it.Zk,i64 r.it.Zl,i64 r.it.Zm,.str r.it.Zn,.sl false (L Ad r.it.Zo),.bool r.ok] false]):=by
 refine Co 1 31 [] Tryz.func120 (fun F hE => ?_) h
 unfold C9
 refine Tw [1] (fun f => ⟨As 31 [(1,.ref 0 19)],[.box [.sl false (L Ah a.p.Zs1.Zu),.sl false (L Al a.p.Zs1.Zv),.sl false (L Aa a.p.Zt1.Zm1),.sl false (L Af a.p.Zt1.Zn1),.sl false (L Aj a.p.Zt1.Zo1),.sl false (L Ai a.p.Zt1.Zp1),.sl false (L Ag a.p.Zu1),.sl false (L Ae a.p.Zv1),.sl false (L Ab a.p.Zw1),i64 a.it.Zb,i64 a.it.Ref.Za,i64 a.it.Ref.No,i64 a.it.Ze,i64 a.it.Zf,i64 a.it.Zg,i64 a.it.Zh,i64 a.it.Zi,i64 a.it.To,i64 a.it.Code,i64 a.it.Zj,i64 a.it.Zk,i64 a.it.Zl,i64 a.it.Zm,.str a.it.Zn,.sl false (L Ad a.it.Zo),.bool f] false]⟩) ?_ ?_
 ·intro _
  refine Sp (fun b => ?_) fun b => ?_
  ·refine Sp (fun c => ?_) fun c => ?_
   ·exact Lf Ac (Ev (by simp only [go_sem,b,c];exact Ak)) (ws [0])
   ·exact Lf Ac (Ev (by simp only [go_sem,b,c];exact Ak)) (ws [0])
  ·exact Lf Ac (Ev (by simp only [go_sem,b];exact Ak)) (ws [0])
 intro f
 refine F0 [] ?_
 exact Ro [0]
theorem J6 {a d e r} (h : C6 a d e = some r) : Con B 120 [.ref 0 0,.ref 0 20,i64 d,i64 e] [.box [.sl false (L Ah a.p.Zs1.Zu),.sl false (L Al a.p.Zs1.Zv),.sl false (L Aa a.p.Zt1.Zm1),.sl false (L Af a.p.Zt1.Zn1),.sl false (L Aj a.p.Zt1.Zo1),.sl false (L Ai a.p.Zt1.Zp1),.sl false (L Ag a.p.Zu1),.sl false (L Ae a.p.Zv1),.sl false (L Ab a.p.Zw1),i64 a.it.Zb,i64 a.it.Ref.Za,i64 a.it.Ref.No,i64 a.it.Ze,i64 a.it.Zf,i64 a.it.Zg,i64 a.it.Zh,i64 a.it.Zi,i64 a.it.To,i64 a.it.Code,i64 a.it.Zj,i64 a.it.Zk,i64 a.it.Zl,i64 a.it.Zm,.str a.it.Zn,.sl false (L Ad a.it.Zo),.bool a.ok] false] (fun r' σ' => r' = .tup []∧σ' = [.box [.sl false (L Ah r.p.Zs1.Zu),.sl false (L Al r.p.Zs1.Zv),.sl false (L Aa r.p.Zt1.Zm1),.sl false (L Af r.p.Zt1.Zn1),.sl false (L Aj r.p.Zt1.Zo1),.sl false (L Ai r.p.Zt1.Zp1),.sl false (L Ag r.p.Zu1),.sl false (L Ae r.p.Zv1),.sl false (L Ab r.p.Zw1),i64 r.it.Zb,i64 r.it.Ref.Za,i64 r.it.Ref.No,i64 r.it.Ze,i64 r.it.Zf,i64 r.it.Zg,i64 r.it.Zh,i64 r.it.Zi,i64 r.it.To,i64 r.it.Code,i64 r.it.Zj,i64 r.it.Zk,i64 r.it.Zl,i64 r.it.Zm,.str r.it.Zn,.sl false (L Ad r.it.Zo),.bool r.ok] false]):=by
 refine Co 1 31 [] Tryz.func120 (fun F hE => ?_) h
 unfold C6
 refine Tw [1] (fun f => ⟨As 31 [(1,.ref 0 20)],[.box [.sl false (L Ah a.p.Zs1.Zu),.sl false (L Al a.p.Zs1.Zv),.sl false (L Aa a.p.Zt1.Zm1),.sl false (L Af a.p.Zt1.Zn1),.sl false (L Aj a.p.Zt1.Zo1),.sl false (L Ai a.p.Zt1.Zp1),.sl false (L Ag a.p.Zu1),.sl false (L Ae a.p.Zv1),.sl false (L Ab a.p.Zw1),i64 a.it.Zb,i64 a.it.Ref.Za,i64 a.it.Ref.No,i64 a.it.Ze,i64 a.it.Zf,i64 a.it.Zg,i64 a.it.Zh,i64 a.it.Zi,i64 a.it.To,i64 a.it.Code,i64 a.it.Zj,i64 a.it.Zk,i64 a.it.Zl,i64 a.it.Zm,.str a.it.Zn,.sl false (L Ad a.it.Zo),.bool f] false]⟩) ?_ ?_
 ·intro _
  refine Sp (fun b => ?_) fun b => ?_
  ·refine Sp (fun c => ?_) fun c => ?_
   ·exact Lf Ac (Ev (by simp only [go_sem,b,c];exact Ak)) (ws [0])
   ·exact Lf Ac (Ev (by simp only [go_sem,b,c];exact Ak)) (ws [0])
  ·exact Lf Ac (Ev (by simp only [go_sem,b];exact Ak)) (ws [0])
 intro f
 refine F0 [] ?_
 exact Ro [0]
theorem F7 {a d e r} (h : Cm a d e = some r) : Con B 120 [.ref 0 0,.ref 0 21,i64 d,i64 e] [.box [.sl false (L Ah a.p.Zs1.Zu),.sl false (L Al a.p.Zs1.Zv),.sl false (L Aa a.p.Zt1.Zm1),.sl false (L Af a.p.Zt1.Zn1),.sl false (L Aj a.p.Zt1.Zo1),.sl false (L Ai a.p.Zt1.Zp1),.sl false (L Ag a.p.Zu1),.sl false (L Ae a.p.Zv1),.sl false (L Ab a.p.Zw1),i64 a.it.Zb,i64 a.it.Ref.Za,i64 a.it.Ref.No,i64 a.it.Ze,i64 a.it.Zf,i64 a.it.Zg,i64 a.it.Zh,i64 a.it.Zi,i64 a.it.To,i64 a.it.Code,i64 a.it.Zj,i64 a.it.Zk,i64 a.it.Zl,i64 a.it.Zm,.str a.it.Zn,.sl false (L Ad a.it.Zo),.bool a.ok] false] (fun r' σ' => r' = .tup []∧σ' = [.box [.sl false (L Ah r.p.Zs1.Zu),.sl false (L Al r.p.Zs1.Zv),.sl false (L Aa r.p.Zt1.Zm1),.sl false (L Af r.p.Zt1.Zn1),.sl false (L Aj r.p.Zt1.Zo1),.sl false (L Ai r.p.Zt1.Zp1),.sl false (L Ag r.p.Zu1),.sl false (L Ae r.p.Zv1),.sl false (L Ab r.p.Zw1),i64 r.it.Zb,i64 r.it.Ref.Za,i64 r.it.Ref.No,i64 r.it.Ze,i64 r.it.Zf,i64 r.it.Zg,i64 r.it.Zh,i64 r.it.Zi,i64 r.it.To,i64 r.it.Code,i64 r.it.Zj,i64 r.it.Zk,i64 r.it.Zl,i64 r.it.Zm,.str r.it.Zn,.sl false (L Ad r.it.Zo),.bool r.ok] false]):=by
 refine Co 1 31 [] Tryz.func120 (fun F hE => ?_) h
 unfold Cm
 refine Tw [1] (fun f => ⟨As 31 [(1,.ref 0 21)],[.box [.sl false (L Ah a.p.Zs1.Zu),.sl false (L Al a.p.Zs1.Zv),.sl false (L Aa a.p.Zt1.Zm1),.sl false (L Af a.p.Zt1.Zn1),.sl false (L Aj a.p.Zt1.Zo1),.sl false (L Ai a.p.Zt1.Zp1),.sl false (L Ag a.p.Zu1),.sl false (L Ae a.p.Zv1),.sl false (L Ab a.p.Zw1),i64 a.it.Zb,i64 a.it.Ref.Za,i64 a.it.Ref.No,i64 a.it.Ze,i64 a.it.Zf,i64 a.it.Zg,i64 a.it.Zh,i64 a.it.Zi,i64 a.it.To,i64 a.it.Code,i64 a.it.Zj,i64 a.it.Zk,i64 a.it.Zl,i64 a.it.Zm,.str a.it.Zn,.sl false (L Ad a.it.Zo),.bool f] false]⟩) ?_ ?_
 ·intro _
  refine Sp (fun b => ?_) fun b => ?_
  ·refine Sp (fun c => ?_) fun c => ?_
   ·exact Lf Ac (Ev (by simp only [go_sem,b,c];exact Ak)) (ws [0])
   ·exact Lf Ac (Ev (by simp only [go_sem,b,c];exact Ak)) (ws [0])
  ·exact Lf Ac (Ev (by simp only [go_sem,b];exact Ak)) (ws [0])
 intro f
 refine F0 [] ?_
 exact Ro [0]
theorem F3 {a d e r} (h : Cj a d e = some r) : Con B 120 [.ref 0 0,.ref 0 22,i64 d,i64 e] [.box [.sl false (L Ah a.p.Zs1.Zu),.sl false (L Al a.p.Zs1.Zv),.sl false (L Aa a.p.Zt1.Zm1),.sl false (L Af a.p.Zt1.Zn1),.sl false (L Aj a.p.Zt1.Zo1),.sl false (L Ai a.p.Zt1.Zp1),.sl false (L Ag a.p.Zu1),.sl false (L Ae a.p.Zv1),.sl false (L Ab a.p.Zw1),i64 a.it.Zb,i64 a.it.Ref.Za,i64 a.it.Ref.No,i64 a.it.Ze,i64 a.it.Zf,i64 a.it.Zg,i64 a.it.Zh,i64 a.it.Zi,i64 a.it.To,i64 a.it.Code,i64 a.it.Zj,i64 a.it.Zk,i64 a.it.Zl,i64 a.it.Zm,.str a.it.Zn,.sl false (L Ad a.it.Zo),.bool a.ok] false] (fun r' σ' => r' = .tup []∧σ' = [.box [.sl false (L Ah r.p.Zs1.Zu),.sl false (L Al r.p.Zs1.Zv),.sl false (L Aa r.p.Zt1.Zm1),.sl false (L Af r.p.Zt1.Zn1),.sl false (L Aj r.p.Zt1.Zo1),.sl false (L Ai r.p.Zt1.Zp1),.sl false (L Ag r.p.Zu1),.sl false (L Ae r.p.Zv1),.sl false (L Ab r.p.Zw1),i64 r.it.Zb,i64 r.it.Ref.Za,i64 r.it.Ref.No,i64 r.it.Ze,i64 r.it.Zf,i64 r.it.Zg,i64 r.it.Zh,i64 r.it.Zi,i64 r.it.To,i64 r.it.Code,i64 r.it.Zj,i64 r.it.Zk,i64 r.it.Zl,i64 r.it.Zm,.str r.it.Zn,.sl false (L Ad r.it.Zo),.bool r.ok] false]):=by
 refine Co 1 31 [] Tryz.func120 (fun F hE => ?_) h
 unfold Cj
 refine Tw [1] (fun f => ⟨As 31 [(1,.ref 0 22)],[.box [.sl false (L Ah a.p.Zs1.Zu),.sl false (L Al a.p.Zs1.Zv),.sl false (L Aa a.p.Zt1.Zm1),.sl false (L Af a.p.Zt1.Zn1),.sl false (L Aj a.p.Zt1.Zo1),.sl false (L Ai a.p.Zt1.Zp1),.sl false (L Ag a.p.Zu1),.sl false (L Ae a.p.Zv1),.sl false (L Ab a.p.Zw1),i64 a.it.Zb,i64 a.it.Ref.Za,i64 a.it.Ref.No,i64 a.it.Ze,i64 a.it.Zf,i64 a.it.Zg,i64 a.it.Zh,i64 a.it.Zi,i64 a.it.To,i64 a.it.Code,i64 a.it.Zj,i64 a.it.Zk,i64 a.it.Zl,i64 a.it.Zm,.str a.it.Zn,.sl false (L Ad a.it.Zo),.bool f] false]⟩) ?_ ?_
 ·intro _
  refine Sp (fun b => ?_) fun b => ?_
  ·refine Sp (fun c => ?_) fun c => ?_
   ·exact Lf Ac (Ev (by simp only [go_sem,b,c];exact Ak)) (ws [0])
   ·exact Lf Ac (Ev (by simp only [go_sem,b,c];exact Ak)) (ws [0])
  ·exact Lf Ac (Ev (by simp only [go_sem,b];exact Ak)) (ws [0])
 intro f
 refine F0 [] ?_
 exact Ro [0]
theorem Fd {a r} (h : Dp a = some r) : Con B 119 [.ref 0 0] [.box [.sl false (L Ah a.p.Zs1.Zu),.sl false (L Al a.p.Zs1.Zv),.sl false (L Aa a.p.Zt1.Zm1),.sl false (L Af a.p.Zt1.Zn1),.sl false (L Aj a.p.Zt1.Zo1),.sl false (L Ai a.p.Zt1.Zp1),.sl false (L Ag a.p.Zu1),.sl false (L Ae a.p.Zv1),.sl false (L Ab a.p.Zw1),i64 a.it.Zb,i64 a.it.Ref.Za,i64 a.it.Ref.No,i64 a.it.Ze,i64 a.it.Zf,i64 a.it.Zg,i64 a.it.Zh,i64 a.it.Zi,i64 a.it.To,i64 a.it.Code,i64 a.it.Zj,i64 a.it.Zk,i64 a.it.Zl,i64 a.it.Zm,.str a.it.Zn,.sl false (L Ad a.it.Zo),.bool a.ok] false] (fun r' σ' => r' = .tup []∧σ' = [.box [.sl false (L Ah r.p.Zs1.Zu),.sl false (L Al r.p.Zs1.Zv),.sl false (L Aa r.p.Zt1.Zm1),.sl false (L Af r.p.Zt1.Zn1),.sl false (L Aj r.p.Zt1.Zo1),.sl false (L Ai r.p.Zt1.Zp1),.sl false (L Ag r.p.Zu1),.sl false (L Ae r.p.Zv1),.sl false (L Ab r.p.Zw1),i64 r.it.Zb,i64 r.it.Ref.Za,i64 r.it.Ref.No,i64 r.it.Ze,i64 r.it.Zf,i64 r.it.Zg,i64 r.it.Zh,i64 r.it.Zi,i64 r.it.To,i64 r.it.Code,i64 r.it.Zj,i64 r.it.Zk,i64 r.it.Zl,i64 r.it.Zm,.str r.it.Zn,.sl false (L Ad r.it.Zo),.bool r.ok] false]):=by
 refine Co 1 16 [] Tryz.func119 (fun F hE => ?_) h
 unfold Dp
 refine Bd fun c b =>Ge [[],[],[1],[1,2],[1,2,3],[],[5],[5,6],[5,6,7],[5,6,7,8],[5,6,7,8,9],[5,6,7,8,9,10],[5,6,7,8,9,10,11],[0,1,2,3,4,5,6,7,8,9,10,11,12]] [] (Ao (l:=[]) (m:=[(15,120,[.ref 0 0,.ref 0 12,i64 0,i64 (w64 ((a.p.Zt1.Zn1.length : Int) - 1))],[.box [.sl false (L Ah a.p.Zs1.Zu),.sl false (L Al a.p.Zs1.Zv),.sl false (L Aa a.p.Zt1.Zm1),.sl false (L Af a.p.Zt1.Zn1),.sl false (L Aj a.p.Zt1.Zo1),.sl false (L Ai a.p.Zt1.Zp1),.sl false (L Ag a.p.Zu1),.sl false (L Ae a.p.Zv1),.sl false (L Ab a.p.Zw1),i64 a.it.Zb,i64 a.it.Ref.Za,i64 a.it.Ref.No,i64 a.it.Ze,i64 a.it.Zf,i64 a.it.Zg,i64 a.it.Zh,i64 a.it.Zi,i64 a.it.To,i64 a.it.Code,i64 a.it.Zj,i64 a.it.Zk,i64 a.it.Zl,i64 a.it.Zm,.str a.it.Zn,.sl false (L Ad a.it.Zo),.bool a.ok] false],_,_)]) trivial ⟨(wc (J7 b) [0]),trivial⟩) Ev ?_
 exact Ro [0]
theorem Cc {a r} (h : Ca a = some r) : Con B 121 [.ref 0 0] [.box [.sl false (L Ah a.p.Zs1.Zu),.sl false (L Al a.p.Zs1.Zv),.sl false (L Aa a.p.Zt1.Zm1),.sl false (L Af a.p.Zt1.Zn1),.sl false (L Aj a.p.Zt1.Zo1),.sl false (L Ai a.p.Zt1.Zp1),.sl false (L Ag a.p.Zu1),.sl false (L Ae a.p.Zv1),.sl false (L Ab a.p.Zw1),i64 a.it.Zb,i64 a.it.Ref.Za,i64 a.it.Ref.No,i64 a.it.Ze,i64 a.it.Zf,i64 a.it.Zg,i64 a.it.Zh,i64 a.it.Zi,i64 a.it.To,i64 a.it.Code,i64 a.it.Zj,i64 a.it.Zk,i64 a.it.Zl,i64 a.it.Zm,.str a.it.Zn,.sl false (L Ad a.it.Zo),.bool a.ok] false] (fun r' σ' => r' = .tup []∧σ' = [.box [.sl false (L Ah r.p.Zs1.Zu),.sl false (L Al r.p.Zs1.Zv),.sl false (L Aa r.p.Zt1.Zm1),.sl false (L Af r.p.Zt1.Zn1),.sl false (L Aj r.p.Zt1.Zo1),.sl false (L Ai r.p.Zt1.Zp1),.sl false (L Ag r.p.Zu1),.sl false (L Ae r.p.Zv1),.sl false (L Ab r.p.Zw1),i64 r.it.Zb,i64 r.it.Ref.Za,i64 r.it.Ref.No,i64 r.it.Ze,i64 r.it.Zf,i64 r.it.Zg,i64 r.it.Zh,i64 r.it.Zi,i64 r.it.To,i64 r.it.Code,i64 r.it.Zj,i64 r.it.Zk,i64 r.it.Zl,i64 r.it.Zm,.str r.it.Zn,.sl false (L Ad r.it.Zo),.bool r.ok] false]):=by
 refine Co 1 8 [] Tryz.func121 (fun F hE => ?_) h
 unfold Ca
 refine Bd fun c b =>Fe [] (Ao (l:=[]) (m:=[(7,120,[.ref 0 0,.ref 0 16,i64 0,i64 1073741824],[.box [.sl false (L Ah a.p.Zs1.Zu),.sl false (L Al a.p.Zs1.Zv),.sl false (L Aa a.p.Zt1.Zm1),.sl false (L Af a.p.Zt1.Zn1),.sl false (L Aj a.p.Zt1.Zo1),.sl false (L Ai a.p.Zt1.Zp1),.sl false (L Ag a.p.Zu1),.sl false (L Ae a.p.Zv1),.sl false (L Ab a.p.Zw1),i64 a.it.Zb,i64 a.it.Ref.Za,i64 a.it.Ref.No,i64 a.it.Ze,i64 a.it.Zf,i64 a.it.Zg,i64 a.it.Zh,i64 a.it.Zi,i64 a.it.To,i64 a.it.Code,i64 a.it.Zj,i64 a.it.Zk,i64 a.it.Zl,i64 a.it.Zm,.str a.it.Zn,.sl false (L Ad a.it.Zo),.bool a.ok] false],_,_)]) trivial ⟨(wc (Ju b) [0]),trivial⟩) Ev ?_
 exact Ro [0]
theorem Em {a r} (h : C0 a = some r) : Con B 124 [.ref 0 0] [.box [.sl false (L Ah a.p.Zs1.Zu),.sl false (L Al a.p.Zs1.Zv),.sl false (L Aa a.p.Zt1.Zm1),.sl false (L Af a.p.Zt1.Zn1),.sl false (L Aj a.p.Zt1.Zo1),.sl false (L Ai a.p.Zt1.Zp1),.sl false (L Ag a.p.Zu1),.sl false (L Ae a.p.Zv1),.sl false (L Ab a.p.Zw1),i64 a.it.Zb,i64 a.it.Ref.Za,i64 a.it.Ref.No,i64 a.it.Ze,i64 a.it.Zf,i64 a.it.Zg,i64 a.it.Zh,i64 a.it.Zi,i64 a.it.To,i64 a.it.Code,i64 a.it.Zj,i64 a.it.Zk,i64 a.it.Zl,i64 a.it.Zm,.str a.it.Zn,.sl false (L Ad a.it.Zo),.bool a.ok] false] (fun r' σ' => r' = .tup []∧σ' = [.box [.sl false (L Ah r.p.Zs1.Zu),.sl false (L Al r.p.Zs1.Zv),.sl false (L Aa r.p.Zt1.Zm1),.sl false (L Af r.p.Zt1.Zn1),.sl false (L Aj r.p.Zt1.Zo1),.sl false (L Ai r.p.Zt1.Zp1),.sl false (L Ag r.p.Zu1),.sl false (L Ae r.p.Zv1),.sl false (L Ab r.p.Zw1),i64 r.it.Zb,i64 r.it.Ref.Za,i64 r.it.Ref.No,i64 r.it.Ze,i64 r.it.Zf,i64 r.it.Zg,i64 r.it.Zh,i64 r.it.Zi,i64 r.it.To,i64 r.it.Code,i64 r.it.Zj,i64 r.it.Zk,i64 r.it.Zl,i64 r.it.Zm,.str r.it.Zn,.sl false (L Ad r.it.Zo),.bool r.ok] false]):=by
 refine Co 1 15 [] Tryz.func124 (fun F hE => ?_) h
 unfold C0
 refine Bd fun c b =>Ge [[],[],[1],[1,2],[1,2,3],[],[5],[5,6],[5,6,7],[5,6,7,8],[5,6,7,8,9],[5,6,7,8,9,10],[0,1,2,3,4,5,6,7,8,9,10,11]] [] (Ao (l:=[]) (m:=[(14,120,[.ref 0 0,.ref 0 14,i64 0,i64 (w64 ((a.p.Zv1.length : Int) - 1))],[.box [.sl false (L Ah a.p.Zs1.Zu),.sl false (L Al a.p.Zs1.Zv),.sl false (L Aa a.p.Zt1.Zm1),.sl false (L Af a.p.Zt1.Zn1),.sl false (L Aj a.p.Zt1.Zo1),.sl false (L Ai a.p.Zt1.Zp1),.sl false (L Ag a.p.Zu1),.sl false (L Ae a.p.Zv1),.sl false (L Ab a.p.Zw1),i64 a.it.Zb,i64 a.it.Ref.Za,i64 a.it.Ref.No,i64 a.it.Ze,i64 a.it.Zf,i64 a.it.Zg,i64 a.it.Zh,i64 a.it.Zi,i64 a.it.To,i64 a.it.Code,i64 a.it.Zj,i64 a.it.Zk,i64 a.it.Zl,i64 a.it.Zm,.str a.it.Zn,.sl false (L Ad a.it.Zo),.bool a.ok] false],_,_)]) trivial ⟨(wc (D5 b) [0]),trivial⟩) Ev ?_
 exact Ro [0]
theorem Hq {a r} (h : Eh a = some r) : Con B 125 [.ref 0 0] [.box [.sl false (L Ah a.p.Zs1.Zu),.sl false (L Al a.p.Zs1.Zv),.sl false (L Aa a.p.Zt1.Zm1),.sl false (L Af a.p.Zt1.Zn1),.sl false (L Aj a.p.Zt1.Zo1),.sl false (L Ai a.p.Zt1.Zp1),.sl false (L Ag a.p.Zu1),.sl false (L Ae a.p.Zv1),.sl false (L Ab a.p.Zw1),i64 a.it.Zb,i64 a.it.Ref.Za,i64 a.it.Ref.No,i64 a.it.Ze,i64 a.it.Zf,i64 a.it.Zg,i64 a.it.Zh,i64 a.it.Zi,i64 a.it.To,i64 a.it.Code,i64 a.it.Zj,i64 a.it.Zk,i64 a.it.Zl,i64 a.it.Zm,.str a.it.Zn,.sl false (L Ad a.it.Zo),.bool a.ok] false] (fun r' σ' => r' = .tup []∧σ' = [.box [.sl false (L Ah r.p.Zs1.Zu),.sl false (L Al r.p.Zs1.Zv),.sl false (L Aa r.p.Zt1.Zm1),.sl false (L Af r.p.Zt1.Zn1),.sl false (L Aj r.p.Zt1.Zo1),.sl false (L Ai r.p.Zt1.Zp1),.sl false (L Ag r.p.Zu1),.sl false (L Ae r.p.Zv1),.sl false (L Ab r.p.Zw1),i64 r.it.Zb,i64 r.it.Ref.Za,i64 r.it.Ref.No,i64 r.it.Ze,i64 r.it.Zf,i64 r.it.Zg,i64 r.it.Zh,i64 r.it.Zi,i64 r.it.To,i64 r.it.Code,i64 r.it.Zj,i64 r.it.Zk,i64 r.it.Zl,i64 r.it.Zm,.str r.it.Zn,.sl false (L Ad r.it.Zo),.bool r.ok] false]):=by
 refine Co 1 8 [] Tryz.func125 (fun F hE => ?_) h
 unfold Eh
 refine Bd fun c b =>Fe [] (Ao (l:=[]) (m:=[(7,120,[.ref 0 0,.ref 0 20,i64 0,i64 63],[.box [.sl false (L Ah a.p.Zs1.Zu),.sl false (L Al a.p.Zs1.Zv),.sl false (L Aa a.p.Zt1.Zm1),.sl false (L Af a.p.Zt1.Zn1),.sl false (L Aj a.p.Zt1.Zo1),.sl false (L Ai a.p.Zt1.Zp1),.sl false (L Ag a.p.Zu1),.sl false (L Ae a.p.Zv1),.sl false (L Ab a.p.Zw1),i64 a.it.Zb,i64 a.it.Ref.Za,i64 a.it.Ref.No,i64 a.it.Ze,i64 a.it.Zf,i64 a.it.Zg,i64 a.it.Zh,i64 a.it.Zi,i64 a.it.To,i64 a.it.Code,i64 a.it.Zj,i64 a.it.Zk,i64 a.it.Zl,i64 a.it.Zm,.str a.it.Zn,.sl false (L Ad a.it.Zo),.bool a.ok] false],_,_)]) trivial ⟨(wc (J6 b) [0]),trivial⟩) Ev ?_
 exact Ro [0]
theorem Ci {a c r} (h : Bw a c = some r) : Con B 122 [.ref 0 0,i64 c] [.box [.sl false (L Ah a.p.Zs1.Zu),.sl false (L Al a.p.Zs1.Zv),.sl false (L Aa a.p.Zt1.Zm1),.sl false (L Af a.p.Zt1.Zn1),.sl false (L Aj a.p.Zt1.Zo1),.sl false (L Ai a.p.Zt1.Zp1),.sl false (L Ag a.p.Zu1),.sl false (L Ae a.p.Zv1),.sl false (L Ab a.p.Zw1),i64 a.it.Zb,i64 a.it.Ref.Za,i64 a.it.Ref.No,i64 a.it.Ze,i64 a.it.Zf,i64 a.it.Zg,i64 a.it.Zh,i64 a.it.Zi,i64 a.it.To,i64 a.it.Code,i64 a.it.Zj,i64 a.it.Zk,i64 a.it.Zl,i64 a.it.Zm,.str a.it.Zn,.sl false (L Ad a.it.Zo),.bool a.ok] false] (fun r' σ' => r' = .agg [i64 r.1.Zb,i64 r.1.Za,i64 r.1.Zg]∧σ' = [.box [.sl false (L Ah r.2.p.Zs1.Zu),.sl false (L Al r.2.p.Zs1.Zv),.sl false (L Aa r.2.p.Zt1.Zm1),.sl false (L Af r.2.p.Zt1.Zn1),.sl false (L Aj r.2.p.Zt1.Zo1),.sl false (L Ai r.2.p.Zt1.Zp1),.sl false (L Ag r.2.p.Zu1),.sl false (L Ae r.2.p.Zv1),.sl false (L Ab r.2.p.Zw1),i64 r.2.it.Zb,i64 r.2.it.Ref.Za,i64 r.2.it.Ref.No,i64 r.2.it.Ze,i64 r.2.it.Zf,i64 r.2.it.Zg,i64 r.2.it.Zh,i64 r.2.it.Zi,i64 r.2.it.To,i64 r.2.it.Code,i64 r.2.it.Zj,i64 r.2.it.Zk,i64 r.2.it.Zl,i64 r.2.it.Zm,.str r.2.it.Zn,.sl false (L Ad r.2.it.Zo),.bool r.2.ok] false]):=by
 refine Co 1 66 [.cell 4 99] Tryz.func122 (fun F hE => ?_) h
 unfold Bw
 refine T0 [0,1,4] ?_
 refine Ja (fun ⟨e,f,g⟩ => ⟨As 66 [(0,.ref 0 0),(1,i64 c),(4,.ref 1 0)],[.box [.sl false (L Ah a.p.Zs1.Zu),.sl false (L Al a.p.Zs1.Zv),.sl false (L Aa a.p.Zt1.Zm1),.sl false (L Af a.p.Zt1.Zn1),.sl false (L Aj a.p.Zt1.Zo1),.sl false (L Ai a.p.Zt1.Zp1),.sl false (L Ag a.p.Zu1),.sl false (L Ae a.p.Zv1),.sl false (L Ab a.p.Zw1),i64 a.it.Zb,i64 a.it.Ref.Za,i64 a.it.Ref.No,i64 a.it.Ze,i64 a.it.Zf,i64 a.it.Zg,i64 a.it.Zh,i64 a.it.Zi,i64 a.it.To,i64 a.it.Code,i64 a.it.Zj,i64 a.it.Zk,i64 a.it.Zl,i64 a.it.Zm,.str a.it.Zn,.sl false (L Ad a.it.Zo),.bool a.ok] false,.box [i64 e,i64 f,i64 g] false]⟩) ?_ ?_
 ·intro v
  refine Dw [[],[0],[0,1],[0,1,2],[0,1,2,3],[0,1,2,3,4],[0,1,2,3,4,5],[0,1,2,3,4,5,6],[0,1,2,3,4,5,6,7],[0,1,2,3,4,5,6,7,8],[0,1,2,3,4,5,6,7,8,9],[0,1,2,3,4,5,6,7,8,9,10],[0,1,2,3,4,5,6],[0,1,2,3,4,5,6,12],[0,1,2,3,4,5,6,12,13],[0,1,2,3,4,5,6,12,13,14],[0,1,2,3,4,5,6,12,13,14,15],[0,1,2,3,4,5,6,12,13,14,15,16],[0,1,2,3,4,5,6,12,13,14,15,16,17],[0,1,2,3,4,5,6,7,8,9,10,11,12,13,14,15,16,17,18],[0,1,2,3,4,5,6,7,8,9,10,11,12,13,14,15,16,17,18,19]] [0,1,4,25] (fun k => ⟨As 66 [(0,.ref 0 0),(1,i64 c),(4,.ref 1 0),(25,.bool k)],[.box [.sl false (L Ah a.p.Zs1.Zu),.sl false (L Al a.p.Zs1.Zv),.sl false (L Aa a.p.Zt1.Zm1),.sl false (L Af a.p.Zt1.Zn1),.sl false (L Aj a.p.Zt1.Zo1),.sl false (L Ai a.p.Zt1.Zp1),.sl false (L Ag a.p.Zu1),.sl false (L Ae a.p.Zv1),.sl false (L Ab a.p.Zw1),i64 a.it.Zb,i64 a.it.Ref.Za,i64 a.it.Ref.No,i64 a.it.Ze,i64 a.it.Zf,i64 a.it.Zg,i64 a.it.Zh,i64 a.it.Zi,i64 a.it.To,i64 a.it.Code,i64 a.it.Zj,i64 a.it.Zk,i64 a.it.Zl,i64 a.it.Zm,.str a.it.Zn,.sl false (L Ad a.it.Zo),.bool a.ok] false,.box [i64 0,i64 0,i64 0] false]⟩) ?_ ?_
  ·intro _
   refine Sp (fun i => ?_) fun i => ?_
   ·exact Lf Ac (Ev (by simp only [go_sem,i];exact Ak)) (ws [0,1])
   ·exact Lf Ac (Ev (by simp only [go_sem,i];exact Ak)) (ws [0,1])
  intro k
  refine Cd ?_ ?_
  ·refine Ck fun m =>Lt fun n o =>Lt fun q s =>Lt fun t u =>Ge (σ':=[_,.box [i64 n,i64 q,i64 t] false]) [[],[0],[0,1],[0,1,2],[0,1,2,3],[0,1,2,3,4],[],[6],[6,7],[6,7,8],[6,7,8,9],[0,1,2,3,4,5,6,7,8,9,10],[0,1,2,3,4,5,6,7,8,9,10,11],[0,1,2,3,4,5,6,7,8,9,10,11,12]] [0,1,4] Ac (Ev (by simp only [go_sem,qR m,o,s,u];exact Ak)) ?_
   exact Jm (ws [0,1])
  ·exact Sk <|Jm (ws [0,1])
 rintro ⟨e,f,g⟩
 refine Tw [0,4] (fun l => ⟨As 66 [(0,.ref 0 0),(4,.ref 1 0)],[.box [.sl false (L Ah a.p.Zs1.Zu),.sl false (L Al a.p.Zs1.Zv),.sl false (L Aa a.p.Zt1.Zm1),.sl false (L Af a.p.Zt1.Zn1),.sl false (L Aj a.p.Zt1.Zo1),.sl false (L Ai a.p.Zt1.Zp1),.sl false (L Ag a.p.Zu1),.sl false (L Ae a.p.Zv1),.sl false (L Ab a.p.Zw1),i64 a.it.Zb,i64 a.it.Ref.Za,i64 a.it.Ref.No,i64 a.it.Ze,i64 a.it.Zf,i64 a.it.Zg,i64 a.it.Zh,i64 a.it.Zi,i64 a.it.To,i64 a.it.Code,i64 a.it.Zj,i64 a.it.Zk,i64 a.it.Zl,i64 a.it.Zm,.str a.it.Zn,.sl false (L Ad a.it.Zo),.bool l] false,.box [i64 e,i64 f,i64 g] false]⟩) ?_ ?_
 ·intro _
  refine Sp (fun b => ?_) fun b => ?_
  ·refine Sp (fun d => ?_) fun d => ?_
   ·refine Sp (fun j => ?_) fun j => ?_
    ·exact Lf Ac (Ev (by simp only [go_sem,b,d,j];exact Ak)) (ws [0,1])
    ·exact Lf Ac (Ev (by simp only [go_sem,b,d,j];exact Ak)) (ws [0,1])
   ·exact Lf Ac (Ev (by simp only [go_sem,b,d];exact Ak)) (ws [0,1])
  ·exact Lf Ac (Ev (by simp only [go_sem,b];exact Ak)) (ws [0,1])
 intro l
 refine T0 [4] ?_
 refine T0 [4] ?_
 exact Sr <|Ro [0]
theorem Fx {a r} (h : Dx a = some r) : Con B 123 [.ref 0 0] [.box [.sl false (L Ah a.p.Zs1.Zu),.sl false (L Al a.p.Zs1.Zv),.sl false (L Aa a.p.Zt1.Zm1),.sl false (L Af a.p.Zt1.Zn1),.sl false (L Aj a.p.Zt1.Zo1),.sl false (L Ai a.p.Zt1.Zp1),.sl false (L Ag a.p.Zu1),.sl false (L Ae a.p.Zv1),.sl false (L Ab a.p.Zw1),i64 a.it.Zb,i64 a.it.Ref.Za,i64 a.it.Ref.No,i64 a.it.Ze,i64 a.it.Zf,i64 a.it.Zg,i64 a.it.Zh,i64 a.it.Zi,i64 a.it.To,i64 a.it.Code,i64 a.it.Zj,i64 a.it.Zk,i64 a.it.Zl,i64 a.it.Zm,.str a.it.Zn,.sl false (L Ad a.it.Zo),.bool a.ok] false] (fun r' σ' => r' = .tup []∧σ' = [.box [.sl false (L Ah r.p.Zs1.Zu),.sl false (L Al r.p.Zs1.Zv),.sl false (L Aa r.p.Zt1.Zm1),.sl false (L Af r.p.Zt1.Zn1),.sl false (L Aj r.p.Zt1.Zo1),.sl false (L Ai r.p.Zt1.Zp1),.sl false (L Ag r.p.Zu1),.sl false (L Ae r.p.Zv1),.sl false (L Ab r.p.Zw1),i64 r.it.Zb,i64 r.it.Ref.Za,i64 r.it.Ref.No,i64 r.it.Ze,i64 r.it.Zf,i64 r.it.Zg,i64 r.it.Zh,i64 r.it.Zi,i64 r.it.To,i64 r.it.Code,i64 r.it.Zj,i64 r.it.Zk,i64 r.it.Zl,i64 r.it.Zm,.str r.it.Zn,.sl false (L Ad r.it.Zo),.bool r.ok] false]):=by
 refine Co 1 16 [] Tryz.func123 (fun F hE => ?_) h
 unfold Dx
 refine Bd fun b c =>De [[],[],[1],[1,2],[1,2,3],[],[5],[5,6],[5,6,7],[5,6,7,8],[5,6,7,8,9],[0,1,2,3,4,5,6,7,8,9,10]] [0] (Ao (l:=[]) (m:=[(13,120,[.ref 0 0,.ref 0 17,i64 (AcT a.it.Zi 0),i64 1073741824],[.box [.sl false (L Ah a.p.Zs1.Zu),.sl false (L Al a.p.Zs1.Zv),.sl false (L Aa a.p.Zt1.Zm1),.sl false (L Af a.p.Zt1.Zn1),.sl false (L Aj a.p.Zt1.Zo1),.sl false (L Ai a.p.Zt1.Zp1),.sl false (L Ag a.p.Zu1),.sl false (L Ae a.p.Zv1),.sl false (L Ab a.p.Zw1),i64 a.it.Zb,i64 a.it.Ref.Za,i64 a.it.Ref.No,i64 a.it.Ze,i64 a.it.Zf,i64 a.it.Zg,i64 a.it.Zh,i64 a.it.Zi,i64 a.it.To,i64 a.it.Code,i64 a.it.Zj,i64 a.it.Zk,i64 a.it.Zl,i64 a.it.Zm,.str a.it.Zn,.sl false (L Ad a.it.Zo),.bool a.ok] false],_,_)]) trivial ⟨(wc (Jz c) [0]),trivial⟩) Ev ?_
 refine Bd fun e d =>Fe [] (Ao (l:=[]) (m:=[(15,121,[.ref 0 0],[.box [.sl false (L Ah b.p.Zs1.Zu),.sl false (L Al b.p.Zs1.Zv),.sl false (L Aa b.p.Zt1.Zm1),.sl false (L Af b.p.Zt1.Zn1),.sl false (L Aj b.p.Zt1.Zo1),.sl false (L Ai b.p.Zt1.Zp1),.sl false (L Ag b.p.Zu1),.sl false (L Ae b.p.Zv1),.sl false (L Ab b.p.Zw1),i64 b.it.Zb,i64 b.it.Ref.Za,i64 b.it.Ref.No,i64 b.it.Ze,i64 b.it.Zf,i64 b.it.Zg,i64 b.it.Zh,i64 b.it.Zi,i64 b.it.To,i64 b.it.Code,i64 b.it.Zj,i64 b.it.Zk,i64 b.it.Zl,i64 b.it.Zm,.str b.it.Zn,.sl false (L Ad b.it.Zo),.bool b.ok] false],_,_)]) trivial ⟨(wc (Cc d) [0]),trivial⟩) Ev ?_
 exact Ro [0]
theorem Kv {b r} (h : Dj b = some r) : Con B 85 [.ref 0 0] [.box [.sl false (L Ah b.p.Zs1.Zu),.sl false (L Al b.p.Zs1.Zv),.sl false (L Aa b.p.Zt1.Zm1),.sl false (L Af b.p.Zt1.Zn1),.sl false (L Aj b.p.Zt1.Zo1),.sl false (L Ai b.p.Zt1.Zp1),.sl false (L Ag b.p.Zu1),.sl false (L Ae b.p.Zv1),.sl false (L Ab b.p.Zw1),i64 b.it.Zb,i64 b.it.Ref.Za,i64 b.it.Ref.No,i64 b.it.Ze,i64 b.it.Zf,i64 b.it.Zg,i64 b.it.Zh,i64 b.it.Zi,i64 b.it.To,i64 b.it.Code,i64 b.it.Zj,i64 b.it.Zk,i64 b.it.Zl,i64 b.it.Zm,.str b.it.Zn,.sl false (L Ad b.it.Zo),.bool b.ok] false] (fun r' σ' => r' = .tup []∧σ' = [.box [.sl false (L Ah r.p.Zs1.Zu),.sl false (L Al r.p.Zs1.Zv),.sl false (L Aa r.p.Zt1.Zm1),.sl false (L Af r.p.Zt1.Zn1),.sl false (L Aj r.p.Zt1.Zo1),.sl false (L Ai r.p.Zt1.Zp1),.sl false (L Ag r.p.Zu1),.sl false (L Ae r.p.Zv1),.sl false (L Ab r.p.Zw1),i64 r.it.Zb,i64 r.it.Ref.Za,i64 r.it.Ref.No,i64 r.it.Ze,i64 r.it.Zf,i64 r.it.Zg,i64 r.it.Zh,i64 r.it.Zi,i64 r.it.To,i64 r.it.Code,i64 r.it.Zj,i64 r.it.Zk,i64 r.it.Zl,i64 r.it.Zm,.str r.it.Zn,.sl false (L Ad r.it.Zo),.bool r.ok] false]):=by
 refine Co 1 135 [] Tryz.func85 (fun F hE => ?_) h
 unfold Dj
 refine T0 [0,2] ?_
 refine Sq <|T0 [0,2,11] ?_
 refine Cd ?_ ?_
 ·refine T0 [] ?_
  exact Sr <|Tr <|Ro [0]
 ·refine Sk <|Tn <|Bd fun a z =>Te [0,2] (Ao (l:=[]) (m:=[(16,119,[.ref 0 0],[.box [.sl false (L Ah b.p.Zs1.Zu),.sl false (L Al b.p.Zs1.Zv),.sl false (L Aa b.p.Zt1.Zm1),.sl false (L Af b.p.Zt1.Zn1),.sl false (L Aj b.p.Zt1.Zo1),.sl false (L Ai b.p.Zt1.Zp1),.sl false (L Ag b.p.Zu1),.sl false (L Ae b.p.Zv1),.sl false (L Ab b.p.Zw1),i64 b.it.Zb,i64 b.it.Ref.Za,i64 b.it.Ref.No,i64 b.it.Ze,i64 b.it.Zf,i64 b.it.Zg,i64 b.it.Zh,i64 b.it.Zi,i64 b.it.To,i64 b.it.Code,i64 b.it.Zj,i64 b.it.Zk,i64 b.it.Zl,i64 b.it.Zm,.str b.it.Zn,.sl false (L Ad b.it.Zo),.bool b.ok] false],_,_)]) trivial ⟨(wc (Fd z) [0]),trivial⟩) Ev ?_
  refine T0 [0,2,20] ?_
  refine Sb <|T0 [0,2,20,21] ?_
  refine Cd ?_ ?_
  ·refine Bd fun e aa =>De [[],[],[1],[1,2],[],[4],[4,5],[4,5,6],[4,5,6,7],[4,5,6,7,8],[4,5,6,7,8,9],[0,1,2,3,4,5,6,7,8,9,10]] [0] (Ao (l:=[]) (m:=[(34,120,[.ref 0 0,.ref 0 14,i64 0,i64 (w64 ((a.p.Zu1.length : Int) - 1))],[.box [.sl false (L Ah a.p.Zs1.Zu),.sl false (L Al a.p.Zs1.Zv),.sl false (L Aa a.p.Zt1.Zm1),.sl false (L Af a.p.Zt1.Zn1),.sl false (L Aj a.p.Zt1.Zo1),.sl false (L Ai a.p.Zt1.Zp1),.sl false (L Ag a.p.Zu1),.sl false (L Ae a.p.Zv1),.sl false (L Ab a.p.Zw1),i64 a.it.Zb,i64 a.it.Ref.Za,i64 a.it.Ref.No,i64 a.it.Ze,i64 a.it.Zf,i64 a.it.Zg,i64 a.it.Zh,i64 a.it.Zi,i64 a.it.To,i64 a.it.Code,i64 a.it.Zj,i64 a.it.Zk,i64 a.it.Zl,i64 a.it.Zm,.str a.it.Zn,.sl false (L Ad a.it.Zo),.bool a.ok] false],_,_)]) trivial ⟨(wc (D5 aa) [0]),trivial⟩) Ev ?_
   refine Bd fun au ab =>Fe [] (Ao (l:=[]) (m:=[(36,121,[.ref 0 0],[.box [.sl false (L Ah e.p.Zs1.Zu),.sl false (L Al e.p.Zs1.Zv),.sl false (L Aa e.p.Zt1.Zm1),.sl false (L Af e.p.Zt1.Zn1),.sl false (L Aj e.p.Zt1.Zo1),.sl false (L Ai e.p.Zt1.Zp1),.sl false (L Ag e.p.Zu1),.sl false (L Ae e.p.Zv1),.sl false (L Ab e.p.Zw1),i64 e.it.Zb,i64 e.it.Ref.Za,i64 e.it.Ref.No,i64 e.it.Ze,i64 e.it.Zf,i64 e.it.Zg,i64 e.it.Zh,i64 e.it.Zi,i64 e.it.To,i64 e.it.Code,i64 e.it.Zj,i64 e.it.Zk,i64 e.it.Zl,i64 e.it.Zm,.str e.it.Zn,.sl false (L Ad e.it.Zo),.bool e.ok] false],_,_)]) trivial ⟨(wc (Cc ab) [0]),trivial⟩) Ev ?_
   exact Bn <|Ro [0]
  ·refine T0 [0,2,20,37] ?_
   refine Cd ?_ ?_
   ·refine Bd fun f ac =>Te [0] (Ao (l:=[]) (m:=[(40,122,[.ref 0 0,i64 0],[.box [.sl false (L Ah a.p.Zs1.Zu),.sl false (L Al a.p.Zs1.Zv),.sl false (L Aa a.p.Zt1.Zm1),.sl false (L Af a.p.Zt1.Zn1),.sl false (L Aj a.p.Zt1.Zo1),.sl false (L Ai a.p.Zt1.Zp1),.sl false (L Ag a.p.Zu1),.sl false (L Ae a.p.Zv1),.sl false (L Ab a.p.Zw1),i64 a.it.Zb,i64 a.it.Ref.Za,i64 a.it.Ref.No,i64 a.it.Ze,i64 a.it.Zf,i64 a.it.Zg,i64 a.it.Zh,i64 a.it.Zi,i64 a.it.To,i64 a.it.Code,i64 a.it.Zj,i64 a.it.Zk,i64 a.it.Zl,i64 a.it.Zm,.str a.it.Zn,.sl false (L Ad a.it.Zo),.bool a.ok] false],_,_)]) trivial ⟨(wc (Ci ac) [0]),trivial⟩) Ev ?_
    refine Bd fun av ad =>Fe [] (Ao (l:=[]) (m:=[(42,123,[.ref 0 0],[.box [.sl false (L Ah f.2.p.Zs1.Zu),.sl false (L Al f.2.p.Zs1.Zv),.sl false (L Aa f.2.p.Zt1.Zm1),.sl false (L Af f.2.p.Zt1.Zn1),.sl false (L Aj f.2.p.Zt1.Zo1),.sl false (L Ai f.2.p.Zt1.Zp1),.sl false (L Ag f.2.p.Zu1),.sl false (L Ae f.2.p.Zv1),.sl false (L Ab f.2.p.Zw1),i64 f.2.it.Zb,i64 f.2.it.Ref.Za,i64 f.2.it.Ref.No,i64 f.2.it.Ze,i64 f.2.it.Zf,i64 f.2.it.Zg,i64 f.2.it.Zh,i64 f.2.it.Zi,i64 f.2.it.To,i64 f.2.it.Code,i64 f.2.it.Zj,i64 f.2.it.Zk,i64 f.2.it.Zl,i64 f.2.it.Zm,.str f.2.it.Zn,.sl false (L Ad f.2.it.Zo),.bool f.2.ok] false],_,_)]) trivial ⟨(wc (Fx ad) [0]),trivial⟩) Ev ?_
    exact Bn <|Ro [0]
   ·refine Ja (fun x => ⟨As 135 [(0,.ref 0 0),(2,.ref 0 9),(20,i64 a.it.Zb),(43,.bool x)],[.box [.sl false (L Ah a.p.Zs1.Zu),.sl false (L Al a.p.Zs1.Zv),.sl false (L Aa a.p.Zt1.Zm1),.sl false (L Af a.p.Zt1.Zn1),.sl false (L Aj a.p.Zt1.Zo1),.sl false (L Ai a.p.Zt1.Zp1),.sl false (L Ag a.p.Zu1),.sl false (L Ae a.p.Zv1),.sl false (L Ab a.p.Zw1),i64 a.it.Zb,i64 a.it.Ref.Za,i64 a.it.Ref.No,i64 a.it.Ze,i64 a.it.Zf,i64 a.it.Zg,i64 a.it.Zh,i64 a.it.Zi,i64 a.it.To,i64 a.it.Code,i64 a.it.Zj,i64 a.it.Zk,i64 a.it.Zl,i64 a.it.Zm,.str a.it.Zn,.sl false (L Ad a.it.Zo),.bool a.ok] false]⟩) ?_ ?_
    ·intro aw
     refine T0 [0,2,20,43] ?_
     refine Cd ?_ ?_
     ·exact Sk <|Jm (ws [0])
     ·refine F0 [0,2,20,43] ?_
      exact Jm (ws [0])
    intro x
    refine Cd ?_ ?_
    ·refine Bd fun c ae =>Te [0,2,3] (Ao (l:=[]) (m:=[(47,122,[.ref 0 0,i64 3],[.box [.sl false (L Ah a.p.Zs1.Zu),.sl false (L Al a.p.Zs1.Zv),.sl false (L Aa a.p.Zt1.Zm1),.sl false (L Af a.p.Zt1.Zn1),.sl false (L Aj a.p.Zt1.Zo1),.sl false (L Ai a.p.Zt1.Zp1),.sl false (L Ag a.p.Zu1),.sl false (L Ae a.p.Zv1),.sl false (L Ab a.p.Zw1),i64 a.it.Zb,i64 a.it.Ref.Za,i64 a.it.Ref.No,i64 a.it.Ze,i64 a.it.Zf,i64 a.it.Zg,i64 a.it.Zh,i64 a.it.Zi,i64 a.it.To,i64 a.it.Code,i64 a.it.Zj,i64 a.it.Zk,i64 a.it.Zl,i64 a.it.Zm,.str a.it.Zn,.sl false (L Ad a.it.Zo),.bool a.ok] false],_,_)]) trivial ⟨(wc (Ci ae) [0]),trivial⟩) Ev ?_
     refine Dw [[],[],[1],[1,2],[1,2,3],[1,2,3,4],[1,2,3,4,5],[1,2,3,4,5,6],[1,2,3,4,5,6,7],[1,2,3,4,5,6,7,8],[1,2,3,4,5],[1,2,3,4,5,10],[1,2,3,4,5,6,7,8,9,10,11],[1,2,3,4,5,6,7,8,9,10,11,12],[1,2,3,4,5,6,7,8,9,10,11,12,13],[1,2,3,4,5,6,7,8,9,10,11,12,13,14],[1,2,3,4,5,6,7,8,9,10,11,12,13,14,15],[1,2,3,4,5,6,7,8,9,10,11,12,13,14,15,16],[1,2,3,4,5,6,7,8,9,10,11,12,13],[1,2,3,4,5,6,7,8,9,10,11,12,13,18],[1,2,3,4,5,6,7,8,9,10,11,12,13,14,15,16,17,18,19],[1,2,3,4,5,6,7,8,9,10,11,12,13,14,15,16,17,18,19,20],[1,2,3,4,5,6,7,8,9,10,11,12,13,14,15,16,17,18,19,20,21],[0,1,2,3,4,5,6,7,8,9,10,11,12,13,14,15,16,17,18,19,20,21,22],[0,1,2,3,4,5,6,7,8,9,10,11,12,13,14,15,16,17,18,19,20,21,22,23],[0,1,2,3,4,5,6,7,8,9,10,11,12,13,14,15,16,17,18,19,20,21,22,23,24]] [0,2] (fun v => ⟨As 135 [(0,.ref 0 0),(2,.ref 0 9)],[.box [.sl false (L Ah c.2.p.Zs1.Zu),.sl false (L Al c.2.p.Zs1.Zv),.sl false (L Aa c.2.p.Zt1.Zm1),.sl false (L Af c.2.p.Zt1.Zn1),.sl false (L Aj c.2.p.Zt1.Zo1),.sl false (L Ai c.2.p.Zt1.Zp1),.sl false (L Ag c.2.p.Zu1),.sl false (L Ae c.2.p.Zv1),.sl false (L Ab c.2.p.Zw1),i64 c.2.it.Zb,i64 c.2.it.Ref.Za,i64 c.2.it.Ref.No,i64 c.2.it.Ze,i64 c.2.it.Zf,i64 c.2.it.Zg,i64 c.2.it.Zh,i64 c.2.it.Zi,i64 c.2.it.To,i64 c.2.it.Code,i64 c.2.it.Zj,i64 c.2.it.Zk,i64 c.2.it.Zl,i64 c.2.it.Zm,.str c.2.it.Zn,.sl false (L Ad c.2.it.Zo),.bool v] false]⟩) ?_ ?_
     ·intro _
      refine Sp (fun u => ?_) fun u => ?_
      ·refine Sp (fun w => ?_) fun w => ?_
       ·exact Lf Ac (Ev (by simp only [go_sem,u,w];exact Ak)) (ws [0])
       ·exact Lf Ac (Ev (by simp only [go_sem,u,w];exact Ak)) (ws [0])
      ·exact Lf Ac (Ev (by simp only [go_sem,u];exact Ak)) (ws [0])
     intro v
     refine T0 [0,2] ?_
     refine Bd fun g af =>Te [0,2] (Ao (l:=[]) (m:=[(77,121,[.ref 0 0],[.box [.sl false (L Ah c.2.p.Zs1.Zu),.sl false (L Al c.2.p.Zs1.Zv),.sl false (L Aa c.2.p.Zt1.Zm1),.sl false (L Af c.2.p.Zt1.Zn1),.sl false (L Aj c.2.p.Zt1.Zo1),.sl false (L Ai c.2.p.Zt1.Zp1),.sl false (L Ag c.2.p.Zu1),.sl false (L Ae c.2.p.Zv1),.sl false (L Ab c.2.p.Zw1),i64 c.2.it.Zb,i64 c.2.it.Ref.Za,i64 c.2.it.Ref.No,i64 c.2.it.Ze,i64 c.2.it.Zf,i64 0,i64 c.2.it.Zh,i64 c.2.it.Zi,i64 c.2.it.To,i64 c.2.it.Code,i64 c.2.it.Zj,i64 c.2.it.Zk,i64 c.2.it.Zl,i64 c.2.it.Zm,.str c.2.it.Zn,.sl false (L Ad c.2.it.Zo),.bool v] false],_,_)]) trivial ⟨(wc (Cc af) [0]),trivial⟩) Ev ?_
     refine Bd fun ax ag =>Fe [] (Ao (l:=[]) (m:=[(82,120,[.ref 0 0,.ref 0 18,i64 0,i64 8],[.box [.sl false (L Ah g.p.Zs1.Zu),.sl false (L Al g.p.Zs1.Zv),.sl false (L Aa g.p.Zt1.Zm1),.sl false (L Af g.p.Zt1.Zn1),.sl false (L Aj g.p.Zt1.Zo1),.sl false (L Ai g.p.Zt1.Zp1),.sl false (L Ag g.p.Zu1),.sl false (L Ae g.p.Zv1),.sl false (L Ab g.p.Zw1),i64 g.it.Zb,i64 g.it.Ref.Za,i64 g.it.Ref.No,i64 g.it.Ze,i64 g.it.Zf,i64 g.it.Zg,i64 g.it.Zh,i64 g.it.Zi,i64 g.it.To,i64 g.it.Code,i64 g.it.Zj,i64 g.it.Zk,i64 g.it.Zl,i64 g.it.Zm,.str g.it.Zn,.sl false (L Ad g.it.Zo),.bool g.ok] false],_,_)]) trivial ⟨(wc (C2 ag) [0]),trivial⟩) Ev ?_
     exact Bn <|Ro [0]
    ·refine T0 [0,2,20,83] ?_
     refine Cd ?_ ?_
     ·refine Bd fun i ah =>Te [0,2] (Ao (l:=[]) (m:=[(89,120,[.ref 0 0,.ref 0 15,i64 1,i64 1000000000],[.box [.sl false (L Ah a.p.Zs1.Zu),.sl false (L Al a.p.Zs1.Zv),.sl false (L Aa a.p.Zt1.Zm1),.sl false (L Af a.p.Zt1.Zn1),.sl false (L Aj a.p.Zt1.Zo1),.sl false (L Ai a.p.Zt1.Zp1),.sl false (L Ag a.p.Zu1),.sl false (L Ae a.p.Zv1),.sl false (L Ab a.p.Zw1),i64 a.it.Zb,i64 a.it.Ref.Za,i64 a.it.Ref.No,i64 a.it.Ze,i64 a.it.Zf,i64 a.it.Zg,i64 a.it.Zh,i64 a.it.Zi,i64 a.it.To,i64 a.it.Code,i64 a.it.Zj,i64 a.it.Zk,i64 a.it.Zl,i64 a.it.Zm,.str a.it.Zn,.sl false (L Ad a.it.Zo),.bool a.ok] false],_,_)]) trivial ⟨(wc (D4 ah) [0]),trivial⟩) Ev ?_
      refine Bd fun j ai =>Te [0,2] (Ao (l:=[]) (m:=[(91,124,[.ref 0 0],[.box [.sl false (L Ah i.p.Zs1.Zu),.sl false (L Al i.p.Zs1.Zv),.sl false (L Aa i.p.Zt1.Zm1),.sl false (L Af i.p.Zt1.Zn1),.sl false (L Aj i.p.Zt1.Zo1),.sl false (L Ai i.p.Zt1.Zp1),.sl false (L Ag i.p.Zu1),.sl false (L Ae i.p.Zv1),.sl false (L Ab i.p.Zw1),i64 i.it.Zb,i64 i.it.Ref.Za,i64 i.it.Ref.No,i64 i.it.Ze,i64 i.it.Zf,i64 i.it.Zg,i64 i.it.Zh,i64 i.it.Zi,i64 i.it.To,i64 i.it.Code,i64 i.it.Zj,i64 i.it.Zk,i64 i.it.Zl,i64 i.it.Zm,.str i.it.Zn,.sl false (L Ad i.it.Zo),.bool i.ok] false],_,_)]) trivial ⟨(wc (Em ai) [0]),trivial⟩) Ev ?_
      refine Bd fun d aj =>Te [0,2] (Ao (l:=[]) (m:=[(93,122,[.ref 0 0,i64 0],[.box [.sl false (L Ah j.p.Zs1.Zu),.sl false (L Al j.p.Zs1.Zv),.sl false (L Aa j.p.Zt1.Zm1),.sl false (L Af j.p.Zt1.Zn1),.sl false (L Aj j.p.Zt1.Zo1),.sl false (L Ai j.p.Zt1.Zp1),.sl false (L Ag j.p.Zu1),.sl false (L Ae j.p.Zv1),.sl false (L Ab j.p.Zw1),i64 j.it.Zb,i64 j.it.Ref.Za,i64 j.it.Ref.No,i64 j.it.Ze,i64 j.it.Zf,i64 j.it.Zg,i64 j.it.Zh,i64 j.it.Zi,i64 j.it.To,i64 j.it.Code,i64 j.it.Zj,i64 j.it.Zk,i64 j.it.Zl,i64 j.it.Zm,.str j.it.Zn,.sl false (L Ad j.it.Zo),.bool j.ok] false],_,_)]) trivial ⟨(wc (Ci aj) [0]),trivial⟩) Ev ?_
      refine Bd fun k ak =>De [[],[],[1],[1,2],[],[4],[4,5],[4,5,6],[4,5,6,7],[4,5,6,7,8],[4,5,6,7,8,9],[4,5,6,7,8,9,10],[0,1,2,3,4,5,6,7,8,9,10,11]] [0,2] (Ao (l:=[]) (m:=[(106,120,[.ref 0 0,.ref 0 19,i64 0,i64 (w64 ((d.2.p.Zs1.Zu.length : Int) - 1))],[.box [.sl false (L Ah d.2.p.Zs1.Zu),.sl false (L Al d.2.p.Zs1.Zv),.sl false (L Aa d.2.p.Zt1.Zm1),.sl false (L Af d.2.p.Zt1.Zn1),.sl false (L Aj d.2.p.Zt1.Zo1),.sl false (L Ai d.2.p.Zt1.Zp1),.sl false (L Ag d.2.p.Zu1),.sl false (L Ae d.2.p.Zv1),.sl false (L Ab d.2.p.Zw1),i64 d.2.it.Zb,i64 d.2.it.Ref.Za,i64 d.2.it.Ref.No,i64 d.2.it.Ze,i64 d.2.it.Zf,i64 d.2.it.Zg,i64 d.2.it.Zh,i64 d.2.it.Zi,i64 d.2.it.To,i64 d.2.it.Code,i64 d.2.it.Zj,i64 d.2.it.Zk,i64 d.2.it.Zl,i64 d.2.it.Zm,.str d.2.it.Zn,.sl false (L Ad d.2.it.Zo),.bool d.2.ok] false],_,_)]) trivial ⟨(wc (Js ak) [0]),trivial⟩) Ev ?_
      refine Bd fun n al =>Te [0,2] (Ao (l:=[]) (m:=[(108,125,[.ref 0 0],[.box [.sl false (L Ah k.p.Zs1.Zu),.sl false (L Al k.p.Zs1.Zv),.sl false (L Aa k.p.Zt1.Zm1),.sl false (L Af k.p.Zt1.Zn1),.sl false (L Aj k.p.Zt1.Zo1),.sl false (L Ai k.p.Zt1.Zp1),.sl false (L Ag k.p.Zu1),.sl false (L Ae k.p.Zv1),.sl false (L Ab k.p.Zw1),i64 k.it.Zb,i64 k.it.Ref.Za,i64 k.it.Ref.No,i64 k.it.Ze,i64 k.it.Zf,i64 k.it.Zg,i64 k.it.Zh,i64 k.it.Zi,i64 k.it.To,i64 k.it.Code,i64 k.it.Zj,i64 k.it.Zk,i64 k.it.Zl,i64 k.it.Zm,.str k.it.Zn,.sl false (L Ad k.it.Zo),.bool k.ok] false],_,_)]) trivial ⟨(wc (Hq al) [0]),trivial⟩) Ev ?_
      refine Bd fun o am =>Te [0] (Ao (l:=[]) (m:=[(113,120,[.ref 0 0,.ref 0 21,i64 0,i64 1000000],[.box [.sl false (L Ah n.p.Zs1.Zu),.sl false (L Al n.p.Zs1.Zv),.sl false (L Aa n.p.Zt1.Zm1),.sl false (L Af n.p.Zt1.Zn1),.sl false (L Aj n.p.Zt1.Zo1),.sl false (L Ai n.p.Zt1.Zp1),.sl false (L Ag n.p.Zu1),.sl false (L Ae n.p.Zv1),.sl false (L Ab n.p.Zw1),i64 n.it.Zb,i64 n.it.Ref.Za,i64 n.it.Ref.No,i64 n.it.Ze,i64 n.it.Zf,i64 n.it.Zg,i64 n.it.Zh,i64 n.it.Zi,i64 n.it.To,i64 n.it.Code,i64 n.it.Zj,i64 n.it.Zk,i64 n.it.Zl,i64 n.it.Zm,.str n.it.Zn,.sl false (L Ad n.it.Zo),.bool n.ok] false],_,_)]) trivial ⟨(wc (F7 am) [0]),trivial⟩) Ev ?_
      refine Bd fun ay an =>Fe [] (Ao (l:=[]) (m:=[(115,121,[.ref 0 0],[.box [.sl false (L Ah o.p.Zs1.Zu),.sl false (L Al o.p.Zs1.Zv),.sl false (L Aa o.p.Zt1.Zm1),.sl false (L Af o.p.Zt1.Zn1),.sl false (L Aj o.p.Zt1.Zo1),.sl false (L Ai o.p.Zt1.Zp1),.sl false (L Ag o.p.Zu1),.sl false (L Ae o.p.Zv1),.sl false (L Ab o.p.Zw1),i64 o.it.Zb,i64 o.it.Ref.Za,i64 o.it.Ref.No,i64 o.it.Ze,i64 o.it.Zf,i64 o.it.Zg,i64 o.it.Zh,i64 o.it.Zi,i64 o.it.To,i64 o.it.Code,i64 o.it.Zj,i64 o.it.Zk,i64 o.it.Zl,i64 o.it.Zm,.str o.it.Zn,.sl false (L Ad o.it.Zo),.bool o.ok] false],_,_)]) trivial ⟨(wc (Cc an) [0]),trivial⟩) Ev ?_
      exact Bn <|Ro [0]
     ·refine Ja (fun y => ⟨As 135 [(0,.ref 0 0),(2,.ref 0 9),(116,.bool y)],[.box [.sl false (L Ah a.p.Zs1.Zu),.sl false (L Al a.p.Zs1.Zv),.sl false (L Aa a.p.Zt1.Zm1),.sl false (L Af a.p.Zt1.Zn1),.sl false (L Aj a.p.Zt1.Zo1),.sl false (L Ai a.p.Zt1.Zp1),.sl false (L Ag a.p.Zu1),.sl false (L Ae a.p.Zv1),.sl false (L Ab a.p.Zw1),i64 a.it.Zb,i64 a.it.Ref.Za,i64 a.it.Ref.No,i64 a.it.Ze,i64 a.it.Zf,i64 a.it.Zg,i64 a.it.Zh,i64 a.it.Zi,i64 a.it.To,i64 a.it.Code,i64 a.it.Zj,i64 a.it.Zk,i64 a.it.Zl,i64 a.it.Zm,.str a.it.Zn,.sl false (L Ad a.it.Zo),.bool a.ok] false]⟩) ?_ ?_
      ·intro az
       refine T0 [0,2,20,116] ?_
       refine Cd ?_ ?_
       ·exact Sk <|Jm (ws [0])
       ·refine F0 [0,2,116] ?_
        exact Jm (ws [0])
      intro y
      refine Cd ?_ ?_
      ·refine Bd fun q ao =>Te [0,2] (Ao (l:=[]) (m:=[(120,122,[.ref 0 0,i64 0],[.box [.sl false (L Ah a.p.Zs1.Zu),.sl false (L Al a.p.Zs1.Zv),.sl false (L Aa a.p.Zt1.Zm1),.sl false (L Af a.p.Zt1.Zn1),.sl false (L Aj a.p.Zt1.Zo1),.sl false (L Ai a.p.Zt1.Zp1),.sl false (L Ag a.p.Zu1),.sl false (L Ae a.p.Zv1),.sl false (L Ab a.p.Zw1),i64 a.it.Zb,i64 a.it.Ref.Za,i64 a.it.Ref.No,i64 a.it.Ze,i64 a.it.Zf,i64 a.it.Zg,i64 a.it.Zh,i64 a.it.Zi,i64 a.it.To,i64 a.it.Code,i64 a.it.Zj,i64 a.it.Zk,i64 a.it.Zl,i64 a.it.Zm,.str a.it.Zn,.sl false (L Ad a.it.Zo),.bool a.ok] false],_,_)]) trivial ⟨(wc (Ci ao) [0]),trivial⟩) Ev ?_
       refine Bd fun s ap =>Te [0,2] (Ao (l:=[]) (m:=[(122,124,[.ref 0 0],[.box [.sl false (L Ah q.2.p.Zs1.Zu),.sl false (L Al q.2.p.Zs1.Zv),.sl false (L Aa q.2.p.Zt1.Zm1),.sl false (L Af q.2.p.Zt1.Zn1),.sl false (L Aj q.2.p.Zt1.Zo1),.sl false (L Ai q.2.p.Zt1.Zp1),.sl false (L Ag q.2.p.Zu1),.sl false (L Ae q.2.p.Zv1),.sl false (L Ab q.2.p.Zw1),i64 q.2.it.Zb,i64 q.2.it.Ref.Za,i64 q.2.it.Ref.No,i64 q.2.it.Ze,i64 q.2.it.Zf,i64 q.2.it.Zg,i64 q.2.it.Zh,i64 q.2.it.Zi,i64 q.2.it.To,i64 q.2.it.Code,i64 q.2.it.Zj,i64 q.2.it.Zk,i64 q.2.it.Zl,i64 q.2.it.Zm,.str q.2.it.Zn,.sl false (L Ad q.2.it.Zo),.bool q.2.ok] false],_,_)]) trivial ⟨(wc (Em ap) [0]),trivial⟩) Ev ?_
       refine Bd fun t aq =>Te [0,2] (Ao (l:=[]) (m:=[(124,121,[.ref 0 0],[.box [.sl false (L Ah s.p.Zs1.Zu),.sl false (L Al s.p.Zs1.Zv),.sl false (L Aa s.p.Zt1.Zm1),.sl false (L Af s.p.Zt1.Zn1),.sl false (L Aj s.p.Zt1.Zo1),.sl false (L Ai s.p.Zt1.Zp1),.sl false (L Ag s.p.Zu1),.sl false (L Ae s.p.Zv1),.sl false (L Ab s.p.Zw1),i64 s.it.Zb,i64 s.it.Ref.Za,i64 s.it.Ref.No,i64 s.it.Ze,i64 s.it.Zf,i64 s.it.Zg,i64 s.it.Zh,i64 s.it.Zi,i64 s.it.To,i64 s.it.Code,i64 s.it.Zj,i64 s.it.Zk,i64 s.it.Zl,i64 s.it.Zm,.str s.it.Zn,.sl false (L Ad s.it.Zo),.bool s.ok] false],_,_)]) trivial ⟨(wc (Cc aq) [0]),trivial⟩) Ev ?_
       refine T0 [0,2,129] ?_
       refine Cd ?_ ?_
       ·refine Bd fun aA ar =>Fe [] (Ao (l:=[]) (m:=[(134,120,[.ref 0 0,.ref 0 18,i64 0,i64 1],[.box [.sl false (L Ah t.p.Zs1.Zu),.sl false (L Al t.p.Zs1.Zv),.sl false (L Aa t.p.Zt1.Zm1),.sl false (L Af t.p.Zt1.Zn1),.sl false (L Aj t.p.Zt1.Zo1),.sl false (L Ai t.p.Zt1.Zp1),.sl false (L Ag t.p.Zu1),.sl false (L Ae t.p.Zv1),.sl false (L Ab t.p.Zw1),i64 t.it.Zb,i64 t.it.Ref.Za,i64 t.it.Ref.No,i64 t.it.Ze,i64 t.it.Zf,i64 t.it.Zg,i64 t.it.Zh,i64 t.it.Zi,i64 t.it.To,i64 t.it.Code,i64 t.it.Zj,i64 t.it.Zk,i64 t.it.Zl,i64 t.it.Zm,.str t.it.Zn,.sl false (L Ad t.it.Zo),.bool t.ok] false],_,_)]) trivial ⟨(wc (C2 ar) [0]),trivial⟩) Ev ?_
        exact Bn <|Ro [0]
       ·exact Sk <|Bn <|Ro [0]
      ·exact Sk <|Bn <|Ro [0]
theorem Mn {a r} (h : Eg a = some r) : Con B 86 [.ref 0 0] [.box [.sl false (L Ah a.p.Zs1.Zu),.sl false (L Al a.p.Zs1.Zv),.sl false (L Aa a.p.Zt1.Zm1),.sl false (L Af a.p.Zt1.Zn1),.sl false (L Aj a.p.Zt1.Zo1),.sl false (L Ai a.p.Zt1.Zp1),.sl false (L Ag a.p.Zu1),.sl false (L Ae a.p.Zv1),.sl false (L Ab a.p.Zw1),i64 a.it.Zb,i64 a.it.Ref.Za,i64 a.it.Ref.No,i64 a.it.Ze,i64 a.it.Zf,i64 a.it.Zg,i64 a.it.Zh,i64 a.it.Zi,i64 a.it.To,i64 a.it.Code,i64 a.it.Zj,i64 a.it.Zk,i64 a.it.Zl,i64 a.it.Zm,.str a.it.Zn,.sl false (L Ad a.it.Zo),.bool a.ok] false] (fun r' σ' => r' = .tup []∧σ' = [.box [.sl false (L Ah r.p.Zs1.Zu),.sl false (L Al r.p.Zs1.Zv),.sl false (L Aa r.p.Zt1.Zm1),.sl false (L Af r.p.Zt1.Zn1),.sl false (L Aj r.p.Zt1.Zo1),.sl false (L Ai r.p.Zt1.Zp1),.sl false (L Ag r.p.Zu1),.sl false (L Ae r.p.Zv1),.sl false (L Ab r.p.Zw1),i64 r.it.Zb,i64 r.it.Ref.Za,i64 r.it.Ref.No,i64 r.it.Ze,i64 r.it.Zf,i64 r.it.Zg,i64 r.it.Zh,i64 r.it.Zi,i64 r.it.To,i64 r.it.Code,i64 r.it.Zj,i64 r.it.Zk,i64 r.it.Zl,i64 r.it.Zm,.str r.it.Zn,.sl false (L Ad r.it.Zo),.bool r.ok] false]):=by
 refine Co 1 168 [] Tryz.func86 (fun F hE => ?_) h
 unfold Eg
 refine T0 [0,2] ?_
 refine T0 [0,2,9] ?_
 refine Sb <|T0 [0,2,9,13] ?_
 refine Cd ?_ ?_
 ·refine Bd fun c af =>Te [0,2] (Ao (l:=[]) (m:=[(16,119,[.ref 0 0],[.box [.sl false (L Ah a.p.Zs1.Zu),.sl false (L Al a.p.Zs1.Zv),.sl false (L Aa a.p.Zt1.Zm1),.sl false (L Af a.p.Zt1.Zn1),.sl false (L Aj a.p.Zt1.Zo1),.sl false (L Ai a.p.Zt1.Zp1),.sl false (L Ag a.p.Zu1),.sl false (L Ae a.p.Zv1),.sl false (L Ab a.p.Zw1),i64 a.it.Zb,i64 a.it.Ref.Za,i64 a.it.Ref.No,i64 a.it.Ze,i64 a.it.Zf,i64 a.it.Zg,i64 a.it.Zh,i64 a.it.Zi,i64 a.it.To,i64 a.it.Code,i64 a.it.Zj,i64 a.it.Zk,i64 a.it.Zl,i64 a.it.Zm,.str a.it.Zn,.sl false (L Ad a.it.Zo),.bool a.ok] false],_,_)]) trivial ⟨(wc (Fd af) [0]),trivial⟩) Ev ?_
  refine Bd fun d ag =>Te [0,2] (Ao (l:=[]) (m:=[(18,121,[.ref 0 0],[.box [.sl false (L Ah c.p.Zs1.Zu),.sl false (L Al c.p.Zs1.Zv),.sl false (L Aa c.p.Zt1.Zm1),.sl false (L Af c.p.Zt1.Zn1),.sl false (L Aj c.p.Zt1.Zo1),.sl false (L Ai c.p.Zt1.Zp1),.sl false (L Ag c.p.Zu1),.sl false (L Ae c.p.Zv1),.sl false (L Ab c.p.Zw1),i64 c.it.Zb,i64 c.it.Ref.Za,i64 c.it.Ref.No,i64 c.it.Ze,i64 c.it.Zf,i64 c.it.Zg,i64 c.it.Zh,i64 c.it.Zi,i64 c.it.To,i64 c.it.Code,i64 c.it.Zj,i64 c.it.Zk,i64 c.it.Zl,i64 c.it.Zm,.str c.it.Zn,.sl false (L Ad c.it.Zo),.bool c.ok] false],_,_)]) trivial ⟨(wc (Cc ag) [0]),trivial⟩) Ev ?_
  refine Bd fun aB ah =>Fe [] (Ao (l:=[]) (m:=[(23,120,[.ref 0 0,.ref 0 18,i64 1,i64 9],[.box [.sl false (L Ah d.p.Zs1.Zu),.sl false (L Al d.p.Zs1.Zv),.sl false (L Aa d.p.Zt1.Zm1),.sl false (L Af d.p.Zt1.Zn1),.sl false (L Aj d.p.Zt1.Zo1),.sl false (L Ai d.p.Zt1.Zp1),.sl false (L Ag d.p.Zu1),.sl false (L Ae d.p.Zv1),.sl false (L Ab d.p.Zw1),i64 d.it.Zb,i64 d.it.Ref.Za,i64 d.it.Ref.No,i64 d.it.Ze,i64 d.it.Zf,i64 d.it.Zg,i64 d.it.Zh,i64 d.it.Zi,i64 d.it.To,i64 d.it.Code,i64 d.it.Zj,i64 d.it.Zk,i64 d.it.Zl,i64 d.it.Zm,.str d.it.Zn,.sl false (L Ad d.it.Zo),.bool d.ok] false],_,_)]) trivial ⟨(wc (C2 ah) [0]),trivial⟩) Ev ?_
  exact Bn <|Ro [0]
 ·refine T0 [0,2,9,24] ?_
  refine Cd ?_ ?_
  ·refine Bd fun e ai =>Te [0,2] (Ao (l:=[]) (m:=[(27,119,[.ref 0 0],[.box [.sl false (L Ah a.p.Zs1.Zu),.sl false (L Al a.p.Zs1.Zv),.sl false (L Aa a.p.Zt1.Zm1),.sl false (L Af a.p.Zt1.Zn1),.sl false (L Aj a.p.Zt1.Zo1),.sl false (L Ai a.p.Zt1.Zp1),.sl false (L Ag a.p.Zu1),.sl false (L Ae a.p.Zv1),.sl false (L Ab a.p.Zw1),i64 a.it.Zb,i64 a.it.Ref.Za,i64 a.it.Ref.No,i64 a.it.Ze,i64 a.it.Zf,i64 a.it.Zg,i64 a.it.Zh,i64 a.it.Zi,i64 a.it.To,i64 a.it.Code,i64 a.it.Zj,i64 a.it.Zk,i64 a.it.Zl,i64 a.it.Zm,.str a.it.Zn,.sl false (L Ad a.it.Zo),.bool a.ok] false],_,_)]) trivial ⟨(wc (Fd ai) [0]),trivial⟩) Ev ?_
   refine Bd fun f aj =>Te [0,2] (Ao (l:=[]) (m:=[(29,122,[.ref 0 0,i64 5],[.box [.sl false (L Ah e.p.Zs1.Zu),.sl false (L Al e.p.Zs1.Zv),.sl false (L Aa e.p.Zt1.Zm1),.sl false (L Af e.p.Zt1.Zn1),.sl false (L Aj e.p.Zt1.Zo1),.sl false (L Ai e.p.Zt1.Zp1),.sl false (L Ag e.p.Zu1),.sl false (L Ae e.p.Zv1),.sl false (L Ab e.p.Zw1),i64 e.it.Zb,i64 e.it.Ref.Za,i64 e.it.Ref.No,i64 e.it.Ze,i64 e.it.Zf,i64 e.it.Zg,i64 e.it.Zh,i64 e.it.Zi,i64 e.it.To,i64 e.it.Code,i64 e.it.Zj,i64 e.it.Zk,i64 e.it.Zl,i64 e.it.Zm,.str e.it.Zn,.sl false (L Ad e.it.Zo),.bool e.ok] false],_,_)]) trivial ⟨(wc (Ci aj) [0]),trivial⟩) Ev ?_
   refine Bd fun g ak =>Te [0,2] (Ao (l:=[]) (m:=[(31,123,[.ref 0 0],[.box [.sl false (L Ah f.2.p.Zs1.Zu),.sl false (L Al f.2.p.Zs1.Zv),.sl false (L Aa f.2.p.Zt1.Zm1),.sl false (L Af f.2.p.Zt1.Zn1),.sl false (L Aj f.2.p.Zt1.Zo1),.sl false (L Ai f.2.p.Zt1.Zp1),.sl false (L Ag f.2.p.Zu1),.sl false (L Ae f.2.p.Zv1),.sl false (L Ab f.2.p.Zw1),i64 f.2.it.Zb,i64 f.2.it.Ref.Za,i64 f.2.it.Ref.No,i64 f.2.it.Ze,i64 f.2.it.Zf,i64 f.2.it.Zg,i64 f.2.it.Zh,i64 f.2.it.Zi,i64 f.2.it.To,i64 f.2.it.Code,i64 f.2.it.Zj,i64 f.2.it.Zk,i64 f.2.it.Zl,i64 f.2.it.Zm,.str f.2.it.Zn,.sl false (L Ad f.2.it.Zo),.bool f.2.ok] false],_,_)]) trivial ⟨(wc (Fx ak) [0]),trivial⟩) Ev ?_
   refine Bd fun i al =>Te [0,2] (Ao (l:=[]) (m:=[(36,120,[.ref 0 0,.ref 0 18,i64 1,i64 2],[.box [.sl false (L Ah g.p.Zs1.Zu),.sl false (L Al g.p.Zs1.Zv),.sl false (L Aa g.p.Zt1.Zm1),.sl false (L Af g.p.Zt1.Zn1),.sl false (L Aj g.p.Zt1.Zo1),.sl false (L Ai g.p.Zt1.Zp1),.sl false (L Ag g.p.Zu1),.sl false (L Ae g.p.Zv1),.sl false (L Ab g.p.Zw1),i64 g.it.Zb,i64 g.it.Ref.Za,i64 g.it.Ref.No,i64 g.it.Ze,i64 g.it.Zf,i64 g.it.Zg,i64 g.it.Zh,i64 g.it.Zi,i64 g.it.To,i64 g.it.Code,i64 g.it.Zj,i64 g.it.Zk,i64 g.it.Zl,i64 g.it.Zm,.str g.it.Zn,.sl false (L Ad g.it.Zo),.bool g.ok] false],_,_)]) trivial ⟨(wc (C2 al) [0]),trivial⟩) Ev ?_
   refine Bd fun t am =>Te [0,2] (Ao (l:=[]) (m:=[(41,120,[.ref 0 0,.ref 0 22,i64 0,i64 1000000000],[.box [.sl false (L Ah i.p.Zs1.Zu),.sl false (L Al i.p.Zs1.Zv),.sl false (L Aa i.p.Zt1.Zm1),.sl false (L Af i.p.Zt1.Zn1),.sl false (L Aj i.p.Zt1.Zo1),.sl false (L Ai i.p.Zt1.Zp1),.sl false (L Ag i.p.Zu1),.sl false (L Ae i.p.Zv1),.sl false (L Ab i.p.Zw1),i64 i.it.Zb,i64 i.it.Ref.Za,i64 i.it.Ref.No,i64 i.it.Ze,i64 i.it.Zf,i64 i.it.Zg,i64 i.it.Zh,i64 i.it.Zi,i64 i.it.To,i64 i.it.Code,i64 i.it.Zj,i64 i.it.Zk,i64 i.it.Zl,i64 i.it.Zm,.str i.it.Zn,.sl false (L Ad i.it.Zo),.bool i.ok] false],_,_)]) trivial ⟨(wc (F3 am) [0]),trivial⟩) Ev ?_
   refine Tw [2] (fun ab => ⟨As 168 [(2,.ref 0 9)],[.box [.sl false (L Ah t.p.Zs1.Zu),.sl false (L Al t.p.Zs1.Zv),.sl false (L Aa t.p.Zt1.Zm1),.sl false (L Af t.p.Zt1.Zn1),.sl false (L Aj t.p.Zt1.Zo1),.sl false (L Ai t.p.Zt1.Zp1),.sl false (L Ag t.p.Zu1),.sl false (L Ae t.p.Zv1),.sl false (L Ab t.p.Zw1),i64 t.it.Zb,i64 t.it.Ref.Za,i64 t.it.Ref.No,i64 t.it.Ze,i64 t.it.Zf,i64 t.it.Zg,i64 t.it.Zh,i64 t.it.Zi,i64 t.it.To,i64 t.it.Code,i64 t.it.Zj,i64 t.it.Zk,i64 t.it.Zl,i64 t.it.Zm,.str t.it.Zn,.sl false (L Ad t.it.Zo),.bool ab] false]⟩) ?_ ?_
   ·intro _
    refine Sp (fun y => ?_) fun y => ?_
    ·refine Bd fun aC an => ?_
     exact Lf (o1 52 (Pk an)) (Ev (by simp only [go_sem,y];exact Ak)) (ws [0])
    ·exact Lf Ac (Ev (by simp only [go_sem,y];exact Ak)) (ws [0])
   intro ab
   refine F0 [] ?_
   exact Bn <|Ro [0]
  ·refine T0 [0,2,9,59] ?_
   refine Cd ?_ ?_
   ·refine Bd fun u ao =>Te [0,2] (Ao (l:=[]) (m:=[(65,120,[.ref 0 0,.ref 0 14,i64 0,i64 63],[.box [.sl false (L Ah a.p.Zs1.Zu),.sl false (L Al a.p.Zs1.Zv),.sl false (L Aa a.p.Zt1.Zm1),.sl false (L Af a.p.Zt1.Zn1),.sl false (L Aj a.p.Zt1.Zo1),.sl false (L Ai a.p.Zt1.Zp1),.sl false (L Ag a.p.Zu1),.sl false (L Ae a.p.Zv1),.sl false (L Ab a.p.Zw1),i64 a.it.Zb,i64 a.it.Ref.Za,i64 a.it.Ref.No,i64 a.it.Ze,i64 a.it.Zf,i64 a.it.Zg,i64 a.it.Zh,i64 a.it.Zi,i64 a.it.To,i64 a.it.Code,i64 a.it.Zj,i64 a.it.Zk,i64 a.it.Zl,i64 a.it.Zm,.str a.it.Zn,.sl false (L Ad a.it.Zo),.bool a.ok] false],_,_)]) trivial ⟨(wc (D5 ao) [0]),trivial⟩) Ev ?_
    refine Tw [2] (fun ac => ⟨As 168 [(2,.ref 0 9)],[.box [.sl false (L Ah u.p.Zs1.Zu),.sl false (L Al u.p.Zs1.Zv),.sl false (L Aa u.p.Zt1.Zm1),.sl false (L Af u.p.Zt1.Zn1),.sl false (L Aj u.p.Zt1.Zo1),.sl false (L Ai u.p.Zt1.Zp1),.sl false (L Ag u.p.Zu1),.sl false (L Ae u.p.Zv1),.sl false (L Ab u.p.Zw1),i64 u.it.Zb,i64 u.it.Ref.Za,i64 u.it.Ref.No,i64 u.it.Ze,i64 u.it.Zf,i64 u.it.Zg,i64 u.it.Zh,i64 u.it.Zi,i64 u.it.To,i64 u.it.Code,i64 u.it.Zj,i64 u.it.Zk,i64 u.it.Zl,i64 u.it.Zm,.str u.it.Zn,.sl false (L Ad u.it.Zo),.bool ac] false]⟩) ?_ ?_
    ·intro _
     refine Sp (fun w => ?_) fun w => ?_
     ·refine Sp (fun z => ?_) fun z => ?_
      ·refine Bd fun aD ap => ?_
       exact Lf (o1 84 (Pk ap)) (Ev (by simp only [go_sem,w,z];exact Ak)) (ws [0])
      ·exact Lf Ac (Ev (by simp only [go_sem,w,z];exact Ak)) (ws [0])
     ·exact Lf Ac (Ev (by simp only [go_sem,w];exact Ak)) (ws [0])
    intro ac
    refine F0 [] ?_
    exact Bn <|Ro [0]
   ·refine Ja (fun ad => ⟨As 168 [(0,.ref 0 0),(2,.ref 0 9),(9,i64 a.it.Zb),(91,.bool ad)],[.box [.sl false (L Ah a.p.Zs1.Zu),.sl false (L Al a.p.Zs1.Zv),.sl false (L Aa a.p.Zt1.Zm1),.sl false (L Af a.p.Zt1.Zn1),.sl false (L Aj a.p.Zt1.Zo1),.sl false (L Ai a.p.Zt1.Zp1),.sl false (L Ag a.p.Zu1),.sl false (L Ae a.p.Zv1),.sl false (L Ab a.p.Zw1),i64 a.it.Zb,i64 a.it.Ref.Za,i64 a.it.Ref.No,i64 a.it.Ze,i64 a.it.Zf,i64 a.it.Zg,i64 a.it.Zh,i64 a.it.Zi,i64 a.it.To,i64 a.it.Code,i64 a.it.Zj,i64 a.it.Zk,i64 a.it.Zl,i64 a.it.Zm,.str a.it.Zn,.sl false (L Ad a.it.Zo),.bool a.ok] false]⟩) ?_ ?_
    ·intro aE
     refine T0 [0,2,9,91] ?_
     refine Cd ?_ ?_
     ·exact Sk <|Jm (ws [0])
     ·refine T0 [0,2,9,91] ?_
      refine Cd ?_ ?_
      ·exact Sk <|Jm (ws [0])
      ·refine F0 [0,2,9,91] ?_
       exact Jm (ws [0])
    intro ad
    refine Cd ?_ ?_
    ·refine Bd fun j aq =>Te [0,2] (Ao (l:=[]) (m:=[(99,120,[.ref 0 0,.ref 0 15,i64 1,i64 6],[.box [.sl false (L Ah a.p.Zs1.Zu),.sl false (L Al a.p.Zs1.Zv),.sl false (L Aa a.p.Zt1.Zm1),.sl false (L Af a.p.Zt1.Zn1),.sl false (L Aj a.p.Zt1.Zo1),.sl false (L Ai a.p.Zt1.Zp1),.sl false (L Ag a.p.Zu1),.sl false (L Ae a.p.Zv1),.sl false (L Ab a.p.Zw1),i64 a.it.Zb,i64 a.it.Ref.Za,i64 a.it.Ref.No,i64 a.it.Ze,i64 a.it.Zf,i64 a.it.Zg,i64 a.it.Zh,i64 a.it.Zi,i64 a.it.To,i64 a.it.Code,i64 a.it.Zj,i64 a.it.Zk,i64 a.it.Zl,i64 a.it.Zm,.str a.it.Zn,.sl false (L Ad a.it.Zo),.bool a.ok] false],_,_)]) trivial ⟨(wc (D4 aq) [0]),trivial⟩) Ev ?_
     refine Bd fun v ar =>Te [0,2] (Ao (l:=[]) (m:=[(101,121,[.ref 0 0],[.box [.sl false (L Ah j.p.Zs1.Zu),.sl false (L Al j.p.Zs1.Zv),.sl false (L Aa j.p.Zt1.Zm1),.sl false (L Af j.p.Zt1.Zn1),.sl false (L Aj j.p.Zt1.Zo1),.sl false (L Ai j.p.Zt1.Zp1),.sl false (L Ag j.p.Zu1),.sl false (L Ae j.p.Zv1),.sl false (L Ab j.p.Zw1),i64 j.it.Zb,i64 j.it.Ref.Za,i64 j.it.Ref.No,i64 j.it.Ze,i64 j.it.Zf,i64 j.it.Zg,i64 j.it.Zh,i64 j.it.Zi,i64 j.it.To,i64 j.it.Code,i64 j.it.Zj,i64 j.it.Zk,i64 j.it.Zl,i64 j.it.Zm,.str j.it.Zn,.sl false (L Ad j.it.Zo),.bool j.ok] false],_,_)]) trivial ⟨(wc (Cc ar) [0]),trivial⟩) Ev ?_
     refine T0 [0,2,106] ?_
     refine Cd ?_ ?_
     ·refine Tw [2] (fun ae => ⟨As 168 [(2,.ref 0 9)],[.box [.sl false (L Ah v.p.Zs1.Zu),.sl false (L Al v.p.Zs1.Zv),.sl false (L Aa v.p.Zt1.Zm1),.sl false (L Af v.p.Zt1.Zn1),.sl false (L Aj v.p.Zt1.Zo1),.sl false (L Ai v.p.Zt1.Zp1),.sl false (L Ag v.p.Zu1),.sl false (L Ae v.p.Zv1),.sl false (L Ab v.p.Zw1),i64 v.it.Zb,i64 v.it.Ref.Za,i64 v.it.Ref.No,i64 v.it.Ze,i64 v.it.Zf,i64 v.it.Zg,i64 v.it.Zh,i64 v.it.Zi,i64 v.it.To,i64 v.it.Code,i64 v.it.Zj,i64 v.it.Zk,i64 v.it.Zl,i64 v.it.Zm,.str v.it.Zn,.sl false (L Ad v.it.Zo),.bool ae] false]⟩) ?_ ?_
      ·intro _
       refine Sp (fun x => ?_) fun x => ?_
       ·refine Sp (fun aa => ?_) fun aa => ?_
        ·exact Lf Ac (Ev (by simp only [go_sem,x,aa];exact Ak)) (ws [0])
        ·exact Lf Ac (Ev (by simp only [go_sem,x,aa];exact Ak)) (ws [0])
       ·exact Lf Ac (Ev (by simp only [go_sem,x];exact Ak)) (ws [0])
      intro ae
      refine F0 [] ?_
      exact Bn <|Ro [0]
     ·exact Sk <|Bn <|Ro [0]
    ·refine T0 [0,2,9,133] ?_
     refine Cd ?_ ?_
     ·exact Sk <|Bn <|Ro [0]
     ·refine T0 [0,2,135] ?_
      refine Cd ?_ ?_
      ·refine Bd fun k au =>Te [0,2] (Ao (l:=[]) (m:=[(138,124,[.ref 0 0],[.box [.sl false (L Ah a.p.Zs1.Zu),.sl false (L Al a.p.Zs1.Zv),.sl false (L Aa a.p.Zt1.Zm1),.sl false (L Af a.p.Zt1.Zn1),.sl false (L Aj a.p.Zt1.Zo1),.sl false (L Ai a.p.Zt1.Zp1),.sl false (L Ag a.p.Zu1),.sl false (L Ae a.p.Zv1),.sl false (L Ab a.p.Zw1),i64 a.it.Zb,i64 a.it.Ref.Za,i64 a.it.Ref.No,i64 a.it.Ze,i64 a.it.Zf,i64 a.it.Zg,i64 a.it.Zh,i64 a.it.Zi,i64 a.it.To,i64 a.it.Code,i64 a.it.Zj,i64 a.it.Zk,i64 a.it.Zl,i64 a.it.Zm,.str a.it.Zn,.sl false (L Ad a.it.Zo),.bool a.ok] false],_,_)]) trivial ⟨(wc (Em au) [0]),trivial⟩) Ev ?_
       refine Bd fun n av =>Te [0,2] (Ao (l:=[]) (m:=[(140,122,[.ref 0 0,i64 0],[.box [.sl false (L Ah k.p.Zs1.Zu),.sl false (L Al k.p.Zs1.Zv),.sl false (L Aa k.p.Zt1.Zm1),.sl false (L Af k.p.Zt1.Zn1),.sl false (L Aj k.p.Zt1.Zo1),.sl false (L Ai k.p.Zt1.Zp1),.sl false (L Ag k.p.Zu1),.sl false (L Ae k.p.Zv1),.sl false (L Ab k.p.Zw1),i64 k.it.Zb,i64 k.it.Ref.Za,i64 k.it.Ref.No,i64 k.it.Ze,i64 k.it.Zf,i64 k.it.Zg,i64 k.it.Zh,i64 k.it.Zi,i64 k.it.To,i64 k.it.Code,i64 k.it.Zj,i64 k.it.Zk,i64 k.it.Zl,i64 k.it.Zm,.str k.it.Zn,.sl false (L Ad k.it.Zo),.bool k.ok] false],_,_)]) trivial ⟨(wc (Ci av) [0]),trivial⟩) Ev ?_
       refine Bd fun b aw =>Te [0,2] (Ao (l:=[]) (m:=[(142,125,[.ref 0 0],[.box [.sl false (L Ah n.2.p.Zs1.Zu),.sl false (L Al n.2.p.Zs1.Zv),.sl false (L Aa n.2.p.Zt1.Zm1),.sl false (L Af n.2.p.Zt1.Zn1),.sl false (L Aj n.2.p.Zt1.Zo1),.sl false (L Ai n.2.p.Zt1.Zp1),.sl false (L Ag n.2.p.Zu1),.sl false (L Ae n.2.p.Zv1),.sl false (L Ab n.2.p.Zw1),i64 n.2.it.Zb,i64 n.2.it.Ref.Za,i64 n.2.it.Ref.No,i64 n.2.it.Ze,i64 n.2.it.Zf,i64 n.2.it.Zg,i64 n.2.it.Zh,i64 n.2.it.Zi,i64 n.2.it.To,i64 n.2.it.Code,i64 n.2.it.Zj,i64 n.2.it.Zk,i64 n.2.it.Zl,i64 n.2.it.Zm,.str n.2.it.Zn,.sl false (L Ad n.2.it.Zo),.bool n.2.ok] false],_,_)]) trivial ⟨(wc (Hq aw) [0]),trivial⟩) Ev ?_
       refine Bd fun o ax =>De [[],[],[1],[1,2],[],[4],[4,5],[4,5,6],[4,5,6,7],[4,5,6,7,8],[4,5,6,7,8,9],[4,5,6,7,8,9,10],[0,1,2,3,4,5,6,7,8,9,10,11]] [0,2] (Ao (l:=[]) (m:=[(155,120,[.ref 0 0,.ref 0 15,i64 0,i64 (w64 ((b.p.Zt1.Zm1.length : Int) - 1))],[.box [.sl false (L Ah b.p.Zs1.Zu),.sl false (L Al b.p.Zs1.Zv),.sl false (L Aa b.p.Zt1.Zm1),.sl false (L Af b.p.Zt1.Zn1),.sl false (L Aj b.p.Zt1.Zo1),.sl false (L Ai b.p.Zt1.Zp1),.sl false (L Ag b.p.Zu1),.sl false (L Ae b.p.Zv1),.sl false (L Ab b.p.Zw1),i64 b.it.Zb,i64 b.it.Ref.Za,i64 b.it.Ref.No,i64 b.it.Ze,i64 b.it.Zf,i64 b.it.Zg,i64 b.it.Zh,i64 b.it.Zi,i64 b.it.To,i64 b.it.Code,i64 b.it.Zj,i64 b.it.Zk,i64 b.it.Zl,i64 b.it.Zm,.str b.it.Zn,.sl false (L Ad b.it.Zo),.bool b.ok] false],_,_)]) trivial ⟨(wc (D4 ax) [0]),trivial⟩) Ev ?_
       refine Bd fun q ay =>Te [0,2] (Ao (l:=[]) (m:=[(160,120,[.ref 0 0,.ref 0 21,i64 1,i64 1000],[.box [.sl false (L Ah o.p.Zs1.Zu),.sl false (L Al o.p.Zs1.Zv),.sl false (L Aa o.p.Zt1.Zm1),.sl false (L Af o.p.Zt1.Zn1),.sl false (L Aj o.p.Zt1.Zo1),.sl false (L Ai o.p.Zt1.Zp1),.sl false (L Ag o.p.Zu1),.sl false (L Ae o.p.Zv1),.sl false (L Ab o.p.Zw1),i64 o.it.Zb,i64 o.it.Ref.Za,i64 o.it.Ref.No,i64 o.it.Ze,i64 o.it.Zf,i64 o.it.Zg,i64 o.it.Zh,i64 o.it.Zi,i64 o.it.To,i64 o.it.Code,i64 o.it.Zj,i64 o.it.Zk,i64 o.it.Zl,i64 o.it.Zm,.str o.it.Zn,.sl false (L Ad o.it.Zo),.bool o.ok] false],_,_)]) trivial ⟨(wc (F7 ay) [0]),trivial⟩) Ev ?_
       refine Bd fun s az =>Te [0,2] (Ao (l:=[]) (m:=[(162,123,[.ref 0 0],[.box [.sl false (L Ah q.p.Zs1.Zu),.sl false (L Al q.p.Zs1.Zv),.sl false (L Aa q.p.Zt1.Zm1),.sl false (L Af q.p.Zt1.Zn1),.sl false (L Aj q.p.Zt1.Zo1),.sl false (L Ai q.p.Zt1.Zp1),.sl false (L Ag q.p.Zu1),.sl false (L Ae q.p.Zv1),.sl false (L Ab q.p.Zw1),i64 q.it.Zb,i64 q.it.Ref.Za,i64 q.it.Ref.No,i64 q.it.Ze,i64 q.it.Zf,i64 q.it.Zg,i64 q.it.Zh,i64 q.it.Zi,i64 q.it.To,i64 q.it.Code,i64 q.it.Zj,i64 q.it.Zk,i64 q.it.Zl,i64 q.it.Zm,.str q.it.Zn,.sl false (L Ad q.it.Zo),.bool q.ok] false],_,_)]) trivial ⟨(wc (Fx az) [0]),trivial⟩) Ev ?_
       refine Bd fun aF aA =>Fe [] (Ao (l:=[]) (m:=[(167,120,[.ref 0 0,.ref 0 22,i64 0,i64 1000000000],[.box [.sl false (L Ah s.p.Zs1.Zu),.sl false (L Al s.p.Zs1.Zv),.sl false (L Aa s.p.Zt1.Zm1),.sl false (L Af s.p.Zt1.Zn1),.sl false (L Aj s.p.Zt1.Zo1),.sl false (L Ai s.p.Zt1.Zp1),.sl false (L Ag s.p.Zu1),.sl false (L Ae s.p.Zv1),.sl false (L Ab s.p.Zw1),i64 s.it.Zb,i64 s.it.Ref.Za,i64 s.it.Ref.No,i64 s.it.Ze,i64 s.it.Zf,i64 s.it.Zg,i64 s.it.Zh,i64 s.it.Zi,i64 s.it.To,i64 s.it.Code,i64 s.it.Zj,i64 s.it.Zk,i64 s.it.Zl,i64 s.it.Zm,.str s.it.Zn,.sl false (L Ad s.it.Zo),.bool s.ok] false],_,_)]) trivial ⟨(wc (F3 aA) [0]),trivial⟩) Ev ?_
       exact Bn <|Ro [0]
      ·refine F0 [] ?_
       exact Bn <|Ro [0]
end Go.Proofs.YtnfoiocigicdnaaGreatDoor
