/-
  Part 49.
-/
import Derived.Test.YtioapcamanmoiaaGreatDoorYR46
import Derived.Test.YtioapcamanmoiaaGreatDoorYR47
import Derived.Test.YtioapcamanmoiaaGreatDoorYR48
import Derived.KernelRfl
import Derived.Lib.Mul64
namespace Go.Proofs.YtioapcamanmoiaaGreatDoor
open Go.Rv
set_option linter.unusedVariables false
set_option linter.unusedSimpArgs false
set_option maxRecDepth 20000
set_option maxHeartbeats 4000000
theorem Ax{a:AoJ}{r:(UInt8×AoJ)⊕(Int×AoJ)}(h:A7 a=some r):PCon B 91 [.ref 0 0] [.box [.sl false (L cU8 a.b)] false] (HV r):=by
 refine Gs (N:=26) (rs:=[.tmp 2]) 1 rfl ok Tryz.func91 rfl (by decide +kernel) rfl rfl (Apm rfl) (fun F=>?_);have hE:=ok.env F;unfold A7 at h;show Run (B.env F) 1 _ ⟨Aq 26 [(0,.ref 0 0)],[.box [.sl false (L cU8 a.b)] false]⟩ _;revert h;refine T0 [0] ?_;refine Sq <|T0 [0,9] ?_
 refine Cd ?_ ?_
 ·intro h;refine GX hE [] 1 _ (v:=.iface 170 (.int .i64 5)) (σ2:=[.box [.sl false (L cU8 a.b)] false]) (vals:=[]) rfl rfl ⟨_,[],Aa,trivial,?_⟩ (fun fr_ hlen_ hfr_=>?_)
  ·simp only[go_sem]
  refine Oi ?_;obtain rfl:=AoR h;refine DD rfl [0] (by decide) rfl ?_;simp only[go_sem]
 ·refine Sk <|Tn <|Ck fun c =>Te [0,3] Aa (Ew1 (qL c)) ?_
  refine Ck fun d =>Lt fun e f =>Te (σ':=[.box [.sl false (L cU8 e)] false]) [3] Aa (Ew2 d f) ?_
  refine T0 [2] ?_;refine Sr ?_;intro h;obtain rfl:=AoR h;refine JC rfl (M4 (.inr rfl) ?_ rfl ?_)
  ·simp only[go_sem]
  ·show HX [0] _ [0] _;simp only[go_sem]
theorem BK{n:AoJ}{c:Int}{a:UInt8}{r:(AoG×AoJ)⊕(Int×AoJ)}(h:B4 n c a=some r):PCon B 126 [.ref 0 0,i64 c,u8 a] [.box [.sl false (L cU8 n.b)] false] (G6 r):=by
 refine Gs (N:=46) (rs:=[.cell 6 105]) 1 rfl ok Tryz.func126 rfl (by decide +kernel) rfl rfl (Apm rfl) (fun F=>?_);have hE:=ok.env F;unfold B4 at h;show Run (B.env F) 1 _ ⟨Aq 46 [(0,.ref 0 0),(1,i64 c),(2,u8 a)],[.box [.sl false (L cU8 n.b)] false]⟩ _;revert h;refine T0 [0,1,2,6] ?_;refine T0 [0,1,2,6,7] ?_;refine Jo (fun(v:UInt64×List UInt8)=>(⟨Aq 46 [(2,u8 a),(6,.ref 1 0),(7,u64 v.1)],[.box [.sl false (L cU8 v.2)] false,.box [i64 0,i64 0,.sl true (L cU8 ([])),.sl true (L cApi_Value ([]))] false]⟩:St)) ?_ ?_
 ·intro ae s;refine T0 [0,1,2,6,7,10,11] ?_;refine Sb ?_;refine Lo (fun⟨d,e,f⟩=>⟨Aq 46 [(0,.ref 0 0),(1,i64 c),(2,u8 a),(6,.ref 1 0),(7,u64 d),(10,i64 c),(11,i64 e)],[.box [.sl false (L cU8 f)] false,.box [i64 0,i64 0,.sl true (L cU8 ([])),.sl true (L cApi_Value ([]))] false]⟩) (ws [0,1]) ?_;rintro⟨d,e,f⟩ af x o p;show A2 c a d e f=some x→_;unfold A2;refine T0 [0,1,2,6,7,10,11,12] ?_;refine Sq <|Cd ?_ ?_
  ·refine Sk <|Tn <|Sq <|Sb <|T0 [0,1,2,6,7,8,10,11] ?_
   intro h;replace h:=A8 h;obtain⟨y,t,h⟩:=h;rcases y with g|j
   rotate_left
   ·dsimp only at h;refine Fz hE [] 1 _ (v:=.iface 170 (.int .i64 j.1)) (σ2:=[.box [.sl false (L cU8 j.2.b)] false,.box [i64 0,i64 0,.sl true (L cU8 ([])),.sl true (L cApi_Value ([]))] false]) (vals:=[]) rfl rfl ⟨_,[(15,91,[.ref 0 0],[.box [.sl false (L cU8 f)] false,.box [i64 0,i64 0,.sl true (L cU8 ([])),.sl true (L cApi_Value ([]))] false],.val (.iface 170 (.int .i64 j.1)),[.box [.sl false (L cU8 j.2.b)] false,.box [i64 0,i64 0,.sl true (L cU8 ([])),.sl true (L cApi_Value ([]))] false])],Aa,⟨fun v hv=>by cases hv;exact Dy (PCon.pan (Ax t) rfl) [0] (by decide) gs gs gs gs,trivial⟩,?_⟩ (fun fr_ hlen_ hfr_=>?_)
    ·simp only[go_sem]
    refine BR ?_;refine Oi ?_;refine Uc ?_;replace h:=A8 h;obtain⟨ag,h,e_z_14819⟩:=h;obtain rfl:=AoR e_z_14819;have ex_z_14819:=p _ rfl;subst ex_z_14819;obtain rfl:=AoR o;refine BR ?_;refine Gc ?_;replace h:=A8 h;obtain⟨ah,h,e_z_14818⟩:=h;obtain rfl:=AoR e_z_14818;obtain rfl:=AoR s;obtain rfl:=AoR h;refine DD rfl [0] (by decide) rfl ?_;simp only[go_sem]
   dsimp only at h;refine Cy hE [0,1,2,6,7,8,9,10,11] (fr':=[(0,.ref 0 0),(1,i64 c),(2,u8 a),(6,.ref 1 0),(7,u64 d),(8,i64 e),(9,u8 (g.1 ^^^ a)),(10,i64 c),(11,i64 e)]) (σ':=[.box [.sl false (L cU8 g.2.b)] false,.box [i64 0,i64 0,.sl true (L cU8 ([])),.sl true (L cApi_Value ([]))] false]) ⟨_,(Ao (l:=[]) (m:=[(15,91,[.ref 0 0],[.box [.sl false (L cU8 f)] false,.box [i64 0,i64 0,.sl true (L cU8 ([])),.sl true (L cApi_Value ([]))] false],_,_)]) trivial ⟨(wc (PCon.to (Ax t) rfl) [0]),trivial⟩),?_⟩ ?_
   ·simp only[go_sem]
   revert h;refine Sq ?_;refine Tw [0,1,2,6,7,9,10,11,31] (fun u=>⟨Aq 46 [(0,.ref 0 0),(1,i64 c),(2,u8 a),(6,.ref 1 0),(7,u64 d),(9,u8 (g.1 ^^^ a)),(10,i64 c),(11,i64 e),(31,.bool u)],[.box [.sl false (L cU8 g.2.b)] false,.box [i64 0,i64 0,.sl true (L cU8 ([])),.sl true (L cApi_Value ([]))] false]⟩) ?_ ?_
   ·intro _;refine Sp (fun i=>?_) fun i=>?_
    ·refine Sp (fun k=>?_) fun k=>?_
     ·exact Lf Aa (Ew2 i k) (ws [0,1])
     ·refine Sp (fun q=>?_) fun q=>?_
      ·exact Lf Aa (Ew3 i k q) (ws [0,1])
      ·exact Lf Aa (Ew3 i k q) (ws [0,1])
    ·exact Lf Aa (Ew1 i) (ws [0,1])
   intro u;refine Cd ?_ ?_
   ·intro h;refine GX hE [] 1 _ (v:=.iface 170 (.int .i64 4)) (σ2:=[.box [.sl false (L cU8 g.2.b)] false,.box [i64 0,i64 0,.sl true (L cU8 ([])),.sl true (L cApi_Value ([]))] false]) (vals:=[]) rfl rfl ⟨_,[],Aa,trivial,?_⟩ (fun fr_ hlen_ hfr_=>?_)
    ·simp only[go_sem]
    refine Oi ?_;refine BR ?_;refine Oi ?_;refine Uc ?_;replace h:=A8 h;obtain⟨ai,h,e_z_14826⟩:=h;obtain rfl:=AoR e_z_14826;have ex_z_14826:=p _ rfl;subst ex_z_14826;obtain rfl:=AoR o;refine BR ?_;refine Gc ?_;replace h:=A8 h;obtain⟨aj,h,e_z_14825⟩:=h;obtain rfl:=AoR e_z_14825;obtain rfl:=AoR s;obtain rfl:=AoR h;refine DD rfl [0] (by decide) rfl ?_;simp only[go_sem]
   ·refine Sk <|Tn <|Lt fun z aa =>Fe (fr':=[(0,_),(1,_),(2,_),(6,_),(7,u64 z),(10,_),(11,_)]) [0,1,2,6,7,10,11] Aa (Ew1 aa) ?_
    refine Bn <|Tn <|F0 [0,1,2,6,7,10,11] ?_
    exact Ln (ws [0,1])
  ·refine Sx <|Tx <|Lx p o <|Bx <|?_
   exact Jn ((ws (l':=[(2,u8 a),(6,.ref 1 0),(7,u64 d)]) (σ':=[.box [.sl false (L cU8 f)] false,.box [i64 0,i64 0,.sl true (L cU8 ([])),.sl true (L cApi_Value ([]))] false]) [0,1]).trans (ws [0,1]))
 rintro⟨ak,ab⟩;refine Ja (fun w=>⟨Aq 46 [(6,.ref 1 0),(7,u64 w)],[.box [.sl false (L cU8 ab)] false,.box [i64 0,i64 0,.sl true (L cU8 ([])),.sl true (L cApi_Value ([]))] false]⟩) ?_ ?_
 ·intro al;refine T0 [6,7,40] ?_;refine Cd ?_ ?_
  ·refine F0 [6,7] ?_;exact Jm (ws [0,1])
  ·exact Sk <|Jm (ws [0,1])
 intro w;refine Lt fun ac ad =>Te (σ':=[_,.box [i64 1,i64 ac,.sl true (L cU8 ([])),.sl true (L cApi_Value ([]))] false]) [6] Aa (Ew1 ad) ?_
 refine Sr ?_;intro h;obtain rfl:=AoR h;refine JC rfl (M4 (.inr rfl) ?_ rfl ?_)
 ·simp only[go_sem]
 ·show HX [0] _ [0] _;simp only[go_sem]
theorem E9{i:AoJ}{r:(AoG×AoJ)⊕(Int×AoJ)}(h:CY i=some r):PCon B 127 [.ref 0 0] [.box [.sl false (L cU8 i.b)] false] (HY r):=by
 refine Gs (N:=29) (rs:=[.cell 2 105]) 1 rfl ok Tryz.func127 rfl (by decide +kernel) rfl rfl (Apm rfl) (fun F=>?_);have hE:=ok.env F;unfold CY at h;show Run (B.env F) 1 _ ⟨Aq 29 [(0,.ref 0 0)],[.box [.sl false (L cU8 i.b)] false]⟩ _;revert h;refine T0 [0,2] ?_;refine T0 [0,2,3] ?_;refine Sb ?_;refine Lo (fun(v:List UInt8×List UInt8)=>(⟨Aq 29 [(0,.ref 0 0),(2,.ref 1 0),(3,.ref 2 0)],[.box [.sl false (L cU8 v.1)] false,.box [i64 0,i64 0,.sl true (L cU8 ([])),.sl true (L cApi_Value ([]))] false,.box [i64 2,i64 0,.bs false 3 (v.2.length) 0 (v.2.length),.sl true (L cApi_Value ([]))] false,.buf 1 (L cU8 v.2) false]⟩:St)) ((Dm 2 2 1 rfl rfl).trans (ws [0,1,2,3])) ?_;rintro⟨j,a⟩ aa s c d;show Aw j a=some s→_;unfold Aw;refine Sb ?_;intro h;replace h:=A8 h;obtain⟨t,p,h⟩:=h;rcases t with e|f
 rotate_left
 ·dsimp only at h;refine Fz hE [] 1 _ (v:=.iface 170 (.int .i64 f.1)) (σ2:=[.box [.sl false (L cU8 f.2.b)] false,.box [i64 0,i64 0,.sl true (L cU8 ([])),.sl true (L cApi_Value ([]))] false,.box [i64 2,i64 0,.bs false 3 (a.length) 0 (a.length),.sl true (L cApi_Value ([]))] false,.buf 1 (L cU8 a) false]) (vals:=[]) rfl rfl ⟨_,[(7,91,[.ref 0 0],[.box [.sl false (L cU8 j)] false,.box [i64 0,i64 0,.sl true (L cU8 ([])),.sl true (L cApi_Value ([]))] false,.box [i64 2,i64 0,.bs false 3 (a.length) 0 (a.length),.sl true (L cApi_Value ([]))] false,.buf 1 (L cU8 a) false],.val (.iface 170 (.int .i64 f.1)),[.box [.sl false (L cU8 f.2.b)] false,.box [i64 0,i64 0,.sl true (L cU8 ([])),.sl true (L cApi_Value ([]))] false,.box [i64 2,i64 0,.bs false 3 (a.length) 0 (a.length),.sl true (L cApi_Value ([]))] false,.buf 1 (L cU8 a) false])],Aa,⟨fun v hv=>by cases hv;exact Dy (PCon.pan (Ax p) rfl) [0] (by decide) gs gs gs gs,trivial⟩,?_⟩ (fun fr_ hlen_ hfr_=>?_)
  ·simp only[go_sem]
  refine BR ?_;refine Uc ?_;replace h:=A8 h;obtain⟨ab,h,e_z_14883⟩:=h;obtain rfl:=AoR e_z_14883;have ex_z_14883:=d _ rfl;subst ex_z_14883;obtain rfl:=AoR c;refine BR ?_;obtain rfl:=AoR h;refine DD rfl [0] (by decide) rfl ?_;simp only[go_sem]
 dsimp only at h;refine Cy hE [0,2,3,4] (fr':=[(0,.ref 0 0),(2,.ref 1 0),(3,.ref 2 0),(4,u8 e.1)]) (σ':=[.box [.sl false (L cU8 e.2.b)] false,.box [i64 0,i64 0,.sl true (L cU8 ([])),.sl true (L cApi_Value ([]))] false,.box [i64 2,i64 0,.bs false 3 (a.length) 0 (a.length),.sl true (L cApi_Value ([]))] false,.buf 1 (L cU8 a) false]) ⟨_,(Ao (l:=[]) (m:=[(7,91,[.ref 0 0],[.box [.sl false (L cU8 j)] false,.box [i64 0,i64 0,.sl true (L cU8 ([])),.sl true (L cApi_Value ([]))] false,.box [i64 2,i64 0,.bs false 3 (a.length) 0 (a.length),.sl true (L cApi_Value ([]))] false,.buf 1 (L cU8 a) false],_,_)]) trivial ⟨(wc (PCon.to (Ax p) rfl) [0]),trivial⟩),?_⟩ ?_
 ·simp only[go_sem]
 revert h;refine Sq <|T0 [0,2,3,4,9] ?_
 refine Cd ?_ ?_
 ·refine Ck fun u =>Lt fun k w =>Te (σ':=[_,_,.box [i64 2,i64 0,.bs false 3 (k.length) 0 (k.length),.sl true (L cApi_Value ([]))] false,.buf 1 (L cU8 k) false,_]) [0,2,3] Aa (Ew2 u w) ?_
  exact Sx <|Tx <|Bx <|Ln (ws [0,1,2,3])
 ·refine Sk <|Tn <|?_
  intro h;replace h:=A8 h;obtain⟨x,q,h⟩:=h;rcases x with n|g
  rotate_left
  ·dsimp only at h;refine Fz hE [] 1 _ (v:=.iface 170 (.int .i64 g.1)) (σ2:=[.box [.sl false (L cU8 g.2.b)] false,.box [i64 0,i64 0,.sl true (L cU8 ([])),.sl true (L cApi_Value ([]))] false,.box [i64 2,i64 0,.bs false 3 (a.length) 0 (a.length),.sl true (L cApi_Value ([]))] false,.buf 1 (L cU8 a) false]) (vals:=[]) rfl rfl ⟨_,[(17,91,[.ref 0 0],[.box [.sl false (L cU8 e.2.b)] false,.box [i64 0,i64 0,.sl true (L cU8 ([])),.sl true (L cApi_Value ([]))] false,.box [i64 2,i64 0,.bs false 3 (a.length) 0 (a.length),.sl true (L cApi_Value ([]))] false,.buf 1 (L cU8 a) false],.val (.iface 170 (.int .i64 g.1)),[.box [.sl false (L cU8 g.2.b)] false,.box [i64 0,i64 0,.sl true (L cU8 ([])),.sl true (L cApi_Value ([]))] false,.box [i64 2,i64 0,.bs false 3 (a.length) 0 (a.length),.sl true (L cApi_Value ([]))] false,.buf 1 (L cU8 a) false])],Aa,⟨fun v hv=>by cases hv;exact Dy (PCon.pan (Ax q) rfl) [0] (by decide) gs gs gs gs,trivial⟩,?_⟩ (fun fr_ hlen_ hfr_=>?_)
   ·simp only[go_sem]
   refine BR ?_;refine Uc ?_;replace h:=A8 h;obtain⟨ac,h,e_z_14891⟩:=h;obtain rfl:=AoR e_z_14891;have ex_z_14891:=d _ rfl;subst ex_z_14891;obtain rfl:=AoR c;refine BR ?_;obtain rfl:=AoR h;refine DD rfl [0] (by decide) rfl ?_;simp only[go_sem]
  dsimp only at h;refine Cy hE [0,2,3,17] (fr':=[(0,.ref 0 0),(2,.ref 1 0),(3,.ref 2 0),(17,u8 n.1)]) (σ':=[.box [.sl false (L cU8 n.2.b)] false,.box [i64 0,i64 0,.sl true (L cU8 ([])),.sl true (L cApi_Value ([]))] false,.box [i64 2,i64 0,.bs false 3 (a.length) 0 (a.length),.sl true (L cApi_Value ([]))] false,.buf 1 (L cU8 a) false]) ⟨_,(Ao (l:=[]) (m:=[(17,91,[.ref 0 0],[.box [.sl false (L cU8 e.2.b)] false,.box [i64 0,i64 0,.sl true (L cU8 ([])),.sl true (L cApi_Value ([]))] false,.box [i64 2,i64 0,.bs false 3 (a.length) 0 (a.length),.sl true (L cApi_Value ([]))] false,.buf 1 (L cU8 a) false],_,_)]) trivial ⟨(wc (PCon.to (Ax q) rfl) [0]),trivial⟩),?_⟩ ?_
  ·simp only[go_sem]
  revert h;refine Sb <|T0 [0,2,3,17,19] ?_
  refine Cd ?_ ?_
  ·refine T0 [2] ?_;refine Sr <|Br <|Br <|Ls d c <|Br <|?_
   intro h;obtain rfl:=AoR h;refine JC rfl (M4 (.inr rfl) ?_ rfl ?_)
   ·simp only[go_sem]
   ·show HX [0] _ [0] _;simp only[go_sem]
  ·refine T0 [0,2,3,22] ?_;refine Cd ?_ ?_
   ·refine Ck fun y =>Lt fun o z =>Fe (σ':=[_,_,.box [i64 2,i64 0,.bs false 3 (o.length) 0 (o.length),.sl true (L cApi_Value ([]))] false,.buf 1 (L cU8 o) false,_]) [0,2,3] Aa (Ew2 y z) ?_
    exact Bn <|Bn <|Ln (ws [0,1,2,3])
   ·intro h;refine GX hE [] 1 _ (v:=.iface 170 (.int .i64 4)) (σ2:=[.box [.sl false (L cU8 n.2.b)] false,.box [i64 0,i64 0,.sl true (L cU8 ([])),.sl true (L cApi_Value ([]))] false,.box [i64 2,i64 0,.bs false 3 (a.length) 0 (a.length),.sl true (L cApi_Value ([]))] false,.buf 1 (L cU8 a) false]) (vals:=[]) rfl rfl ⟨_,[],Aa,trivial,?_⟩ (fun fr_ hlen_ hfr_=>?_)
    ·simp only[go_sem]
    refine BR ?_;refine BR ?_;refine Uc ?_;replace h:=A8 h;obtain⟨ad,h,e_z_14896⟩:=h;obtain rfl:=AoR e_z_14896;have ex_z_14896:=d _ rfl;subst ex_z_14896;obtain rfl:=AoR c;refine BR ?_;obtain rfl:=AoR h;refine DD rfl [0] (by decide) rfl ?_;simp only[go_sem]
theorem GC{rec_:AoJ→UInt8→Option ((AoG×AoJ)⊕(Int×AoJ))}(hrec:∀{c:AoJ} {e:UInt8} {r:(AoG×AoJ)⊕(Int×AoJ)},rec_ c e=some r→PCon B 90 [.ref 0 0,u8 e] [.box [.sl false (L cU8 c.b)] false] (BX r)){c:AoJ}{e:UInt8}{r:(AoG×AoJ)⊕(Int×AoJ)}(h:AG rec_ c e=some r):PCon B 90 [.ref 0 0,u8 e] [.box [.sl false (L cU8 c.b)] false] (BX r):=by
 refine Gs (N:=56) (rs:=[.cell 4 105]) 1 rfl ok Tryz.func90 rfl (by decide +kernel) rfl rfl (Apm rfl) (fun F=>?_);have hE:=ok.env F;unfold AG at h;show Run (B.env F) 1 _ ⟨Aq 56 [(0,.ref 0 0),(1,u8 e)],[.box [.sl false (L cU8 c.b)] false]⟩ _;revert h;refine T0 [0,1,4] ?_;refine Jo (fun _=>⟨Aq 56 [(4,.ref 1 0)],[.box [.sl false (L cU8 c.b)] false,.box [i64 0,i64 0,.sl true (L cU8 ([])),.sl true (L cApi_Value ([]))] false]⟩) ?_ ?_
 ·intro ax f;refine Sb ?_;refine Tw [0,1,4,7] (fun ac=>⟨Aq 56 [(0,.ref 0 0),(1,u8 e),(4,.ref 1 0),(7,.bool ac)],[.box [.sl false (L cU8 c.b)] false,.box [i64 0,i64 0,.sl true (L cU8 ([])),.sl true (L cApi_Value ([]))] false]⟩) ?_ ?_
  ·intro _;refine Sp (fun w=>?_) fun w=>?_
   ·exact Lf Aa (Ew1 w) (ws [0,1])
   ·exact Lf Aa (Ew1 w) (ws [0,1])
  intro ac;refine Cd ?_ ?_
  ·intro h;replace h:=A8 h;obtain⟨ao,ad,h⟩:=h;rcases ao with i|o
   rotate_left
   ·dsimp only at h;refine Fz hE [] 4 _ (v:=.iface 170 (.int .i64 o.1)) (σ2:=[.box [.sl false (L cU8 o.2.b)] false,.box [i64 0,i64 0,.sl true (L cU8 ([])),.sl true (L cApi_Value ([]))] false]) (vals:=[]) rfl rfl ⟨_,[(18,126,[.ref 0 0,i64 ((e-(32:UInt8)).toNat:Int),u8 (0:UInt8)],[.box [.sl false (L cU8 c.b)] false,.box [i64 0,i64 0,.sl true (L cU8 ([])),.sl true (L cApi_Value ([]))] false],.val (.iface 170 (.int .i64 o.1)),[.box [.sl false (L cU8 o.2.b)] false,.box [i64 0,i64 0,.sl true (L cU8 ([])),.sl true (L cApi_Value ([]))] false])],Aa,⟨fun v hv=>by cases hv;exact Dy (PCon.pan (BK ad) rfl) [0] (by decide) gs gs gs gs,trivial⟩,?_⟩ (fun fr_ hlen_ hfr_=>?_)
    ·simp only[go_sem]
    refine BR ?_;refine Gc ?_;replace h:=A8 h;obtain⟨ay,h,e_z_15073⟩:=h;obtain rfl:=AoR e_z_15073;obtain rfl:=AoR f;obtain rfl:=AoR h;refine DD rfl [0] (by decide) rfl ?_;simp only[go_sem]
   dsimp only at h;refine Cy hE [4] (fr':=[(4,.ref 1 0)]) (σ':=[.box [.sl false (L cU8 i.2.b)] false,.box [i64 i.1.Za,i64 i.1.N,.sl false (L cU8 i.1.B),.sl false (L cApi_Value i.1.L)] false]) ⟨_,(Ao (l:=[]) (m:=[(18,126,[.ref 0 0,i64 ((e-(32:UInt8)).toNat:Int),u8 (0:UInt8)],[.box [.sl false (L cU8 c.b)] false,.box [i64 0,i64 0,.sl true (L cU8 ([])),.sl true (L cApi_Value ([]))] false],_,_)]) trivial ⟨(wc (PCon.to (BK ad) rfl) [0]),trivial⟩),?_⟩ ?_
   ·simp only[go_sem]
   revert h;refine Sr <|Br <|Jr f <|?_
   intro h;obtain rfl:=AoR h;refine JC rfl (M4 (.inr rfl) ?_ rfl ?_)
   ·simp only[go_sem]
   ·show HX [0] _ [0] _;simp only[go_sem]
  ·refine Tw [0,1,4,19] (fun ae=>⟨Aq 56 [(0,.ref 0 0),(1,u8 e),(4,.ref 1 0),(19,.bool ae)],[.box [.sl false (L cU8 c.b)] false,.box [i64 0,i64 0,.sl true (L cU8 ([])),.sl true (L cApi_Value ([]))] false]⟩) ?_ ?_
   ·intro _;refine Sp (fun x=>?_) fun x=>?_
    ·exact Lf Aa (Ew1 x) (ws [0,1])
    ·exact Lf Aa (Ew1 x) (ws [0,1])
   intro ae;refine Cd ?_ ?_
   ·intro h;replace h:=A8 h;obtain⟨ap,af,h⟩:=h;rcases ap with j|p
    rotate_left
    ·dsimp only at h;refine Fz hE [] 4 _ (v:=.iface 170 (.int .i64 p.1)) (σ2:=[.box [.sl false (L cU8 p.2.b)] false,.box [i64 0,i64 0,.sl true (L cU8 ([])),.sl true (L cApi_Value ([]))] false]) (vals:=[]) rfl rfl ⟨_,[(30,126,[.ref 0 0,i64 (((31:UInt8)-e).toNat:Int),u8 (255:UInt8)],[.box [.sl false (L cU8 c.b)] false,.box [i64 0,i64 0,.sl true (L cU8 ([])),.sl true (L cApi_Value ([]))] false],.val (.iface 170 (.int .i64 p.1)),[.box [.sl false (L cU8 p.2.b)] false,.box [i64 0,i64 0,.sl true (L cU8 ([])),.sl true (L cApi_Value ([]))] false])],Aa,⟨fun v hv=>by cases hv;exact Dy (PCon.pan (BK af) rfl) [0] (by decide) gs gs gs gs,trivial⟩,?_⟩ (fun fr_ hlen_ hfr_=>?_)
     ·simp only[go_sem]
     refine BR ?_;refine Gc ?_;replace h:=A8 h;obtain⟨az,h,e_z_15082⟩:=h;obtain rfl:=AoR e_z_15082;obtain rfl:=AoR f;obtain rfl:=AoR h;refine DD rfl [0] (by decide) rfl ?_;simp only[go_sem]
    dsimp only at h;refine Cy hE [4] (fr':=[(4,.ref 1 0)]) (σ':=[.box [.sl false (L cU8 j.2.b)] false,.box [i64 j.1.Za,i64 j.1.N,.sl false (L cU8 j.1.B),.sl false (L cApi_Value j.1.L)] false]) ⟨_,(Ao (l:=[]) (m:=[(30,126,[.ref 0 0,i64 (((31:UInt8)-e).toNat:Int),u8 (255:UInt8)],[.box [.sl false (L cU8 c.b)] false,.box [i64 0,i64 0,.sl true (L cU8 ([])),.sl true (L cApi_Value ([]))] false],_,_)]) trivial ⟨(wc (PCon.to (BK af) rfl) [0]),trivial⟩),?_⟩ ?_
    ·simp only[go_sem]
    revert h;refine Sr <|Br <|Jr f <|?_
    intro h;obtain rfl:=AoR h;refine JC rfl (M4 (.inr rfl) ?_ rfl ?_)
    ·simp only[go_sem]
    ·show HX [0] _ [0] _;simp only[go_sem]
   ·refine T0 [0,1,4,31] ?_;refine Cd ?_ ?_
    ·intro h;replace h:=A8 h;obtain⟨aq,ag,h⟩:=h;rcases aq with k|q
     rotate_left
     ·dsimp only at h;refine Fz hE [] 1 _ (v:=.iface 170 (.int .i64 q.1)) (σ2:=[.box [.sl false (L cU8 q.2.b)] false,.box [i64 0,i64 0,.sl true (L cU8 ([])),.sl true (L cApi_Value ([]))] false]) (vals:=[]) rfl rfl ⟨_,[(35,127,[.ref 0 0],[.box [.sl false (L cU8 c.b)] false,.box [i64 0,i64 0,.sl true (L cU8 ([])),.sl true (L cApi_Value ([]))] false],.val (.iface 170 (.int .i64 q.1)),[.box [.sl false (L cU8 q.2.b)] false,.box [i64 0,i64 0,.sl true (L cU8 ([])),.sl true (L cApi_Value ([]))] false])],Aa,⟨fun v hv=>by cases hv;exact Dy (PCon.pan (E9 ag) rfl) [0] (by decide) gs gs gs gs,trivial⟩,?_⟩ (fun fr_ hlen_ hfr_=>?_)
      ·simp only[go_sem]
      refine BR ?_;refine Gc ?_;replace h:=A8 h;obtain⟨aA,h,e_z_15088⟩:=h;obtain rfl:=AoR e_z_15088;obtain rfl:=AoR f;obtain rfl:=AoR h;refine DD rfl [0] (by decide) rfl ?_;simp only[go_sem]
     dsimp only at h;refine Cy hE [4] (fr':=[(4,.ref 1 0)]) (σ':=[.box [.sl false (L cU8 k.2.b)] false,.box [i64 k.1.Za,i64 k.1.N,.sl false (L cU8 k.1.B),.sl false (L cApi_Value k.1.L)] false]) ⟨_,(Ao (l:=[]) (m:=[(35,127,[.ref 0 0],[.box [.sl false (L cU8 c.b)] false,.box [i64 0,i64 0,.sl true (L cU8 ([])),.sl true (L cApi_Value ([]))] false],_,_)]) trivial ⟨(wc (PCon.to (E9 ag) rfl) [0]),trivial⟩),?_⟩ ?_
     ·simp only[go_sem]
     revert h;refine Sr <|Br <|Jr f <|?_
     intro h;obtain rfl:=AoR h;refine JC rfl (M4 (.inr rfl) ?_ rfl ?_)
     ·simp only[go_sem]
     ·show HX [0] _ [0] _;simp only[go_sem]
    ·refine T0 [0,4,36] ?_;refine Cd ?_ ?_
     ·refine T0 [0,4,5] ?_;refine Jo (fun(v:List UInt8×List AoG)=>(⟨Aq 56 [(4,.ref 1 0),(5,.ref 2 0)],[.box [.sl false (L cU8 v.1)] false,.box [i64 0,i64 0,.sl true (L cU8 ([])),.sl true (L cApi_Value ([]))] false,.box [i64 3,i64 0,.sl true (L cU8 ([])),.bs false 3 (v.2.length) 0 (v.2.length)] false,.buf 4 (L cApi_Value v.2) false]⟩:St)) ?_ ?_
      ·intro aB y;intro h;replace h:=A8 h;obtain⟨ar,ah,h⟩:=h;rcases ar with ai|s
       rotate_left
       ·dsimp only at h;refine Fz hE [] 1 _ (v:=.iface 170 (.int .i64 s.1)) (σ2:=[.box [.sl false (L cU8 s.2.b)] false,.box [i64 0,i64 0,.sl true (L cU8 ([])),.sl true (L cApi_Value ([]))] false,.box [i64 3,i64 0,.sl true (L cU8 ([])),.sl true (L cApi_Value ([]))] false]) (vals:=[]) rfl rfl ⟨_,[(41,91,[.ref 0 0],[.box [.sl false (L cU8 c.b)] false,.box [i64 0,i64 0,.sl true (L cU8 ([])),.sl true (L cApi_Value ([]))] false,.box [i64 3,i64 0,.sl true (L cU8 ([])),.sl true (L cApi_Value ([]))] false],.val (.iface 170 (.int .i64 s.1)),[.box [.sl false (L cU8 s.2.b)] false,.box [i64 0,i64 0,.sl true (L cU8 ([])),.sl true (L cApi_Value ([]))] false,.box [i64 3,i64 0,.sl true (L cU8 ([])),.sl true (L cApi_Value ([]))] false])],Aa,⟨fun v hv=>by cases hv;exact Dy (PCon.pan (Ax ah) rfl) [0] (by decide) gs gs gs gs,trivial⟩,?_⟩ (fun fr_ hlen_ hfr_=>?_)
        ·simp only[go_sem]
        refine Gc ?_;replace h:=A8 h;obtain⟨aC,h,e_z_15167⟩:=h;obtain rfl:=AoR e_z_15167;obtain rfl:=AoR y;refine BR ?_;refine Gc ?_;replace h:=A8 h;obtain⟨aD,h,e_z_15166⟩:=h;obtain rfl:=AoR e_z_15166;obtain rfl:=AoR f;obtain rfl:=AoR h;refine DD rfl [0] (by decide) rfl ?_;simp only[go_sem]
       dsimp only at h;refine Cy hE [0,4,5,6] (fr':=[(0,.ref 0 0),(4,.ref 1 0),(5,.ref 2 0),(6,u8 ai.1)]) (σ':=[.box [.sl false (L cU8 ai.2.b)] false,.box [i64 0,i64 0,.sl true (L cU8 ([])),.sl true (L cApi_Value ([]))] false,.box [i64 3,i64 0,.sl true (L cU8 ([])),.sl true (L cApi_Value ([]))] false]) ⟨_,(Ao (l:=[]) (m:=[(41,91,[.ref 0 0],[.box [.sl false (L cU8 c.b)] false,.box [i64 0,i64 0,.sl true (L cU8 ([])),.sl true (L cApi_Value ([]))] false,.box [i64 3,i64 0,.sl true (L cU8 ([])),.sl true (L cApi_Value ([]))] false],_,_)]) trivial ⟨(wc (PCon.to (Ax ah) rfl) [0]),trivial⟩),?_⟩ ?_
       ·simp only[go_sem]
       revert h;refine Sb ?_;refine Lo (fun⟨n,g,a⟩=>⟨Aq 56 [(0,.ref 0 0),(4,.ref 1 0),(5,.ref 2 0),(6,u8 n)],[.box [.sl false (L cU8 g)] false,.box [i64 0,i64 0,.sl true (L cU8 ([])),.sl true (L cApi_Value ([]))] false,.box [i64 3,i64 0,.sl true (L cU8 ([])),.bs false 3 (a.length) 0 (a.length)] false,.buf 4 (L cApi_Value a) false]⟩) ((Dm 2 3 4 rfl rfl).trans (ws [0,1,2,3])) ?_;rintro⟨n,g,a⟩ aE au z aa;show AO rec_ n g a=some au→_;unfold AO;refine Sq <|T0 [0,4,5,6,43] ?_
       refine Cd ?_ ?_
       ·refine Sk <|Tn <|Sq <|Sb <|?_
        intro h;replace h:=A8 h;obtain⟨av,aj,h⟩:=h;rcases av with ab|t
        rotate_left
        ·dsimp only at h;refine Abi hE KE [] rfl [[],[0],[],[],[2,3],[2,3,4],[0,1,2,3,4,5],[0,1,2,3,4,5,6],[0,1,2,3,4,5,6,7]] (by kernel_rfl) 4 (by kernel_rfl) (by kernel_rfl) _ (v:=.iface 170 (.int .i64 t.1)) (σ2:=[.box [.sl false (L cU8 t.2.b)] false,.box [i64 0,i64 0,.sl true (L cU8 ([])),.sl true (L cApi_Value ([]))] false,.box [i64 3,i64 0,.sl true (L cU8 ([])),.bs false 3 (a.length) 0 (a.length)] false,.buf 4 (L cApi_Value a) false]) (vals:=[]) rfl rfl ⟨_,[(50,90,[.ref 0 0,u8 n],[.box [.sl false (L cU8 g)] false,.box [i64 0,i64 0,.sl true (L cU8 ([])),.sl true (L cApi_Value ([]))] false,.box [i64 3,i64 0,.sl true (L cU8 ([])),.bs false 3 (a.length) 0 (a.length)] false,.buf 4 (L cApi_Value a) false],.val (.iface 170 (.int .i64 t.1)),[.box [.sl false (L cU8 t.2.b)] false,.box [i64 0,i64 0,.sl true (L cU8 ([])),.sl true (L cApi_Value ([]))] false,.box [i64 3,i64 0,.sl true (L cU8 ([])),.bs false 3 (a.length) 0 (a.length)] false,.buf 4 (L cApi_Value a) false])],Aa,⟨fun v hv=>by cases hv;exact Dy (PCon.pan (hrec aj) rfl) [0] (by decide) gs gs gs gs,trivial⟩,?_⟩ (fun fr_ hlen_ hfr_=>?_)
         ·simp only[go_sem]
         refine BR ?_;refine Oi ?_;refine Uc ?_;replace h:=A8 h;obtain⟨aF,h,e_z_15218⟩:=h;obtain rfl:=AoR e_z_15218;have ex_z_15218:=aa _ rfl;subst ex_z_15218;obtain rfl:=AoR z;refine BR ?_;refine Gc ?_;replace h:=A8 h;obtain⟨aG,h,e_z_15217⟩:=h;obtain rfl:=AoR e_z_15217;obtain rfl:=AoR y;refine BR ?_;refine Gc ?_;replace h:=A8 h;obtain⟨aH,h,e_z_15216⟩:=h;obtain rfl:=AoR e_z_15216;obtain rfl:=AoR f;obtain rfl:=AoR h;refine DD rfl [0] (by decide) rfl ?_;simp only[go_sem]
        dsimp only at h;replace h:=Rp h;obtain⟨ak,h⟩:=h;replace h:=AbB h;obtain⟨d,al,h⟩:=h;refine PJ hE KE [[],[0],[],[],[2,3],[2,3,4],[0,1,2,3,4,5],[0,1,2,3,4,5,6],[0,1,2,3,4,5,6,7]] (by kernel_rfl) 4 [0,1] [0,4,5,46] (by kernel_rfl) (IL Il) (fr':=[(0,.ref 0 0),(4,.ref 1 0),(5,.ref 2 0),(46,.ref 2 3)]) (σ':=[.box [.sl false (L cU8 ab.2.b)] false,.box [i64 0,i64 0,.sl true (L cU8 ([])),.sl true (L cApi_Value ([]))] false,.box [i64 3,i64 0,.sl true (L cU8 ([])),.bs false 3 (d.length) 0 (d.length)] false,.buf 4 (L cApi_Value d) false]) ⟨_,_,_,_,_,_,_,rfl,?_,(Ao (l:=[]) (m:=[(50,90,[.ref 0 0,u8 n],[.box [.sl false (L cU8 g)] false,.box [i64 0,i64 0,.sl true (L cU8 ([])),.sl true (L cApi_Value ([]))] false,.box [i64 3,i64 0,.sl true (L cU8 ([])),.bs false 3 (a.length) 0 (a.length)] false,.buf 4 (L cApi_Value a) false],_,_)]) trivial ⟨(wc (PCon.to (hrec aj) rfl) [0]),trivial⟩),?_⟩ ?_
        ·subst al;simp only[go_sem,ak]
        ·subst al;simp only[go_sem,ak]
        revert h;refine Bn <|Tn <|?_
        intro h;replace h:=A8 h;obtain⟨aw,am,h⟩:=h;rcases aw with an|u
        rotate_left
        ·dsimp only at h;refine GX hE [] 1 _ (v:=.iface 170 (.int .i64 u.1)) (σ2:=[.box [.sl false (L cU8 u.2.b)] false,.box [i64 0,i64 0,.sl true (L cU8 ([])),.sl true (L cApi_Value ([]))] false,.box [i64 3,i64 0,.sl true (L cU8 ([])),.bs false 3 (d.length) 0 (d.length)] false,.buf 4 (L cApi_Value d) false]) (vals:=[]) rfl rfl ⟨_,[(45,91,[.ref 0 0],[.box [.sl false (L cU8 ab.2.b)] false,.box [i64 0,i64 0,.sl true (L cU8 ([])),.sl true (L cApi_Value ([]))] false,.box [i64 3,i64 0,.sl true (L cU8 ([])),.bs false 3 (d.length) 0 (d.length)] false,.buf 4 (L cApi_Value d) false],.val (.iface 170 (.int .i64 u.1)),[.box [.sl false (L cU8 u.2.b)] false,.box [i64 0,i64 0,.sl true (L cU8 ([])),.sl true (L cApi_Value ([]))] false,.box [i64 3,i64 0,.sl true (L cU8 ([])),.bs false 3 (d.length) 0 (d.length)] false,.buf 4 (L cApi_Value d) false])],Aa,⟨fun v hv=>by cases hv;exact Dy (PCon.pan (Ax am) rfl) [0] (by decide) gs gs gs gs,trivial⟩,?_⟩ (fun fr_ hlen_ hfr_=>?_)
         ·simp only[go_sem]
         refine Uc ?_;replace h:=A8 h;obtain⟨aI,h,e_z_15228⟩:=h;obtain rfl:=AoR e_z_15228;have ex_z_15228:=aa _ rfl;subst ex_z_15228;obtain rfl:=AoR z;refine BR ?_;refine Gc ?_;replace h:=A8 h;obtain⟨aJ,h,e_z_15227⟩:=h;obtain rfl:=AoR e_z_15227;obtain rfl:=AoR y;refine BR ?_;refine Gc ?_;replace h:=A8 h;obtain⟨aK,h,e_z_15226⟩:=h;obtain rfl:=AoR e_z_15226;obtain rfl:=AoR f;obtain rfl:=AoR h;refine DD rfl [0] (by decide) rfl ?_;simp only[go_sem]
        dsimp only at h;refine Jg hE AaI [0,4,5,6] (fr':=[(0,.ref 0 0),(4,.ref 1 0),(5,.ref 2 0),(6,u8 an.1)]) (σ':=[.box [.sl false (L cU8 an.2.b)] false,.box [i64 0,i64 0,.sl true (L cU8 ([])),.sl true (L cApi_Value ([]))] false,.box [i64 3,i64 0,.sl true (L cU8 ([])),.bs false 3 (d.length) 0 (d.length)] false,.buf 4 (L cApi_Value d) false]) ⟨_,(Ao (l:=[]) (m:=[(45,91,[.ref 0 0],[.box [.sl false (L cU8 ab.2.b)] false,.box [i64 0,i64 0,.sl true (L cU8 ([])),.sl true (L cApi_Value ([]))] false,.box [i64 3,i64 0,.sl true (L cU8 ([])),.bs false 3 (d.length) 0 (d.length)] false,.buf 4 (L cApi_Value d) false],_,_)]) trivial ⟨(wc (PCon.to (Ax am) rfl) [0]),trivial⟩),?_⟩ ?_
        ·simp only[go_sem]
        revert h;exact Ln (ws [0,1,2,3])
       ·refine Sx <|Tx <|Lx aa z <|Bx <|?_
        exact Jn ((ws (l':=[(4,.ref 1 0),(5,.ref 2 0)]) (σ':=[.box [.sl false (L cU8 g)] false,.box [i64 0,i64 0,.sl true (L cU8 ([])),.sl true (L cApi_Value ([]))] false,.box [i64 3,i64 0,.sl true (L cU8 ([])),.bs false 3 (a.length) 0 (a.length)] false,.buf 4 (L cApi_Value a) false]) [0,1,2,3]).trans (ws [0,1,2,3]))
      rintro⟨aL,aM⟩;refine T0 [4] ?_;refine Sr <|Br <|Jr f <|?_
      intro h;obtain rfl:=AoR h;refine JC rfl (M4 (.inr rfl) ?_ rfl ?_)
      ·simp only[go_sem]
      ·show HX [0] _ [0] _;simp only[go_sem]
     ·exact Sk <|Bn <|Jn (ws [0,1])
 intro _;intro h;refine GX hE [] 1 _ (v:=.iface 170 (.int .i64 4)) (σ2:=[.box [.sl false (L cU8 c.b)] false,.box [i64 0,i64 0,.sl true (L cU8 ([])),.sl true (L cApi_Value ([]))] false]) (vals:=[]) rfl rfl ⟨_,[],Aa,trivial,?_⟩ (fun fr_ hlen_ hfr_=>?_)
 ·simp only[go_sem]
 obtain rfl:=AoR h;refine DD rfl [0] (by decide) rfl ?_;simp only[go_sem]
theorem GF(n:Nat):∀{a:AoJ} {c:UInt8} {r:(AoG×AoJ)⊕(Int×AoJ)},A1 n a c=some r→PCon B 90 [.ref 0 0,u8 c] [.box [.sl false (L cU8 a.b)] false] (BX r):=by
 induction n with
 |zero=>intro a c r h;cases h
 |succ n ih=>intro a c r h;exact GC ih h
theorem Et{a:AoJ}{c:UInt8}{r:(AoG×AoJ)⊕(Int×AoJ)}(h:CH a c=some r):PCon B 90 [.ref 0 0,u8 c] [.box [.sl false (L cU8 a.b)] false] (BX r):=GF _ h
theorem Gm{a0:AV}{a1:AV}{a2:AV}{a3:AV}{b0:AV}{x_:Int}:AmI B 89 (Fu 2) [.box [a0,a1,a2,a3] false,.box [b0] false] (.panicking (VZ (.iface 170 (.int .i64 x_)))) (.panicking [{ v:=(.iface 170 (.int .i64 x_)),recovered:=true }]) [.box [i64 0,i64 0,.sl true (L cU8 ([])),.sl true (L cApi_Value ([]))] false,.box [i64 x_] false]:=by
  intro F w g vs hm ha;have hE:=ok.env F;obtain⟨vs⟩:=vs
  match vs,ha with
  | [p_,q_],⟨hp,hq,_⟩=>
    refine callsD_of_wpS Tryz.func89 rfl fun c₀ cs hu=>?_
    refine wpS_seq (wpS_region ?_);show wpOpsS B.P _ _ [0,1,2,3,4,5,6] _ _ _;refine Vd _ (.iface 170 (.int .i64 x_)) [] ⟨#[p_,q_,undef,undef,undef,(.iface 170 (.int .i64 x_)),undef,undef,undef,undef,undef,undef],[]⟩ rfl rfl rfl hu rfl ?_;refine DT (w':=w) _ (.tuple #[.int .i64 x_,.bool true]) ⟨#[p_,q_,undef,undef,undef,(.iface 170 (.int .i64 x_)),(.tuple #[.int .i64 x_,.bool true]),undef,undef,undef,undef,undef],[]⟩ rfl rfl ?_ rfl ?_
    · show((Instr.typeAssert (.iface 170 (.int .i64 x_)) 20 170 true).run B.P w).andThen (fun v w=>Result.ok (Next.value v) w)=_
      have h2:(Instr.typeAssert (.iface 170 (.int .i64 x_)) 20 170 true).run B.P w=_:=Pv hE (Agm F) (.int .i64 x_) 20 w;rw[h2];rfl
    refine DT (w':=w) _ (.tuple #[.int .i64 x_,.bool true]) ⟨#[p_,q_,undef,undef,(.tuple #[.int .i64 x_,.bool true]),(.iface 170 (.int .i64 x_)),(.tuple #[.int .i64 x_,.bool true]),undef,undef,undef,undef,undef],[]⟩ rfl rfl rfl rfl ?_;refine DT (w':=w) _ (.int .i64 x_) ⟨#[p_,q_,undef,undef,(.tuple #[.int .i64 x_,.bool true]),(.iface 170 (.int .i64 x_)),(.tuple #[.int .i64 x_,.bool true]),(.int .i64 x_),undef,undef,undef,undef],[]⟩ rfl rfl rfl rfl ?_;refine DT (w':=w) _ (.bool true) ⟨#[p_,q_,undef,undef,(.tuple #[.int .i64 x_,.bool true]),(.iface 170 (.int .i64 x_)),(.tuple #[.int .i64 x_,.bool true]),(.int .i64 x_),(.bool true),undef,undef,undef],[]⟩ rfl rfl rfl rfl ?_;refine DT (w':=w) _ (.int .i64 x_) ⟨#[p_,q_,(.int .i64 x_),undef,(.tuple #[.int .i64 x_,.bool true]),(.iface 170 (.int .i64 x_)),(.tuple #[.int .i64 x_,.bool true]),(.int .i64 x_),(.bool true),undef,undef,undef],[]⟩ rfl rfl rfl rfl ?_;refine DT (w':=w) _ (.bool true) ⟨#[p_,q_,(.int .i64 x_),(.bool true),(.tuple #[.int .i64 x_,.bool true]),(.iface 170 (.int .i64 x_)),(.tuple #[.int .i64 x_,.bool true]),(.int .i64 x_),(.bool true),undef,undef,undef],[]⟩ rfl rfl rfl rfl ?_;refine Wo ?_;refine SX (B:=B) (F:=F) (g:=g) (w:=w) (fn:=Tryz.f89) (c₀:=c₀) (a:=⟨#[p_,q_,(.int .i64 x_),(.bool true),(.tuple #[.int .i64 x_,.bool true]),(.iface 170 (.int .i64 x_)),(.tuple #[.int .i64 x_,.bool true]),(.int .i64 x_),(.bool true),undef,undef,undef],[]⟩) (n:=2) (N:=12) (l:=[(0,.ref 0 0),(1,.ref 1 0),(2,i64 x_),(3,.bool true)]) rfl rfl rfl rfl hm ?_ ?_
    · intro p h
      simp only[Ao9,ArR,or_false]at h;rcases h with rfl|rfl|rfl|rfl
      · exact hp
      · exact hq
      · exact .int _ _ _
      · exact .bool _ _
    · refine Cy hE [0,1,2,3,9] (fr':=[(0,.ref 0 0),(1,.ref 1 0),(2,i64 x_),(3,.bool true),(9,.bool true)]) (σ':=[.box [a0,a1,a2,a3] false,.box [b0] false]) ⟨_,Aa,by simp only[go_sem]⟩ ?_
      refine Ix (b:=true) rfl (by decide) (fun hb=>?_) (fun hb=>?_)
      · refine Aak hE [] (fr':=[]) (σ':=[.box [i64 0,i64 0,.sl true (L cU8 ([])),.sl true (L cApi_Value ([]))] false,.box [i64 x_] false]) ⟨_,Aa,by simp only[go_sem]⟩ (fun _=>⟨rfl,rfl⟩)
      · cases hb
theorem CK{a0:AV}{a1:AV}{a2:AV}{a3:AV}{b0:AV}:AmI B 89 (Fu 2) [.box [a0,a1,a2,a3] false,.box [b0] false] .returning .returning [.box [a0,a1,a2,a3] false,.box [b0] false]:=by
  intro F w g vs hm ha;have hE:=ok.env F;obtain⟨vs⟩:=vs
  match vs,ha with
  | [p_,q_],⟨hp,hq,_⟩=>
    refine callsD_of_wpS Tryz.func89 rfl fun c₀ cs hu=>?_
    refine wpS_seq (wpS_region ?_);show wpOpsS B.P _ _ [0,1,2,3,4,5,6] _ _ _;obtain⟨u_,hu_⟩:=OV hE (Agm F) 20 w;refine ZV _ ⟨#[p_,q_,undef,undef,undef,.nilIface,undef,undef,undef,undef,undef,undef],[]⟩ rfl rfl rfl hu rfl ?_;refine DT (w':=w) _ (.tuple #[u_,.bool false]) ⟨#[p_,q_,undef,undef,undef,.nilIface,(.tuple #[u_,.bool false]),undef,undef,undef,undef,undef],[]⟩ rfl rfl ?_ rfl ?_
    · show((Instr.typeAssert .nilIface 20 170 true).run B.P w).andThen (fun v w=>Result.ok (Next.value v) w)=_
      have h2:(Instr.typeAssert .nilIface 20 170 true).run B.P w=_:=hu_;rw[h2];rfl
    refine DT (w':=w) _ (.tuple #[u_,.bool false]) ⟨#[p_,q_,undef,undef,(.tuple #[u_,.bool false]),.nilIface,(.tuple #[u_,.bool false]),undef,undef,undef,undef,undef],[]⟩ rfl rfl rfl rfl ?_;refine DT (w':=w) _ u_ ⟨#[p_,q_,undef,undef,(.tuple #[u_,.bool false]),.nilIface,(.tuple #[u_,.bool false]),u_,undef,undef,undef,undef],[]⟩ rfl rfl rfl rfl ?_;refine DT (w':=w) _ (.bool false) ⟨#[p_,q_,undef,undef,(.tuple #[u_,.bool false]),.nilIface,(.tuple #[u_,.bool false]),u_,(.bool false),undef,undef,undef],[]⟩ rfl rfl rfl rfl ?_;refine DT (w':=w) _ u_ ⟨#[p_,q_,u_,undef,(.tuple #[u_,.bool false]),.nilIface,(.tuple #[u_,.bool false]),u_,(.bool false),undef,undef,undef],[]⟩ rfl rfl rfl rfl ?_;refine DT (w':=w) _ (.bool false) ⟨#[p_,q_,u_,(.bool false),(.tuple #[u_,.bool false]),.nilIface,(.tuple #[u_,.bool false]),u_,(.bool false),undef,undef,undef],[]⟩ rfl rfl rfl rfl ?_;refine Wo ?_;refine SX (B:=B) (F:=F) (g:=g) (w:=w) (fn:=Tryz.f89) (c₀:=c₀) (a:=⟨#[p_,q_,u_,(.bool false),(.tuple #[u_,.bool false]),.nilIface,(.tuple #[u_,.bool false]),u_,(.bool false),undef,undef,undef],[]⟩) (n:=2) (N:=12) (l:=[(0,.ref 0 0),(1,.ref 1 0),(3,.bool false)]) rfl rfl rfl rfl hm ?_ ?_
    · intro p h
      simp only[Ao9,ArR,or_false]at h;rcases h with rfl|rfl|rfl
      · exact hp
      · exact hq
      · exact .bool _ _
    · refine Cy hE [0,1,3,9] (fr':=[(0,.ref 0 0),(1,.ref 1 0),(3,.bool false),(9,.bool false)]) (σ':=[.box [a0,a1,a2,a3] false,.box [b0] false]) ⟨_,Aa,by simp only[go_sem]⟩ ?_
      refine Ix (b:=false) rfl (by decide) (fun hb=>?_) (fun hb=>?_)
      · cases hb
      · exact VH ⟨rfl,rfl⟩
theorem LS{c:List UInt8}{r:AoG×Int}(h:BQ c=some r):Con B 52 [.sl false (L cU8 c)] [] (fun r' σ'=>r'=.tup [.agg [i64 r.1.Za,i64 r.1.N,.sl false (L cU8 r.1.B),.sl false (L cApi_Value r.1.L)],i64 r.2]∧σ'=[]):=by
 refine YK (cf:=89) (rs:=[.cell 2 105,.cell 3 57]) (N:=35) (t7:=7) (m:=2) (rfr:=[(2,.ref 0 0),(3,.ref 1 0)]) (fr1:=[(3,.ref 1 0),(2,.ref 0 0),(0,.sl false (L cU8 c))]) (σ1:=[.box [i64 0,i64 0,.sl true (L cU8 ([])),.sl true (L cApi_Value ([]))] false,.box [i64 0] false]) ok Tryz.func52 rfl (by decide +kernel) rfl rfl (Apm rfl) rfl rfl rfl rfl rfl rfl (by decide) (fun F=>?_) rfl ?_ rfl Tryz.func89 rfl (by decide +kernel) (fun F D=>?_)
 ·have hE:=ok.env F;refine(Dv _ _).symm.trans ?_;simp only[go_sem];rfl
 ·simp only[go_sem];rfl
 have hE:({ B.env F with D:=D }:Env).Ok:=⟨(ok.env F).desc,(ok.env F).info⟩;unfold BQ at h;refine DS (En _ _ [0,2,3] _ _) ?_;show Run _ 2 _ ⟨Aq 35 [(0,.sl false (L cU8 c)),(2,.ref 0 0),(3,.ref 1 0)],[.box [i64 0,i64 0,.sl true (L cU8 ([])),.sl true (L cApi_Value ([]))] false,.box [i64 0] false]⟩ _;revert h;refine Sq <|T0 [0,2,3,10] ?_
 refine Cd ?_ ?_
 ·refine T0 [2,3] ?_;refine Sr <|Tr <|?_
  intro h;obtain rfl:=AoR h;refine⟨_,[.box [i64 0,i64 0,.sl false (L cU8 ([])),.sl false (L cApi_Value ([]))] false,.box [i64 2] false],_,[.box [i64 0,i64 0,.sl false (L cU8 ([])),.sl false (L cApi_Value ([]))] false,.box [i64 2] false],[.agg [i64 0,i64 0,.sl false (L cU8 ([])),.sl false (L cApi_Value ([]))],i64 2],Hw _ _,.inl ⟨.inr rfl,rfl⟩,?_,CK,rfl,?_,AgN ?_,?_⟩
  ·show HX [0,1] _ [0,1] _;simp only[go_sem]
  ·simp only[go_sem]
  ·simp only[go_sem]
  ·simp only[go_sem]
 ·refine Sk <|Tn <|T0 [2,3,4] ?_
  intro h;replace h:=A8 h;obtain⟨j,g,h⟩:=h;rcases j with f|d
  rotate_left
  ·dsimp only at h;refine Fz hE [2,3] 2 _ (v:=.iface 170 (.int .i64 d.1)) (σ2:=[.box [i64 0,i64 0,.sl true (L cU8 ([])),.sl true (L cApi_Value ([]))] false,.box [i64 0] false,.box [.sl false (L cU8 d.2.b)] false]) (vals:=[.ref 0 0,.ref 1 0]) rfl rfl ⟨_,[(17,91,[.ref 2 0],[.box [i64 0,i64 0,.sl true (L cU8 ([])),.sl true (L cApi_Value ([]))] false,.box [i64 0] false,.box [.sl false (L cU8 c)] false],.val (.iface 170 (.int .i64 d.1)),[.box [i64 0,i64 0,.sl true (L cU8 ([])),.sl true (L cApi_Value ([]))] false,.box [i64 0] false,.box [.sl false (L cU8 d.2.b)] false])],Aa,⟨fun v hv=>by cases hv;exact Dy (PCon.pan (Ax g) rfl) [2] (by decide) gs gs gs gs,trivial⟩,?_⟩ (fun fr_ hlen_ hfr_=>?_)
   ·simp only[go_sem]
   obtain rfl:=AoR h;refine⟨_,[.box [i64 0,i64 0,.sl false (L cU8 ([])),.sl false (L cApi_Value ([]))] false,.box [i64 0] false],_,[.box [i64 0,i64 0,.sl true (L cU8 ([])),.sl true (L cApi_Value ([]))] false,.box [i64 d.1] false],[.agg [i64 0,i64 0,.sl true (L cU8 ([])),.sl true (L cApi_Value ([]))],i64 d.1],hlen_,.inr ⟨_,rfl,rfl⟩,?_,Gm,rfl,?_,AgN ?_,?_⟩
   ·show HX [0,1] _ [0,1] _;simp only[go_sem]
   ·simp only[Ap1,Aq6,Arx]at hfr_;exact⟨hfr_.1,hfr_.2.1,trivial⟩
   ·simp only[go_sem]
   ·simp only[go_sem]
  dsimp only at h;replace h:=A8 h;obtain⟨k,i,h⟩:=h;rcases k with a|e
  rotate_left
  ·dsimp only at h;refine Fz hE [2,3] 3 _ (v:=.iface 170 (.int .i64 e.1)) (σ2:=[.box [i64 0,i64 0,.sl true (L cU8 ([])),.sl true (L cApi_Value ([]))] false,.box [i64 0] false,.box [.sl false (L cU8 e.2.b)] false]) (vals:=[.ref 0 0,.ref 1 0]) rfl rfl ⟨_,[(18,90,[.ref 2 0,u8 f.1],[.box [i64 0,i64 0,.sl true (L cU8 ([])),.sl true (L cApi_Value ([]))] false,.box [i64 0] false,.box [.sl false (L cU8 f.2.b)] false],.val (.iface 170 (.int .i64 e.1)),[.box [i64 0,i64 0,.sl true (L cU8 ([])),.sl true (L cApi_Value ([]))] false,.box [i64 0] false,.box [.sl false (L cU8 e.2.b)] false])],(Ao (l:=[]) (m:=[(17,91,[.ref 2 0],[.box [i64 0,i64 0,.sl true (L cU8 ([])),.sl true (L cApi_Value ([]))] false,.box [i64 0] false,.box [.sl false (L cU8 c)] false],_,_)]) trivial ⟨(wc (PCon.to (Ax g) rfl) [2]),trivial⟩),⟨fun v hv=>by cases hv;exact Dy (PCon.pan (Et i) rfl) [2] (by decide) gs gs gs gs,trivial⟩,?_⟩ (fun fr_ hlen_ hfr_=>?_)
   ·simp only[go_sem]
   obtain rfl:=AoR h;refine⟨_,[.box [i64 0,i64 0,.sl false (L cU8 ([])),.sl false (L cApi_Value ([]))] false,.box [i64 0] false],_,[.box [i64 0,i64 0,.sl true (L cU8 ([])),.sl true (L cApi_Value ([]))] false,.box [i64 e.1] false],[.agg [i64 0,i64 0,.sl true (L cU8 ([])),.sl true (L cApi_Value ([]))],i64 e.1],hlen_,.inr ⟨_,rfl,rfl⟩,?_,Gm,rfl,?_,AgN ?_,?_⟩
   ·show HX [0,1] _ [0,1] _;simp only[go_sem]
   ·simp only[Ap1,Aq6,Arx]at hfr_;exact⟨hfr_.1,hfr_.2.1,trivial⟩
   ·simp only[go_sem]
   ·simp only[go_sem]
  dsimp only at h;refine Cy hE [2,3,4] (fr':=[(2,.ref 0 0),(3,.ref 1 0),(4,.ref 2 0)]) (σ':=[.box [i64 a.1.Za,i64 a.1.N,.sl false (L cU8 a.1.B),.sl false (L cApi_Value a.1.L)] false,.box [i64 0] false,.box [.sl false (L cU8 a.2.b)] false]) ⟨_,(Ao (l:=[]) (m:=[(17,91,[.ref 2 0],[.box [i64 0,i64 0,.sl true (L cU8 ([])),.sl true (L cApi_Value ([]))] false,.box [i64 0] false,.box [.sl false (L cU8 c)] false],_,_),(18,90,[.ref 2 0,u8 f.1],[.box [i64 0,i64 0,.sl true (L cU8 ([])),.sl true (L cApi_Value ([]))] false,.box [i64 0] false,.box [.sl false (L cU8 f.2.b)] false],_,_)]) trivial ⟨(wc (PCon.to (Ax g) rfl) [2]),(wc (PCon.to (Et i) rfl) [2]),trivial⟩),?_⟩ ?_
  ·simp only[go_sem]
  revert h;refine Sq <|T0 [2,3,24] ?_
  refine Cd ?_ ?_
  ·refine T0 [2,3] ?_;refine Sr <|Tr <|?_
   intro h;obtain rfl:=AoR h;refine⟨_,[.box [i64 0,i64 0,.sl false (L cU8 ([])),.sl false (L cApi_Value ([]))] false,.box [i64 4] false],_,[.box [i64 0,i64 0,.sl false (L cU8 ([])),.sl false (L cApi_Value ([]))] false,.box [i64 4] false],[.agg [i64 0,i64 0,.sl false (L cU8 ([])),.sl false (L cApi_Value ([]))],i64 4],Hw _ _,.inl ⟨.inr rfl,rfl⟩,?_,CK,rfl,?_,AgN ?_,?_⟩
   ·show HX [0,1] _ [0,1] _;simp only[go_sem]
   ·simp only[go_sem]
   ·simp only[go_sem]
   ·simp only[go_sem]
  ·refine Sk <|Tn <|Sq <|Bd fun o n =>Te [2,3,5] (o1 28 (Ic n)) Ev ?_
   refine T0 [2,3,32] ?_;refine Cd ?_ ?_
   ·refine T0 [2,3] ?_;refine Sr <|Tr <|?_
    intro h;obtain rfl:=AoR h;refine⟨_,[.box [i64 0,i64 0,.sl false (L cU8 ([])),.sl false (L cApi_Value ([]))] false,.box [i64 2] false],_,[.box [i64 0,i64 0,.sl false (L cU8 ([])),.sl false (L cApi_Value ([]))] false,.box [i64 2] false],[.agg [i64 0,i64 0,.sl false (L cU8 ([])),.sl false (L cApi_Value ([]))],i64 2],Hw _ _,.inl ⟨.inr rfl,rfl⟩,?_,CK,rfl,?_,AgN ?_,?_⟩
    ·show HX [0,1] _ [0,1] _;simp only[go_sem]
    ·simp only[go_sem]
    ·simp only[go_sem]
    ·simp only[go_sem]
   ·refine Sk <|Tn <|T0 [2,3] ?_
    refine Sr ?_;intro h;obtain rfl:=AoR h;refine⟨_,[.box [i64 a.1.Za,i64 a.1.N,.sl false (L cU8 a.1.B),.sl false (L cApi_Value a.1.L)] false,.box [i64 0] false],_,[.box [i64 a.1.Za,i64 a.1.N,.sl false (L cU8 a.1.B),.sl false (L cApi_Value a.1.L)] false,.box [i64 0] false],[.agg [i64 a.1.Za,i64 a.1.N,.sl false (L cU8 a.1.B),.sl false (L cApi_Value a.1.L)],i64 0],Hw _ _,.inl ⟨.inr rfl,rfl⟩,?_,CK,rfl,?_,AgN ?_,?_⟩
    ·show HX [0,1] _ [0,1] _;simp only[go_sem]
    ·simp only[go_sem]
    ·simp only[go_sem]
    ·simp only[go_sem]
theorem Pr{rec_:AoG→AoG→Option (Bool)}(hrec:∀{a:AoG} {b:AoG} {r:Bool},rec_ a b=some r→Con B 93 [.agg [i64 a.Za,i64 a.N,.sl false (L cU8 a.B),.sl false (L cApi_Value a.L)],.agg [i64 b.Za,i64 b.N,.sl false (L cU8 b.B),.sl false (L cApi_Value b.L)]] [] (fun r' σ'=>r'=.bool r∧σ'=[])){a:AoG}{b:AoG}{r:Bool}(h:GV rec_ a b=some r):Con B 93 [.agg [i64 a.Za,i64 a.N,.sl false (L cU8 a.B),.sl false (L cApi_Value a.L)],.agg [i64 b.Za,i64 b.N,.sl false (L cU8 b.B),.sl false (L cApi_Value b.L)]] [] (fun r' σ'=>r'=.bool r∧σ'=[]):=by
 refine Kl (N:=61) (rs:=[.tmp 4]) ok Tryz.func93 rfl (by decide +kernel) rfl rfl (Apm rfl) (fun F=>?_);have hE:=ok.env F;unfold GV at h;show Run (B.env F) 0 _ ⟨Aq 61 [(0,.agg [i64 a.Za,i64 a.N,.sl false (L cU8 a.B),.sl false (L cApi_Value a.L)]),(1,.agg [i64 b.Za,i64 b.N,.sl false (L cU8 b.B),.sl false (L cApi_Value b.L)])],[]⟩ _;refine FT ?_;revert h;refine T0 [2,3] ?_;refine Sq ?_;refine Tw [2,3,41] (fun j=>⟨Aq 61 [(2,.ref 0 0),(3,.ref 1 0),(41,.bool j)],[.box [i64 a.Za,i64 a.N,.sl false (L cU8 a.B),.sl false (L cApi_Value a.L)] false,.box [i64 b.Za,i64 b.N,.sl false (L cU8 b.B),.sl false (L cApi_Value b.L)] false]⟩) ?_ ?_
 ·intro _;refine Sp (fun c=>?_) fun c=>?_
  ·exact Lf Aa (Ew1 c) (ws [0,1])
  ·refine Bd fun s e=>?_
   refine Sp (fun d=>?_) fun d=>?_
   ·exact Lf (o1 14 (C6 e)) (Ew2 c d) (ws [0,1])
   ·refine Sp (fun f=>?_) fun f=>?_
    ·exact Lf (o1 14 (C6 e)) (Ew3 c d f) (ws [0,1])
    ·refine Sp (fun g=>?_) fun g=>?_
     ·exact Lf (o1 14 (C6 e)) (Ew4 c d f g) (ws [0,1])
     ·exact Lf (o1 14 (C6 e)) (Ew4 c d f g) (ws [0,1])
 intro j;refine Cd ?_ ?_
 ·refine T0 [4] ?_;exact Sr <|Tr <|Rr
 ·refine Sk <|Tn <|?_
  refine Jo (fun _=>⟨Aq 61 [],[]⟩) ?_ ?_
  ·intro t m;refine T0 [2,3,44,45] ?_;refine Sb ?_;refine Lo (fun i=>⟨Aq 61 [(2,.ref 0 0),(3,.ref 1 0),(44,i64 (a.L.length:Int)),(45,i64 i)],[.box [i64 a.Za,i64 a.N,.sl false (L cU8 a.B),.sl false (L cApi_Value a.L)] false,.box [i64 b.Za,i64 b.N,.sl false (L cU8 b.B),.sl false (L cApi_Value b.L)] false]⟩) (ws [0,1]) ?_;rintro i u n k l;show FR a b rec_ i=some n→_;unfold FR;refine T0 [2,3,44,45,46] ?_;refine Sq <|Cd ?_ ?_
   ·refine Sk <|Tn <|Sq <|Sb <|T0 [2,3,5,44,45] ?_
    refine Ck fun o =>Ck fun p =>Bd fun v q =>De [[],[0],[],[0,1,2],[0,1,2,3],[],[5],[],[5,6,7],[5,6,7,8],[0,1,2,3,4,5,6,7,8,9],[0,1,2,3,4,5,6,7,8,9,10]] [2,3,44,45,59] (o1 58 (hrec q)) (Ew2 (qR o) (qR p)) ?_
    refine Cd ?_ ?_
    ·refine T0 [4] ?_;exact Sr <|Br <|Tr <|Lr l k <|Br <|Jr m <|Rr
    ·refine Sk <|Bn <|Tn <|F0 [2,3,44,45] ?_
     exact Ln (ws [0,1])
   ·refine Sx <|Tx <|Lx l k <|Bx <|?_
    exact Jn ((ws (l':=[]) (σ':=[]) []).trans (ws []))
  intro _;refine T0 [4] ?_;exact Sr <|Rr
theorem Pt(n:Nat):∀{a:AoG} {b:AoG} {r:Bool},FA n a b=some r→Con B 93 [.agg [i64 a.Za,i64 a.N,.sl false (L cU8 a.B),.sl false (L cApi_Value a.L)],.agg [i64 b.Za,i64 b.N,.sl false (L cU8 b.B),.sl false (L cApi_Value b.L)]] [] (fun r' σ'=>r'=.bool r∧σ'=[]):=by
 induction n with
 |zero=>intro a b r h;cases h
 |succ n ih=>intro a b r h;exact Pr ih h
theorem SA{a:AoG}{b:AoG}{r:Bool}(h:Mm a b=some r):Con B 93 [.agg [i64 a.Za,i64 a.N,.sl false (L cU8 a.B),.sl false (L cApi_Value a.L)],.agg [i64 b.Za,i64 b.N,.sl false (L cU8 b.B),.sl false (L cApi_Value b.L)]] [] (fun r' σ'=>r'=.bool r∧σ'=[]):=Pt _ h
theorem KK{a r}(h:BW a=some r):Con B 53 [.agg [i64 a.Za,i64 a.N,.sl false (L cU8 a.B),.sl false (L cApi_Value a.L)]] [] (fun r' σ'=>r'=.tup [.agg (AB r.1),i64 r.2]∧σ'=[]):=by
 refine Cw 114 [.cell 2 47,.tmp 3] Tryz.func53 (fun F hE=>?_) h;unfold BW;refine T0 [1,2] ?_;refine Te [1,2,4] (Ao (l:=[]) (m:=[(8,92,[.ref 1 0],[.box [i64 a.Za,i64 a.N,.sl false (L cU8 a.B),.sl false (L cApi_Value a.L)] false,.box [i64 0,i64 0,i64 0,i64 0,i64 0,i64 0,i64 0,i64 0,i64 0,i64 0,i64 0,i64 0,i64 0,i64 0,.str ([]:List UInt8),.sl true (L Ah ([]))] false],.agg [.ref 1 3,.ref 1 4,.ref 1 5,.ref 1 6,.ref 1 7,.ref 1 8,.ref 1 9,.ref 1 10,.ref 1 11,.ref 1 12,.ref 1 13],[.box [i64 a.Za,i64 a.N,.sl false (L cU8 a.B),.sl false (L cApi_Value a.L)] false,.box [i64 0,i64 0,i64 0,i64 0,i64 0,i64 0,i64 0,i64 0,i64 0,i64 0,i64 0,i64 0,i64 0,i64 0,.str ([]:List UInt8),.sl true (L Ah ([]))] false])]) trivial ⟨HQ,trivial⟩) Ev ?_;refine Sq ?_;refine Tw [1,2,4,21] (fun i=>⟨Aq 114 [(1,.ref 0 0),(2,.ref 1 0),(4,.ref 2 0),(21,.bool i)],[.box [i64 a.Za,i64 a.N,.sl false (L cU8 a.B),.sl false (L cApi_Value a.L)] false,.box [i64 0,i64 0,i64 0,i64 0,i64 0,i64 0,i64 0,i64 0,i64 0,i64 0,i64 0,i64 0,i64 0,i64 0,.str ([]:List UInt8),.sl true (L Ah ([]))] false,.box [.ref 1 3,.ref 1 4,.ref 1 5,.ref 1 6,.ref 1 7,.ref 1 8,.ref 1 9,.ref 1 10,.ref 1 11,.ref 1 12,.ref 1 13] false]⟩) ?_ ?_
 ·intro _;refine Sp (fun f=>?_) fun f=>?_
  ·exact Lf Aa (Ew1 f) (ws [0,1,2])
  ·refine Ck fun aa=>?_
   exact Lf Aa (Ew2 f (qL aa)) (ws [0,1,2])
 intro i;refine Cd ?_ ?_
 ·refine T0 [2,3] ?_;exact Sr <|Tr <|Rr
 ·refine Sk <|Tn <|Ck fun ab =>Te [1,2,4] Aa (Ew1 (qL ab)) ?_
  refine Ck fun ac =>Ck fun ad =>Ck fun ae =>Ck fun af =>Lt fun b ag =>Lt fun c ah =>De (σ':=[_,.box [i64 ((nth a.L 0).N),i64 b,i64 c,i64 0,i64 0,i64 0,i64 0,i64 0,i64 0,i64 0,i64 0,i64 0,i64 0,i64 0,.str ([]:List UInt8),.sl true (L Ah ([]))] false,_]) [[],[0],[0,1],[0,1,2],[0,1,2,3],[0,1,2,3,4],[0,1,2,3,4,5],[0,1,2,3,4,5,6],[],[8],[8,9],[8,9,10],[8,9,10,11],[8,9,10,11,12],[8,9,10,11,12,13],[8,9,10,11,12,13,14],[0,1,2,3,4,5,6,7,8,9,10,11,12,13,14,15],[0,1,2,3,4,5,6,7,8,9,10,11,12,13,14,15,16],[0,1,2,3,4,5,6,7,8,9,10,11,12,13,14,15,16,17]] [1,2,4] Aa (Ev (by simp only[go_sem,qL ac,qL ad,qL ae,qL af,ag,ah];exact AP)) ?_
  refine Ja (fun _=>⟨Aq 114 [(1,.ref 0 0),(2,.ref 1 0)],[.box [i64 a.Za,i64 a.N,.sl false (L cU8 a.B),.sl false (L cApi_Value a.L)] false,.box [i64 ((nth a.L 0).N),i64 b,i64 c,i64 ((nth a.L 2).N),i64 ((nth a.L 3).N),i64 ((nth a.L 4).N),i64 ((nth a.L 5).N),i64 ((nth a.L 6).N),i64 ((nth a.L 7).N),i64 ((nth a.L 8).N),i64 ((nth a.L 9).N),i64 ((nth a.L 10).N),i64 ((nth a.L 11).N),i64 ((nth a.L 12).N),.str ([]:List UInt8),.sl true (L Ah ([]))] false]⟩) ?_ ?_
  ·intro bc;refine T0 [1,2,4,47] ?_;refine Sb ?_;refine Ul 17 ?_;refine Ug (m:=16) ?_;refine T0 [1,2,4,47,48] ?_;refine Sq <|Ct <|Sk <|Tn <|Sq <|Sb <|T0 [1,2,4,5,47] ?_
   have j:InR 0 11:=by decide
   have ai:w64 2=2:=by decide
   refine Ck fun aj =>Ge [[],[0],[0,1],[],[3],[],[5],[3,4,5,6],[3,4,5,6,7],[3,4,5,6,7,8],[0,1,2,3,4,5,6,7,8,9],[0,1,2,3,4,5,6,7,8,9,10]] [1,2,4,47] Aa (Ev (by simp only[go_sem,j,j.2,ai,qL aj];exact AP)) ?_
   refine Bn <|Tn <|?_
   have ak:w64 1=1:=by decide
   refine Fe [1,2,4,47] Aa (Ew1 ak) ?_;refine Un ?_;refine Ug (m:=15) ?_;refine T0 [1,2,4,47,48] ?_;refine Sq <|Ct <|Sk <|Tn <|Sq <|Sb <|T0 [1,2,4,5,47] ?_
   have k:InR 1 11:=by decide
   have al:w64 3=3:=by decide
   refine Ck fun am =>Ge [[],[0],[0,1],[],[3],[],[5],[3,4,5,6],[3,4,5,6,7],[3,4,5,6,7,8],[0,1,2,3,4,5,6,7,8,9],[0,1,2,3,4,5,6,7,8,9,10]] [1,2,4,47] Aa (Ev (by simp only[go_sem,k,k.2,al,qL am];exact AP)) ?_
   refine Bn <|Tn <|?_
   have an:w64 2=2:=by decide
   refine Fe [1,2,4,47] Aa (Ew1 an) ?_;refine Un ?_;refine Ug (m:=14) ?_;refine T0 [1,2,4,47,48] ?_;refine Sq <|Ct <|Sk <|Tn <|Sq <|Sb <|T0 [1,2,4,5,47] ?_
   have n:InR 2 11:=by decide
   have ao:w64 4=4:=by decide
   refine Ck fun ap =>Ge [[],[0],[0,1],[],[3],[],[5],[3,4,5,6],[3,4,5,6,7],[3,4,5,6,7,8],[0,1,2,3,4,5,6,7,8,9],[0,1,2,3,4,5,6,7,8,9,10]] [1,2,4,47] Aa (Ev (by simp only[go_sem,n,n.2,ao,qL ap];exact AP)) ?_
   refine Bn <|Tn <|?_
   have aq:w64 3=3:=by decide
   refine Fe [1,2,4,47] Aa (Ew1 aq) ?_;refine Un ?_;refine Ug (m:=13) ?_;refine T0 [1,2,4,47,48] ?_;refine Sq <|Ct <|Sk <|Tn <|Sq <|Sb <|T0 [1,2,4,5,47] ?_
   have o:InR 3 11:=by decide
   have ar:w64 5=5:=by decide
   refine Ck fun au =>Ge [[],[0],[0,1],[],[3],[],[5],[3,4,5,6],[3,4,5,6,7],[3,4,5,6,7,8],[0,1,2,3,4,5,6,7,8,9],[0,1,2,3,4,5,6,7,8,9,10]] [1,2,4,47] Aa (Ev (by simp only[go_sem,o,o.2,ar,qL au];exact AP)) ?_
   refine Bn <|Tn <|?_
   have av:w64 4=4:=by decide
   refine Fe [1,2,4,47] Aa (Ew1 av) ?_;refine Un ?_;refine Ug (m:=12) ?_;refine T0 [1,2,4,47,48] ?_;refine Sq <|Ct <|Sk <|Tn <|Sq <|Sb <|T0 [1,2,4,5,47] ?_
   have p:InR 4 11:=by decide
   have aw:w64 6=6:=by decide
   refine Ck fun ax =>Ge [[],[0],[0,1],[],[3],[],[5],[3,4,5,6],[3,4,5,6,7],[3,4,5,6,7,8],[0,1,2,3,4,5,6,7,8,9],[0,1,2,3,4,5,6,7,8,9,10]] [1,2,4,47] Aa (Ev (by simp only[go_sem,p,p.2,aw,qL ax];exact AP)) ?_
   refine Bn <|Tn <|?_
   have ay:w64 5=5:=by decide
   refine Fe [1,2,4,47] Aa (Ew1 ay) ?_;refine Un ?_;refine Ug (m:=11) ?_;refine T0 [1,2,4,47,48] ?_;refine Sq <|Ct <|Sk <|Tn <|Sq <|Sb <|T0 [1,2,4,5,47] ?_
   have q:InR 5 11:=by decide
   have az:w64 7=7:=by decide
   refine Ck fun aA =>Ge [[],[0],[0,1],[],[3],[],[5],[3,4,5,6],[3,4,5,6,7],[3,4,5,6,7,8],[0,1,2,3,4,5,6,7,8,9],[0,1,2,3,4,5,6,7,8,9,10]] [1,2,4,47] Aa (Ev (by simp only[go_sem,q,q.2,az,qL aA];exact AP)) ?_
   refine Bn <|Tn <|?_
   have aB:w64 6=6:=by decide
   refine Fe [1,2,4,47] Aa (Ew1 aB) ?_;refine Un ?_;refine Ug (m:=10) ?_;refine T0 [1,2,4,47,48] ?_;refine Sq <|Ct <|Sk <|Tn <|Sq <|Sb <|T0 [1,2,4,5,47] ?_
   have s:InR 6 11:=by decide
   have aC:w64 8=8:=by decide
   refine Ck fun aD =>Ge [[],[0],[0,1],[],[3],[],[5],[3,4,5,6],[3,4,5,6,7],[3,4,5,6,7,8],[0,1,2,3,4,5,6,7,8,9],[0,1,2,3,4,5,6,7,8,9,10]] [1,2,4,47] Aa (Ev (by simp only[go_sem,s,s.2,aC,qL aD];exact AP)) ?_
   refine Bn <|Tn <|?_
   have aE:w64 7=7:=by decide
   refine Fe [1,2,4,47] Aa (Ew1 aE) ?_;refine Un ?_;refine Ug (m:=9) ?_;refine T0 [1,2,4,47,48] ?_;refine Sq <|Ct <|Sk <|Tn <|Sq <|Sb <|T0 [1,2,4,5,47] ?_
   have t:InR 7 11:=by decide
   have aF:w64 9=9:=by decide
   refine Ck fun aG =>Ge [[],[0],[0,1],[],[3],[],[5],[3,4,5,6],[3,4,5,6,7],[3,4,5,6,7,8],[0,1,2,3,4,5,6,7,8,9],[0,1,2,3,4,5,6,7,8,9,10]] [1,2,4,47] Aa (Ev (by simp only[go_sem,t,t.2,aF,qL aG];exact AP)) ?_
   refine Bn <|Tn <|?_
   have aH:w64 8=8:=by decide
   refine Fe [1,2,4,47] Aa (Ew1 aH) ?_;refine Un ?_;refine Ug (m:=8) ?_;refine T0 [1,2,4,47,48] ?_;refine Sq <|Ct <|Sk <|Tn <|Sq <|Sb <|T0 [1,2,4,5,47] ?_
   have u:InR 8 11:=by decide
   have aI:w64 10=10:=by decide
   refine Ck fun aJ =>Ge [[],[0],[0,1],[],[3],[],[5],[3,4,5,6],[3,4,5,6,7],[3,4,5,6,7,8],[0,1,2,3,4,5,6,7,8,9],[0,1,2,3,4,5,6,7,8,9,10]] [1,2,4,47] Aa (Ev (by simp only[go_sem,u,u.2,aI,qL aJ];exact AP)) ?_
   refine Bn <|Tn <|?_
   have aK:w64 9=9:=by decide
   refine Fe [1,2,4,47] Aa (Ew1 aK) ?_;refine Un ?_;refine Ug (m:=7) ?_;refine T0 [1,2,4,47,48] ?_;refine Sq <|Ct <|Sk <|Tn <|Sq <|Sb <|T0 [1,2,4,5,47] ?_
   have w:InR 9 11:=by decide
   have aL:w64 11=11:=by decide
   refine Ck fun aM =>Ge [[],[0],[0,1],[],[3],[],[5],[3,4,5,6],[3,4,5,6,7],[3,4,5,6,7,8],[0,1,2,3,4,5,6,7,8,9],[0,1,2,3,4,5,6,7,8,9,10]] [1,2,4,47] Aa (Ev (by simp only[go_sem,w,w.2,aL,qL aM];exact AP)) ?_
   refine Bn <|Tn <|?_
   have aN:w64 10=10:=by decide
   refine Fe [1,2,4,47] Aa (Ew1 aN) ?_;refine Un ?_;refine Ug (m:=6) ?_;refine T0 [1,2,4,47,48] ?_;refine Sq <|Ct <|Sk <|Tn <|Sq <|Sb <|T0 [1,2,4,5,47] ?_
   have x:InR 10 11:=by decide
   have aO:w64 12=12:=by decide
   refine Ck fun aP =>Ge [[],[0],[0,1],[],[3],[],[5],[3,4,5,6],[3,4,5,6,7],[3,4,5,6,7,8],[0,1,2,3,4,5,6,7,8,9],[0,1,2,3,4,5,6,7,8,9,10]] [1,2,4,47] Aa (Ev (by simp only[go_sem,x,x.2,aO,qL aP];exact AP)) ?_
   refine Bn <|Tn <|?_
   have aQ:w64 11=11:=by decide
   refine Fe [1,2,4,47] Aa (Ew1 aQ) ?_;refine Un ?_;refine Ug (m:=5) ?_;refine T0 [1,2,4,47,48] ?_;exact Sq <|Cf <|Sx <|Tx <|Ux <|Bx <|Jm (ws [0,1])
  intro _;refine Ck fun aR =>Te [1,2] Aa (Ew1 (qL aR)) ?_
  refine Jo (fun d=>⟨Aq 114 [(1,.ref 0 0),(2,.ref 1 0)],[.box [i64 a.Za,i64 a.N,.sl false (L cU8 a.B),.sl false (L cApi_Value a.L)] false,.box [i64 ((nth a.L 0).N),i64 b,i64 c,i64 ((nth a.L 2).N),i64 ((nth a.L 3).N),i64 ((nth a.L 4).N),i64 ((nth a.L 5).N),i64 ((nth a.L 6).N),i64 ((nth a.L 7).N),i64 ((nth a.L 8).N),i64 ((nth a.L 9).N),i64 ((nth a.L 10).N),i64 ((nth a.L 11).N),i64 ((nth a.L 12).N),.str ((nth a.L 13).B),.bs false 2 (d.length) 0 (d.length)] false,.buf 3 (L Ah d) false]⟩) ?_ ?_
  ·intro bd aS;refine Ck fun aT =>Te [1,2,73,74,75] Aa (Ew1 (qL aT)) ?_
   refine Sb ?_;refine Lo (fun(v:Int×List AoA)=>(⟨Aq 114 [(1,.ref 0 0),(2,.ref 1 0),(73,.sl false (L cApi_Value ((nth a.L 14).L))),(74,i64 (((nth a.L 14).L).length:Int)),(75,i64 v.1)],[.box [i64 a.Za,i64 a.N,.sl false (L cU8 a.B),.sl false (L cApi_Value a.L)] false,.box [i64 ((nth a.L 0).N),i64 b,i64 c,i64 ((nth a.L 2).N),i64 ((nth a.L 3).N),i64 ((nth a.L 4).N),i64 ((nth a.L 5).N),i64 ((nth a.L 6).N),i64 ((nth a.L 7).N),i64 ((nth a.L 8).N),i64 ((nth a.L 9).N),i64 ((nth a.L 10).N),i64 ((nth a.L 11).N),i64 ((nth a.L 12).N),.str ((nth a.L 13).B),.bs false 2 (v.2.length) 0 (v.2.length)] false,.buf 3 (L Ah v.2) false]⟩:St)) ((Dm 1 15 3 rfl rfl).trans (ws [0,1,2])) ?_;rintro⟨aU,e⟩ be aV y z;show Cp a aU e=some aV→_;unfold Cp;refine T0 [1,2,73,74,75,76] ?_;refine Sq <|Cd ?_ ?_
   ·refine Sk <|Tn <|Sq <|Sb <|Ck fun aW =>Lt fun aX aY =>Lt fun aZ a0 =>Lt fun a1 a2 =>Lt fun a3 a4 =>Te (σ':=[_,_,_,.box [i64 aX,i64 aZ,.sl false (L cU8 a1),.sl false (L cApi_Value a3)] false]) [1,2,7,73,74,75] Aa (Ew5 (qR aW) aY a0 a2 a4) ?_
    refine Sq <|T0 [1,2,7,73,74,75,82] ?_
    refine Cd ?_ ?_
    ·refine T0 [2,3] ?_;exact Sr <|Tr <|Br <|Tr <|Lr z y <|Br <|Jr aS <|Rr
    ·refine Sk <|Tn <|Ck fun a5 =>Ck fun a6 =>Ck fun a7 =>Ck fun a8 =>Lt fun g a9 =>Ge (σ':=[_,.box [i64 ((nth a.L 0).N),i64 b,i64 c,i64 ((nth a.L 2).N),i64 ((nth a.L 3).N),i64 ((nth a.L 4).N),i64 ((nth a.L 5).N),i64 ((nth a.L 6).N),i64 ((nth a.L 7).N),i64 ((nth a.L 8).N),i64 ((nth a.L 9).N),i64 ((nth a.L 10).N),i64 ((nth a.L 11).N),i64 ((nth a.L 12).N),.str ((nth a.L 13).B),.bs false 2 (g.length) 0 (g.length)] false,.buf 3 (L Ah g) false,_]) [[],[0],[],[2],[2,3],[2,3,4],[2,3,4,5],[],[7],[7,8],[7,8,9],[7,8,9,10],[],[12],[12,13],[12,13,14],[12,13,14,15],[12,13,14,15,16],[2,3,4,5,6,7,8,9,10,11,12,13,14,15,16,17],[2,3,4,5,6,7,8,9,10,11,12,13,14,15,16,17,18],[0,1,2,3,4,5,6,7,8,9,10,11,12,13,14,15,16,17,18,19],[0,1,2,3,4,5,6,7,8,9,10,11,12,13,14,15,16,17,18,19,20],[0,1,2,3,4,5,6,7,8,9,10,11,12,13,14,15,16,17,18,19,20,21]] [1,2,73,74,75] Aa (Ew5 (qL a5) (qL a6) (qL a7) a8 a9) ?_
     refine Bn <|Tn <|F0 [1,2,73,74,75] ?_
     exact Ln (ws [0,1,2])
   ·refine Sx <|Tx <|Lx z y <|Bx <|?_
    exact Jn ((ws (l':=[(1,.ref 0 0),(2,.ref 1 0)]) (σ':=[.box [i64 a.Za,i64 a.N,.sl false (L cU8 a.B),.sl false (L cApi_Value a.L)] false,.box [i64 ((nth a.L 0).N),i64 b,i64 c,i64 ((nth a.L 2).N),i64 ((nth a.L 3).N),i64 ((nth a.L 4).N),i64 ((nth a.L 5).N),i64 ((nth a.L 6).N),i64 ((nth a.L 7).N),i64 ((nth a.L 8).N),i64 ((nth a.L 9).N),i64 ((nth a.L 10).N),i64 ((nth a.L 11).N),i64 ((nth a.L 12).N),.str ((nth a.L 13).B),.bs false 2 (e.length) 0 (e.length)] false,.buf 3 (L Ah e) false]) [0,1,2]).trans (ws [0,1,2]))
  intro d;refine Sq ?_;refine Rw (FI 1 15 rfl rfl rfl (by simp only[go_sem]) (by simp only[go_sem])) ?_;refine Bd fun bf ba =>Bd fun bg bb =>De [[],[0],[],[0,1,2],[0,1,2,3]] [2,111] (o2 108 (F5 ba) 110 (SA bb)) Ev ?_
  refine Cd ?_ ?_
  ·refine T0 [2,3] ?_;exact Sr <|Tr <|Rr
  ·refine Sk <|Tn <|T0 [2,3] ?_
   exact Sr <|Rr
theorem I8{a r}(h:DX a=some r):Con B 54 [.agg [i64 a.Za,i64 a.N,.sl false (L cU8 a.B),.sl false (L cApi_Value a.L)]] [] (fun r' σ'=>r'=.tup [u64 r.1,.bool r.2]∧σ'=[]):=by
 refine Cw 29 [.tmp 2,.tmp 3] Tryz.func54 (fun F hE=>?_) h;unfold DX;refine T0 [1,2] ?_;refine Ja (fun b=>⟨Aq 29 [(1,.ref 0 0),(2,u64 b)],[.box [i64 a.Za,i64 a.N,.sl false (L cU8 a.B),.sl false (L cApi_Value a.L)] false]⟩) ?_ ?_
 ·intro p;refine T0 [1,2,7,8,9] ?_;refine Sb ?_;refine Lo (fun(v:UInt64×Int)=>(⟨Aq 29 [(1,.ref 0 0),(2,u64 v.1),(7,.sl false (L cU8 a.B)),(8,i64 (a.B.length:Int)),(9,i64 v.2)],[.box [i64 a.Za,i64 a.N,.sl false (L cU8 a.B),.sl false (L cApi_Value a.L)] false]⟩:St)) (ws [0]) ?_;rintro⟨d,f⟩ q g i j;show CU a d f=some g→_;unfold CU;refine T0 [1,2,7,8,9,10] ?_;refine Sq <|Cd ?_ ?_
  ·refine Sk <|Tn <|Sq <|Sb <|Ck fun k =>Lt fun l m =>Te (fr':=[(1,_),(2,_),(5,u8 l),(7,_),(8,_),(9,_)]) [1,2,5,7,8,9] Aa (Ew2 (qR k) m) ?_
   refine Lt fun n o =>Fe (fr':=[(1,_),(2,u64 n),(7,_),(8,_),(9,_)]) [1,2,7,8,9] Aa (Ew1 o) ?_
   refine Bn <|Tn <|F0 [1,2,7,8,9] ?_
   exact Ln (ws [0])
  ·refine Sx <|Tx <|Ly j i <|Bx <|?_
   exact Jm ((ws (l':=[(1,.ref 0 0),(2,u64 d)]) (σ':=[.box [i64 a.Za,i64 a.N,.sl false (L cU8 a.B),.sl false (L cApi_Value a.L)] false]) [0]).trans (ws [0]))
 intro b;refine Dw [[],[],[1],[1,2],[1,2,3],[1,2,3,4],[1,2,3,4,5],[1,2,3,4,5,6],[1,2,3,4,5,6,7],[1,2,3,4,5,6,7,8],[0,1,2,3,4],[0,1,2,3,4,5,6,7,8,9,10]] [2,3] (fun e=>⟨Aq 29 [(2,u64 b),(3,.bool e)],[]⟩) ?_ ?_
 ·intro _;refine Sp (fun c=>?_) fun c=>?_
  ·exact Lf Aa (Ew1 c) (ws [])
  ·exact Lf Aa (Ew1 c) (ws [])
 intro e;exact Sr <|Rr
theorem I5{q r}(h:Ch q=some r):Con B 18 [.sl false (L cU8 q)] [] (fun r' σ'=>r'=.tup [.agg (Ad r.1),i64 r.2]∧σ'=[]):=by
 refine Cw 131 [.cell 2 52,.tmp 3] Tryz.func18 (fun F hE=>?_) h;unfold Ch;refine T0 [0,2] ?_;refine Bd fun f x =>Te [2,3,4] (o1 13 (LS x)) Ev ?_
 refine Sq <|T0 [2,3,4,17] ?_
 refine Cd ?_ ?_
 ·refine T0 [2,3] ?_;exact Sr <|Tr <|Rr
 ·refine Sk <|Tn <|T0 [2,5] ?_
  refine Sq ?_;refine Tw [2,5,68] (fun s=>⟨Aq 131 [(2,.ref 0 0),(5,.sl false (L cApi_Value f.1.L)),(68,.bool s)],[.box (i64 0::i64 0::(C1 u8 (Arr.rep 32 (0:UInt8)).l++[i64 0,i64 0,i64 0,i64 0,i64 0,i64 0,i64 0,i64 0,i64 0,i64 0,i64 0,i64 0,i64 0,i64 0,i64 0,.str ([]:List UInt8),.sl true (L Ah ([])),u64 (0:UInt64),u64 (0:UInt64)])) false]⟩) ?_ ?_
  ·intro _;refine Sp (fun b=>?_) fun b=>?_
   ·exact Lf Aa (Ew1 b) (ws [0])
   ·refine Ck fun d=>?_
    refine Sp (fun c=>?_) fun c=>?_
    ·exact Lf Aa (Ew3 b (qL d) c) (ws [0])
    ·refine Ck fun g=>?_
     refine Sp (fun e=>?_) fun e=>?_
     ·exact Lf Aa (Ew5 b (qL d) c (qL g) e) (ws [0])
     ·refine Ck fun j=>?_
      refine Sp (fun i=>?_) fun i=>?_
      ·exact Lf Aa (Ev (by simp only[go_sem,b,qL d,c,qL g,e,qL j,i];exact AP)) (ws [0])
      ·refine Ck fun n=>?_
       refine Sp (fun k=>?_) fun k=>?_
       ·exact Lf Aa (Ev (by simp only[go_sem,b,qL d,c,qL g,e,qL j,i,qL n,k];exact AP)) (ws [0])
       ·refine Ck fun t=>?_
        refine Sp (fun o=>?_) fun o=>?_
        ·exact Lf Aa (Ev (by simp only[go_sem,b,qL d,c,qL g,e,qL j,i,qL n,k,qL t,o];exact AP)) (ws [0])
        ·refine Ck fun y=>?_
         exact Lf Aa (Ev (by simp only[go_sem,b,qL d,c,qL g,e,qL j,i,qL n,k,qL t,o,qL y];exact AP)) (ws [0])
  intro s;refine Cd ?_ ?_
  ·refine T0 [2,3] ?_;exact Sr <|Tr <|Rr
  ·refine Sk <|Tn <|Ck fun z =>Bd fun a aa =>Te [2,3,5,6] (o1 74 (KK aa)) (Ew1 (qL z)) ?_
   refine Ck fun ab =>Ck fun ac =>Bd fun u ad =>Te [2,3,5,6,7,8] (o1 84 (I8 ad)) (Ew2 (qL ab) (qL ac)) ?_
   refine Ck fun ae =>Ck fun af =>Bd fun v ag =>Te [2,3,5,6,7,8,9,10] (o1 94 (I8 ag)) (Ew2 (qL ae) (qL af)) ?_
   refine Sq ?_;refine Tw [2,5,6,7,9,106] (fun w=>⟨Aq 131 [(2,.ref 0 0),(5,.sl false (L cApi_Value f.1.L)),(6,.ref 1 0),(7,u64 u.1),(9,u64 v.1),(106,.bool w)],[.box (i64 0::i64 0::(C1 u8 (Arr.rep 32 (0:UInt8)).l++[i64 0,i64 0,i64 0,i64 0,i64 0,i64 0,i64 0,i64 0,i64 0,i64 0,i64 0,i64 0,i64 0,i64 0,i64 0,.str ([]:List UInt8),.sl true (L Ah ([])),u64 (0:UInt64),u64 (0:UInt64)])) false,.box (AB a.1) false]⟩) ?_ ?_
   ·intro _;refine Sp (fun m=>?_) fun m=>?_
    ·exact Lf Aa (Ew1 m) (ws [0,1])
    ·refine Sp (fun p=>?_) fun p=>?_
     ·exact Lf Aa (Ew2 m p) (ws [0,1])
     ·exact Lf Aa (Ew2 m p) (ws [0,1])
   intro w;refine Cd ?_ ?_
   ·refine T0 [2,3] ?_;exact Sr <|Tr <|Rr
   ·refine Sk <|Tn <|Ck fun ah =>Ck fun ai =>Ck fun aj =>Ck fun ak =>Ck fun al =>Lt fun am an =>De (σ':=[.box (i64 ((nth f.1.L 0).N)::i64 ((nth f.1.L 1).N)::(C1 u8 am.l++[i64 ((nth f.1.L 3).N),i64 a.1.Za,i64 a.1.Ref.Zb,i64 a.1.Ref.No,i64 a.1.Zn1,i64 a.1.Zb1,i64 a.1.Zc,i64 a.1.Zo1,i64 a.1.Zw,i64 a.1.To,i64 a.1.Code,i64 a.1.Zp1,i64 a.1.Zq1,i64 a.1.Zr1,i64 a.1.Zs1,.str a.1.Zt1,.sl false (L Ah a.1.Zu1),u64 u.1,u64 v.1])) false,_]) [[],[0],[0,1],[0,1,2],[],[4],[4,5],[4,5,6],[],[8],[8,9],[8,9,10],[8,9,10,11],[8,9,10,11,12],[],[14],[14,15],[14,15,16],[],[],[],[19,20],[0,1,2,3,4,5,6,7,8,9,10,11,12,13,14,15,16,17,18,19,20,21],[0,1,2,3,4,5,6,7,8,9,10,11,12,13,14,15,16,17,18,19,20,21,22],[0,1,2,3,4,5,6,7,8,9,10,11,12,13,14,15,16,17,18,19,20,21,22,23]] [2,3] Aa (Ev (by simp only[go_sem,qL ah,qL ai,qL aj,ak,qL al,an];exact AP)) ?_
    exact Sr <|Rr
theorem Hr{c d a r}(h:Ce c d a=some r):Con B 5 [.agg (Ad c),.agg (Ad d),.sl false (L cU8 a)] [] (fun r' σ'=>r'=.bool r∧σ'=[]):=by
 refine Cw 116 [.tmp 6] Tryz.func5 (fun F hE=>?_) h;unfold Ce;refine T0 [2,3,4] ?_;refine Sq <|Bd fun ae t =>Te [2,3,4,20] (o1 19 (Pa t)) Ev ?_
 refine Cd ?_ ?_
 ·refine T0 [6] ?_;exact Sr <|Tr <|Rr
 ·refine Sk <|Tn <|Sq <|?_
  refine Tw [2,3,4,35] (fun n=>⟨Aq 116 [(2,.sl false (L cU8 a)),(3,.ref 0 0),(4,.ref 1 0),(35,.bool n)],[.box (Ad c) false,.box (Ad d) false]⟩) ?_ ?_
  ·intro _;refine Bd fun af i=>?_
   refine Sp (fun e=>?_) fun e=>?_
   ·exact Lf (o1 23 (Dt i)) (Ew1 e) (ws [0,1])
   ·refine Bd fun ag o=>?_
    refine Sp (fun j=>?_) fun j=>?_
    ·exact Lf (o2 23 (Dt i) 28 (Dt o)) (Ew2 e j) (ws [0,1])
    ·exact Lf (o2 23 (Dt i) 28 (Dt o)) (Ew2 e j) (ws [0,1])
  intro n;refine Cd ?_ ?_
  ·refine T0 [6] ?_;exact Sr <|Tr <|Rr
  ·refine Sk <|Tn <|Bd fun ah u =>Te [2,3,4,7,8] (o1 38 (FF u)) Ev ?_
   refine Bd fun ai v =>Te [2,3,4,8,9,10] (o1 43 (I5 v)) Ev ?_
   refine Sq ?_;refine Tw [2,3,4,57] (fun p=>⟨Aq 116 [(2,.sl false (L cU8 a)),(3,.ref 0 0),(4,.ref 1 0),(57,.bool p)],[.box (Ad c) false,.box (Ad d) false]⟩) ?_ ?_
   ·intro _;refine Sp (fun f=>?_) fun f=>?_
    ·exact Lf Aa (Ew1 f) (ws [0,1])
    ·refine Sp (fun k=>?_) fun k=>?_
     ·exact Lf Aa (Ew2 f k) (ws [0,1])
     ·refine Bd fun aj w=>?_
      exact Lf (o1 55 (Bs w)) (Ew2 f k) (ws [0,1])
   intro p;refine Cd ?_ ?_
   ·refine T0 [6] ?_;exact Sr <|Tr <|Rr
   ·refine Sk <|Tn <|Bd fun ak x =>Te [2,3,4,11,12] (o1 60 (Fy x)) Ev ?_
    refine Bd fun al y =>Te [2,3,4,11,12,13,14] (o1 65 (Fy y)) Ev ?_
    refine Sq ?_;refine Dw [[],[0],[0,1],[0,1,2],[0,1,2,3],[0,1,2,3,4],[0,1,2,3,4,5],[0,1,2,3,4,5,6],[0,1,2,3,4,5,6,7],[0,1,2,3,4,5,6],[0,1,2,3,4,5,6,9],[0,1,2,3,4,5,6,7,8,9,10],[0,1,2,3,4,5,6,7,8,9,10,11],[0,1,2,3,4,5,6,7,8,9,10,11,12],[0,1,2,3,4,5,6,7,8,9,10,11,12,13],[0,1,2,3,4,5,6,7,8,9,10,11,12],[0,1,2,3,4,5,6,7,8,9,10,11,12,15],[0,1,2,3,4,5,6,7,8,9,10,11,12,13,14,15,16],[0,1,2,3,4,5,6,7,8,9,10,11,12,13,14,15,16,17],[0,1,2,3,4,5,6],[0,1,2,3,4,5,6],[0,1,2,3,4,5,6,7,8,9,10,11,12,19,20],[0,1,2,3,4,5,6,7,8,9,10,11,12,13,14,15,16,17,18,19,20,21],[0,1,2,3,4,5,6,7,8,9,10,11,12,13,14,15,16,17,18,19,20,21,22]] [2,91] (fun q=>⟨Aq 116 [(2,.sl false (L cU8 a)),(91,.bool q)],[]⟩) ?_ ?_
    ·intro _;refine Sp (fun b=>?_) fun b=>?_
     ·exact Lf Aa (Ew1 b) (ws [])
     ·refine Sp (fun g=>?_) fun g=>?_
      ·exact Lf Aa (Ew2 b g) (ws [])
      ·refine Sp (fun l=>?_) fun l=>?_
       ·refine Bd fun am z=>?_
        exact Lf (o1 89 (Bs z)) (Ew3 b g l) (ws [])
       ·refine Bd fun an aa=>?_
        exact Lf (o1 89 (Bs aa)) (Ew3 b g l) (ws [])
    intro q;refine Cd ?_ ?_
    ·refine T0 [6] ?_;exact Sr <|Tr <|Rr
    ·refine Sk <|Tn <|Bd fun ao ab =>Te [2,15,16] (o1 94 (I5 ab)) Ev ?_
     refine Sq <|T0 [2,15,98] ?_
     refine Cd ?_ ?_
     ·refine Bd fun ap ac =>Te [6] (o1 101 (Bs ac)) Ev ?_
      exact Sr <|Tr <|Rr
     ·refine Sk <|Tn <|Bd fun aq ad =>Te [2,17,18] (o1 104 (FF ad)) Ev ?_
      refine Tw [6] (fun s=>⟨Aq 116 [(6,.bool s)],[]⟩) ?_ ?_
      ·intro _;refine Sp (fun m=>?_) fun m=>?_
       ·exact Lf Aa (Ew1 m) (ws [])
       ·exact Lf Aa (Ew1 m) (ws [])
      intro s;exact Sr <|Rr
set_option maxRecDepth 4000
variable{u r:Nat}
theorem KM(x:UInt64)(n:Nat):(CZ x n).toNat=x.toNat/2^n:=by
 show(x.toBitVec >>> n).toNat=_;rw[ArM,AqZ];rfl
theorem Aaw(x:UInt64)(n:Nat):(Fs x n).toNat=x.toNat*2^n%18446744073709551616:=by
 show(x.toBitVec <<< n).toNat=_;rw[BitVec.toNat_shiftLeft,Ari];rfl
theorem AdZ(x:UInt64):(x &&& 4294967295).toNat=x.toNat%4294967296:=by
 rw[UInt64.toNat_and];exact Arh x.toNat 32
theorem Agb(x:UInt64):x.toNat<18446744073709551616:=x.toNat_lt
theorem P6(x y:UInt64):(x*y).toNat=x.toNat*y.toNat%18446744073709551616:=UInt64.toNat_mul x y
theorem RB(x y:UInt64):(x+y).toNat=(x.toNat+y.toNat)%18446744073709551616:=UInt64.toNat_add x y
theorem AkF{x y:UInt64}(h:x.toNat=y.toNat):x=y:=AqO.1 h
theorem g_32:((32:UInt64)).toNat=32:=rfl
theorem AcV(x y:UInt64):∃r,GO x y=some r∧r.1.toNat=x.toNat*y.toNat/18446744073709551616∧r.2.toNat=x.toNat*y.toNat%18446744073709551616:=by
 obtain⟨bd,bt,bw,hhi⟩:=Lib.mul64_hi x.toNat y.toNat (Agb x) (Agb y);have hx:=Agb x;have hy:=Agb y;have ba:=Lib.half_mul_le (a:=x.toNat/4294967296) (b:=y.toNat/4294967296) (by omega) (by omega);have bb:=Lib.half_mul_le (a:=x.toNat/4294967296) (b:=y.toNat%4294967296) (by omega) (by omega);have bc:=Lib.half_mul_le (a:=x.toNat%4294967296) (b:=y.toNat/4294967296) (by omega) (by omega);unfold GO;simp only[lt1];refine⟨_,rfl,?_,P6 x y⟩;rw[←hhi];simp only[RB,P6,KM,AdZ,g_32,Nat.reducePow];generalize x.toNat/4294967296*(y.toNat/4294967296)=a at *;generalize x.toNat/4294967296*(y.toNat%4294967296)=b at *;generalize x.toNat%4294967296*(y.toNat/4294967296)=c at *;generalize x.toNat%4294967296*(y.toNat%4294967296)=d at *;omega
structure Dig(u w q r:Nat):Prop where
  eq:u=q*4294967295+r
  up:(q+1)*18446744073709526392>u*4294967296+w
theorem S7{w:Nat}(hu:u<18446744073709526392)(hw:w<4294967296):Dig u w (u/4294967295) (u%4294967295):=⟨by omega,by omega⟩
theorem L8{a b c:Nat}(h:a=b)(k:b<c):a<c:=by omega
theorem Si{q q' r':Nat}(he:u=q*4294967295+r)(hq:1≤q)(h1:q'=q-1)(h2:r'=r+4294967295):u=q'*4294967295+r':=by
 have key:∀c:Nat,u=q*c+r→r'=r+c→u=q'*c+r':=by
  intro c he h2;obtain⟨k,rfl⟩:∃k,q=k+1:=⟨q-1,by omega⟩;have:q'=k:=by omega
  subst this;rw[he,h2,Apd,Apw,Aqt,Nat.add_comm c r]
 exact key _ he h2
theorem RH{w q q':Nat}(he:u=q*4294967295+r)(hu:u<18446744073709526392)(hw:w<4294967296)(h:4294967296≤q∨4294967296*r+w<q*4294942072)(hq:1≤q)(h1:q'=q-1):(q'+1)*18446744073709526392>u*4294967296+w:=by subst h1;omega
theorem SH{r':Nat}(h:r<4294967296)(h2:r'=r+4294967295):4294967296-r'<4294967296-r:=by omega
theorem ZE(un32 un1:UInt64)(hu:un32.toNat<18446744073709526392)(hw:un1.toNat<4294967296) :∃q,AK (fun(v:UInt64×UInt64)=>DE 4294967295 4294942072 un1 v.1 v.2) ((un32/4294967295),(un32-(un32/4294967295)*4294967295))=some q∧q.toNat=(un32.toNat*4294967296+un1.toNat)/18446744073709526392:=by
 have hq0:(un32/4294967295).toNat=un32.toNat/4294967295:=Aq1 _ _
 have hr0:(un32-(un32/4294967295)*4294967295).toNat=un32.toNat%4294967295:=by
  have h1:((un32/4294967295)*4294967295).toNat=un32.toNat/4294967295*4294967295:=by
   rw[P6,hq0];show un32.toNat/4294967295*4294967295%_=_;omega
  rw[AqR _ _ (ApB.2 (by rw[h1];omega)),h1];omega
 have hd:=S7 hu hw;rw[←hq0,←hr0]at hd;generalize un32/4294967295=q0 at *;generalize un32-q0*4294967295=r0 at *;refine Cr (fun v=>Dig un32.toNat un1.toNat v.1.toNat v.2.toNat∧v.2.toNat<4294967296) (fun v=>4294967296-v.2.toNat) _ ?_ ⟨hd,by rw[hr0];omega⟩ (by simp only;omega);rintro⟨q,r⟩ ⟨⟨he,hup⟩,hr⟩;simp only at he hup hr;unfold DE;have hqb:q.toNat≤4294967297:=by omega
 have m1:(q*4294942072).toNat=q.toNat*4294942072:=by
  rw[P6];show q.toNat*4294942072%_=_;omega
 have m2:((4294967296:UInt64)*r+un1).toNat=4294967296*r.toNat+un1.toNat:=by
  rw[RB,P6];show(4294967296*r.toNat%_+_)%_=_;omega
 have m3:(r+4294967295).toNat=r.toNat+4294967295:=by
  rw[RB];show(r.toNat+4294967295)%_=_;omega
 have hb:(q≥(4294967296:UInt64))↔4294967296≤q.toNat:=ApB;have hg:(q*4294942072>(4294967296:UInt64)*r+un1)↔4294967296*r.toNat+un1.toNat<q.toNat*4294942072:=by rw[AqP,ApH,m1,m2]
 have hh:(r+4294967295≥(4294967296:UInt64))↔4294967296≤r.toNat+4294967295:=by rw[ArZ,ApB,m3];rfl
 have htest:(if(decide (q≥(4294967296:UInt64)))then some true else some ((decide ((q*(4294942072:UInt64))>(((4294967296:UInt64)*r)+un1)))):Option Bool)=some (decide (4294967296≤q.toNat∨4294967296*r.toNat+un1.toNat<q.toNat*4294942072)):=by
  by_cases h1:4294967296≤q.toNat
  ·rw[AoO (Apo (hb.2 h1))];simp[h1]
  ·rw[AoQ (by simp only[Apj];exact fun e=>h1 (hb.1 e))];simp[h1,hg]
 rw[htest,AoP];by_cases ht:4294967296≤q.toNat∨4294967296*r.toNat+un1.toNat<q.toNat*4294942072
 ·have hs:(q-1).toNat=q.toNat-1:=by
   rw[AqR _ _ (ApB.2 (by show 1≤q.toNat;omega))];rfl
  rw[AoO (Apo ht)];by_cases h2:4294967296≤r.toNat+4294967295
  ·right;rw[AoO (Apo (hh.2 h2))];refine⟨_,rfl,?_⟩;rw[hs];omega
  ·left;rw[AoQ (by simp only[Apj];exact fun e=>h2 (hh.1 e))];refine⟨_,rfl,⟨⟨?_,?_⟩,?_⟩,?_⟩
   ·show un32.toNat=(q-1).toNat*4294967295+(r+4294967295).toNat;exact Si he (by omega) hs m3
   ·show((q-1).toNat+1)*18446744073709526392>un32.toNat*4294967296+un1.toNat;exact RH he hu hw ht (by omega) hs
   ·exact L8 m3 (Nat.lt_of_not_le h2)
   ·exact SH hr m3
 ·right;rw[AoQ (by simp only[Apj];exact ht)];refine⟨_,rfl,?_⟩;show q.toNat=_;omega
theorem Aa6(un32 un1:UInt64)(hu:un32.toNat<18446744073709526392)(hw:un1.toNat<4294967296) :∃q,AK (fun(v:UInt64×UInt64)=>D6 4294967295 4294942072 un1 v.1 v.2) ((un32-(un32/4294967295)*4294967295),(un32/4294967295))=some q∧q.toNat=(un32.toNat*4294967296+un1.toNat)/18446744073709526392:=by
 have hq0:(un32/4294967295).toNat=un32.toNat/4294967295:=Aq1 _ _
 have hr0:(un32-(un32/4294967295)*4294967295).toNat=un32.toNat%4294967295:=by
  have h1:((un32/4294967295)*4294967295).toNat=un32.toNat/4294967295*4294967295:=by
   rw[P6,hq0];show un32.toNat/4294967295*4294967295%_=_;omega
  rw[AqR _ _ (ApB.2 (by rw[h1];omega)),h1];omega
 have hd:=S7 hu hw;rw[←hq0,←hr0]at hd;generalize un32/4294967295=q0 at *;generalize un32-q0*4294967295=r0 at *;refine Cr (fun v=>Dig un32.toNat un1.toNat v.2.toNat v.1.toNat∧v.1.toNat<4294967296) (fun v=>4294967296-v.1.toNat) _ ?_ ⟨hd,by rw[hr0];omega⟩ (by simp only;omega);rintro⟨r,q⟩ ⟨⟨he,hup⟩,hr⟩;simp only at he hup hr;unfold D6;have hqb:q.toNat≤4294967297:=by omega
 have m1:(q*4294942072).toNat=q.toNat*4294942072:=by
  rw[P6];show q.toNat*4294942072%_=_;omega
 have m2:((4294967296:UInt64)*r+un1).toNat=4294967296*r.toNat+un1.toNat:=by
  rw[RB,P6];show(4294967296*r.toNat%_+_)%_=_;omega
 have m3:(r+4294967295).toNat=r.toNat+4294967295:=by
  rw[RB];show(r.toNat+4294967295)%_=_;omega
 have hb:(q≥(4294967296:UInt64))↔4294967296≤q.toNat:=ApB;have hg:(q*4294942072>(4294967296:UInt64)*r+un1)↔4294967296*r.toNat+un1.toNat<q.toNat*4294942072:=by rw[AqP,ApH,m1,m2]
 have hh:(r+4294967295≥(4294967296:UInt64))↔4294967296≤r.toNat+4294967295:=by rw[ArZ,ApB,m3];rfl
 have htest:(if(decide (q≥(4294967296:UInt64)))then some true else some ((decide ((q*(4294942072:UInt64))>(((4294967296:UInt64)*r)+un1)))):Option Bool)=some (decide (4294967296≤q.toNat∨4294967296*r.toNat+un1.toNat<q.toNat*4294942072)):=by
  by_cases h1:4294967296≤q.toNat
  ·rw[AoO (Apo (hb.2 h1))];simp[h1]
  ·rw[AoQ (by simp only[Apj];exact fun e=>h1 (hb.1 e))];simp[h1,hg]
 rw[htest,AoP];by_cases ht:4294967296≤q.toNat∨4294967296*r.toNat+un1.toNat<q.toNat*4294942072
 ·have hs:(q-1).toNat=q.toNat-1:=by
   rw[AqR _ _ (ApB.2 (by show 1≤q.toNat;omega))];rfl
  rw[AoO (Apo ht)];by_cases h2:4294967296≤r.toNat+4294967295
  ·right;rw[AoO (Apo (hh.2 h2))];refine⟨_,rfl,?_⟩;rw[hs];omega
  ·left;rw[AoQ (by simp only[Apj];exact fun e=>h2 (hh.1 e))];refine⟨_,rfl,⟨⟨?_,?_⟩,?_⟩,?_⟩
   ·show un32.toNat=(q-1).toNat*4294967295+(r+4294967295).toNat;exact Si he (by omega) hs m3
   ·show((q-1).toNat+1)*18446744073709526392>un32.toNat*4294967296+un1.toNat;exact RH he hu hw ht (by omega) hs
   ·exact L8 m3 (Nat.lt_of_not_le h2)
   ·exact SH hr m3
 ·right;rw[AoQ (by simp only[Apj];exact ht)];refine⟨_,rfl,?_⟩;show q.toNat=_;omega
theorem lz_P:Cg 2305843009213690799=some 3:=by decide +kernel
theorem y8:Fs 2305843009213690799 3=18446744073709526392:=by decide +kernel
theorem Ak9:CZ 18446744073709526392 ((32:UInt64)).toNat=4294967295:=by decide +kernel
theorem Alx:(18446744073709526392:UInt64) &&& 4294967295=4294942072:=by decide +kernel
theorem s3:(UInt64.ofInt 3).toNat=3:=by decide +kernel
theorem s61:((64:UInt64)-UInt64.ofInt 3).toNat=61:=by decide +kernel
theorem Ail(a b:UInt64)(ha:a.toNat%8=0)(hb:b.toNat<8):(a ||| b).toNat=a.toNat+b.toNat:=by
 rw[UInt64.toNat_or];have e:a.toNat=(a.toNat/8) <<< 3:=by rw[Ari];omega
 rw[e,←Nat.shiftLeft_add_eq_or_of_lt (by simpa using hb)]
theorem Af7(u w q:UInt64)(v:Nat)(hv:v=18446744073709526392)(hq:q.toNat=(u.toNat*4294967296+w.toNat)/v):(u*4294967296+w-q*18446744073709526392).toNat=(u.toNat*4294967296+w.toNat)%v:=by
 have h1:(u*4294967296+w).toNat=(u.toNat*4294967296+w.toNat)%18446744073709551616:=by
  rw[RB,P6];show(u.toNat*4294967296%18446744073709551616+w.toNat)%18446744073709551616=_;rw[Nat.mod_add_mod]
 have h2:(q*18446744073709526392).toNat=(q.toNat*v)%18446744073709551616:=by rw[P6,hv];rfl
 rw[UInt64.toNat_sub,h1,h2,hq];have h3:=AqI (u.toNat*4294967296+w.toNat) v;have h4:(u.toNat*4294967296+w.toNat)%v<18446744073709551616:=Ap3 (AqH _ (by omega)) (by omega);generalize u.toNat*4294967296+w.toNat=U at *;generalize hr:U%v=r at *;rw[Ap9 v]at h3;generalize U/v*v=z at *;subst h3;show(18446744073709551616-z%18446744073709551616+(z+r)%18446744073709551616)%18446744073709551616=r;omega
theorem mod8(N P m:Nat)(h:m=8*P):8*N%m/8=N%P:=by subst h;rw[Nat.mul_mod_mul_left,Nat.mul_div_cancel_left _ (by omega)]
theorem Aci(a b c m:Nat):(a%m*c+b)%m=(a*c+b)%m:=by
 rw[Ary,Aq4,Nat.mod_mod,←Aq4,←Ary]
theorem Afz(hi lo:Nat)(hlo:lo<18446744073709551616):((hi*8+lo/2305843009213693952)*4294967296+lo*8%18446744073709551616/4294967296)*4294967296+lo*8%18446744073709551616%4294967296=8*(hi*18446744073709551616+lo):=by omega
theorem XD(hi lo m P:Nat)(hm:m=8*P)(hlo:lo<18446744073709551616):(((hi*8+lo/2305843009213693952)*4294967296+lo*8%18446744073709551616/4294967296)%m*4294967296+lo*8%18446744073709551616%4294967296)%m/8=(hi*18446744073709551616+lo)%P:=by
 rw[Aci,Afz hi lo hlo];exact mod8 _ _ _ hm
theorem AcI(n1 n0 un32 un1:UInt64)(h1:n1=4294967295)(h0:n0=4294942072)(hu:un32.toNat<18446744073709526392)(hw:un1.toNat<4294967296) :∃q,AK (fun(v:UInt64×UInt64)=>DE n1 n0 un1 v.1 v.2) ((un32/n1),(un32-(un32/n1)*n1))=some q∧q.toNat=(un32.toNat*4294967296+un1.toNat)/18446744073709526392:=by
 subst h1 h0;exact ZE un32 un1 hu hw
theorem Acr(n1 n0 un32 un1:UInt64)(h1:n1=4294967295)(h0:n0=4294942072)(hu:un32.toNat<18446744073709526392)(hw:un1.toNat<4294967296) :∃q,AK (fun(v:UInt64×UInt64)=>D6 n1 n0 un1 v.1 v.2) ((un32-(un32/n1)*n1),(un32/n1))=some q∧q.toNat=(un32.toNat*4294967296+un1.toNat)/18446744073709526392:=by
 subst h1 h0;exact Aa6 un32 un1 hu hw
theorem YW(u w q v8:UInt64)(h8:v8=18446744073709526392)(hq:q.toNat=(u.toNat*4294967296+w.toNat)/18446744073709526392):(u*4294967296+w-q*v8).toNat=(u.toNat*4294967296+w.toNat)%18446744073709526392:=by
 subst h8;exact Af7 u w q _ rfl hq
theorem Ac9(hi lo y:UInt64)(hy:y=2305843009213690799)(h:hi.toNat<2305843009213690799):∃r,FB hi lo y=some r∧r.2.toNat=(hi.toNat*18446744073709551616+lo.toNat)%2305843009213690799:=by
 have hP:y.toNat=2305843009213690799:=by rw[hy];rfl
 have hlo:=Agb lo;have hy0:¬y=0:=by rw[hy];decide
 have hlz:Cg y=some 3:=by rw[hy];exact lz_P
 obtain⟨v8,hv8⟩:∃v8,v8=Fs y 3:=⟨_,rfl⟩;obtain⟨n1,hn1⟩:∃n1,n1=CZ v8 ((32:UInt64)).toNat:=⟨_,rfl⟩;obtain⟨n0,hn0⟩:∃n0,n0=v8 &&& 4294967295:=⟨_,rfl⟩;have e8:v8=18446744073709526392:=by rw[hv8,hy];exact y8
 have e1:n1=4294967295:=by rw[hn1,e8];exact Ak9
 have e0:n0=4294942072:=by rw[hn0,e8];exact Alx
 have hn1z:¬n1=0:=by rw[e1];decide
 unfold FB;rw[AoQ (by simpa using hy0),AoQ (by simp only[Apj,ApB,hP];omega)];by_cases h0:hi=0
 ·subst h0;rw[AoO (by decide),AoO hy0,AoO hy0];refine⟨_,rfl,?_⟩;show(lo%y).toNat=_;rw[Ap5,hP];simp
 ·rw[AoQ (by simpa using h0),hlz,AoP];simp only[CE,s3,s61];rw[←hv8,←hn1,←hn0];clear hv8 hn1 hn0 hlz hy;have a1:(Fs hi 3).toNat=hi.toNat*8:=by rw[Aaw];omega
  have a2:(CZ lo 61).toNat=lo.toNat/2305843009213693952:=KM lo 61;have a3:(Fs hi 3 ||| CZ lo 61).toNat=hi.toNat*8+lo.toNat/2305843009213693952:=by rw[Ail _ _ (by omega) (by omega),a1,a2]
  have a4:(Fs lo 3).toNat=lo.toNat*8%18446744073709551616:=Aaw lo 3;have a5:(CZ (Fs lo 3) ((32:UInt64)).toNat).toNat=lo.toNat*8%18446744073709551616/4294967296:=by rw[KM,a4];rfl
  have a6:(Fs lo 3 &&& 4294967295).toNat=lo.toNat*8%18446744073709551616%4294967296:=by rw[AdZ,a4]
  generalize Fs hi 3 ||| CZ lo 61=un32 at *
  generalize CZ (Fs lo 3) ((32:UInt64)).toNat=un1 at *;generalize Fs lo 3 &&& 4294967295=un0 at *;obtain⟨q1,hq1,f1⟩:=AcI n1 n0 un32 un1 e1 e0 (by omega) (by omega);have r1:=YW un32 un1 q1 v8 e8 f1;rw[AoO hn1z,hq1];simp only[AoP];generalize un32*4294967296+un1-q1*v8=un21 at *;obtain⟨q0,hq0,f0⟩:=Acr n1 n0 un21 un0 e1 e0 (by omega) (by omega);have r0:=YW un21 un0 q0 v8 e8 f0;rw[AoO hn1z,hq0];simp only[AoP];refine⟨_,rfl,?_⟩;show(CZ (un21*4294967296+un0-q0*v8) 3).toNat=_;rw[KM,r0,r1,a3,a5,a6];exact XD hi.toNat lo.toNat _ _ (by decide) hlo
theorem Afi(hi lo:UInt64)(h:hi.toNat<2305843009213690799):∃r,FB hi lo 2305843009213690799=some r∧r.2.toNat=(hi.toNat*18446744073709551616+lo.toNat)%2305843009213690799:=Ac9 hi lo _ rfl h
abbrev PN:Nat:=2305843009213690799
theorem Sa(a b:UInt64):∃r,Cz a b 2305843009213690799=some (r,2305843009213690799)∧r.toNat=a.toNat*b.toNat%PN:=by
 have hP:((2305843009213690799:UInt64)).toNat=2305843009213690799:=rfl;unfold Cz;obtain⟨⟨hi,lo⟩,hm,h1,h2⟩:=AcV (a%2305843009213690799) (b%2305843009213690799);rw[AoO (by decide),AoO (by decide),hm,AoP];simp only at h1 h2 ⊢;rw[Ap5,Ap5,hP]at h1 h2;have ha:a.toNat%2305843009213690799<2305843009213690799:=AqH _ (by omega);have hb:b.toNat%2305843009213690799<2305843009213690799:=AqH _ (by omega);have hab:a.toNat%2305843009213690799*(b.toNat%2305843009213690799)<2305843009213690799*2305843009213690799:=Nat.mul_lt_mul'' ha hb
 have hhi:hi.toNat<2305843009213690799:=by
  rw[h1];generalize a.toNat%2305843009213690799*(b.toNat%2305843009213690799)=z at *;omega
 obtain⟨⟨q,r⟩,hd,hr⟩:=Afi hi lo hhi;rw[hd,AoP];refine⟨r,rfl,?_⟩;simp only at hr;rw[hr,h1,h2,Nat.div_add_mod',←Aq4]
theorem Aid(b k P:Nat):(b^k%P)*(b^k%P)%P=b^(2*k)%P:=by rw[←Aq4,←Nat.pow_add,Nat.two_mul]
theorem Acg(b k P:Nat):(b^k%P)*b%P=b^(k+1)%P:=by rw[Ar1,Aqi]
theorem Adg(n e:Nat):n/2^e=2*(n/2^(e+1))+n/2^e%2:=by
 rw[Aqi,←Are];omega
theorem An9(x:UInt64):((x &&& 1)==1)=decide (x.toNat%2=1):=by
 have h:(x &&& 1).toNat=x.toNat%2:=by rw[UInt64.toNat_and];exact Arh x.toNat 1
 rw[ApK,ApQ,Apj,←h];exact⟨fun e=>by rw[e];rfl,fun e=>AkF e⟩
theorem Acn(b n out:UInt64)(len i:Nat)(hl:Ea n=some (len:Int))(h64:len≤64)(hi:i<len)(ho:out.toNat=b.toNat^(n.toNat/2^(len-i))%PN) :∃o,DW b n (len:Int) out (i:Int) 2305843009213690799=some (.inl (o,((i+1:Nat):Int),2305843009213690799))∧o.toNat=b.toNat^(n.toNat/2^(len-(i+1)))%PN:=by
 unfold DW;rw[AoO (by simp;omega)];obtain⟨r,hr,er⟩:=Sa out out;rw[hr,AoP,hl,AoP]
 have e1:w64 (w64 ((len:Int)-1)-(i:Int))=((len-1-i:Nat):Int):=by
  rw[Ef (x:=(len:Int)-1) (by omega),Ef (by omega)];omega
 rw[e1,AoO (by unfold EX;omega)];simp only[CE,Apa,An9,KM];have hk:=Adg n.toNat (len-1-i);rw[show len-1-i+1=len-i by omega]at hk;rw[show len-(i+1)=len-1-i by omega];rw[ho,Aid]at er;by_cases hb:n.toNat/2^(len-1-i)%2=1
 ·rw[AoO (Apo hb)];obtain⟨q,hq,eq⟩:=Sa r b;rw[hq];simp only[AoP];refine⟨q,by rw[Hm (by omega)],?_⟩;rw[eq,er,Acg,hk,hb]
 ·rw[AoQ (by simpa using hb)];simp only[AoP];refine⟨r,by rw[Hm (by omega)],?_⟩;rw[er,hk,show n.toNat/2^(len-1-i)%2=0 by omega,Aqu]
theorem AhM(b n:UInt64)(len:Nat)(hl:Ea n=some (len:Int))(hn:n.toNat<2^len)(h64:len≤64):∃r,F4 b n=some r∧r.toNat=b.toNat^n.toNat%PN:=by
 unfold F4 EM;rw[AoP,hl,AoP]
 obtain⟨x,hx,hq⟩:∃x,AK (fun(v:UInt64×Int×UInt64)=>DW b n (len:Int) v.1 v.2.1 v.2.2) ((1:UInt64),0,(2305843009213690799:UInt64))=some x∧x.toNat=b.toNat^n.toNat%PN:=by
  refine FZ len (fun k v=>∃o:UInt64,v=(o,(k:Int),(2305843009213690799:UInt64))∧o.toNat=b.toNat^(n.toNat/2^(len-k))%PN) _ (by omega) ?_ ?_ ⟨1,rfl,?_⟩
  ·rintro k v hk ⟨o,rfl,ho⟩;obtain⟨o',h1,h2⟩:=Acn b n o len k hl h64 hk ho;exact⟨_,h1,o',rfl,h2⟩
  ·rintro v ⟨o,rfl,ho⟩;refine⟨o,?_,by rw[ho,AqF,Nat.pow_zero,Nat.div_one]⟩;simp only;unfold DW;rw[AoQ (by simp)]
  ·rw[Nat.sub_zero,ArQ hn,Nat.pow_zero];decide
 rw[hx];exact⟨x,rfl,hq⟩
theorem VN(a b:UInt64)(ha:a.toNat<PN):∃r,GZ a b 2305843009213690799=some r∧r.toNat=a.toNat*b.toNat%PN:=by
 have hP:((2305843009213690799:UInt64)).toNat=2305843009213690799:=rfl;unfold GZ
 obtain⟨x,hx,hq⟩:∃x,AK (fun(v:UInt64×UInt64×UInt64)=>Fb 2305843009213690799 v.1 v.2.1 v.2.2) (a,b,(0:UInt64))=some x∧x.toNat=a.toNat*b.toNat%PN:=by
  refine Cr (fun v=>v.1.toNat<PN∧v.2.2.toNat<PN∧(v.2.2.toNat+v.1.toNat*v.2.1.toNat)%PN=a.toNat*b.toNat%PN) (fun v=>v.2.1.toNat) _ ?_ ⟨ha,by show(0:UInt64).toNat<PN;decide,by show(0+_)%_=_;rw[ApG]⟩ (by have:=Agb b;simp only;omega);rintro⟨a1,b1,o1⟩ ⟨h1,h2,h3⟩;simp only at h1 h2 h3;have hPN:PN=2305843009213690799:=rfl;unfold Fb;have hz:(b1>(0:UInt64))↔0<b1.toNat:=by rw[AqP,ApH];rfl
  have hpz:¬(2305843009213690799:UInt64)=0:=by decide
  by_cases hb:0<b1.toNat
  ·left;rw[AoO (Apo (hz.2 hb))]
   have hodd:((b1%(2:UInt64))==(1:UInt64))=decide (b1.toNat%2=1):=by
    rw[ApK,ApQ,Apj];have:(b1%(2:UInt64)).toNat=b1.toNat%2:=Ap5 _ _;rw[←this];exact⟨fun e=>by rw[e];rfl,fun e=>AkF e⟩
   have ho:((o1+a1)%2305843009213690799).toNat=(o1.toNat+a1.toNat)%PN:=by
    rw[Ap5,RB,hP,ApS (a:=o1.toNat+a1.toNat) (by omega)]
   have hd:((a1+a1)%2305843009213690799).toNat=(a1.toNat+a1.toNat)%PN:=by
    rw[Ap5,RB,hP,ApS (a:=a1.toNat+a1.toNat) (by omega)]
   have hh:(b1/2).toNat=b1.toNat/2:=Aq1 _ _;have hlt:∀x:Nat,x%PN<PN:=fun x=>AqH _ (by decide)
   simp only[hodd,CE,AoO hpz];by_cases hp:b1.toNat%2=1
   ·rw[AoO (Apo hp)];refine⟨_,rfl,⟨?_,?_,?_⟩,?_⟩
    ·show((a1+a1)%2305843009213690799).toNat<PN;rw[hd];exact hlt _
    ·show((o1+a1)%2305843009213690799).toNat<PN;rw[ho];exact hlt _
    ·show(((o1+a1)%2305843009213690799).toNat+((a1+a1)%2305843009213690799).toNat*(b1/2).toNat)%PN=_;rw[ho,hd,hh,←h3,Ary,Nat.mod_mod,Ar1,←Ary];congr 1;have e:b1.toNat=2*(b1.toNat/2)+1:=by omega
     generalize b1.toNat/2=c at *;rw[e,Nat.mul_add,AqK,←Arp,Nat.mul_two];omega
    ·show(b1/2).toNat<b1.toNat;rw[hh];omega
   ·rw[AoQ (by simpa using hp)];refine⟨_,rfl,⟨?_,h2,?_⟩,?_⟩
    ·show((a1+a1)%2305843009213690799).toNat<PN;rw[hd];exact hlt _
    ·show(o1.toNat+((a1+a1)%2305843009213690799).toNat*(b1/2).toNat)%PN=_;rw[hd,hh,←h3,Ary,Ar1,←Ary];congr 1;have e:b1.toNat=2*(b1.toNat/2):=by omega
     generalize b1.toNat/2=c at *;rw[e,←Arp,Nat.mul_two]
    ·show(b1/2).toNat<b1.toNat;rw[hh];omega
  ·right;rw[AoQ (by simp only[Apj];exact fun e=>hb (hz.1 e))];refine⟨_,rfl,?_⟩;have:b1.toNat=0:=by omega
   rw[this,Nat.mul_zero,Aqu,ApS h2]at h3;exact h3
 rw[hx];exact⟨x,rfl,hq⟩
theorem Agi(b n:UInt64):∃r,Lc b n=some r∧r.toNat=b.toNat^n.toNat%PN:=by
 have hP:((2305843009213690799:UInt64)).toNat=2305843009213690799:=rfl;have hlt:∀x:Nat,x%PN<PN:=fun x=>AqH _ (by decide)
 unfold Lc;rw[CE]
 obtain⟨x,hx,hq⟩:∃x,AK (fun(v:UInt64×UInt64×UInt64)=>Hb v.1 v.2.1 v.2.2) ((b%2305843009213690799),n,(1:UInt64))=some x∧x.toNat=b.toNat^n.toNat%PN:=by
  refine Cr (fun v=>v.1.toNat<PN∧v.2.2.toNat<PN∧(v.2.2.toNat*v.1.toNat^v.2.1.toNat)%PN=b.toNat^n.toNat%PN) (fun v=>v.2.1.toNat) _ ?_ ⟨?_,by show(1:UInt64).toNat<PN;decide,?_⟩ (by have:=Agb n;simp only;omega)
  ·rintro⟨b1,n1,o1⟩ ⟨h1,h2,h3⟩;simp only at h1 h2 h3;unfold Hb;have hz:(n1>(0:UInt64))↔0<n1.toNat:=by rw[AqP,ApH];rfl
   by_cases hb:0<n1.toNat
   ·left;rw[AoO (Apo (hz.2 hb))]
    have hodd:((n1%(2:UInt64))==(1:UInt64))=decide (n1.toNat%2=1):=by
     rw[ApK,ApQ,Apj];have:(n1%(2:UInt64)).toNat=n1.toNat%2:=Ap5 _ _;rw[←this];exact⟨fun e=>by rw[e];rfl,fun e=>AkF e⟩
    obtain⟨s,hs,es⟩:=VN b1 b1 h1;obtain⟨t,ht,et⟩:=VN o1 b1 h2;have hh:(n1/2).toNat=n1.toNat/2:=Aq1 _ _;simp only[hodd,hs,ht,AoP]
    have hsq:∀k:Nat,(b1.toNat*b1.toNat%PN)^k%PN=b1.toNat^(2*k)%PN:=fun k=>by
     rw[←Nat.pow_mod,←Nat.pow_two,←Nat.pow_mul]
    by_cases hp:n1.toNat%2=1
    ·rw[AoO (Apo hp)];refine⟨_,rfl,⟨?_,?_,?_⟩,?_⟩
     ·show s.toNat<PN;rw[es];exact hlt _
     ·show t.toNat<PN;rw[et];exact hlt _
     ·show(t.toNat*s.toNat^(n1/2).toNat)%PN=_;rw[et,es,hh,←h3,Aq4,Nat.mod_mod,hsq,←Aq4];have e:n1.toNat=2*(n1.toNat/2)+1:=by omega
      generalize n1.toNat/2=c at *;rw[e,Aqi,Arp,Ap9 b1.toNat]
     ·show(n1/2).toNat<n1.toNat;rw[hh];omega
    ·rw[AoQ (by simpa using hp)];refine⟨_,rfl,⟨?_,h2,?_⟩,?_⟩
     ·show s.toNat<PN;rw[es];exact hlt _
     ·show(o1.toNat*s.toNat^(n1/2).toNat)%PN=_;rw[es,hh,←h3,Aq4,hsq,←Aq4];have e:n1.toNat=2*(n1.toNat/2):=by omega
      generalize n1.toNat/2=c at *;rw[e]
     ·show(n1/2).toNat<n1.toNat;rw[hh];omega
   ·right;rw[AoQ (by simp only[Apj];exact fun e=>hb (hz.1 e))];refine⟨_,rfl,?_⟩;have:n1.toNat=0:=by omega
    rw[this,Nat.pow_zero,AqK,ApS h2]at h3;exact h3
  ·show(b%2305843009213690799).toNat<PN;rw[Ap5,hP];exact hlt _
  ·show(1*(b%2305843009213690799).toNat^n.toNat)%PN=_;rw[Apw,Ap5,hP,←Nat.pow_mod]
 rw[hx];exact⟨x,rfl,hq⟩
theorem Ak8:Ea 1152921504606845399=some ((60:Nat):Int):=by decide +kernel
theorem Ac0(x:UInt64):∃b,FC x=some b∧Ij x=some b:=by
 unfold FC Ij;obtain⟨r,hr,er⟩:=AhM x 1152921504606845399 60 Ak8 (by decide) (by omega);obtain⟨s,hs,es⟩:=Agi x 1152921504606845399;have e:r=s:=AkF (er.trans es.symm);subst e;rw[hr,hs];by_cases h1:decide (x≥2)=true
 ·rw[AoO h1];by_cases h2:decide (x<2305843009213690799)=true
  ·rw[AoO h2];exact⟨_,rfl,rfl⟩
  ·rw[AoQ h2];exact⟨_,rfl,rfl⟩
 ·rw[AoQ h1];exact⟨_,rfl,rfl⟩
theorem AjX(n lo hi:Int):AD n lo hi=some (decide (lo≤n)&&decide (n≤hi)):=by
 unfold AD;by_cases h:lo≤n<;>simp[h]
theorem AjT(n lo hi:Int):IK n lo hi=some (decide (lo≤n)&&decide (n≤hi)):=by
 unfold IK;by_cases h:lo≤n<;>simp[h]
theorem TF{α:Type}(q:α→Bool)(l:List α):∀b:Bool,l.foldl (fun b x=>b||q x) b=(b||l.any q):=by
 induction l with
 |nil=>intro b;simp
 |cons x l ih=>intro b;simp[ih,Bool.or_assoc]
theorem Aao{n k:Nat}(h:k<n):nth (List.range n) k=k:=by simp[nth,h]
def WV(l:List Int)(k:Nat):Bool:=decide (0≤nth l k)&&(decide (nth l k≤745654)&&(decide (k=0)||decide (nth l (k-1)<nth l k)))
theorem Ae3(c:Aow)(hl:c.Ze1.length≤1000000):AK (fun(v:Int)=>EY c v) 0=some (if(List.range c.Ze1.length).all (WV c.Ze1)=true then .inl ()else .inr (.inr 1)):=by
 have h:=HD (List.range c.Ze1.length) (EY c) (WV c.Ze1) (.inl ()) (.inr (.inr 1)) (by simp;omega) (fun k hk=>?_) ?_
 ·exact h
 ·rw[Aqw]at hk;rw[Aao hk];unfold EY;rw[AoO (by simp;omega),AoO (DM hk)];simp only[CE,Apa,Hm (k:=k) (by omega)]
  have e:(if(decide (nth c.Ze1 k<0))then some true else if(decide (nth c.Ze1 k>745654))then some true else if(decide ((k:Int)>0))then(if InR ((w64 ((k:Int)-1))) c.Ze1.length then some ((decide (nth c.Ze1 (((w64 ((k:Int)-1))).toNat)≥nth c.Ze1 k)))else none)else some false:Option Bool)=some (!WV c.Ze1 k):=by
   unfold WV;by_cases hz:k=0
   ·subst hz;rw[AoQ (c:=decide (((0:Nat):Int)>0)=true) (by simp)];simp only[YN];congr 1;rw[ApK];simp<;>omega
   ·have hw:w64 ((k:Int)-1)=((k-1:Nat):Int):=by rw[Ef (by omega)];omega
    rw[AoO (c:=decide ((k:Int)>0)=true) (by simp;omega),hw,AoO (DM (by omega))];simp only[YN,Apa];congr 1;rw[ApK];simp[hz]<;>omega
  rw[e,EW];cases WV c.Ze1 k<;>rfl
 ·rw[Aqw];unfold EY;rw[AoQ (by simp)]
theorem Acp(c:Aow)(hl:c.Ze1.length≤1000000):AK (fun(v:Int×Int)=>Cb c v.1 v.2) (-1,0)=some (if(List.range c.Ze1.length).all (WV c.Ze1)=true then .inl ()else .inr (.inr 1)):=by
 obtain⟨x,hx,hq⟩:∃x,AK (fun(v:Int×Int)=>Cb c v.1 v.2) (-1,0)=some x∧x=(if(List.range c.Ze1.length).all (WV c.Ze1)=true then .inl ()else .inr (.inr 1)):=by
  refine Cr (fun v=>∃k:Nat,v.2=(k:Int)∧k≤c.Ze1.length∧(∀j,j<k→WV c.Ze1 j=true)∧v.1=(if k=0 then -1 else nth c.Ze1 (k-1))∧-1≤v.1) (fun v=>((c.Ze1.length:Int)-v.2).toNat) _ ?_ ⟨0,rfl,Apx _,fun j hj=>by omega,rfl,by show(-1:Int)≤-1;omega⟩ (by simp;omega);rintro⟨last,t⟩ ⟨k,rfl,hk,ht,hlast,hge⟩;simp only at hlast hge ⊢;unfold Cb;by_cases h1:k<c.Ze1.length
  ·rw[AoO (by simp;omega),AoO (DM h1)];simp only[CE,Apa,Hm (k:=k) (by omega),YN,EW]
   have e:(decide (nth c.Ze1 k≤last)||decide (nth c.Ze1 k>745654))=!WV c.Ze1 k:=by
    unfold WV;rw[ApK];by_cases hz:k=0
    ·subst hz;simp at hlast;subst hlast;simp<;>omega
    ·rw[AoQ hz]at hlast;simp[hz,←hlast]<;>omega
   rw[e];by_cases hp:WV c.Ze1 k=true
   ·left;rw[AoQ (by simp[hp])];refine⟨_,rfl,⟨k+1,rfl,by omega,fun j hj=>?_,by simp,?_⟩,by simp only;omega⟩
    ·by_cases hjk:j=k
     ·subst hjk;exact hp
     ·exact ht j (by omega)
    ·show -1≤nth c.Ze1 k;unfold WV at hp;simp at hp;omega
   ·right;rw[AoO (by simpa using hp)];refine⟨_,rfl,?_⟩;rw[AoQ];intro ha;rw[AoZ]at ha;exact hp (ha k (Apz.2 h1))
  ·right;have hkl:k=c.Ze1.length:=by omega
   rw[AoQ (by simp;omega)];refine⟨_,rfl,?_⟩;rw[AoO];rw[AoZ];intro j hj;exact ht j (by rw[hkl];exact Apz.1 hj)
 rw[hx,hq]
theorem Ajh(c:Aow)(hl:c.Ze1.length≤1000000):∃e,DK c=some e∧Hl c=some e:=by
 unfold DK Hl;simp only[CE,YN,EW];rw[Acp c hl,Ae3 c hl];generalize(List.range c.Ze1.length).all (WV c.Ze1)=z
 repeat' split
 all_goals first
  |exact⟨_,rfl,rfl⟩
  |(cases z<;>exact⟨_,rfl,rfl⟩)
end Go.Proofs.YtioapcamanmoiaaGreatDoor
